import Derived.Test.YtnnjjblgilibgaaGreatVgC
/- Contracts of the package split: a join. -/
namespace Go.Proofs.YtnnjjblgilibgaaGreatV
open Go Go.RowKit
set_option linter.unusedVariables false
set_option linter.unusedSimpArgs false
set_option maxRecDepth 100000
set_option maxHeartbeats 40000000
theorem fine74 : Fine Tryz.prog 74 := fun _ _ => by kernel_rfl
theorem fine76 : Fine Tryz.prog 76 := fun _ _ => by kernel_rfl
theorem fine73 : Fine Tryz.prog 73 := fun _ _ => by kernel_rfl
theorem fine113 : Fine Tryz.prog 113 := fun _ _ => by kernel_rfl
theorem fine112 : Fine Tryz.prog 112 := fun _ _ => by kernel_rfl
theorem fine147 : Fine Tryz.prog 147 := fun _ _ => by kernel_rfl
theorem narrowS.ok (m a b : Int) (hm : 0 ≤ m ∧ m ≤ 4611686018427387904) : Ok Tryz.prog 74 [cxA a b, .int m] (.bool (decide (win m a b))) := by
  have e1 : IntKind.i64.wrap (0 - m) = -m := by rw [wr (by omega)]; omega
  refine ok_of (X := fun _ => []) (Z := fun _ => false) (res := [ResultVar.tmp 4]) tok follows Tryz.func74 rfl rfl fine74 (by kernel_rfl) (by kernel_rfl) ?_
  simp only [evA, evT, evD, seval, e1, dec_t, dec_f, dec_d, win]
  omega
def tn (inv : Bool) : Int := if inv then 1 else -1
theorem sturns.ok (inv : Bool) : Ok Tryz.prog 76 [.bool inv] (.int (tn inv)) := by
  refine ok_of (X := fun _ => []) (Z := fun _ => false) (res := [ResultVar.tmp 2]) tok follows Tryz.func76 rfl rfl fine76 (by kernel_rfl) (by kernel_rfl) ?_
  cases inv
  · simp only [evA, evT, evD, seval]
    rfl
  · simp only [evA, evT, evD, seval]
    rfl
theorem sRun1.ok (a b B : Int) (hB : 1 ≤ B ∧ B ≤ 31) : Ok Tryz.prog 73 [cxA a b, .box [.int B] 0] (.bool (decide (¬ win (2 ^ (B - 1).toNat) a b))) := by
  have e0 : IntKind.i64.wrap (B - 1) = B - 1 := wr (by omega)
  have e1 : (0 : Int) ≤ B - 1 := by omega
  have hp : 1 ≤ (2 : Int) ^ (B - 1).toNat ∧ (2 : Int) ^ (B - 1).toNat ≤ 1073741824 := by
    have h1 := pow_pos (B - 1).toNat
    have h2 : (2 : Int) ^ (B - 1).toNat ≤ 2 ^ 30 := pow_le (by omega)
    omega
  have hmin : min (B - 1).toNat IntKind.i64.bits = (B - 1).toNat := by
    have : IntKind.i64.bits = 64 := rfl
    omega
  have e2 : IntKind.i64.wrap (1 * 2 ^ min (B - 1).toNat IntKind.i64.bits) = 2 ^ (B - 1).toNat := by
    rw [hmin, Int.one_mul, wr (by omega)]
  refine ok_of (X := fun _ => []) (Z := fun _ => false) (res := [ResultVar.tmp 3]) tok follows Tryz.func73 rfl rfl fine73 (by kernel_rfl) (by kernel_rfl) ?_
  simp only [evA, evT, evD, seval, e0, e1, e2]
  refine call_ok (narrowS.ok _ a b (by omega)) rfl ?_
  simp only [evA, evT, evD, seval, decide_not]
def cmul (a b : Int × Int) : Int × Int := (a.1 * b.1 - a.2 * b.2, a.1 * b.2 + a.2 * b.1)
def jOne (B mode sign : Int) (a b : Int × Int) : Int × Int := (rsh (a.1 * 2 ^ (B + 1).toNat + sign * b.1) (B + 2) mode, rsh (a.2 * 2 ^ (B + 1).toNat + sign * b.2) (B + 2) mode)
abbrev big : Int := 1152921504606846976
theorem shl30 {a B : Int} (hB : 0 ≤ B ∧ B ≤ 29) (ha : -2147483648 ≤ a ∧ a ≤ 2147483648) : IntKind.i64.wrap (a * 2 ^ min (B + 1).toNat IntKind.i64.bits) = a * 2 ^ (B + 1).toNat ∧ -2305843009213693952 ≤ a * 2 ^ (B + 1).toNat ∧ a * 2 ^ (B + 1).toNat ≤ 2305843009213693952 := by
  have h1 := pow_pos (B + 1).toNat
  have h2 : (2 : Int) ^ (B + 1).toNat ≤ 2 ^ 30 := pow_le (by omega)
  have hmin : min (B + 1).toNat IntKind.i64.bits = (B + 1).toNat := by
    have : IntKind.i64.bits = 64 := rfl
    omega
  rw [hmin]
  generalize (2 : Int) ^ (B + 1).toNat = p at *
  have a1 : a * p ≤ 2147483648 * p := Int.mul_le_mul_of_nonneg_right ha.2 (by omega)
  have a2 : -2147483648 * p ≤ a * p := Int.mul_le_mul_of_nonneg_right ha.1 (by omega)
  refine ⟨wr (by omega), by omega⟩
theorem cx_freeS {xs : List (Int × Int)} : rowsFree (cxRows xs) = true := cx_free xs
theorem join1.ok (ws : List (Int × Int)) (B mode t sign : Int) (a b : Int × Int) (hB : 0 ≤ B ∧ B ≤ 29) (hm : 0 ≤ mode ∧ mode ≤ 2) (hs : sign = 1 ∨ sign = -1) (ha : win 2147483648 a.1 a.2) (hb : win 4611686018427387904 b.1 b.2) : Ok Tryz.prog 147 [cxA a.1 a.2, cxA b.1 b.2, .int sign, .box [AV.sl 2 (cxRows ws), .int B, .int mode, .int t] 0] (cxA (jOne B mode sign a b).1 (jOne B mode sign a b).2) := by
  unfold win at ha hb
  have e0 : IntKind.i64.wrap (B + 1) = B + 1 := wr (by omega)
  have e1 : IntKind.i64.wrap (B + 2) = B + 2 := wr (by omega)
  have e2 : (0 : Int) ≤ B + 1 := by omega
  obtain ⟨s1, s2⟩ := shl30 (a := a.1) hB (by omega)
  obtain ⟨s3, s4⟩ := shl30 (a := a.2) hB (by omega)
  have m1 : IntKind.i64.wrap (sign * b.1) = sign * b.1 ∧ -4611686018427387904 ≤ sign * b.1 ∧ sign * b.1 ≤ 4611686018427387904 := by rcases hs with rfl | rfl <;> exact ⟨wr (by omega), by omega⟩
  have m2 : IntKind.i64.wrap (sign * b.2) = sign * b.2 ∧ -4611686018427387904 ≤ sign * b.2 ∧ sign * b.2 ≤ 4611686018427387904 := by rcases hs with rfl | rfl <;> exact ⟨wr (by omega), by omega⟩
  unfold jOne
  have g1 : IntKind.i64.wrap (a.1 * 2 ^ (B + 1).toNat + sign * b.1) = a.1 * 2 ^ (B + 1).toNat + sign * b.1 := wr (by omega)
  have g2 : IntKind.i64.wrap (a.2 * 2 ^ (B + 1).toNat + sign * b.2) = a.2 * 2 ^ (B + 1).toNat + sign * b.2 := wr (by omega)
  refine ok_of (X := fun _ => []) (Z := fun _ => false) (res := [ResultVar.cell 7 43]) tok follows Tryz.func147 rfl rfl fine147 (by kernel_rfl) (by kernel_rfl) ?_
  simp only [evA, evT, evD, seval, e0, e1, e2, s1, s3, m1.1, m2.1, g1, g2, cx_freeS]
  refine call_ok (cxShift.ok _ _ (B + 2) mode (by omega) hm (by unfold in64; omega) (by unfold in64; omega)) rfl ?_
  simp only [evA, evT, evD, seval]
theorem join1n.ok (B mode t sign : Int) (a b : Int × Int) (hB : 0 ≤ B ∧ B ≤ 29) (hm : 0 ≤ mode ∧ mode ≤ 2) (hs : sign = 1 ∨ sign = -1) (ha : win 2147483648 a.1 a.2) (hb : win 4611686018427387904 b.1 b.2) : Ok Tryz.prog 147 [cxA a.1 a.2, cxA b.1 b.2, .int sign, .box [AV.raw (.slice none 0 0), .int B, .int mode, .int t] 0] (cxA (jOne B mode sign a b).1 (jOne B mode sign a b).2) := by
  unfold win at ha hb
  have e0 : IntKind.i64.wrap (B + 1) = B + 1 := wr (by omega)
  have e1 : IntKind.i64.wrap (B + 2) = B + 2 := wr (by omega)
  have e2 : (0 : Int) ≤ B + 1 := by omega
  obtain ⟨s1, s2⟩ := shl30 (a := a.1) hB (by omega)
  obtain ⟨s3, s4⟩ := shl30 (a := a.2) hB (by omega)
  have m1 : IntKind.i64.wrap (sign * b.1) = sign * b.1 ∧ -4611686018427387904 ≤ sign * b.1 ∧ sign * b.1 ≤ 4611686018427387904 := by rcases hs with rfl | rfl <;> exact ⟨wr (by omega), by omega⟩
  have m2 : IntKind.i64.wrap (sign * b.2) = sign * b.2 ∧ -4611686018427387904 ≤ sign * b.2 ∧ sign * b.2 ≤ 4611686018427387904 := by rcases hs with rfl | rfl <;> exact ⟨wr (by omega), by omega⟩
  unfold jOne
  have g1 : IntKind.i64.wrap (a.1 * 2 ^ (B + 1).toNat + sign * b.1) = a.1 * 2 ^ (B + 1).toNat + sign * b.1 := wr (by omega)
  have g2 : IntKind.i64.wrap (a.2 * 2 ^ (B + 1).toNat + sign * b.2) = a.2 * 2 ^ (B + 1).toNat + sign * b.2 := wr (by omega)
  refine ok_of (X := fun _ => []) (Z := fun _ => false) (res := [ResultVar.cell 7 43]) tok follows Tryz.func147 rfl rfl fine147 (by kernel_rfl) (by kernel_rfl) ?_
  simp only [evA, evT, evD, seval, e0, e1, e2, s1, s3, m1.1, m2.1, g1, g2, cx_freeS]
  refine call_ok (cxShift.ok _ _ (B + 2) mode (by omega) hm (by unfold in64; omega) (by unfold in64; omega)) rfl ?_
  simp only [evA, evT, evD, seval]
def jSum (y z w w3 : Int × Int) : Int × Int := ((cmul y w).1 + (cmul z w3).1, (cmul y w).2 + (cmul z w3).2)
def jLess (t : Int) (y z w w3 : Int × Int) : Int × Int := (tRe (cmul y w).1 (cmul y w).2 t - tRe (cmul z w3).1 (cmul z w3).2 t, tIm (cmul y w).1 (cmul y w).2 t - tIm (cmul z w3).1 (cmul z w3).2 t)
def jV (t B mode : Int) (u v y z w w3 : Int × Int) : Nat → Int × Int
  | 0 => jOne B mode 1 u (jSum y z w w3)
  | 1 => jOne B mode 1 v (jLess t y z w w3)
  | 2 => jOne B mode (-1) u (jSum y z w w3)
  | _ => jOne B mode (-1) v (jLess t y z w w3)
theorem tR_bd {m x y t : Int} (h : win m x y) : win m (tRe x y t) (tIm x y t) := by
  unfold win at *
  unfold tRe tIm
  split <;> (try split) <;> (try split) <;> omega
theorem sum_bd {y z w w3 : Int × Int} {B : Int} (hB : 0 ≤ B ∧ B ≤ 29) (hy : win 2147483648 y.1 y.2) (hz : win 2147483648 z.1 z.2) (hw : win (2 ^ B.toNat) w.1 w.2) (hw3 : win (2 ^ B.toNat) w3.1 w3.2) (t : Int) : win 2305843009213693952 (cmul y w).1 (cmul y w).2 ∧ win 2305843009213693952 (cmul z w3).1 (cmul z w3).2 ∧ win 4611686018427387904 (jSum y z w w3).1 (jSum y z w w3).2 ∧ win 4611686018427387904 (jLess t y z w w3).1 (jLess t y z w w3).2 := by
  have hp := pow29 hB
  have h1 : win 2305843009213693952 (cmul y w).1 (cmul y w).2 := times_win hy hw hp
  have h2 : win 2305843009213693952 (cmul z w3).1 (cmul z w3).2 := times_win hz hw3 hp
  have t1 := tR_bd (t := t) h1
  have t2 := tR_bd (t := t) h2
  refine ⟨h1, h2, ?_, ?_⟩
  · unfold win at *
    unfold jSum
    dsimp only
    omega
  · unfold win at *
    unfold jLess
    dsimp only
    omega
theorem join.ok (ws : List (Int × Int)) (B mode t : Int) (u v y z w w3 : Int × Int) (hB : 0 ≤ B ∧ B ≤ 29) (hm : 0 ≤ mode ∧ mode ≤ 2) (hu : win 2147483648 u.1 u.2) (hv : win 2147483648 v.1 v.2) (hy : win 2147483648 y.1 y.2) (hz : win 2147483648 z.1 z.2) (hw : win (2 ^ B.toNat) w.1 w.2) (hw3 : win (2 ^ B.toNat) w3.1 w3.2) :
    Ok Tryz.prog 112 [.agg [AV.sl 2 (cxRows ws), .int B, .int mode, .int t], cxA u.1 u.2, cxA v.1 v.2, cxA y.1 y.2, cxA z.1 z.2, cxA w.1 w.2, cxA w3.1 w3.2] (.agg [.int (jV t B mode u v y z w w3 0).1, .int (jV t B mode u v y z w w3 0).2, .int (jV t B mode u v y z w w3 1).1, .int (jV t B mode u v y z w w3 1).2, .int (jV t B mode u v y z w w3 2).1, .int (jV t B mode u v y z w w3 2).2, .int (jV t B mode u v y z w w3 3).1, .int (jV t B mode u v y z w w3 3).2]) := by
  have hp := pow29 hB
  obtain ⟨b1, b2, b3, b4⟩ := sum_bd hB hy hz hw hw3 t
  have hT1 := Times.ok y.1 y.2 w.1 w.2 hy (win_mono hw (by omega))
  have hT2 := Times.ok z.1 z.2 w3.1 w3.2 hz (win_mono hw3 (by omega))
  have hU1 := Turn.ok (cmul y w).1 (cmul y w).2 t b1
  have hU2 := Turn.ok (cmul z w3).1 (cmul z w3).2 t b2
  have c1 := join1.ok ws B mode t 1 u (jSum y z w w3) hB hm (.inl rfl) hu b3
  have c2 := join1.ok ws B mode t 1 v (jLess t y z w w3) hB hm (.inl rfl) hv b4
  have c3 := join1.ok ws B mode t (-1) u (jSum y z w w3) hB hm (.inr rfl) hu b3
  have c4 := join1.ok ws B mode t (-1) v (jLess t y z w w3) hB hm (.inr rfl) hv b4
  have s1 : IntKind.i64.wrap (y.1 * w.1 - y.2 * w.2 + (z.1 * w3.1 - z.2 * w3.2)) = (jSum y z w w3).1 := wr (by have := b3; unfold win jSum cmul at this; dsimp only at this; omega)
  have s2 : IntKind.i64.wrap (y.1 * w.2 + y.2 * w.1 + (z.1 * w3.2 + z.2 * w3.1)) = (jSum y z w w3).2 := wr (by have := b3; unfold win jSum cmul at this; dsimp only at this; omega)
  have s3 : IntKind.i64.wrap (tRe (cmul y w).1 (cmul y w).2 t - tRe (cmul z w3).1 (cmul z w3).2 t) = (jLess t y z w w3).1 := wr (by have := b4; unfold win jLess at this; dsimp only at this; omega)
  have s4 : IntKind.i64.wrap (tIm (cmul y w).1 (cmul y w).2 t - tIm (cmul z w3).1 (cmul z w3).2 t) = (jLess t y z w w3).2 := wr (by have := b4; unfold win jLess at this; dsimp only at this; omega)
  refine ok_of (X := fun r => if Nat.beq r 5 then [[], [], [], [], [], [], [], [], [], [], [], [], [], [], [], [], [], [], [], [], [], [], [], [], [.tmp 63, .tmp 65, .tmp 68, .tmp 70], [.tmp 52, .tmp 54, .tmp 57, .tmp 59]] else []) (Z := fun _ => false) (res := [ResultVar.cell 14 155]) tok follows Tryz.func112 rfl rfl fine112 (by kernel_rfl) (by kernel_rfl) ?_
  simp only [evA, evT, evD, seval, cx_freeS]
  refine call_ok hT1 rfl ?_
  simp only [evA, evT, evD, seval]
  refine call_ok hT2 rfl ?_
  simp only [evA, evT, evD, seval]
  refine call_ok hU1 rfl ?_
  simp only [evA, evT, evD, seval]
  refine call_ok hU2 rfl ?_
  simp only [evA, evT, evD, seval, s1, s2, s3, s4, cx_freeS]
  refine call_ok c1 rfl ?_
  simp only [evA, evT, evD, seval, s1, s2, s3, s4, cx_freeS]
  refine call_ok c2 rfl ?_
  simp only [evA, evT, evD, seval, s1, s2, s3, s4, cx_freeS]
  refine call_ok c3 rfl ?_
  simp only [evA, evT, evD, seval, s1, s2, s3, s4, cx_freeS]
  refine call_ok c4 rfl ?_
  simp only [evA, evT, evD, seval, cx_freeS]
  rfl
end Go.Proofs.YtnnjjblgilibgaaGreatV

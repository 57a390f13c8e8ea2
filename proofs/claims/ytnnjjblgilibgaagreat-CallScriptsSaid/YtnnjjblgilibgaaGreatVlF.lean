import Derived.Test.YtnnjjblgilibgaaGreatVlE
/- The split transform by the document: contracts. -/
namespace Go.Proofs.YtnnjjblgilibgaaGreatV
open Go Go.RowKit
set_option linter.unusedVariables false
set_option linter.unusedSimpArgs false
set_option maxRecDepth 100000
set_option maxHeartbeats 40000000
theorem fine44 : Fine Tryz.prog 44 := fun _ _ => by kernel_rfl
theorem fine85 : Fine Tryz.prog 85 := fun _ _ => by kernel_rfl
theorem fine86 : Fine Tryz.prog 86 := fun _ _ => by kernel_rfl
theorem fine88 : Fine Tryz.prog 88 := fun _ _ => by kernel_rfl
theorem fine47 : Fine Tryz.prog 47 := fun _ _ => by kernel_rfl
theorem fine48 : Fine Tryz.prog 48 := fun _ _ => by kernel_rfl
theorem RTurnZ.ok (x y n : Int) (h : win 4611686018427387904 x y) (hn : in64 n) : Ok Tryz.prog 130 [cxA x y, .int n] (cxA (tRe x y n) (tIm x y n)) := by
  unfold win at h
  unfold in64 at hn
  have e1 : IntKind.i64.wrap (0 - y) = -y := by rw [wr (by omega)]; omega
  have e2 : IntKind.i64.wrap (0 - x) = -x := by rw [wr (by omega)]; omega
  have tm : n.tmod 4 = if 0 ≤ n ∨ n % 4 = 0 then n % 4 else n % 4 - 4 := by
    rw [Int.tmod_eq_emod]
    split <;> split <;> simp_all <;> omega
  refine ok_of (X := fun _ => []) (Z := fun _ => false) (res := [ResultVar.cell 4 43]) tok follows Tryz.func130 rfl rfl fine130 (by kernel_rfl) (by kernel_rfl) ?_
  simp only [evA, evT, evD, seval, e1, e2]
  have hneg : n.tmod 4 < 0 → IntKind.i64.wrap (n.tmod 4 + 4) = n % 4 := fun h => by
    rw [wr (by rw [tm] at h ⊢; split at h <;> split <;> omega)]
    rw [tm] at h ⊢
    split at h <;> split <;> omega
  have hpos : ¬ n.tmod 4 < 0 → n.tmod 4 = n % 4 := fun h => by
    rw [tm] at h ⊢
    split at h <;> split <;> omega
  have h4 : n % 4 = 0 → AV.agg [.int x, .int y] = cxA (tRe x y n) (tIm x y n) := fun h => by simp [tRe, tIm, h]
  have key : (n % 4 = 1 → AV.agg [.int (-y), .int x] = cxA (tRe x y n) (tIm x y n)) ∧ (¬ n % 4 = 1 → (n % 4 = 2 → AV.agg [.int (-x), .int (-y)] = cxA (tRe x y n) (tIm x y n)) ∧ (¬ n % 4 = 2 → (n % 4 = 3 → AV.agg [.int y, .int (-x)] = cxA (tRe x y n) (tIm x y n)) ∧ (¬ n % 4 = 3 → AV.agg [.int x, .int y] = cxA (tRe x y n) (tIm x y n)))) := by
    refine ⟨fun h => by simp [tRe, tIm, h], fun h1 => ⟨fun h => by simp [tRe, tIm, h], fun h2 => ⟨fun h => by simp [tRe, tIm, h], fun h3 => h4 (by omega)⟩⟩⟩
  refine ⟨fun h => ?_, fun h => ?_⟩
  · rw [hneg h]
    exact key
  · rw [hpos h]
    exact key
theorem LessS.ok (a b c d : Int) : Ok Tryz.prog 85 [cxA a b, cxA c d] (cxA (IntKind.i64.wrap (a - c)) (IntKind.i64.wrap (b - d))) := by
  refine ok_of (X := fun _ => []) (Z := fun _ => false) (res := [ResultVar.cell 4 43]) tok follows Tryz.func85 rfl rfl fine85 (by kernel_rfl) (by kernel_rfl) ?_
  simp only [evA, evT, evD, seval]
theorem ROneS.ok (f : Int) (hf : fmt f) : Ok Tryz.prog 44 [.int f] (.int (fM f)) := by
  have e : (2 : Int) ^ (fB f).toNat = fM f := by rcases hf with rfl | rfl <;> rfl
  have hB := fB_or f
  have hP := Pow.ok (fB f) (by omega)
  rw [e] at hP
  refine ok_of (X := fun _ => []) (Z := fun _ => false) (res := [ResultVar.tmp 2]) tok follows Tryz.func44 rfl rfl fine44 (by kernel_rfl) (by kernel_rfl) ?_
  simp only [evA, evT, evD, seval]
  refine call_ok (RBits2.ok f hf) rfl ?_
  simp only [evA, evT, evD, seval]
  refine call_ok hP rfl ?_
  simp only [evA, evT, evD, seval]
theorem half_eq {f : Int} (hf : fmt f) : IntKind.i64.wrap ((fM f).tdiv 2) = halfM f := by
  rcases hf with rfl | rfl <;> rfl
theorem halfM_bd {f : Int} (hf : fmt f) : 0 ≤ halfM f ∧ halfM f ≤ 4611686018427387904 := by
  rcases hf with rfl | rfl <;> decide
theorem first_x {p : Int × Int → Prop} : ∀ (xs : List (Int × Int)), ¬ (∀ x ∈ xs, p x) → ∃ (m : Nat) (hm : m < xs.length), ¬ p xs[m] ∧ ∀ i (hi : i < xs.length), i < m → p xs[i]
  | [], h => absurd (fun z hz => by cases hz) h
  | z :: r, h => by
    rcases Classical.em (p z) with hz | hz
    · obtain ⟨m, hm, h1, h2⟩ := first_x r (fun g => h (fun y hy => by
        rcases List.mem_cons.1 hy with rfl | hy
        · exact hz
        · exact g y hy))
      refine ⟨m + 1, by simpa using hm, h1, fun i hi him => ?_⟩
      cases i with
      | zero => exact hz
      | succ i => exact h2 i (by simpa using hi) (by omega)
    · exact ⟨0, by simp, hz, fun i _ hi => by omega⟩
theorem REvery.ok (xs : List (Int × Int)) (fr by' n : Nat) (hl : xs.length ≤ 1000000) (hf : fr ≤ 1000000) (hb : by' ≤ 1000000) (hlast : ∀ j, j < n → fr + by' * j < xs.length) (hend : xs.length ≤ fr + by' * n) (hn : fr + by' * n ≤ 2000000) (hn2 : n ≤ 1000000) : Ok Tryz.prog 86 [.sl 2 (cxRows xs), .int fr, .int by'] (.sl 2 (cxRows (evL xs fr by' n))) := by
  refine ok_of (X := fun _ => []) (Z := fun _ => false) (res := [ResultVar.tmp 6]) tok follows Tryz.func86 rfl rfl fine86 (by kernel_rfl) (by kernel_rfl) ?_
  simp only [evA, evB, evT, evD, seval, cx_len, cx_free]
  refine l_inv (fun i => ⟨[(8, .int ((fr + by' * i : Nat) : Int)), (7, .own 0), (0, .sl 2 (cxRows xs)), (2, .int by')], [(0, some (.row 43 2 (cxRows (evL xs fr by' i))))], 1⟩) n ?_ (fun i hi K hK => ?_) (fun K => ?_)
  · refine weak_of (fun l => l) rfl ?_ ?_
    all_goals simp only [evA, evB, evT, evD, seval, cx_free, Nat.mul_zero, Nat.add_zero]
    exact .inl rfl
  · have hx := hlast i hi
    have hmul : by' * (i + 1) = by' * i + by' := by rw [Nat.mul_add, Nat.mul_one]
    have e : fr + by' * (i + 1) = fr + by' * i + by' := by omega
    have hs : evL xs fr by' i ++ [xs.getD (fr + by' * i) (0, 0)] = evL xs fr by' (i + 1) := evL_succ
    rw [e] at hK
    generalize fr + by' * i = p at *
    have q0 : (p : Int) < xs.length := by omega
    have q1 : IntKind.i64.wrap ((p : Int) + (by' : Int)) = ((p + by' : Nat) : Int) := by rw [wr (by omega)]; omega
    have q2 : (0 : Int) ≤ (p : Int) := by omega
    have hti : (evL xs fr by' i).length = i := evL_len
    have hi1 : (i + 1) * 16 ≤ 140737488355328 := by omega
    have hi2 : i + 1 ≤ 9223372036854775807 := by omega
    have hpush : cxRows (evL xs fr by' i) ++ [[.int (xs.getD p (0, 0)).1, .int (xs.getD p (0, 0)).2]] = cxRows (evL xs fr by' (i + 1)) := by
      rw [← hs]
      simp [cxRows]
    simp only [evA, evB, evT, evD, seval, q0, q2, cx_len, Int.toNat_natCast, cx_getD hx, hti, hi1, hi2, hpush, q1]
    refine hK _ (weak_of (fun l => l + 2) rfl ?_ ?_)
    all_goals simp only [evA, evB, evT, evD, seval, cx_free]
  · have q0 : ¬ ((fr + by' * n : Nat) : Int) < xs.length := by omega
    simp only [evA, evB, evT, evD, seval, q0, cx_len, cx_free]
theorem jOne_p (B mode : Int) (a b : Int × Int) : jOne B mode 1 a b = (rsh (a.1 * 2 ^ (B + 1).toNat + b.1) (B + 2) mode, rsh (a.2 * 2 ^ (B + 1).toNat + b.2) (B + 2) mode) := by
  unfold jOne
  rw [Int.one_mul, Int.one_mul]
theorem jOne_m (B mode : Int) (a b : Int × Int) : jOne B mode (-1) a b = (rsh (a.1 * 2 ^ (B + 1).toNat - b.1) (B + 2) mode, rsh (a.2 * 2 ^ (B + 1).toNat - b.2) (B + 2) mode) := by
  unfold jOne
  rw [show a.1 * 2 ^ (B + 1).toNat + -1 * b.1 = a.1 * 2 ^ (B + 1).toNat - b.1 by omega, show a.2 * 2 ^ (B + 1).toNat + -1 * b.2 = a.2 * 2 ^ (B + 1).toNat - b.2 by omega]
theorem turn_less (a b c d t : Int) : tRe (a - c) (b - d) t = tRe a b t - tRe c d t ∧ tIm (a - c) (b - d) t = tIm a b t - tIm c d t := by
  unfold tRe tIm
  constructor
  · split
    · rfl
    · split
      · omega
      · split <;> omega
  · split
    · rfl
    · split
      · omega
      · split <;> omega
theorem RJoin.ok (B mode : Int) (inv : Bool) (q : Int) (u v y z w w3 : Int × Int) (hq : q = 0 ∨ q = 1 ∨ q = 2 ∨ q = 3) (hB : 0 ≤ B ∧ B ≤ 29) (hm : 0 ≤ mode ∧ mode ≤ 2) (hu : win 2147483648 u.1 u.2) (hv : win 2147483648 v.1 v.2) (hy : win 2147483648 y.1 y.2) (hz : win 2147483648 z.1 z.2) (hw : win (2 ^ B.toNat) w.1 w.2) (hw3 : win (2 ^ B.toNat) w3.1 w3.2) :
    Ok Tryz.prog 88 [.agg [.int u.1, .int u.2, .int v.1, .int v.2, .int y.1, .int y.2, .int z.1, .int z.2, .int w.1, .int w.2, .int w3.1, .int w3.2], .int q, .int B, .int mode, .bool inv] (cxA (jV (tn inv) B mode u v y z w w3 q.toNat).1 (jV (tn inv) B mode u v y z w w3 q.toNat).2) := by
  have hp := pow29 hB
  obtain ⟨b1, b2, b3, b4⟩ := sum_bd hB hy hz hw hw3 (tn inv)
  have hT1 := RTimes.ok y.1 y.2 w.1 w.2 hy (win_mono hw (by omega))
  have hT2 := RTimes.ok z.1 z.2 w3.1 w3.2 hz (win_mono hw3 (by omega))
  have b1' := b1
  have b2' := b2
  have b3' := b3
  have b4' := b4
  unfold win at b1' b2' b3' b4' hu hv
  unfold cmul at b1' b2'
  dsimp only at b1' b2'
  have s1 : IntKind.i64.wrap (y.1 * w.1 - y.2 * w.2 + (z.1 * w3.1 - z.2 * w3.2)) = (jSum y z w w3).1 := wr (by unfold jSum cmul at b3'; dsimp only at b3'; omega)
  have s2 : IntKind.i64.wrap (y.1 * w.2 + y.2 * w.1 + (z.1 * w3.2 + z.2 * w3.1)) = (jSum y z w w3).2 := wr (by unfold jSum cmul at b3'; dsimp only at b3'; omega)
  have s3 : IntKind.i64.wrap (y.1 * w.1 - y.2 * w.2 - (z.1 * w3.1 - z.2 * w3.2)) = y.1 * w.1 - y.2 * w.2 - (z.1 * w3.1 - z.2 * w3.2) := wr (by omega)
  have s4 : IntKind.i64.wrap (y.1 * w.2 + y.2 * w.1 - (z.1 * w3.2 + z.2 * w3.1)) = y.1 * w.2 + y.2 * w.1 - (z.1 * w3.2 + z.2 * w3.1) := wr (by omega)
  have hU : Ok Tryz.prog 130 [cxA (y.1 * w.1 - y.2 * w.2 - (z.1 * w3.1 - z.2 * w3.2)) (y.1 * w.2 + y.2 * w.1 - (z.1 * w3.2 + z.2 * w3.1)), .int (tn inv)] (cxA (jLess (tn inv) y z w w3).1 (jLess (tn inv) y z w w3).2) := by
    have h := RTurnZ.ok (y.1 * w.1 - y.2 * w.2 - (z.1 * w3.1 - z.2 * w3.2)) (y.1 * w.2 + y.2 * w.1 - (z.1 * w3.2 + z.2 * w3.1)) (tn inv) (by unfold win; omega) (by unfold tn in64; split <;> omega)
    rw [(turn_less _ _ _ _ _).1, (turn_less _ _ _ _ _).2] at h
    exact h
  have e0 : IntKind.i64.wrap (B + 1) = B + 1 := wr (by omega)
  have e1 : IntKind.i64.wrap (B + 2) = B + 2 := wr (by omega)
  have hm30 : min (B + 1).toNat IntKind.i64.bits = (B + 1).toNat := by
    have : IntKind.i64.bits = 64 := rfl
    omega
  obtain ⟨g1, g1'⟩ := shl30 (a := u.1) hB (by omega)
  obtain ⟨g2, g2'⟩ := shl30 (a := u.2) hB (by omega)
  obtain ⟨g3, g3'⟩ := shl30 (a := v.1) hB (by omega)
  obtain ⟨g4, g4'⟩ := shl30 (a := v.2) hB (by omega)
  rw [hm30] at g1 g2 g3 g4
  have hSc1 := Scale.ok u.1 u.2 (B + 1) (by omega)
  have hSc2 := Scale.ok v.1 v.2 (B + 1) (by omega)
  rw [g1, g2] at hSc1
  rw [g3, g4] at hSc2
  have k1 : IntKind.i64.wrap (u.1 * 2 ^ (B + 1).toNat + (jSum y z w w3).1) = u.1 * 2 ^ (B + 1).toNat + (jSum y z w w3).1 := wr (by omega)
  have k2 : IntKind.i64.wrap (u.2 * 2 ^ (B + 1).toNat + (jSum y z w w3).2) = u.2 * 2 ^ (B + 1).toNat + (jSum y z w w3).2 := wr (by omega)
  have k3 : IntKind.i64.wrap (u.1 * 2 ^ (B + 1).toNat - (jSum y z w w3).1) = u.1 * 2 ^ (B + 1).toNat - (jSum y z w w3).1 := wr (by omega)
  have k4 : IntKind.i64.wrap (u.2 * 2 ^ (B + 1).toNat - (jSum y z w w3).2) = u.2 * 2 ^ (B + 1).toNat - (jSum y z w w3).2 := wr (by omega)
  have k5 : IntKind.i64.wrap (v.1 * 2 ^ (B + 1).toNat + (jLess (tn inv) y z w w3).1) = v.1 * 2 ^ (B + 1).toNat + (jLess (tn inv) y z w w3).1 := wr (by omega)
  have k6 : IntKind.i64.wrap (v.2 * 2 ^ (B + 1).toNat + (jLess (tn inv) y z w w3).2) = v.2 * 2 ^ (B + 1).toNat + (jLess (tn inv) y z w w3).2 := wr (by omega)
  have k7 : IntKind.i64.wrap (v.1 * 2 ^ (B + 1).toNat - (jLess (tn inv) y z w w3).1) = v.1 * 2 ^ (B + 1).toNat - (jLess (tn inv) y z w w3).1 := wr (by omega)
  have k8 : IntKind.i64.wrap (v.2 * 2 ^ (B + 1).toNat - (jLess (tn inv) y z w w3).2) = v.2 * 2 ^ (B + 1).toNat - (jLess (tn inv) y z w w3).2 := wr (by omega)
  have tm0 : Int.tmod 0 2 = 0 := rfl
  have tm1 : Int.tmod 1 2 = 1 := rfl
  have tm2 : Int.tmod 2 2 = 0 := rfl
  have tm3 : Int.tmod 3 2 = 1 := rfl
  have n0 : ¬ (0 : Int) = 1 := by decide
  rcases hq with rfl | rfl | rfl | rfl
  · rw [show jV (tn inv) B mode u v y z w w3 (0 : Int).toNat = (rsh (u.1 * 2 ^ (B + 1).toNat + (jSum y z w w3).1) (B + 2) mode, rsh (u.2 * 2 ^ (B + 1).toNat + (jSum y z w w3).2) (B + 2) mode) from jOne_p B mode u _]
    refine ok_of (X := fun _ => []) (Z := fun _ => false) (res := [ResultVar.cell 10 43]) tok follows Tryz.func88 rfl rfl fine88 (by kernel_rfl) (by kernel_rfl) ?_
    simp only [evA, evT, evD, seval]
    refine call_ok hT1 rfl ?_
    simp only [evA, evT, evD, seval]
    refine call_ok hT2 rfl ?_
    simp only [evA, evT, evD, seval]
    refine call_ok (Sum.ok _ _ _ _) rfl ?_
    simp only [evA, evT, evD, seval, s1, s2]
    refine call_ok (LessS.ok _ _ _ _) rfl ?_
    cases inv
    · simp only [evA, evT, evD, seval, s3, s4, e0]
      refine call_ok hU rfl ?_
      simp only [evA, evT, evD, seval, e0]
      refine call_ok hSc1 rfl ?_
      simp only [evA, evT, evD, seval, tm0, e0]
      refine call_ok (Sum.ok _ _ _ _) rfl ?_
      simp only [evA, evT, evD, seval, k1, k2, e1]
      refine call_ok (RShift.ok _ _ (B + 2) mode (by unfold in64; omega) (by unfold in64; omega) (by omega) hm) rfl ?_
      simp only [evA, evT, evD, seval]
    · simp only [evA, evT, evD, seval, s3, s4, e0]
      refine call_ok hU rfl ?_
      simp only [evA, evT, evD, seval, e0]
      refine call_ok hSc1 rfl ?_
      simp only [evA, evT, evD, seval, tm0, e0]
      refine call_ok (Sum.ok _ _ _ _) rfl ?_
      simp only [evA, evT, evD, seval, k1, k2, e1]
      refine call_ok (RShift.ok _ _ (B + 2) mode (by unfold in64; omega) (by unfold in64; omega) (by omega) hm) rfl ?_
      simp only [evA, evT, evD, seval]
  · rw [show jV (tn inv) B mode u v y z w w3 (1 : Int).toNat = (rsh (v.1 * 2 ^ (B + 1).toNat + (jLess (tn inv) y z w w3).1) (B + 2) mode, rsh (v.2 * 2 ^ (B + 1).toNat + (jLess (tn inv) y z w w3).2) (B + 2) mode) from jOne_p B mode v _]
    refine ok_of (X := fun _ => []) (Z := fun _ => false) (res := [ResultVar.cell 10 43]) tok follows Tryz.func88 rfl rfl fine88 (by kernel_rfl) (by kernel_rfl) ?_
    simp only [evA, evT, evD, seval]
    refine call_ok hT1 rfl ?_
    simp only [evA, evT, evD, seval]
    refine call_ok hT2 rfl ?_
    simp only [evA, evT, evD, seval]
    refine call_ok (Sum.ok _ _ _ _) rfl ?_
    simp only [evA, evT, evD, seval, s1, s2]
    refine call_ok (LessS.ok _ _ _ _) rfl ?_
    cases inv
    · simp only [evA, evT, evD, seval, s3, s4, e0]
      refine call_ok hU rfl ?_
      simp only [evA, evT, evD, seval, e0]
      refine call_ok hSc1 rfl ?_
      simp only [evA, evT, evD, seval, tm1, e0]
      refine call_ok hSc2 rfl ?_
      simp only [evA, evT, evD, seval, e0]
      refine call_ok (Sum.ok _ _ _ _) rfl ?_
      simp only [evA, evT, evD, seval, k5, k6, e1]
      refine call_ok (RShift.ok _ _ (B + 2) mode (by unfold in64; omega) (by unfold in64; omega) (by omega) hm) rfl ?_
      simp only [evA, evT, evD, seval]
    · simp only [evA, evT, evD, seval, s3, s4, e0]
      refine call_ok hU rfl ?_
      simp only [evA, evT, evD, seval, e0]
      refine call_ok hSc1 rfl ?_
      simp only [evA, evT, evD, seval, tm1, e0]
      refine call_ok hSc2 rfl ?_
      simp only [evA, evT, evD, seval, e0]
      refine call_ok (Sum.ok _ _ _ _) rfl ?_
      simp only [evA, evT, evD, seval, k5, k6, e1]
      refine call_ok (RShift.ok _ _ (B + 2) mode (by unfold in64; omega) (by unfold in64; omega) (by omega) hm) rfl ?_
      simp only [evA, evT, evD, seval]
  · rw [show jV (tn inv) B mode u v y z w w3 (2 : Int).toNat = (rsh (u.1 * 2 ^ (B + 1).toNat - (jSum y z w w3).1) (B + 2) mode, rsh (u.2 * 2 ^ (B + 1).toNat - (jSum y z w w3).2) (B + 2) mode) from jOne_m B mode u _]
    refine ok_of (X := fun _ => []) (Z := fun _ => false) (res := [ResultVar.cell 10 43]) tok follows Tryz.func88 rfl rfl fine88 (by kernel_rfl) (by kernel_rfl) ?_
    simp only [evA, evT, evD, seval]
    refine call_ok hT1 rfl ?_
    simp only [evA, evT, evD, seval]
    refine call_ok hT2 rfl ?_
    simp only [evA, evT, evD, seval]
    refine call_ok (Sum.ok _ _ _ _) rfl ?_
    simp only [evA, evT, evD, seval, s1, s2]
    refine call_ok (LessS.ok _ _ _ _) rfl ?_
    cases inv
    · simp only [evA, evT, evD, seval, s3, s4, e0]
      refine call_ok hU rfl ?_
      simp only [evA, evT, evD, seval, e0]
      refine call_ok hSc1 rfl ?_
      simp only [evA, evT, evD, seval, tm2, e0]
      refine call_ok (LessS.ok _ _ _ _) rfl ?_
      simp only [evA, evT, evD, seval, k3, k4, e1]
      refine call_ok (RShift.ok _ _ (B + 2) mode (by unfold in64; omega) (by unfold in64; omega) (by omega) hm) rfl ?_
      simp only [evA, evT, evD, seval]
    · simp only [evA, evT, evD, seval, s3, s4, e0]
      refine call_ok hU rfl ?_
      simp only [evA, evT, evD, seval, e0]
      refine call_ok hSc1 rfl ?_
      simp only [evA, evT, evD, seval, tm2, e0]
      refine call_ok (LessS.ok _ _ _ _) rfl ?_
      simp only [evA, evT, evD, seval, k3, k4, e1]
      refine call_ok (RShift.ok _ _ (B + 2) mode (by unfold in64; omega) (by unfold in64; omega) (by omega) hm) rfl ?_
      simp only [evA, evT, evD, seval]
  · rw [show jV (tn inv) B mode u v y z w w3 (3 : Int).toNat = (rsh (v.1 * 2 ^ (B + 1).toNat - (jLess (tn inv) y z w w3).1) (B + 2) mode, rsh (v.2 * 2 ^ (B + 1).toNat - (jLess (tn inv) y z w w3).2) (B + 2) mode) from jOne_m B mode v _]
    refine ok_of (X := fun _ => []) (Z := fun _ => false) (res := [ResultVar.cell 10 43]) tok follows Tryz.func88 rfl rfl fine88 (by kernel_rfl) (by kernel_rfl) ?_
    simp only [evA, evT, evD, seval]
    refine call_ok hT1 rfl ?_
    simp only [evA, evT, evD, seval]
    refine call_ok hT2 rfl ?_
    simp only [evA, evT, evD, seval]
    refine call_ok (Sum.ok _ _ _ _) rfl ?_
    simp only [evA, evT, evD, seval, s1, s2]
    refine call_ok (LessS.ok _ _ _ _) rfl ?_
    cases inv
    · simp only [evA, evT, evD, seval, s3, s4, e0]
      refine call_ok hU rfl ?_
      simp only [evA, evT, evD, seval, e0]
      refine call_ok hSc1 rfl ?_
      simp only [evA, evT, evD, seval, tm3, e0]
      refine call_ok hSc2 rfl ?_
      simp only [evA, evT, evD, seval, e0]
      refine call_ok (LessS.ok _ _ _ _) rfl ?_
      simp only [evA, evT, evD, seval, k7, k8, e1]
      refine call_ok (RShift.ok _ _ (B + 2) mode (by unfold in64; omega) (by unfold in64; omega) (by omega) hm) rfl ?_
      simp only [evA, evT, evD, seval]
    · simp only [evA, evT, evD, seval, s3, s4, e0]
      refine call_ok hU rfl ?_
      simp only [evA, evT, evD, seval, e0]
      refine call_ok hSc1 rfl ?_
      simp only [evA, evT, evD, seval, tm3, e0]
      refine call_ok hSc2 rfl ?_
      simp only [evA, evT, evD, seval, e0]
      refine call_ok (LessS.ok _ _ _ _) rfl ?_
      simp only [evA, evT, evD, seval, k7, k8, e1]
      refine call_ok (RShift.ok _ _ (B + 2) mode (by unfold in64; omega) (by unfold in64; omega) (by omega) hm) rfl ?_
      simp only [evA, evT, evD, seval]
theorem RTwid.ok (log : Nat) (f : Int) (hl : 2 ≤ log ∧ log ≤ 6) (hf : fmt f) : Ok Tryz.prog 48 [.int log, .int f] (.sl 2 (cxRows (tabV log (fB f - 2)))) := by
  have hB := fB_or f
  refine ok_of (X := fun _ => []) (Z := fun _ => false) (res := [ResultVar.tmp 4]) tok follows Tryz.func48 rfl rfl fine48 (by kernel_rfl) (by kernel_rfl) ?_
  simp only [evA, evT, evD, seval]
  refine call_ok (RBits7.ok f hf) rfl ?_
  simp only [evA, evT, evD, seval]
  refine call_ok (RTable.ok log (fB f - 2) hl (by omega)) (by simp only [evA, evT, evD, seval, cx_free]) ?_
  simp only [evA, evT, evD, seval, cx_free]
theorem rrun.ok (log : Nat) (inv : Bool) (B mode R0 : Int) (hB : 0 ≤ B ∧ B ≤ 29) (hm : 0 ≤ mode ∧ mode ≤ 2) (hlog : 2 ≤ log ∧ log ≤ 6) (hR0 : 0 ≤ R0) (hR : R0 + 48 ≤ 4 * 2 ^ B.toNat) : ∀ (j : Nat), j ≤ log → ∀ (xs : List (Int × Int)), xs.length = 2 ^ j → (∀ x ∈ xs, nrm x ≤ R0 * R0) →
    Ok Tryz.prog 47 [.sl 2 (cxRows xs), .sl 2 (cxRows (tabV log B)), .int B, .int mode, .bool inv] (.sl 2 (cxRows (runL (tabV log B) inv B mode j xs)))
  | 0, hj, xs, hlen, hx => by
    have e1 : (xs.length : Int) = 1 := by rw [hlen]; rfl
    refine ok_of (X := fun _ => []) (Z := fun _ => false) (res := [ResultVar.tmp 10]) tok follows Tryz.func47 rfl rfl fine47 (by kernel_rfl) (by kernel_rfl) ?_
    simp only [evA, evT, evD, seval, cx_free, cx_len, e1]
    rfl
  | 1, hj, xs, hlen, hx => by
    have hlen : xs.length = 2 := hlen
    have hp := pow29 hB
    have e1 : (xs.length : Int) = 2 := by rw [hlen]; rfl
    have g0 := cx_getD (xs := xs) (i := 0) (by omega)
    have g1 := cx_getD (xs := xs) (i := 1) (by omega)
    have n0 := nrm_comp (getD_nrm hx hR0 0) hR0
    have n1 := nrm_comp (getD_nrm hx hR0 1) hR0
    unfold win at n0 n1
    have w1 : IntKind.i64.wrap ((xs.getD 0 (0, 0)).1 + (xs.getD 1 (0, 0)).1) = (xs.getD 0 (0, 0)).1 + (xs.getD 1 (0, 0)).1 := wr (by omega)
    have w2 : IntKind.i64.wrap ((xs.getD 0 (0, 0)).2 + (xs.getD 1 (0, 0)).2) = (xs.getD 0 (0, 0)).2 + (xs.getD 1 (0, 0)).2 := wr (by omega)
    have w3 : IntKind.i64.wrap ((xs.getD 0 (0, 0)).1 - (xs.getD 1 (0, 0)).1) = (xs.getD 0 (0, 0)).1 - (xs.getD 1 (0, 0)).1 := wr (by omega)
    have w4 : IntKind.i64.wrap ((xs.getD 0 (0, 0)).2 - (xs.getD 1 (0, 0)).2) = (xs.getD 0 (0, 0)).2 - (xs.getD 1 (0, 0)).2 := wr (by omega)
    rw [runL, bf_m, bf_p]
    refine ok_of (X := fun _ => []) (Z := fun _ => false) (res := [ResultVar.tmp 10]) tok follows Tryz.func47 rfl rfl fine47 (by kernel_rfl) (by kernel_rfl) ?_
    simp only [evA, evT, evD, seval, cx_free, cx_len, e1, g0, g1, Int.toNat_one]
    refine call_ok (Sum.ok _ _ _ _) rfl ?_
    simp only [evA, evT, evD, seval, cx_free, cx_len, e1, g0, g1, w1, w2, Int.toNat_one]
    refine call_ok (RShift.ok _ _ 1 mode (by unfold in64; omega) (by unfold in64; omega) (by decide) hm) rfl ?_
    simp only [evA, evT, evD, seval, cx_free, cx_len, e1, g0, g1, Int.toNat_one]
    refine call_ok (LessS.ok _ _ _ _) rfl ?_
    simp only [evA, evT, evD, seval, cx_free, cx_len, e1, g0, g1, w3, w4, Int.toNat_one]
    refine call_ok (RShift.ok _ _ 1 mode (by unfold in64; omega) (by unfold in64; omega) (by decide) hm) rfl ?_
    simp only [evA, evT, evD, seval]
    rfl
  | j + 2, hj, xs, hlen, hx => by
    have hps := pow_s (j := j) (log := log) (by omega) hlog.2
    have hpl := pow_s (j := log) (log := log) (Nat.le_refl _) hlog.2
    have hp29 := pow29 hB
    obtain ⟨h, hh⟩ : ∃ h, 2 ^ j = h := ⟨_, rfl⟩
    have hj1 : (2 : Nat) ^ (j + 1) = 2 * h := by rw [Nat.pow_succ, hh]; omega
    have hj2 : (2 : Nat) ^ (j + 2) = 4 * h := by rw [Nat.pow_succ, hj1]; omega
    rw [hh] at hps
    rw [hj2] at hlen
    have hE := rrun.ok log inv B mode R0 hB hm hlog hR0 hR (j + 1) (by omega) (evL xs 0 2 (2 ^ (j + 1))) evL_len (evL_nrm hx hR0 _ _ _)
    have hF := rrun.ok log inv B mode R0 hB hm hlog hR0 hR j (by omega) (evL xs 1 4 (2 ^ j)) evL_len (evL_nrm hx hR0 _ _ _)
    have hG := rrun.ok log inv B mode R0 hB hm hlog hR0 hR j (by omega) (evL xs 3 4 (2 ^ j)) evL_len (evL_nrm hx hR0 _ _ _)
    have lE := runL_len (tabV log B) inv B mode (j + 1) (evL xs 0 2 (2 ^ (j + 1))) evL_len
    have lF := runL_len (tabV log B) inv B mode j (evL xs 1 4 (2 ^ j)) evL_len
    have lG := runL_len (tabV log B) inv B mode j (evL xs 3 4 (2 ^ j)) evL_len
    have nE := runL_nrm log inv B mode R0 hB hlog.2 hR0 (j + 1) (evL xs 0 2 (2 ^ (j + 1))) (by omega) (evL_nrm hx hR0 _ _ _)
    have nF := runL_nrm log inv B mode R0 hB hlog.2 hR0 j (evL xs 1 4 (2 ^ j)) (by omega) (evL_nrm hx hR0 _ _ _)
    have nG := runL_nrm log inv B mode R0 hB hlog.2 hR0 j (evL xs 3 4 (2 ^ j)) (by omega) (evL_nrm hx hR0 _ _ _)
    have hrun : runL (tabV log B) inv B mode (j + 2) xs = (List.range (4 * h)).map fun p => spV (tabV log B) inv B mode j (runL (tabV log B) inv B mode (j + 1) (evL xs 0 2 (2 ^ (j + 1)))) (runL (tabV log B) inv B mode j (evL xs 1 4 (2 ^ j))) (runL (tabV log B) inv B mode j (evL xs 3 4 (2 ^ j))) (p % h) (p / h) := by
      rw [runL, hj2, hh]
    rw [hrun]
    have hV : ∀ k q, spV (tabV log B) inv B mode j (runL (tabV log B) inv B mode (j + 1) (evL xs 0 2 (2 ^ (j + 1)))) (runL (tabV log B) inv B mode j (evL xs 1 4 (2 ^ j))) (runL (tabV log B) inv B mode j (evL xs 3 4 (2 ^ j))) k q = jV (tn inv) B mode ((runL (tabV log B) inv B mode (j + 1) (evL xs 0 2 (2 ^ (j + 1)))).getD k (0, 0)) ((runL (tabV log B) inv B mode (j + 1) (evL xs 0 2 (2 ^ (j + 1)))).getD (h + k) (0, 0)) ((runL (tabV log B) inv B mode j (evL xs 1 4 (2 ^ j))).getD k (0, 0)) ((runL (tabV log B) inv B mode j (evL xs 3 4 (2 ^ j))).getD k (0, 0)) (rootV (tabV log B) inv (k * ((tabV log B).length / (4 * h)))) (rootV (tabV log B) inv (3 * k * ((tabV log B).length / (4 * h)))) q := fun k q => by
      unfold spV
      rw [hj2, hh]
    generalize spV (tabV log B) inv B mode j (runL (tabV log B) inv B mode (j + 1) (evL xs 0 2 (2 ^ (j + 1)))) (runL (tabV log B) inv B mode j (evL xs 1 4 (2 ^ j))) (runL (tabV log B) inv B mode j (evL xs 3 4 (2 ^ j))) = V at *
    generalize runL (tabV log B) inv B mode (j + 1) (evL xs 0 2 (2 ^ (j + 1))) = E at *
    generalize runL (tabV log B) inv B mode j (evL xs 1 4 (2 ^ j)) = F at *
    generalize runL (tabV log B) inv B mode j (evL xs 3 4 (2 ^ j)) = G at *
    have lW : (tabV log B).length = 2 ^ log := tabS_len
    have z0 : ¬ (xs.length : Int) = 1 := by omega
    have z1 : ¬ (xs.length : Int) = 2 := by omega
    have z2 : (0 : Int) ≤ xs.length := by omega
    have z3 : 16 * (xs.length : Int) ≤ 281474976710656 := by omega
    have z4 : (xs.length : Int) ≤ 9223372036854775807 := by omega
    have z5 : ¬ (xs.length : Int) = 0 := by omega
    obtain ⟨bb, hbb⟩ : ∃ bb, (tabV log B).length / (4 * h) = bb := ⟨_, rfl⟩
    rw [hbb] at hV
    have hbn : 4 * h * bb ≤ 2 ^ log := by rw [← hbb, lW]; exact Nat.mul_div_le _ _
    have hb64 : bb ≤ 64 := by
      have : bb ≤ 2 ^ log := by rw [← hbb, lW]; exact Nat.div_le_self _ _
      omega
    have b1 : IntKind.i64.wrap ((xs.length : Int).tdiv 4) = (h : Int) := by
      rw [Int.tdiv_eq_ediv_of_nonneg (by omega), wr (by omega)]
      omega
    have b2 : IntKind.i64.wrap (((tabV log B).length : Int).tdiv (xs.length : Int)) = (bb : Int) := by
      rw [Int.tdiv_eq_ediv_of_nonneg (by omega), hlen, ← hbb, wr (by rw [← Int.natCast_ediv]; have := Nat.div_le_self (tabV log B).length (4 * h); omega), Int.natCast_ediv]
    have hW0 : ∀ k, win (2 ^ B.toNat) ((tabV log B).getD k (0, 0)).1 ((tabV log B).getD k (0, 0)).2 := fun k => by
      rcases Nat.lt_or_ge k (2 ^ log) with hk | hk
      · rw [tabS_get hk]
        exact rW_le log k B hlog.2 (by omega)
      · rw [List.getD_eq_getElem?_getD, List.getElem?_eq_none (by rw [tabS_len]; exact hk)]
        show win _ 0 0
        unfold win
        omega
    have hWn : ∀ k, win (2 ^ B.toNat) (rootV (tabV log B) inv k).1 (rootV (tabV log B) inv k).2 := fun k => by
      have := hW0 k
      unfold rootV
      generalize (tabV log B).getD k (0, 0) = x at *
      unfold win at *
      cases inv
      · exact this
      · simp only [if_true]
        omega
    have hWb : ∀ k, win 2305843009213693952 ((tabV log B).getD k (0, 0)).1 ((tabV log B).getD k (0, 0)).2 := fun k => by
      have := hW0 k
      generalize (tabV log B).getD k (0, 0) = x at *
      unfold win at *
      omega
    have hwinE : ∀ k, win 2147483648 (E.getD k (0, 0)).1 (E.getD k (0, 0)).2 := fun k => by
      have := nrm_comp (getD_nrm nE (by omega) k) (by omega)
      unfold win at *
      omega
    have hwinF : ∀ k, win 2147483648 (F.getD k (0, 0)).1 (F.getD k (0, 0)).2 := fun k => by
      have := nrm_comp (getD_nrm nF (by omega) k) (by omega)
      unfold win at *
      omega
    have hwinG : ∀ k, win 2147483648 (G.getD k (0, 0)).1 (G.getD k (0, 0)).2 := fun k => by
      have := nrm_comp (getD_nrm nG (by omega) k) (by omega)
      unfold win at *
      omega
    obtain ⟨AP, hAP⟩ : ∃ AP : Nat → List (Int × Int), AP = fun i => (List.range i).map fun p => V (p % h) (p / h) := ⟨_, rfl⟩
    rw [show (List.range (4 * h)).map (fun p => V (p % h) (p / h)) = AP (4 * h) by rw [hAP]]
    have lenI : (xs.length : Int) = ((4 * h : Nat) : Int) := by omega
    have rE := REvery.ok xs 0 2 (2 ^ (j + 1)) (by omega) (by omega) (by omega) (fun i hi => by omega) (by omega) (by omega) (by omega)
    have rF := REvery.ok xs 1 4 (2 ^ j) (by omega) (by omega) (by omega) (fun i hi => by omega) (by omega) (by omega) (by omega)
    have rG := REvery.ok xs 3 4 (2 ^ j) (by omega) (by omega) (by omega) (fun i hi => by omega) (by omega) (by omega) (by omega)
    refine ok_of (X := fun _ => []) (Z := fun _ => false) (res := [ResultVar.tmp 10]) tok follows Tryz.func47 rfl rfl fine47 (by kernel_rfl) (by kernel_rfl) ?_
    simp only [evA, evB, evT, evD, seval, cx_free, cx_len, z0, z1]
    refine call_ok rE (by simp only [evA, evT, evD, seval, cx_free]) ?_
    simp only [evA, evB, evT, evD, seval, cx_free, cx_len]
    refine call_ok hE (by simp only [evA, evT, evD, seval, cx_free]) ?_
    simp only [evA, evB, evT, evD, seval, cx_free, cx_len]
    refine call_ok rF (by simp only [evA, evT, evD, seval, cx_free]) ?_
    simp only [evA, evB, evT, evD, seval, cx_free, cx_len]
    refine call_ok hF (by simp only [evA, evT, evD, seval, cx_free]) ?_
    simp only [evA, evB, evT, evD, seval, cx_free, cx_len]
    refine call_ok rG (by simp only [evA, evT, evD, seval, cx_free]) ?_
    simp only [evA, evB, evT, evD, seval, cx_free, cx_len]
    refine call_ok hG (by simp only [evA, evT, evD, seval, cx_free]) ?_
    simp only [evA, evB, evT, evD, seval, cx_free, cx_len, z5, b2]
    have hhz : ¬ (h : Int) = 0 := by omega
    refine l_inv (fun i => ⟨[(19, .int i), (18, .own 0), (17, .int bb), (16, .sl 2 (cxRows G)), (15, .sl 2 (cxRows F)), (14, .sl 2 (cxRows E)), (11, .int xs.length), (1, .sl 2 (cxRows (tabV log B))), (2, .int B), (3, .int mode), (4, .bool inv)], [(0, some (.row 43 2 (cxRows (AP i))))], 1⟩) (4 * h) ?_ (fun i hi K hK => ?_) (fun K => ?_)
    · refine weak_of (fun l => l) rfl ?_ ?_
      all_goals simp only [evA, evB, evT, evD, seval, cx_free, Int.natCast_zero]
      exact .inl (by rw [hAP]; rfl)
    · obtain ⟨k, hk⟩ : ∃ k, i % h = k := ⟨_, rfl⟩
      obtain ⟨q, hq⟩ : ∃ q, i / h = q := ⟨_, rfl⟩
      have hkh : k < h := by rw [← hk]; exact Nat.mod_lt _ (by omega)
      have hq4 : q < 4 := by rw [← hq]; exact Nat.div_lt_of_lt_mul (by rw [Nat.mul_comm]; exact hi)
      have m1 : (i : Int).tmod (h : Int) = (k : Int) := by rw [Int.tmod_eq_emod_of_nonneg (by omega), ← Int.natCast_emod, hk]
      have m2 : IntKind.i64.wrap ((i : Int).tdiv (h : Int)) = (q : Int) := by
        rw [Int.tdiv_eq_ediv_of_nonneg (by omega), ← Int.natCast_ediv, hq, wr (by omega)]
      have q0 : (i : Int) < (xs.length : Int) := by omega
      have q1 : IntKind.i64.wrap ((i : Int) + 1) = ((i + 1 : Nat) : Int) := by rw [wr (by omega)]; omega
      have q2 : (0 : Int) ≤ (k : Int) := by omega
      have q3 : IntKind.i64.wrap ((h : Int) + (k : Int)) = ((h + k : Nat) : Int) := by rw [wr (by omega)]; omega
      have q4 : (0 : Int) ≤ ((h + k : Nat) : Int) := by omega
      have hib : k * bb ≤ 64 * 64 := Nat.mul_le_mul (by omega) hb64
      have q5 : IntKind.i64.wrap ((k : Int) * (bb : Int)) = ((k * bb : Nat) : Int) := by rw [← Int.natCast_mul, wr (by omega)]
      have q6 : IntKind.i64.wrap (3 * (k : Int)) = ((3 * k : Nat) : Int) := by rw [wr (by omega)]; omega
      have h3ib : 3 * k * bb ≤ 192 * 64 := Nat.mul_le_mul (by omega) hb64
      have q7 : IntKind.i64.wrap (((3 * k : Nat) : Int) * (bb : Int)) = ((3 * k * bb : Nat) : Int) := by rw [← Int.natCast_mul, wr (by omega)]
      have k0 : 4 * (k * bb) < 4 * h * bb ∨ bb = 0 := by
        rcases Nat.eq_zero_or_pos bb with e | e
        · exact .inr e
        · left
          rw [Nat.mul_assoc]
          exact Nat.mul_lt_mul_of_pos_left (Nat.mul_lt_mul_of_pos_right hkh e) (by decide)
      have r1 : k * bb < (tabV log B).length := by
        rcases k0 with e | e
        · omega
        · rw [e, lW]; omega
      have r2 : 3 * k * bb < (tabV log B).length := by
        rcases k0 with e | e
        · rw [Nat.mul_assoc]; omega
        · rw [e, lW]; omega
      have x1 := cx_getD (xs := E) (i := k) (by omega)
      have x2 := cx_getD (xs := E) (i := h + k) (by omega)
      have x3 := cx_getD (xs := F) (i := k) (by omega)
      have x4 := cx_getD (xs := G) (i := k) (by omega)
      have y1 : (k : Int) < (E.length : Int) := by omega
      have y2 : ((h + k : Nat) : Int) < (E.length : Int) := by omega
      have y3 : (k : Int) < (F.length : Int) := by omega
      have y4 : (k : Int) < (G.length : Int) := by omega
      have hJ := RJoin.ok B mode inv (q : Int) (E.getD k (0, 0)) (E.getD (h + k) (0, 0)) (F.getD k (0, 0)) (G.getD k (0, 0)) (rootV (tabV log B) inv (k * bb)) (rootV (tabV log B) inv (3 * k * bb)) (by omega) hB hm (hwinE _) (hwinE _) (hwinF _) (hwinG _) (hWn _) (hWn _)
      rw [Int.toNat_natCast, ← hV] at hJ
      have hti : (AP i).length = i := by rw [hAP]; simp
      have hi1 : (i + 1) * 16 ≤ 140737488355328 := by omega
      have hi2 : i + 1 ≤ 9223372036854775807 := by omega
      have hpush : cxRows (AP i) ++ [[.int (V k q).1, .int (V k q).2]] = cxRows (AP (i + 1)) := by
        rw [hAP]
        dsimp only
        rw [List.range_succ, List.map_append]
        simp [cxRows, hk, hq]
      simp only [evA, evB, evT, evD, seval, q0, q2, q3, q4, q5, q6, q7, b1, m1, m2, hhz, cx_len, Int.toNat_natCast, x1, x2, x3, x4, y1, y2, y3, y4, cx_free]
      refine call_ok (RRoot.ok _ inv (k * bb) r1 (hWb _)) rfl ?_
      simp only [evA, evB, evT, evD, seval, q0, q2, q3, q4, q5, q6, q7, b1, m1, m2, hhz, cx_len, Int.toNat_natCast, cx_free]
      refine call_ok (RRoot.ok _ inv (3 * k * bb) r2 (hWb _)) rfl ?_
      simp only [evA, evB, evT, evD, seval, q0, q2, q3, q4, q5, q6, q7, b1, m1, m2, hhz, cx_len, Int.toNat_natCast, cx_free]
      refine call_ok hJ rfl ?_
      simp only [evA, evB, evT, evD, seval, cx_len, hti, hi1, hi2, hpush, q1]
      refine hK _ (weak_of (fun l => l + 3) rfl ?_ ?_)
      all_goals simp only [evA, evB, evT, evD, seval, cx_free]
      done
    · have q0 : ¬ ((4 * h : Nat) : Int) < (xs.length : Int) := by omega
      simp only [evA, evB, evT, evD, seval, q0, cx_free]
end Go.Proofs.YtnnjjblgilibgaaGreatV

import Derived.Test.YtnnjjblgilibgaaGreatVgD
import Derived.Test.YtnnjjblgilibgaaGreatVpR
/- Contracts of the package two: a pair, the pairs' places. -/
namespace Go.Proofs.YtnnjjblgilibgaaGreatV
open Go Go.RowKit
set_option linter.unusedVariables false
set_option linter.unusedSimpArgs false
set_option maxRecDepth 100000
set_option maxHeartbeats 40000000
theorem fine117 : Fine Tryz.prog 117 := fun _ _ => by kernel_rfl
theorem fine115 : Fine Tryz.prog 115 := fun _ _ => by kernel_rfl
theorem fine121 : Fine Tryz.prog 121 := fun _ _ => by kernel_rfl
theorem fine119 : Fine Tryz.prog 119 := fun _ _ => by kernel_rfl
theorem fine148 : Fine Tryz.prog 148 := fun _ _ => by kernel_rfl
theorem fine114 : Fine Tryz.prog 114 := fun _ _ => by kernel_rfl
theorem fine116 : Fine Tryz.prog 116 := fun _ _ => by kernel_rfl
theorem settings2.ok (bits s mode : Int) : Ok Tryz.prog 117 [.int bits, .int s, .int mode] (.bool (decide ((0 ≤ bits ∧ bits ≤ 29) ∧ (0 ≤ s ∧ s ≤ 3) ∧ 0 ≤ mode ∧ mode ≤ 2))) := by
  refine ok_of (X := fun _ => []) (Z := fun _ => false) (res := [ResultVar.tmp 6]) tok follows Tryz.func117 rfl rfl fine117 (by kernel_rfl) (by kernel_rfl) ?_
  simp only [evA, evT, evD, seval]
  by_cases hm : 0 ≤ mode ∧ mode ≤ 2
  · refine call_ok (Shift.ok 0 0 mode (by omega) hm (by omega)) rfl ?_
    simp only [evA, evT, evD, seval, dec_t, dec_f]
    omega
  · refine call_ok (Shift.bad 0 0 mode (by omega)) rfl ?_
    simp only [evA, evT, evD, seval, dec_t, dec_f]
    omega
theorem narrow2.ok (m a b : Int) (hm : 0 ≤ m ∧ m ≤ 4611686018427387904) : Ok Tryz.prog 115 [cxA a b, .int m] (.bool (decide (win m a b))) := by
  have e1 : IntKind.i64.wrap (0 - m) = -m := by rw [wr (by omega)]; omega
  refine ok_of (X := fun _ => []) (Z := fun _ => false) (res := [ResultVar.tmp 4]) tok follows Tryz.func115 rfl rfl fine115 (by kernel_rfl) (by kernel_rfl) ?_
  simp only [evA, evT, evD, seval, e1, dec_t, dec_f, dec_d, win]
  omega
theorem tPass1.ok (a b : Int) : Ok Tryz.prog 114 [cxA a b] (.bool (decide (¬ win 2147483648 a b))) := by
  refine ok_of (X := fun _ => []) (Z := fun _ => false) (res := [ResultVar.tmp 2]) tok follows Tryz.func114 rfl rfl fine114 (by kernel_rfl) (by kernel_rfl) ?_
  simp only [evA, evT, evD, seval]
  refine call_ok (narrow2.ok 2147483648 a b (by decide)) rfl ?_
  simp only [evA, evT, evD, seval, decide_not]
theorem tPass2.ok (a b bits : Int) (hb : 0 ≤ bits ∧ bits ≤ 29) : Ok Tryz.prog 116 [cxA a b, .box [.int bits] 0] (.bool (decide (¬ win (2 ^ bits.toNat) a b))) := by
  have h := pow29 hb
  have h0 := hb.1
  refine ok_of (X := fun _ => []) (Z := fun _ => false) (res := [ResultVar.tmp 3]) tok follows Tryz.func116 rfl rfl fine116 (by kernel_rfl) (by kernel_rfl) ?_
  simp only [evA, evT, evD, seval, one29 hb, h0]
  refine call_ok (narrow2.ok (2 ^ bits.toNat) a b (by omega)) rfl ?_
  simp only [evA, evT, evD, seval, decide_not]
/-- A pair's sum, and its difference. -/
def tU (bits s mode : Int) (a b w : Int × Int) : Int × Int := (rsh (a.1 * 2 ^ bits.toNat + (b.1 * w.1 - b.2 * w.2)) (bits + s) mode, rsh (a.2 * 2 ^ bits.toNat + (b.1 * w.2 + b.2 * w.1)) (bits + s) mode)
def tD (bits s mode : Int) (a b w : Int × Int) : Int × Int := (rsh (a.1 * 2 ^ bits.toNat - (b.1 * w.1 - b.2 * w.2)) (bits + s) mode, rsh (a.2 * 2 ^ bits.toNat - (b.1 * w.2 + b.2 * w.1)) (bits + s) mode)
theorem pair.ok (bits s mode : Int) (a b w : Int × Int) (hset : setP bits s mode) (h0 : win 2147483648 a.1 a.2) (h1 : win 2147483648 b.1 b.2) (g : win (2 ^ bits.toNat) w.1 w.2) :
    Ok Tryz.prog 121 [cxA a.1 a.2, cxA b.1 b.2, cxA w.1 w.2, .int bits, .int s, .int mode] (.tup [cxA (tU bits s mode a b w).1 (tU bits s mode a b w).2, cxA (tD bits s mode a b w).1 (tD bits s mode a b w).2]) := by
  have hp := pow29 hset.1
  obtain ⟨e1, e1'⟩ := shl29 (a := a.1) hset.1 (by unfold win at h0; omega)
  obtain ⟨e2, e2'⟩ := shl29 (a := a.2) hset.1 (by unfold win at h0; omega)
  have k1 : win 1073741824 w.1 w.2 := win_mono g (by omega)
  have hb0 := hset.1.1
  have e3 : IntKind.i64.wrap (bits + s) = bits + s := wr (by omega)
  have hbs : 0 ≤ bits + s ∧ bits + s ≤ 62 := by omega
  have w1 := times_win h1 g hp
  unfold win at w1
  have z1 : IntKind.i64.wrap (a.1 * 2 ^ bits.toNat + (b.1 * w.1 - b.2 * w.2)) = a.1 * 2 ^ bits.toNat + (b.1 * w.1 - b.2 * w.2) := wr (by omega)
  have z2 : IntKind.i64.wrap (a.2 * 2 ^ bits.toNat + (b.1 * w.2 + b.2 * w.1)) = a.2 * 2 ^ bits.toNat + (b.1 * w.2 + b.2 * w.1) := wr (by omega)
  have z3 : IntKind.i64.wrap (a.1 * 2 ^ bits.toNat - (b.1 * w.1 - b.2 * w.2)) = a.1 * 2 ^ bits.toNat - (b.1 * w.1 - b.2 * w.2) := wr (by omega)
  have z4 : IntKind.i64.wrap (a.2 * 2 ^ bits.toNat - (b.1 * w.2 + b.2 * w.1)) = a.2 * 2 ^ bits.toNat - (b.1 * w.2 + b.2 * w.1) := wr (by omega)
  refine ok_of (X := fun r => if Nat.beq r 4 then [[], [], [.tmp 16, .tmp 18], [.tmp 16, .tmp 18]] else []) (Z := fun _ => false) (res := [ResultVar.cell 12 43, ResultVar.cell 13 43]) tok follows Tryz.func121 rfl rfl fine121 (by kernel_rfl) (by kernel_rfl) ?_
  simp only [evA, evT, evD, seval]
  refine call_ok (Times.ok _ _ _ _ h1 k1) rfl ?_
  simp only [evA, evT, evD, seval, e1, e2, e3, hb0, z1, z2]
  refine call_ok (cxShift.ok _ _ _ _ hbs hset.2.2 (by unfold in64; omega) (by unfold in64; omega)) rfl ?_
  simp only [evA, evT, evD, seval, e1, e2, e3, hb0, z3, z4]
  refine call_ok (cxShift.ok _ _ _ _ hbs hset.2.2 (by unfold in64; omega) (by unfold in64; omega)) rfl ?_
  simp only [evA, evT, evD, seval, tU, tD]
theorem pairs.ok (n h : Int) : Ok Tryz.prog 119 [.int n, .int h] (.fn 148 [.box [.int n] 0, .box [.int h] 0]) := by
  refine ok_of (X := fun _ => []) (Z := fun _ => false) (res := [ResultVar.tmp 4]) tok follows Tryz.func119 rfl rfl fine119 (by kernel_rfl) (by kernel_rfl) ?_
  simp only [evA, evT, evD, seval]
theorem seq_mono {α : Type} {F : Fence} {n : Nat} {P : Program} {g : Nat} {lb : Array Value} {encs : α → Array Value} {Kp Kp' : World → World → Prop} {S Sp : List α → Prop} {N : Nat} {w : World} (h : SeqStopsK F n P g lb encs Kp S Sp N w) (hk : ∀ A B, Kp' A B → Kp A B) : SeqStopsK F n P g lb encs Kp' S Sp N w :=
  fun l J Jx W hW hJ hJx hY h0 => h l J Jx W hW hJ hJx (fun pre x W1 hj hl => by
    obtain ⟨fn, tmps, asg, body, hy, hR⟩ := hY pre x W1 hj hl
    exact ⟨fn, tmps, asg, body, hy, hR.mono fun e W' he => he.imp (fun q => ⟨q.1, q.2.1, hk _ _ q.2.2⟩) id⟩) h0
theorem rep_box1 {w : World} {N : Nat → Prop} {z : Int} {v : Value} (h : Rep w (fun _ => none) N (.box [.int z] 0) v) : ∃ b o, v = .pointer (some ⟨b, o, none⟩) ∧ N b ∧ w.cell? ⟨b, o, none⟩ = some (.int .i64 z) := by
  cases h with
  | box _ _ b o cell hN hw hr =>
    refine ⟨b, o, rfl, hN, ?_⟩
    have h1 := hw 0 (by simp)
    have h2 := (hr 0 _ rfl).of_raw
    rw [h2] at h1
    exact h1
theorem pairs.seq {n h : Int} (hk : halfOk n h) (hn0 : 0 ≤ n) : OkSeq Tryz.prog 148 [.box [.int n] 0, .box [.int h] 0] (fun x : PairAt n h => [.int x.i, .int x.j]) (pairsTo hk n.toNat (by omega)) n.toNat := by
  refine ⟨fine148, fun _ => rfl, fun w N vs hN hl hr m hm => ?_⟩
  match vs, hl with
  | [v0, v1], _ =>
    obtain ⟨A, o1, rfl, hA, ha⟩ := rep_box1 (hr 0 _ rfl)
    obtain ⟨B, o2, rfl, hB, hb⟩ := rep_box1 (hr 1 _ rfl)
    refine seq_mono (two_pairs.stops m hm n h hk hn0 A B o1 o2 w ha hb) fun W W' hkp => ⟨fun v hv => ?_, fun v hv => ?_⟩
    · exact (World.cell?_of_block (w := W) (w' := W') (a := ⟨A, o1, none⟩) (hkp A hA)).trans hv
    · exact (World.cell?_of_block (w := W) (w' := W') (a := ⟨B, o2, none⟩) (hkp B hB)).trans hv
end Go.Proofs.YtnnjjblgilibgaaGreatV
/- Contract: a pass of kernel 2. -/
namespace Go.Proofs.YtnnjjblgilibgaaGreatV
open Go Go.RowKit
set_option linter.unusedVariables false
set_option linter.unusedSimpArgs false
set_option maxRecDepth 100000
set_option maxHeartbeats 40000000
theorem fine78 : Fine Tryz.prog 78 := fun _ _ => by kernel_rfl
section
variable (inv : Bool) (bits s mode : Int) (xs ws : List (Int × Int)) (H u : Nat)
/-- Number m behind a pass. -/
def tV (m : Nat) : Int × Int := if (m / H) % 2 = 0 then tU bits s mode (xs.getD m (0, 0)) (xs.getD (m + H) (0, 0)) (rootV ws inv (m % H * u)) else tD bits s mode (xs.getD (m - H) (0, 0)) (xs.getD m (0, 0)) (rootV ws inv (m % H * u))
def t2V : List (Int × Int) := mix xs (tV inv bits s mode xs ws H u) fun _ => true
theorem t2V_len : (t2V inv bits s mode xs ws H u).length = xs.length := mix_len
/-- A pair's two numbers are set. -/
def tS (o : List (Int × Int)) (i k : Nat) : List (Int × Int) := (o.set i (tU bits s mode (xs.getD i (0, 0)) (xs.getD (i + H) (0, 0)) (rootV ws inv k))).set (i + H) (tD bits s mode (xs.getD i (0, 0)) (xs.getD (i + H) (0, 0)) (rootV ws inv k))
def tF {n h : Int} (pre : List (PairAt n h)) : List (Int × Int) := pre.foldl (fun o x => tS inv bits s mode xs ws H o x.i.toNat x.j.toNat) xs
theorem tF_nil {n h : Int} : tF inv bits s mode xs ws H ([] : List (PairAt n h)) = xs := rfl
theorem tF_snoc {n h : Int} (pre : List (PairAt n h)) (x : PairAt n h) : tF inv bits s mode xs ws H (pre ++ [x]) = tS inv bits s mode xs ws H (tF inv bits s mode xs ws H pre) x.i.toNat x.j.toNat := by
  unfold tF
  rw [List.foldl_append]
  rfl
theorem tF_len {n h : Int} (pre : List (PairAt n h)) : (tF inv bits s mode xs ws H pre).length = xs.length := by
  unfold tF
  have : ∀ (pre : List (PairAt n h)) (o : List (Int × Int)), (pre.foldl (fun o x => tS inv bits s mode xs ws H o x.i.toNat x.j.toNat) o).length = o.length := by
    intro pre
    induction pre with
    | nil => intro o; rfl
    | cons x r ih => intro o; rw [List.foldl_cons, ih]; simp [tS]
  exact this pre xs
def tP (k m : Nat) : Bool := decide (m - H * ((m / H) % 2) < k)
theorem first_iff {k : Nat} : isFirst (H : Int) k = true ↔ (k / H) % 2 = 0 := by
  unfold isFirst
  rw [beq_iff_eq, ← Int.natCast_ediv]
  omega
theorem pairJ_nat {k : Nat} (hn : xs.length = 2 * H * u) (hH : 0 < H) : pairJ (xs.length : Int) (H : Int) k = ((k % H * u : Nat) : Int) := by
  unfold pairJ
  rw [← Int.natCast_emod, hn, show (2 : Int) * (H : Int) = ((2 * H : Nat) : Int) by omega, ← Int.natCast_ediv, Nat.mul_div_cancel_left _ (by omega), Int.natCast_mul]
theorem tF_to {k : Nat} (hH : 0 < H) (hn : xs.length = 2 * H * u) (hk : halfOk (xs.length : Int) (H : Int)) (hl : (k : Int) ≤ xs.length) : tF inv bits s mode xs ws H (pairsTo hk k hl) = mix xs (tV inv bits s mode xs ws H u) (tP H k) := by
  induction k with
  | zero =>
    rw [pairsTo, tF_nil]
    exact (mix_none fun i _ => by simp [tP]).symm
  | succ k ih =>
    have ih := ih (by omega)
    have hd := Nat.div_add_mod k H
    have hmod := Nat.mod_lt k hH
    have hsub : ∀ m : Nat, (m / H) % 2 = 0 ∨ ((m / H) % 2 = 1 ∧ H ≤ m ∧ ((m - H) / H) % 2 = 0) := by
      intro m
      rcases Nat.mod_two_eq_zero_or_one (m / H) with e | e
      · exact .inl e
      · right
        have h1 : H ≤ m := by
          rcases Nat.lt_or_ge m H with h | h
          · rw [Nat.div_eq_of_lt h] at e; omega
          · exact h
        have h2 : m / H = (m - H) / H + 1 := by
          have := Nat.add_div_right (m - H) hH
          rwa [Nat.sub_add_cancel h1] at this
        exact ⟨e, h1, by omega⟩
    rw [pairsTo]
    split
    · rename_i hf
      have hc := (first_iff H).1 hf
      have hf2 := ((half_fact hk k (by omega)).2.2 hf).1
      have hkn : k + H < xs.length := by omega
      have e1 : (k + H) / H = k / H + 1 := Nat.add_div_right k hH
      have e2 : (k + H) % H = k % H := Nat.add_mod_right k H
      rw [tF_snoc, ih]
      unfold tS
      simp only [Int.toNat_natCast, pairJ_nat xs H u hn hH]
      have t1 : tU bits s mode (xs.getD k (0, 0)) (xs.getD (k + H) (0, 0)) (rootV ws inv (k % H * u)) = tV inv bits s mode xs ws H u k := by
        unfold tV
        rw [if_pos hc]
      have t2 : tD bits s mode (xs.getD k (0, 0)) (xs.getD (k + H) (0, 0)) (rootV ws inv (k % H * u)) = tV inv bits s mode xs ws H u (k + H) := by
        unfold tV
        rw [if_neg (by rw [e1]; omega), e2, Nat.add_sub_cancel]
      rw [mix_set (by omega) t1, mix_set hkn t2]
      refine mix_eq (fun m hm => ?_) fun _ _ _ => rfl
      rw [Bool.eq_iff_iff]
      unfold tP
      simp only [Bool.or_eq_true, decide_eq_true_eq]
      rcases hsub m with e | ⟨e, h1, h2⟩
      · rw [e]
        constructor
        · rintro ((h | rfl) | rfl)
          · omega
          · omega
          · rw [e1] at e; omega
        · intro h
          rcases Nat.lt_or_ge m k with h' | h'
          · exact .inl (.inl (by omega))
          · exact .inl (.inr (by omega))
      · rw [e]
        constructor
        · rintro ((h | rfl) | rfl)
          · omega
          · omega
          · omega
        · intro h
          rcases Nat.lt_or_ge (m - H) k with h' | h'
          · exact .inl (.inl (by omega))
          · exact .inr (by omega)
    · rename_i hf
      have hc : ¬ (k / H) % 2 = 0 := fun h => hf ((first_iff H).2 h)
      rw [ih]
      refine mix_eq (fun m hm => ?_) fun _ _ _ => rfl
      rw [Bool.eq_iff_iff]
      unfold tP
      simp only [decide_eq_true_eq]
      rcases hsub m with e | ⟨e, h1, h2⟩
      · rw [e]
        constructor
        · omega
        · intro h
          rcases Nat.lt_or_ge m k with h' | h'
          · omega
          · exfalso
            obtain rfl : m = k := by omega
            exact hc e
      · rw [e]
        constructor
        · omega
        · intro h
          rcases Nat.lt_or_ge (m - H) k with h' | h'
          · omega
          · exfalso
            have : m - H = k := by omega
            rw [this] at h2
            exact hc h2
theorem tF_all (hH : 0 < H) (hn : xs.length = 2 * H * u) (hk : halfOk (xs.length : Int) (H : Int)) (hl : ((xs.length : Int).toNat : Int) ≤ xs.length) : tF inv bits s mode xs ws H (pairsTo hk (xs.length : Int).toNat hl) = t2V inv bits s mode xs ws H u := by
  rw [tF_to inv bits s mode xs ws H u hH hn hk hl]
  refine mix_eq (fun m hm => ?_) fun _ _ _ => rfl
  unfold tP
  generalize H * (m / H % 2) = Y
  rw [Int.toNat_natCast]
  exact decide_eq_true (by omega)
end
theorem half_nat {h n : Int} (hn : lens n) (hq : half h n) : ∃ H u : Nat, h = H ∧ 0 < H ∧ H ≤ 32 ∧ n = ((2 * H * u : Nat) : Int) ∧ 0 < u ∧ u ≤ 32 ∧ Go.bits .and .i64 h (h - 1) = 0 ∧ halfOk n h := by
  obtain ⟨h1, h2⟩ := hq
  have hh : h = 1 ∨ h = 2 ∨ h = 4 ∨ h = 8 ∨ h = 16 ∨ h = 32 := by unfold lens at hn; omega
  have hok : halfOk n h := ⟨hn, hh, h1⟩
  rcases hn with rfl | rfl | rfl | rfl | rfl <;> rcases hh with rfl | rfl | rfl | rfl | rfl | rfl <;> first
    | (exfalso; omega)
    | exact ⟨1, 2, rfl, by decide, by decide, rfl, by decide, by decide, by decide, hok⟩ | exact ⟨1, 4, rfl, by decide, by decide, rfl, by decide, by decide, by decide, hok⟩ | exact ⟨1, 8, rfl, by decide, by decide, rfl, by decide, by decide, by decide, hok⟩ | exact ⟨1, 16, rfl, by decide, by decide, rfl, by decide, by decide, by decide, hok⟩ | exact ⟨1, 32, rfl, by decide, by decide, rfl, by decide, by decide, by decide, hok⟩
    | exact ⟨2, 1, rfl, by decide, by decide, rfl, by decide, by decide, by decide, hok⟩ | exact ⟨2, 2, rfl, by decide, by decide, rfl, by decide, by decide, by decide, hok⟩ | exact ⟨2, 4, rfl, by decide, by decide, rfl, by decide, by decide, by decide, hok⟩ | exact ⟨2, 8, rfl, by decide, by decide, rfl, by decide, by decide, by decide, hok⟩ | exact ⟨2, 16, rfl, by decide, by decide, rfl, by decide, by decide, by decide, hok⟩
    | exact ⟨4, 1, rfl, by decide, by decide, rfl, by decide, by decide, by decide, hok⟩ | exact ⟨4, 2, rfl, by decide, by decide, rfl, by decide, by decide, by decide, hok⟩ | exact ⟨4, 4, rfl, by decide, by decide, rfl, by decide, by decide, by decide, hok⟩ | exact ⟨4, 8, rfl, by decide, by decide, rfl, by decide, by decide, by decide, hok⟩
    | exact ⟨8, 1, rfl, by decide, by decide, rfl, by decide, by decide, by decide, hok⟩ | exact ⟨8, 2, rfl, by decide, by decide, rfl, by decide, by decide, by decide, hok⟩ | exact ⟨8, 4, rfl, by decide, by decide, rfl, by decide, by decide, by decide, hok⟩
    | exact ⟨16, 1, rfl, by decide, by decide, rfl, by decide, by decide, by decide, hok⟩ | exact ⟨16, 2, rfl, by decide, by decide, rfl, by decide, by decide, by decide, hok⟩
    | exact ⟨32, 1, rfl, by decide, by decide, rfl, by decide, by decide, by decide, hok⟩
theorem and_tab : ((List.range 64).all fun h => h == 0 || (h == 1 || h == 2 || h == 4 || h == 8 || h == 16 || h == 32) || !(Go.bits .and .i64 (h : Int) ((h : Int) - 1) == 0)) = true := by decide +kernel
theorem half_not {h n : Int} (hn : lens n) (hq : ¬ half h n) : h < 1 ∨ (¬ h < 1 ∧ n ≤ h) ∨ (¬ h < 1 ∧ ¬ n ≤ h ∧ IntKind.i64.wrap (h - 1) = h - 1 ∧ ¬ Go.bits .and .i64 h (h - 1) = 0) := by
  by_cases h1 : h < 1
  · exact .inl h1
  by_cases h2 : n ≤ h
  · exact .inr (.inl ⟨h1, h2⟩)
  have hn64 : n ≤ 64 := by unfold lens at hn; omega
  refine .inr (.inr ⟨h1, h2, wr (by omega), fun hz => hq ?_⟩)
  obtain ⟨k, rfl⟩ : ∃ k : Nat, h = k := ⟨h.toNat, by omega⟩
  have := (List.all_eq_true.1 and_tab) k (List.mem_range.2 (by omega))
  rw [hz] at this
  simp at this
  unfold half
  omega
section
variable (inv : Bool) (h bits s mode : Int) (xs ws : List (Int × Int)) (hl : xs.length ≤ 1000000) (hw : ws.length ≤ 1000000)
include hl hw
omit hw in
theorem twoPass.no (e : Int) (he : Why (half h xs.length) xs ws bits s mode e) :
    Ok Tryz.prog 78 [.sl 2 (cxRows xs), .sl 2 (cxRows ws), .int h, .int bits, .int s, .int mode, .bool inv] (.tup [.raw (.slice none 0 0), .int e]) := by
  refine ok_of (X := fun r => if Nat.beq r 20 then [[], [], [], [], [], [], [], [], [], [.tmp 20, .tmp 9, .tmp 24, .tmp 25], [], [.tmp 20, .tmp 9, .tmp 24, .tmp 25]] else []) (Z := fun _ => false) (res := [ResultVar.tmp 14, ResultVar.tmp 15]) tok follows Tryz.func78 rfl rfl fine78 (by kernel_rfl) (by kernel_rfl) ?_
  simp only [evA, evT, evD, seval, cx_len, cx_free]
  rcases he with ⟨h1, rfl⟩ | ⟨h1, h2, rfl⟩ | ⟨h1, h2, h3, rfl⟩ | ⟨h1, h2, ⟨h3, hset⟩, h4, rfl⟩
  · refine call_ok (Log.bad _ h1) rfl ?_
    simp only [evA, evT, evD, seval]
  · refine call_ok (Log.ok _ h1) rfl ?_
    simp only [evA, evT, evD, seval, cx_len, h2]
  · refine call_ok (Log.ok _ h1) rfl ?_
    simp only [evA, evT, evD, seval, cx_len, h2]
    by_cases hq : half h xs.length
    · obtain ⟨H, u, rfl, g1, g2, g3, g4, g5, g6, _⟩ := half_nat h1 hq
      have k1 : ¬ (H : Int) < 1 := by omega
      have k2 : ¬ (xs.length : Int) ≤ H := by have := hq.1; omega
      have k3 : IntKind.i64.wrap ((H : Int) - 1) = H - 1 := wr (by omega)
      simp only [evA, evT, evD, seval, k1, k2, k3, g6]
      refine call_ok (settings2.ok bits s mode) rfl ?_
      simp only [evA, evT, evD, seval, show ¬ setP bits s mode from fun g => h3 ⟨hq, g⟩]
    · rcases half_not h1 hq with k1 | ⟨k1, k2⟩ | ⟨k1, k2, k3, k4⟩
      · simp only [evA, evT, evD, seval, k1]
      · simp only [evA, evT, evD, seval, k1, k2]
      · simp only [evA, evT, evD, seval, k1, k2, k3, k4]
  · obtain ⟨H, u, rfl, g1, g2, g3, g4, g5, g6, _⟩ := half_nat h1 h3
    have k1 : ¬ (H : Int) < 1 := by omega
    have k2 : ¬ (xs.length : Int) ≤ H := by have := h3.1; omega
    have k3 : IntKind.i64.wrap ((H : Int) - 1) = H - 1 := wr (by omega)
    refine call_ok (Log.ok _ h1) rfl ?_
    simp only [evA, evT, evD, seval, cx_len, h2, k1, k2, k3, g6]
    refine call_ok (settings2.ok bits s mode) rfl ?_
    simp only [evA, evT, evD, seval, decide_eq_true hset, cx_free]
    by_cases hx : nears 2147483648 xs
    · refine call_ok (contains.no 114 [] (fun x => ¬ win 2147483648 x.1 x.2) xs (by omega) (fun _ => rfl) (fun _ => rfl) rfl (fun x _ => tPass1.ok x.1 x.2) (fun x hx' hn => hn (hx x hx'))) rfl ?_
      simp only [evA, evT, evD, seval, cx_free]
      refine call_ok (contains.yes 116 [.box [.int bits] 0] (fun x => ¬ win (2 ^ bits.toNat) x.1 x.2) ws (by omega) (fun _ => rfl) (fun _ => rfl) rfl (fun x _ => tPass2.ok x.1 x.2 bits hset.1) (Classical.byContradiction fun hn => h4 ⟨hx, fun x hx' => Classical.byContradiction fun hg => hn ⟨x, hx', hg⟩⟩)) rfl ?_
      simp only [evA, evT, evD, seval]
    · refine call_ok (contains.yes 114 [] (fun x => ¬ win 2147483648 x.1 x.2) xs (by omega) (fun _ => rfl) (fun _ => rfl) rfl (fun x _ => tPass1.ok x.1 x.2) (Classical.byContradiction fun hn => hx fun x hx' => Classical.byContradiction fun hg => hn ⟨x, hx', hg⟩)) rfl ?_
      simp only [evA, evT, evD, seval]
end
end Go.Proofs.YtnnjjblgilibgaaGreatV
/- Contract: a pass of kernel 2 that may be. -/
namespace Go.Proofs.YtnnjjblgilibgaaGreatV
open Go Go.RowKit
set_option linter.unusedVariables false
set_option linter.unusedSimpArgs false
set_option maxRecDepth 100000
set_option maxHeartbeats 40000000
theorem root_win' {bits : Int} {ws : List (Int × Int)} (inv : Bool) (hr : nears (2 ^ bits.toNat) ws) {k : Nat} (hk : k < ws.length) : win (2 ^ bits.toNat) (rootV ws inv k).1 (rootV ws inv k).2 := by
  have := near_get hr hk
  cases inv
  · exact this
  · show win (2 ^ bits.toNat) (ws.getD k (0, 0)).1 (-(ws.getD k (0, 0)).2)
    unfold win at *
    omega
theorem twoPass.ok (inv : Bool) (bits s mode : Int) (xs ws : List (Int × Int)) (H u : Nat) (hl : xs.length ≤ 1000000) (hw : ws.length ≤ 1000000) (hH : 0 < H) (hH16 : H ≤ 32) (hu : u ≤ 32) (hu0 : 0 < u) (hn : xs.length = 2 * H * u) (hand : Go.bits .and .i64 H ((H : Int) - 1) = 0) (h1 : lens xs.length) (hhalf : halfOk (xs.length : Int) (H : Int)) (h2 : (ws.length : Int) = xs.length) (hset : setP bits s mode) (hx : nears 2147483648 xs) (hr : nears (2 ^ bits.toNat) ws) :
    Ok Tryz.prog 78 [.sl 2 (cxRows xs), .sl 2 (cxRows ws), .int H, .int bits, .int s, .int mode, .bool inv] (.tup [.sl 2 (cxRows (t2V inv bits s mode xs ws H u)), .int 0]) := by
  have hlt := hhalf.2.2
  have k1 : ¬ (H : Int) < 1 := by omega
  have k2 : ¬ (xs.length : Int) ≤ H := by omega
  have k3 : IntKind.i64.wrap ((H : Int) - 1) = H - 1 := wr (by omega)
  refine ok_of (X := fun r => if Nat.beq r 12 then [[], [.const (.bool true)]] else if Nat.beq r 20 then [[], [], [], [], [], [], [], [], [], [.tmp 20, .tmp 9, .tmp 24, .tmp 25], [], [.tmp 20, .tmp 9, .tmp 24, .tmp 25]] else []) (Z := fun _ => false) (res := [ResultVar.tmp 14, ResultVar.tmp 15]) tok follows Tryz.func78 rfl rfl fine78 (by kernel_rfl) (by kernel_rfl) ?_
  simp only [evA, evT, evD, seval, cx_len, cx_free]
  refine call_ok (Log.ok _ h1) rfl ?_
  simp only [evA, evT, evD, seval, cx_len, h2, k1, k2, k3, hand, cx_free]
  refine call_ok (settings2.ok bits s mode) rfl ?_
  simp only [evA, evT, evD, seval, decide_eq_true hset, cx_free]
  refine call_ok (contains.no 114 [] (fun x => ¬ win 2147483648 x.1 x.2) xs (by omega) (fun _ => rfl) (fun _ => rfl) rfl (fun x _ => tPass1.ok x.1 x.2) (fun x hx' hn => hn (hx x hx'))) rfl ?_
  simp only [evA, evT, evD, seval, cx_free]
  refine call_ok (contains.no 116 [.box [.int bits] 0] (fun x => ¬ win (2 ^ bits.toNat) x.1 x.2) ws (by omega) (fun _ => rfl) (fun _ => rfl) rfl (fun x _ => tPass2.ok x.1 x.2 bits hset.1) (fun x hx' hn => hn (hr x hx'))) rfl ?_
  simp only [evA, evT, evD, seval, cx_free]
  refine call_eff [] (Clone.ok xs hl (by omega)) rfl (by decide) ?_ ?_ rfl ?_ ?_ ?_ ?_ rfl rfl ?_
  all_goals simp only [evA, evB, evT, evD, seval, cx_free, cx_lt, cx_ren, lt_sl, cx_len]
  refine call_ok (pairs.ok _ _) rfl ?_
  simp only [evA, evB, evT, evD, seval]
  refine .inl ⟨rfl, .inl ⟨PairAt (xs.length : Int) (H : Int), fun x => [.int x.i, .int x.j], pairsTo hhalf (xs.length : Int).toNat (by omega), [(7, .loc 0 0), (8, .loc 1 0), (9, .loc 2 0), (10, .loc 3 0), (11, .loc 4 0), (12, .loc 5 0), (13, .loc 6 0), (20, .loc 8 0), (80, .fn 148 [.box [.int xs.length] 0, .box [.int H] 0])],
    fun pre => [(0, some (.box [.sl 2 (cxRows xs)])), (1, some (.box [.sl 2 (cxRows ws)])), (2, some (.box [.int H])), (3, some (.box [.int bits])), (4, some (.box [.int s])), (5, some (.box [.int mode])), (6, some (.box [.bool inv])), (7, some (.row 43 2 (cxRows (tF inv bits s mode xs ws H pre)))), (8, some (.box [.own 7]))], 9, 9, _, _, _, rfl, rfl, pairs.seq hhalf (by omega), fun _ => rfl, rfl, rfl, fun _ => rfl, ?_, fun pre x _ => ?_, ?_⟩⟩
  · refine weak_of (fun l => l) rfl ?_ ?_
    all_goals simp only [evA, evB, evT, evD, seval, cx_free, cx_lt, cx_ren, lt_sl, tF_nil, LB.ren, LB.lt]
  · obtain ⟨I, hI⟩ : ∃ I : Nat, x.i = I := ⟨x.i.toNat, by have := x.i0; omega⟩
    obtain ⟨J, hJ⟩ : ∃ J : Nat, x.j = J := ⟨x.j.toNat, by have := x.j0; omega⟩
    have i1 : I + H < xs.length := by have := x.ih; omega
    have j1 : J < ws.length := by have := x.jn; omega
    have hsn := tF_snoc inv bits s mode xs ws H pre x
    rw [hI, hJ, Int.toNat_natCast, Int.toNat_natCast] at hsn
    have i0 : I < xs.length := by omega
    have a0 : (0 : Int) ≤ (J : Int) := by omega
    have a1 : (J : Int) < ws.length := by omega
    have b0 : (0 : Int) ≤ (I : Int) := by omega
    have b1 : (I : Int) < xs.length := by omega
    have c0 : IntKind.i64.wrap ((I : Int) + (H : Int)) = ((I + H : Nat) : Int) := by rw [wr (by omega)]; omega
    have c1 : ((I + H : Nat) : Int) < xs.length := by omega
    have c2 : (0 : Int) ≤ ((I + H : Nat) : Int) := by omega
    have hroot := root_win' inv hr j1
    have hbig : win 2305843009213693952 (ws.getD J (0, 0)).1 (ws.getD J (0, 0)).2 := win_mono (near_get hr j1) (by have := pow29 hset.1; omega)
    have n0 := near_get hx i0
    have n1 := near_get hx i1
    have fl := tF_len inv bits s mode xs ws H pre
    cases inv
    · simp only [evA, evB, evT, evD, seval, hI, hJ, a0, a1, b0, b1, c0, c1, c2, cx_len, Int.toNat_natCast, cx_getD j1, cx_getD i0, cx_getD i1]
      refine call_ok (pair.ok bits s mode (xs.getD I (0, 0)) (xs.getD (I + H) (0, 0)) (rootV ws false J) hset n0 n1 hroot) rfl ?_
      simp only [evA, evB, evT, evD, seval, hI, hJ, a0, a1, b0, b1, c0, c1, c2, cx_len, Int.toNat_natCast, fl, cx_at, i0, i1, List.length_set, cx_set]
      refine weak_of (fun l => l) rfl ?_ ?_
      · simp only [evA, evB, evT, evD, seval, cx_free, cx_lt, cx_ren, lt_sl, LB.ren, LB.lt]
        exact .inl (congrArg (fun l => LB.row 43 2 (cxRows l)) hsn.symm)
      · simp only [evA, evB, evT, evD, seval]
    · simp only [evA, evB, evT, evD, seval, hI, hJ, a0, a1, b0, b1, c0, c1, c2, cx_len, Int.toNat_natCast, cx_getD j1, cx_getD i0, cx_getD i1]
      refine call_ok (Conj.ok _ _ hbig) rfl ?_
      simp only [evA, evB, evT, evD, seval, hI, hJ, a0, a1, b0, b1, c0, c1, c2, cx_len, Int.toNat_natCast, cx_getD j1, cx_getD i0, cx_getD i1]
      refine call_ok (pair.ok bits s mode (xs.getD I (0, 0)) (xs.getD (I + H) (0, 0)) (rootV ws true J) hset n0 n1 hroot) rfl ?_
      simp only [evA, evB, evT, evD, seval, hI, hJ, a0, a1, b0, b1, c0, c1, c2, cx_len, Int.toNat_natCast, fl, cx_at, i0, i1, List.length_set, cx_set]
      refine weak_of (fun l => l) rfl ?_ ?_
      · simp only [evA, evB, evT, evD, seval, cx_free, cx_lt, cx_ren, lt_sl, LB.ren, LB.lt]
        exact .inl (congrArg (fun l => LB.row 43 2 (cxRows l)) hsn.symm)
      · simp only [evA, evB, evT, evD, seval]
  · refine (tF_all inv bits s mode xs ws H u hH hn hhalf (by omega)) ▸ ?_
    simp only [evA, evT, evD, seval, cx_free]
end Go.Proofs.YtnnjjblgilibgaaGreatV
/- Contracts: the document's pass of halves; a pair by the code's own function. -/
namespace Go.Proofs.YtnnjjblgilibgaaGreatV
open Go Go.RowKit
set_option linter.unusedVariables false
set_option linter.unusedSimpArgs false
set_option maxRecDepth 100000
set_option maxHeartbeats 40000000
theorem fine85 : Fine Tryz.prog 85 := fun _ _ => by kernel_rfl
theorem fine98 : Fine Tryz.prog 98 := fun _ _ => by kernel_rfl
theorem fine99 : Fine Tryz.prog 99 := fun _ _ => by kernel_rfl
theorem fine64 : Fine Tryz.prog 64 := fun _ _ => by kernel_rfl
theorem Less.ok (a b c d : Int) : Ok Tryz.prog 85 [cxA a b, cxA c d] (cxA (IntKind.i64.wrap (a - c)) (IntKind.i64.wrap (b - d))) := by
  refine ok_of (X := fun _ => []) (Z := fun _ => false) (res := [ResultVar.cell 4 43]) tok follows Tryz.func85 rfl rfl fine85 (by kernel_rfl) (by kernel_rfl) ?_
  simp only [evA, evT, evD, seval]
section
variable (bits s mode : Int) (a b w : Int × Int) (hset : setP bits s mode) (h0 : win 2147483648 a.1 a.2) (h1 : win 2147483648 b.1 b.2) (g : win (2 ^ bits.toNat) w.1 w.2)
include hset h0 h1 g
theorem Up.ok : Ok Tryz.prog 98 [cxA a.1 a.2, cxA b.1 b.2, cxA w.1 w.2, .int bits, .int s, .int mode] (cxA (tU bits s mode a b w).1 (tU bits s mode a b w).2) := by
  have hp := pow29 hset.1
  have c1 := shl29 (a := a.1) hset.1 (by unfold win at h0; omega)
  have c2 := shl29 (a := a.2) hset.1 (by unfold win at h0; omega)
  have e1 : IntKind.i64.wrap (a.1 * 2 ^ bits.toNat) = a.1 * 2 ^ bits.toNat := wr (by omega)
  have e2 : IntKind.i64.wrap (a.2 * 2 ^ bits.toNat) = a.2 * 2 ^ bits.toNat := wr (by omega)
  have e3 : IntKind.i64.wrap (bits + s) = bits + s := wr (by omega)
  have k1 : win 1073741824 w.1 w.2 := win_mono g (by omega)
  have w1 := times_win h1 g hp
  unfold win at w1
  have z1 : IntKind.i64.wrap (a.1 * 2 ^ bits.toNat + (b.1 * w.1 - b.2 * w.2)) = a.1 * 2 ^ bits.toNat + (b.1 * w.1 - b.2 * w.2) := wr (by omega)
  have z2 : IntKind.i64.wrap (a.2 * 2 ^ bits.toNat + (b.1 * w.2 + b.2 * w.1)) = a.2 * 2 ^ bits.toNat + (b.1 * w.2 + b.2 * w.1) := wr (by omega)
  refine ok_of (X := fun _ => []) (Z := fun _ => false) (res := [ResultVar.cell 12 43]) tok follows Tryz.func98 rfl rfl fine98 (by kernel_rfl) (by kernel_rfl) ?_
  simp only [evA, evT, evD, seval]
  refine call_ok (Scale.ok a.1 a.2 bits (by omega)) rfl ?_
  simp only [evA, evT, evD, seval, e1, e2]
  refine call_ok (RTimes.ok _ _ _ _ h1 k1) rfl ?_
  simp only [evA, evT, evD, seval]
  refine call_ok (Sum.ok _ _ _ _) rfl ?_
  simp only [evA, evT, evD, seval, z1, z2, e3]
  refine call_ok (RShift.ok _ _ _ _ (by unfold in64; omega) (by unfold in64; omega) (by omega) hset.2.2) rfl ?_
  simp only [evA, evT, evD, seval, tU]
theorem Down.ok : Ok Tryz.prog 99 [cxA a.1 a.2, cxA b.1 b.2, cxA w.1 w.2, .int bits, .int s, .int mode] (cxA (tD bits s mode a b w).1 (tD bits s mode a b w).2) := by
  have hp := pow29 hset.1
  have c1 := shl29 (a := a.1) hset.1 (by unfold win at h0; omega)
  have c2 := shl29 (a := a.2) hset.1 (by unfold win at h0; omega)
  have e1 : IntKind.i64.wrap (a.1 * 2 ^ bits.toNat) = a.1 * 2 ^ bits.toNat := wr (by omega)
  have e2 : IntKind.i64.wrap (a.2 * 2 ^ bits.toNat) = a.2 * 2 ^ bits.toNat := wr (by omega)
  have e3 : IntKind.i64.wrap (bits + s) = bits + s := wr (by omega)
  have k1 : win 1073741824 w.1 w.2 := win_mono g (by omega)
  have w1 := times_win h1 g hp
  unfold win at w1
  have z1 : IntKind.i64.wrap (a.1 * 2 ^ bits.toNat - (b.1 * w.1 - b.2 * w.2)) = a.1 * 2 ^ bits.toNat - (b.1 * w.1 - b.2 * w.2) := wr (by omega)
  have z2 : IntKind.i64.wrap (a.2 * 2 ^ bits.toNat - (b.1 * w.2 + b.2 * w.1)) = a.2 * 2 ^ bits.toNat - (b.1 * w.2 + b.2 * w.1) := wr (by omega)
  refine ok_of (X := fun _ => []) (Z := fun _ => false) (res := [ResultVar.cell 12 43]) tok follows Tryz.func99 rfl rfl fine99 (by kernel_rfl) (by kernel_rfl) ?_
  simp only [evA, evT, evD, seval]
  refine call_ok (Scale.ok a.1 a.2 bits (by omega)) rfl ?_
  simp only [evA, evT, evD, seval, e1, e2]
  refine call_ok (RTimes.ok _ _ _ _ h1 k1) rfl ?_
  simp only [evA, evT, evD, seval]
  refine call_ok (Less.ok _ _ _ _) rfl ?_
  simp only [evA, evT, evD, seval, z1, z2, e3]
  refine call_ok (RShift.ok _ _ _ _ (by unfold in64; omega) (by unfold in64; omega) (by omega) hset.2.2) rfl ?_
  simp only [evA, evT, evD, seval, tD]
end
end Go.Proofs.YtnnjjblgilibgaaGreatV
/- Contract: the document's pass of halves. -/
namespace Go.Proofs.YtnnjjblgilibgaaGreatV
open Go Go.RowKit
set_option linter.unusedVariables false
set_option linter.unusedSimpArgs false
set_option maxRecDepth 100000
set_option maxHeartbeats 40000000
theorem t2V_at {inv : Bool} {bits s mode : Int} {xs ws : List (Int × Int)} {H u i : Nat} (hi : i < xs.length) : (t2V inv bits s mode xs ws H u).getD i (0, 0) = tV inv bits s mode xs ws H u i := by
  unfold t2V
  rw [mix_at hi]
  rfl
theorem mod2 (i H : Nat) : i % (2 * H) = i % H + H * (i / H % 2) := by
  rw [Nat.mul_comm 2 H, Nat.mod_mul]
/-- A number's pair lies within. -/
theorem pair_in {i H u n : Nat} (hH : 0 < H) (hn : n = 2 * H * u) (hi : i < n) : ((i / H) % 2 = 0 ∧ i + H < n ∧ i % (2 * H) = i % H) ∨ ((i / H) % 2 = 1 ∧ H ≤ i ∧ i % (2 * H) = i % H + H) := by
  have hm := mod2 i H
  have hd := Nat.div_add_mod i (2 * H)
  have hlt := Nat.mod_lt i hH
  have hiu : i / (2 * H) < u := Nat.div_lt_of_lt_mul (by omega)
  have hmul : 2 * H * (i / (2 * H) + 1) ≤ 2 * H * u := Nat.mul_le_mul_left _ hiu
  rw [Nat.mul_add, Nat.mul_one] at hmul
  rcases Nat.mod_two_eq_zero_or_one (i / H) with e | e
  · rw [e, Nat.mul_zero, Nat.add_zero] at hm
    exact .inl ⟨e, by omega, hm⟩
  · rw [e, Nat.mul_one] at hm
    refine .inr ⟨e, ?_, hm⟩
    rcases Nat.lt_or_ge i H with h | h
    · rw [Nat.div_eq_of_lt h] at e
      cases e
    · exact h
theorem RPass2.ok (inv : Bool) (bits s mode : Int) (xs ws : List (Int × Int)) (H u : Nat) (hl : xs.length ≤ 1000000) (hH : 0 < H) (hH16 : H ≤ 32) (hu : u ≤ 32) (hu0 : 0 < u) (hn : xs.length = 2 * H * u) (h2 : (ws.length : Int) = xs.length) (hset : setP bits s mode) (hx : nears 2147483648 xs) (hr : nears (2 ^ bits.toNat) ws) :
    Ok Tryz.prog 64 [.sl 2 (cxRows xs), .sl 2 (cxRows ws), .int H, .int bits, .int s, .int mode, .bool inv] (.sl 2 (cxRows (t2V inv bits s mode xs ws H u))) := by
  have m2 : IntKind.i64.wrap (2 * (H : Int)) = ((2 * H : Nat) : Int) := by rw [wr (by omega)]; omega
  have hdiv : IntKind.i64.wrap ((xs.length : Int).tdiv ((2 * H : Nat) : Int)) = u := by
    rw [Int.tdiv_eq_ediv_of_nonneg (by omega), hn, Int.natCast_mul (2 * H) u, Int.mul_ediv_cancel_left _ (by omega)]
    exact wr (by omega)
  have hnz : ¬ ((2 * H : Nat) : Int) = 0 := by omega
  have hbig : ∀ k, k < ws.length → win 2305843009213693952 (ws.getD k (0, 0)).1 (ws.getD k (0, 0)).2 := fun k hk => win_mono (near_get hr hk) (by have := pow29 hset.1; omega)
  refine ok_of (X := fun _ => []) (Z := fun _ => false) (res := [ResultVar.tmp 14]) tok follows Tryz.func64 rfl rfl fine64 (by kernel_rfl) (by kernel_rfl) ?_
  simp only [evA, evT, evD, seval, cx_len]
  refine l_inv (fun i => ⟨[(17, .int i), (16, .own 0), (15, .int xs.length), (0, .sl 2 (cxRows xs)), (1, .sl 2 (cxRows ws)), (2, .int H), (3, .int bits), (4, .int s), (5, .int mode), (6, .bool inv)], [(0, some (.row 43 2 (cxRows ((t2V inv bits s mode xs ws H u).take i))))], 1⟩) xs.length ?_ (fun i hi K hK => ?_) (fun K => ?_)
  · refine weak_of (fun l => l) rfl ?_ ?_
    all_goals simp only [evA, evB, evT, evD, seval, cx_free, Int.natCast_zero]
    simp [cxRows]
  · have hpush := take_push (xs := t2V inv bits s mode xs ws H u) (i := i) (by rw [t2V_len]; exact hi)
    rw [t2V_at hi] at hpush
    have hj := Nat.mod_lt i hH
    have c1 : (i : Int).tmod ((2 * H : Nat) : Int) = ((i % (2 * H) : Nat) : Int) := tmod_nat i (2 * H)
    have hti : ((t2V inv bits s mode xs ws H u).take i).length = i := by rw [List.length_take, t2V_len]; omega
    have hi1 : (i + 1) * 16 ≤ 140737488355328 := by omega
    have hi2 : i + 1 ≤ 9223372036854775807 := by omega
    have q0 : (i : Int) < xs.length := by omega
    have q1 : IntKind.i64.wrap ((i : Int) + 1) = ((i + 1 : Nat) : Int) := by rw [wr (by omega)]; omega
    have q2 : (0 : Int) ≤ (i : Int) := by omega
    have u1 : i % H * u < ws.length := by
      have h3 : i % H * u ≤ (H - 1) * u := Nat.mul_le_mul_right _ (by omega)
      have h4 : (H - 1) * u < 2 * H * u := Nat.mul_lt_mul_of_pos_right (by omega) hu0
      omega
    have d5 : IntKind.i64.wrap (((i % H : Nat) : Int) * (u : Int)) = ((i % H * u : Nat) : Int) := by rw [← Int.natCast_mul, wr (by omega)]
    have hr1 := root_win' inv hr u1
    rcases pair_in hH hn hi with ⟨hc, hin, hm⟩ | ⟨hc, hin, hm⟩
    · have e : tV inv bits s mode xs ws H u i = tU bits s mode (xs.getD i (0, 0)) (xs.getD (i + H) (0, 0)) (rootV ws inv (i % H * u)) := by
        unfold tV
        rw [if_pos hc]
      rw [e] at hpush
      rw [hm] at c1
      have d0 : ((i % H : Nat) : Int) < (H : Int) := by omega
      have d1 : IntKind.i64.wrap ((i : Int) + (H : Int)) = ((i + H : Nat) : Int) := by rw [wr (by omega)]; omega
      have d2 : ((i + H : Nat) : Int) < xs.length := by omega
      have d3 : (0 : Int) ≤ ((i + H : Nat) : Int) := by omega
      simp only [evA, evT, evD, seval, q0, q2, m2, hnz, c1, d0, d1, d2, d3, hdiv, d5, cx_len, Int.toNat_natCast, cx_getD hi, cx_getD hin, cx_free]
      refine call_ok (RRoot.ok ws inv (i % H * u) u1 (hbig _ u1)) rfl ?_
      simp only [evA, evT, evD, seval]
      refine call_ok (Up.ok bits s mode (xs.getD i (0, 0)) (xs.getD (i + H) (0, 0)) (rootV ws inv (i % H * u)) hset (near_get hx hi) (near_get hx hin) hr1) rfl ?_
      simp only [evA, evB, evT, evD, seval, cx_len, hti, hi1, hi2, cx_push, hpush, q1]
      refine hK _ (weak_of (fun l => l + 2) rfl ?_ ?_)
      all_goals simp only [evA, evB, evT, evD, seval, cx_free]
    · have e : tV inv bits s mode xs ws H u i = tD bits s mode (xs.getD (i - H) (0, 0)) (xs.getD i (0, 0)) (rootV ws inv (i % H * u)) := by
        unfold tV
        rw [if_neg (by omega)]
      rw [e] at hpush
      rw [hm] at c1
      have d0 : ¬ ((i % H + H : Nat) : Int) < (H : Int) := by omega
      have d1 : IntKind.i64.wrap ((i : Int) - (H : Int)) = ((i - H : Nat) : Int) := by rw [wr (by omega)]; omega
      have d2 : ((i - H : Nat) : Int) < xs.length := by omega
      have d3 : (0 : Int) ≤ ((i - H : Nat) : Int) := by omega
      have d4 : IntKind.i64.wrap (((i % H + H : Nat) : Int) - (H : Int)) = ((i % H : Nat) : Int) := by rw [wr (by omega)]; omega
      have hin' : i - H < xs.length := by omega
      simp only [evA, evT, evD, seval, q0, q2, m2, hnz, c1, d0, d1, d2, d3, d4, hdiv, d5, cx_len, Int.toNat_natCast, cx_getD hi, cx_getD hin', cx_free]
      refine call_ok (RRoot.ok ws inv (i % H * u) u1 (hbig _ u1)) rfl ?_
      simp only [evA, evT, evD, seval]
      refine call_ok (Down.ok bits s mode (xs.getD (i - H) (0, 0)) (xs.getD i (0, 0)) (rootV ws inv (i % H * u)) hset (near_get hx hin') (near_get hx hi) hr1) rfl ?_
      simp only [evA, evB, evT, evD, seval, cx_len, hti, hi1, hi2, cx_push, hpush, q1]
      refine hK _ (weak_of (fun l => l + 2) rfl ?_ ?_)
      all_goals simp only [evA, evB, evT, evD, seval, cx_free]
  · have : (t2V inv bits s mode xs ws H u).take xs.length = t2V inv bits s mode xs ws H u := List.take_of_length_le (by rw [t2V_len]; exact Nat.le_refl _)
    simp only [evA, evT, evD, seval, cx_free, this]
end Go.Proofs.YtnnjjblgilibgaaGreatV

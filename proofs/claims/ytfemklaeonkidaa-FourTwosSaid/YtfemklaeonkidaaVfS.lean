import Derived.Test.YtfemklaeonkidaaVfR
/- Contract: a pass of kernel 2. -/
namespace Go.Proofs.YtfemklaeonkidaaV
open Go Go.RowKit
set_option linter.unusedVariables false
set_option linter.unusedSimpArgs false
set_option maxRecDepth 100000
set_option maxHeartbeats 40000000
theorem fine43 : Fine Try.prog 43 := fun _ _ => by kernel_rfl
section
variable (inv : Bool) (bits s mode : Int) (xs ws : List (Int × Int)) (H u : Nat)
/-- Number m behind a pass. -/
def tV (m : Nat) : Int × Int := if (m / H) % 2 = 0 then tU bits s mode (xs.getD m (0, 0)) (xs.getD (m + H) (0, 0)) (rootV ws inv (m % H * u)) else tD bits s mode (xs.getD (m - H) (0, 0)) (xs.getD m (0, 0)) (rootV ws inv (m % H * u))
def t2V : List (Int × Int) := mix xs (tV inv bits s mode xs ws H u) fun _ => true
theorem t2V_len : (t2V inv bits s mode xs ws H u).length = xs.length := mix_len
/-- A pair's two numbers are set. -/
def tS (o : List (Int × Int)) (i k : Nat) : List (Int × Int) := (o.set i (tU bits s mode (xs.getD i (0, 0)) (xs.getD (i + H) (0, 0)) (rootV ws inv k))).set (i + H) (tD bits s mode (xs.getD i (0, 0)) (xs.getD (i + H) (0, 0)) (rootV ws inv k))
def tF {n h : Int} (pre : List (PairAt n h)) : List (Int × Int) := pre.foldl (fun o x => tS inv bits s mode xs ws H o x.i.toNat x.j.toNat) xs
theorem tF_nil {n h : Int} : tF inv bits s mode xs ws H ([] : List (PairAt n h)) = xs := rfl
theorem tF_snoc {n h : Int} (pre : List (PairAt n h)) (x : PairAt n h) : tF inv bits s mode xs ws H (pre ++ [x]) = tS inv bits s mode xs ws H (tF inv bits s mode xs ws H pre) x.i.toNat x.j.toNat := by
  unfold tF
  rw [List.foldl_append]
  rfl
theorem tF_len {n h : Int} (pre : List (PairAt n h)) : (tF inv bits s mode xs ws H pre).length = xs.length := by
  unfold tF
  have : ∀ (pre : List (PairAt n h)) (o : List (Int × Int)), (pre.foldl (fun o x => tS inv bits s mode xs ws H o x.i.toNat x.j.toNat) o).length = o.length := by
    intro pre
    induction pre with
    | nil => intro o; rfl
    | cons x r ih => intro o; rw [List.foldl_cons, ih]; simp [tS]
  exact this pre xs
def tP (k m : Nat) : Bool := decide (m - H * ((m / H) % 2) < k)
theorem first_iff {k : Nat} : isFirst (H : Int) k = true ↔ (k / H) % 2 = 0 := by
  unfold isFirst
  rw [beq_iff_eq, ← Int.natCast_ediv]
  omega
theorem pairJ_nat {k : Nat} (hn : xs.length = 2 * H * u) (hH : 0 < H) : pairJ (xs.length : Int) (H : Int) k = ((k % H * u : Nat) : Int) := by
  unfold pairJ
  rw [← Int.natCast_emod, hn, show (2 : Int) * (H : Int) = ((2 * H : Nat) : Int) by omega, ← Int.natCast_ediv, Nat.mul_div_cancel_left _ (by omega), Int.natCast_mul]
theorem tF_to {k : Nat} (hH : 0 < H) (hn : xs.length = 2 * H * u) (hk : halfOk (xs.length : Int) (H : Int)) (hl : (k : Int) ≤ xs.length) : tF inv bits s mode xs ws H (pairsTo hk k hl) = mix xs (tV inv bits s mode xs ws H u) (tP H k) := by
  induction k with
  | zero =>
    rw [pairsTo, tF_nil]
    exact (mix_none fun i _ => by simp [tP]).symm
  | succ k ih =>
    have ih := ih (by omega)
    have hd := Nat.div_add_mod k H
    have hmod := Nat.mod_lt k hH
    have hsub : ∀ m : Nat, (m / H) % 2 = 0 ∨ ((m / H) % 2 = 1 ∧ H ≤ m ∧ ((m - H) / H) % 2 = 0) := by
      intro m
      rcases Nat.mod_two_eq_zero_or_one (m / H) with e | e
      · exact .inl e
      · right
        have h1 : H ≤ m := by
          rcases Nat.lt_or_ge m H with h | h
          · rw [Nat.div_eq_of_lt h] at e; omega
          · exact h
        have h2 : m / H = (m - H) / H + 1 := by
          have := Nat.add_div_right (m - H) hH
          rwa [Nat.sub_add_cancel h1] at this
        exact ⟨e, h1, by omega⟩
    rw [pairsTo]
    split
    · rename_i hf
      have hc := (first_iff H).1 hf
      have hf2 := ((half_fact hk k (by omega)).2.2 hf).1
      have hkn : k + H < xs.length := by omega
      have e1 : (k + H) / H = k / H + 1 := Nat.add_div_right k hH
      have e2 : (k + H) % H = k % H := Nat.add_mod_right k H
      rw [tF_snoc, ih]
      unfold tS
      simp only [Int.toNat_natCast, pairJ_nat xs H u hn hH]
      have t1 : tU bits s mode (xs.getD k (0, 0)) (xs.getD (k + H) (0, 0)) (rootV ws inv (k % H * u)) = tV inv bits s mode xs ws H u k := by
        unfold tV
        rw [if_pos hc]
      have t2 : tD bits s mode (xs.getD k (0, 0)) (xs.getD (k + H) (0, 0)) (rootV ws inv (k % H * u)) = tV inv bits s mode xs ws H u (k + H) := by
        unfold tV
        rw [if_neg (by rw [e1]; omega), e2, Nat.add_sub_cancel]
      rw [mix_set (by omega) t1, mix_set hkn t2]
      refine mix_eq (fun m hm => ?_) fun _ _ _ => rfl
      rw [Bool.eq_iff_iff]
      unfold tP
      simp only [Bool.or_eq_true, decide_eq_true_eq]
      rcases hsub m with e | ⟨e, h1, h2⟩
      · rw [e]
        constructor
        · rintro ((h | rfl) | rfl)
          · omega
          · omega
          · rw [e1] at e; omega
        · intro h
          rcases Nat.lt_or_ge m k with h' | h'
          · exact .inl (.inl (by omega))
          · exact .inl (.inr (by omega))
      · rw [e]
        constructor
        · rintro ((h | rfl) | rfl)
          · omega
          · omega
          · omega
        · intro h
          rcases Nat.lt_or_ge (m - H) k with h' | h'
          · exact .inl (.inl (by omega))
          · exact .inr (by omega)
    · rename_i hf
      have hc : ¬ (k / H) % 2 = 0 := fun h => hf ((first_iff H).2 h)
      rw [ih]
      refine mix_eq (fun m hm => ?_) fun _ _ _ => rfl
      rw [Bool.eq_iff_iff]
      unfold tP
      simp only [decide_eq_true_eq]
      rcases hsub m with e | ⟨e, h1, h2⟩
      · rw [e]
        constructor
        · omega
        · intro h
          rcases Nat.lt_or_ge m k with h' | h'
          · omega
          · exfalso
            obtain rfl : m = k := by omega
            exact hc e
      · rw [e]
        constructor
        · omega
        · intro h
          rcases Nat.lt_or_ge (m - H) k with h' | h'
          · omega
          · exfalso
            have : m - H = k := by omega
            rw [this] at h2
            exact hc h2
theorem tF_all (hH : 0 < H) (hn : xs.length = 2 * H * u) (hk : halfOk (xs.length : Int) (H : Int)) (hl : ((xs.length : Int).toNat : Int) ≤ xs.length) : tF inv bits s mode xs ws H (pairsTo hk (xs.length : Int).toNat hl) = t2V inv bits s mode xs ws H u := by
  rw [tF_to inv bits s mode xs ws H u hH hn hk hl]
  refine mix_eq (fun m hm => ?_) fun _ _ _ => rfl
  unfold tP
  generalize H * (m / H % 2) = Y
  rw [Int.toNat_natCast]
  exact decide_eq_true (by omega)
end
theorem half_nat {h n : Int} (hn : lens n) (hq : half h n) : ∃ H u : Nat, h = H ∧ 0 < H ∧ H ≤ 32 ∧ n = ((2 * H * u : Nat) : Int) ∧ 0 < u ∧ u ≤ 32 ∧ Go.bits .and .i64 h (h - 1) = 0 ∧ halfOk n h := by
  obtain ⟨h1, h2⟩ := hq
  have hh : h = 1 ∨ h = 2 ∨ h = 4 ∨ h = 8 ∨ h = 16 ∨ h = 32 := by unfold lens at hn; omega
  have hok : halfOk n h := ⟨hn, hh, h1⟩
  rcases hn with rfl | rfl | rfl | rfl | rfl <;> rcases hh with rfl | rfl | rfl | rfl | rfl | rfl <;> first
    | (exfalso; omega)
    | exact ⟨1, 2, rfl, by decide, by decide, rfl, by decide, by decide, by decide, hok⟩ | exact ⟨1, 4, rfl, by decide, by decide, rfl, by decide, by decide, by decide, hok⟩ | exact ⟨1, 8, rfl, by decide, by decide, rfl, by decide, by decide, by decide, hok⟩ | exact ⟨1, 16, rfl, by decide, by decide, rfl, by decide, by decide, by decide, hok⟩ | exact ⟨1, 32, rfl, by decide, by decide, rfl, by decide, by decide, by decide, hok⟩
    | exact ⟨2, 1, rfl, by decide, by decide, rfl, by decide, by decide, by decide, hok⟩ | exact ⟨2, 2, rfl, by decide, by decide, rfl, by decide, by decide, by decide, hok⟩ | exact ⟨2, 4, rfl, by decide, by decide, rfl, by decide, by decide, by decide, hok⟩ | exact ⟨2, 8, rfl, by decide, by decide, rfl, by decide, by decide, by decide, hok⟩ | exact ⟨2, 16, rfl, by decide, by decide, rfl, by decide, by decide, by decide, hok⟩
    | exact ⟨4, 1, rfl, by decide, by decide, rfl, by decide, by decide, by decide, hok⟩ | exact ⟨4, 2, rfl, by decide, by decide, rfl, by decide, by decide, by decide, hok⟩ | exact ⟨4, 4, rfl, by decide, by decide, rfl, by decide, by decide, by decide, hok⟩ | exact ⟨4, 8, rfl, by decide, by decide, rfl, by decide, by decide, by decide, hok⟩
    | exact ⟨8, 1, rfl, by decide, by decide, rfl, by decide, by decide, by decide, hok⟩ | exact ⟨8, 2, rfl, by decide, by decide, rfl, by decide, by decide, by decide, hok⟩ | exact ⟨8, 4, rfl, by decide, by decide, rfl, by decide, by decide, by decide, hok⟩
    | exact ⟨16, 1, rfl, by decide, by decide, rfl, by decide, by decide, by decide, hok⟩ | exact ⟨16, 2, rfl, by decide, by decide, rfl, by decide, by decide, by decide, hok⟩
    | exact ⟨32, 1, rfl, by decide, by decide, rfl, by decide, by decide, by decide, hok⟩
theorem and_tab : ((List.range 64).all fun h => h == 0 || (h == 1 || h == 2 || h == 4 || h == 8 || h == 16 || h == 32) || !(Go.bits .and .i64 (h : Int) ((h : Int) - 1) == 0)) = true := by decide +kernel
theorem half_not {h n : Int} (hn : lens n) (hq : ¬ half h n) : h < 1 ∨ (¬ h < 1 ∧ n ≤ h) ∨ (¬ h < 1 ∧ ¬ n ≤ h ∧ IntKind.i64.wrap (h - 1) = h - 1 ∧ ¬ Go.bits .and .i64 h (h - 1) = 0) := by
  by_cases h1 : h < 1
  · exact .inl h1
  by_cases h2 : n ≤ h
  · exact .inr (.inl ⟨h1, h2⟩)
  have hn64 : n ≤ 64 := by unfold lens at hn; omega
  refine .inr (.inr ⟨h1, h2, wr (by omega), fun hz => hq ?_⟩)
  obtain ⟨k, rfl⟩ : ∃ k : Nat, h = k := ⟨h.toNat, by omega⟩
  have := (List.all_eq_true.1 and_tab) k (List.mem_range.2 (by omega))
  rw [hz] at this
  simp at this
  unfold half
  omega
section
variable (inv : Bool) (h bits s mode : Int) (xs ws : List (Int × Int)) (hl : xs.length ≤ 1000000) (hw : ws.length ≤ 1000000)
include hl hw
omit hw in
theorem twoPass.no (e : Int) (he : Why (half h xs.length) xs ws bits s mode e) :
    Ok Try.prog 43 [.sl 2 (cxRows xs), .sl 2 (cxRows ws), .int h, .int bits, .int s, .int mode, .bool inv] (.tup [.raw (.slice none 0 0), .int e]) := by
  refine ok_of (X := fun r => if Nat.beq r 20 then [[], [], [], [], [], [], [], [], [], [.tmp 20, .tmp 9, .tmp 24, .tmp 25], [], [.tmp 20, .tmp 9, .tmp 24, .tmp 25]] else []) (Z := fun _ => false) (res := [ResultVar.tmp 14, ResultVar.tmp 15]) tok follows Try.func43 rfl rfl fine43 (by kernel_rfl) (by kernel_rfl) ?_
  simp only [evA, evT, Go.undef, aload, astore, afieldAddr, afield, aindex, aindexAddr, abuild, abuildSlice, amakeSlice, aslice, aext, alen, aminmax, minmaxGo, aappend, newsOf, buildCells, cutRows, reps, setCells, AV.cells, allOne, AV.one, Value.oneCell', AV.pure, allPure, AV.free, allFree, rowsFree, Nat.reduceBEq, Nat.reduceAdd, Nat.reduceMul, Nat.reduceSub, Nat.reduceLT, Nat.reduceLeDiff, Int.reduceToNat, reduceIte, reduceCtorEq, Int.reduceLT, Int.reduceLE, Nat.reduceEqDiff, Int.reduceEq, Int.reduceNeg, Int.reduceMul, Int.reduceAdd, Int.reduceSub, Int.reduceBNe, Int.reduceBEq, apart, bnd, cx_len, cx_free]
  rcases he with ⟨h1, rfl⟩ | ⟨h1, h2, rfl⟩ | ⟨h1, h2, h3, rfl⟩ | ⟨h1, h2, ⟨h3, hset⟩, h4, rfl⟩
  · refine call_ok (Log.bad _ h1) rfl ?_
    simp only [evA, evT, Go.undef, aload, astore, afieldAddr, afield, aindex, aindexAddr, abuild, abuildSlice, amakeSlice, aslice, aext, alen, aminmax, minmaxGo, aappend, newsOf, buildCells, cutRows, reps, setCells, AV.cells, allOne, AV.one, Value.oneCell', AV.pure, allPure, AV.free, allFree, rowsFree, Nat.reduceBEq, Nat.reduceAdd, Nat.reduceMul, Nat.reduceSub, Nat.reduceLT, Nat.reduceLeDiff, Int.reduceToNat, reduceIte, reduceCtorEq, Int.reduceLT, Int.reduceLE, Nat.reduceEqDiff, Int.reduceEq, Int.reduceNeg, Int.reduceMul, Int.reduceAdd, Int.reduceSub, Int.reduceBNe, Int.reduceBEq, apart, bnd]
  · refine call_ok (Log.ok _ h1) rfl ?_
    simp only [evA, evT, Go.undef, aload, astore, afieldAddr, afield, aindex, aindexAddr, abuild, abuildSlice, amakeSlice, aslice, aext, alen, aminmax, minmaxGo, aappend, newsOf, buildCells, cutRows, reps, setCells, AV.cells, allOne, AV.one, Value.oneCell', AV.pure, allPure, AV.free, allFree, rowsFree, Nat.reduceBEq, Nat.reduceAdd, Nat.reduceMul, Nat.reduceSub, Nat.reduceLT, Nat.reduceLeDiff, Int.reduceToNat, reduceIte, reduceCtorEq, Int.reduceLT, Int.reduceLE, Nat.reduceEqDiff, Int.reduceEq, Int.reduceNeg, Int.reduceMul, Int.reduceAdd, Int.reduceSub, Int.reduceBNe, Int.reduceBEq, apart, bnd, cx_len, h2]
  · refine call_ok (Log.ok _ h1) rfl ?_
    simp only [evA, evT, Go.undef, aload, astore, afieldAddr, afield, aindex, aindexAddr, abuild, abuildSlice, amakeSlice, aslice, aext, alen, aminmax, minmaxGo, aappend, newsOf, buildCells, cutRows, reps, setCells, AV.cells, allOne, AV.one, Value.oneCell', AV.pure, allPure, AV.free, allFree, rowsFree, Nat.reduceBEq, Nat.reduceAdd, Nat.reduceMul, Nat.reduceSub, Nat.reduceLT, Nat.reduceLeDiff, Int.reduceToNat, reduceIte, reduceCtorEq, Int.reduceLT, Int.reduceLE, Nat.reduceEqDiff, Int.reduceEq, Int.reduceNeg, Int.reduceMul, Int.reduceAdd, Int.reduceSub, Int.reduceBNe, Int.reduceBEq, apart, bnd, cx_len, h2]
    by_cases hq : half h xs.length
    · obtain ⟨H, u, rfl, g1, g2, g3, g4, g5, g6, _⟩ := half_nat h1 hq
      have k1 : ¬ (H : Int) < 1 := by omega
      have k2 : ¬ (xs.length : Int) ≤ H := by have := hq.1; omega
      have k3 : IntKind.i64.wrap ((H : Int) - 1) = H - 1 := wr (by omega)
      simp only [evA, evT, Go.undef, aload, astore, afieldAddr, afield, aindex, aindexAddr, abuild, abuildSlice, amakeSlice, aslice, aext, alen, aminmax, minmaxGo, aappend, newsOf, buildCells, cutRows, reps, setCells, AV.cells, allOne, AV.one, Value.oneCell', AV.pure, allPure, AV.free, allFree, rowsFree, Nat.reduceBEq, Nat.reduceAdd, Nat.reduceMul, Nat.reduceSub, Nat.reduceLT, Nat.reduceLeDiff, Int.reduceToNat, reduceIte, reduceCtorEq, Int.reduceLT, Int.reduceLE, Nat.reduceEqDiff, Int.reduceEq, Int.reduceNeg, Int.reduceMul, Int.reduceAdd, Int.reduceSub, Int.reduceBNe, Int.reduceBEq, apart, bnd, k1, k2, k3, g6]
      refine call_ok (settings2.ok bits s mode) rfl ?_
      simp only [evA, evT, Go.undef, aload, astore, afieldAddr, afield, aindex, aindexAddr, abuild, abuildSlice, amakeSlice, aslice, aext, alen, aminmax, minmaxGo, aappend, newsOf, buildCells, cutRows, reps, setCells, AV.cells, allOne, AV.one, Value.oneCell', AV.pure, allPure, AV.free, allFree, rowsFree, Nat.reduceBEq, Nat.reduceAdd, Nat.reduceMul, Nat.reduceSub, Nat.reduceLT, Nat.reduceLeDiff, Int.reduceToNat, reduceIte, reduceCtorEq, Int.reduceLT, Int.reduceLE, Nat.reduceEqDiff, Int.reduceEq, Int.reduceNeg, Int.reduceMul, Int.reduceAdd, Int.reduceSub, Int.reduceBNe, Int.reduceBEq, apart, bnd, show ¬ setP bits s mode from fun g => h3 ⟨hq, g⟩]
    · rcases half_not h1 hq with k1 | ⟨k1, k2⟩ | ⟨k1, k2, k3, k4⟩
      · simp only [evA, evT, Go.undef, aload, astore, afieldAddr, afield, aindex, aindexAddr, abuild, abuildSlice, amakeSlice, aslice, aext, alen, aminmax, minmaxGo, aappend, newsOf, buildCells, cutRows, reps, setCells, AV.cells, allOne, AV.one, Value.oneCell', AV.pure, allPure, AV.free, allFree, rowsFree, Nat.reduceBEq, Nat.reduceAdd, Nat.reduceMul, Nat.reduceSub, Nat.reduceLT, Nat.reduceLeDiff, Int.reduceToNat, reduceIte, reduceCtorEq, Int.reduceLT, Int.reduceLE, Nat.reduceEqDiff, Int.reduceEq, Int.reduceNeg, Int.reduceMul, Int.reduceAdd, Int.reduceSub, Int.reduceBNe, Int.reduceBEq, apart, bnd, k1]
      · simp only [evA, evT, Go.undef, aload, astore, afieldAddr, afield, aindex, aindexAddr, abuild, abuildSlice, amakeSlice, aslice, aext, alen, aminmax, minmaxGo, aappend, newsOf, buildCells, cutRows, reps, setCells, AV.cells, allOne, AV.one, Value.oneCell', AV.pure, allPure, AV.free, allFree, rowsFree, Nat.reduceBEq, Nat.reduceAdd, Nat.reduceMul, Nat.reduceSub, Nat.reduceLT, Nat.reduceLeDiff, Int.reduceToNat, reduceIte, reduceCtorEq, Int.reduceLT, Int.reduceLE, Nat.reduceEqDiff, Int.reduceEq, Int.reduceNeg, Int.reduceMul, Int.reduceAdd, Int.reduceSub, Int.reduceBNe, Int.reduceBEq, apart, bnd, k1, k2]
      · simp only [evA, evT, Go.undef, aload, astore, afieldAddr, afield, aindex, aindexAddr, abuild, abuildSlice, amakeSlice, aslice, aext, alen, aminmax, minmaxGo, aappend, newsOf, buildCells, cutRows, reps, setCells, AV.cells, allOne, AV.one, Value.oneCell', AV.pure, allPure, AV.free, allFree, rowsFree, Nat.reduceBEq, Nat.reduceAdd, Nat.reduceMul, Nat.reduceSub, Nat.reduceLT, Nat.reduceLeDiff, Int.reduceToNat, reduceIte, reduceCtorEq, Int.reduceLT, Int.reduceLE, Nat.reduceEqDiff, Int.reduceEq, Int.reduceNeg, Int.reduceMul, Int.reduceAdd, Int.reduceSub, Int.reduceBNe, Int.reduceBEq, apart, bnd, k1, k2, k3, k4]
  · obtain ⟨H, u, rfl, g1, g2, g3, g4, g5, g6, _⟩ := half_nat h1 h3
    have k1 : ¬ (H : Int) < 1 := by omega
    have k2 : ¬ (xs.length : Int) ≤ H := by have := h3.1; omega
    have k3 : IntKind.i64.wrap ((H : Int) - 1) = H - 1 := wr (by omega)
    refine call_ok (Log.ok _ h1) rfl ?_
    simp only [evA, evT, Go.undef, aload, astore, afieldAddr, afield, aindex, aindexAddr, abuild, abuildSlice, amakeSlice, aslice, aext, alen, aminmax, minmaxGo, aappend, newsOf, buildCells, cutRows, reps, setCells, AV.cells, allOne, AV.one, Value.oneCell', AV.pure, allPure, AV.free, allFree, rowsFree, Nat.reduceBEq, Nat.reduceAdd, Nat.reduceMul, Nat.reduceSub, Nat.reduceLT, Nat.reduceLeDiff, Int.reduceToNat, reduceIte, reduceCtorEq, Int.reduceLT, Int.reduceLE, Nat.reduceEqDiff, Int.reduceEq, Int.reduceNeg, Int.reduceMul, Int.reduceAdd, Int.reduceSub, Int.reduceBNe, Int.reduceBEq, apart, bnd, cx_len, h2, k1, k2, k3, g6]
    refine call_ok (settings2.ok bits s mode) rfl ?_
    simp only [evA, evT, Go.undef, aload, astore, afieldAddr, afield, aindex, aindexAddr, abuild, abuildSlice, amakeSlice, aslice, aext, alen, aminmax, minmaxGo, aappend, newsOf, buildCells, cutRows, reps, setCells, AV.cells, allOne, AV.one, Value.oneCell', AV.pure, allPure, AV.free, allFree, rowsFree, Nat.reduceBEq, Nat.reduceAdd, Nat.reduceMul, Nat.reduceSub, Nat.reduceLT, Nat.reduceLeDiff, Int.reduceToNat, reduceIte, reduceCtorEq, Int.reduceLT, Int.reduceLE, Nat.reduceEqDiff, Int.reduceEq, Int.reduceNeg, Int.reduceMul, Int.reduceAdd, Int.reduceSub, Int.reduceBNe, Int.reduceBEq, apart, bnd, decide_eq_true hset, cx_free]
    by_cases hx : nears 2147483648 xs
    · refine call_ok (contains.no 74 [] (fun x => ¬ win 2147483648 x.1 x.2) xs (by omega) (fun _ => rfl) (fun _ => rfl) rfl (fun x _ => tPass1.ok x.1 x.2) (fun x hx' hn => hn (hx x hx'))) rfl ?_
      simp only [evA, evT, Go.undef, aload, astore, afieldAddr, afield, aindex, aindexAddr, abuild, abuildSlice, amakeSlice, aslice, aext, alen, aminmax, minmaxGo, aappend, newsOf, buildCells, cutRows, reps, setCells, AV.cells, allOne, AV.one, Value.oneCell', AV.pure, allPure, AV.free, allFree, rowsFree, Nat.reduceBEq, Nat.reduceAdd, Nat.reduceMul, Nat.reduceSub, Nat.reduceLT, Nat.reduceLeDiff, Int.reduceToNat, reduceIte, reduceCtorEq, Int.reduceLT, Int.reduceLE, Nat.reduceEqDiff, Int.reduceEq, Int.reduceNeg, Int.reduceMul, Int.reduceAdd, Int.reduceSub, Int.reduceBNe, Int.reduceBEq, apart, bnd, cx_free]
      refine call_ok (contains.yes 75 [.box [.int bits] 0] (fun x => ¬ win (2 ^ bits.toNat) x.1 x.2) ws (by omega) (fun _ => rfl) (fun _ => rfl) rfl (fun x _ => tPass2.ok x.1 x.2 bits hset.1) (Classical.byContradiction fun hn => h4 ⟨hx, fun x hx' => Classical.byContradiction fun hg => hn ⟨x, hx', hg⟩⟩)) rfl ?_
      simp only [evA, evT, Go.undef, aload, astore, afieldAddr, afield, aindex, aindexAddr, abuild, abuildSlice, amakeSlice, aslice, aext, alen, aminmax, minmaxGo, aappend, newsOf, buildCells, cutRows, reps, setCells, AV.cells, allOne, AV.one, Value.oneCell', AV.pure, allPure, AV.free, allFree, rowsFree, Nat.reduceBEq, Nat.reduceAdd, Nat.reduceMul, Nat.reduceSub, Nat.reduceLT, Nat.reduceLeDiff, Int.reduceToNat, reduceIte, reduceCtorEq, Int.reduceLT, Int.reduceLE, Nat.reduceEqDiff, Int.reduceEq, Int.reduceNeg, Int.reduceMul, Int.reduceAdd, Int.reduceSub, Int.reduceBNe, Int.reduceBEq, apart, bnd]
    · refine call_ok (contains.yes 74 [] (fun x => ¬ win 2147483648 x.1 x.2) xs (by omega) (fun _ => rfl) (fun _ => rfl) rfl (fun x _ => tPass1.ok x.1 x.2) (Classical.byContradiction fun hn => hx fun x hx' => Classical.byContradiction fun hg => hn ⟨x, hx', hg⟩)) rfl ?_
      simp only [evA, evT, Go.undef, aload, astore, afieldAddr, afield, aindex, aindexAddr, abuild, abuildSlice, amakeSlice, aslice, aext, alen, aminmax, minmaxGo, aappend, newsOf, buildCells, cutRows, reps, setCells, AV.cells, allOne, AV.one, Value.oneCell', AV.pure, allPure, AV.free, allFree, rowsFree, Nat.reduceBEq, Nat.reduceAdd, Nat.reduceMul, Nat.reduceSub, Nat.reduceLT, Nat.reduceLeDiff, Int.reduceToNat, reduceIte, reduceCtorEq, Int.reduceLT, Int.reduceLE, Nat.reduceEqDiff, Int.reduceEq, Int.reduceNeg, Int.reduceMul, Int.reduceAdd, Int.reduceSub, Int.reduceBNe, Int.reduceBEq, apart, bnd]
end
end Go.Proofs.YtfemklaeonkidaaV

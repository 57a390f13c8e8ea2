import Derived.Test.YtfmhdfaelgkmcaaVdC
import Derived.Test.YtfmhdfaelgkmcaaVrL
/- Contracts: transforms, by the code and by the document. -/
namespace Go.Proofs.YtfmhdfaelgkmcaaV
open Go Go.RowKit
set_option linter.unusedVariables false
set_option linter.unusedSimpArgs false
set_option maxRecDepth 100000
set_option maxHeartbeats 40000000
theorem fine83 : Fine Try.prog 83 := fun _ _ => by kernel_rfl
theorem fine45 : Fine Try.prog 45 := fun _ _ => by kernel_rfl
theorem fine53 : Fine Try.prog 53 := fun _ _ => by kernel_rfl
theorem fine47 : Fine Try.prog 47 := fun _ _ => by kernel_rfl
theorem fine46 : Fine Try.prog 46 := fun _ _ => by kernel_rfl
/-- Why numbers may not be. -/
def whyD (xs : List (Int × Int)) : Int := if ¬ lens xs.length then 3 else if ¬ nears 2147483648 xs then 2 else 0
theorem lens_log {n : Nat} (h : lens n) : ∃ log : Nat, (2 ≤ log ∧ log ≤ 6) ∧ n = 2 ^ log ∧ lg n = log := by
  have hc : n = 4 ∨ n = 8 ∨ n = 16 ∨ n = 32 ∨ n = 64 := by unfold lens at h; omega
  rcases hc with rfl | rfl | rfl | rfl | rfl
  · exact ⟨2, by decide, rfl, by decide⟩
  · exact ⟨3, by decide, rfl, by decide⟩
  · exact ⟨4, by decide, rfl, by decide⟩
  · exact ⟨5, by decide, rfl, by decide⟩
  · exact ⟨6, by decide, rfl, by decide⟩
/-- Numbers that may be. -/
def mayD (xs : List (Int × Int)) (log : Nat) : Prop := (2 ≤ log ∧ log ≤ 6) ∧ xs.length = 2 ^ log ∧ lens xs.length ∧ lg xs.length = log ∧ nears 2147483648 xs
theorem may_or (xs : List (Int × Int)) : (whyD xs = 0 ∧ ∃ log, mayD xs log) ∨ (whyD xs = 3 ∧ ¬ lens xs.length) ∨ (whyD xs = 2 ∧ lens xs.length ∧ ¬ nears 2147483648 xs) := by
  unfold whyD
  by_cases h : lens xs.length
  · rw [if_neg (fun g => g h)]
    by_cases g : nears 2147483648 xs
    · rw [if_neg (fun f => f g)]
      obtain ⟨log, h1, h2, h3⟩ := lens_log h
      exact .inl ⟨rfl, log, h1, h2, h, h3, g⟩
    · rw [if_pos g]
      exact .inr (.inr ⟨rfl, h, g⟩)
  · rw [if_pos h]
    exact .inr (.inl ⟨rfl, h⟩)
theorem pow64 {log : Nat} (h : 2 ≤ log ∧ log ≤ 6) : 4 ≤ 2 ^ log ∧ 2 ^ log ≤ 64 := by
  have h1 : (2 : Nat) ^ log ≤ 2 ^ 6 := Nat.pow_le_pow_right (by decide) h.2
  have h2 : (2 : Nat) ^ 2 ≤ 2 ^ log := Nat.pow_le_pow_right (by decide) h.1
  omega
theorem tab_len {log : Nat} {bits : Int} : (tabV log bits).length = 2 ^ log := by unfold tabV; rw [fillL_len]
theorem tab_get {log : Nat} {bits : Int} {i : Nat} (h : i < 2 ^ log) : (tabV log bits).getD i (0, 0) = rW log i bits := by
  rw [getD_at (by rw [tab_len]; exact h)]
  unfold tabV fillL
  simp [h]
theorem tab_near {log : Nat} {bits : Int} (hl : log ≤ 6) (hb : 0 ≤ bits ∧ bits ≤ 40) : nears (2 ^ bits.toNat) (tabV log bits) := by
  intro x hx
  unfold tabV fillL at hx
  obtain ⟨k, hk, rfl⟩ := List.mem_map.1 hx
  rw [List.mem_range] at hk
  rw [if_pos hk]
  exact rW_le log k bits hl hb
theorem tab_40 {log : Nat} (hl : log ≤ 6) : nears 1099511627776 (tabV log 40) := tab_near (bits := 40) hl (by decide)
theorem may.ok (xs : List (Int × Int)) (log : Nat) (h : mayD xs log) : Ok Try.prog 83 [.sl 2 (cxRows xs)] (.tup [.sl 2 (cxRows (tabV log 40)), .int 0]) := by
  obtain ⟨h1, h2, h3, h4, h5⟩ := h
  have := pow64 h1
  have hL := Log.ok xs.length h3
  rw [h4] at hL
  refine ok_of (X := fun _ => []) (Z := fun _ => false) (res := [ResultVar.tmp 2, ResultVar.tmp 3]) tok follows Try.func83 rfl rfl fine83 (by kernel_rfl) (by kernel_rfl) ?_
  simp only [evA, evT, Go.undef, aload, astore, afieldAddr, afield, aindex, aindexAddr, abuild, abuildSlice, amakeSlice, aslice, aext, alen, aminmax, minmaxGo, aappend, newsOf, buildCells, cutRows, reps, setCells, AV.cells, allOne, AV.one, Value.oneCell', AV.pure, allPure, AV.free, allFree, rowsFree, Nat.reduceBEq, Nat.reduceAdd, Nat.reduceMul, Nat.reduceSub, Nat.reduceLT, Nat.reduceLeDiff, Int.reduceToNat, reduceIte, reduceCtorEq, Int.reduceLT, Int.reduceLE, Nat.reduceEqDiff, Int.reduceEq, Int.reduceNeg, Int.reduceMul, Int.reduceAdd, Int.reduceSub, Int.reduceBNe, Int.reduceBEq, apart, bnd, cx_len]
  refine call_ok hL rfl ?_
  simp only [evA, evT, Go.undef, aload, astore, afieldAddr, afield, aindex, aindexAddr, abuild, abuildSlice, amakeSlice, aslice, aext, alen, aminmax, minmaxGo, aappend, newsOf, buildCells, cutRows, reps, setCells, AV.cells, allOne, AV.one, Value.oneCell', AV.pure, allPure, AV.free, allFree, rowsFree, Nat.reduceBEq, Nat.reduceAdd, Nat.reduceMul, Nat.reduceSub, Nat.reduceLT, Nat.reduceLeDiff, Int.reduceToNat, reduceIte, reduceCtorEq, Int.reduceLT, Int.reduceLE, Nat.reduceEqDiff, Int.reduceEq, Int.reduceNeg, Int.reduceMul, Int.reduceAdd, Int.reduceSub, Int.reduceBNe, Int.reduceBEq, apart, bnd, cx_free]
  refine call_ok (Max.ok xs (by omega) h5) rfl ?_
  simp only [evA, evT, Go.undef, aload, astore, afieldAddr, afield, aindex, aindexAddr, abuild, abuildSlice, amakeSlice, aslice, aext, alen, aminmax, minmaxGo, aappend, newsOf, buildCells, cutRows, reps, setCells, AV.cells, allOne, AV.one, Value.oneCell', AV.pure, allPure, AV.free, allFree, rowsFree, Nat.reduceBEq, Nat.reduceAdd, Nat.reduceMul, Nat.reduceSub, Nat.reduceLT, Nat.reduceLeDiff, Int.reduceToNat, reduceIte, reduceCtorEq, Int.reduceLT, Int.reduceLE, Nat.reduceEqDiff, Int.reduceEq, Int.reduceNeg, Int.reduceMul, Int.reduceAdd, Int.reduceSub, Int.reduceBNe, Int.reduceBEq, apart, bnd]
  refine call_ok (Table.ok log 40 h1 (by decide)) (by simp only [evA, evT, Go.undef, aload, astore, afieldAddr, afield, aindex, aindexAddr, abuild, abuildSlice, amakeSlice, aslice, aext, alen, aminmax, minmaxGo, aappend, newsOf, buildCells, cutRows, reps, setCells, AV.cells, allOne, AV.one, Value.oneCell', AV.pure, allPure, AV.free, allFree, rowsFree, Nat.reduceBEq, Nat.reduceAdd, Nat.reduceMul, Nat.reduceSub, Nat.reduceLT, Nat.reduceLeDiff, Int.reduceToNat, reduceIte, reduceCtorEq, Int.reduceLT, Int.reduceLE, Nat.reduceEqDiff, Int.reduceEq, Int.reduceNeg, Int.reduceMul, Int.reduceAdd, Int.reduceSub, Int.reduceBNe, Int.reduceBEq, apart, bnd, cx_free]) ?_
  simp only [evA, evT, Go.undef, aload, astore, afieldAddr, afield, aindex, aindexAddr, abuild, abuildSlice, amakeSlice, aslice, aext, alen, aminmax, minmaxGo, aappend, newsOf, buildCells, cutRows, reps, setCells, AV.cells, allOne, AV.one, Value.oneCell', AV.pure, allPure, AV.free, allFree, rowsFree, Nat.reduceBEq, Nat.reduceAdd, Nat.reduceMul, Nat.reduceSub, Nat.reduceLT, Nat.reduceLeDiff, Int.reduceToNat, reduceIte, reduceCtorEq, Int.reduceLT, Int.reduceLE, Nat.reduceEqDiff, Int.reduceEq, Int.reduceNeg, Int.reduceMul, Int.reduceAdd, Int.reduceSub, Int.reduceBNe, Int.reduceBEq, apart, bnd, cx_free]
theorem may.bad (xs : List (Int × Int)) (hl : xs.length ≤ 1000) (h : ¬ whyD xs = 0) : Ok Try.prog 83 [.sl 2 (cxRows xs)] (.tup [.raw (.slice none 0 0), .int (whyD xs)]) := by
  refine ok_of (X := fun _ => []) (Z := fun _ => false) (res := [ResultVar.tmp 2, ResultVar.tmp 3]) tok follows Try.func83 rfl rfl fine83 (by kernel_rfl) (by kernel_rfl) ?_
  simp only [evA, evT, Go.undef, aload, astore, afieldAddr, afield, aindex, aindexAddr, abuild, abuildSlice, amakeSlice, aslice, aext, alen, aminmax, minmaxGo, aappend, newsOf, buildCells, cutRows, reps, setCells, AV.cells, allOne, AV.one, Value.oneCell', AV.pure, allPure, AV.free, allFree, rowsFree, Nat.reduceBEq, Nat.reduceAdd, Nat.reduceMul, Nat.reduceSub, Nat.reduceLT, Nat.reduceLeDiff, Int.reduceToNat, reduceIte, reduceCtorEq, Int.reduceLT, Int.reduceLE, Nat.reduceEqDiff, Int.reduceEq, Int.reduceNeg, Int.reduceMul, Int.reduceAdd, Int.reduceSub, Int.reduceBNe, Int.reduceBEq, apart, bnd, cx_len]
  rcases may_or xs with ⟨g, _⟩ | ⟨g, g1⟩ | ⟨g, g1, g2⟩
  · exact absurd g h
  · rw [g]
    refine call_ok (Log.bad xs.length g1) rfl ?_
    simp only [evA, evT, Go.undef, aload, astore, afieldAddr, afield, aindex, aindexAddr, abuild, abuildSlice, amakeSlice, aslice, aext, alen, aminmax, minmaxGo, aappend, newsOf, buildCells, cutRows, reps, setCells, AV.cells, allOne, AV.one, Value.oneCell', AV.pure, allPure, AV.free, allFree, rowsFree, Nat.reduceBEq, Nat.reduceAdd, Nat.reduceMul, Nat.reduceSub, Nat.reduceLT, Nat.reduceLeDiff, Int.reduceToNat, reduceIte, reduceCtorEq, Int.reduceLT, Int.reduceLE, Nat.reduceEqDiff, Int.reduceEq, Int.reduceNeg, Int.reduceMul, Int.reduceAdd, Int.reduceSub, Int.reduceBNe, Int.reduceBEq, apart, bnd]
  · rw [g]
    refine call_ok (Log.ok xs.length g1) rfl ?_
    simp only [evA, evT, Go.undef, aload, astore, afieldAddr, afield, aindex, aindexAddr, abuild, abuildSlice, amakeSlice, aslice, aext, alen, aminmax, minmaxGo, aappend, newsOf, buildCells, cutRows, reps, setCells, AV.cells, allOne, AV.one, Value.oneCell', AV.pure, allPure, AV.free, allFree, rowsFree, Nat.reduceBEq, Nat.reduceAdd, Nat.reduceMul, Nat.reduceSub, Nat.reduceLT, Nat.reduceLeDiff, Int.reduceToNat, reduceIte, reduceCtorEq, Int.reduceLT, Int.reduceLE, Nat.reduceEqDiff, Int.reduceEq, Int.reduceNeg, Int.reduceMul, Int.reduceAdd, Int.reduceSub, Int.reduceBNe, Int.reduceBEq, apart, bnd, cx_free]
    refine call_ok (Max.bad xs (by omega) g2) rfl ?_
    simp only [evA, evT, Go.undef, aload, astore, afieldAddr, afield, aindex, aindexAddr, abuild, abuildSlice, amakeSlice, aslice, aext, alen, aminmax, minmaxGo, aappend, newsOf, buildCells, cutRows, reps, setCells, AV.cells, allOne, AV.one, Value.oneCell', AV.pure, allPure, AV.free, allFree, rowsFree, Nat.reduceBEq, Nat.reduceAdd, Nat.reduceMul, Nat.reduceSub, Nat.reduceLT, Nat.reduceLeDiff, Int.reduceToNat, reduceIte, reduceCtorEq, Int.reduceLT, Int.reduceLE, Nat.reduceEqDiff, Int.reduceEq, Int.reduceNeg, Int.reduceMul, Int.reduceAdd, Int.reduceSub, Int.reduceBNe, Int.reduceBEq, apart, bnd]
theorem Bin.ok (xs : List (Int × Int)) (log : Nat) (h : mayD xs log) (k : Int) (inv : Bool) : Ok Try.prog 45 [.sl 2 (cxRows xs), .int k, .bool inv] (.tup [cxA (binV xs (tabV log 40) inv (k % xs.length).toNat).1 (binV xs (tabV log 40) inv (k % xs.length).toNat).2, .int 0]) := by
  obtain ⟨h1, h2, h3, h4, h5⟩ := h
  have hp := pow64 h1
  have hpn : ((2 ^ log : Nat) : Int) = 2 ^ log := by rw [Int.natCast_pow]; rfl
  have e2 : IntKind.i64.wrap ((xs.length : Int) - 1) = 2 ^ log - 1 := by rw [wr (by omega)]; omega
  have hm1 := Int.emod_nonneg k (show (xs.length : Int) ≠ 0 by omega)
  have hm2 := Int.emod_lt_of_pos k (show (0 : Int) < (xs.length : Int) by omega)
  have e3 : Go.bits .and .i64 k (2 ^ log - 1) = (((k % xs.length).toNat : Nat) : Int) := by rw [and_mask64 log (by omega), ← hpn, ← h2]; omega
  refine ok_of (X := fun _ => []) (Z := fun _ => false) (res := [ResultVar.cell 6 23, ResultVar.tmp 7]) tok follows Try.func45 rfl rfl fine45 (by kernel_rfl) (by kernel_rfl) ?_
  simp only [evA, evT, Go.undef, aload, astore, afieldAddr, afield, aindex, aindexAddr, abuild, abuildSlice, amakeSlice, aslice, aext, alen, aminmax, minmaxGo, aappend, newsOf, buildCells, cutRows, reps, setCells, AV.cells, allOne, AV.one, Value.oneCell', AV.pure, allPure, AV.free, allFree, rowsFree, Nat.reduceBEq, Nat.reduceAdd, Nat.reduceMul, Nat.reduceSub, Nat.reduceLT, Nat.reduceLeDiff, Int.reduceToNat, reduceIte, reduceCtorEq, Int.reduceLT, Int.reduceLE, Nat.reduceEqDiff, Int.reduceEq, Int.reduceNeg, Int.reduceMul, Int.reduceAdd, Int.reduceSub, Int.reduceBNe, Int.reduceBEq, apart, bnd, cx_free]
  refine call_ok (may.ok xs log ⟨h1, h2, h3, h4, h5⟩) (by simp only [evA, evT, Go.undef, aload, astore, afieldAddr, afield, aindex, aindexAddr, abuild, abuildSlice, amakeSlice, aslice, aext, alen, aminmax, minmaxGo, aappend, newsOf, buildCells, cutRows, reps, setCells, AV.cells, allOne, AV.one, Value.oneCell', AV.pure, allPure, AV.free, allFree, rowsFree, Nat.reduceBEq, Nat.reduceAdd, Nat.reduceMul, Nat.reduceSub, Nat.reduceLT, Nat.reduceLeDiff, Int.reduceToNat, reduceIte, reduceCtorEq, Int.reduceLT, Int.reduceLE, Nat.reduceEqDiff, Int.reduceEq, Int.reduceNeg, Int.reduceMul, Int.reduceAdd, Int.reduceSub, Int.reduceBNe, Int.reduceBEq, apart, bnd, cx_free]) ?_
  simp only [evA, evT, Go.undef, aload, astore, afieldAddr, afield, aindex, aindexAddr, abuild, abuildSlice, amakeSlice, aslice, aext, alen, aminmax, minmaxGo, aappend, newsOf, buildCells, cutRows, reps, setCells, AV.cells, allOne, AV.one, Value.oneCell', AV.pure, allPure, AV.free, allFree, rowsFree, Nat.reduceBEq, Nat.reduceAdd, Nat.reduceMul, Nat.reduceSub, Nat.reduceLT, Nat.reduceLeDiff, Int.reduceToNat, reduceIte, reduceCtorEq, Int.reduceLT, Int.reduceLE, Nat.reduceEqDiff, Int.reduceEq, Int.reduceNeg, Int.reduceMul, Int.reduceAdd, Int.reduceSub, Int.reduceBNe, Int.reduceBEq, apart, bnd, cx_free, cx_len, e2, e3]
  refine call_ok (bin.ok xs (tabV log 40) inv log (k % xs.length).toNat h1 h2 tab_len (by omega) h5 (tab_40 h1.2)) rfl ?_
  simp only [evA, evT, Go.undef, aload, astore, afieldAddr, afield, aindex, aindexAddr, abuild, abuildSlice, amakeSlice, aslice, aext, alen, aminmax, minmaxGo, aappend, newsOf, buildCells, cutRows, reps, setCells, AV.cells, allOne, AV.one, Value.oneCell', AV.pure, allPure, AV.free, allFree, rowsFree, Nat.reduceBEq, Nat.reduceAdd, Nat.reduceMul, Nat.reduceSub, Nat.reduceLT, Nat.reduceLeDiff, Int.reduceToNat, reduceIte, reduceCtorEq, Int.reduceLT, Int.reduceLE, Nat.reduceEqDiff, Int.reduceEq, Int.reduceNeg, Int.reduceMul, Int.reduceAdd, Int.reduceSub, Int.reduceBNe, Int.reduceBEq, apart, bnd]
theorem Bin.bad (xs : List (Int × Int)) (hl : xs.length ≤ 1000) (h : ¬ whyD xs = 0) (k : Int) (inv : Bool) : Ok Try.prog 45 [.sl 2 (cxRows xs), .int k, .bool inv] (.tup [cxA 0 0, .int (whyD xs)]) := by
  have hw : ¬ whyD xs = 0 := h
  refine ok_of (X := fun _ => []) (Z := fun _ => false) (res := [ResultVar.cell 6 23, ResultVar.tmp 7]) tok follows Try.func45 rfl rfl fine45 (by kernel_rfl) (by kernel_rfl) ?_
  simp only [evA, evT, Go.undef, aload, astore, afieldAddr, afield, aindex, aindexAddr, abuild, abuildSlice, amakeSlice, aslice, aext, alen, aminmax, minmaxGo, aappend, newsOf, buildCells, cutRows, reps, setCells, AV.cells, allOne, AV.one, Value.oneCell', AV.pure, allPure, AV.free, allFree, rowsFree, Nat.reduceBEq, Nat.reduceAdd, Nat.reduceMul, Nat.reduceSub, Nat.reduceLT, Nat.reduceLeDiff, Int.reduceToNat, reduceIte, reduceCtorEq, Int.reduceLT, Int.reduceLE, Nat.reduceEqDiff, Int.reduceEq, Int.reduceNeg, Int.reduceMul, Int.reduceAdd, Int.reduceSub, Int.reduceBNe, Int.reduceBEq, apart, bnd, cx_free]
  refine call_ok (may.bad xs hl h) rfl ?_
  simp only [evA, evT, Go.undef, aload, astore, afieldAddr, afield, aindex, aindexAddr, abuild, abuildSlice, amakeSlice, aslice, aext, alen, aminmax, minmaxGo, aappend, newsOf, buildCells, cutRows, reps, setCells, AV.cells, allOne, AV.one, Value.oneCell', AV.pure, allPure, AV.free, allFree, rowsFree, Nat.reduceBEq, Nat.reduceAdd, Nat.reduceMul, Nat.reduceSub, Nat.reduceLT, Nat.reduceLeDiff, Int.reduceToNat, reduceIte, reduceCtorEq, Int.reduceLT, Int.reduceLE, Nat.reduceEqDiff, Int.reduceEq, Int.reduceNeg, Int.reduceMul, Int.reduceAdd, Int.reduceSub, Int.reduceBNe, Int.reduceBEq, apart, bnd, hw]
/-- How far a bin may be from the exact one. -/
def slackV (xs : List (Int × Int)) : Int := 2 * xs.length * gm xs xs.length / 4294967296 + 2
theorem Slack.ok (xs : List (Int × Int)) (log : Nat) (h : mayD xs log) : Ok Try.prog 47 [.sl 2 (cxRows xs)] (.tup [.int (slackV xs), .int 0]) := by
  obtain ⟨h1, h2, h3, h4, h5⟩ := h
  have hp := pow64 h1
  have hg := gm_bd h5 xs.length (Nat.le_refl _)
  have m := mulabs (x := 2 * (xs.length : Int)) (y := gm xs xs.length) (N := 128) (M := 2147483648) (by omega) (by omega)
  have e1 : IntKind.i64.wrap (2 * (xs.length : Int)) = 2 * xs.length := wr (by omega)
  have e2 : IntKind.i64.wrap (2 * (xs.length : Int) * gm xs xs.length) = 2 * xs.length * gm xs xs.length := wr (by omega)
  have e3 : ∀ x : Int, x.fdiv (2 ^ min 32 IntKind.i64.bits) = x / 4294967296 := fun x => by rw [fd (show 32 ≤ 62 by decide)]; rfl
  have e4 : IntKind.i64.wrap (2 * (xs.length : Int) * gm xs xs.length / 4294967296 + 2) = slackV xs := by rw [wr (by omega)]; rfl
  refine ok_of (X := fun _ => []) (Z := fun _ => false) (res := [ResultVar.tmp 2, ResultVar.tmp 3]) tok follows Try.func47 rfl rfl fine47 (by kernel_rfl) (by kernel_rfl) ?_
  simp only [evA, evT, Go.undef, aload, astore, afieldAddr, afield, aindex, aindexAddr, abuild, abuildSlice, amakeSlice, aslice, aext, alen, aminmax, minmaxGo, aappend, newsOf, buildCells, cutRows, reps, setCells, AV.cells, allOne, AV.one, Value.oneCell', AV.pure, allPure, AV.free, allFree, rowsFree, Nat.reduceBEq, Nat.reduceAdd, Nat.reduceMul, Nat.reduceSub, Nat.reduceLT, Nat.reduceLeDiff, Int.reduceToNat, reduceIte, reduceCtorEq, Int.reduceLT, Int.reduceLE, Nat.reduceEqDiff, Int.reduceEq, Int.reduceNeg, Int.reduceMul, Int.reduceAdd, Int.reduceSub, Int.reduceBNe, Int.reduceBEq, apart, bnd, cx_free]
  refine call_ok (may.ok xs log ⟨h1, h2, h3, h4, h5⟩) (by simp only [evA, evT, Go.undef, aload, astore, afieldAddr, afield, aindex, aindexAddr, abuild, abuildSlice, amakeSlice, aslice, aext, alen, aminmax, minmaxGo, aappend, newsOf, buildCells, cutRows, reps, setCells, AV.cells, allOne, AV.one, Value.oneCell', AV.pure, allPure, AV.free, allFree, rowsFree, Nat.reduceBEq, Nat.reduceAdd, Nat.reduceMul, Nat.reduceSub, Nat.reduceLT, Nat.reduceLeDiff, Int.reduceToNat, reduceIte, reduceCtorEq, Int.reduceLT, Int.reduceLE, Nat.reduceEqDiff, Int.reduceEq, Int.reduceNeg, Int.reduceMul, Int.reduceAdd, Int.reduceSub, Int.reduceBNe, Int.reduceBEq, apart, bnd, cx_free]) ?_
  simp only [evA, evT, Go.undef, aload, astore, afieldAddr, afield, aindex, aindexAddr, abuild, abuildSlice, amakeSlice, aslice, aext, alen, aminmax, minmaxGo, aappend, newsOf, buildCells, cutRows, reps, setCells, AV.cells, allOne, AV.one, Value.oneCell', AV.pure, allPure, AV.free, allFree, rowsFree, Nat.reduceBEq, Nat.reduceAdd, Nat.reduceMul, Nat.reduceSub, Nat.reduceLT, Nat.reduceLeDiff, Int.reduceToNat, reduceIte, reduceCtorEq, Int.reduceLT, Int.reduceLE, Nat.reduceEqDiff, Int.reduceEq, Int.reduceNeg, Int.reduceMul, Int.reduceAdd, Int.reduceSub, Int.reduceBNe, Int.reduceBEq, apart, bnd, cx_free]
  refine call_ok (Max.ok xs (by omega) h5) rfl ?_
  simp only [evA, evT, Go.undef, aload, astore, afieldAddr, afield, aindex, aindexAddr, abuild, abuildSlice, amakeSlice, aslice, aext, alen, aminmax, minmaxGo, aappend, newsOf, buildCells, cutRows, reps, setCells, AV.cells, allOne, AV.one, Value.oneCell', AV.pure, allPure, AV.free, allFree, rowsFree, Nat.reduceBEq, Nat.reduceAdd, Nat.reduceMul, Nat.reduceSub, Nat.reduceLT, Nat.reduceLeDiff, Int.reduceToNat, reduceIte, reduceCtorEq, Int.reduceLT, Int.reduceLE, Nat.reduceEqDiff, Int.reduceEq, Int.reduceNeg, Int.reduceMul, Int.reduceAdd, Int.reduceSub, Int.reduceBNe, Int.reduceBEq, apart, bnd, cx_len, e1, e2, e3, e4]
theorem Slack.bad (xs : List (Int × Int)) (hl : xs.length ≤ 1000) (h : ¬ whyD xs = 0) : Ok Try.prog 47 [.sl 2 (cxRows xs)] (.tup [.int 0, .int (whyD xs)]) := by
  have hw : ¬ whyD xs = 0 := h
  refine ok_of (X := fun _ => []) (Z := fun _ => false) (res := [ResultVar.tmp 2, ResultVar.tmp 3]) tok follows Try.func47 rfl rfl fine47 (by kernel_rfl) (by kernel_rfl) ?_
  simp only [evA, evT, Go.undef, aload, astore, afieldAddr, afield, aindex, aindexAddr, abuild, abuildSlice, amakeSlice, aslice, aext, alen, aminmax, minmaxGo, aappend, newsOf, buildCells, cutRows, reps, setCells, AV.cells, allOne, AV.one, Value.oneCell', AV.pure, allPure, AV.free, allFree, rowsFree, Nat.reduceBEq, Nat.reduceAdd, Nat.reduceMul, Nat.reduceSub, Nat.reduceLT, Nat.reduceLeDiff, Int.reduceToNat, reduceIte, reduceCtorEq, Int.reduceLT, Int.reduceLE, Nat.reduceEqDiff, Int.reduceEq, Int.reduceNeg, Int.reduceMul, Int.reduceAdd, Int.reduceSub, Int.reduceBNe, Int.reduceBEq, apart, bnd, cx_free]
  refine call_ok (may.bad xs hl h) rfl ?_
  simp only [evA, evT, Go.undef, aload, astore, afieldAddr, afield, aindex, aindexAddr, abuild, abuildSlice, amakeSlice, aslice, aext, alen, aminmax, minmaxGo, aappend, newsOf, buildCells, cutRows, reps, setCells, AV.cells, allOne, AV.one, Value.oneCell', AV.pure, allPure, AV.free, allFree, rowsFree, Nat.reduceBEq, Nat.reduceAdd, Nat.reduceMul, Nat.reduceSub, Nat.reduceLT, Nat.reduceLeDiff, Int.reduceToNat, reduceIte, reduceCtorEq, Int.reduceLT, Int.reduceLE, Nat.reduceEqDiff, Int.reduceEq, Int.reduceNeg, Int.reduceMul, Int.reduceAdd, Int.reduceSub, Int.reduceBNe, Int.reduceBEq, apart, bnd, hw]
/-- All bins. -/
def allV (xs ws : List (Int × Int)) (inv : Bool) : List (Int × Int) := fillL xs.length (fun k => binV xs ws inv k) xs.length
theorem allV_len {xs ws : List (Int × Int)} {inv : Bool} : (allV xs ws inv).length = xs.length := by unfold allV; rw [fillL_len]
theorem take_all {xs ws : List (Int × Int)} {inv : Bool} {i : Nat} (h : i < xs.length) : (allV xs ws inv).take i ++ [((binV xs ws inv i).1, (binV xs ws inv i).2)] = (allV xs ws inv).take (i + 1) := by
  have hl : i < (allV xs ws inv).length := by rw [allV_len]; exact h
  have e : (allV xs ws inv)[i] = binV xs ws inv i := by
    unfold allV fillL
    simp [h]
  rw [← List.take_append_getElem hl, e]
theorem All.okd (xs : List (Int × Int)) (log : Nat) (h : mayD xs log) (inv : Bool) : Ok Try.prog 53 [.sl 2 (cxRows xs), .bool inv] (.tup [.sl 2 (cxRows (allV xs (tabV log 40) inv)), .int 0]) := by
  obtain ⟨h1, h2, h3, h4, h5⟩ := h
  have hp := pow64 h1
  obtain ⟨m, hm⟩ : ∃ m, xs.length = m + 1 := ⟨xs.length - 1, by omega⟩
  refine ok_of (X := fun _ => []) (Z := fun _ => false) (res := [ResultVar.tmp 4, ResultVar.tmp 5]) tok follows Try.func53 rfl rfl fine53 (by kernel_rfl) (by kernel_rfl) ?_
  simp only [evA, evT, Go.undef, aload, astore, afieldAddr, afield, aindex, aindexAddr, abuild, abuildSlice, amakeSlice, aslice, aext, alen, aminmax, minmaxGo, aappend, newsOf, buildCells, cutRows, reps, setCells, AV.cells, allOne, AV.one, Value.oneCell', AV.pure, allPure, AV.free, allFree, rowsFree, Nat.reduceBEq, Nat.reduceAdd, Nat.reduceMul, Nat.reduceSub, Nat.reduceLT, Nat.reduceLeDiff, Int.reduceToNat, reduceIte, reduceCtorEq, Int.reduceLT, Int.reduceLE, Nat.reduceEqDiff, Int.reduceEq, Int.reduceNeg, Int.reduceMul, Int.reduceAdd, Int.reduceSub, Int.reduceBNe, Int.reduceBEq, apart, bnd, cx_free]
  refine call_ok (may.ok xs log ⟨h1, h2, h3, h4, h5⟩) (by simp only [evA, evT, Go.undef, aload, astore, afieldAddr, afield, aindex, aindexAddr, abuild, abuildSlice, amakeSlice, aslice, aext, alen, aminmax, minmaxGo, aappend, newsOf, buildCells, cutRows, reps, setCells, AV.cells, allOne, AV.one, Value.oneCell', AV.pure, allPure, AV.free, allFree, rowsFree, Nat.reduceBEq, Nat.reduceAdd, Nat.reduceMul, Nat.reduceSub, Nat.reduceLT, Nat.reduceLeDiff, Int.reduceToNat, reduceIte, reduceCtorEq, Int.reduceLT, Int.reduceLE, Nat.reduceEqDiff, Int.reduceEq, Int.reduceNeg, Int.reduceMul, Int.reduceAdd, Int.reduceSub, Int.reduceBNe, Int.reduceBEq, apart, bnd, cx_free]) ?_
  simp only [evA, evT, Go.undef, aload, astore, afieldAddr, afield, aindex, aindexAddr, abuild, abuildSlice, amakeSlice, aslice, aext, alen, aminmax, minmaxGo, aappend, newsOf, buildCells, cutRows, reps, setCells, AV.cells, allOne, AV.one, Value.oneCell', AV.pure, allPure, AV.free, allFree, rowsFree, Nat.reduceBEq, Nat.reduceAdd, Nat.reduceMul, Nat.reduceSub, Nat.reduceLT, Nat.reduceLeDiff, Int.reduceToNat, reduceIte, reduceCtorEq, Int.reduceLT, Int.reduceLE, Nat.reduceEqDiff, Int.reduceEq, Int.reduceNeg, Int.reduceMul, Int.reduceAdd, Int.reduceSub, Int.reduceBNe, Int.reduceBEq, apart, bnd, cx_free, cx_len]
  refine l_inv (fun i => match i with
    | 0 => ⟨[(20, .int 0), (19, .int xs.length), (8, .raw (.slice none 0 0)), (6, .sl 2 (cxRows (tabV log 40))), (0, .sl 2 (cxRows xs)), (1, .bool inv)], [], 0⟩
    | i + 1 => ⟨[(20, .int ((i + 1 : Nat) : Int)), (19, .int xs.length), (8, .own 0), (6, .sl 2 (cxRows (tabV log 40))), (0, .sl 2 (cxRows xs)), (1, .bool inv)], [(0, some (.row 23 2 (cxRows ((allV xs (tabV log 40) inv).take (i + 1)))))], 1⟩) (m + 1) ?_ (fun i hi' K hK => ?_) (fun K => ?_)
  · refine weak_of (fun l => l) rfl trivial ?_
    simp only [evA, evB, evT, Go.undef, aload, astore, afieldAddr, afield, aindex, aindexAddr, abuild, abuildSlice, amakeSlice, aslice, aext, alen, aminmax, minmaxGo, aappend, newsOf, buildCells, cutRows, reps, setCells, AV.cells, allOne, AV.one, Value.oneCell', AV.pure, allPure, AV.free, allFree, rowsFree, Nat.reduceBEq, Nat.reduceAdd, Nat.reduceMul, Nat.reduceSub, Nat.reduceLT, Nat.reduceLeDiff, Int.reduceToNat, reduceIte, reduceCtorEq, Int.reduceLT, Int.reduceLE, Nat.reduceEqDiff, Int.reduceEq, Int.reduceNeg, Int.reduceMul, Int.reduceAdd, Int.reduceSub, Int.reduceBNe, Int.reduceBEq, apart, bnd, cx_free]
  · have hi : i < xs.length := by omega
    have hpush := take_all (xs := xs) (ws := tabV log 40) (inv := inv) hi
    have hB := bin.ok xs (tabV log 40) inv log i h1 h2 tab_len (by omega) h5 (tab_40 h1.2)
    cases i with
    | zero =>
      have q0 : (0 : Int) < xs.length := by omega
      rw [List.take_zero, List.nil_append] at hpush
      have hpush' : [[AV.int (binV xs (tabV log 40) inv 0).1, AV.int (binV xs (tabV log 40) inv 0).2]] = cxRows ((allV xs (tabV log 40) inv).take (0 + 1)) := by rw [← hpush]; rfl
      simp only [evA, evB, evT, Go.undef, aload, astore, afieldAddr, afield, aindex, aindexAddr, abuild, abuildSlice, amakeSlice, aslice, aext, alen, aminmax, minmaxGo, aappend, newsOf, buildCells, cutRows, reps, setCells, AV.cells, allOne, AV.one, Value.oneCell', AV.pure, allPure, AV.free, allFree, rowsFree, Nat.reduceBEq, Nat.reduceAdd, Nat.reduceMul, Nat.reduceSub, Nat.reduceLT, Nat.reduceLeDiff, Int.reduceToNat, reduceIte, reduceCtorEq, Int.reduceLT, Int.reduceLE, Nat.reduceEqDiff, Int.reduceEq, Int.reduceNeg, Int.reduceMul, Int.reduceAdd, Int.reduceSub, Int.reduceBNe, Int.reduceBEq, apart, bnd, q0, cx_free]
      refine call_ok hB rfl ?_
      simp only [evA, evB, evT, Go.undef, aload, astore, afieldAddr, afield, aindex, aindexAddr, abuild, abuildSlice, amakeSlice, aslice, aext, alen, aminmax, minmaxGo, aappend, newsOf, buildCells, cutRows, reps, setCells, AV.cells, allOne, AV.one, Value.oneCell', AV.pure, allPure, AV.free, allFree, rowsFree, Nat.reduceBEq, Nat.reduceAdd, Nat.reduceMul, Nat.reduceSub, Nat.reduceLT, Nat.reduceLeDiff, Int.reduceToNat, reduceIte, reduceCtorEq, Int.reduceLT, Int.reduceLE, Nat.reduceEqDiff, Int.reduceEq, Int.reduceNeg, Int.reduceMul, Int.reduceAdd, Int.reduceSub, Int.reduceBNe, Int.reduceBEq, apart, bnd]
      dsimp only at hK
      refine hK _ (weak_of (fun l => l + 1) rfl ?_ ?_)
      all_goals simp only [evA, evB, evT, Go.undef, aload, astore, afieldAddr, afield, aindex, aindexAddr, abuild, abuildSlice, amakeSlice, aslice, aext, alen, aminmax, minmaxGo, aappend, newsOf, buildCells, cutRows, reps, setCells, AV.cells, allOne, AV.one, Value.oneCell', AV.pure, allPure, AV.free, allFree, rowsFree, Nat.reduceBEq, Nat.reduceAdd, Nat.reduceMul, Nat.reduceSub, Nat.reduceLT, Nat.reduceLeDiff, Int.reduceToNat, reduceIte, reduceCtorEq, Int.reduceLT, Int.reduceLE, Nat.reduceEqDiff, Int.reduceEq, Int.reduceNeg, Int.reduceMul, Int.reduceAdd, Int.reduceSub, Int.reduceBNe, Int.reduceBEq, apart, bnd, cx_free, hpush', Int.natCast_one]
    | succ i =>
      have q0 : ((i + 1 : Nat) : Int) < xs.length := by omega
      have q1 : IntKind.i64.wrap (((i + 1 : Nat) : Int) + 1) = ((i + 1 + 1 : Nat) : Int) := by rw [wr (by omega)]; omega
      have hti : ((allV xs (tabV log 40) inv).take (i + 1)).length = i + 1 := by rw [List.length_take, allV_len]; omega
      have hi1 : (i + 1 + 1) * 16 ≤ 140737488355328 := by omega
      have hi2 : i + 1 + 1 ≤ 9223372036854775807 := by omega
      simp only [evA, evB, evT, Go.undef, aload, astore, afieldAddr, afield, aindex, aindexAddr, abuild, abuildSlice, amakeSlice, aslice, aext, alen, aminmax, minmaxGo, aappend, newsOf, buildCells, cutRows, reps, setCells, AV.cells, allOne, AV.one, Value.oneCell', AV.pure, allPure, AV.free, allFree, rowsFree, Nat.reduceBEq, Nat.reduceAdd, Nat.reduceMul, Nat.reduceSub, Nat.reduceLT, Nat.reduceLeDiff, Int.reduceToNat, reduceIte, reduceCtorEq, Int.reduceLT, Int.reduceLE, Nat.reduceEqDiff, Int.reduceEq, Int.reduceNeg, Int.reduceMul, Int.reduceAdd, Int.reduceSub, Int.reduceBNe, Int.reduceBEq, apart, bnd, q0, cx_free]
      refine call_ok hB rfl ?_
      simp only [evA, evB, evT, Go.undef, aload, astore, afieldAddr, afield, aindex, aindexAddr, abuild, abuildSlice, amakeSlice, aslice, aext, alen, aminmax, minmaxGo, aappend, newsOf, buildCells, cutRows, reps, setCells, AV.cells, allOne, AV.one, Value.oneCell', AV.pure, allPure, AV.free, allFree, rowsFree, Nat.reduceBEq, Nat.reduceAdd, Nat.reduceMul, Nat.reduceSub, Nat.reduceLT, Nat.reduceLeDiff, Int.reduceToNat, reduceIte, reduceCtorEq, Int.reduceLT, Int.reduceLE, Nat.reduceEqDiff, Int.reduceEq, Int.reduceNeg, Int.reduceMul, Int.reduceAdd, Int.reduceSub, Int.reduceBNe, Int.reduceBEq, apart, bnd, cx_len, hti, hi1, hi2, cxs_push, hpush, q1]
      dsimp only at hK
      refine hK _ (weak_of (fun l => l + 2) rfl ?_ ?_)
      all_goals simp only [evA, evB, evT, Go.undef, aload, astore, afieldAddr, afield, aindex, aindexAddr, abuild, abuildSlice, amakeSlice, aslice, aext, alen, aminmax, minmaxGo, aappend, newsOf, buildCells, cutRows, reps, setCells, AV.cells, allOne, AV.one, Value.oneCell', AV.pure, allPure, AV.free, allFree, rowsFree, Nat.reduceBEq, Nat.reduceAdd, Nat.reduceMul, Nat.reduceSub, Nat.reduceLT, Nat.reduceLeDiff, Int.reduceToNat, reduceIte, reduceCtorEq, Int.reduceLT, Int.reduceLE, Nat.reduceEqDiff, Int.reduceEq, Int.reduceNeg, Int.reduceMul, Int.reduceAdd, Int.reduceSub, Int.reduceBNe, Int.reduceBEq, apart, bnd, cx_free]
  · have hall : (allV xs (tabV log 40) inv).take (m + 1) = allV xs (tabV log 40) inv := List.take_of_length_le (by rw [allV_len]; omega)
    simp only [evA, evB, evT, Go.undef, aload, astore, afieldAddr, afield, aindex, aindexAddr, abuild, abuildSlice, amakeSlice, aslice, aext, alen, aminmax, minmaxGo, aappend, newsOf, buildCells, cutRows, reps, setCells, AV.cells, allOne, AV.one, Value.oneCell', AV.pure, allPure, AV.free, allFree, rowsFree, Nat.reduceBEq, Nat.reduceAdd, Nat.reduceMul, Nat.reduceSub, Nat.reduceLT, Nat.reduceLeDiff, Int.reduceToNat, reduceIte, reduceCtorEq, Int.reduceLT, Int.reduceLE, Nat.reduceEqDiff, Int.reduceEq, Int.reduceNeg, Int.reduceMul, Int.reduceAdd, Int.reduceSub, Int.reduceBNe, Int.reduceBEq, apart, bnd, hm, hall, cx_free]
theorem All.badd (xs : List (Int × Int)) (hl : xs.length ≤ 1000) (h : ¬ whyD xs = 0) (inv : Bool) : Ok Try.prog 53 [.sl 2 (cxRows xs), .bool inv] (.tup [.raw (.slice none 0 0), .int (whyD xs)]) := by
  have hw : ¬ whyD xs = 0 := h
  refine ok_of (X := fun _ => []) (Z := fun _ => false) (res := [ResultVar.tmp 4, ResultVar.tmp 5]) tok follows Try.func53 rfl rfl fine53 (by kernel_rfl) (by kernel_rfl) ?_
  simp only [evA, evT, Go.undef, aload, astore, afieldAddr, afield, aindex, aindexAddr, abuild, abuildSlice, amakeSlice, aslice, aext, alen, aminmax, minmaxGo, aappend, newsOf, buildCells, cutRows, reps, setCells, AV.cells, allOne, AV.one, Value.oneCell', AV.pure, allPure, AV.free, allFree, rowsFree, Nat.reduceBEq, Nat.reduceAdd, Nat.reduceMul, Nat.reduceSub, Nat.reduceLT, Nat.reduceLeDiff, Int.reduceToNat, reduceIte, reduceCtorEq, Int.reduceLT, Int.reduceLE, Nat.reduceEqDiff, Int.reduceEq, Int.reduceNeg, Int.reduceMul, Int.reduceAdd, Int.reduceSub, Int.reduceBNe, Int.reduceBEq, apart, bnd, cx_free]
  refine call_ok (may.bad xs hl h) rfl ?_
  simp only [evA, evT, Go.undef, aload, astore, afieldAddr, afield, aindex, aindexAddr, abuild, abuildSlice, amakeSlice, aslice, aext, alen, aminmax, minmaxGo, aappend, newsOf, buildCells, cutRows, reps, setCells, AV.cells, allOne, AV.one, Value.oneCell', AV.pure, allPure, AV.free, allFree, rowsFree, Nat.reduceBEq, Nat.reduceAdd, Nat.reduceMul, Nat.reduceSub, Nat.reduceLT, Nat.reduceLeDiff, Int.reduceToNat, reduceIte, reduceCtorEq, Int.reduceLT, Int.reduceLE, Nat.reduceEqDiff, Int.reduceEq, Int.reduceNeg, Int.reduceMul, Int.reduceAdd, Int.reduceSub, Int.reduceBNe, Int.reduceBEq, apart, bnd, hw]
theorem alive16.ok : Ok Try.prog 46 [] (.bool true) := by
  have hx : nears 2147483648 [((1 : Int), (0 : Int)), (2, 0), (3, 0), (4, 0)] := by
    intro x hx
    simp only [List.mem_cons, List.not_mem_nil, or_false] at hx
    rcases hx with rfl | rfl | rfl | rfl <;> decide
  have hm : mayD [((1 : Int), (0 : Int)), (2, 0), (3, 0), (4, 0)] 2 := ⟨by decide, rfl, .inl rfl, by decide, hx⟩
  have h := Bin.ok [((1 : Int), (0 : Int)), (2, 0), (3, 0), (4, 0)] 2 hm 1 false
  have hT : tabV 2 40 = [(1099511627776, 0), (0, -1099511627776), (-1099511627776, 0), (0, 1099511627776)] := by
    unfold tabV fillL rW rP ptV eV zV rR
    rw [inv_n, quarter_n]
    simp only [run_L]
    decide +kernel
  have hv : binV [((1 : Int), (0 : Int)), (2, 0), (3, 0), (4, 0)] (tabV 2 40) false 1 = (-512, 512) := by
    rw [hT]
    decide +kernel
  change Ok _ _ _ (.tup [cxA (binV [((1 : Int), (0 : Int)), (2, 0), (3, 0), (4, 0)] (tabV 2 40) false 1).1 (binV [((1 : Int), (0 : Int)), (2, 0), (3, 0), (4, 0)] (tabV 2 40) false 1).2, .int 0]) at h
  rw [hv] at h
  refine ok_of (X := fun _ => []) (Z := fun _ => false) (res := [ResultVar.tmp 0]) tok follows Try.func46 rfl rfl fine46 (by kernel_rfl) (by kernel_rfl) ?_
  simp only [evA, evT, Go.undef, aload, astore, afieldAddr, afield, aindex, aindexAddr, abuild, abuildSlice, amakeSlice, aslice, aext, alen, aminmax, minmaxGo, aappend, newsOf, buildCells, cutRows, reps, setCells, AV.cells, allOne, AV.one, Value.oneCell', AV.pure, allPure, AV.free, allFree, rowsFree, Nat.reduceBEq, Nat.reduceAdd, Nat.reduceMul, Nat.reduceSub, Nat.reduceLT, Nat.reduceLeDiff, Int.reduceToNat, reduceIte, reduceCtorEq, Int.reduceLT, Int.reduceLE, Nat.reduceEqDiff, Int.reduceEq, Int.reduceNeg, Int.reduceMul, Int.reduceAdd, Int.reduceSub, Int.reduceBNe, Int.reduceBEq, apart, bnd]
  refine call_ok h rfl ?_
  simp only [evA, evT, Go.undef, aload, astore, afieldAddr, afield, aindex, aindexAddr, abuild, abuildSlice, amakeSlice, aslice, aext, alen, aminmax, minmaxGo, aappend, newsOf, buildCells, cutRows, reps, setCells, AV.cells, allOne, AV.one, Value.oneCell', AV.pure, allPure, AV.free, allFree, rowsFree, Nat.reduceBEq, Nat.reduceAdd, Nat.reduceMul, Nat.reduceSub, Nat.reduceLT, Nat.reduceLeDiff, Int.reduceToNat, reduceIte, reduceCtorEq, Int.reduceLT, Int.reduceLE, Nat.reduceEqDiff, Int.reduceEq, Int.reduceNeg, Int.reduceMul, Int.reduceAdd, Int.reduceSub, Int.reduceBNe, Int.reduceBEq, apart, bnd]
end Go.Proofs.YtfmhdfaelgkmcaaV

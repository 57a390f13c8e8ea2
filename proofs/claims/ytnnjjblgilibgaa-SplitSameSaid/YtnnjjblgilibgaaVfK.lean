import Derived.Test.YtnnjjblgilibgaaVfD
import Derived.Test.YtnnjjblgilibgaaVfF
/- Contracts: lengths, halves, quarters; what may be, by the document. -/
namespace Go.Proofs.YtnnjjblgilibgaaV
open Go Go.RowKit
set_option linter.unusedVariables false
set_option linter.unusedSimpArgs false
set_option maxRecDepth 100000
set_option maxHeartbeats 40000000
theorem fine20 : Fine Try.prog 20 := fun _ _ => by kernel_rfl
theorem fine8 : Fine Try.prog 8 := fun _ _ => by kernel_rfl
theorem fine36 : Fine Try.prog 36 := fun _ _ => by kernel_rfl
theorem fine51 : Fine Try.prog 51 := fun _ _ => by kernel_rfl
theorem fine12 : Fine Try.prog 12 := fun _ _ => by kernel_rfl
/-- Lengths. -/
def lens (n : Int) : Prop := n = 4 ∨ n = 8 ∨ n = 16 ∨ n = 32 ∨ n = 64
def lg (n : Int) : Int := if n = 4 then 2 else if n = 8 then 3 else if n = 16 then 4 else if n = 32 then 5 else if n = 64 then 6 else 0
instance (n : Int) : Decidable (lens n) := by unfold lens; infer_instance
theorem sl2 : IntKind.i64.wrap (1 * 2 ^ min 2 IntKind.i64.bits) = 4 := by decide
theorem sl3 : IntKind.i64.wrap (1 * 2 ^ min 3 IntKind.i64.bits) = 8 := by decide
theorem sl4 : IntKind.i64.wrap (1 * 2 ^ min 4 IntKind.i64.bits) = 16 := by decide
theorem sl5 : IntKind.i64.wrap (1 * 2 ^ min 5 IntKind.i64.bits) = 32 := by decide
theorem sl6 : IntKind.i64.wrap (1 * 2 ^ min 6 IntKind.i64.bits) = 64 := by decide
theorem Log.ok (n : Int) (h : lens n) : Ok Try.prog 20 [.int n] (.tup [.int (lg n), .int 0]) := by
  refine ok_of (X := fun _ => []) (Z := fun _ => false) (res := [ResultVar.tmp 2, ResultVar.tmp 3]) tok follows Try.func20 rfl rfl fine20 (by kernel_rfl) (by kernel_rfl) ?_
  rcases h with rfl | rfl | rfl | rfl | rfl
  all_goals
    simp only [evA, evT, Go.undef, aload, astore, afieldAddr, afield, aindex, aindexAddr, abuild, abuildSlice, amakeSlice, aslice, aext, alen, aminmax, minmaxGo, aappend, newsOf, buildCells, cutRows, reps, setCells, AV.cells, allOne, AV.one, Value.oneCell', AV.pure, allPure, AV.free, allFree, rowsFree, Nat.reduceBEq, Nat.reduceAdd, Nat.reduceMul, Nat.reduceSub, Nat.reduceLT, Nat.reduceLeDiff, Int.reduceToNat, reduceIte, reduceCtorEq, Int.reduceLT, Int.reduceLE, Nat.reduceEqDiff, Int.reduceEq, Int.reduceNeg, Int.reduceMul, Int.reduceAdd, Int.reduceSub, Int.reduceBNe, Int.reduceBEq, apart, bnd]
    refine ⟨6, l_succ ?_⟩
    simp only [evA, evT, Go.undef, aload, astore, afieldAddr, afield, aindex, aindexAddr, abuild, abuildSlice, amakeSlice, aslice, aext, alen, aminmax, minmaxGo, aappend, newsOf, buildCells, cutRows, reps, setCells, AV.cells, allOne, AV.one, Value.oneCell', AV.pure, allPure, AV.free, allFree, rowsFree, Nat.reduceBEq, Nat.reduceAdd, Nat.reduceMul, Nat.reduceSub, Nat.reduceLT, Nat.reduceLeDiff, Int.reduceToNat, reduceIte, reduceCtorEq, Int.reduceLT, Int.reduceLE, Nat.reduceEqDiff, Int.reduceEq, Int.reduceNeg, Int.reduceMul, Int.reduceAdd, Int.reduceSub, Int.reduceBNe, Int.reduceBEq, apart, bnd, sl2, sl3, sl4, sl5, sl6, lg]
    repeat (refine l_succ ?_; simp only [evA, evT, Go.undef, aload, astore, afieldAddr, afield, aindex, aindexAddr, abuild, abuildSlice, amakeSlice, aslice, aext, alen, aminmax, minmaxGo, aappend, newsOf, buildCells, cutRows, reps, setCells, AV.cells, allOne, AV.one, Value.oneCell', AV.pure, allPure, AV.free, allFree, rowsFree, Nat.reduceBEq, Nat.reduceAdd, Nat.reduceMul, Nat.reduceSub, Nat.reduceLT, Nat.reduceLeDiff, Int.reduceToNat, reduceIte, reduceCtorEq, Int.reduceLT, Int.reduceLE, Nat.reduceEqDiff, Int.reduceEq, Int.reduceNeg, Int.reduceMul, Int.reduceAdd, Int.reduceSub, Int.reduceBNe, Int.reduceBEq, apart, bnd, sl2, sl3, sl4, sl5, sl6, lg])
theorem Log.bad (n : Int) (h : ¬ lens n) : Ok Try.prog 20 [.int n] (.tup [.int 0, .int 3]) := by
  unfold lens at h
  have h2 : ¬ n = 4 := by omega
  have h3 : ¬ n = 8 := by omega
  have h4 : ¬ n = 16 := by omega
  have h5 : ¬ n = 32 := by omega
  have h6 : ¬ n = 64 := by omega
  refine ok_of (X := fun _ => []) (Z := fun _ => false) (res := [ResultVar.tmp 2, ResultVar.tmp 3]) tok follows Try.func20 rfl rfl fine20 (by kernel_rfl) (by kernel_rfl) ?_
  simp only [evA, evT, Go.undef, aload, astore, afieldAddr, afield, aindex, aindexAddr, abuild, abuildSlice, amakeSlice, aslice, aext, alen, aminmax, minmaxGo, aappend, newsOf, buildCells, cutRows, reps, setCells, AV.cells, allOne, AV.one, Value.oneCell', AV.pure, allPure, AV.free, allFree, rowsFree, Nat.reduceBEq, Nat.reduceAdd, Nat.reduceMul, Nat.reduceSub, Nat.reduceLT, Nat.reduceLeDiff, Int.reduceToNat, reduceIte, reduceCtorEq, Int.reduceLT, Int.reduceLE, Nat.reduceEqDiff, Int.reduceEq, Int.reduceNeg, Int.reduceMul, Int.reduceAdd, Int.reduceSub, Int.reduceBNe, Int.reduceBEq, apart, bnd]
  refine ⟨6, l_succ ?_⟩
  simp only [evA, evT, Go.undef, aload, astore, afieldAddr, afield, aindex, aindexAddr, abuild, abuildSlice, amakeSlice, aslice, aext, alen, aminmax, minmaxGo, aappend, newsOf, buildCells, cutRows, reps, setCells, AV.cells, allOne, AV.one, Value.oneCell', AV.pure, allPure, AV.free, allFree, rowsFree, Nat.reduceBEq, Nat.reduceAdd, Nat.reduceMul, Nat.reduceSub, Nat.reduceLT, Nat.reduceLeDiff, Int.reduceToNat, reduceIte, reduceCtorEq, Int.reduceLT, Int.reduceLE, Nat.reduceEqDiff, Int.reduceEq, Int.reduceNeg, Int.reduceMul, Int.reduceAdd, Int.reduceSub, Int.reduceBNe, Int.reduceBEq, apart, bnd, sl2, sl3, sl4, sl5, sl6, h2, h3, h4, h5, h6]
  repeat (refine l_succ ?_; simp only [evA, evT, Go.undef, aload, astore, afieldAddr, afield, aindex, aindexAddr, abuild, abuildSlice, amakeSlice, aslice, aext, alen, aminmax, minmaxGo, aappend, newsOf, buildCells, cutRows, reps, setCells, AV.cells, allOne, AV.one, Value.oneCell', AV.pure, allPure, AV.free, allFree, rowsFree, Nat.reduceBEq, Nat.reduceAdd, Nat.reduceMul, Nat.reduceSub, Nat.reduceLT, Nat.reduceLeDiff, Int.reduceToNat, reduceIte, reduceCtorEq, Int.reduceLT, Int.reduceLE, Nat.reduceEqDiff, Int.reduceEq, Int.reduceNeg, Int.reduceMul, Int.reduceAdd, Int.reduceSub, Int.reduceBNe, Int.reduceBEq, apart, bnd, sl2, sl3, sl4, sl5, sl6, h2, h3, h4, h5, h6])
theorem pw2 : (2 : Int) ^ 2 = 4 := rfl
theorem pw3 : (2 : Int) ^ 3 = 8 := rfl
theorem pw4 : (2 : Int) ^ 4 = 16 := rfl
theorem pw5 : (2 : Int) ^ 5 = 32 := rfl
theorem pw6 : (2 : Int) ^ 6 = 64 := rfl
theorem RLog.ok (n : Int) (h : lens n) : Ok Try.prog 8 [.int n] (.int (lg n)) := by
  refine ok_of (X := fun _ => []) (Z := fun _ => false) (res := [ResultVar.tmp 2]) tok follows Try.func8 rfl rfl fine8 (by kernel_rfl) (by kernel_rfl) ?_
  rcases h with rfl | rfl | rfl | rfl | rfl
  all_goals
    simp only [evA, evT, Go.undef, aload, astore, afieldAddr, afield, aindex, aindexAddr, abuild, abuildSlice, amakeSlice, aslice, aext, alen, aminmax, minmaxGo, aappend, newsOf, buildCells, cutRows, reps, setCells, AV.cells, allOne, AV.one, Value.oneCell', AV.pure, allPure, AV.free, allFree, rowsFree, Nat.reduceBEq, Nat.reduceAdd, Nat.reduceMul, Nat.reduceSub, Nat.reduceLT, Nat.reduceLeDiff, Int.reduceToNat, reduceIte, reduceCtorEq, Int.reduceLT, Int.reduceLE, Nat.reduceEqDiff, Int.reduceEq, Int.reduceNeg, Int.reduceMul, Int.reduceAdd, Int.reduceSub, Int.reduceBNe, Int.reduceBEq, apart, bnd]
    refine ⟨6, l_succ ?_⟩
    simp only [evA, evT, Go.undef, aload, astore, afieldAddr, afield, aindex, aindexAddr, abuild, abuildSlice, amakeSlice, aslice, aext, alen, aminmax, minmaxGo, aappend, newsOf, buildCells, cutRows, reps, setCells, AV.cells, allOne, AV.one, Value.oneCell', AV.pure, allPure, AV.free, allFree, rowsFree, Nat.reduceBEq, Nat.reduceAdd, Nat.reduceMul, Nat.reduceSub, Nat.reduceLT, Nat.reduceLeDiff, Int.reduceToNat, reduceIte, reduceCtorEq, Int.reduceLT, Int.reduceLE, Nat.reduceEqDiff, Int.reduceEq, Int.reduceNeg, Int.reduceMul, Int.reduceAdd, Int.reduceSub, Int.reduceBNe, Int.reduceBEq, apart, bnd]
    repeat (first | (refine call_ok (Pow.ok _ (by decide)) rfl ?_; simp only [evA, evT, Go.undef, aload, astore, afieldAddr, afield, aindex, aindexAddr, abuild, abuildSlice, amakeSlice, aslice, aext, alen, aminmax, minmaxGo, aappend, newsOf, buildCells, cutRows, reps, setCells, AV.cells, allOne, AV.one, Value.oneCell', AV.pure, allPure, AV.free, allFree, rowsFree, Nat.reduceBEq, Nat.reduceAdd, Nat.reduceMul, Nat.reduceSub, Nat.reduceLT, Nat.reduceLeDiff, Int.reduceToNat, reduceIte, reduceCtorEq, Int.reduceLT, Int.reduceLE, Nat.reduceEqDiff, Int.reduceEq, Int.reduceNeg, Int.reduceMul, Int.reduceAdd, Int.reduceSub, Int.reduceBNe, Int.reduceBEq, apart, bnd, pw2, pw3, pw4, pw5, pw6, lg]) | (refine l_succ ?_; simp only [evA, evT, Go.undef, aload, astore, afieldAddr, afield, aindex, aindexAddr, abuild, abuildSlice, amakeSlice, aslice, aext, alen, aminmax, minmaxGo, aappend, newsOf, buildCells, cutRows, reps, setCells, AV.cells, allOne, AV.one, Value.oneCell', AV.pure, allPure, AV.free, allFree, rowsFree, Nat.reduceBEq, Nat.reduceAdd, Nat.reduceMul, Nat.reduceSub, Nat.reduceLT, Nat.reduceLeDiff, Int.reduceToNat, reduceIte, reduceCtorEq, Int.reduceLT, Int.reduceLE, Nat.reduceEqDiff, Int.reduceEq, Int.reduceNeg, Int.reduceMul, Int.reduceAdd, Int.reduceSub, Int.reduceBNe, Int.reduceBEq, apart, bnd]))
theorem RLog.bad (n : Int) (h : ¬ lens n) : Ok Try.prog 8 [.int n] (.int (-1)) := by
  unfold lens at h
  have h2 : ¬ 4 = n := by omega
  have h3 : ¬ 8 = n := by omega
  have h4 : ¬ 16 = n := by omega
  have h5 : ¬ 32 = n := by omega
  have h6 : ¬ 64 = n := by omega
  refine ok_of (X := fun _ => []) (Z := fun _ => false) (res := [ResultVar.tmp 2]) tok follows Try.func8 rfl rfl fine8 (by kernel_rfl) (by kernel_rfl) ?_
  simp only [evA, evT, Go.undef, aload, astore, afieldAddr, afield, aindex, aindexAddr, abuild, abuildSlice, amakeSlice, aslice, aext, alen, aminmax, minmaxGo, aappend, newsOf, buildCells, cutRows, reps, setCells, AV.cells, allOne, AV.one, Value.oneCell', AV.pure, allPure, AV.free, allFree, rowsFree, Nat.reduceBEq, Nat.reduceAdd, Nat.reduceMul, Nat.reduceSub, Nat.reduceLT, Nat.reduceLeDiff, Int.reduceToNat, reduceIte, reduceCtorEq, Int.reduceLT, Int.reduceLE, Nat.reduceEqDiff, Int.reduceEq, Int.reduceNeg, Int.reduceMul, Int.reduceAdd, Int.reduceSub, Int.reduceBNe, Int.reduceBEq, apart, bnd]
  refine ⟨6, l_succ ?_⟩
  simp only [evA, evT, Go.undef, aload, astore, afieldAddr, afield, aindex, aindexAddr, abuild, abuildSlice, amakeSlice, aslice, aext, alen, aminmax, minmaxGo, aappend, newsOf, buildCells, cutRows, reps, setCells, AV.cells, allOne, AV.one, Value.oneCell', AV.pure, allPure, AV.free, allFree, rowsFree, Nat.reduceBEq, Nat.reduceAdd, Nat.reduceMul, Nat.reduceSub, Nat.reduceLT, Nat.reduceLeDiff, Int.reduceToNat, reduceIte, reduceCtorEq, Int.reduceLT, Int.reduceLE, Nat.reduceEqDiff, Int.reduceEq, Int.reduceNeg, Int.reduceMul, Int.reduceAdd, Int.reduceSub, Int.reduceBNe, Int.reduceBEq, apart, bnd]
  repeat (first | (refine call_ok (Pow.ok _ (by decide)) rfl ?_; simp only [evA, evT, Go.undef, aload, astore, afieldAddr, afield, aindex, aindexAddr, abuild, abuildSlice, amakeSlice, aslice, aext, alen, aminmax, minmaxGo, aappend, newsOf, buildCells, cutRows, reps, setCells, AV.cells, allOne, AV.one, Value.oneCell', AV.pure, allPure, AV.free, allFree, rowsFree, Nat.reduceBEq, Nat.reduceAdd, Nat.reduceMul, Nat.reduceSub, Nat.reduceLT, Nat.reduceLeDiff, Int.reduceToNat, reduceIte, reduceCtorEq, Int.reduceLT, Int.reduceLE, Nat.reduceEqDiff, Int.reduceEq, Int.reduceNeg, Int.reduceMul, Int.reduceAdd, Int.reduceSub, Int.reduceBNe, Int.reduceBEq, apart, bnd, pw2, pw3, pw4, pw5, pw6, h2, h3, h4, h5, h6]) | (refine l_succ ?_; simp only [evA, evT, Go.undef, aload, astore, afieldAddr, afield, aindex, aindexAddr, abuild, abuildSlice, amakeSlice, aslice, aext, alen, aminmax, minmaxGo, aappend, newsOf, buildCells, cutRows, reps, setCells, AV.cells, allOne, AV.one, Value.oneCell', AV.pure, allPure, AV.free, allFree, rowsFree, Nat.reduceBEq, Nat.reduceAdd, Nat.reduceMul, Nat.reduceSub, Nat.reduceLT, Nat.reduceLeDiff, Int.reduceToNat, reduceIte, reduceCtorEq, Int.reduceLT, Int.reduceLE, Nat.reduceEqDiff, Int.reduceEq, Int.reduceNeg, Int.reduceMul, Int.reduceAdd, Int.reduceSub, Int.reduceBNe, Int.reduceBEq, apart, bnd]))
theorem RConj.ok (a b : Int) (h : win 2305843009213693952 a b) : Ok Try.prog 51 [cxA a b] (cxA a (-b)) := by
  have e1 : IntKind.i64.wrap (0 - b) = -b := by rw [wr (by unfold win at h; omega)]; omega
  refine ok_of (X := fun _ => []) (Z := fun _ => false) (res := [ResultVar.cell 2 35]) tok follows Try.func51 rfl rfl fine51 (by kernel_rfl) (by kernel_rfl) ?_
  simp only [evA, evT, Go.undef, aload, astore, afieldAddr, afield, aindex, aindexAddr, abuild, abuildSlice, amakeSlice, aslice, aext, alen, aminmax, minmaxGo, aappend, newsOf, buildCells, cutRows, reps, setCells, AV.cells, allOne, AV.one, Value.oneCell', AV.pure, allPure, AV.free, allFree, rowsFree, Nat.reduceBEq, Nat.reduceAdd, Nat.reduceMul, Nat.reduceSub, Nat.reduceLT, Nat.reduceLeDiff, Int.reduceToNat, reduceIte, reduceCtorEq, Int.reduceLT, Int.reduceLE, Nat.reduceEqDiff, Int.reduceEq, Int.reduceNeg, Int.reduceMul, Int.reduceAdd, Int.reduceSub, Int.reduceBNe, Int.reduceBEq, apart, bnd, e1]
def half (h n : Int) : Prop := h < n ∧ (h = 1 ∨ h = 2 ∨ h = 4 ∨ h = 8 ∨ h = 16 ∨ h = 32 ∨ h = 64)
instance (h n : Int) : Decidable (half h n) := by unfold half; infer_instance
theorem w_128 : IntKind.i64.wrap 128 = 128 := by decide
theorem p31 : (2 : Int) ^ (31 : Int).toNat = 2147483648 := rfl
theorem first_not {p : Int × Int → Prop} [DecidablePred p] (xs : List (Int × Int)) (h : ¬ ∀ x ∈ xs, p x) : ∃ (m : Nat) (hm : m < xs.length), ¬ p xs[m] ∧ ∀ i (hi : i < xs.length), i < m → p xs[i] := by
  have h' : ∃ x ∈ xs, ¬ p x := Classical.byContradiction fun hn => h fun x hx => Classical.byContradiction fun hp => hn ⟨x, hx, hp⟩
  obtain ⟨m, hm, h1, h2⟩ := first_of (p := fun x => ¬ p x) xs h'
  exact ⟨m, hm, h1, fun i hi hlt => Classical.byContradiction (h2 i hi hlt)⟩
def nears (m : Int) (xs : List (Int × Int)) : Prop := ∀ x ∈ xs, win m x.1 x.2
instance (m : Int) (xs : List (Int × Int)) : Decidable (nears m xs) := by unfold nears; infer_instance
abbrev setP (bits s mode : Int) : Prop := (0 ≤ bits ∧ bits ≤ 29) ∧ (0 ≤ s ∧ s ≤ 3) ∧ 0 ≤ mode ∧ mode ≤ 2
/-- Why a pass may not be. -/
def Why (part : Prop) (xs ws : List (Int × Int)) (bits s mode e : Int) : Prop :=
  (¬ lens xs.length ∧ e = 3) ∨ (lens xs.length ∧ ¬ (ws.length : Int) = xs.length ∧ e = 5) ∨ (lens xs.length ∧ (ws.length : Int) = xs.length ∧ ¬ (part ∧ setP bits s mode) ∧ e = 1) ∨ (lens xs.length ∧ (ws.length : Int) = xs.length ∧ (part ∧ setP bits s mode) ∧ ¬ (nears 2147483648 xs ∧ nears (2 ^ bits.toNat) ws) ∧ e = 2)
def Good (part : Prop) (xs ws : List (Int × Int)) (bits s mode : Int) : Prop :=
  lens xs.length ∧ (ws.length : Int) = xs.length ∧ (part ∧ setP bits s mode) ∧ nears 2147483648 xs ∧ nears (2 ^ bits.toNat) ws
theorem why_or (part : Prop) [Decidable part] (xs ws : List (Int × Int)) (bits s mode : Int) : Good part xs ws bits s mode ∨ ∃ e, Why part xs ws bits s mode e ∧ ¬ e = 0 := by
  by_cases h1 : lens xs.length
  · by_cases h2 : (ws.length : Int) = xs.length
    · by_cases h3 : part ∧ setP bits s mode
      · by_cases h4 : nears 2147483648 xs ∧ nears (2 ^ bits.toNat) ws
        · exact .inl ⟨h1, h2, h3, h4⟩
        · exact .inr ⟨2, .inr (.inr (.inr ⟨h1, h2, h3, h4, rfl⟩)), by decide⟩
      · exact .inr ⟨1, .inr (.inr (.inl ⟨h1, h2, h3, rfl⟩)), by decide⟩
    · exact .inr ⟨5, .inr (.inl ⟨h1, h2, rfl⟩), by decide⟩
  · exact .inr ⟨3, .inl ⟨h1, rfl⟩, by decide⟩
theorem lg_pos {n : Int} (h : lens n) : ¬ lg n < 0 := by
  rcases h with rfl | rfl | rfl | rfl | rfl <;> decide
section
variable (part : Prop) [Decidable part] (xs ws : List (Int × Int)) (bits s mode : Int) (hl : xs.length ≤ 1000000000) (hw : ws.length ≤ 1000000000)
include hl hw
end
theorem Same.ok (xs : List (Int × Int)) (hl : xs.length ≤ 1000000000) : Ok Try.prog 12 [.sl 2 (cxRows xs), .sl 2 (cxRows xs)] (.bool true) := by
  refine ok_of (X := fun _ => []) (Z := fun _ => false) (res := [ResultVar.tmp 4]) tok follows Try.func12 rfl rfl fine12 (by kernel_rfl) (by kernel_rfl) ?_
  simp only [evA, evT, Go.undef, aload, astore, afieldAddr, afield, aindex, aindexAddr, abuild, abuildSlice, amakeSlice, aslice, aext, alen, aminmax, minmaxGo, aappend, newsOf, buildCells, cutRows, reps, setCells, AV.cells, allOne, AV.one, Value.oneCell', AV.pure, allPure, AV.free, allFree, rowsFree, Nat.reduceBEq, Nat.reduceAdd, Nat.reduceMul, Nat.reduceSub, Nat.reduceLT, Nat.reduceLeDiff, Int.reduceToNat, reduceIte, reduceCtorEq, Int.reduceLT, Int.reduceLE, Nat.reduceEqDiff, Int.reduceEq, Int.reduceNeg, Int.reduceMul, Int.reduceAdd, Int.reduceSub, Int.reduceBNe, Int.reduceBEq, apart, bnd, cx_len]
  refine l_inv (fun i => ⟨[(13, .int i), (12, .int xs.length), (0, .sl 2 (cxRows xs)), (1, .sl 2 (cxRows xs))], [], 0⟩) xs.length ?_ (fun i hi K hK => ?_) (fun K => ?_)
  · refine weak_of (fun l => l) rfl trivial ?_
    simp only [evA, evB, evT, Go.undef, aload, astore, afieldAddr, afield, aindex, aindexAddr, abuild, abuildSlice, amakeSlice, aslice, aext, alen, aminmax, minmaxGo, aappend, newsOf, buildCells, cutRows, reps, setCells, AV.cells, allOne, AV.one, Value.oneCell', AV.pure, allPure, AV.free, allFree, rowsFree, Nat.reduceBEq, Nat.reduceAdd, Nat.reduceMul, Nat.reduceSub, Nat.reduceLT, Nat.reduceLeDiff, Int.reduceToNat, reduceIte, reduceCtorEq, Int.reduceLT, Int.reduceLE, Nat.reduceEqDiff, Int.reduceEq, Int.reduceNeg, Int.reduceMul, Int.reduceAdd, Int.reduceSub, Int.reduceBNe, Int.reduceBEq, apart, bnd, cx_free, Int.natCast_zero]
  · have h1 : (i : Int) < xs.length := by omega
    have h2 : (0 : Int) ≤ i := by omega
    have h3 : IntKind.i64.wrap ((i : Int) + 1) = i + 1 := wr (by omega)
    simp only [evA, evT, Go.undef, aload, astore, afieldAddr, afield, aindex, aindexAddr, abuild, abuildSlice, amakeSlice, aslice, aext, alen, aminmax, minmaxGo, aappend, newsOf, buildCells, cutRows, reps, setCells, AV.cells, allOne, AV.one, Value.oneCell', AV.pure, allPure, AV.free, allFree, rowsFree, Nat.reduceBEq, Nat.reduceAdd, Nat.reduceMul, Nat.reduceSub, Nat.reduceLT, Nat.reduceLeDiff, Int.reduceToNat, reduceIte, reduceCtorEq, Int.reduceLT, Int.reduceLE, Nat.reduceEqDiff, Int.reduceEq, Int.reduceNeg, Int.reduceMul, Int.reduceAdd, Int.reduceSub, Int.reduceBNe, Int.reduceBEq, apart, bnd, h1, h2, h3, cx_len, Int.toNat_natCast, cx_get hi]
    refine hK _ (weak_of (fun l => l) rfl trivial ?_)
    simp only [evA, evB, evT, Go.undef, aload, astore, afieldAddr, afield, aindex, aindexAddr, abuild, abuildSlice, amakeSlice, aslice, aext, alen, aminmax, minmaxGo, aappend, newsOf, buildCells, cutRows, reps, setCells, AV.cells, allOne, AV.one, Value.oneCell', AV.pure, allPure, AV.free, allFree, rowsFree, Nat.reduceBEq, Nat.reduceAdd, Nat.reduceMul, Nat.reduceSub, Nat.reduceLT, Nat.reduceLeDiff, Int.reduceToNat, reduceIte, reduceCtorEq, Int.reduceLT, Int.reduceLE, Nat.reduceEqDiff, Int.reduceEq, Int.reduceNeg, Int.reduceMul, Int.reduceAdd, Int.reduceSub, Int.reduceBNe, Int.reduceBEq, apart, bnd, cx_free, Int.natCast_add, Int.natCast_one]
  · simp only [evA, evT, Go.undef, aload, astore, afieldAddr, afield, aindex, aindexAddr, abuild, abuildSlice, amakeSlice, aslice, aext, alen, aminmax, minmaxGo, aappend, newsOf, buildCells, cutRows, reps, setCells, AV.cells, allOne, AV.one, Value.oneCell', AV.pure, allPure, AV.free, allFree, rowsFree, Nat.reduceBEq, Nat.reduceAdd, Nat.reduceMul, Nat.reduceSub, Nat.reduceLT, Nat.reduceLeDiff, Int.reduceToNat, reduceIte, reduceCtorEq, Int.reduceLT, Int.reduceLE, Nat.reduceEqDiff, Int.reduceEq, Int.reduceNeg, Int.reduceMul, Int.reduceAdd, Int.reduceSub, Int.reduceBNe, Int.reduceBEq, apart, bnd]
def rootV (ws : List (Int × Int)) (inv : Bool) (k : Nat) : Int × Int := ((ws.getD k (0, 0)).1, if inv = true then -(ws.getD k (0, 0)).2 else (ws.getD k (0, 0)).2)
theorem getD_at {α : Type} {l : List α} {i : Nat} {d : α} (h : i < l.length) : l.getD i d = l[i] := by
  rw [List.getD_eq_getElem?_getD, List.getElem?_eq_getElem h]
  rfl
theorem cx_getD {xs : List (Int × Int)} {i : Nat} (h : i < xs.length) : (cxRows xs).getD i [] = [.int (xs.getD i (0, 0)).1, .int (xs.getD i (0, 0)).2] := by
  rw [cx_get h, getD_at h]
theorem near_get {m : Int} {xs : List (Int × Int)} (h : nears m xs) {i : Nat} (hi : i < xs.length) : win m (xs.getD i (0, 0)).1 (xs.getD i (0, 0)).2 := by
  rw [getD_at hi]
  exact h _ (List.getElem_mem hi)
theorem win_mono {m m' a b : Int} (h : win m a b) (hm : m ≤ m') : win m' a b := by unfold win at *; omega
theorem RRoot.ok (ws : List (Int × Int)) (inv : Bool) (k : Nat) (hk : k < ws.length) (h : win 2305843009213693952 (ws.getD k (0, 0)).1 (ws.getD k (0, 0)).2) : Ok Try.prog 36 [.sl 2 (cxRows ws), .int k, .bool inv] (cxA (rootV ws inv k).1 (rootV ws inv k).2) := by
  have h1 : (k : Int) < ws.length := by omega
  have h2 : (0 : Int) ≤ k := by omega
  refine ok_of (X := fun _ => []) (Z := fun _ => false) (res := [ResultVar.cell 6 35]) tok follows Try.func36 rfl rfl fine36 (by kernel_rfl) (by kernel_rfl) ?_
  cases inv
  · simp only [evA, evT, Go.undef, aload, astore, afieldAddr, afield, aindex, aindexAddr, abuild, abuildSlice, amakeSlice, aslice, aext, alen, aminmax, minmaxGo, aappend, newsOf, buildCells, cutRows, reps, setCells, AV.cells, allOne, AV.one, Value.oneCell', AV.pure, allPure, AV.free, allFree, rowsFree, Nat.reduceBEq, Nat.reduceAdd, Nat.reduceMul, Nat.reduceSub, Nat.reduceLT, Nat.reduceLeDiff, Int.reduceToNat, reduceIte, reduceCtorEq, Int.reduceLT, Int.reduceLE, Nat.reduceEqDiff, Int.reduceEq, Int.reduceNeg, Int.reduceMul, Int.reduceAdd, Int.reduceSub, Int.reduceBNe, Int.reduceBEq, apart, bnd, h1, h2, cx_len, Int.toNat_natCast, cx_getD hk, rootV]
  · simp only [evA, evT, Go.undef, aload, astore, afieldAddr, afield, aindex, aindexAddr, abuild, abuildSlice, amakeSlice, aslice, aext, alen, aminmax, minmaxGo, aappend, newsOf, buildCells, cutRows, reps, setCells, AV.cells, allOne, AV.one, Value.oneCell', AV.pure, allPure, AV.free, allFree, rowsFree, Nat.reduceBEq, Nat.reduceAdd, Nat.reduceMul, Nat.reduceSub, Nat.reduceLT, Nat.reduceLeDiff, Int.reduceToNat, reduceIte, reduceCtorEq, Int.reduceLT, Int.reduceLE, Nat.reduceEqDiff, Int.reduceEq, Int.reduceNeg, Int.reduceMul, Int.reduceAdd, Int.reduceSub, Int.reduceBNe, Int.reduceBEq, apart, bnd, h1, h2, cx_len, Int.toNat_natCast, cx_getD hk, rootV]
    refine call_ok (RConj.ok _ _ h) rfl ?_
    simp only [evA, evT, Go.undef, aload, astore, afieldAddr, afield, aindex, aindexAddr, abuild, abuildSlice, amakeSlice, aslice, aext, alen, aminmax, minmaxGo, aappend, newsOf, buildCells, cutRows, reps, setCells, AV.cells, allOne, AV.one, Value.oneCell', AV.pure, allPure, AV.free, allFree, rowsFree, Nat.reduceBEq, Nat.reduceAdd, Nat.reduceMul, Nat.reduceSub, Nat.reduceLT, Nat.reduceLeDiff, Int.reduceToNat, reduceIte, reduceCtorEq, Int.reduceLT, Int.reduceLE, Nat.reduceEqDiff, Int.reduceEq, Int.reduceNeg, Int.reduceMul, Int.reduceAdd, Int.reduceSub, Int.reduceBNe, Int.reduceBEq, apart, bnd]
end Go.Proofs.YtnnjjblgilibgaaV

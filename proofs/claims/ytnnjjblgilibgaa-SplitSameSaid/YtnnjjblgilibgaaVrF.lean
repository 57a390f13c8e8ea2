import Derived.Test.YtnnjjblgilibgaaVrE
/- Contracts: the document's turns, points, roots. -/
namespace Go.Proofs.YtnnjjblgilibgaaV
open Go Go.RowKit
set_option linter.unusedVariables false
set_option linter.unusedSimpArgs false
set_option maxRecDepth 100000
set_option maxHeartbeats 40000000
theorem fine93 : Fine Try.prog 93 := fun _ _ => by kernel_rfl
theorem fine88 : Fine Try.prog 88 := fun _ _ => by kernel_rfl
theorem fine87 : Fine Try.prog 87 := fun _ _ => by kernel_rfl
theorem fine82 : Fine Try.prog 82 := fun _ _ => by kernel_rfl
theorem fine70 : Fine Try.prog 70 := fun _ _ => by kernel_rfl
theorem fine52 : Fine Try.prog 52 := fun _ _ => by kernel_rfl
theorem fine83 : Fine Try.prog 83 := fun _ _ => by kernel_rfl
theorem fine72 : Fine Try.prog 72 := fun _ _ => by kernel_rfl
theorem fine71 : Fine Try.prog 71 := fun _ _ => by kernel_rfl
theorem fine53 : Fine Try.prog 53 := fun _ _ => by kernel_rfl
theorem w64_in (x : Int) : in64 (wrap64 x) := by unfold in64 wrap64; omega
theorem step.ok (x y z a : Int) (i : Nat) (hi : i ≤ 62) (hx : in64 x) (hy : in64 y) : Ok Try.prog 93 [.agg [.int x, .int y, .int z], .int i, .int a] (.agg [.int (stV i a (x, y, z)).1, .int (stV i a (x, y, z)).2.1, .int (stV i a (x, y, z)).2.2]) := by
  have h1 := Floor.ok x i hx (by omega)
  have h2 := Floor.ok y i hy (by omega)
  rw [Int.toNat_natCast] at h1 h2
  refine ok_of (X := fun _ => []) (Z := fun _ => false) (res := [ResultVar.cell 6 102]) tok follows Try.func93 rfl rfl fine93 (by kernel_rfl) (by kernel_rfl) ?_
  simp only [evA, evT, Go.undef, aload, astore, afieldAddr, afield, aindex, aindexAddr, abuild, abuildSlice, amakeSlice, aslice, aext, alen, aminmax, minmaxGo, aappend, newsOf, buildCells, cutRows, reps, setCells, AV.cells, allOne, AV.one, Value.oneCell', AV.pure, allPure, AV.free, allFree, rowsFree, Nat.reduceBEq, Nat.reduceAdd, Nat.reduceMul, Nat.reduceSub, Nat.reduceLT, Nat.reduceLeDiff, Int.reduceToNat, reduceIte, reduceCtorEq, Int.reduceLT, Int.reduceLE, Nat.reduceEqDiff, Int.reduceEq, Int.reduceNeg, Int.reduceMul, Int.reduceAdd, Int.reduceSub, Int.reduceBNe, Int.reduceBEq, apart, bnd]
  refine call_ok h1 rfl ?_
  simp only [evA, evT, Go.undef, aload, astore, afieldAddr, afield, aindex, aindexAddr, abuild, abuildSlice, amakeSlice, aslice, aext, alen, aminmax, minmaxGo, aappend, newsOf, buildCells, cutRows, reps, setCells, AV.cells, allOne, AV.one, Value.oneCell', AV.pure, allPure, AV.free, allFree, rowsFree, Nat.reduceBEq, Nat.reduceAdd, Nat.reduceMul, Nat.reduceSub, Nat.reduceLT, Nat.reduceLeDiff, Int.reduceToNat, reduceIte, reduceCtorEq, Int.reduceLT, Int.reduceLE, Nat.reduceEqDiff, Int.reduceEq, Int.reduceNeg, Int.reduceMul, Int.reduceAdd, Int.reduceSub, Int.reduceBNe, Int.reduceBEq, apart, bnd]
  refine call_ok h2 rfl ?_
  by_cases hz : 0 ≤ z
  · have e : stV i a (x, y, z) = (wrap64 (x - y / 2 ^ i), wrap64 (y + x / 2 ^ i), wrap64 (z - a)) := by unfold stV; rw [if_pos hz]
    simp only [evA, evT, Go.undef, aload, astore, afieldAddr, afield, aindex, aindexAddr, abuild, abuildSlice, amakeSlice, aslice, aext, alen, aminmax, minmaxGo, aappend, newsOf, buildCells, cutRows, reps, setCells, AV.cells, allOne, AV.one, Value.oneCell', AV.pure, allPure, AV.free, allFree, rowsFree, Nat.reduceBEq, Nat.reduceAdd, Nat.reduceMul, Nat.reduceSub, Nat.reduceLT, Nat.reduceLeDiff, Int.reduceToNat, reduceIte, reduceCtorEq, Int.reduceLT, Int.reduceLE, Nat.reduceEqDiff, Int.reduceEq, Int.reduceNeg, Int.reduceMul, Int.reduceAdd, Int.reduceSub, Int.reduceBNe, Int.reduceBEq, apart, bnd, hz, e, w64]
  · have e : stV i a (x, y, z) = (wrap64 (x + y / 2 ^ i), wrap64 (y - x / 2 ^ i), wrap64 (z + a)) := by unfold stV; rw [if_neg hz]
    simp only [evA, evT, Go.undef, aload, astore, afieldAddr, afield, aindex, aindexAddr, abuild, abuildSlice, amakeSlice, aslice, aext, alen, aminmax, minmaxGo, aappend, newsOf, buildCells, cutRows, reps, setCells, AV.cells, allOne, AV.one, Value.oneCell', AV.pure, allPure, AV.free, allFree, rowsFree, Nat.reduceBEq, Nat.reduceAdd, Nat.reduceMul, Nat.reduceSub, Nat.reduceLT, Nat.reduceLeDiff, Int.reduceToNat, reduceIte, reduceCtorEq, Int.reduceLT, Int.reduceLE, Nat.reduceEqDiff, Int.reduceEq, Int.reduceNeg, Int.reduceMul, Int.reduceAdd, Int.reduceSub, Int.reduceBNe, Int.reduceBEq, apart, bnd, hz, e, w64]
theorem run_in (x z : Int) (hx : in64 x) : ∀ i, in64 (runV x z i).1 ∧ in64 (runV x z i).2.1
  | 0 => ⟨hx, by show in64 0; unfold in64; decide⟩
  | i + 1 => by
    show in64 (stV i (angV i) (runV x z i)).1 ∧ in64 (stV i (angV i) (runV x z i)).2.1
    unfold stV
    split <;> exact ⟨w64_in _, w64_in _⟩
theorem RunOf.ok (x z : Int) (hx : in64 x) : Ok Try.prog 88 [.sl 1 (intRows (angL 45)), .int x, .int z] (.agg [.int (runV x z 45).1, .int (runV x z 45).2.1, .int (runV x z 45).2.2]) := by
  have hlen : (angL 45).length = 45 := by simp [angL]
  refine ok_of (X := fun _ => []) (Z := fun _ => false) (res := [ResultVar.cell 6 102]) tok follows Try.func88 rfl rfl fine88 (by kernel_rfl) (by kernel_rfl) ?_
  simp only [evA, evT, Go.undef, aload, astore, afieldAddr, afield, aindex, aindexAddr, abuild, abuildSlice, amakeSlice, aslice, aext, alen, aminmax, minmaxGo, aappend, newsOf, buildCells, cutRows, reps, setCells, AV.cells, allOne, AV.one, Value.oneCell', AV.pure, allPure, AV.free, allFree, rowsFree, Nat.reduceBEq, Nat.reduceAdd, Nat.reduceMul, Nat.reduceSub, Nat.reduceLT, Nat.reduceLeDiff, Int.reduceToNat, reduceIte, reduceCtorEq, Int.reduceLT, Int.reduceLE, Nat.reduceEqDiff, Int.reduceEq, Int.reduceNeg, Int.reduceMul, Int.reduceAdd, Int.reduceSub, Int.reduceBNe, Int.reduceBEq, apart, bnd, in_len, hlen]
  refine l_inv (fun i => ⟨[(16, .int i), (15, .int 45), (14, .sl 1 (intRows (angL 45))), (7, .loc 1 0), (6, .loc 0 0)], [(1, some (.box [.int (runV x z i).1, .int (runV x z i).2.1, .int (runV x z i).2.2])), (0, some (.box [.int 0, .int 0, .int 0]))], 2⟩) 45 ?_ (fun i hi K hK => ?_) (fun K => ?_)
  · refine weak_of (fun l => l) rfl ?_ ?_
    all_goals simp only [evA, evB, evT, Go.undef, aload, astore, afieldAddr, afield, aindex, aindexAddr, abuild, abuildSlice, amakeSlice, aslice, aext, alen, aminmax, minmaxGo, aappend, newsOf, buildCells, cutRows, reps, setCells, AV.cells, allOne, AV.one, Value.oneCell', AV.pure, allPure, AV.free, allFree, rowsFree, Nat.reduceBEq, Nat.reduceAdd, Nat.reduceMul, Nat.reduceSub, Nat.reduceLT, Nat.reduceLeDiff, Int.reduceToNat, reduceIte, reduceCtorEq, Int.reduceLT, Int.reduceLE, Nat.reduceEqDiff, Int.reduceEq, Int.reduceNeg, Int.reduceMul, Int.reduceAdd, Int.reduceSub, Int.reduceBNe, Int.reduceBEq, apart, bnd, in_free, runV, Int.natCast_zero, show ((45 : Nat) : Int) = 45 from rfl]
  · have h1 : (i : Int) < 45 := by omega
    have h2 : (0 : Int) ≤ i := by omega
    have h3 : IntKind.i64.wrap ((i : Int) + 1) = ((i + 1 : Nat) : Int) := by rw [wr (by omega)]; omega
    have h4 : i < (angL 45).length := by omega
    have h5 : (angL 45)[i] = angV i := by simp [angL]
    have h6 : ((45 : Nat) : Int) = 45 := rfl
    obtain ⟨r1, r2⟩ := run_in x z hx i
    have hs := step.ok (runV x z i).1 (runV x z i).2.1 (runV x z i).2.2 (angV i) i (by omega) r1 r2
    simp only [evA, evT, Go.undef, aload, astore, afieldAddr, afield, aindex, aindexAddr, abuild, abuildSlice, amakeSlice, aslice, aext, alen, aminmax, minmaxGo, aappend, newsOf, buildCells, cutRows, reps, setCells, AV.cells, allOne, AV.one, Value.oneCell', AV.pure, allPure, AV.free, allFree, rowsFree, Nat.reduceBEq, Nat.reduceAdd, Nat.reduceMul, Nat.reduceSub, Nat.reduceLT, Nat.reduceLeDiff, Int.reduceToNat, reduceIte, reduceCtorEq, Int.reduceLT, Int.reduceLE, Nat.reduceEqDiff, Int.reduceEq, Int.reduceNeg, Int.reduceMul, Int.reduceAdd, Int.reduceSub, Int.reduceBNe, Int.reduceBEq, apart, bnd, h1, h2, in_len, hlen, h6, Int.toNat_natCast, in_get h4, h5]
    refine call_ok hs rfl ?_
    simp only [evA, evT, Go.undef, aload, astore, afieldAddr, afield, aindex, aindexAddr, abuild, abuildSlice, amakeSlice, aslice, aext, alen, aminmax, minmaxGo, aappend, newsOf, buildCells, cutRows, reps, setCells, AV.cells, allOne, AV.one, Value.oneCell', AV.pure, allPure, AV.free, allFree, rowsFree, Nat.reduceBEq, Nat.reduceAdd, Nat.reduceMul, Nat.reduceSub, Nat.reduceLT, Nat.reduceLeDiff, Int.reduceToNat, reduceIte, reduceCtorEq, Int.reduceLT, Int.reduceLE, Nat.reduceEqDiff, Int.reduceEq, Int.reduceNeg, Int.reduceMul, Int.reduceAdd, Int.reduceSub, Int.reduceBNe, Int.reduceBEq, apart, bnd, h3]
    refine hK _ (weak_of (fun l => l) rfl ?_ ?_)
    all_goals simp only [evA, evB, evT, Go.undef, aload, astore, afieldAddr, afield, aindex, aindexAddr, abuild, abuildSlice, amakeSlice, aslice, aext, alen, aminmax, minmaxGo, aappend, newsOf, buildCells, cutRows, reps, setCells, AV.cells, allOne, AV.one, Value.oneCell', AV.pure, allPure, AV.free, allFree, rowsFree, Nat.reduceBEq, Nat.reduceAdd, Nat.reduceMul, Nat.reduceSub, Nat.reduceLT, Nat.reduceLeDiff, Int.reduceToNat, reduceIte, reduceCtorEq, Int.reduceLT, Int.reduceLE, Nat.reduceEqDiff, Int.reduceEq, Int.reduceNeg, Int.reduceMul, Int.reduceAdd, Int.reduceSub, Int.reduceBNe, Int.reduceBEq, apart, bnd, in_free, runV]
  · simp only [evA, evT, Go.undef, aload, astore, afieldAddr, afield, aindex, aindexAddr, abuild, abuildSlice, amakeSlice, aslice, aext, alen, aminmax, minmaxGo, aappend, newsOf, buildCells, cutRows, reps, setCells, AV.cells, allOne, AV.one, Value.oneCell', AV.pure, allPure, AV.free, allFree, rowsFree, Nat.reduceBEq, Nat.reduceAdd, Nat.reduceMul, Nat.reduceSub, Nat.reduceLT, Nat.reduceLeDiff, Int.reduceToNat, reduceIte, reduceCtorEq, Int.reduceLT, Int.reduceLE, Nat.reduceEqDiff, Int.reduceEq, Int.reduceNeg, Int.reduceMul, Int.reduceAdd, Int.reduceSub, Int.reduceBNe, Int.reduceBEq, apart, bnd]
theorem RRun.ok (x z : Int) (hx : in64 x) : Ok Try.prog 87 [.int x, .int z] (.agg [.int (runV x z 45).1, .int (runV x z 45).2.1, .int (runV x z 45).2.2]) := by
  refine ok_of (X := fun _ => []) (Z := fun _ => false) (res := [ResultVar.cell 4 102]) tok follows Try.func87 rfl rfl fine87 (by kernel_rfl) (by kernel_rfl) ?_
  simp only [evA, evT, Go.undef, aload, astore, afieldAddr, afield, aindex, aindexAddr, abuild, abuildSlice, amakeSlice, aslice, aext, alen, aminmax, minmaxGo, aappend, newsOf, buildCells, cutRows, reps, setCells, AV.cells, allOne, AV.one, Value.oneCell', AV.pure, allPure, AV.free, allFree, rowsFree, Nat.reduceBEq, Nat.reduceAdd, Nat.reduceMul, Nat.reduceSub, Nat.reduceLT, Nat.reduceLeDiff, Int.reduceToNat, reduceIte, reduceCtorEq, Int.reduceLT, Int.reduceLE, Nat.reduceEqDiff, Int.reduceEq, Int.reduceNeg, Int.reduceMul, Int.reduceAdd, Int.reduceSub, Int.reduceBNe, Int.reduceBEq, apart, bnd]
  refine call_ok RAngles.ok (by simp only [evA, evT, Go.undef, aload, astore, afieldAddr, afield, aindex, aindexAddr, abuild, abuildSlice, amakeSlice, aslice, aext, alen, aminmax, minmaxGo, aappend, newsOf, buildCells, cutRows, reps, setCells, AV.cells, allOne, AV.one, Value.oneCell', AV.pure, allPure, AV.free, allFree, rowsFree, Nat.reduceBEq, Nat.reduceAdd, Nat.reduceMul, Nat.reduceSub, Nat.reduceLT, Nat.reduceLeDiff, Int.reduceToNat, reduceIte, reduceCtorEq, Int.reduceLT, Int.reduceLE, Nat.reduceEqDiff, Int.reduceEq, Int.reduceNeg, Int.reduceMul, Int.reduceAdd, Int.reduceSub, Int.reduceBNe, Int.reduceBEq, apart, bnd, in_free]) ?_
  simp only [evA, evT, Go.undef, aload, astore, afieldAddr, afield, aindex, aindexAddr, abuild, abuildSlice, amakeSlice, aslice, aext, alen, aminmax, minmaxGo, aappend, newsOf, buildCells, cutRows, reps, setCells, AV.cells, allOne, AV.one, Value.oneCell', AV.pure, allPure, AV.free, allFree, rowsFree, Nat.reduceBEq, Nat.reduceAdd, Nat.reduceMul, Nat.reduceSub, Nat.reduceLT, Nat.reduceLeDiff, Int.reduceToNat, reduceIte, reduceCtorEq, Int.reduceLT, Int.reduceLE, Nat.reduceEqDiff, Int.reduceEq, Int.reduceNeg, Int.reduceMul, Int.reduceAdd, Int.reduceSub, Int.reduceBNe, Int.reduceBEq, apart, bnd, in_free]
  refine call_ok (RunOf.ok x z hx) rfl ?_
  simp only [evA, evT, Go.undef, aload, astore, afieldAddr, afield, aindex, aindexAddr, abuild, abuildSlice, amakeSlice, aslice, aext, alen, aminmax, minmaxGo, aappend, newsOf, buildCells, cutRows, reps, setCells, AV.cells, allOne, AV.one, Value.oneCell', AV.pure, allPure, AV.free, allFree, rowsFree, Nat.reduceBEq, Nat.reduceAdd, Nat.reduceMul, Nat.reduceSub, Nat.reduceLT, Nat.reduceLeDiff, Int.reduceToNat, reduceIte, reduceCtorEq, Int.reduceLT, Int.reduceLE, Nat.reduceEqDiff, Int.reduceEq, Int.reduceNeg, Int.reduceMul, Int.reduceAdd, Int.reduceSub, Int.reduceBNe, Int.reduceBEq, apart, bnd]
theorem RGain.ok : Ok Try.prog 82 [] (.int gainV) := by
  have hP := Pow.ok 56 (by decide)
  rw [p56] at hP
  refine ok_of (X := fun _ => []) (Z := fun _ => false) (res := [ResultVar.tmp 0]) tok follows Try.func82 rfl rfl fine82 (by kernel_rfl) (by kernel_rfl) ?_
  simp only [evA, evT, Go.undef, aload, astore, afieldAddr, afield, aindex, aindexAddr, abuild, abuildSlice, amakeSlice, aslice, aext, alen, aminmax, minmaxGo, aappend, newsOf, buildCells, cutRows, reps, setCells, AV.cells, allOne, AV.one, Value.oneCell', AV.pure, allPure, AV.free, allFree, rowsFree, Nat.reduceBEq, Nat.reduceAdd, Nat.reduceMul, Nat.reduceSub, Nat.reduceLT, Nat.reduceLeDiff, Int.reduceToNat, reduceIte, reduceCtorEq, Int.reduceLT, Int.reduceLE, Nat.reduceEqDiff, Int.reduceEq, Int.reduceNeg, Int.reduceMul, Int.reduceAdd, Int.reduceSub, Int.reduceBNe, Int.reduceBEq, apart, bnd]
  refine call_ok hP rfl ?_
  simp only [evA, evT, Go.undef, aload, astore, afieldAddr, afield, aindex, aindexAddr, abuild, abuildSlice, amakeSlice, aslice, aext, alen, aminmax, minmaxGo, aappend, newsOf, buildCells, cutRows, reps, setCells, AV.cells, allOne, AV.one, Value.oneCell', AV.pure, allPure, AV.free, allFree, rowsFree, Nat.reduceBEq, Nat.reduceAdd, Nat.reduceMul, Nat.reduceSub, Nat.reduceLT, Nat.reduceLeDiff, Int.reduceToNat, reduceIte, reduceCtorEq, Int.reduceLT, Int.reduceLE, Nat.reduceEqDiff, Int.reduceEq, Int.reduceNeg, Int.reduceMul, Int.reduceAdd, Int.reduceSub, Int.reduceBNe, Int.reduceBEq, apart, bnd]
  refine call_ok (RRun.ok 72057594037927936 0 (by unfold in64; decide)) rfl ?_
  simp only [evA, evT, Go.undef, aload, astore, afieldAddr, afield, aindex, aindexAddr, abuild, abuildSlice, amakeSlice, aslice, aext, alen, aminmax, minmaxGo, aappend, newsOf, buildCells, cutRows, reps, setCells, AV.cells, allOne, AV.one, Value.oneCell', AV.pure, allPure, AV.free, allFree, rowsFree, Nat.reduceBEq, Nat.reduceAdd, Nat.reduceMul, Nat.reduceSub, Nat.reduceLT, Nat.reduceLeDiff, Int.reduceToNat, reduceIte, reduceCtorEq, Int.reduceLT, Int.reduceLE, Nat.reduceEqDiff, Int.reduceEq, Int.reduceNeg, Int.reduceMul, Int.reduceAdd, Int.reduceSub, Int.reduceBNe, Int.reduceBEq, apart, bnd, gainV]
/-- The same, by the document. -/
def invR (g : Int) : Nat → Int × Int
  | 0 => (72057594037927936, 0)
  | i + 1 => if g ≤ wrap64 (2 * (invR g i).1) then (wrap64 (wrap64 (2 * (invR g i).1) - g), wrap64 (wrap64 (2 * (invR g i).2) + 1)) else (wrap64 (2 * (invR g i).1), wrap64 (2 * (invR g i).2))
theorem invR_n : (invR gainV 56).2 = invV := by
  rw [inv_n, gain_n]
  decide +kernel
theorem RInverse.ok : Ok Try.prog 70 [] (.int invV) := by
  have hP := Pow.ok 56 (by decide)
  rw [p56] at hP
  refine ok_of (X := fun _ => []) (Z := fun _ => false) (res := [ResultVar.tmp 0]) tok follows Try.func70 rfl rfl fine70 (by kernel_rfl) (by kernel_rfl) ?_
  simp only [evA, evT, Go.undef, aload, astore, afieldAddr, afield, aindex, aindexAddr, abuild, abuildSlice, amakeSlice, aslice, aext, alen, aminmax, minmaxGo, aappend, newsOf, buildCells, cutRows, reps, setCells, AV.cells, allOne, AV.one, Value.oneCell', AV.pure, allPure, AV.free, allFree, rowsFree, Nat.reduceBEq, Nat.reduceAdd, Nat.reduceMul, Nat.reduceSub, Nat.reduceLT, Nat.reduceLeDiff, Int.reduceToNat, reduceIte, reduceCtorEq, Int.reduceLT, Int.reduceLE, Nat.reduceEqDiff, Int.reduceEq, Int.reduceNeg, Int.reduceMul, Int.reduceAdd, Int.reduceSub, Int.reduceBNe, Int.reduceBEq, apart, bnd]
  refine call_ok RGain.ok rfl ?_
  simp only [evA, evT, Go.undef, aload, astore, afieldAddr, afield, aindex, aindexAddr, abuild, abuildSlice, amakeSlice, aslice, aext, alen, aminmax, minmaxGo, aappend, newsOf, buildCells, cutRows, reps, setCells, AV.cells, allOne, AV.one, Value.oneCell', AV.pure, allPure, AV.free, allFree, rowsFree, Nat.reduceBEq, Nat.reduceAdd, Nat.reduceMul, Nat.reduceSub, Nat.reduceLT, Nat.reduceLeDiff, Int.reduceToNat, reduceIte, reduceCtorEq, Int.reduceLT, Int.reduceLE, Nat.reduceEqDiff, Int.reduceEq, Int.reduceNeg, Int.reduceMul, Int.reduceAdd, Int.reduceSub, Int.reduceBNe, Int.reduceBEq, apart, bnd]
  refine call_ok hP rfl ?_
  simp only [evA, evT, Go.undef, aload, astore, afieldAddr, afield, aindex, aindexAddr, abuild, abuildSlice, amakeSlice, aslice, aext, alen, aminmax, minmaxGo, aappend, newsOf, buildCells, cutRows, reps, setCells, AV.cells, allOne, AV.one, Value.oneCell', AV.pure, allPure, AV.free, allFree, rowsFree, Nat.reduceBEq, Nat.reduceAdd, Nat.reduceMul, Nat.reduceSub, Nat.reduceLT, Nat.reduceLeDiff, Int.reduceToNat, reduceIte, reduceCtorEq, Int.reduceLT, Int.reduceLE, Nat.reduceEqDiff, Int.reduceEq, Int.reduceNeg, Int.reduceMul, Int.reduceAdd, Int.reduceSub, Int.reduceBNe, Int.reduceBEq, apart, bnd]
  refine l_inv (fun i => ⟨[(4, .int i), (3, .int (invR gainV i).2), (2, .int (invR gainV i).1), (1, .int gainV)], [], 0⟩) 56 ?_ (fun i hi K hK => ?_) (fun K => ?_)
  · refine weak_of (fun l => l) rfl trivial ?_
    simp only [evA, evB, evT, Go.undef, aload, astore, afieldAddr, afield, aindex, aindexAddr, abuild, abuildSlice, amakeSlice, aslice, aext, alen, aminmax, minmaxGo, aappend, newsOf, buildCells, cutRows, reps, setCells, AV.cells, allOne, AV.one, Value.oneCell', AV.pure, allPure, AV.free, allFree, rowsFree, Nat.reduceBEq, Nat.reduceAdd, Nat.reduceMul, Nat.reduceSub, Nat.reduceLT, Nat.reduceLeDiff, Int.reduceToNat, reduceIte, reduceCtorEq, Int.reduceLT, Int.reduceLE, Nat.reduceEqDiff, Int.reduceEq, Int.reduceNeg, Int.reduceMul, Int.reduceAdd, Int.reduceSub, Int.reduceBNe, Int.reduceBEq, apart, bnd, invR, Int.natCast_zero]
  · have h1 : (i : Int) < 56 := by omega
    have h3 : IntKind.i64.wrap ((i : Int) + 1) = ((i + 1 : Nat) : Int) := by rw [wr (by omega)]; omega
    by_cases hg : gainV ≤ wrap64 (2 * (invR gainV i).1)
    · have e : invR gainV (i + 1) = (wrap64 (wrap64 (2 * (invR gainV i).1) - gainV), wrap64 (wrap64 (2 * (invR gainV i).2) + 1)) := by rw [invR, if_pos hg]
      simp only [evA, evT, Go.undef, aload, astore, afieldAddr, afield, aindex, aindexAddr, abuild, abuildSlice, amakeSlice, aslice, aext, alen, aminmax, minmaxGo, aappend, newsOf, buildCells, cutRows, reps, setCells, AV.cells, allOne, AV.one, Value.oneCell', AV.pure, allPure, AV.free, allFree, rowsFree, Nat.reduceBEq, Nat.reduceAdd, Nat.reduceMul, Nat.reduceSub, Nat.reduceLT, Nat.reduceLeDiff, Int.reduceToNat, reduceIte, reduceCtorEq, Int.reduceLT, Int.reduceLE, Nat.reduceEqDiff, Int.reduceEq, Int.reduceNeg, Int.reduceMul, Int.reduceAdd, Int.reduceSub, Int.reduceBNe, Int.reduceBEq, apart, bnd, h1, h3, w64, hg]
      refine hK _ (weak_of (fun l => l) rfl trivial ?_)
      simp only [evA, evB, evT, Go.undef, aload, astore, afieldAddr, afield, aindex, aindexAddr, abuild, abuildSlice, amakeSlice, aslice, aext, alen, aminmax, minmaxGo, aappend, newsOf, buildCells, cutRows, reps, setCells, AV.cells, allOne, AV.one, Value.oneCell', AV.pure, allPure, AV.free, allFree, rowsFree, Nat.reduceBEq, Nat.reduceAdd, Nat.reduceMul, Nat.reduceSub, Nat.reduceLT, Nat.reduceLeDiff, Int.reduceToNat, reduceIte, reduceCtorEq, Int.reduceLT, Int.reduceLE, Nat.reduceEqDiff, Int.reduceEq, Int.reduceNeg, Int.reduceMul, Int.reduceAdd, Int.reduceSub, Int.reduceBNe, Int.reduceBEq, apart, bnd, e]
    · have e : invR gainV (i + 1) = (wrap64 (2 * (invR gainV i).1), wrap64 (2 * (invR gainV i).2)) := by rw [invR, if_neg hg]
      simp only [evA, evT, Go.undef, aload, astore, afieldAddr, afield, aindex, aindexAddr, abuild, abuildSlice, amakeSlice, aslice, aext, alen, aminmax, minmaxGo, aappend, newsOf, buildCells, cutRows, reps, setCells, AV.cells, allOne, AV.one, Value.oneCell', AV.pure, allPure, AV.free, allFree, rowsFree, Nat.reduceBEq, Nat.reduceAdd, Nat.reduceMul, Nat.reduceSub, Nat.reduceLT, Nat.reduceLeDiff, Int.reduceToNat, reduceIte, reduceCtorEq, Int.reduceLT, Int.reduceLE, Nat.reduceEqDiff, Int.reduceEq, Int.reduceNeg, Int.reduceMul, Int.reduceAdd, Int.reduceSub, Int.reduceBNe, Int.reduceBEq, apart, bnd, h1, h3, w64, hg]
      refine hK _ (weak_of (fun l => l) rfl trivial ?_)
      simp only [evA, evB, evT, Go.undef, aload, astore, afieldAddr, afield, aindex, aindexAddr, abuild, abuildSlice, amakeSlice, aslice, aext, alen, aminmax, minmaxGo, aappend, newsOf, buildCells, cutRows, reps, setCells, AV.cells, allOne, AV.one, Value.oneCell', AV.pure, allPure, AV.free, allFree, rowsFree, Nat.reduceBEq, Nat.reduceAdd, Nat.reduceMul, Nat.reduceSub, Nat.reduceLT, Nat.reduceLeDiff, Int.reduceToNat, reduceIte, reduceCtorEq, Int.reduceLT, Int.reduceLE, Nat.reduceEqDiff, Int.reduceEq, Int.reduceNeg, Int.reduceMul, Int.reduceAdd, Int.reduceSub, Int.reduceBNe, Int.reduceBEq, apart, bnd, e]
  · simp only [evA, evT, Go.undef, aload, astore, afieldAddr, afield, aindex, aindexAddr, abuild, abuildSlice, amakeSlice, aslice, aext, alen, aminmax, minmaxGo, aappend, newsOf, buildCells, cutRows, reps, setCells, AV.cells, allOne, AV.one, Value.oneCell', AV.pure, allPure, AV.free, allFree, rowsFree, Nat.reduceBEq, Nat.reduceAdd, Nat.reduceMul, Nat.reduceSub, Nat.reduceLT, Nat.reduceLeDiff, Int.reduceToNat, reduceIte, reduceCtorEq, Int.reduceLT, Int.reduceLE, Nat.reduceEqDiff, Int.reduceEq, Int.reduceNeg, Int.reduceMul, Int.reduceAdd, Int.reduceSub, Int.reduceBNe, Int.reduceBEq, apart, bnd, invR_n]
abbrev tAV : AV := .agg [.sl 1 (intRows (angL 45)), .int invV]
theorem All.ok : Ok Try.prog 52 [] tAV := by
  refine ok_of (X := fun _ => []) (Z := fun _ => false) (res := [ResultVar.cell 0 81]) tok follows Try.func52 rfl rfl fine52 (by kernel_rfl) (by kernel_rfl) ?_
  simp only [evA, evT, Go.undef, aload, astore, afieldAddr, afield, aindex, aindexAddr, abuild, abuildSlice, amakeSlice, aslice, aext, alen, aminmax, minmaxGo, aappend, newsOf, buildCells, cutRows, reps, setCells, AV.cells, allOne, AV.one, Value.oneCell', AV.pure, allPure, AV.free, allFree, rowsFree, Nat.reduceBEq, Nat.reduceAdd, Nat.reduceMul, Nat.reduceSub, Nat.reduceLT, Nat.reduceLeDiff, Int.reduceToNat, reduceIte, reduceCtorEq, Int.reduceLT, Int.reduceLE, Nat.reduceEqDiff, Int.reduceEq, Int.reduceNeg, Int.reduceMul, Int.reduceAdd, Int.reduceSub, Int.reduceBNe, Int.reduceBEq, apart, bnd]
  refine call_ok RAngles.ok (by simp only [evA, evT, Go.undef, aload, astore, afieldAddr, afield, aindex, aindexAddr, abuild, abuildSlice, amakeSlice, aslice, aext, alen, aminmax, minmaxGo, aappend, newsOf, buildCells, cutRows, reps, setCells, AV.cells, allOne, AV.one, Value.oneCell', AV.pure, allPure, AV.free, allFree, rowsFree, Nat.reduceBEq, Nat.reduceAdd, Nat.reduceMul, Nat.reduceSub, Nat.reduceLT, Nat.reduceLeDiff, Int.reduceToNat, reduceIte, reduceCtorEq, Int.reduceLT, Int.reduceLE, Nat.reduceEqDiff, Int.reduceEq, Int.reduceNeg, Int.reduceMul, Int.reduceAdd, Int.reduceSub, Int.reduceBNe, Int.reduceBEq, apart, bnd, in_free]) ?_
  simp only [evA, evT, Go.undef, aload, astore, afieldAddr, afield, aindex, aindexAddr, abuild, abuildSlice, amakeSlice, aslice, aext, alen, aminmax, minmaxGo, aappend, newsOf, buildCells, cutRows, reps, setCells, AV.cells, allOne, AV.one, Value.oneCell', AV.pure, allPure, AV.free, allFree, rowsFree, Nat.reduceBEq, Nat.reduceAdd, Nat.reduceMul, Nat.reduceSub, Nat.reduceLT, Nat.reduceLeDiff, Int.reduceToNat, reduceIte, reduceCtorEq, Int.reduceLT, Int.reduceLE, Nat.reduceEqDiff, Int.reduceEq, Int.reduceNeg, Int.reduceMul, Int.reduceAdd, Int.reduceSub, Int.reduceBNe, Int.reduceBEq, apart, bnd]
  refine call_ok RInverse.ok rfl ?_
  simp only [evA, evT, Go.undef, aload, astore, afieldAddr, afield, aindex, aindexAddr, abuild, abuildSlice, amakeSlice, aslice, aext, alen, aminmax, minmaxGo, aappend, newsOf, buildCells, cutRows, reps, setCells, AV.cells, allOne, AV.one, Value.oneCell', AV.pure, allPure, AV.free, allFree, rowsFree, Nat.reduceBEq, Nat.reduceAdd, Nat.reduceMul, Nat.reduceSub, Nat.reduceLT, Nat.reduceLeDiff, Int.reduceToNat, reduceIte, reduceCtorEq, Int.reduceLT, Int.reduceLE, Nat.reduceEqDiff, Int.reduceEq, Int.reduceNeg, Int.reduceMul, Int.reduceAdd, Int.reduceSub, Int.reduceBNe, Int.reduceBEq, apart, bnd, in_free]
theorem EighthOf.ok (k log : Nat) (hl : log ≤ 6) (hk : k ≤ 2 ^ log) : Ok Try.prog 83 [tAV, .int k, .int log] (cxA (eV k log).1 (eV k log).2) := by
  obtain ⟨z1, z2, z3, z4⟩ := z_bd hl hk
  have e : IntKind.i64.wrap (quarterV * (k : Int)) = quarterV * k := wr (by omega)
  have hF := Floor.ok (quarterV * k) log (by unfold in64; omega) (by omega)
  rw [Int.toNat_natCast] at hF
  have hlen : (angL 45).length = 45 := by simp [angL]
  have h0 : (intRows (angL 45)).getD 0 [] = [.int quarterV] := by
    rw [in_get (by omega)]
    rfl
  have h6 : ((45 : Nat) : Int) = 45 := rfl
  refine ok_of (X := fun _ => []) (Z := fun _ => false) (res := [ResultVar.cell 6 35]) tok follows Try.func83 rfl rfl fine83 (by kernel_rfl) (by kernel_rfl) ?_
  simp only [evA, evT, Go.undef, aload, astore, afieldAddr, afield, aindex, aindexAddr, abuild, abuildSlice, amakeSlice, aslice, aext, alen, aminmax, minmaxGo, aappend, newsOf, buildCells, cutRows, reps, setCells, AV.cells, allOne, AV.one, Value.oneCell', AV.pure, allPure, AV.free, allFree, rowsFree, Nat.reduceBEq, Nat.reduceAdd, Nat.reduceMul, Nat.reduceSub, Nat.reduceLT, Nat.reduceLeDiff, Int.reduceToNat, reduceIte, reduceCtorEq, Int.reduceLT, Int.reduceLE, Nat.reduceEqDiff, Int.reduceEq, Int.reduceNeg, Int.reduceMul, Int.reduceAdd, Int.reduceSub, Int.reduceBNe, Int.reduceBEq, apart, bnd, in_len, hlen, h6, h0, e, in_free]
  refine call_ok hF rfl ?_
  simp only [evA, evT, Go.undef, aload, astore, afieldAddr, afield, aindex, aindexAddr, abuild, abuildSlice, amakeSlice, aslice, aext, alen, aminmax, minmaxGo, aappend, newsOf, buildCells, cutRows, reps, setCells, AV.cells, allOne, AV.one, Value.oneCell', AV.pure, allPure, AV.free, allFree, rowsFree, Nat.reduceBEq, Nat.reduceAdd, Nat.reduceMul, Nat.reduceSub, Nat.reduceLT, Nat.reduceLeDiff, Int.reduceToNat, reduceIte, reduceCtorEq, Int.reduceLT, Int.reduceLE, Nat.reduceEqDiff, Int.reduceEq, Int.reduceNeg, Int.reduceMul, Int.reduceAdd, Int.reduceSub, Int.reduceBNe, Int.reduceBEq, apart, bnd, in_free]
  refine call_ok (RunOf.ok invV (quarterV * k / 2 ^ log) (by rw [inv_n]; unfold in64; decide)) rfl ?_
  simp only [evA, evT, Go.undef, aload, astore, afieldAddr, afield, aindex, aindexAddr, abuild, abuildSlice, amakeSlice, aslice, aext, alen, aminmax, minmaxGo, aappend, newsOf, buildCells, cutRows, reps, setCells, AV.cells, allOne, AV.one, Value.oneCell', AV.pure, allPure, AV.free, allFree, rowsFree, Nat.reduceBEq, Nat.reduceAdd, Nat.reduceMul, Nat.reduceSub, Nat.reduceLT, Nat.reduceLeDiff, Int.reduceToNat, reduceIte, reduceCtorEq, Int.reduceLT, Int.reduceLE, Nat.reduceEqDiff, Int.reduceEq, Int.reduceNeg, Int.reduceMul, Int.reduceAdd, Int.reduceSub, Int.reduceBNe, Int.reduceBEq, apart, bnd, eV, zV]
theorem Rpoint.ok (log u : Nat) (hl : log ≤ 6) (hu : u ≤ 2 ^ log) : Ok Try.prog 72 [tAV, .int log, .int u] (cxA (ptV log u).1 (ptV log u).2) := by
  have hp := pow6 hl
  have hpn : ((2 ^ log : Nat) : Int) = 2 ^ log := by rw [Int.natCast_pow]; rfl
  have hu' : (u : Int) ≤ 2 ^ log := by rw [← hpn]; exact_mod_cast hu
  have e2 : IntKind.i64.wrap (2 * (u : Int)) = ((2 * u : Nat) : Int) := by rw [wr (by omega)]; omega
  have e3 : IntKind.i64.wrap ((2 : Int) ^ log - u) = ((2 ^ log - u : Nat) : Int) := by rw [wr (by omega)]; omega
  have e4 : IntKind.i64.wrap (2 * ((2 ^ log - u : Nat) : Int)) = ((2 * (2 ^ log - u) : Nat) : Int) := by rw [wr (by omega)]; omega
  have hP := Pow.ok log (by omega)
  rw [Int.toNat_natCast] at hP
  refine ok_of (X := fun _ => []) (Z := fun _ => false) (res := [ResultVar.cell 6 35]) tok follows Try.func72 rfl rfl fine72 (by kernel_rfl) (by kernel_rfl) ?_
  simp only [evA, evT, Go.undef, aload, astore, afieldAddr, afield, aindex, aindexAddr, abuild, abuildSlice, amakeSlice, aslice, aext, alen, aminmax, minmaxGo, aappend, newsOf, buildCells, cutRows, reps, setCells, AV.cells, allOne, AV.one, Value.oneCell', AV.pure, allPure, AV.free, allFree, rowsFree, Nat.reduceBEq, Nat.reduceAdd, Nat.reduceMul, Nat.reduceSub, Nat.reduceLT, Nat.reduceLeDiff, Int.reduceToNat, reduceIte, reduceCtorEq, Int.reduceLT, Int.reduceLE, Nat.reduceEqDiff, Int.reduceEq, Int.reduceNeg, Int.reduceMul, Int.reduceAdd, Int.reduceSub, Int.reduceBNe, Int.reduceBEq, apart, bnd]
  refine call_ok hP rfl ?_
  by_cases c1 : 2 * u < 2 ^ log
  · have c1' : ((2 * u : Nat) : Int) < 2 ^ log := by omega
    have e : ptV log u = eV (2 * u) log := by unfold ptV; rw [if_pos c1]
    simp only [evA, evT, Go.undef, aload, astore, afieldAddr, afield, aindex, aindexAddr, abuild, abuildSlice, amakeSlice, aslice, aext, alen, aminmax, minmaxGo, aappend, newsOf, buildCells, cutRows, reps, setCells, AV.cells, allOne, AV.one, Value.oneCell', AV.pure, allPure, AV.free, allFree, rowsFree, Nat.reduceBEq, Nat.reduceAdd, Nat.reduceMul, Nat.reduceSub, Nat.reduceLT, Nat.reduceLeDiff, Int.reduceToNat, reduceIte, reduceCtorEq, Int.reduceLT, Int.reduceLE, Nat.reduceEqDiff, Int.reduceEq, Int.reduceNeg, Int.reduceMul, Int.reduceAdd, Int.reduceSub, Int.reduceBNe, Int.reduceBEq, apart, bnd, e2, c1', in_free]
    refine call_ok (EighthOf.ok (2 * u) log hl (by omega)) rfl ?_
    simp only [evA, evT, Go.undef, aload, astore, afieldAddr, afield, aindex, aindexAddr, abuild, abuildSlice, amakeSlice, aslice, aext, alen, aminmax, minmaxGo, aappend, newsOf, buildCells, cutRows, reps, setCells, AV.cells, allOne, AV.one, Value.oneCell', AV.pure, allPure, AV.free, allFree, rowsFree, Nat.reduceBEq, Nat.reduceAdd, Nat.reduceMul, Nat.reduceSub, Nat.reduceLT, Nat.reduceLeDiff, Int.reduceToNat, reduceIte, reduceCtorEq, Int.reduceLT, Int.reduceLE, Nat.reduceEqDiff, Int.reduceEq, Int.reduceNeg, Int.reduceMul, Int.reduceAdd, Int.reduceSub, Int.reduceBNe, Int.reduceBEq, apart, bnd, e]
  · have c1' : ¬ ((2 * u : Nat) : Int) < 2 ^ log := by omega
    by_cases c2 : 2 ^ log < 2 * u
    · have c2' : (2 : Int) ^ log < ((2 * u : Nat) : Int) := by omega
      have e : ptV log u = ((eV (2 * (2 ^ log - u)) log).2, (eV (2 * (2 ^ log - u)) log).1) := by unfold ptV; rw [if_neg c1, if_pos c2]
      simp only [evA, evT, Go.undef, aload, astore, afieldAddr, afield, aindex, aindexAddr, abuild, abuildSlice, amakeSlice, aslice, aext, alen, aminmax, minmaxGo, aappend, newsOf, buildCells, cutRows, reps, setCells, AV.cells, allOne, AV.one, Value.oneCell', AV.pure, allPure, AV.free, allFree, rowsFree, Nat.reduceBEq, Nat.reduceAdd, Nat.reduceMul, Nat.reduceSub, Nat.reduceLT, Nat.reduceLeDiff, Int.reduceToNat, reduceIte, reduceCtorEq, Int.reduceLT, Int.reduceLE, Nat.reduceEqDiff, Int.reduceEq, Int.reduceNeg, Int.reduceMul, Int.reduceAdd, Int.reduceSub, Int.reduceBNe, Int.reduceBEq, apart, bnd, e2, e3, e4, c1', c2', in_free]
      refine call_ok (EighthOf.ok (2 * (2 ^ log - u)) log hl (by omega)) rfl ?_
      simp only [evA, evT, Go.undef, aload, astore, afieldAddr, afield, aindex, aindexAddr, abuild, abuildSlice, amakeSlice, aslice, aext, alen, aminmax, minmaxGo, aappend, newsOf, buildCells, cutRows, reps, setCells, AV.cells, allOne, AV.one, Value.oneCell', AV.pure, allPure, AV.free, allFree, rowsFree, Nat.reduceBEq, Nat.reduceAdd, Nat.reduceMul, Nat.reduceSub, Nat.reduceLT, Nat.reduceLeDiff, Int.reduceToNat, reduceIte, reduceCtorEq, Int.reduceLT, Int.reduceLE, Nat.reduceEqDiff, Int.reduceEq, Int.reduceNeg, Int.reduceMul, Int.reduceAdd, Int.reduceSub, Int.reduceBNe, Int.reduceBEq, apart, bnd, e]
    · have c2' : ¬ (2 : Int) ^ log < ((2 * u : Nat) : Int) := by omega
      have e : ptV log u = ((eV (2 ^ log) log).1, (eV (2 ^ log) log).1) := by unfold ptV; rw [if_neg c1, if_neg c2]
      have hE := EighthOf.ok (2 ^ log) log hl (Nat.le_refl _)
      rw [hpn] at hE
      simp only [evA, evT, Go.undef, aload, astore, afieldAddr, afield, aindex, aindexAddr, abuild, abuildSlice, amakeSlice, aslice, aext, alen, aminmax, minmaxGo, aappend, newsOf, buildCells, cutRows, reps, setCells, AV.cells, allOne, AV.one, Value.oneCell', AV.pure, allPure, AV.free, allFree, rowsFree, Nat.reduceBEq, Nat.reduceAdd, Nat.reduceMul, Nat.reduceSub, Nat.reduceLT, Nat.reduceLeDiff, Int.reduceToNat, reduceIte, reduceCtorEq, Int.reduceLT, Int.reduceLE, Nat.reduceEqDiff, Int.reduceEq, Int.reduceNeg, Int.reduceMul, Int.reduceAdd, Int.reduceSub, Int.reduceBNe, Int.reduceBEq, apart, bnd, e2, c1', c2', in_free]
      refine call_ok hE rfl ?_
      simp only [evA, evT, Go.undef, aload, astore, afieldAddr, afield, aindex, aindexAddr, abuild, abuildSlice, amakeSlice, aslice, aext, alen, aminmax, minmaxGo, aappend, newsOf, buildCells, cutRows, reps, setCells, AV.cells, allOne, AV.one, Value.oneCell', AV.pure, allPure, AV.free, allFree, rowsFree, Nat.reduceBEq, Nat.reduceAdd, Nat.reduceMul, Nat.reduceSub, Nat.reduceLT, Nat.reduceLeDiff, Int.reduceToNat, reduceIte, reduceCtorEq, Int.reduceLT, Int.reduceLE, Nat.reduceEqDiff, Int.reduceEq, Int.reduceNeg, Int.reduceMul, Int.reduceAdd, Int.reduceSub, Int.reduceBNe, Int.reduceBEq, apart, bnd, e]
theorem left.ok (k : Int) (n : Nat) (hn : 0 < n ∧ n ≤ 1000000) : Ok Try.prog 71 [.int k, .int n] (.int (k % n)) := by
  have hnz : ¬ (n : Int) = 0 := by omega
  have h1 := Int.emod_nonneg k (show (n : Int) ≠ 0 by omega)
  have h2 := Int.emod_lt_of_pos k (show (0 : Int) < n by omega)
  refine ok_of (X := fun _ => []) (Z := fun _ => false) (res := [ResultVar.tmp 4]) tok follows Try.func71 rfl rfl fine71 (by kernel_rfl) (by kernel_rfl) ?_
  by_cases h : k.tmod n < 0
  · have e : IntKind.i64.wrap (k.tmod n + n) = k % n := by
      have h3 : k.tmod n = k % n - n := by
        rw [Int.tmod_eq_emod] at h ⊢
        split at h
        · omega
        · rename_i hc
          rw [if_neg hc]
          omega
      rw [h3, wr (by omega)]
      omega
    simp only [evA, evT, Go.undef, aload, astore, afieldAddr, afield, aindex, aindexAddr, abuild, abuildSlice, amakeSlice, aslice, aext, alen, aminmax, minmaxGo, aappend, newsOf, buildCells, cutRows, reps, setCells, AV.cells, allOne, AV.one, Value.oneCell', AV.pure, allPure, AV.free, allFree, rowsFree, Nat.reduceBEq, Nat.reduceAdd, Nat.reduceMul, Nat.reduceSub, Nat.reduceLT, Nat.reduceLeDiff, Int.reduceToNat, reduceIte, reduceCtorEq, Int.reduceLT, Int.reduceLE, Nat.reduceEqDiff, Int.reduceEq, Int.reduceNeg, Int.reduceMul, Int.reduceAdd, Int.reduceSub, Int.reduceBNe, Int.reduceBEq, apart, bnd, hnz, h, e]
  · have e : k.tmod n = k % n := by
      rw [Int.tmod_eq_emod] at h ⊢
      split at h
      · rename_i hc
        rw [if_pos hc]
        omega
      · omega
    have h' : ¬ k % (n : Int) < 0 := by omega
    simp only [evA, evT, Go.undef, aload, astore, afieldAddr, afield, aindex, aindexAddr, abuild, abuildSlice, amakeSlice, aslice, aext, alen, aminmax, minmaxGo, aappend, newsOf, buildCells, cutRows, reps, setCells, AV.cells, allOne, AV.one, Value.oneCell', AV.pure, allPure, AV.free, allFree, rowsFree, Nat.reduceBEq, Nat.reduceAdd, Nat.reduceMul, Nat.reduceSub, Nat.reduceLT, Nat.reduceLeDiff, Int.reduceToNat, reduceIte, reduceCtorEq, Int.reduceLT, Int.reduceLE, Nat.reduceEqDiff, Int.reduceEq, Int.reduceNeg, Int.reduceMul, Int.reduceAdd, Int.reduceSub, Int.reduceBNe, Int.reduceBEq, apart, bnd, hnz, e, h']
end Go.Proofs.YtnnjjblgilibgaaV

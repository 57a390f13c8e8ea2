import Derived.Test.YtfemklaeonkidaaVfT
import Derived.Test.YtfemklaeonkidaaVfG
/- The law FourTwos answers true. -/
namespace Go.Proofs.YtfemklaeonkidaaV
open Go Go.RowKit
set_option linter.unusedVariables false
set_option linter.unusedSimpArgs false
set_option maxRecDepth 100000
set_option maxHeartbeats 40000000
theorem fine15 : Fine Try.prog 15 := fun _ _ => by kernel_rfl
theorem rem29 (a : Int) : -536870912 ≤ a.tmod 536870912 ∧ a.tmod 536870912 ≤ 536870912 := by
  rw [Int.tmod_eq_emod]
  split <;> omega
abbrev ws4 : List (Int × Int) := [(1, 0), (0, -1), (-1, 0), (0, 1)]
theorem two_first (inv : Bool) (x0 y0 x1 y1 x2 y2 x3 y3 : Int) : t2V inv 0 0 0 [(x0, y0), (x1, y1), (x2, y2), (x3, y3)] ws4 1 2 = [(x0 + x1, y0 + y1), (x0 - x1, y0 - y1), (x2 + x3, y2 + y3), (x2 - x3, y2 - y3)] := by
  cases inv <;> simp [t2V, mix, List.range_succ, tV, tU, tD, rsh_z, rootV, Nat.mod_one]
theorem two_then (inv : Bool) (x0 y0 x1 y1 x2 y2 x3 y3 : Int) : t2V inv 0 0 0 [(x0, y0), (x1, y1), (x2, y2), (x3, y3)] ws4 2 1 = [(x0 + x2, y0 + y2), (if inv = true then x1 - y3 else x1 + y3, if inv = true then y1 + x3 else y1 - x3), (x0 - x2, y0 - y2), (if inv = true then x1 + y3 else x1 - y3, if inv = true then y1 - x3 else y1 + x3)] := by
  cases inv <;> simp [t2V, mix, List.range_succ, tV, tU, tD, rsh_z, rootV, Nat.mod_one] <;> omega
theorem four_all (inv : Bool) (x0 y0 x1 y1 x2 y2 x3 y3 : Int) : pV inv 0 0 0 [(x0, y0), (x1, y1), (x2, y2), (x3, y3)] ws4 1 1 = t2V inv 0 0 0 (t2V inv 0 0 0 [(x0, y0), (x1, y1), (x2, y2), (x3, y3)] ws4 1 2) ws4 2 1 := by
  rw [two_first, two_then]
  cases inv <;> simp [pV, mix, List.range_succ, pT, bT, bq, qV, qRe, qIm, tRe, tIm, rsh_z, rootV, Nat.mod_one] <;> omega
theorem FourTwos.true (inv : Bool) (a0 b0 a1 b1 a2 b2 a3 b3 : Int) : Ok Try.prog 15 [arr4 a0 b0 a1 b1 a2 b2 a3 b3, .bool inv] (.bool true) := by
  have r0 := rem29 a0
  have r1 := rem29 b0
  have r2 := rem29 a1
  have r3 := rem29 b1
  have r4 := rem29 a2
  have r5 := rem29 b2
  have r6 := rem29 a3
  have r7 := rem29 b3
  refine ok_of (X := fun _ => []) (Z := fun r => Nat.beq r 8) (res := [ResultVar.tmp 4]) tok follows Try.func15 rfl rfl fine15 (by kernel_rfl) (by kernel_rfl) ?_
  simp only [evA, evT, Go.undef, aload, astore, afieldAddr, afield, aindex, aindexAddr, abuild, abuildSlice, amakeSlice, aslice, aext, alen, aminmax, minmaxGo, aappend, newsOf, buildCells, cutRows, reps, setCells, AV.cells, allOne, AV.one, Value.oneCell', AV.pure, allPure, AV.free, allFree, rowsFree, Nat.reduceBEq, Nat.reduceAdd, Nat.reduceMul, Nat.reduceSub, Nat.reduceLT, Nat.reduceLeDiff, Int.reduceToNat, reduceIte, reduceCtorEq, Int.reduceLT, Int.reduceLE, Nat.reduceEqDiff, Int.reduceEq, Int.reduceNeg, Int.reduceMul, Int.reduceAdd, Int.reduceSub, Int.reduceBNe, Int.reduceBEq, apart, bnd]
  refine ⟨5, l_succ ?_⟩
  iterate 4
    simp only [evA, evT, Go.undef, aload, astore, afieldAddr, afield, aindex, aindexAddr, abuild, abuildSlice, amakeSlice, aslice, aext, alen, aminmax, minmaxGo, aappend, newsOf, buildCells, cutRows, reps, setCells, AV.cells, allOne, AV.one, Value.oneCell', AV.pure, allPure, AV.free, allFree, rowsFree, Nat.reduceBEq, Nat.reduceAdd, Nat.reduceMul, Nat.reduceSub, Nat.reduceLT, Nat.reduceLeDiff, Int.reduceToNat, reduceIte, reduceCtorEq, Int.reduceLT, Int.reduceLE, Nat.reduceEqDiff, Int.reduceEq, Int.reduceNeg, Int.reduceMul, Int.reduceAdd, Int.reduceSub, Int.reduceBNe, Int.reduceBEq, apart, bnd]
    refine l_succ ?_
  simp only [evA, evB, evT, Go.undef, aload, astore, afieldAddr, afield, aindex, aindexAddr, abuild, abuildSlice, amakeSlice, aslice, aext, alen, aminmax, minmaxGo, aappend, newsOf, buildCells, cutRows, reps, setCells, AV.cells, allOne, AV.one, Value.oneCell', AV.pure, allPure, AV.free, allFree, rowsFree, Nat.reduceBEq, Nat.reduceAdd, Nat.reduceMul, Nat.reduceSub, Nat.reduceLT, Nat.reduceLeDiff, Int.reduceToNat, reduceIte, reduceCtorEq, Int.reduceLT, Int.reduceLE, Nat.reduceEqDiff, Int.reduceEq, Int.reduceNeg, Int.reduceMul, Int.reduceAdd, Int.reduceSub, Int.reduceBNe, Int.reduceBEq, apart, bnd]
  generalize a0.tmod 536870912 = x0 at *
  generalize b0.tmod 536870912 = y0 at *
  generalize a1.tmod 536870912 = x1 at *
  generalize b1.tmod 536870912 = y1 at *
  generalize a2.tmod 536870912 = x2 at *
  generalize b2.tmod 536870912 = y2 at *
  generalize a3.tmod 536870912 = x3 at *
  generalize b3.tmod 536870912 = y3 at *
  have hset : setP 0 0 0 := by decide
  have hw : nears (2 ^ (0 : Int).toNat) ws4 := by
    intro x hx
    simp only [List.mem_cons, List.not_mem_nil, or_false] at hx
    rcases hx with rfl | rfl | rfl | rfl <;> decide
  have hx : nears 2147483648 [(x0, y0), (x1, y1), (x2, y2), (x3, y3)] := by
    intro x hx
    simp only [List.mem_cons, List.not_mem_nil, or_false] at hx
    rcases hx with rfl | rfl | rfl | rfl <;> (unfold win; simp only; omega)
  have hx' : nears 2147483648 [(x0 + x1, y0 + y1), (x0 - x1, y0 - y1), (x2 + x3, y2 + y3), (x2 - x3, y2 - y3)] := by
    intro x hx
    simp only [List.mem_cons, List.not_mem_nil, or_false] at hx
    rcases hx with rfl | rfl | rfl | rfl <;> (unfold win; simp only; omega)
  have h4 : lens ((List.length [(x0, y0), (x1, y1), (x2, y2), (x3, y3)] : Nat) : Int) := .inl rfl
  have h4' : lens ((List.length [(x0 + x1, y0 + y1), (x0 - x1, y0 - y1), (x2 + x3, y2 + y3), (x2 - x3, y2 - y3)] : Nat) : Int) := .inl rfl
  have hP := Pass.ok inv 0 0 0 [(x0, y0), (x1, y1), (x2, y2), (x3, y3)] ws4 (by simp) (by simp) 1 1 (by decide) (by decide) (by decide) (by decide) rfl (by decide) h4 rfl hset hx hw
  rw [four_all, two_first] at hP
  have hQ := twoPass.ok inv 0 0 0 [(x0, y0), (x1, y1), (x2, y2), (x3, y3)] ws4 1 2 (by simp) (by simp) (by decide) (by decide) (by decide) (by decide) rfl (by decide) h4 ⟨.inl rfl, .inl rfl, by simp⟩ rfl hset hx hw
  rw [two_first] at hQ
  have hR := twoPass.ok inv 0 0 0 [(x0 + x1, y0 + y1), (x0 - x1, y0 - y1), (x2 + x3, y2 + y3), (x2 - x3, y2 - y3)] ws4 2 1 (by simp) (by simp) (by decide) (by decide) (by decide) (by decide) rfl (by decide) h4' ⟨.inl rfl, .inr (.inl rfl), by simp⟩ rfl hset hx' hw
  refine ⟨⟨[(6, .sl 2 (cxRows [(x0, y0), (x1, y1), (x2, y2), (x3, y3)])), (5, .sl 2 (cxRows ws4)), (1, .bool inv)], [], 0⟩, weak_of (fun l => l) rfl trivial ?_, ?_⟩
  · simp only [evA, evB, evT, Go.undef, aload, astore, afieldAddr, afield, aindex, aindexAddr, abuild, abuildSlice, amakeSlice, aslice, aext, alen, aminmax, minmaxGo, aappend, newsOf, buildCells, cutRows, reps, setCells, AV.cells, allOne, AV.one, Value.oneCell', AV.pure, allPure, AV.free, allFree, rowsFree, Nat.reduceBEq, Nat.reduceAdd, Nat.reduceMul, Nat.reduceSub, Nat.reduceLT, Nat.reduceLeDiff, Int.reduceToNat, reduceIte, reduceCtorEq, Int.reduceLT, Int.reduceLE, Nat.reduceEqDiff, Int.reduceEq, Int.reduceNeg, Int.reduceMul, Int.reduceAdd, Int.reduceSub, Int.reduceBNe, Int.reduceBEq, apart, bnd, cxRows]
  simp only [evA, evT, Go.undef, aload, astore, afieldAddr, afield, aindex, aindexAddr, abuild, abuildSlice, amakeSlice, aslice, aext, alen, aminmax, minmaxGo, aappend, newsOf, buildCells, cutRows, reps, setCells, AV.cells, allOne, AV.one, Value.oneCell', AV.pure, allPure, AV.free, allFree, rowsFree, Nat.reduceBEq, Nat.reduceAdd, Nat.reduceMul, Nat.reduceSub, Nat.reduceLT, Nat.reduceLeDiff, Int.reduceToNat, reduceIte, reduceCtorEq, Int.reduceLT, Int.reduceLE, Nat.reduceEqDiff, Int.reduceEq, Int.reduceNeg, Int.reduceMul, Int.reduceAdd, Int.reduceSub, Int.reduceBNe, Int.reduceBEq, apart, bnd, cx_free]
  refine call_ok hP (by simp only [evA, evT, Go.undef, aload, astore, afieldAddr, afield, aindex, aindexAddr, abuild, abuildSlice, amakeSlice, aslice, aext, alen, aminmax, minmaxGo, aappend, newsOf, buildCells, cutRows, reps, setCells, AV.cells, allOne, AV.one, Value.oneCell', AV.pure, allPure, AV.free, allFree, rowsFree, Nat.reduceBEq, Nat.reduceAdd, Nat.reduceMul, Nat.reduceSub, Nat.reduceLT, Nat.reduceLeDiff, Int.reduceToNat, reduceIte, reduceCtorEq, Int.reduceLT, Int.reduceLE, Nat.reduceEqDiff, Int.reduceEq, Int.reduceNeg, Int.reduceMul, Int.reduceAdd, Int.reduceSub, Int.reduceBNe, Int.reduceBEq, apart, bnd, cx_free]) ?_
  simp only [evA, evT, Go.undef, aload, astore, afieldAddr, afield, aindex, aindexAddr, abuild, abuildSlice, amakeSlice, aslice, aext, alen, aminmax, minmaxGo, aappend, newsOf, buildCells, cutRows, reps, setCells, AV.cells, allOne, AV.one, Value.oneCell', AV.pure, allPure, AV.free, allFree, rowsFree, Nat.reduceBEq, Nat.reduceAdd, Nat.reduceMul, Nat.reduceSub, Nat.reduceLT, Nat.reduceLeDiff, Int.reduceToNat, reduceIte, reduceCtorEq, Int.reduceLT, Int.reduceLE, Nat.reduceEqDiff, Int.reduceEq, Int.reduceNeg, Int.reduceMul, Int.reduceAdd, Int.reduceSub, Int.reduceBNe, Int.reduceBEq, apart, bnd, cx_free]
  refine call_ok hQ (by simp only [evA, evT, Go.undef, aload, astore, afieldAddr, afield, aindex, aindexAddr, abuild, abuildSlice, amakeSlice, aslice, aext, alen, aminmax, minmaxGo, aappend, newsOf, buildCells, cutRows, reps, setCells, AV.cells, allOne, AV.one, Value.oneCell', AV.pure, allPure, AV.free, allFree, rowsFree, Nat.reduceBEq, Nat.reduceAdd, Nat.reduceMul, Nat.reduceSub, Nat.reduceLT, Nat.reduceLeDiff, Int.reduceToNat, reduceIte, reduceCtorEq, Int.reduceLT, Int.reduceLE, Nat.reduceEqDiff, Int.reduceEq, Int.reduceNeg, Int.reduceMul, Int.reduceAdd, Int.reduceSub, Int.reduceBNe, Int.reduceBEq, apart, bnd, cx_free]) ?_
  simp only [evA, evT, Go.undef, aload, astore, afieldAddr, afield, aindex, aindexAddr, abuild, abuildSlice, amakeSlice, aslice, aext, alen, aminmax, minmaxGo, aappend, newsOf, buildCells, cutRows, reps, setCells, AV.cells, allOne, AV.one, Value.oneCell', AV.pure, allPure, AV.free, allFree, rowsFree, Nat.reduceBEq, Nat.reduceAdd, Nat.reduceMul, Nat.reduceSub, Nat.reduceLT, Nat.reduceLeDiff, Int.reduceToNat, reduceIte, reduceCtorEq, Int.reduceLT, Int.reduceLE, Nat.reduceEqDiff, Int.reduceEq, Int.reduceNeg, Int.reduceMul, Int.reduceAdd, Int.reduceSub, Int.reduceBNe, Int.reduceBEq, apart, bnd, cx_free]
  refine call_ok hR (by simp only [evA, evT, Go.undef, aload, astore, afieldAddr, afield, aindex, aindexAddr, abuild, abuildSlice, amakeSlice, aslice, aext, alen, aminmax, minmaxGo, aappend, newsOf, buildCells, cutRows, reps, setCells, AV.cells, allOne, AV.one, Value.oneCell', AV.pure, allPure, AV.free, allFree, rowsFree, Nat.reduceBEq, Nat.reduceAdd, Nat.reduceMul, Nat.reduceSub, Nat.reduceLT, Nat.reduceLeDiff, Int.reduceToNat, reduceIte, reduceCtorEq, Int.reduceLT, Int.reduceLE, Nat.reduceEqDiff, Int.reduceEq, Int.reduceNeg, Int.reduceMul, Int.reduceAdd, Int.reduceSub, Int.reduceBNe, Int.reduceBEq, apart, bnd, cx_free]) ?_
  simp only [evA, evT, Go.undef, aload, astore, afieldAddr, afield, aindex, aindexAddr, abuild, abuildSlice, amakeSlice, aslice, aext, alen, aminmax, minmaxGo, aappend, newsOf, buildCells, cutRows, reps, setCells, AV.cells, allOne, AV.one, Value.oneCell', AV.pure, allPure, AV.free, allFree, rowsFree, Nat.reduceBEq, Nat.reduceAdd, Nat.reduceMul, Nat.reduceSub, Nat.reduceLT, Nat.reduceLeDiff, Int.reduceToNat, reduceIte, reduceCtorEq, Int.reduceLT, Int.reduceLE, Nat.reduceEqDiff, Int.reduceEq, Int.reduceNeg, Int.reduceMul, Int.reduceAdd, Int.reduceSub, Int.reduceBNe, Int.reduceBEq, apart, bnd, cx_free]
  refine call_ok alive.ok rfl ?_
  simp only [evA, evT, Go.undef, aload, astore, afieldAddr, afield, aindex, aindexAddr, abuild, abuildSlice, amakeSlice, aslice, aext, alen, aminmax, minmaxGo, aappend, newsOf, buildCells, cutRows, reps, setCells, AV.cells, allOne, AV.one, Value.oneCell', AV.pure, allPure, AV.free, allFree, rowsFree, Nat.reduceBEq, Nat.reduceAdd, Nat.reduceMul, Nat.reduceSub, Nat.reduceLT, Nat.reduceLeDiff, Int.reduceToNat, reduceIte, reduceCtorEq, Int.reduceLT, Int.reduceLE, Nat.reduceEqDiff, Int.reduceEq, Int.reduceNeg, Int.reduceMul, Int.reduceAdd, Int.reduceSub, Int.reduceBNe, Int.reduceBEq, apart, bnd, cx_free]
  refine call_ok (Same.ok _ (by rw [t2V_len]; simp)) rfl ?_
  simp only [evA, evT, Go.undef, aload, astore, afieldAddr, afield, aindex, aindexAddr, abuild, abuildSlice, amakeSlice, aslice, aext, alen, aminmax, minmaxGo, aappend, newsOf, buildCells, cutRows, reps, setCells, AV.cells, allOne, AV.one, Value.oneCell', AV.pure, allPure, AV.free, allFree, rowsFree, Nat.reduceBEq, Nat.reduceAdd, Nat.reduceMul, Nat.reduceSub, Nat.reduceLT, Nat.reduceLeDiff, Int.reduceToNat, reduceIte, reduceCtorEq, Int.reduceLT, Int.reduceLE, Nat.reduceEqDiff, Int.reduceEq, Int.reduceNeg, Int.reduceMul, Int.reduceAdd, Int.reduceSub, Int.reduceBNe, Int.reduceBEq, apart, bnd]
end Go.Proofs.YtfemklaeonkidaaV

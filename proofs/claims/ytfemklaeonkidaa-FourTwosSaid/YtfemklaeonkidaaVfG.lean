import Derived.Test.YtfemklaeonkidaaVfE
import Derived.Test.YtfemklaeonkidaaVfF
/- Contracts: the document's quad; the law's own functions. -/
namespace Go.Proofs.YtfemklaeonkidaaV
open Go Go.RowKit
set_option linter.unusedVariables false
set_option linter.unusedSimpArgs false
set_option maxRecDepth 100000
set_option maxHeartbeats 40000000
theorem fine41 : Fine Try.prog 41 := fun _ _ => by kernel_rfl
theorem fine42 : Fine Try.prog 42 := fun _ _ => by kernel_rfl
theorem fine40 : Fine Try.prog 40 := fun _ _ => by kernel_rfl
theorem q_re' {x0 x1 y1 x2 y2 x3 y3 n1 n2 n3 : Int} (w0 : -1152921504606846976 ≤ x0 ∧ x0 ≤ 1152921504606846976) (w1 : win 2305843009213693952 x1 y1) (w2 : win 2305843009213693952 x2 y2) (w3 : win 2305843009213693952 x3 y3) : IntKind.i64.wrap (IntKind.i64.wrap (IntKind.i64.wrap (x0 + tRe x1 y1 n1) + tRe x2 y2 n2) + tRe x3 y3 n3) = x0 + tRe x1 y1 n1 + tRe x2 y2 n2 + tRe x3 y3 n3 := by
  have g1 := tRe_near (n := n1) w1 (by decide)
  have g2 := tRe_near (n := n2) w2 (by decide)
  have g3 := tRe_near (n := n3) w3 (by decide)
  rw [wr (x := x0 + tRe x1 y1 n1) (by omega), wr (x := x0 + tRe x1 y1 n1 + tRe x2 y2 n2) (by omega), wr (by omega)]
theorem q_im' {y0 x1 y1 x2 y2 x3 y3 n1 n2 n3 : Int} (w0 : -1152921504606846976 ≤ y0 ∧ y0 ≤ 1152921504606846976) (w1 : win 2305843009213693952 x1 y1) (w2 : win 2305843009213693952 x2 y2) (w3 : win 2305843009213693952 x3 y3) : IntKind.i64.wrap (IntKind.i64.wrap (IntKind.i64.wrap (y0 + tIm x1 y1 n1) + tIm x2 y2 n2) + tIm x3 y3 n3) = y0 + tIm x1 y1 n1 + tIm x2 y2 n2 + tIm x3 y3 n3 := by
  have g1 := tIm_near (n := n1) w1 (by decide)
  have g2 := tIm_near (n := n2) w2 (by decide)
  have g3 := tIm_near (n := n3) w3 (by decide)
  rw [wr (x := y0 + tIm x1 y1 n1) (by omega), wr (x := y0 + tIm x1 y1 n1 + tIm x2 y2 n2) (by omega), wr (by omega)]
theorem t_zero (x y : Int) : tRe x y 0 = x ∧ tIm x y 0 = y := by simp [tRe, tIm]
theorem Out.ok (inv : Bool) (q bits s mode x0 y0 x1 y1 x2 y2 x3 y3 : Int) (hq : 0 ≤ q ∧ q ≤ 3) (hb : 0 ≤ bits ∧ bits ≤ 29) (hs : 0 ≤ s ∧ s ≤ 3) (hm : 0 ≤ mode ∧ mode ≤ 2) (w0 : win 1152921504606846976 x0 y0) (w1 : win 2305843009213693952 x1 y1) (w2 : win 2305843009213693952 x2 y2) (w3 : win 2305843009213693952 x3 y3) :
    Ok Try.prog 42 [arr4 x0 y0 x1 y1 x2 y2 x3 y3, .int q, .int bits, .int s, .int mode, .bool inv] (cxA (rsh (qRe x0 y0 x1 y1 x2 y2 x3 y3 inv q) (bits + s) mode) (rsh (qIm x0 y0 x1 y1 x2 y2 x3 y3 inv q) (bits + s) mode)) := by
  have e1 : IntKind.i64.wrap (0 - q) = 0 - q := wr (by omega)
  have e2 : IntKind.i64.wrap (2 * q) = 2 * q := wr (by omega)
  have e3 : IntKind.i64.wrap (0 - (0 - q)) = 0 - (0 - q) := wr (by omega)
  have e4 : IntKind.i64.wrap (bits + s) = bits + s := wr (by omega)
  have p1 : in64 (0 - q) := by unfold in64; omega
  have p2 : in64 (2 * q) := by unfold in64; omega
  have p3 : in64 (0 - (0 - q)) := by unfold in64; omega
  have p4 : in64 q := by unfold in64; omega
  have z1 : -1152921504606846976 ≤ x0 ∧ x0 ≤ 1152921504606846976 := by unfold win at w0; omega
  have z2 : -1152921504606846976 ≤ y0 ∧ y0 ≤ 1152921504606846976 := by unfold win at w0; omega
  refine ok_of (X := fun _ => []) (Z := fun _ => false) (res := [ResultVar.cell 12 37]) tok follows Try.func42 rfl rfl fine42 (by kernel_rfl) (by kernel_rfl) ?_
  cases inv
  all_goals
    simp only [evA, evT, Go.undef, aload, astore, afieldAddr, afield, aindex, aindexAddr, abuild, abuildSlice, amakeSlice, aslice, aext, alen, aminmax, minmaxGo, aappend, newsOf, buildCells, cutRows, reps, setCells, AV.cells, allOne, AV.one, Value.oneCell', AV.pure, allPure, AV.free, allFree, rowsFree, Nat.reduceBEq, Nat.reduceAdd, Nat.reduceMul, Nat.reduceSub, Nat.reduceLT, Nat.reduceLeDiff, Int.reduceToNat, reduceIte, reduceCtorEq, Int.reduceLT, Int.reduceLE, Nat.reduceEqDiff, Int.reduceEq, Int.reduceNeg, Int.reduceMul, Int.reduceAdd, Int.reduceSub, Int.reduceBNe, Int.reduceBEq, apart, bnd, e1]
    refine call_ok (RTurn.ok _ _ _ w1 (by assumption)) rfl ?_
    simp only [evA, evT, Go.undef, aload, astore, afieldAddr, afield, aindex, aindexAddr, abuild, abuildSlice, amakeSlice, aslice, aext, alen, aminmax, minmaxGo, aappend, newsOf, buildCells, cutRows, reps, setCells, AV.cells, allOne, AV.one, Value.oneCell', AV.pure, allPure, AV.free, allFree, rowsFree, Nat.reduceBEq, Nat.reduceAdd, Nat.reduceMul, Nat.reduceSub, Nat.reduceLT, Nat.reduceLeDiff, Int.reduceToNat, reduceIte, reduceCtorEq, Int.reduceLT, Int.reduceLE, Nat.reduceEqDiff, Int.reduceEq, Int.reduceNeg, Int.reduceMul, Int.reduceAdd, Int.reduceSub, Int.reduceBNe, Int.reduceBEq, apart, bnd]
    refine call_ok (Sum.ok _ _ _ _) rfl ?_
    simp only [evA, evT, Go.undef, aload, astore, afieldAddr, afield, aindex, aindexAddr, abuild, abuildSlice, amakeSlice, aslice, aext, alen, aminmax, minmaxGo, aappend, newsOf, buildCells, cutRows, reps, setCells, AV.cells, allOne, AV.one, Value.oneCell', AV.pure, allPure, AV.free, allFree, rowsFree, Nat.reduceBEq, Nat.reduceAdd, Nat.reduceMul, Nat.reduceSub, Nat.reduceLT, Nat.reduceLeDiff, Int.reduceToNat, reduceIte, reduceCtorEq, Int.reduceLT, Int.reduceLE, Nat.reduceEqDiff, Int.reduceEq, Int.reduceNeg, Int.reduceMul, Int.reduceAdd, Int.reduceSub, Int.reduceBNe, Int.reduceBEq, apart, bnd, e2]
    refine call_ok (RTurn.ok _ _ _ w2 (by assumption)) rfl ?_
    simp only [evA, evT, Go.undef, aload, astore, afieldAddr, afield, aindex, aindexAddr, abuild, abuildSlice, amakeSlice, aslice, aext, alen, aminmax, minmaxGo, aappend, newsOf, buildCells, cutRows, reps, setCells, AV.cells, allOne, AV.one, Value.oneCell', AV.pure, allPure, AV.free, allFree, rowsFree, Nat.reduceBEq, Nat.reduceAdd, Nat.reduceMul, Nat.reduceSub, Nat.reduceLT, Nat.reduceLeDiff, Int.reduceToNat, reduceIte, reduceCtorEq, Int.reduceLT, Int.reduceLE, Nat.reduceEqDiff, Int.reduceEq, Int.reduceNeg, Int.reduceMul, Int.reduceAdd, Int.reduceSub, Int.reduceBNe, Int.reduceBEq, apart, bnd]
    refine call_ok (Sum.ok _ _ _ _) rfl ?_
    simp only [evA, evT, Go.undef, aload, astore, afieldAddr, afield, aindex, aindexAddr, abuild, abuildSlice, amakeSlice, aslice, aext, alen, aminmax, minmaxGo, aappend, newsOf, buildCells, cutRows, reps, setCells, AV.cells, allOne, AV.one, Value.oneCell', AV.pure, allPure, AV.free, allFree, rowsFree, Nat.reduceBEq, Nat.reduceAdd, Nat.reduceMul, Nat.reduceSub, Nat.reduceLT, Nat.reduceLeDiff, Int.reduceToNat, reduceIte, reduceCtorEq, Int.reduceLT, Int.reduceLE, Nat.reduceEqDiff, Int.reduceEq, Int.reduceNeg, Int.reduceMul, Int.reduceAdd, Int.reduceSub, Int.reduceBNe, Int.reduceBEq, apart, bnd, e1, e3]
    refine call_ok (RTurn.ok _ _ _ w3 (by assumption)) rfl ?_
    simp only [evA, evT, Go.undef, aload, astore, afieldAddr, afield, aindex, aindexAddr, abuild, abuildSlice, amakeSlice, aslice, aext, alen, aminmax, minmaxGo, aappend, newsOf, buildCells, cutRows, reps, setCells, AV.cells, allOne, AV.one, Value.oneCell', AV.pure, allPure, AV.free, allFree, rowsFree, Nat.reduceBEq, Nat.reduceAdd, Nat.reduceMul, Nat.reduceSub, Nat.reduceLT, Nat.reduceLeDiff, Int.reduceToNat, reduceIte, reduceCtorEq, Int.reduceLT, Int.reduceLE, Nat.reduceEqDiff, Int.reduceEq, Int.reduceNeg, Int.reduceMul, Int.reduceAdd, Int.reduceSub, Int.reduceBNe, Int.reduceBEq, apart, bnd]
    refine call_ok (Sum.ok _ _ _ _) rfl ?_
    simp only [evA, evT, Go.undef, aload, astore, afieldAddr, afield, aindex, aindexAddr, abuild, abuildSlice, amakeSlice, aslice, aext, alen, aminmax, minmaxGo, aappend, newsOf, buildCells, cutRows, reps, setCells, AV.cells, allOne, AV.one, Value.oneCell', AV.pure, allPure, AV.free, allFree, rowsFree, Nat.reduceBEq, Nat.reduceAdd, Nat.reduceMul, Nat.reduceSub, Nat.reduceLT, Nat.reduceLeDiff, Int.reduceToNat, reduceIte, reduceCtorEq, Int.reduceLT, Int.reduceLE, Nat.reduceEqDiff, Int.reduceEq, Int.reduceNeg, Int.reduceMul, Int.reduceAdd, Int.reduceSub, Int.reduceBNe, Int.reduceBEq, apart, bnd, e4, q_re' z1 w1 w2 w3, q_im' z2 w1 w2 w3]
    refine call_ok (RShift.ok _ _ _ _ (by unfold in64; have := tRe_near (n := 0 - q) w1 (by decide); have := tRe_near (n := q) w1 (by decide); have := tRe_near (n := 2 * q) w2 (by decide); have := tRe_near (n := 0 - (0 - q)) w3 (by decide); have := tRe_near (n := 0 - q) w3 (by decide); omega) (by unfold in64; have := tIm_near (n := 0 - q) w1 (by decide); have := tIm_near (n := q) w1 (by decide); have := tIm_near (n := 2 * q) w2 (by decide); have := tIm_near (n := 0 - (0 - q)) w3 (by decide); have := tIm_near (n := 0 - q) w3 (by decide); omega) (by omega) hm) rfl ?_
    simp only [evA, evT, Go.undef, aload, astore, afieldAddr, afield, aindex, aindexAddr, abuild, abuildSlice, amakeSlice, aslice, aext, alen, aminmax, minmaxGo, aappend, newsOf, buildCells, cutRows, reps, setCells, AV.cells, allOne, AV.one, Value.oneCell', AV.pure, allPure, AV.free, allFree, rowsFree, Nat.reduceBEq, Nat.reduceAdd, Nat.reduceMul, Nat.reduceSub, Nat.reduceLT, Nat.reduceLeDiff, Int.reduceToNat, reduceIte, reduceCtorEq, Int.reduceLT, Int.reduceLE, Nat.reduceEqDiff, Int.reduceEq, Int.reduceNeg, Int.reduceMul, Int.reduceAdd, Int.reduceSub, Int.reduceBNe, Int.reduceBEq, apart, bnd, qRe, qIm, (t_zero x0 y0).1, (t_zero x0 y0).2]
theorem Products.ok (bits a0 b0 a1 b1 a2 b2 a3 b3 u1 v1 u2 v2 u3 v3 : Int) (hb : 0 ≤ bits ∧ bits ≤ 29) (h0 : win 2147483648 a0 b0) (h1 : win 2147483648 a1 b1) (h2 : win 2147483648 a2 b2) (h3 : win 2147483648 a3 b3)
    (g1 : win (2 ^ bits.toNat) u1 v1) (g2 : win (2 ^ bits.toNat) u2 v2) (g3 : win (2 ^ bits.toNat) u3 v3) :
    Ok Try.prog 41 [cxA a0 b0, cxA a1 b1, cxA a2 b2, cxA a3 b3, cxA u1 v1, cxA u2 v2, cxA u3 v3, .int bits] (arr4 (a0 * 2 ^ bits.toNat) (b0 * 2 ^ bits.toNat) (a1 * u1 - b1 * v1) (a1 * v1 + b1 * u1) (a2 * u2 - b2 * v2) (a2 * v2 + b2 * u2) (a3 * u3 - b3 * v3) (a3 * v3 + b3 * u3)) := by
  have hp := pow29 hb
  have c1 := shl29 (a := a0) hb (by unfold win at h0; omega)
  have c2 := shl29 (a := b0) hb (by unfold win at h0; omega)
  have e1 : IntKind.i64.wrap (a0 * 2 ^ bits.toNat) = a0 * 2 ^ bits.toNat := wr (by omega)
  have e2 : IntKind.i64.wrap (b0 * 2 ^ bits.toNat) = b0 * 2 ^ bits.toNat := wr (by omega)
  have k1 : win 1073741824 u1 v1 := by unfold win at g1 ⊢; omega
  have k2 : win 1073741824 u2 v2 := by unfold win at g2 ⊢; omega
  have k3 : win 1073741824 u3 v3 := by unfold win at g3 ⊢; omega
  refine ok_of (X := fun _ => []) (Z := fun _ => false) (res := [ResultVar.cell 16 56]) tok follows Try.func41 rfl rfl fine41 (by kernel_rfl) (by kernel_rfl) ?_
  simp only [evA, evT, Go.undef, aload, astore, afieldAddr, afield, aindex, aindexAddr, abuild, abuildSlice, amakeSlice, aslice, aext, alen, aminmax, minmaxGo, aappend, newsOf, buildCells, cutRows, reps, setCells, AV.cells, allOne, AV.one, Value.oneCell', AV.pure, allPure, AV.free, allFree, rowsFree, Nat.reduceBEq, Nat.reduceAdd, Nat.reduceMul, Nat.reduceSub, Nat.reduceLT, Nat.reduceLeDiff, Int.reduceToNat, reduceIte, reduceCtorEq, Int.reduceLT, Int.reduceLE, Nat.reduceEqDiff, Int.reduceEq, Int.reduceNeg, Int.reduceMul, Int.reduceAdd, Int.reduceSub, Int.reduceBNe, Int.reduceBEq, apart, bnd]
  refine call_ok (Scale.ok a0 b0 bits (by omega)) rfl ?_
  simp only [evA, evT, Go.undef, aload, astore, afieldAddr, afield, aindex, aindexAddr, abuild, abuildSlice, amakeSlice, aslice, aext, alen, aminmax, minmaxGo, aappend, newsOf, buildCells, cutRows, reps, setCells, AV.cells, allOne, AV.one, Value.oneCell', AV.pure, allPure, AV.free, allFree, rowsFree, Nat.reduceBEq, Nat.reduceAdd, Nat.reduceMul, Nat.reduceSub, Nat.reduceLT, Nat.reduceLeDiff, Int.reduceToNat, reduceIte, reduceCtorEq, Int.reduceLT, Int.reduceLE, Nat.reduceEqDiff, Int.reduceEq, Int.reduceNeg, Int.reduceMul, Int.reduceAdd, Int.reduceSub, Int.reduceBNe, Int.reduceBEq, apart, bnd, e1, e2]
  refine call_ok (RTimes.ok _ _ _ _ h1 k1) rfl ?_
  simp only [evA, evT, Go.undef, aload, astore, afieldAddr, afield, aindex, aindexAddr, abuild, abuildSlice, amakeSlice, aslice, aext, alen, aminmax, minmaxGo, aappend, newsOf, buildCells, cutRows, reps, setCells, AV.cells, allOne, AV.one, Value.oneCell', AV.pure, allPure, AV.free, allFree, rowsFree, Nat.reduceBEq, Nat.reduceAdd, Nat.reduceMul, Nat.reduceSub, Nat.reduceLT, Nat.reduceLeDiff, Int.reduceToNat, reduceIte, reduceCtorEq, Int.reduceLT, Int.reduceLE, Nat.reduceEqDiff, Int.reduceEq, Int.reduceNeg, Int.reduceMul, Int.reduceAdd, Int.reduceSub, Int.reduceBNe, Int.reduceBEq, apart, bnd]
  refine call_ok (RTimes.ok _ _ _ _ h2 k2) rfl ?_
  simp only [evA, evT, Go.undef, aload, astore, afieldAddr, afield, aindex, aindexAddr, abuild, abuildSlice, amakeSlice, aslice, aext, alen, aminmax, minmaxGo, aappend, newsOf, buildCells, cutRows, reps, setCells, AV.cells, allOne, AV.one, Value.oneCell', AV.pure, allPure, AV.free, allFree, rowsFree, Nat.reduceBEq, Nat.reduceAdd, Nat.reduceMul, Nat.reduceSub, Nat.reduceLT, Nat.reduceLeDiff, Int.reduceToNat, reduceIte, reduceCtorEq, Int.reduceLT, Int.reduceLE, Nat.reduceEqDiff, Int.reduceEq, Int.reduceNeg, Int.reduceMul, Int.reduceAdd, Int.reduceSub, Int.reduceBNe, Int.reduceBEq, apart, bnd]
  refine call_ok (RTimes.ok _ _ _ _ h3 k3) rfl ?_
  simp only [evA, evT, Go.undef, aload, astore, afieldAddr, afield, aindex, aindexAddr, abuild, abuildSlice, amakeSlice, aslice, aext, alen, aminmax, minmaxGo, aappend, newsOf, buildCells, cutRows, reps, setCells, AV.cells, allOne, AV.one, Value.oneCell', AV.pure, allPure, AV.free, allFree, rowsFree, Nat.reduceBEq, Nat.reduceAdd, Nat.reduceMul, Nat.reduceSub, Nat.reduceLT, Nat.reduceLeDiff, Int.reduceToNat, reduceIte, reduceCtorEq, Int.reduceLT, Int.reduceLE, Nat.reduceEqDiff, Int.reduceEq, Int.reduceNeg, Int.reduceMul, Int.reduceAdd, Int.reduceSub, Int.reduceBNe, Int.reduceBEq, apart, bnd]
theorem alive_q : quadAV (qV false 0 0 0 1 0 2 0 3 0 4 0 1 0 1 0 1 0) = arr4 10 0 (-2) 2 (-2) 0 (-2) (-2) := by
  simp [qV, qRe, qIm, tRe, tIm, rsh]
theorem alive.ok : Ok Try.prog 40 [] (.bool true) := by
  refine ok_of (X := fun _ => []) (Z := fun _ => false) (res := [ResultVar.tmp 0]) tok follows Try.func40 rfl rfl fine40 (by kernel_rfl) (by kernel_rfl) ?_
  simp only [evA, evT, Go.undef, aload, astore, afieldAddr, afield, aindex, aindexAddr, abuild, abuildSlice, amakeSlice, aslice, aext, alen, aminmax, minmaxGo, aappend, newsOf, buildCells, cutRows, reps, setCells, AV.cells, allOne, AV.one, Value.oneCell', AV.pure, allPure, AV.free, allFree, rowsFree, Nat.reduceBEq, Nat.reduceAdd, Nat.reduceMul, Nat.reduceSub, Nat.reduceLT, Nat.reduceLeDiff, Int.reduceToNat, reduceIte, reduceCtorEq, Int.reduceLT, Int.reduceLE, Nat.reduceEqDiff, Int.reduceEq, Int.reduceNeg, Int.reduceMul, Int.reduceAdd, Int.reduceSub, Int.reduceBNe, Int.reduceBEq, apart, bnd]
  have h := Quad.ok false 0 0 0 1 0 2 0 3 0 4 0 1 0 1 0 1 0 1 0 (by decide) (by decide) (by decide) (by unfold win; decide) (by unfold win; decide) (by unfold win; decide) (by unfold win; decide) (by unfold win; decide) (by unfold win; decide) (by unfold win; decide)
  rw [alive_q] at h
  refine call_ok h rfl ?_
  simp only [evA, evT, Go.undef, aload, astore, afieldAddr, afield, aindex, aindexAddr, abuild, abuildSlice, amakeSlice, aslice, aext, alen, aminmax, minmaxGo, aappend, newsOf, buildCells, cutRows, reps, setCells, AV.cells, allOne, AV.one, Value.oneCell', AV.pure, allPure, AV.free, allFree, rowsFree, Nat.reduceBEq, Nat.reduceAdd, Nat.reduceMul, Nat.reduceSub, Nat.reduceLT, Nat.reduceLeDiff, Int.reduceToNat, reduceIte, reduceCtorEq, Int.reduceLT, Int.reduceLE, Nat.reduceEqDiff, Int.reduceEq, Int.reduceNeg, Int.reduceMul, Int.reduceAdd, Int.reduceSub, Int.reduceBNe, Int.reduceBEq, apart, bnd]
end Go.Proofs.YtfemklaeonkidaaV

import Derived.Test.YtfemklaeonkidaaVfL
/- Contract: a block of quads. -/
namespace Go.Proofs.YtfemklaeonkidaaV
open Go Go.RowKit
set_option linter.unusedVariables false
set_option linter.unusedSimpArgs false
set_option maxRecDepth 100000
set_option maxHeartbeats 40000000
section
variable (inv : Bool) (bits s mode : Int) (xs ws : List (Int × Int)) (off h u n : Nat)
/-- What a block asks for. -/
structure BlockH : Prop where
  len : xs.length ≤ 1000000
  wlen : ws.length ≤ 1000000
  n4 : n = 4 * h
  fit : off + 4 * h ≤ xs.length
  set : setP bits s mode
  near : ∀ i, off ≤ i → i < off + 4 * h → win 2147483648 (xs.getD i (0, 0)).1 (xs.getD i (0, 0)).2
  roots : nears (2 ^ bits.toNat) ws
  hu : ∀ k j, k < 4 → j < h → k * j * u < ws.length
  ub : u ≤ 1000000
theorem block.ok (H : BlockH bits s mode xs ws off h u n) :
    OkG Try.prog 84 [.row 37 2 (cxRows xs)] [.osl 0 off n 2, .sl 2 (cxRows ws), .int h, .int u, .int bits, .int s, .int mode, .bool inv] [.row 37 2 (cxRows (cur inv bits s mode xs ws off h u h))] none (retAV []) := by
  obtain ⟨hl, hw, hn, hfit, hset, hnear, hroots, hu, hub⟩ := H
  refine okg_of (X := fun _ => []) (Z := fun _ => false) (res := []) tok follows Try.func84 rfl rfl fine84 (by kernel_rfl) (by kernel_rfl) (id := none) rfl ?_
  simp only [evA, evB, evT, Go.undef, aload, astore, afieldAddr, afield, aindex, aindexAddr, abuild, abuildSlice, amakeSlice, aslice, aext, alen, aminmax, minmaxGo, aappend, newsOf, buildCells, cutRows, reps, setCells, AV.cells, allOne, AV.one, Value.oneCell', AV.pure, allPure, AV.free, allFree, rowsFree, Nat.reduceBEq, Nat.reduceAdd, Nat.reduceMul, Nat.reduceSub, Nat.reduceLT, Nat.reduceLeDiff, Int.reduceToNat, reduceIte, reduceCtorEq, Int.reduceLT, Int.reduceLE, Nat.reduceEqDiff, Int.reduceEq, Int.reduceNeg, Int.reduceMul, Int.reduceAdd, Int.reduceSub, Int.reduceBNe, Int.reduceBEq, apart, bnd]
  refine l_inv (fun j => ⟨[(23, .int j), (22, .int h), (0, .osl 0 off n 2), (1, .sl 2 (cxRows ws)), (2, .int h), (3, .int u), (4, .int bits), (5, .int s), (6, .int mode), (7, .bool inv)], [(0, some (.row 37 2 (cxRows (cur inv bits s mode xs ws off h u j))))], 1⟩) h ?_ (fun j hj K hK => ?_) (fun K => ?_)
  · refine weak_of (fun l => l) rfl ?_ ?_
    all_goals simp only [evA, evB, evT, Go.undef, aload, astore, afieldAddr, afield, aindex, aindexAddr, abuild, abuildSlice, amakeSlice, aslice, aext, alen, aminmax, minmaxGo, aappend, newsOf, buildCells, cutRows, reps, setCells, AV.cells, allOne, AV.one, Value.oneCell', AV.pure, allPure, AV.free, allFree, rowsFree, Nat.reduceBEq, Nat.reduceAdd, Nat.reduceMul, Nat.reduceSub, Nat.reduceLT, Nat.reduceLeDiff, Int.reduceToNat, reduceIte, reduceCtorEq, Int.reduceLT, Int.reduceLE, Nat.reduceEqDiff, Int.reduceEq, Int.reduceNeg, Int.reduceMul, Int.reduceAdd, Int.reduceSub, Int.reduceBNe, Int.reduceBEq, apart, bnd, cx_free, Int.natCast_zero, cur_zero]
  · have q0 : (j : Int) < h := by omega
    have q1 : (0 : Int) ≤ j := by omega
    have q2 : IntKind.i64.wrap ((j : Int) + 1) = ((j + 1 : Nat) : Int) := by rw [wr (by omega)]; omega
    have wl : (ws.length : Int) ≤ 1000000 := by omega
    have u0 : (0 * j * u : Nat) < ws.length := hu 0 j (by decide) hj
    have u1 : (j * u : Nat) < ws.length := by have := hu 1 j (by decide) hj; rwa [Nat.one_mul] at this
    have u2 : (2 * j * u : Nat) < ws.length := hu 2 j (by decide) hj
    have u3 : (3 * j * u : Nat) < ws.length := hu 3 j (by decide) hj
    rw [Nat.zero_mul, Nat.zero_mul] at u0
    have e0 : IntKind.i64.wrap (IntKind.i64.wrap (0 * (j : Int)) * u) = 0 := by rw [Int.zero_mul, w_0, Int.zero_mul, w_0]
    have e1 : IntKind.i64.wrap (IntKind.i64.wrap (1 * (j : Int)) * u) = ((j * u : Nat) : Int) := by
      rw [wr (x := 1 * (j : Int)) (by omega), show 1 * (j : Int) * u = ((j * u : Nat) : Int) by simp, wr (by omega)]
    have e2 : IntKind.i64.wrap (IntKind.i64.wrap (2 * (j : Int)) * u) = ((2 * j * u : Nat) : Int) := by
      rw [wr (x := 2 * (j : Int)) (by omega), show 2 * (j : Int) * u = ((2 * j * u : Nat) : Int) by simp, wr (by omega)]
    have e3 : IntKind.i64.wrap (IntKind.i64.wrap (3 * (j : Int)) * u) = ((3 * j * u : Nat) : Int) := by
      rw [wr (x := 3 * (j : Int)) (by omega), show 3 * (j : Int) * u = ((3 * j * u : Nat) : Int) by simp, wr (by omega)]
    have f0 : (0 : Int) < ws.length := by omega
    have f1 : ((j * u : Nat) : Int) < ws.length := by omega
    have f2 : ((2 * j * u : Nat) : Int) < ws.length := by omega
    have f3 : ((3 * j * u : Nat) : Int) < ws.length := by omega
    have p1 : (0 : Int) ≤ ((j * u : Nat) : Int) := by omega
    have p2 : (0 : Int) ≤ ((2 * j * u : Nat) : Int) := by omega
    have p3 : (0 : Int) ≤ ((3 * j * u : Nat) : Int) := by omega
    have i0 : IntKind.i64.wrap (IntKind.i64.wrap (0 * (h : Int)) + j) = j := by rw [Int.zero_mul, w_0, Int.zero_add, wr (by omega)]
    have i1 : IntKind.i64.wrap (IntKind.i64.wrap (1 * (h : Int)) + j) = ((h + j : Nat) : Int) := by rw [wr (x := 1 * (h : Int)) (by omega), wr (by omega)]; omega
    have i1' : IntKind.i64.wrap ((h : Int) + j) = ((h + j : Nat) : Int) := by rw [wr (by omega)]; omega
    have i2 : IntKind.i64.wrap (IntKind.i64.wrap (2 * (h : Int)) + j) = ((2 * h + j : Nat) : Int) := by rw [wr (x := 2 * (h : Int)) (by omega), wr (by omega)]; omega
    have i3 : IntKind.i64.wrap (IntKind.i64.wrap (3 * (h : Int)) + j) = ((3 * h + j : Nat) : Int) := by rw [wr (x := 3 * (h : Int)) (by omega), wr (by omega)]; omega
    have a0 : (j : Int) < n := by omega
    have a1 : ((h + j : Nat) : Int) < n := by omega
    have a2 : ((2 * h + j : Nat) : Int) < n := by omega
    have a3 : ((3 * h + j : Nat) : Int) < n := by omega
    have b1 : (0 : Int) ≤ ((h + j : Nat) : Int) := by omega
    have b2 : (0 : Int) ≤ ((2 * h + j : Nat) : Int) := by omega
    have b3 : (0 : Int) ≤ ((3 * h + j : Nat) : Int) := by omega
    have l0 : off + j < xs.length := by omega
    have l1 : off + (h + j) < xs.length := by omega
    have l2 : off + (2 * h + j) < xs.length := by omega
    have l3 : off + (3 * h + j) < xs.length := by omega
    have v0 : (cur inv bits s mode xs ws off h u j).getD (off + j) (0, 0) = xs.getD (off + j) (0, 0) := by
      have := cur_at inv bits s mode xs ws off h u hj 0 (by omega)
      rwa [Nat.zero_mul, Nat.zero_add] at this
    have v1 : (cur inv bits s mode xs ws off h u j).getD (off + (h + j)) (0, 0) = xs.getD (off + (h + j)) (0, 0) := by
      have := cur_at inv bits s mode xs ws off h u hj 1 (by omega)
      rwa [Nat.one_mul] at this
    have v2 : (cur inv bits s mode xs ws off h u j).getD (off + (2 * h + j)) (0, 0) = xs.getD (off + (2 * h + j)) (0, 0) := cur_at inv bits s mode xs ws off h u hj 2 (by omega)
    have v3 : (cur inv bits s mode xs ws off h u j).getD (off + (3 * h + j)) (0, 0) = xs.getD (off + (3 * h + j)) (0, 0) := cur_at inv bits s mode xs ws off h u hj 3 (by omega)
    have hstep := cur_step inv bits s mode xs ws off h u hj hfit
    have hp := pow29 hset.1
    have hroot : ∀ k, k < ws.length → win (2 ^ bits.toNat) (ws.getD k (0, 0)).1 (ws.getD k (0, 0)).2 := fun k hk => near_get hroots hk
    have hbig : ∀ k, k < ws.length → win 2305843009213693952 (ws.getD k (0, 0)).1 (ws.getD k (0, 0)).2 := fun k hk => win_mono (hroot k hk) (by omega)
    have hconj : ∀ k, k < ws.length → win (2 ^ bits.toNat) (ws.getD k (0, 0)).1 (-(ws.getD k (0, 0)).2) := fun k hk => by
      have := hroot k hk
      unfold win at *
      omega
    generalize hC : cur inv bits s mode xs ws off h u j = C at *
    have hCl : C.length = xs.length := by rw [← hC]; exact cur_len ..
    cases inv
    · simp only [evA, evT, Go.undef, aload, astore, afieldAddr, afield, aindex, aindexAddr, abuild, abuildSlice, amakeSlice, aslice, aext, alen, aminmax, minmaxGo, aappend, newsOf, buildCells, cutRows, reps, setCells, AV.cells, allOne, AV.one, Value.oneCell', AV.pure, allPure, AV.free, allFree, rowsFree, Nat.reduceBEq, Nat.reduceAdd, Nat.reduceMul, Nat.reduceSub, Nat.reduceLT, Nat.reduceLeDiff, Int.reduceToNat, reduceIte, reduceCtorEq, Int.reduceLT, Int.reduceLE, Nat.reduceEqDiff, Int.reduceEq, Int.reduceNeg, Int.reduceMul, Int.reduceAdd, Int.reduceSub, Int.reduceBNe, Int.reduceBEq, apart, bnd, q0]
      refine ⟨5, l_succ ?_⟩
      iterate 4
        simp only [evA, evT, Go.undef, aload, astore, afieldAddr, afield, aindex, aindexAddr, abuild, abuildSlice, amakeSlice, aslice, aext, alen, aminmax, minmaxGo, aappend, newsOf, buildCells, cutRows, reps, setCells, AV.cells, allOne, AV.one, Value.oneCell', AV.pure, allPure, AV.free, allFree, rowsFree, Nat.reduceBEq, Nat.reduceAdd, Nat.reduceMul, Nat.reduceSub, Nat.reduceLT, Nat.reduceLeDiff, Int.reduceToNat, reduceIte, reduceCtorEq, Int.reduceLT, Int.reduceLE, Nat.reduceEqDiff, Int.reduceEq, Int.reduceNeg, Int.reduceMul, Int.reduceAdd, Int.reduceSub, Int.reduceBNe, Int.reduceBEq, apart, bnd, e0, e1, e2, e3, f0, f1, f2, f3, p1, p2, p3, cx_len, Int.toNat_natCast, cx_getD u0, cx_getD u1, cx_getD u2, cx_getD u3]
        refine l_succ ?_
      simp only [evA, evT, Go.undef, aload, astore, afieldAddr, afield, aindex, aindexAddr, abuild, abuildSlice, amakeSlice, aslice, aext, alen, aminmax, minmaxGo, aappend, newsOf, buildCells, cutRows, reps, setCells, AV.cells, allOne, AV.one, Value.oneCell', AV.pure, allPure, AV.free, allFree, rowsFree, Nat.reduceBEq, Nat.reduceAdd, Nat.reduceMul, Nat.reduceSub, Nat.reduceLT, Nat.reduceLeDiff, Int.reduceToNat, reduceIte, reduceCtorEq, Int.reduceLT, Int.reduceLE, Nat.reduceEqDiff, Int.reduceEq, Int.reduceNeg, Int.reduceMul, Int.reduceAdd, Int.reduceSub, Int.reduceBNe, Int.reduceBEq, apart, bnd, i1', i2, i3, a0, a1, a2, a3, q1, b1, b2, b3, Int.toNat_natCast, cx_at, hCl, l0, l1, l2, l3, v0, v1, v2, v3]
      refine call_ok (quad.ok false bits s mode _ _ _ _ _ _ _ _ _ _ _ _ _ _ _ _ hset.1 hset.2.1 hset.2.2 (hnear _ (by omega) (by omega)) (hnear _ (by omega) (by omega)) (hnear _ (by omega) (by omega)) (hnear _ (by omega) (by omega)) (hroot _ u1) (hroot _ u2) (hroot _ u3)) rfl ?_
      simp only [evA, evT, Go.undef, aload, astore, afieldAddr, afield, aindex, aindexAddr, abuild, abuildSlice, amakeSlice, aslice, aext, alen, aminmax, minmaxGo, aappend, newsOf, buildCells, cutRows, reps, setCells, AV.cells, allOne, AV.one, Value.oneCell', AV.pure, allPure, AV.free, allFree, rowsFree, Nat.reduceBEq, Nat.reduceAdd, Nat.reduceMul, Nat.reduceSub, Nat.reduceLT, Nat.reduceLeDiff, Int.reduceToNat, reduceIte, reduceCtorEq, Int.reduceLT, Int.reduceLE, Nat.reduceEqDiff, Int.reduceEq, Int.reduceNeg, Int.reduceMul, Int.reduceAdd, Int.reduceSub, Int.reduceBNe, Int.reduceBEq, apart, bnd]
      refine ⟨5, l_succ ?_⟩
      iterate 4
        simp only [evA, evT, Go.undef, aload, astore, afieldAddr, afield, aindex, aindexAddr, abuild, abuildSlice, amakeSlice, aslice, aext, alen, aminmax, minmaxGo, aappend, newsOf, buildCells, cutRows, reps, setCells, AV.cells, allOne, AV.one, Value.oneCell', AV.pure, allPure, AV.free, allFree, rowsFree, Nat.reduceBEq, Nat.reduceAdd, Nat.reduceMul, Nat.reduceSub, Nat.reduceLT, Nat.reduceLeDiff, Int.reduceToNat, reduceIte, reduceCtorEq, Int.reduceLT, Int.reduceLE, Nat.reduceEqDiff, Int.reduceEq, Int.reduceNeg, Int.reduceMul, Int.reduceAdd, Int.reduceSub, Int.reduceBNe, Int.reduceBEq, apart, bnd, i0, i1, i2, i3, a0, a1, a2, a3, q1, b1, b2, b3, Int.toNat_natCast, cx_at, hCl, l0, l1, l2, l3, List.length_set, cx_set]
        refine l_succ ?_
      simp only [evA, evT, Go.undef, aload, astore, afieldAddr, afield, aindex, aindexAddr, abuild, abuildSlice, amakeSlice, aslice, aext, alen, aminmax, minmaxGo, aappend, newsOf, buildCells, cutRows, reps, setCells, AV.cells, allOne, AV.one, Value.oneCell', AV.pure, allPure, AV.free, allFree, rowsFree, Nat.reduceBEq, Nat.reduceAdd, Nat.reduceMul, Nat.reduceSub, Nat.reduceLT, Nat.reduceLeDiff, Int.reduceToNat, reduceIte, reduceCtorEq, Int.reduceLT, Int.reduceLE, Nat.reduceEqDiff, Int.reduceEq, Int.reduceNeg, Int.reduceMul, Int.reduceAdd, Int.reduceSub, Int.reduceBNe, Int.reduceBEq, apart, bnd, q2]
      refine hK _ (weak_of (fun l => l) rfl ?_ ?_)
      · simp only [evA, evB, evT, Go.undef, aload, astore, afieldAddr, afield, aindex, aindexAddr, abuild, abuildSlice, amakeSlice, aslice, aext, alen, aminmax, minmaxGo, aappend, newsOf, buildCells, cutRows, reps, setCells, AV.cells, allOne, AV.one, Value.oneCell', AV.pure, allPure, AV.free, allFree, rowsFree, Nat.reduceBEq, Nat.reduceAdd, Nat.reduceMul, Nat.reduceSub, Nat.reduceLT, Nat.reduceLeDiff, Int.reduceToNat, reduceIte, reduceCtorEq, Int.reduceLT, Int.reduceLE, Nat.reduceEqDiff, Int.reduceEq, Int.reduceNeg, Int.reduceMul, Int.reduceAdd, Int.reduceSub, Int.reduceBNe, Int.reduceBEq, apart, bnd, cx_free]
        exact .inl (congrArg (fun l => LB.row 37 2 (cxRows l)) hstep)
      · simp only [evA, evB, evT, Go.undef, aload, astore, afieldAddr, afield, aindex, aindexAddr, abuild, abuildSlice, amakeSlice, aslice, aext, alen, aminmax, minmaxGo, aappend, newsOf, buildCells, cutRows, reps, setCells, AV.cells, allOne, AV.one, Value.oneCell', AV.pure, allPure, AV.free, allFree, rowsFree, Nat.reduceBEq, Nat.reduceAdd, Nat.reduceMul, Nat.reduceSub, Nat.reduceLT, Nat.reduceLeDiff, Int.reduceToNat, reduceIte, reduceCtorEq, Int.reduceLT, Int.reduceLE, Nat.reduceEqDiff, Int.reduceEq, Int.reduceNeg, Int.reduceMul, Int.reduceAdd, Int.reduceSub, Int.reduceBNe, Int.reduceBEq, apart, bnd, cx_free]
    · simp only [evA, evT, Go.undef, aload, astore, afieldAddr, afield, aindex, aindexAddr, abuild, abuildSlice, amakeSlice, aslice, aext, alen, aminmax, minmaxGo, aappend, newsOf, buildCells, cutRows, reps, setCells, AV.cells, allOne, AV.one, Value.oneCell', AV.pure, allPure, AV.free, allFree, rowsFree, Nat.reduceBEq, Nat.reduceAdd, Nat.reduceMul, Nat.reduceSub, Nat.reduceLT, Nat.reduceLeDiff, Int.reduceToNat, reduceIte, reduceCtorEq, Int.reduceLT, Int.reduceLE, Nat.reduceEqDiff, Int.reduceEq, Int.reduceNeg, Int.reduceMul, Int.reduceAdd, Int.reduceSub, Int.reduceBNe, Int.reduceBEq, apart, bnd, q0]
      refine ⟨5, l_succ ?_⟩
      simp only [evA, evT, Go.undef, aload, astore, afieldAddr, afield, aindex, aindexAddr, abuild, abuildSlice, amakeSlice, aslice, aext, alen, aminmax, minmaxGo, aappend, newsOf, buildCells, cutRows, reps, setCells, AV.cells, allOne, AV.one, Value.oneCell', AV.pure, allPure, AV.free, allFree, rowsFree, Nat.reduceBEq, Nat.reduceAdd, Nat.reduceMul, Nat.reduceSub, Nat.reduceLT, Nat.reduceLeDiff, Int.reduceToNat, reduceIte, reduceCtorEq, Int.reduceLT, Int.reduceLE, Nat.reduceEqDiff, Int.reduceEq, Int.reduceNeg, Int.reduceMul, Int.reduceAdd, Int.reduceSub, Int.reduceBNe, Int.reduceBEq, apart, bnd, e0, f0, cx_len, Int.toNat_natCast, cx_getD u0]
      refine call_ok (Conj.ok _ _ (hbig _ u0)) rfl ?_
      simp only [evA, evT, Go.undef, aload, astore, afieldAddr, afield, aindex, aindexAddr, abuild, abuildSlice, amakeSlice, aslice, aext, alen, aminmax, minmaxGo, aappend, newsOf, buildCells, cutRows, reps, setCells, AV.cells, allOne, AV.one, Value.oneCell', AV.pure, allPure, AV.free, allFree, rowsFree, Nat.reduceBEq, Nat.reduceAdd, Nat.reduceMul, Nat.reduceSub, Nat.reduceLT, Nat.reduceLeDiff, Int.reduceToNat, reduceIte, reduceCtorEq, Int.reduceLT, Int.reduceLE, Nat.reduceEqDiff, Int.reduceEq, Int.reduceNeg, Int.reduceMul, Int.reduceAdd, Int.reduceSub, Int.reduceBNe, Int.reduceBEq, apart, bnd]
      refine l_succ ?_
      simp only [evA, evT, Go.undef, aload, astore, afieldAddr, afield, aindex, aindexAddr, abuild, abuildSlice, amakeSlice, aslice, aext, alen, aminmax, minmaxGo, aappend, newsOf, buildCells, cutRows, reps, setCells, AV.cells, allOne, AV.one, Value.oneCell', AV.pure, allPure, AV.free, allFree, rowsFree, Nat.reduceBEq, Nat.reduceAdd, Nat.reduceMul, Nat.reduceSub, Nat.reduceLT, Nat.reduceLeDiff, Int.reduceToNat, reduceIte, reduceCtorEq, Int.reduceLT, Int.reduceLE, Nat.reduceEqDiff, Int.reduceEq, Int.reduceNeg, Int.reduceMul, Int.reduceAdd, Int.reduceSub, Int.reduceBNe, Int.reduceBEq, apart, bnd, e1, f1, p1, cx_len, Int.toNat_natCast, cx_getD u1]
      refine call_ok (Conj.ok _ _ (hbig _ u1)) rfl ?_
      simp only [evA, evT, Go.undef, aload, astore, afieldAddr, afield, aindex, aindexAddr, abuild, abuildSlice, amakeSlice, aslice, aext, alen, aminmax, minmaxGo, aappend, newsOf, buildCells, cutRows, reps, setCells, AV.cells, allOne, AV.one, Value.oneCell', AV.pure, allPure, AV.free, allFree, rowsFree, Nat.reduceBEq, Nat.reduceAdd, Nat.reduceMul, Nat.reduceSub, Nat.reduceLT, Nat.reduceLeDiff, Int.reduceToNat, reduceIte, reduceCtorEq, Int.reduceLT, Int.reduceLE, Nat.reduceEqDiff, Int.reduceEq, Int.reduceNeg, Int.reduceMul, Int.reduceAdd, Int.reduceSub, Int.reduceBNe, Int.reduceBEq, apart, bnd]
      refine l_succ ?_
      simp only [evA, evT, Go.undef, aload, astore, afieldAddr, afield, aindex, aindexAddr, abuild, abuildSlice, amakeSlice, aslice, aext, alen, aminmax, minmaxGo, aappend, newsOf, buildCells, cutRows, reps, setCells, AV.cells, allOne, AV.one, Value.oneCell', AV.pure, allPure, AV.free, allFree, rowsFree, Nat.reduceBEq, Nat.reduceAdd, Nat.reduceMul, Nat.reduceSub, Nat.reduceLT, Nat.reduceLeDiff, Int.reduceToNat, reduceIte, reduceCtorEq, Int.reduceLT, Int.reduceLE, Nat.reduceEqDiff, Int.reduceEq, Int.reduceNeg, Int.reduceMul, Int.reduceAdd, Int.reduceSub, Int.reduceBNe, Int.reduceBEq, apart, bnd, e2, f2, p2, cx_len, Int.toNat_natCast, cx_getD u2]
      refine call_ok (Conj.ok _ _ (hbig _ u2)) rfl ?_
      simp only [evA, evT, Go.undef, aload, astore, afieldAddr, afield, aindex, aindexAddr, abuild, abuildSlice, amakeSlice, aslice, aext, alen, aminmax, minmaxGo, aappend, newsOf, buildCells, cutRows, reps, setCells, AV.cells, allOne, AV.one, Value.oneCell', AV.pure, allPure, AV.free, allFree, rowsFree, Nat.reduceBEq, Nat.reduceAdd, Nat.reduceMul, Nat.reduceSub, Nat.reduceLT, Nat.reduceLeDiff, Int.reduceToNat, reduceIte, reduceCtorEq, Int.reduceLT, Int.reduceLE, Nat.reduceEqDiff, Int.reduceEq, Int.reduceNeg, Int.reduceMul, Int.reduceAdd, Int.reduceSub, Int.reduceBNe, Int.reduceBEq, apart, bnd]
      refine l_succ ?_
      simp only [evA, evT, Go.undef, aload, astore, afieldAddr, afield, aindex, aindexAddr, abuild, abuildSlice, amakeSlice, aslice, aext, alen, aminmax, minmaxGo, aappend, newsOf, buildCells, cutRows, reps, setCells, AV.cells, allOne, AV.one, Value.oneCell', AV.pure, allPure, AV.free, allFree, rowsFree, Nat.reduceBEq, Nat.reduceAdd, Nat.reduceMul, Nat.reduceSub, Nat.reduceLT, Nat.reduceLeDiff, Int.reduceToNat, reduceIte, reduceCtorEq, Int.reduceLT, Int.reduceLE, Nat.reduceEqDiff, Int.reduceEq, Int.reduceNeg, Int.reduceMul, Int.reduceAdd, Int.reduceSub, Int.reduceBNe, Int.reduceBEq, apart, bnd, e3, f3, p3, cx_len, Int.toNat_natCast, cx_getD u3]
      refine call_ok (Conj.ok _ _ (hbig _ u3)) rfl ?_
      simp only [evA, evT, Go.undef, aload, astore, afieldAddr, afield, aindex, aindexAddr, abuild, abuildSlice, amakeSlice, aslice, aext, alen, aminmax, minmaxGo, aappend, newsOf, buildCells, cutRows, reps, setCells, AV.cells, allOne, AV.one, Value.oneCell', AV.pure, allPure, AV.free, allFree, rowsFree, Nat.reduceBEq, Nat.reduceAdd, Nat.reduceMul, Nat.reduceSub, Nat.reduceLT, Nat.reduceLeDiff, Int.reduceToNat, reduceIte, reduceCtorEq, Int.reduceLT, Int.reduceLE, Nat.reduceEqDiff, Int.reduceEq, Int.reduceNeg, Int.reduceMul, Int.reduceAdd, Int.reduceSub, Int.reduceBNe, Int.reduceBEq, apart, bnd]
      refine l_succ ?_
      simp only [evA, evT, Go.undef, aload, astore, afieldAddr, afield, aindex, aindexAddr, abuild, abuildSlice, amakeSlice, aslice, aext, alen, aminmax, minmaxGo, aappend, newsOf, buildCells, cutRows, reps, setCells, AV.cells, allOne, AV.one, Value.oneCell', AV.pure, allPure, AV.free, allFree, rowsFree, Nat.reduceBEq, Nat.reduceAdd, Nat.reduceMul, Nat.reduceSub, Nat.reduceLT, Nat.reduceLeDiff, Int.reduceToNat, reduceIte, reduceCtorEq, Int.reduceLT, Int.reduceLE, Nat.reduceEqDiff, Int.reduceEq, Int.reduceNeg, Int.reduceMul, Int.reduceAdd, Int.reduceSub, Int.reduceBNe, Int.reduceBEq, apart, bnd, i1', i2, i3, a0, a1, a2, a3, q1, b1, b2, b3, Int.toNat_natCast, cx_at, hCl, l0, l1, l2, l3, v0, v1, v2, v3]
      refine call_ok (quad.ok true bits s mode _ _ _ _ _ _ _ _ _ _ _ _ _ _ _ _ hset.1 hset.2.1 hset.2.2 (hnear _ (by omega) (by omega)) (hnear _ (by omega) (by omega)) (hnear _ (by omega) (by omega)) (hnear _ (by omega) (by omega)) (hconj _ u1) (hconj _ u2) (hconj _ u3)) rfl ?_
      simp only [evA, evT, Go.undef, aload, astore, afieldAddr, afield, aindex, aindexAddr, abuild, abuildSlice, amakeSlice, aslice, aext, alen, aminmax, minmaxGo, aappend, newsOf, buildCells, cutRows, reps, setCells, AV.cells, allOne, AV.one, Value.oneCell', AV.pure, allPure, AV.free, allFree, rowsFree, Nat.reduceBEq, Nat.reduceAdd, Nat.reduceMul, Nat.reduceSub, Nat.reduceLT, Nat.reduceLeDiff, Int.reduceToNat, reduceIte, reduceCtorEq, Int.reduceLT, Int.reduceLE, Nat.reduceEqDiff, Int.reduceEq, Int.reduceNeg, Int.reduceMul, Int.reduceAdd, Int.reduceSub, Int.reduceBNe, Int.reduceBEq, apart, bnd]
      refine ⟨5, l_succ ?_⟩
      iterate 4
        simp only [evA, evT, Go.undef, aload, astore, afieldAddr, afield, aindex, aindexAddr, abuild, abuildSlice, amakeSlice, aslice, aext, alen, aminmax, minmaxGo, aappend, newsOf, buildCells, cutRows, reps, setCells, AV.cells, allOne, AV.one, Value.oneCell', AV.pure, allPure, AV.free, allFree, rowsFree, Nat.reduceBEq, Nat.reduceAdd, Nat.reduceMul, Nat.reduceSub, Nat.reduceLT, Nat.reduceLeDiff, Int.reduceToNat, reduceIte, reduceCtorEq, Int.reduceLT, Int.reduceLE, Nat.reduceEqDiff, Int.reduceEq, Int.reduceNeg, Int.reduceMul, Int.reduceAdd, Int.reduceSub, Int.reduceBNe, Int.reduceBEq, apart, bnd, i0, i1, i2, i3, a0, a1, a2, a3, q1, b1, b2, b3, Int.toNat_natCast, cx_at, hCl, l0, l1, l2, l3, List.length_set, cx_set]
        refine l_succ ?_
      simp only [evA, evT, Go.undef, aload, astore, afieldAddr, afield, aindex, aindexAddr, abuild, abuildSlice, amakeSlice, aslice, aext, alen, aminmax, minmaxGo, aappend, newsOf, buildCells, cutRows, reps, setCells, AV.cells, allOne, AV.one, Value.oneCell', AV.pure, allPure, AV.free, allFree, rowsFree, Nat.reduceBEq, Nat.reduceAdd, Nat.reduceMul, Nat.reduceSub, Nat.reduceLT, Nat.reduceLeDiff, Int.reduceToNat, reduceIte, reduceCtorEq, Int.reduceLT, Int.reduceLE, Nat.reduceEqDiff, Int.reduceEq, Int.reduceNeg, Int.reduceMul, Int.reduceAdd, Int.reduceSub, Int.reduceBNe, Int.reduceBEq, apart, bnd, q2]
      refine hK _ (weak_of (fun l => l) rfl ?_ ?_)
      · simp only [evA, evB, evT, Go.undef, aload, astore, afieldAddr, afield, aindex, aindexAddr, abuild, abuildSlice, amakeSlice, aslice, aext, alen, aminmax, minmaxGo, aappend, newsOf, buildCells, cutRows, reps, setCells, AV.cells, allOne, AV.one, Value.oneCell', AV.pure, allPure, AV.free, allFree, rowsFree, Nat.reduceBEq, Nat.reduceAdd, Nat.reduceMul, Nat.reduceSub, Nat.reduceLT, Nat.reduceLeDiff, Int.reduceToNat, reduceIte, reduceCtorEq, Int.reduceLT, Int.reduceLE, Nat.reduceEqDiff, Int.reduceEq, Int.reduceNeg, Int.reduceMul, Int.reduceAdd, Int.reduceSub, Int.reduceBNe, Int.reduceBEq, apart, bnd, cx_free]
        exact .inl (congrArg (fun l => LB.row 37 2 (cxRows l)) hstep)
      · simp only [evA, evB, evT, Go.undef, aload, astore, afieldAddr, afield, aindex, aindexAddr, abuild, abuildSlice, amakeSlice, aslice, aext, alen, aminmax, minmaxGo, aappend, newsOf, buildCells, cutRows, reps, setCells, AV.cells, allOne, AV.one, Value.oneCell', AV.pure, allPure, AV.free, allFree, rowsFree, Nat.reduceBEq, Nat.reduceAdd, Nat.reduceMul, Nat.reduceSub, Nat.reduceLT, Nat.reduceLeDiff, Int.reduceToNat, reduceIte, reduceCtorEq, Int.reduceLT, Int.reduceLE, Nat.reduceEqDiff, Int.reduceEq, Int.reduceNeg, Int.reduceMul, Int.reduceAdd, Int.reduceSub, Int.reduceBNe, Int.reduceBEq, apart, bnd, cx_free]
  · simp only [evA, evB, evT, Go.undef, aload, astore, afieldAddr, afield, aindex, aindexAddr, abuild, abuildSlice, amakeSlice, aslice, aext, alen, aminmax, minmaxGo, aappend, newsOf, buildCells, cutRows, reps, setCells, AV.cells, allOne, AV.one, Value.oneCell', AV.pure, allPure, AV.free, allFree, rowsFree, Nat.reduceBEq, Nat.reduceAdd, Nat.reduceMul, Nat.reduceSub, Nat.reduceLT, Nat.reduceLeDiff, Int.reduceToNat, reduceIte, reduceCtorEq, Int.reduceLT, Int.reduceLE, Nat.reduceEqDiff, Int.reduceEq, Int.reduceNeg, Int.reduceMul, Int.reduceAdd, Int.reduceSub, Int.reduceBNe, Int.reduceBEq, apart, bnd, cx_free]
end
end Go.Proofs.YtfemklaeonkidaaV

import Derived.Test.YtnnjjblgilibgaaVrF
/- Contracts: the document's roots. The law RootsTells answers true. -/
namespace Go.Proofs.YtnnjjblgilibgaaV
open Go Go.RowKit
set_option linter.unusedVariables false
set_option linter.unusedSimpArgs false
set_option maxRecDepth 100000
set_option maxHeartbeats 40000000
theorem rw_wins (log : Nat) (k bits : Int) (hl : log ≤ 6) : win 288230376151711744 (rP log k bits).1 (rP log k bits).2 ∧ win 2305843009213693952 (rP log k bits).1 (rP log k bits).2 ∧ win 2305843009213693952 (tRe (rP log k bits).1 (rP log k bits).2 ((4 * rR log k / 2 ^ log : Nat) : Int)) (tIm (rP log k bits).1 (rP log k bits).2 ((4 * rR log k / 2 ^ log : Nat) : Int)) := by
  have hp : 0 < 2 ^ log := Nat.two_pow_pos log
  have hu : 4 * rR log k % 2 ^ log ≤ 2 ^ log := Nat.le_of_lt (Nat.mod_lt _ hp)
  have hw2 : win 288230376151711744 (rP log k bits).1 (rP log k bits).2 := rsh_win (pt_win log (4 * rR log k % 2 ^ log) hl hu)
  have hw3 : win 2305843009213693952 (rP log k bits).1 (rP log k bits).2 := win_mono' hw2 (by decide)
  have t1 := tRe_near (n := ((4 * rR log k / 2 ^ log : Nat) : Int)) hw3 (by decide)
  have t2 := tIm_near (n := ((4 * rR log k / 2 ^ log : Nat) : Int)) hw3 (by decide)
  exact ⟨hw2, hw3, by unfold win; omega⟩
theorem RootOf.ok (log : Nat) (k bits : Int) (hl : log ≤ 6) (hb : 0 ≤ bits ∧ bits ≤ 40) : Ok Try.prog 53 [tAV, .int log, .int k, .int bits] (cxA (rW log k bits).1 (rW log k bits).2) := by
  have hp := pow6 hl
  have hpn : ((2 ^ log : Nat) : Int) = 2 ^ log := by rw [Int.natCast_pow]; rfl
  have hP := Pow.ok log (by omega)
  rw [Int.toNat_natCast, ← hpn] at hP
  obtain ⟨hR, hRe⟩ := rR_lt (log := log) (k := k)
  have hL1 := left.ok k (2 ^ log) (by omega)
  have hL2 := left.ok ((4 * rR log k : Nat) : Int) (2 ^ log) (by omega)
  rw [hpn, ← hRe, ← hpn] at hL1
  rw [← Int.natCast_emod] at hL2
  have e3 : IntKind.i64.wrap (4 * ((rR log k : Nat) : Int)) = ((4 * rR log k : Nat) : Int) := by rw [wr (by omega)]; omega
  have e5 : IntKind.i64.wrap (56 - bits) = 56 - bits := wr (by omega)
  have hD := RDiv.ok ((4 * rR log k : Nat) : Int) ((2 ^ log : Nat) : Int) (by omega) (by omega)
  have e6 : (((4 * rR log k : Nat) : Int)).tdiv ((2 ^ log : Nat) : Int) = ((4 * rR log k / 2 ^ log : Nat) : Int) := by
    rw [Int.tdiv_eq_ediv_of_nonneg (by omega), Int.natCast_ediv]
  rw [e6] at hD
  have hu : 4 * rR log k % 2 ^ log ≤ 2 ^ log := Nat.le_of_lt (Nat.mod_lt _ (by omega))
  have hw := pt_win log (4 * rR log k % 2 ^ log) hl hu
  obtain ⟨hw2, hw3, hw4⟩ := rw_wins log k bits hl
  have hq : 4 * rR log k / 2 ^ log ≤ 1000 := Nat.le_trans (Nat.div_le_self _ _) (by omega)
  have hqi : in64 ((4 * rR log k / 2 ^ log : Nat) : Int) := by
    generalize 4 * rR log k / 2 ^ log = q at *
    unfold in64
    omega
  unfold win at hw
  refine ok_of (X := fun _ => []) (Z := fun _ => false) (res := [ResultVar.cell 8 35]) tok follows Try.func53 rfl rfl fine53 (by kernel_rfl) (by kernel_rfl) ?_
  simp only [evA, evT, Go.undef, aload, astore, afieldAddr, afield, aindex, aindexAddr, abuild, abuildSlice, amakeSlice, aslice, aext, alen, aminmax, minmaxGo, aappend, newsOf, buildCells, cutRows, reps, setCells, AV.cells, allOne, AV.one, Value.oneCell', AV.pure, allPure, AV.free, allFree, rowsFree, Nat.reduceBEq, Nat.reduceAdd, Nat.reduceMul, Nat.reduceSub, Nat.reduceLT, Nat.reduceLeDiff, Int.reduceToNat, reduceIte, reduceCtorEq, Int.reduceLT, Int.reduceLE, Nat.reduceEqDiff, Int.reduceEq, Int.reduceNeg, Int.reduceMul, Int.reduceAdd, Int.reduceSub, Int.reduceBNe, Int.reduceBEq, apart, bnd]
  refine call_ok hP rfl ?_
  simp only [evA, evT, Go.undef, aload, astore, afieldAddr, afield, aindex, aindexAddr, abuild, abuildSlice, amakeSlice, aslice, aext, alen, aminmax, minmaxGo, aappend, newsOf, buildCells, cutRows, reps, setCells, AV.cells, allOne, AV.one, Value.oneCell', AV.pure, allPure, AV.free, allFree, rowsFree, Nat.reduceBEq, Nat.reduceAdd, Nat.reduceMul, Nat.reduceSub, Nat.reduceLT, Nat.reduceLeDiff, Int.reduceToNat, reduceIte, reduceCtorEq, Int.reduceLT, Int.reduceLE, Nat.reduceEqDiff, Int.reduceEq, Int.reduceNeg, Int.reduceMul, Int.reduceAdd, Int.reduceSub, Int.reduceBNe, Int.reduceBEq, apart, bnd]
  refine call_ok hL1 rfl ?_
  simp only [evA, evT, Go.undef, aload, astore, afieldAddr, afield, aindex, aindexAddr, abuild, abuildSlice, amakeSlice, aslice, aext, alen, aminmax, minmaxGo, aappend, newsOf, buildCells, cutRows, reps, setCells, AV.cells, allOne, AV.one, Value.oneCell', AV.pure, allPure, AV.free, allFree, rowsFree, Nat.reduceBEq, Nat.reduceAdd, Nat.reduceMul, Nat.reduceSub, Nat.reduceLT, Nat.reduceLeDiff, Int.reduceToNat, reduceIte, reduceCtorEq, Int.reduceLT, Int.reduceLE, Nat.reduceEqDiff, Int.reduceEq, Int.reduceNeg, Int.reduceMul, Int.reduceAdd, Int.reduceSub, Int.reduceBNe, Int.reduceBEq, apart, bnd, e3]
  refine call_ok hL2 rfl ?_
  simp only [evA, evT, Go.undef, aload, astore, afieldAddr, afield, aindex, aindexAddr, abuild, abuildSlice, amakeSlice, aslice, aext, alen, aminmax, minmaxGo, aappend, newsOf, buildCells, cutRows, reps, setCells, AV.cells, allOne, AV.one, Value.oneCell', AV.pure, allPure, AV.free, allFree, rowsFree, Nat.reduceBEq, Nat.reduceAdd, Nat.reduceMul, Nat.reduceSub, Nat.reduceLT, Nat.reduceLeDiff, Int.reduceToNat, reduceIte, reduceCtorEq, Int.reduceLT, Int.reduceLE, Nat.reduceEqDiff, Int.reduceEq, Int.reduceNeg, Int.reduceMul, Int.reduceAdd, Int.reduceSub, Int.reduceBNe, Int.reduceBEq, apart, bnd, in_free]
  refine call_ok (Rpoint.ok log (4 * rR log k % 2 ^ log) hl hu) rfl ?_
  simp only [evA, evT, Go.undef, aload, astore, afieldAddr, afield, aindex, aindexAddr, abuild, abuildSlice, amakeSlice, aslice, aext, alen, aminmax, minmaxGo, aappend, newsOf, buildCells, cutRows, reps, setCells, AV.cells, allOne, AV.one, Value.oneCell', AV.pure, allPure, AV.free, allFree, rowsFree, Nat.reduceBEq, Nat.reduceAdd, Nat.reduceMul, Nat.reduceSub, Nat.reduceLT, Nat.reduceLeDiff, Int.reduceToNat, reduceIte, reduceCtorEq, Int.reduceLT, Int.reduceLE, Nat.reduceEqDiff, Int.reduceEq, Int.reduceNeg, Int.reduceMul, Int.reduceAdd, Int.reduceSub, Int.reduceBNe, Int.reduceBEq, apart, bnd, e5]
  refine call_ok (RShift.ok _ _ (56 - bits) 1 (by unfold in64; omega) (by unfold in64; omega) (by omega) (by decide)) rfl ?_
  simp only [evA, evT, Go.undef, aload, astore, afieldAddr, afield, aindex, aindexAddr, abuild, abuildSlice, amakeSlice, aslice, aext, alen, aminmax, minmaxGo, aappend, newsOf, buildCells, cutRows, reps, setCells, AV.cells, allOne, AV.one, Value.oneCell', AV.pure, allPure, AV.free, allFree, rowsFree, Nat.reduceBEq, Nat.reduceAdd, Nat.reduceMul, Nat.reduceSub, Nat.reduceLT, Nat.reduceLeDiff, Int.reduceToNat, reduceIte, reduceCtorEq, Int.reduceLT, Int.reduceLE, Nat.reduceEqDiff, Int.reduceEq, Int.reduceNeg, Int.reduceMul, Int.reduceAdd, Int.reduceSub, Int.reduceBNe, Int.reduceBEq, apart, bnd, e3]
  refine call_ok hD rfl ?_
  simp only [evA, evT, Go.undef, aload, astore, afieldAddr, afield, aindex, aindexAddr, abuild, abuildSlice, amakeSlice, aslice, aext, alen, aminmax, minmaxGo, aappend, newsOf, buildCells, cutRows, reps, setCells, AV.cells, allOne, AV.one, Value.oneCell', AV.pure, allPure, AV.free, allFree, rowsFree, Nat.reduceBEq, Nat.reduceAdd, Nat.reduceMul, Nat.reduceSub, Nat.reduceLT, Nat.reduceLeDiff, Int.reduceToNat, reduceIte, reduceCtorEq, Int.reduceLT, Int.reduceLE, Nat.reduceEqDiff, Int.reduceEq, Int.reduceNeg, Int.reduceMul, Int.reduceAdd, Int.reduceSub, Int.reduceBNe, Int.reduceBEq, apart, bnd]
  refine call_ok (RTurn.ok (rP log k bits).1 (rP log k bits).2 _ hw3 hqi) rfl ?_
  simp only [evA, evT, Go.undef, aload, astore, afieldAddr, afield, aindex, aindexAddr, abuild, abuildSlice, amakeSlice, aslice, aext, alen, aminmax, minmaxGo, aappend, newsOf, buildCells, cutRows, reps, setCells, AV.cells, allOne, AV.one, Value.oneCell', AV.pure, allPure, AV.free, allFree, rowsFree, Nat.reduceBEq, Nat.reduceAdd, Nat.reduceMul, Nat.reduceSub, Nat.reduceLT, Nat.reduceLeDiff, Int.reduceToNat, reduceIte, reduceCtorEq, Int.reduceLT, Int.reduceLE, Nat.reduceEqDiff, Int.reduceEq, Int.reduceNeg, Int.reduceMul, Int.reduceAdd, Int.reduceSub, Int.reduceBNe, Int.reduceBEq, apart, bnd]
  refine call_ok (RConj.ok _ _ hw4) rfl ?_
  simp only [evA, evT, Go.undef, aload, astore, afieldAddr, afield, aindex, aindexAddr, abuild, abuildSlice, amakeSlice, aslice, aext, alen, aminmax, minmaxGo, aappend, newsOf, buildCells, cutRows, reps, setCells, AV.cells, allOne, AV.one, Value.oneCell', AV.pure, allPure, AV.free, allFree, rowsFree, Nat.reduceBEq, Nat.reduceAdd, Nat.reduceMul, Nat.reduceSub, Nat.reduceLT, Nat.reduceLeDiff, Int.reduceToNat, reduceIte, reduceCtorEq, Int.reduceLT, Int.reduceLE, Nat.reduceEqDiff, Int.reduceEq, Int.reduceNeg, Int.reduceMul, Int.reduceAdd, Int.reduceSub, Int.reduceBNe, Int.reduceBEq, apart, bnd, rW]
theorem alive7_n : rW 2 1 13 = (0, -8192) := by
  unfold rW rP ptV eV zV rR
  rw [inv_n, quarter_n]
  simp only [run_L]
  decide +kernel
end Go.Proofs.YtnnjjblgilibgaaV

import Derived.Test.YtfmhdfaelgkmcaaVrK
import Derived.Test.YtfmhdfaelgkmcaaVrL
/- The law RootsProduct answers true. -/
namespace Go.Proofs.YtfmhdfaelgkmcaaV
open Go Go.RowKit
set_option linter.unusedVariables false
set_option linter.unusedSimpArgs false
set_option maxRecDepth 100000
set_option maxHeartbeats 40000000
theorem fine5 : Fine Try.prog 5 := fun _ _ => by kernel_rfl
theorem RootsProduct.true (log0 k0 m0 bits0 : Int) : Ok Try.prog 5 [.int log0, .int k0, .int m0, .int bits0] (.bool true) := by
  obtain ⟨a1, a2, a3⟩ := into log0 5 (by decide) (by decide)
  obtain ⟨b1, b2, b3⟩ := into bits0 19 (by decide) (by decide)
  obtain ⟨k1, k2⟩ := small40 k0
  obtain ⟨m1, m2⟩ := small40 m0
  obtain ⟨log, hlog, hl⟩ : ∃ log : Nat, (log0.tmod 5 + 5).tmod 5 + 2 = (log : Int) ∧ 2 ≤ log ∧ log ≤ 6 := ⟨((log0.tmod 5 + 5).tmod 5 + 2).toNat, by omega⟩
  have hw : IntKind.i64.wrap ((log0.tmod 5 + 5).tmod 5 + 2) = (log : Int) := by rw [wr (by omega), hlog]
  obtain ⟨bits, hbits, hb⟩ : ∃ bits : Int, (bits0.tmod 19 + 19).tmod 19 + 12 = bits ∧ 12 ≤ bits ∧ bits ≤ 30 := ⟨(bits0.tmod 19 + 19).tmod 19 + 12, by omega⟩
  have hwb : IntKind.i64.wrap ((bits0.tmod 19 + 19).tmod 19 + 12) = bits := by rw [wr (by omega), hbits]
  have hb' : 0 ≤ bits ∧ bits ≤ 40 := by omega
  refine ok_of (X := fun _ => []) (Z := fun _ => false) (res := [ResultVar.tmp 8]) tok follows Try.func5 rfl rfl fine5 (by kernel_rfl) (by kernel_rfl) ?_
  simp only [evA, evT, Go.undef, aload, astore, afieldAddr, afield, aindex, aindexAddr, abuild, abuildSlice, amakeSlice, aslice, aext, alen, aminmax, minmaxGo, aappend, newsOf, buildCells, cutRows, reps, setCells, AV.cells, allOne, AV.one, Value.oneCell', AV.pure, allPure, AV.free, allFree, rowsFree, Nat.reduceBEq, Nat.reduceAdd, Nat.reduceMul, Nat.reduceSub, Nat.reduceLT, Nat.reduceLeDiff, Int.reduceToNat, reduceIte, reduceCtorEq, Int.reduceLT, Int.reduceLE, Nat.reduceEqDiff, Int.reduceEq, Int.reduceNeg, Int.reduceMul, Int.reduceAdd, Int.reduceSub, Int.reduceBNe, Int.reduceBEq, apart, bnd, a1, b1, hw, hwb]
  generalize hK : k0.tmod 1099511627776 = k at *
  generalize hM : m0.tmod 1099511627776 = m at *
  have e1 : IntKind.i64.wrap (k + m) = k + m := wr (by omega)
  have w1 := rW_le log k bits hl.2 hb'
  have w2 := rW_le log m bits hl.2 hb'
  have w3 := rW_le log (k + m) bits hl.2 hb'
  obtain ⟨⟨p1, p2⟩, p3, p4⟩ := rW_prod log k m bits hl.2 hb
  have hT : (2 : Int) ^ bits.toNat ≤ 1073741824 := by
    have h1 : (2 : Int) ^ bits.toNat ≤ 2 ^ 30 := pow_le (by omega)
    exact h1
  have hT0 := pow_pos bits.toNat
  refine call_ok (Root.ok log k bits hl hb') rfl ?_
  simp only [evA, evT, Go.undef, aload, astore, afieldAddr, afield, aindex, aindexAddr, abuild, abuildSlice, amakeSlice, aslice, aext, alen, aminmax, minmaxGo, aappend, newsOf, buildCells, cutRows, reps, setCells, AV.cells, allOne, AV.one, Value.oneCell', AV.pure, allPure, AV.free, allFree, rowsFree, Nat.reduceBEq, Nat.reduceAdd, Nat.reduceMul, Nat.reduceSub, Nat.reduceLT, Nat.reduceLeDiff, Int.reduceToNat, reduceIte, reduceCtorEq, Int.reduceLT, Int.reduceLE, Nat.reduceEqDiff, Int.reduceEq, Int.reduceNeg, Int.reduceMul, Int.reduceAdd, Int.reduceSub, Int.reduceBNe, Int.reduceBEq, apart, bnd]
  refine call_ok (Root.ok log m bits hl hb') rfl ?_
  simp only [evA, evT, Go.undef, aload, astore, afieldAddr, afield, aindex, aindexAddr, abuild, abuildSlice, amakeSlice, aslice, aext, alen, aminmax, minmaxGo, aappend, newsOf, buildCells, cutRows, reps, setCells, AV.cells, allOne, AV.one, Value.oneCell', AV.pure, allPure, AV.free, allFree, rowsFree, Nat.reduceBEq, Nat.reduceAdd, Nat.reduceMul, Nat.reduceSub, Nat.reduceLT, Nat.reduceLeDiff, Int.reduceToNat, reduceIte, reduceCtorEq, Int.reduceLT, Int.reduceLE, Nat.reduceEqDiff, Int.reduceEq, Int.reduceNeg, Int.reduceMul, Int.reduceAdd, Int.reduceSub, Int.reduceBNe, Int.reduceBEq, apart, bnd, e1]
  refine call_ok (Root.ok log (k + m) bits hl hb') rfl ?_
  simp only [evA, evT, Go.undef, aload, astore, afieldAddr, afield, aindex, aindexAddr, abuild, abuildSlice, amakeSlice, aslice, aext, alen, aminmax, minmaxGo, aappend, newsOf, buildCells, cutRows, reps, setCells, AV.cells, allOne, AV.one, Value.oneCell', AV.pure, allPure, AV.free, allFree, rowsFree, Nat.reduceBEq, Nat.reduceAdd, Nat.reduceMul, Nat.reduceSub, Nat.reduceLT, Nat.reduceLeDiff, Int.reduceToNat, reduceIte, reduceCtorEq, Int.reduceLT, Int.reduceLE, Nat.reduceEqDiff, Int.reduceEq, Int.reduceNeg, Int.reduceMul, Int.reduceAdd, Int.reduceSub, Int.reduceBNe, Int.reduceBEq, apart, bnd]
  refine call_ok (Times.ok _ _ _ _ (win_mono w1 (by omega)) (win_mono w2 (by omega))) rfl ?_
  simp only [evA, evT, Go.undef, aload, astore, afieldAddr, afield, aindex, aindexAddr, abuild, abuildSlice, amakeSlice, aslice, aext, alen, aminmax, minmaxGo, aappend, newsOf, buildCells, cutRows, reps, setCells, AV.cells, allOne, AV.one, Value.oneCell', AV.pure, allPure, AV.free, allFree, rowsFree, Nat.reduceBEq, Nat.reduceAdd, Nat.reduceMul, Nat.reduceSub, Nat.reduceLT, Nat.reduceLeDiff, Int.reduceToNat, reduceIte, reduceCtorEq, Int.reduceLT, Int.reduceLE, Nat.reduceEqDiff, Int.reduceEq, Int.reduceNeg, Int.reduceMul, Int.reduceAdd, Int.reduceSub, Int.reduceBNe, Int.reduceBEq, apart, bnd]
  refine call_ok alive7.ok rfl ?_
  generalize (rW log k bits).1 * (rW log m bits).1 - (rW log k bits).2 * (rW log m bits).2 = P at *
  generalize (rW log k bits).1 * (rW log m bits).2 + (rW log k bits).2 * (rW log m bits).1 = Q at *
  generalize (rW log (k + m) bits).1 = C at *
  generalize (rW log (k + m) bits).2 = D at *
  have hbb : (0 : Int) ≤ bits := by omega
  have hmin : min bits.toNat IntKind.i64.bits = bits.toNat := by
    have : IntKind.i64.bits = 64 := rfl
    omega
  unfold win at w3
  generalize hTT : (2 : Int) ^ bits.toNat = T at *
  have c1 := mul_abs (x := C) (y := T) (N := 1073741824) (M := 1073741824) (by omega) (by omega)
  have d1 := mul_abs (x := D) (y := T) (N := 1073741824) (M := 1073741824) (by omega) (by omega)
  have c2 : IntKind.i64.wrap (C * T) = C * T := wr (by omega)
  have d2 : IntKind.i64.wrap (D * T) = D * T := wr (by omega)
  have c3 : IntKind.i64.wrap (P - C * T) = P - C * T := wr (by omega)
  have d3 : IntKind.i64.wrap (Q - D * T) = Q - D * T := wr (by omega)
  have c4 : IntKind.i64.wrap (0 - (P - C * T)) = 0 - (P - C * T) := wr (by omega)
  have d4 : IntKind.i64.wrap (0 - (Q - D * T)) = 0 - (Q - D * T) := wr (by omega)
  have t4 : IntKind.i64.wrap (4 * T) = 4 * T := wr (by omega)
  have c5 : (if P - C * T < 0 - (P - C * T) then 0 - (P - C * T) else P - C * T) ≤ 4 * T := by split <;> omega
  have d5 : (if Q - D * T < 0 - (Q - D * T) then 0 - (Q - D * T) else Q - D * T) ≤ 4 * T := by split <;> omega
  simp only [evA, evT, Go.undef, aload, astore, afieldAddr, afield, aindex, aindexAddr, abuild, abuildSlice, amakeSlice, aslice, aext, alen, aminmax, minmaxGo, aappend, newsOf, buildCells, cutRows, reps, setCells, AV.cells, allOne, AV.one, Value.oneCell', AV.pure, allPure, AV.free, allFree, rowsFree, Nat.reduceBEq, Nat.reduceAdd, Nat.reduceMul, Nat.reduceSub, Nat.reduceLT, Nat.reduceLeDiff, Int.reduceToNat, reduceIte, reduceCtorEq, Int.reduceLT, Int.reduceLE, Nat.reduceEqDiff, Int.reduceEq, Int.reduceNeg, Int.reduceMul, Int.reduceAdd, Int.reduceSub, Int.reduceBNe, Int.reduceBEq, apart, bnd, hbb, hmin, hTT, c2, d2, c3, d3, c4, d4, t4, c5, d5]
end Go.Proofs.YtfmhdfaelgkmcaaV

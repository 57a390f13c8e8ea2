import Derived.Test.YtfemklaeonkidaaVfN
import Derived.Test.YtfemklaeonkidaaVpR
/- Contracts of the package two: a pair, the pairs' places. -/
namespace Go.Proofs.YtfemklaeonkidaaV
open Go Go.RowKit
set_option linter.unusedVariables false
set_option linter.unusedSimpArgs false
set_option maxRecDepth 100000
set_option maxHeartbeats 40000000
theorem fine54 : Fine Try.prog 54 := fun _ _ => by kernel_rfl
theorem fine55 : Fine Try.prog 55 := fun _ _ => by kernel_rfl
theorem fine56 : Fine Try.prog 56 := fun _ _ => by kernel_rfl
theorem fine77 : Fine Try.prog 77 := fun _ _ => by kernel_rfl
theorem fine92 : Fine Try.prog 92 := fun _ _ => by kernel_rfl
theorem fine74 : Fine Try.prog 74 := fun _ _ => by kernel_rfl
theorem fine75 : Fine Try.prog 75 := fun _ _ => by kernel_rfl
theorem settings2.ok (bits s mode : Int) : Ok Try.prog 54 [.int bits, .int s, .int mode] (.bool (decide ((0 ≤ bits ∧ bits ≤ 29) ∧ (0 ≤ s ∧ s ≤ 3) ∧ 0 ≤ mode ∧ mode ≤ 2))) := by
  refine ok_of (X := fun _ => []) (Z := fun _ => false) (res := [ResultVar.tmp 6]) tok follows Try.func54 rfl rfl fine54 (by kernel_rfl) (by kernel_rfl) ?_
  simp only [evA, evT, Go.undef, aload, astore, afieldAddr, afield, aindex, aindexAddr, abuild, abuildSlice, amakeSlice, aslice, aext, alen, aminmax, minmaxGo, aappend, newsOf, buildCells, cutRows, reps, setCells, AV.cells, allOne, AV.one, Value.oneCell', AV.pure, allPure, AV.free, allFree, rowsFree, Nat.reduceBEq, Nat.reduceAdd, Nat.reduceMul, Nat.reduceSub, Nat.reduceLT, Nat.reduceLeDiff, Int.reduceToNat, reduceIte, reduceCtorEq, Int.reduceLT, Int.reduceLE, Nat.reduceEqDiff, Int.reduceEq, Int.reduceNeg, Int.reduceMul, Int.reduceAdd, Int.reduceSub, Int.reduceBNe, Int.reduceBEq, apart, bnd]
  by_cases hm : 0 ≤ mode ∧ mode ≤ 2
  · refine call_ok (Shift.ok 0 0 mode (by omega) hm (by omega)) rfl ?_
    simp only [evA, evT, Go.undef, aload, astore, afieldAddr, afield, aindex, aindexAddr, abuild, abuildSlice, amakeSlice, aslice, aext, alen, aminmax, minmaxGo, aappend, newsOf, buildCells, cutRows, reps, setCells, AV.cells, allOne, AV.one, Value.oneCell', AV.pure, allPure, AV.free, allFree, rowsFree, Nat.reduceBEq, Nat.reduceAdd, Nat.reduceMul, Nat.reduceSub, Nat.reduceLT, Nat.reduceLeDiff, Int.reduceToNat, reduceIte, reduceCtorEq, Int.reduceLT, Int.reduceLE, Nat.reduceEqDiff, Int.reduceEq, Int.reduceNeg, Int.reduceMul, Int.reduceAdd, Int.reduceSub, Int.reduceBNe, Int.reduceBEq, apart, bnd, dec_t, dec_f]
    omega
  · refine call_ok (Shift.bad 0 0 mode (by omega)) rfl ?_
    simp only [evA, evT, Go.undef, aload, astore, afieldAddr, afield, aindex, aindexAddr, abuild, abuildSlice, amakeSlice, aslice, aext, alen, aminmax, minmaxGo, aappend, newsOf, buildCells, cutRows, reps, setCells, AV.cells, allOne, AV.one, Value.oneCell', AV.pure, allPure, AV.free, allFree, rowsFree, Nat.reduceBEq, Nat.reduceAdd, Nat.reduceMul, Nat.reduceSub, Nat.reduceLT, Nat.reduceLeDiff, Int.reduceToNat, reduceIte, reduceCtorEq, Int.reduceLT, Int.reduceLE, Nat.reduceEqDiff, Int.reduceEq, Int.reduceNeg, Int.reduceMul, Int.reduceAdd, Int.reduceSub, Int.reduceBNe, Int.reduceBEq, apart, bnd, dec_t, dec_f]
    omega
theorem narrow2.ok (m a b : Int) (hm : 0 ≤ m ∧ m ≤ 4611686018427387904) : Ok Try.prog 55 [cxA a b, .int m] (.bool (decide (win m a b))) := by
  have e1 : IntKind.i64.wrap (0 - m) = -m := by rw [wr (by omega)]; omega
  refine ok_of (X := fun _ => []) (Z := fun _ => false) (res := [ResultVar.tmp 4]) tok follows Try.func55 rfl rfl fine55 (by kernel_rfl) (by kernel_rfl) ?_
  simp only [evA, evT, Go.undef, aload, astore, afieldAddr, afield, aindex, aindexAddr, abuild, abuildSlice, amakeSlice, aslice, aext, alen, aminmax, minmaxGo, aappend, newsOf, buildCells, cutRows, reps, setCells, AV.cells, allOne, AV.one, Value.oneCell', AV.pure, allPure, AV.free, allFree, rowsFree, Nat.reduceBEq, Nat.reduceAdd, Nat.reduceMul, Nat.reduceSub, Nat.reduceLT, Nat.reduceLeDiff, Int.reduceToNat, reduceIte, reduceCtorEq, Int.reduceLT, Int.reduceLE, Nat.reduceEqDiff, Int.reduceEq, Int.reduceNeg, Int.reduceMul, Int.reduceAdd, Int.reduceSub, Int.reduceBNe, Int.reduceBEq, apart, bnd, e1, dec_t, dec_f, dec_d, win]
  omega
theorem tPass1.ok (a b : Int) : Ok Try.prog 74 [cxA a b] (.bool (decide (¬ win 2147483648 a b))) := by
  refine ok_of (X := fun _ => []) (Z := fun _ => false) (res := [ResultVar.tmp 2]) tok follows Try.func74 rfl rfl fine74 (by kernel_rfl) (by kernel_rfl) ?_
  simp only [evA, evT, Go.undef, aload, astore, afieldAddr, afield, aindex, aindexAddr, abuild, abuildSlice, amakeSlice, aslice, aext, alen, aminmax, minmaxGo, aappend, newsOf, buildCells, cutRows, reps, setCells, AV.cells, allOne, AV.one, Value.oneCell', AV.pure, allPure, AV.free, allFree, rowsFree, Nat.reduceBEq, Nat.reduceAdd, Nat.reduceMul, Nat.reduceSub, Nat.reduceLT, Nat.reduceLeDiff, Int.reduceToNat, reduceIte, reduceCtorEq, Int.reduceLT, Int.reduceLE, Nat.reduceEqDiff, Int.reduceEq, Int.reduceNeg, Int.reduceMul, Int.reduceAdd, Int.reduceSub, Int.reduceBNe, Int.reduceBEq, apart, bnd]
  refine call_ok (narrow2.ok 2147483648 a b (by decide)) rfl ?_
  simp only [evA, evT, Go.undef, aload, astore, afieldAddr, afield, aindex, aindexAddr, abuild, abuildSlice, amakeSlice, aslice, aext, alen, aminmax, minmaxGo, aappend, newsOf, buildCells, cutRows, reps, setCells, AV.cells, allOne, AV.one, Value.oneCell', AV.pure, allPure, AV.free, allFree, rowsFree, Nat.reduceBEq, Nat.reduceAdd, Nat.reduceMul, Nat.reduceSub, Nat.reduceLT, Nat.reduceLeDiff, Int.reduceToNat, reduceIte, reduceCtorEq, Int.reduceLT, Int.reduceLE, Nat.reduceEqDiff, Int.reduceEq, Int.reduceNeg, Int.reduceMul, Int.reduceAdd, Int.reduceSub, Int.reduceBNe, Int.reduceBEq, apart, bnd, decide_not]
theorem tPass2.ok (a b bits : Int) (hb : 0 ≤ bits ∧ bits ≤ 29) : Ok Try.prog 75 [cxA a b, .box [.int bits] 0] (.bool (decide (¬ win (2 ^ bits.toNat) a b))) := by
  have h := pow29 hb
  have h0 := hb.1
  refine ok_of (X := fun _ => []) (Z := fun _ => false) (res := [ResultVar.tmp 3]) tok follows Try.func75 rfl rfl fine75 (by kernel_rfl) (by kernel_rfl) ?_
  simp only [evA, evT, Go.undef, aload, astore, afieldAddr, afield, aindex, aindexAddr, abuild, abuildSlice, amakeSlice, aslice, aext, alen, aminmax, minmaxGo, aappend, newsOf, buildCells, cutRows, reps, setCells, AV.cells, allOne, AV.one, Value.oneCell', AV.pure, allPure, AV.free, allFree, rowsFree, Nat.reduceBEq, Nat.reduceAdd, Nat.reduceMul, Nat.reduceSub, Nat.reduceLT, Nat.reduceLeDiff, Int.reduceToNat, reduceIte, reduceCtorEq, Int.reduceLT, Int.reduceLE, Nat.reduceEqDiff, Int.reduceEq, Int.reduceNeg, Int.reduceMul, Int.reduceAdd, Int.reduceSub, Int.reduceBNe, Int.reduceBEq, apart, bnd, one29 hb, h0]
  refine call_ok (narrow2.ok (2 ^ bits.toNat) a b (by omega)) rfl ?_
  simp only [evA, evT, Go.undef, aload, astore, afieldAddr, afield, aindex, aindexAddr, abuild, abuildSlice, amakeSlice, aslice, aext, alen, aminmax, minmaxGo, aappend, newsOf, buildCells, cutRows, reps, setCells, AV.cells, allOne, AV.one, Value.oneCell', AV.pure, allPure, AV.free, allFree, rowsFree, Nat.reduceBEq, Nat.reduceAdd, Nat.reduceMul, Nat.reduceSub, Nat.reduceLT, Nat.reduceLeDiff, Int.reduceToNat, reduceIte, reduceCtorEq, Int.reduceLT, Int.reduceLE, Nat.reduceEqDiff, Int.reduceEq, Int.reduceNeg, Int.reduceMul, Int.reduceAdd, Int.reduceSub, Int.reduceBNe, Int.reduceBEq, apart, bnd, decide_not]
/-- A pair's sum, and its difference. -/
def tU (bits s mode : Int) (a b w : Int × Int) : Int × Int := (rsh (a.1 * 2 ^ bits.toNat + (b.1 * w.1 - b.2 * w.2)) (bits + s) mode, rsh (a.2 * 2 ^ bits.toNat + (b.1 * w.2 + b.2 * w.1)) (bits + s) mode)
def tD (bits s mode : Int) (a b w : Int × Int) : Int × Int := (rsh (a.1 * 2 ^ bits.toNat - (b.1 * w.1 - b.2 * w.2)) (bits + s) mode, rsh (a.2 * 2 ^ bits.toNat - (b.1 * w.2 + b.2 * w.1)) (bits + s) mode)
theorem pair.ok (bits s mode : Int) (a b w : Int × Int) (hset : setP bits s mode) (h0 : win 2147483648 a.1 a.2) (h1 : win 2147483648 b.1 b.2) (g : win (2 ^ bits.toNat) w.1 w.2) :
    Ok Try.prog 56 [cxA a.1 a.2, cxA b.1 b.2, cxA w.1 w.2, .int bits, .int s, .int mode] (.tup [cxA (tU bits s mode a b w).1 (tU bits s mode a b w).2, cxA (tD bits s mode a b w).1 (tD bits s mode a b w).2]) := by
  have hp := pow29 hset.1
  obtain ⟨e1, e1'⟩ := shl29 (a := a.1) hset.1 (by unfold win at h0; omega)
  obtain ⟨e2, e2'⟩ := shl29 (a := a.2) hset.1 (by unfold win at h0; omega)
  have k1 : win 1073741824 w.1 w.2 := win_mono g (by omega)
  have hb0 := hset.1.1
  have e3 : IntKind.i64.wrap (bits + s) = bits + s := wr (by omega)
  have hbs : 0 ≤ bits + s ∧ bits + s ≤ 62 := by omega
  have w1 := times_win h1 g hp
  unfold win at w1
  have z1 : IntKind.i64.wrap (a.1 * 2 ^ bits.toNat + (b.1 * w.1 - b.2 * w.2)) = a.1 * 2 ^ bits.toNat + (b.1 * w.1 - b.2 * w.2) := wr (by omega)
  have z2 : IntKind.i64.wrap (a.2 * 2 ^ bits.toNat + (b.1 * w.2 + b.2 * w.1)) = a.2 * 2 ^ bits.toNat + (b.1 * w.2 + b.2 * w.1) := wr (by omega)
  have z3 : IntKind.i64.wrap (a.1 * 2 ^ bits.toNat - (b.1 * w.1 - b.2 * w.2)) = a.1 * 2 ^ bits.toNat - (b.1 * w.1 - b.2 * w.2) := wr (by omega)
  have z4 : IntKind.i64.wrap (a.2 * 2 ^ bits.toNat - (b.1 * w.2 + b.2 * w.1)) = a.2 * 2 ^ bits.toNat - (b.1 * w.2 + b.2 * w.1) := wr (by omega)
  refine ok_of (X := fun r => if Nat.beq r 4 then [[], [], [.tmp 16, .tmp 18], [.tmp 16, .tmp 18]] else []) (Z := fun _ => false) (res := [ResultVar.cell 12 37, ResultVar.cell 13 37]) tok follows Try.func56 rfl rfl fine56 (by kernel_rfl) (by kernel_rfl) ?_
  simp only [evA, evT, Go.undef, aload, astore, afieldAddr, afield, aindex, aindexAddr, abuild, abuildSlice, amakeSlice, aslice, aext, alen, aminmax, minmaxGo, aappend, newsOf, buildCells, cutRows, reps, setCells, AV.cells, allOne, AV.one, Value.oneCell', AV.pure, allPure, AV.free, allFree, rowsFree, Nat.reduceBEq, Nat.reduceAdd, Nat.reduceMul, Nat.reduceSub, Nat.reduceLT, Nat.reduceLeDiff, Int.reduceToNat, reduceIte, reduceCtorEq, Int.reduceLT, Int.reduceLE, Nat.reduceEqDiff, Int.reduceEq, Int.reduceNeg, Int.reduceMul, Int.reduceAdd, Int.reduceSub, Int.reduceBNe, Int.reduceBEq, apart, bnd]
  refine call_ok (Times.ok _ _ _ _ h1 k1) rfl ?_
  simp only [evA, evT, Go.undef, aload, astore, afieldAddr, afield, aindex, aindexAddr, abuild, abuildSlice, amakeSlice, aslice, aext, alen, aminmax, minmaxGo, aappend, newsOf, buildCells, cutRows, reps, setCells, AV.cells, allOne, AV.one, Value.oneCell', AV.pure, allPure, AV.free, allFree, rowsFree, Nat.reduceBEq, Nat.reduceAdd, Nat.reduceMul, Nat.reduceSub, Nat.reduceLT, Nat.reduceLeDiff, Int.reduceToNat, reduceIte, reduceCtorEq, Int.reduceLT, Int.reduceLE, Nat.reduceEqDiff, Int.reduceEq, Int.reduceNeg, Int.reduceMul, Int.reduceAdd, Int.reduceSub, Int.reduceBNe, Int.reduceBEq, apart, bnd, e1, e2, e3, hb0, z1, z2]
  refine call_ok (cxShift.ok _ _ _ _ hbs hset.2.2 (by unfold in64; omega) (by unfold in64; omega)) rfl ?_
  simp only [evA, evT, Go.undef, aload, astore, afieldAddr, afield, aindex, aindexAddr, abuild, abuildSlice, amakeSlice, aslice, aext, alen, aminmax, minmaxGo, aappend, newsOf, buildCells, cutRows, reps, setCells, AV.cells, allOne, AV.one, Value.oneCell', AV.pure, allPure, AV.free, allFree, rowsFree, Nat.reduceBEq, Nat.reduceAdd, Nat.reduceMul, Nat.reduceSub, Nat.reduceLT, Nat.reduceLeDiff, Int.reduceToNat, reduceIte, reduceCtorEq, Int.reduceLT, Int.reduceLE, Nat.reduceEqDiff, Int.reduceEq, Int.reduceNeg, Int.reduceMul, Int.reduceAdd, Int.reduceSub, Int.reduceBNe, Int.reduceBEq, apart, bnd, e1, e2, e3, hb0, z3, z4]
  refine call_ok (cxShift.ok _ _ _ _ hbs hset.2.2 (by unfold in64; omega) (by unfold in64; omega)) rfl ?_
  simp only [evA, evT, Go.undef, aload, astore, afieldAddr, afield, aindex, aindexAddr, abuild, abuildSlice, amakeSlice, aslice, aext, alen, aminmax, minmaxGo, aappend, newsOf, buildCells, cutRows, reps, setCells, AV.cells, allOne, AV.one, Value.oneCell', AV.pure, allPure, AV.free, allFree, rowsFree, Nat.reduceBEq, Nat.reduceAdd, Nat.reduceMul, Nat.reduceSub, Nat.reduceLT, Nat.reduceLeDiff, Int.reduceToNat, reduceIte, reduceCtorEq, Int.reduceLT, Int.reduceLE, Nat.reduceEqDiff, Int.reduceEq, Int.reduceNeg, Int.reduceMul, Int.reduceAdd, Int.reduceSub, Int.reduceBNe, Int.reduceBEq, apart, bnd, tU, tD]
theorem pairs.ok (n h : Int) : Ok Try.prog 77 [.int n, .int h] (.fn 92 [.box [.int n] 0, .box [.int h] 0]) := by
  refine ok_of (X := fun _ => []) (Z := fun _ => false) (res := [ResultVar.tmp 4]) tok follows Try.func77 rfl rfl fine77 (by kernel_rfl) (by kernel_rfl) ?_
  simp only [evA, evT, Go.undef, aload, astore, afieldAddr, afield, aindex, aindexAddr, abuild, abuildSlice, amakeSlice, aslice, aext, alen, aminmax, minmaxGo, aappend, newsOf, buildCells, cutRows, reps, setCells, AV.cells, allOne, AV.one, Value.oneCell', AV.pure, allPure, AV.free, allFree, rowsFree, Nat.reduceBEq, Nat.reduceAdd, Nat.reduceMul, Nat.reduceSub, Nat.reduceLT, Nat.reduceLeDiff, Int.reduceToNat, reduceIte, reduceCtorEq, Int.reduceLT, Int.reduceLE, Nat.reduceEqDiff, Int.reduceEq, Int.reduceNeg, Int.reduceMul, Int.reduceAdd, Int.reduceSub, Int.reduceBNe, Int.reduceBEq, apart, bnd]
theorem seq_mono {α : Type} {F : Fence} {n : Nat} {P : Program} {g : Nat} {lb : Array Value} {encs : α → Array Value} {Kp Kp' : World → World → Prop} {S Sp : List α → Prop} {N : Nat} {w : World} (h : SeqStopsK F n P g lb encs Kp S Sp N w) (hk : ∀ A B, Kp' A B → Kp A B) : SeqStopsK F n P g lb encs Kp' S Sp N w :=
  fun l J Jx W hW hJ hJx hY h0 => h l J Jx W hW hJ hJx (fun pre x W1 hj hl => by
    obtain ⟨fn, tmps, asg, body, hy, hR⟩ := hY pre x W1 hj hl
    exact ⟨fn, tmps, asg, body, hy, hR.mono fun e W' he => he.imp (fun q => ⟨q.1, q.2.1, hk _ _ q.2.2⟩) id⟩) h0
theorem rep_box1 {w : World} {N : Nat → Prop} {z : Int} {v : Value} (h : Rep w (fun _ => none) N (.box [.int z] 0) v) : ∃ b o, v = .pointer (some ⟨b, o, none⟩) ∧ N b ∧ w.cell? ⟨b, o, none⟩ = some (.int .i64 z) := by
  cases h with
  | box _ _ b o cell hN hw hr =>
    refine ⟨b, o, rfl, hN, ?_⟩
    have h1 := hw 0 (by simp)
    have h2 := (hr 0 _ rfl).of_raw
    rw [h2] at h1
    exact h1
theorem pairs.seq {n h : Int} (hk : halfOk n h) (hn0 : 0 ≤ n) : OkSeq Try.prog 92 [.box [.int n] 0, .box [.int h] 0] (fun x : PairAt n h => [.int x.i, .int x.j]) (pairsTo hk n.toNat (by omega)) := by
  refine ⟨fine92, fun _ => rfl, fun w N vs hN hl hr m hm => ?_⟩
  match vs, hl with
  | [v0, v1], _ =>
    obtain ⟨A, o1, rfl, hA, ha⟩ := rep_box1 (hr 0 _ rfl)
    obtain ⟨B, o2, rfl, hB, hb⟩ := rep_box1 (hr 1 _ rfl)
    refine ⟨n.toNat, seq_mono (two_pairs.stops m hm n h hk hn0 A B o1 o2 w ha hb) fun W W' hkp => ⟨fun v hv => ?_, fun v hv => ?_⟩⟩
    · exact (World.cell?_of_block (w := W) (w' := W') (a := ⟨A, o1, none⟩) (hkp A hA)).trans hv
    · exact (World.cell?_of_block (w := W) (w' := W') (a := ⟨B, o2, none⟩) (hkp B hB)).trans hv
end Go.Proofs.YtfemklaeonkidaaV

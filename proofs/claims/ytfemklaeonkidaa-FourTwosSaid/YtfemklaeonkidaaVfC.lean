import Derived.Test.YtfemklaeonkidaaVfB
/- Contracts of the functions of the package four: what a quad is. -/
namespace Go.Proofs.YtfemklaeonkidaaV
open Go Go.RowKit
set_option linter.unusedVariables false
set_option linter.unusedSimpArgs false
set_option maxRecDepth 100000
set_option maxHeartbeats 40000000
theorem fine66 : Fine Try.prog 66 := fun _ _ => by kernel_rfl
theorem fine68 : Fine Try.prog 68 := fun _ _ => by kernel_rfl
theorem fine90 : Fine Try.prog 90 := fun _ _ => by kernel_rfl
theorem fine71 : Fine Try.prog 71 := fun _ _ => by kernel_rfl
theorem dec_t {p : Prop} [Decidable p] : (AV.raw (Value.bool true) = AV.bool (decide p)) = p := by simp
theorem dec_f {p : Prop} [Decidable p] : (AV.raw (Value.bool false) = AV.bool (decide p)) = ¬ p := by simp
theorem dec_d {p q : Prop} [Decidable p] [Decidable q] : (AV.raw (Value.bool (decide p)) = AV.bool (decide q)) = (p ↔ q) := by simp
theorem turns.ok (inv : Bool) : Ok Try.prog 90 [.bool inv] (.agg [.int 0, .int (if inv = true then 1 else 3), .int 2, .int (if inv = true then 3 else 1)]) := by
  refine ok_of (X := fun _ => []) (Z := fun _ => false) (res := [ResultVar.cell 2 92]) tok follows Try.func90 rfl rfl fine90 (by kernel_rfl) (by kernel_rfl) ?_
  cases inv <;> simp only [evA, evT, Go.undef, aload, astore, afieldAddr, afield, aindex, aindexAddr, abuild, abuildSlice, amakeSlice, aslice, aext, alen, aminmax, minmaxGo, aappend, newsOf, buildCells, cutRows, reps, setCells, AV.cells, allOne, AV.one, Value.oneCell', AV.pure, allPure, AV.free, allFree, rowsFree, Nat.reduceBEq, Nat.reduceAdd, Nat.reduceMul, Nat.reduceSub, Nat.reduceLT, Nat.reduceLeDiff, Int.reduceToNat, reduceIte, reduceCtorEq, Int.reduceLT, Int.reduceLE, Nat.reduceEqDiff, Int.reduceEq, Int.reduceNeg, Int.reduceMul, Int.reduceAdd, Int.reduceSub, Int.reduceBNe, Int.reduceBEq, apart, bnd]
theorem settings4.ok (bits s mode : Int) : Ok Try.prog 66 [.int bits, .int s, .int mode] (.bool (decide ((0 ≤ bits ∧ bits ≤ 29) ∧ (0 ≤ s ∧ s ≤ 3) ∧ 0 ≤ mode ∧ mode ≤ 2))) := by
  refine ok_of (X := fun _ => []) (Z := fun _ => false) (res := [ResultVar.tmp 6]) tok follows Try.func66 rfl rfl fine66 (by kernel_rfl) (by kernel_rfl) ?_
  simp only [evA, evT, Go.undef, aload, astore, afieldAddr, afield, aindex, aindexAddr, abuild, abuildSlice, amakeSlice, aslice, aext, alen, aminmax, minmaxGo, aappend, newsOf, buildCells, cutRows, reps, setCells, AV.cells, allOne, AV.one, Value.oneCell', AV.pure, allPure, AV.free, allFree, rowsFree, Nat.reduceBEq, Nat.reduceAdd, Nat.reduceMul, Nat.reduceSub, Nat.reduceLT, Nat.reduceLeDiff, Int.reduceToNat, reduceIte, reduceCtorEq, Int.reduceLT, Int.reduceLE, Nat.reduceEqDiff, Int.reduceEq, Int.reduceNeg, Int.reduceMul, Int.reduceAdd, Int.reduceSub, Int.reduceBNe, Int.reduceBEq, apart, bnd]
  by_cases hm : 0 ≤ mode ∧ mode ≤ 2
  · refine call_ok (Shift.ok 0 0 mode (by omega) hm (by omega)) rfl ?_
    simp only [evA, evT, Go.undef, aload, astore, afieldAddr, afield, aindex, aindexAddr, abuild, abuildSlice, amakeSlice, aslice, aext, alen, aminmax, minmaxGo, aappend, newsOf, buildCells, cutRows, reps, setCells, AV.cells, allOne, AV.one, Value.oneCell', AV.pure, allPure, AV.free, allFree, rowsFree, Nat.reduceBEq, Nat.reduceAdd, Nat.reduceMul, Nat.reduceSub, Nat.reduceLT, Nat.reduceLeDiff, Int.reduceToNat, reduceIte, reduceCtorEq, Int.reduceLT, Int.reduceLE, Nat.reduceEqDiff, Int.reduceEq, Int.reduceNeg, Int.reduceMul, Int.reduceAdd, Int.reduceSub, Int.reduceBNe, Int.reduceBEq, apart, bnd, dec_t, dec_f]
    omega
  · refine call_ok (Shift.bad 0 0 mode (by omega)) rfl ?_
    simp only [evA, evT, Go.undef, aload, astore, afieldAddr, afield, aindex, aindexAddr, abuild, abuildSlice, amakeSlice, aslice, aext, alen, aminmax, minmaxGo, aappend, newsOf, buildCells, cutRows, reps, setCells, AV.cells, allOne, AV.one, Value.oneCell', AV.pure, allPure, AV.free, allFree, rowsFree, Nat.reduceBEq, Nat.reduceAdd, Nat.reduceMul, Nat.reduceSub, Nat.reduceLT, Nat.reduceLeDiff, Int.reduceToNat, reduceIte, reduceCtorEq, Int.reduceLT, Int.reduceLE, Nat.reduceEqDiff, Int.reduceEq, Int.reduceNeg, Int.reduceMul, Int.reduceAdd, Int.reduceSub, Int.reduceBNe, Int.reduceBEq, apart, bnd, dec_t, dec_f]
    omega
theorem narrow4.ok (m a b : Int) (hm : 0 ≤ m ∧ m ≤ 4611686018427387904) : Ok Try.prog 68 [cxA a b, .int m] (.bool (decide (win m a b))) := by
  have e1 : IntKind.i64.wrap (0 - m) = -m := by rw [wr (by omega)]; omega
  refine ok_of (X := fun _ => []) (Z := fun _ => false) (res := [ResultVar.tmp 4]) tok follows Try.func68 rfl rfl fine68 (by kernel_rfl) (by kernel_rfl) ?_
  simp only [evA, evT, Go.undef, aload, astore, afieldAddr, afield, aindex, aindexAddr, abuild, abuildSlice, amakeSlice, aslice, aext, alen, aminmax, minmaxGo, aappend, newsOf, buildCells, cutRows, reps, setCells, AV.cells, allOne, AV.one, Value.oneCell', AV.pure, allPure, AV.free, allFree, rowsFree, Nat.reduceBEq, Nat.reduceAdd, Nat.reduceMul, Nat.reduceSub, Nat.reduceLT, Nat.reduceLeDiff, Int.reduceToNat, reduceIte, reduceCtorEq, Int.reduceLT, Int.reduceLE, Nat.reduceEqDiff, Int.reduceEq, Int.reduceNeg, Int.reduceMul, Int.reduceAdd, Int.reduceSub, Int.reduceBNe, Int.reduceBEq, apart, bnd, e1, dec_t, dec_f, dec_d, win]
  omega
/-- Cells of four numbers. -/
abbrev arr4 (a0 b0 a1 b1 a2 b2 a3 b3 : Int) : AV := .agg [.int a0, .int b0, .int a1, .int b1, .int a2, .int b2, .int a3, .int b3]
theorem tRe_near {m x y n : Int} (h : win m x y) (h0 : 0 ≤ m) : -m ≤ tRe x y n ∧ tRe x y n ≤ m := by
  unfold win at h
  unfold tRe
  split
  · omega
  · split
    · omega
    · split <;> omega
theorem tIm_near {m x y n : Int} (h : win m x y) (h0 : 0 ≤ m) : -m ≤ tIm x y n ∧ tIm x y n ≤ m := by
  unfold win at h
  unfold tIm
  split
  · omega
  · split
    · omega
    · split <;> omega
theorem pow29 {bits : Int} (hb : 0 ≤ bits ∧ bits ≤ 29) : 1 ≤ (2 : Int) ^ bits.toNat ∧ (2 : Int) ^ bits.toNat ≤ 536870912 := by
  have := pow_pos bits.toNat
  have : (2 : Int) ^ bits.toNat ≤ 2 ^ 29 := pow_le (by omega)
  omega
theorem shl29 {a bits : Int} (hb : 0 ≤ bits ∧ bits ≤ 29) (ha : -2147483648 ≤ a ∧ a ≤ 2147483648) : IntKind.i64.wrap (a * 2 ^ min bits.toNat IntKind.i64.bits) = a * 2 ^ bits.toNat ∧ (-1152921504606846976 ≤ a * 2 ^ bits.toNat ∧ a * 2 ^ bits.toNat ≤ 1152921504606846976) := by
  have h := pow29 hb
  have g := mul_near (p := 2147483648) (q := 536870912) (a := a) (b := 2 ^ bits.toNat) (by decide) (by omega) (by omega)
  refine ⟨?_, by omega⟩
  rw [sh_min (by omega)]
  exact wr (by omega)
theorem times_win {m a b u v : Int} (h : win 2147483648 a b) (g : win m u v) (hp : 1 ≤ m ∧ m ≤ 536870912) : win 2305843009213693952 (a * u - b * v) (a * v + b * u) := by
  unfold win at *
  have g1 := mul_near (p := 2147483648) (q := 536870912) (a := a) (b := u) (by decide) (by omega) (by omega)
  have g2 := mul_near (p := 2147483648) (q := 536870912) (a := b) (b := v) (by decide) (by omega) (by omega)
  have g3 := mul_near (p := 2147483648) (q := 536870912) (a := a) (b := v) (by decide) (by omega) (by omega)
  have g4 := mul_near (p := 2147483648) (q := 536870912) (a := b) (b := u) (by decide) (by omega) (by omega)
  omega
theorem wrap_in {x : Int} : in64 (IntKind.i64.wrap x) := by
  unfold in64
  rw [IntKind.wrap_i64]
  omega
/-- A quad's number q, not shifted. -/
def qRe (x0 y0 x1 y1 x2 y2 x3 y3 : Int) (inv : Bool) (q : Int) : Int := tRe x0 y0 0 + tRe x1 y1 (if inv = true then q else 0 - q) + tRe x2 y2 (2 * q) + tRe x3 y3 (0 - if inv = true then q else 0 - q)
def qIm (x0 y0 x1 y1 x2 y2 x3 y3 : Int) (inv : Bool) (q : Int) : Int := tIm x0 y0 0 + tIm x1 y1 (if inv = true then q else 0 - q) + tIm x2 y2 (2 * q) + tIm x3 y3 (0 - if inv = true then q else 0 - q)
theorem q_re {x0 y0 x1 y1 x2 y2 x3 y3 n0 n1 n2 n3 : Int} (w0 : win 1152921504606846976 x0 y0) (w1 : win 2305843009213693952 x1 y1) (w2 : win 2305843009213693952 x2 y2) (w3 : win 2305843009213693952 x3 y3) : IntKind.i64.wrap (IntKind.i64.wrap (IntKind.i64.wrap (IntKind.i64.wrap (0 + tRe x0 y0 n0) + tRe x1 y1 n1) + tRe x2 y2 n2) + tRe x3 y3 n3) = tRe x0 y0 n0 + tRe x1 y1 n1 + tRe x2 y2 n2 + tRe x3 y3 n3 := by
  have g0 := tRe_near (n := n0) w0 (by decide)
  have g1 := tRe_near (n := n1) w1 (by decide)
  have g2 := tRe_near (n := n2) w2 (by decide)
  have g3 := tRe_near (n := n3) w3 (by decide)
  rw [Int.zero_add, wr (x := tRe x0 y0 n0) (by omega), wr (x := tRe x0 y0 n0 + tRe x1 y1 n1) (by omega), wr (x := tRe x0 y0 n0 + tRe x1 y1 n1 + tRe x2 y2 n2) (by omega), wr (by omega)]
theorem q_im {x0 y0 x1 y1 x2 y2 x3 y3 n0 n1 n2 n3 : Int} (w0 : win 1152921504606846976 x0 y0) (w1 : win 2305843009213693952 x1 y1) (w2 : win 2305843009213693952 x2 y2) (w3 : win 2305843009213693952 x3 y3) : IntKind.i64.wrap (IntKind.i64.wrap (IntKind.i64.wrap (IntKind.i64.wrap (0 + tIm x0 y0 n0) + tIm x1 y1 n1) + tIm x2 y2 n2) + tIm x3 y3 n3) = tIm x0 y0 n0 + tIm x1 y1 n1 + tIm x2 y2 n2 + tIm x3 y3 n3 := by
  have g0 := tIm_near (n := n0) w0 (by decide)
  have g1 := tIm_near (n := n1) w1 (by decide)
  have g2 := tIm_near (n := n2) w2 (by decide)
  have g3 := tIm_near (n := n3) w3 (by decide)
  rw [Int.zero_add, wr (x := tIm x0 y0 n0) (by omega), wr (x := tIm x0 y0 n0 + tIm x1 y1 n1) (by omega), wr (x := tIm x0 y0 n0 + tIm x1 y1 n1 + tIm x2 y2 n2) (by omega), wr (by omega)]
/-- Four numbers' quad. -/
def qV (inv : Bool) (bits s mode a0 b0 a1 b1 a2 b2 a3 b3 u1 v1 u2 v2 u3 v3 : Int) (q : Int) : Int × Int :=
  (rsh (qRe (a0 * 2 ^ bits.toNat) (b0 * 2 ^ bits.toNat) (a1 * u1 - b1 * v1) (a1 * v1 + b1 * u1) (a2 * u2 - b2 * v2) (a2 * v2 + b2 * u2) (a3 * u3 - b3 * v3) (a3 * v3 + b3 * u3) inv q) (bits + s) mode,
   rsh (qIm (a0 * 2 ^ bits.toNat) (b0 * 2 ^ bits.toNat) (a1 * u1 - b1 * v1) (a1 * v1 + b1 * u1) (a2 * u2 - b2 * v2) (a2 * v2 + b2 * u2) (a3 * u3 - b3 * v3) (a3 * v3 + b3 * u3) inv q) (bits + s) mode)
abbrev quadAV (f : Int → Int × Int) : AV := arr4 (f 0).1 (f 0).2 (f 1).1 (f 1).2 (f 2).1 (f 2).2 (f 3).1 (f 3).2
theorem quad.ok (inv : Bool) (bits s mode a0 b0 a1 b1 a2 b2 a3 b3 u0 v0 u1 v1 u2 v2 u3 v3 : Int) (hb : 0 ≤ bits ∧ bits ≤ 29) (hs : 0 ≤ s ∧ s ≤ 3) (hm : 0 ≤ mode ∧ mode ≤ 2) (h0 : win 2147483648 a0 b0) (h1 : win 2147483648 a1 b1) (h2 : win 2147483648 a2 b2) (h3 : win 2147483648 a3 b3)
    (g1 : win (2 ^ bits.toNat) u1 v1) (g2 : win (2 ^ bits.toNat) u2 v2) (g3 : win (2 ^ bits.toNat) u3 v3) :
    Ok Try.prog 71 [arr4 a0 b0 a1 b1 a2 b2 a3 b3, arr4 u0 v0 u1 v1 u2 v2 u3 v3, .int bits, .int s, .int mode, .bool inv] (quadAV (qV inv bits s mode a0 b0 a1 b1 a2 b2 a3 b3 u1 v1 u2 v2 u3 v3)) := by
  have hp := pow29 hb
  obtain ⟨e1, e1'⟩ := shl29 (a := a0) hb (by unfold win at h0; omega)
  obtain ⟨e2, e2'⟩ := shl29 (a := b0) hb (by unfold win at h0; omega)
  have hbn : ¬ bits < 0 := by omega
  have k1 : win 1073741824 u1 v1 := by unfold win at g1 ⊢; omega
  have k2 : win 1073741824 u2 v2 := by unfold win at g2 ⊢; omega
  have k3 : win 1073741824 u3 v3 := by unfold win at g3 ⊢; omega
  have hb0 := hb.1
  have e3 : IntKind.i64.wrap (bits + s) = bits + s := wr (by omega)
  have hbs : 0 ≤ bits + s ∧ bits + s ≤ 62 := by omega
  have w0 : win 2305843009213693952 (a0 * 2 ^ bits.toNat) (b0 * 2 ^ bits.toNat) := by unfold win; omega
  have w1 := times_win h1 g1 hp
  have w2 := times_win h2 g2 hp
  have w3 := times_win h3 g3 hp
  refine ok_of (X := fun r => if Nat.beq r 16 then [[], [], [], [], [], [], [], [], [], [], [], [.tmp 78]] else []) (Z := fun _ => false) (res := [ResultVar.cell 12 52]) tok follows Try.func71 rfl rfl fine71 (by kernel_rfl) (by kernel_rfl) ?_
  simp only [evA, evT, Go.undef, aload, astore, afieldAddr, afield, aindex, aindexAddr, abuild, abuildSlice, amakeSlice, aslice, aext, alen, aminmax, minmaxGo, aappend, newsOf, buildCells, cutRows, reps, setCells, AV.cells, allOne, AV.one, Value.oneCell', AV.pure, allPure, AV.free, allFree, rowsFree, Nat.reduceBEq, Nat.reduceAdd, Nat.reduceMul, Nat.reduceSub, Nat.reduceLT, Nat.reduceLeDiff, Int.reduceToNat, reduceIte, reduceCtorEq, Int.reduceLT, Int.reduceLE, Nat.reduceEqDiff, Int.reduceEq, Int.reduceNeg, Int.reduceMul, Int.reduceAdd, Int.reduceSub, Int.reduceBNe, Int.reduceBEq, apart, bnd, e1, e2, hb0]
  refine ⟨4, l_succ ?_⟩
  simp only [evA, evT, Go.undef, aload, astore, afieldAddr, afield, aindex, aindexAddr, abuild, abuildSlice, amakeSlice, aslice, aext, alen, aminmax, minmaxGo, aappend, newsOf, buildCells, cutRows, reps, setCells, AV.cells, allOne, AV.one, Value.oneCell', AV.pure, allPure, AV.free, allFree, rowsFree, Nat.reduceBEq, Nat.reduceAdd, Nat.reduceMul, Nat.reduceSub, Nat.reduceLT, Nat.reduceLeDiff, Int.reduceToNat, reduceIte, reduceCtorEq, Int.reduceLT, Int.reduceLE, Nat.reduceEqDiff, Int.reduceEq, Int.reduceNeg, Int.reduceMul, Int.reduceAdd, Int.reduceSub, Int.reduceBNe, Int.reduceBEq, apart, bnd]
  refine call_ok (Times.ok _ _ _ _ h1 k1) rfl ?_
  simp only [evA, evT, Go.undef, aload, astore, afieldAddr, afield, aindex, aindexAddr, abuild, abuildSlice, amakeSlice, aslice, aext, alen, aminmax, minmaxGo, aappend, newsOf, buildCells, cutRows, reps, setCells, AV.cells, allOne, AV.one, Value.oneCell', AV.pure, allPure, AV.free, allFree, rowsFree, Nat.reduceBEq, Nat.reduceAdd, Nat.reduceMul, Nat.reduceSub, Nat.reduceLT, Nat.reduceLeDiff, Int.reduceToNat, reduceIte, reduceCtorEq, Int.reduceLT, Int.reduceLE, Nat.reduceEqDiff, Int.reduceEq, Int.reduceNeg, Int.reduceMul, Int.reduceAdd, Int.reduceSub, Int.reduceBNe, Int.reduceBEq, apart, bnd]
  refine l_succ ?_
  simp only [evA, evT, Go.undef, aload, astore, afieldAddr, afield, aindex, aindexAddr, abuild, abuildSlice, amakeSlice, aslice, aext, alen, aminmax, minmaxGo, aappend, newsOf, buildCells, cutRows, reps, setCells, AV.cells, allOne, AV.one, Value.oneCell', AV.pure, allPure, AV.free, allFree, rowsFree, Nat.reduceBEq, Nat.reduceAdd, Nat.reduceMul, Nat.reduceSub, Nat.reduceLT, Nat.reduceLeDiff, Int.reduceToNat, reduceIte, reduceCtorEq, Int.reduceLT, Int.reduceLE, Nat.reduceEqDiff, Int.reduceEq, Int.reduceNeg, Int.reduceMul, Int.reduceAdd, Int.reduceSub, Int.reduceBNe, Int.reduceBEq, apart, bnd]
  refine call_ok (Times.ok _ _ _ _ h2 k2) rfl ?_
  simp only [evA, evT, Go.undef, aload, astore, afieldAddr, afield, aindex, aindexAddr, abuild, abuildSlice, amakeSlice, aslice, aext, alen, aminmax, minmaxGo, aappend, newsOf, buildCells, cutRows, reps, setCells, AV.cells, allOne, AV.one, Value.oneCell', AV.pure, allPure, AV.free, allFree, rowsFree, Nat.reduceBEq, Nat.reduceAdd, Nat.reduceMul, Nat.reduceSub, Nat.reduceLT, Nat.reduceLeDiff, Int.reduceToNat, reduceIte, reduceCtorEq, Int.reduceLT, Int.reduceLE, Nat.reduceEqDiff, Int.reduceEq, Int.reduceNeg, Int.reduceMul, Int.reduceAdd, Int.reduceSub, Int.reduceBNe, Int.reduceBEq, apart, bnd]
  refine l_succ ?_
  simp only [evA, evT, Go.undef, aload, astore, afieldAddr, afield, aindex, aindexAddr, abuild, abuildSlice, amakeSlice, aslice, aext, alen, aminmax, minmaxGo, aappend, newsOf, buildCells, cutRows, reps, setCells, AV.cells, allOne, AV.one, Value.oneCell', AV.pure, allPure, AV.free, allFree, rowsFree, Nat.reduceBEq, Nat.reduceAdd, Nat.reduceMul, Nat.reduceSub, Nat.reduceLT, Nat.reduceLeDiff, Int.reduceToNat, reduceIte, reduceCtorEq, Int.reduceLT, Int.reduceLE, Nat.reduceEqDiff, Int.reduceEq, Int.reduceNeg, Int.reduceMul, Int.reduceAdd, Int.reduceSub, Int.reduceBNe, Int.reduceBEq, apart, bnd]
  refine call_ok (Times.ok _ _ _ _ h3 k3) rfl ?_
  simp only [evA, evT, Go.undef, aload, astore, afieldAddr, afield, aindex, aindexAddr, abuild, abuildSlice, amakeSlice, aslice, aext, alen, aminmax, minmaxGo, aappend, newsOf, buildCells, cutRows, reps, setCells, AV.cells, allOne, AV.one, Value.oneCell', AV.pure, allPure, AV.free, allFree, rowsFree, Nat.reduceBEq, Nat.reduceAdd, Nat.reduceMul, Nat.reduceSub, Nat.reduceLT, Nat.reduceLeDiff, Int.reduceToNat, reduceIte, reduceCtorEq, Int.reduceLT, Int.reduceLE, Nat.reduceEqDiff, Int.reduceEq, Int.reduceNeg, Int.reduceMul, Int.reduceAdd, Int.reduceSub, Int.reduceBNe, Int.reduceBEq, apart, bnd]
  refine l_succ ?_
  simp only [evA, evT, Go.undef, aload, astore, afieldAddr, afield, aindex, aindexAddr, abuild, abuildSlice, amakeSlice, aslice, aext, alen, aminmax, minmaxGo, aappend, newsOf, buildCells, cutRows, reps, setCells, AV.cells, allOne, AV.one, Value.oneCell', AV.pure, allPure, AV.free, allFree, rowsFree, Nat.reduceBEq, Nat.reduceAdd, Nat.reduceMul, Nat.reduceSub, Nat.reduceLT, Nat.reduceLeDiff, Int.reduceToNat, reduceIte, reduceCtorEq, Int.reduceLT, Int.reduceLE, Nat.reduceEqDiff, Int.reduceEq, Int.reduceNeg, Int.reduceMul, Int.reduceAdd, Int.reduceSub, Int.reduceBNe, Int.reduceBEq, apart, bnd]
  refine call_ok (turns.ok inv) rfl ?_
  simp only [evA, evT, Go.undef, aload, astore, afieldAddr, afield, aindex, aindexAddr, abuild, abuildSlice, amakeSlice, aslice, aext, alen, aminmax, minmaxGo, aappend, newsOf, buildCells, cutRows, reps, setCells, AV.cells, allOne, AV.one, Value.oneCell', AV.pure, allPure, AV.free, allFree, rowsFree, Nat.reduceBEq, Nat.reduceAdd, Nat.reduceMul, Nat.reduceSub, Nat.reduceLT, Nat.reduceLeDiff, Int.reduceToNat, reduceIte, reduceCtorEq, Int.reduceLT, Int.reduceLE, Nat.reduceEqDiff, Int.reduceEq, Int.reduceNeg, Int.reduceMul, Int.reduceAdd, Int.reduceSub, Int.reduceBNe, Int.reduceBEq, apart, bnd]
  refine ⟨5, l_succ ?_⟩
  simp only [evA, evT, Go.undef, aload, astore, afieldAddr, afield, aindex, aindexAddr, abuild, abuildSlice, amakeSlice, aslice, aext, alen, aminmax, minmaxGo, aappend, newsOf, buildCells, cutRows, reps, setCells, AV.cells, allOne, AV.one, Value.oneCell', AV.pure, allPure, AV.free, allFree, rowsFree, Nat.reduceBEq, Nat.reduceAdd, Nat.reduceMul, Nat.reduceSub, Nat.reduceLT, Nat.reduceLeDiff, Int.reduceToNat, reduceIte, reduceCtorEq, Int.reduceLT, Int.reduceLE, Nat.reduceEqDiff, Int.reduceEq, Int.reduceNeg, Int.reduceMul, Int.reduceAdd, Int.reduceSub, Int.reduceBNe, Int.reduceBEq, apart, bnd]
  iterate 4
    refine ⟨5, l_succ ?_⟩
    simp only [evA, evT, Go.undef, aload, astore, afieldAddr, afield, aindex, aindexAddr, abuild, abuildSlice, amakeSlice, aslice, aext, alen, aminmax, minmaxGo, aappend, newsOf, buildCells, cutRows, reps, setCells, AV.cells, allOne, AV.one, Value.oneCell', AV.pure, allPure, AV.free, allFree, rowsFree, Nat.reduceBEq, Nat.reduceAdd, Nat.reduceMul, Nat.reduceSub, Nat.reduceLT, Nat.reduceLeDiff, Int.reduceToNat, reduceIte, reduceCtorEq, Int.reduceLT, Int.reduceLE, Nat.reduceEqDiff, Int.reduceEq, Int.reduceNeg, Int.reduceMul, Int.reduceAdd, Int.reduceSub, Int.reduceBNe, Int.reduceBEq, apart, bnd, e3]
    iterate 4
      refine call_ok (Turn.ok _ _ _ (by assumption)) rfl ?_
      simp only [evA, evT, Go.undef, aload, astore, afieldAddr, afield, aindex, aindexAddr, abuild, abuildSlice, amakeSlice, aslice, aext, alen, aminmax, minmaxGo, aappend, newsOf, buildCells, cutRows, reps, setCells, AV.cells, allOne, AV.one, Value.oneCell', AV.pure, allPure, AV.free, allFree, rowsFree, Nat.reduceBEq, Nat.reduceAdd, Nat.reduceMul, Nat.reduceSub, Nat.reduceLT, Nat.reduceLeDiff, Int.reduceToNat, reduceIte, reduceCtorEq, Int.reduceLT, Int.reduceLE, Nat.reduceEqDiff, Int.reduceEq, Int.reduceNeg, Int.reduceMul, Int.reduceAdd, Int.reduceSub, Int.reduceBNe, Int.reduceBEq, apart, bnd, e3]
      refine l_succ ?_
      simp only [evA, evT, Go.undef, aload, astore, afieldAddr, afield, aindex, aindexAddr, abuild, abuildSlice, amakeSlice, aslice, aext, alen, aminmax, minmaxGo, aappend, newsOf, buildCells, cutRows, reps, setCells, AV.cells, allOne, AV.one, Value.oneCell', AV.pure, allPure, AV.free, allFree, rowsFree, Nat.reduceBEq, Nat.reduceAdd, Nat.reduceMul, Nat.reduceSub, Nat.reduceLT, Nat.reduceLeDiff, Int.reduceToNat, reduceIte, reduceCtorEq, Int.reduceLT, Int.reduceLE, Nat.reduceEqDiff, Int.reduceEq, Int.reduceNeg, Int.reduceMul, Int.reduceAdd, Int.reduceSub, Int.reduceBNe, Int.reduceBEq, apart, bnd, e3]
    refine call_ok (cxShift.ok _ _ _ _ hbs hm wrap_in wrap_in) rfl ?_
    simp only [evA, evT, Go.undef, aload, astore, afieldAddr, afield, aindex, aindexAddr, abuild, abuildSlice, amakeSlice, aslice, aext, alen, aminmax, minmaxGo, aappend, newsOf, buildCells, cutRows, reps, setCells, AV.cells, allOne, AV.one, Value.oneCell', AV.pure, allPure, AV.free, allFree, rowsFree, Nat.reduceBEq, Nat.reduceAdd, Nat.reduceMul, Nat.reduceSub, Nat.reduceLT, Nat.reduceLeDiff, Int.reduceToNat, reduceIte, reduceCtorEq, Int.reduceLT, Int.reduceLE, Nat.reduceEqDiff, Int.reduceEq, Int.reduceNeg, Int.reduceMul, Int.reduceAdd, Int.reduceSub, Int.reduceBNe, Int.reduceBEq, apart, bnd, e3]
    refine l_succ ?_
    simp only [evA, evT, Go.undef, aload, astore, afieldAddr, afield, aindex, aindexAddr, abuild, abuildSlice, amakeSlice, aslice, aext, alen, aminmax, minmaxGo, aappend, newsOf, buildCells, cutRows, reps, setCells, AV.cells, allOne, AV.one, Value.oneCell', AV.pure, allPure, AV.free, allFree, rowsFree, Nat.reduceBEq, Nat.reduceAdd, Nat.reduceMul, Nat.reduceSub, Nat.reduceLT, Nat.reduceLeDiff, Int.reduceToNat, reduceIte, reduceCtorEq, Int.reduceLT, Int.reduceLE, Nat.reduceEqDiff, Int.reduceEq, Int.reduceNeg, Int.reduceMul, Int.reduceAdd, Int.reduceSub, Int.reduceBNe, Int.reduceBEq, apart, bnd, e3]
  have w0' : win 1152921504606846976 (a0 * 2 ^ bits.toNat) (b0 * 2 ^ bits.toNat) := by unfold win; omega
  simp only [q_re w0' w1 w2 w3, q_im w0' w1 w2 w3]
  cases inv <;> simp [qV, qRe, qIm, tRe, tIm, w_0, w_1, w_2, w_3, w_4, w_6, w_9]
end Go.Proofs.YtfemklaeonkidaaV

import Derived.Test.YtfemklaeonkidaaVfG
/- The law FourSums answers true: what may not be. (The main case is to be added.) -/
namespace Go.Proofs.YtfemklaeonkidaaV
open Go Go.RowKit
set_option linter.unusedVariables false
set_option linter.unusedSimpArgs false
set_option maxRecDepth 100000
set_option maxHeartbeats 40000000
theorem fine10 : Fine Try.prog 10 := fun _ _ => by kernel_rfl
/-- What is rounded is not so far as a whole one. -/
theorem rsh_near (x s how : Int) : -(2 ^ s.toNat) < rsh x s how * 2 ^ s.toNat - x ∧ rsh x s how * 2 ^ s.toNat - x < 2 ^ s.toNat ∨ s = 0 := by
  by_cases h0 : s = 0
  · exact .inr h0
  left
  have hp := pow_pos s.toNat
  have hd := Int.emod_add_mul_ediv x (2 ^ s.toNat)
  have hr0 := Int.emod_nonneg x (Int.ne_of_gt hp)
  have hr1 := Int.emod_lt_of_pos x hp
  rw [Int.mul_comm] at hd
  unfold rsh
  rw [if_neg h0]
  split
  · rename_i hup
    have hne : x % 2 ^ s.toNat ≠ 0 := by
      intro he
      unfold goesUp at hup
      have hp1 := pow_pos (s.toNat - 1)
      rw [he] at hup
      split at hup
      · cases hup
      · split at hup
        · simp at hup; omega
        · simp at hup; omega
    rw [Int.add_mul]
    omega
  · omega
theorem sum_re (x0 y0 x1 y1 x2 y2 x3 y3 : Int) (inv : Bool) : qRe x0 y0 x1 y1 x2 y2 x3 y3 inv 0 + qRe x0 y0 x1 y1 x2 y2 x3 y3 inv 1 + qRe x0 y0 x1 y1 x2 y2 x3 y3 inv 2 + qRe x0 y0 x1 y1 x2 y2 x3 y3 inv 3 = 4 * x0 := by
  cases inv <;> simp [qRe, tRe] <;> omega
theorem sum_im (x0 y0 x1 y1 x2 y2 x3 y3 : Int) (inv : Bool) : qIm x0 y0 x1 y1 x2 y2 x3 y3 inv 0 + qIm x0 y0 x1 y1 x2 y2 x3 y3 inv 1 + qIm x0 y0 x1 y1 x2 y2 x3 y3 inv 2 + qIm x0 y0 x1 y1 x2 y2 x3 y3 inv 3 = 4 * y0 := by
  cases inv <;> simp [qIm, tIm] <;> omega
/-- Four rounded ones together. -/
theorem four_near {s0 s1 s2 s3 x n how : Int} (h : s0 + s1 + s2 + s3 = 4 * x) : -(4 * 2 ^ n.toNat) < (rsh s0 n how + rsh s1 n how + rsh s2 n how + rsh s3 n how) * 2 ^ n.toNat - 4 * x ∧ (rsh s0 n how + rsh s1 n how + rsh s2 n how + rsh s3 n how) * 2 ^ n.toNat - 4 * x < 4 * 2 ^ n.toNat := by
  have hp := pow_pos n.toNat
  by_cases h0 : n = 0
  · subst h0
    simp only [rsh_z, Int.toNat_zero, Int.pow_zero]
    omega
  have g0 := (rsh_near s0 n how).resolve_right h0
  have g1 := (rsh_near s1 n how).resolve_right h0
  have g2 := (rsh_near s2 n how).resolve_right h0
  have g3 := (rsh_near s3 n how).resolve_right h0
  rw [Int.add_mul, Int.add_mul, Int.add_mul]
  omega
/-- The same, of a number put up. -/
theorem four_back {s0 s1 s2 s3 a bits s how : Int} (hb : 0 ≤ bits) (hs : 0 ≤ s) (h : s0 + s1 + s2 + s3 = 4 * (a * 2 ^ bits.toNat)) : -(4 * 2 ^ s.toNat) < (rsh s0 (bits + s) how + rsh s1 (bits + s) how + rsh s2 (bits + s) how + rsh s3 (bits + s) how) * 2 ^ s.toNat - 4 * a ∧ (rsh s0 (bits + s) how + rsh s1 (bits + s) how + rsh s2 (bits + s) how + rsh s3 (bits + s) how) * 2 ^ s.toNat - 4 * a < 4 * 2 ^ s.toNat := by
  have g := four_near (n := bits + s) (how := how) h
  generalize rsh s0 (bits + s) how + rsh s1 (bits + s) how + rsh s2 (bits + s) how + rsh s3 (bits + s) how = Y at *
  have e : (bits + s).toNat = bits.toNat + s.toNat := by omega
  rw [e, Int.pow_add] at g
  have hp := pow_pos bits.toNat
  have e1 : Y * (2 ^ bits.toNat * 2 ^ s.toNat) - 4 * (a * 2 ^ bits.toNat) = (Y * 2 ^ s.toNat - 4 * a) * 2 ^ bits.toNat := by
    rw [Int.sub_mul, Int.mul_assoc, Int.mul_assoc, Int.mul_comm (2 ^ s.toNat)]
  have e2 : (4 : Int) * (2 ^ bits.toNat * 2 ^ s.toNat) = (4 * 2 ^ s.toNat) * 2 ^ bits.toNat := by
    rw [Int.mul_assoc, Int.mul_comm (2 ^ s.toNat)]
  rw [e1, e2, ← Int.neg_mul] at g
  exact ⟨Int.lt_of_mul_lt_mul_right g.1 (Int.le_of_lt hp), Int.lt_of_mul_lt_mul_right g.2 (Int.le_of_lt hp)⟩
section
variable (inv : Bool) (bits s mode a0 b0 a1 b1 a2 b2 a3 b3 u0 v0 u1 v1 u2 v2 u3 v3 : Int)
theorem FourSums.none (e : Int) (he : e = 1 ∨ e = 2) (hQ : Ok Try.prog 39 [arr4 a0 b0 a1 b1 a2 b2 a3 b3, arr4 u0 v0 u1 v1 u2 v2 u3 v3, .int bits, .int s, .int mode, .bool inv] (.tup [arr4 0 0 0 0 0 0 0 0, .int e])) : Ok Try.prog 10 [arr4 a0 b0 a1 b1 a2 b2 a3 b3, arr4 u0 v0 u1 v1 u2 v2 u3 v3, .int bits, .int s, .int mode, .bool inv] (.bool true) := by
  have hne : ¬ e = 0 := by omega
  refine ok_of (X := fun _ => []) (Z := fun _ => false) (res := [ResultVar.tmp 12]) tok follows Try.func10 rfl rfl fine10 (by kernel_rfl) (by kernel_rfl) ?_
  simp only [evA, evT, Go.undef, aload, astore, afieldAddr, afield, aindex, aindexAddr, abuild, abuildSlice, amakeSlice, aslice, aext, alen, aminmax, minmaxGo, aappend, newsOf, buildCells, cutRows, reps, setCells, AV.cells, allOne, AV.one, Value.oneCell', AV.pure, allPure, AV.free, allFree, rowsFree, Nat.reduceBEq, Nat.reduceAdd, Nat.reduceMul, Nat.reduceSub, Nat.reduceLT, Nat.reduceLeDiff, Int.reduceToNat, reduceIte, reduceCtorEq, Int.reduceLT, Int.reduceLE, Nat.reduceEqDiff, Int.reduceEq, Int.reduceNeg, Int.reduceMul, Int.reduceAdd, Int.reduceSub, Int.reduceBNe, Int.reduceBEq, apart, bnd]
  refine call_ok hQ rfl ?_
  simp only [evA, evT, Go.undef, aload, astore, afieldAddr, afield, aindex, aindexAddr, abuild, abuildSlice, amakeSlice, aslice, aext, alen, aminmax, minmaxGo, aappend, newsOf, buildCells, cutRows, reps, setCells, AV.cells, allOne, AV.one, Value.oneCell', AV.pure, allPure, AV.free, allFree, rowsFree, Nat.reduceBEq, Nat.reduceAdd, Nat.reduceMul, Nat.reduceSub, Nat.reduceLT, Nat.reduceLeDiff, Int.reduceToNat, reduceIte, reduceCtorEq, Int.reduceLT, Int.reduceLE, Nat.reduceEqDiff, Int.reduceEq, Int.reduceNeg, Int.reduceMul, Int.reduceAdd, Int.reduceSub, Int.reduceBNe, Int.reduceBEq, apart, bnd, hne]
  refine call_ok alive.ok rfl ?_
  simp only [evA, evT, Go.undef, aload, astore, afieldAddr, afield, aindex, aindexAddr, abuild, abuildSlice, amakeSlice, aslice, aext, alen, aminmax, minmaxGo, aappend, newsOf, buildCells, cutRows, reps, setCells, AV.cells, allOne, AV.one, Value.oneCell', AV.pure, allPure, AV.free, allFree, rowsFree, Nat.reduceBEq, Nat.reduceAdd, Nat.reduceMul, Nat.reduceSub, Nat.reduceLT, Nat.reduceLeDiff, Int.reduceToNat, reduceIte, reduceCtorEq, Int.reduceLT, Int.reduceLE, Nat.reduceEqDiff, Int.reduceEq, Int.reduceNeg, Int.reduceMul, Int.reduceAdd, Int.reduceSub, Int.reduceBNe, Int.reduceBEq, apart, bnd]
theorem wrap_add {a b : Int} : IntKind.i64.wrap (IntKind.i64.wrap a + b) = IntKind.i64.wrap (a + b) := by
  simp only [IntKind.wrap_i64]
  omega
theorem FourSums.ok (hb : 0 ≤ bits ∧ bits ≤ 29) (hs : 0 ≤ s ∧ s ≤ 3) (hm : 0 ≤ mode ∧ mode ≤ 2) (h0 : win 2147483648 a0 b0) (h1 : win 2147483648 a1 b1) (h2 : win 2147483648 a2 b2) (h3 : win 2147483648 a3 b3)
    (g1 : win (2 ^ bits.toNat) u1 v1) (g2 : win (2 ^ bits.toNat) u2 v2) (g3 : win (2 ^ bits.toNat) u3 v3) : Ok Try.prog 10 [arr4 a0 b0 a1 b1 a2 b2 a3 b3, arr4 u0 v0 u1 v1 u2 v2 u3 v3, .int bits, .int s, .int mode, .bool inv] (.bool true) := by
  have hQ := Quad.ok inv bits s mode a0 b0 a1 b1 a2 b2 a3 b3 u0 v0 u1 v1 u2 v2 u3 v3 hb hs hm h0 h1 h2 h3 g1 g2 g3
  have r1 := four_back (how := mode) hb.1 hs.1 (sum_re (a0 * 2 ^ bits.toNat) (b0 * 2 ^ bits.toNat) (a1 * u1 - b1 * v1) (a1 * v1 + b1 * u1) (a2 * u2 - b2 * v2) (a2 * v2 + b2 * u2) (a3 * u3 - b3 * v3) (a3 * v3 + b3 * u3) inv)
  have r2 := four_back (how := mode) hb.1 hs.1 (sum_im (a0 * 2 ^ bits.toNat) (b0 * 2 ^ bits.toNat) (a1 * u1 - b1 * v1) (a1 * v1 + b1 * u1) (a2 * u2 - b2 * v2) (a2 * v2 + b2 * u2) (a3 * u3 - b3 * v3) (a3 * v3 + b3 * u3) inv)
  unfold quadAV at hQ
  simp only [qV] at hQ
  generalize rsh (qRe (a0 * 2 ^ bits.toNat) (b0 * 2 ^ bits.toNat) (a1 * u1 - b1 * v1) (a1 * v1 + b1 * u1) (a2 * u2 - b2 * v2) (a2 * v2 + b2 * u2) (a3 * u3 - b3 * v3) (a3 * v3 + b3 * u3) inv 0) (bits + s) mode = x0 at *
  generalize rsh (qRe (a0 * 2 ^ bits.toNat) (b0 * 2 ^ bits.toNat) (a1 * u1 - b1 * v1) (a1 * v1 + b1 * u1) (a2 * u2 - b2 * v2) (a2 * v2 + b2 * u2) (a3 * u3 - b3 * v3) (a3 * v3 + b3 * u3) inv 1) (bits + s) mode = x1 at *
  generalize rsh (qRe (a0 * 2 ^ bits.toNat) (b0 * 2 ^ bits.toNat) (a1 * u1 - b1 * v1) (a1 * v1 + b1 * u1) (a2 * u2 - b2 * v2) (a2 * v2 + b2 * u2) (a3 * u3 - b3 * v3) (a3 * v3 + b3 * u3) inv 2) (bits + s) mode = x2 at *
  generalize rsh (qRe (a0 * 2 ^ bits.toNat) (b0 * 2 ^ bits.toNat) (a1 * u1 - b1 * v1) (a1 * v1 + b1 * u1) (a2 * u2 - b2 * v2) (a2 * v2 + b2 * u2) (a3 * u3 - b3 * v3) (a3 * v3 + b3 * u3) inv 3) (bits + s) mode = x3 at *
  generalize rsh (qIm (a0 * 2 ^ bits.toNat) (b0 * 2 ^ bits.toNat) (a1 * u1 - b1 * v1) (a1 * v1 + b1 * u1) (a2 * u2 - b2 * v2) (a2 * v2 + b2 * u2) (a3 * u3 - b3 * v3) (a3 * v3 + b3 * u3) inv 0) (bits + s) mode = y0 at *
  generalize rsh (qIm (a0 * 2 ^ bits.toNat) (b0 * 2 ^ bits.toNat) (a1 * u1 - b1 * v1) (a1 * v1 + b1 * u1) (a2 * u2 - b2 * v2) (a2 * v2 + b2 * u2) (a3 * u3 - b3 * v3) (a3 * v3 + b3 * u3) inv 1) (bits + s) mode = y1 at *
  generalize rsh (qIm (a0 * 2 ^ bits.toNat) (b0 * 2 ^ bits.toNat) (a1 * u1 - b1 * v1) (a1 * v1 + b1 * u1) (a2 * u2 - b2 * v2) (a2 * v2 + b2 * u2) (a3 * u3 - b3 * v3) (a3 * v3 + b3 * u3) inv 2) (bits + s) mode = y2 at *
  generalize rsh (qIm (a0 * 2 ^ bits.toNat) (b0 * 2 ^ bits.toNat) (a1 * u1 - b1 * v1) (a1 * v1 + b1 * u1) (a2 * u2 - b2 * v2) (a2 * v2 + b2 * u2) (a3 * u3 - b3 * v3) (a3 * v3 + b3 * u3) inv 3) (bits + s) mode = y3 at *
  have hp : (2 : Int) ^ s.toNat = 1 ∨ (2 : Int) ^ s.toNat = 2 ∨ (2 : Int) ^ s.toNat = 4 ∨ (2 : Int) ^ s.toNat = 8 := by
    have : s = 0 ∨ s = 1 ∨ s = 2 ∨ s = 3 := by omega
    rcases this with rfl | rfl | rfl | rfl <;> decide
  have hmin : min s.toNat IntKind.i64.bits = s.toNat := sh_min (by omega)
  have hs0 := hs.1
  unfold win at h0
  have f1 : IntKind.i64.wrap (0 + x0 + x1 + x2 + x3) = x0 + x1 + x2 + x3 := by
    rw [Int.zero_add]
    exact wr (by rcases hp with e | e | e | e <;> rw [e] at r1 <;> omega)
  have f2 : IntKind.i64.wrap (0 + y0 + y1 + y2 + y3) = y0 + y1 + y2 + y3 := by
    rw [Int.zero_add]
    exact wr (by rcases hp with e | e | e | e <;> rw [e] at r2 <;> omega)
  refine ok_of (X := fun _ => []) (Z := fun _ => false) (res := [ResultVar.tmp 12]) tok follows Try.func10 rfl rfl fine10 (by kernel_rfl) (by kernel_rfl) ?_
  simp only [evA, evT, Go.undef, aload, astore, afieldAddr, afield, aindex, aindexAddr, abuild, abuildSlice, amakeSlice, aslice, aext, alen, aminmax, minmaxGo, aappend, newsOf, buildCells, cutRows, reps, setCells, AV.cells, allOne, AV.one, Value.oneCell', AV.pure, allPure, AV.free, allFree, rowsFree, Nat.reduceBEq, Nat.reduceAdd, Nat.reduceMul, Nat.reduceSub, Nat.reduceLT, Nat.reduceLeDiff, Int.reduceToNat, reduceIte, reduceCtorEq, Int.reduceLT, Int.reduceLE, Nat.reduceEqDiff, Int.reduceEq, Int.reduceNeg, Int.reduceMul, Int.reduceAdd, Int.reduceSub, Int.reduceBNe, Int.reduceBEq, apart, bnd]
  refine call_ok hQ rfl ?_
  simp only [evA, evT, Go.undef, aload, astore, afieldAddr, afield, aindex, aindexAddr, abuild, abuildSlice, amakeSlice, aslice, aext, alen, aminmax, minmaxGo, aappend, newsOf, buildCells, cutRows, reps, setCells, AV.cells, allOne, AV.one, Value.oneCell', AV.pure, allPure, AV.free, allFree, rowsFree, Nat.reduceBEq, Nat.reduceAdd, Nat.reduceMul, Nat.reduceSub, Nat.reduceLT, Nat.reduceLeDiff, Int.reduceToNat, reduceIte, reduceCtorEq, Int.reduceLT, Int.reduceLE, Nat.reduceEqDiff, Int.reduceEq, Int.reduceNeg, Int.reduceMul, Int.reduceAdd, Int.reduceSub, Int.reduceBNe, Int.reduceBEq, apart, bnd]
  refine ⟨5, l_succ ?_⟩
  simp only [evA, evT, Go.undef, aload, astore, afieldAddr, afield, aindex, aindexAddr, abuild, abuildSlice, amakeSlice, aslice, aext, alen, aminmax, minmaxGo, aappend, newsOf, buildCells, cutRows, reps, setCells, AV.cells, allOne, AV.one, Value.oneCell', AV.pure, allPure, AV.free, allFree, rowsFree, Nat.reduceBEq, Nat.reduceAdd, Nat.reduceMul, Nat.reduceSub, Nat.reduceLT, Nat.reduceLeDiff, Int.reduceToNat, reduceIte, reduceCtorEq, Int.reduceLT, Int.reduceLE, Nat.reduceEqDiff, Int.reduceEq, Int.reduceNeg, Int.reduceMul, Int.reduceAdd, Int.reduceSub, Int.reduceBNe, Int.reduceBEq, apart, bnd]
  iterate 4
    refine l_succ ?_
    simp only [evA, evT, Go.undef, aload, astore, afieldAddr, afield, aindex, aindexAddr, abuild, abuildSlice, amakeSlice, aslice, aext, alen, aminmax, minmaxGo, aappend, newsOf, buildCells, cutRows, reps, setCells, AV.cells, allOne, AV.one, Value.oneCell', AV.pure, allPure, AV.free, allFree, rowsFree, Nat.reduceBEq, Nat.reduceAdd, Nat.reduceMul, Nat.reduceSub, Nat.reduceLT, Nat.reduceLeDiff, Int.reduceToNat, reduceIte, reduceCtorEq, Int.reduceLT, Int.reduceLE, Nat.reduceEqDiff, Int.reduceEq, Int.reduceNeg, Int.reduceMul, Int.reduceAdd, Int.reduceSub, Int.reduceBNe, Int.reduceBEq, apart, bnd, wrap_add, f1, f2, hmin, hs0]
  refine call_ok alive.ok rfl ?_
  have z1 : IntKind.i64.wrap ((x0 + x1 + x2 + x3) * 2 ^ s.toNat) = (x0 + x1 + x2 + x3) * 2 ^ s.toNat := wr (by omega)
  have z2 : IntKind.i64.wrap ((y0 + y1 + y2 + y3) * 2 ^ s.toNat) = (y0 + y1 + y2 + y3) * 2 ^ s.toNat := wr (by omega)
  have z3 : IntKind.i64.wrap (4 * a0) = 4 * a0 := wr (by omega)
  have z4 : IntKind.i64.wrap (4 * b0) = 4 * b0 := wr (by omega)
  have z5 : IntKind.i64.wrap (4 * 2 ^ s.toNat) = 4 * 2 ^ s.toNat := wr (by omega)
  have z6 : IntKind.i64.wrap ((x0 + x1 + x2 + x3) * 2 ^ s.toNat - 4 * a0) = (x0 + x1 + x2 + x3) * 2 ^ s.toNat - 4 * a0 := wr (by omega)
  have z7 : IntKind.i64.wrap ((y0 + y1 + y2 + y3) * 2 ^ s.toNat - 4 * b0) = (y0 + y1 + y2 + y3) * 2 ^ s.toNat - 4 * b0 := wr (by omega)
  have z8 : IntKind.i64.wrap (0 - ((x0 + x1 + x2 + x3) * 2 ^ s.toNat - 4 * a0)) = 0 - ((x0 + x1 + x2 + x3) * 2 ^ s.toNat - 4 * a0) := wr (by omega)
  have z9 : IntKind.i64.wrap (0 - ((y0 + y1 + y2 + y3) * 2 ^ s.toNat - 4 * b0)) = 0 - ((y0 + y1 + y2 + y3) * 2 ^ s.toNat - 4 * b0) := wr (by omega)
  simp only [evA, evT, Go.undef, aload, astore, afieldAddr, afield, aindex, aindexAddr, abuild, abuildSlice, amakeSlice, aslice, aext, alen, aminmax, minmaxGo, aappend, newsOf, buildCells, cutRows, reps, setCells, AV.cells, allOne, AV.one, Value.oneCell', AV.pure, allPure, AV.free, allFree, rowsFree, Nat.reduceBEq, Nat.reduceAdd, Nat.reduceMul, Nat.reduceSub, Nat.reduceLT, Nat.reduceLeDiff, Int.reduceToNat, reduceIte, reduceCtorEq, Int.reduceLT, Int.reduceLE, Nat.reduceEqDiff, Int.reduceEq, Int.reduceNeg, Int.reduceMul, Int.reduceAdd, Int.reduceSub, Int.reduceBNe, Int.reduceBEq, apart, bnd, hmin, hs0, z1, z2, z3, z4, z5, z6, z7, z8, z9]
  generalize (x0 + x1 + x2 + x3) * 2 ^ s.toNat - 4 * a0 = D1 at r1
  generalize (y0 + y1 + y2 + y3) * 2 ^ s.toNat - 4 * b0 = D2 at r2
  have : ∀ {p : Prop} [Decidable p], p → AV.raw (Value.bool (decide p)) = AV.bool true := fun h => by simp [h]
  refine this ?_
  repeat' split
  all_goals omega
theorem FourSums.true : Ok Try.prog 10 [arr4 a0 b0 a1 b1 a2 b2 a3 b3, arr4 u0 v0 u1 v1 u2 v2 u3 v3, .int bits, .int s, .int mode, .bool inv] (.bool true) := by
  by_cases hA : (0 ≤ bits ∧ bits ≤ 29) ∧ (0 ≤ s ∧ s ≤ 3) ∧ 0 ≤ mode ∧ mode ≤ 2
  · by_cases h : win 2147483648 a0 b0 ∧ win 2147483648 a1 b1 ∧ win 2147483648 a2 b2 ∧ win 2147483648 a3 b3 ∧ win (2 ^ bits.toNat) u1 v1 ∧ win (2 ^ bits.toNat) u2 v2 ∧ win (2 ^ bits.toNat) u3 v3
    · obtain ⟨h0, h1, h2, h3, g1, g2, g3⟩ := h
      exact FourSums.ok inv bits s mode a0 b0 a1 b1 a2 b2 a3 b3 u0 v0 u1 v1 u2 v2 u3 v3 hA.1 hA.2.1 hA.2.2 h0 h1 h2 h3 g1 g2 g3
    · exact FourSums.none inv bits s mode a0 b0 a1 b1 a2 b2 a3 b3 u0 v0 u1 v1 u2 v2 u3 v3 2 (.inr rfl) (Quad.range inv bits s mode a0 b0 a1 b1 a2 b2 a3 b3 u0 v0 u1 v1 u2 v2 u3 v3 hA.1 hA.2.1 hA.2.2 h)
  · exact FourSums.none inv bits s mode a0 b0 a1 b1 a2 b2 a3 b3 u0 v0 u1 v1 u2 v2 u3 v3 1 (.inl rfl) (Quad.arg inv bits s mode [] [] hA a0 b0 a1 b1 a2 b2 a3 b3 u0 v0 u1 v1 u2 v2 u3 v3)
end
end Go.Proofs.YtfemklaeonkidaaV

import Derived.Test.YtnnicpmehjdopaaVsA
/- The law SatOnly answers true. -/
namespace Go.Proofs.YtnnicpmehjdopaaV
open Go Go.RowKit
set_option linter.unusedVariables false
set_option linter.unusedSimpArgs false
set_option maxRecDepth 100000
set_option maxHeartbeats 40000000
theorem fine8 : Fine Try.prog 8 := fun _ _ => by kernel_rfl
theorem fine3 : Fine Try.prog 3 := fun _ _ => by kernel_rfl
theorem MulC.ok (a b f mode : Int) (hf : fmt f) (ha : mant f a) (hb : mant f b) (hm : 0 ≤ mode ∧ mode ≤ 2) : Ok Try.prog 6 [.int b, .int a, .int f, .int mode] (.tup [.int (cl f (rsh (a * b) (fB f) mode)), .bool (decide (¬ cl f (rsh (a * b) (fB f) mode) = rsh (a * b) (fB f) mode)), .int 0]) := by
  have := Mul.ok b a f mode hf hb ha hm
  rwa [Int.mul_comm b a] at this
theorem AddC.ok (a b f : Int) (hf : fmt f) (ha : mant f a) (hb : mant f b) : Ok Try.prog 7 [.int b, .int a, .int f] (.tup [.int (cl f (a + b)), .bool (decide (¬ cl f (a + b) = a + b)), .int 0]) := by
  have := Add.ok b a f hf hb ha
  rwa [Int.add_comm b a] at this
theorem aliveS.ok : Ok Try.prog 8 [] (.bool true) := by
  have h := Add.ok 32767 1 0 (.inl rfl) (by decide) (by decide)
  rw [show cl 0 (32767 + 1) = 32767 by decide] at h
  refine ok_of (X := fun _ => []) (Z := fun _ => false) (res := [ResultVar.tmp 0]) tok follows Try.func8 rfl rfl fine8 (by kernel_rfl) (by kernel_rfl) ?_
  simp only [evA, evT, Go.undef, aload, astore, afieldAddr, afield, aindex, aindexAddr, abuild, abuildSlice, amakeSlice, aslice, aext, alen, aminmax, minmaxGo, aappend, newsOf, buildCells, cutRows, reps, setCells, AV.cells, allOne, AV.one, Value.oneCell', AV.pure, allPure, AV.free, allFree, rowsFree, Nat.reduceBEq, Nat.reduceAdd, Nat.reduceMul, Nat.reduceSub, Nat.reduceLT, Nat.reduceLeDiff, Int.reduceToNat, reduceIte, reduceCtorEq, Int.reduceLT, Int.reduceLE, Nat.reduceEqDiff, Int.reduceEq, Int.reduceNeg, Int.reduceMul, Int.reduceAdd, Int.reduceSub, Int.reduceBNe, Int.reduceBEq, apart, bnd]
  refine call_ok h rfl ?_
  simp only [evA, evT, Go.undef, aload, astore, afieldAddr, afield, aindex, aindexAddr, abuild, abuildSlice, amakeSlice, aslice, aext, alen, aminmax, minmaxGo, aappend, newsOf, buildCells, cutRows, reps, setCells, AV.cells, allOne, AV.one, Value.oneCell', AV.pure, allPure, AV.free, allFree, rowsFree, Nat.reduceBEq, Nat.reduceAdd, Nat.reduceMul, Nat.reduceSub, Nat.reduceLT, Nat.reduceLeDiff, Int.reduceToNat, reduceIte, reduceCtorEq, Int.reduceLT, Int.reduceLE, Nat.reduceEqDiff, Int.reduceEq, Int.reduceNeg, Int.reduceMul, Int.reduceAdd, Int.reduceSub, Int.reduceBNe, Int.reduceBEq, apart, bnd]
  refine call_ok (Bits.ok 1 (.inr rfl)) rfl ?_
  simp only [evA, evT, Go.undef, aload, astore, afieldAddr, afield, aindex, aindexAddr, abuild, abuildSlice, amakeSlice, aslice, aext, alen, aminmax, minmaxGo, aappend, newsOf, buildCells, cutRows, reps, setCells, AV.cells, allOne, AV.one, Value.oneCell', AV.pure, allPure, AV.free, allFree, rowsFree, Nat.reduceBEq, Nat.reduceAdd, Nat.reduceMul, Nat.reduceSub, Nat.reduceLT, Nat.reduceLeDiff, Int.reduceToNat, reduceIte, reduceCtorEq, Int.reduceLT, Int.reduceLE, Nat.reduceEqDiff, Int.reduceEq, Int.reduceNeg, Int.reduceMul, Int.reduceAdd, Int.reduceSub, Int.reduceBNe, Int.reduceBEq, apart, bnd, fB]
theorem cl_btw {f : Int} (hf : fmt f) (v : Int) : -fM f ≤ cl f v ∧ cl f v ≤ fM f - 1 := by
  have := fM_pos hf
  unfold cl
  repeat' split
  all_goals omega
theorem cl_same {f : Int} (hf : fmt f) (v : Int) : cl f v = v ↔ mant f v := by
  have := fM_pos hf
  unfold cl
  repeat' split
  all_goals omega
theorem cl_mono {f u v : Int} (hf : fmt f) (h : u ≤ v) : cl f u ≤ cl f v := by
  have := fM_pos hf
  unfold cl
  repeat' split
  all_goals omega
theorem lo0 (v : Int) : (cl 0 v < -32768) = False := by have := (cl_btw (f := 0) (.inl rfl) v).1; simp [fM] at this; simp; omega
theorem hi0 (v : Int) : (32768 ≤ cl 0 v) = False := by have := (cl_btw (f := 0) (.inl rfl) v).2; simp [fM] at this; simp; omega
theorem lo1 (v : Int) : (cl 1 v < -2147483648) = False := by have := (cl_btw (f := 1) (.inr rfl) v).1; simp [fM] at this; simp; omega
theorem hi1 (v : Int) : (2147483648 ≤ cl 1 v) = False := by have := (cl_btw (f := 1) (.inr rfl) v).2; simp [fM] at this; simp; omega
theorem sk15 : IntKind.i64.wrap 32768 = 32768 := by decide
theorem sk31 : IntKind.i64.wrap 2147483648 = 2147483648 := by decide
theorem neg_only {f A : Int} (hf : fmt f) (hA : mant f A) : cl f (-A) = -A ↔ ¬ A = -fM f := by
  rw [cl_same hf]
  unfold mant at *
  omega
theorem mul_only {f A B m : Int} (hf : fmt f) (hA : mant f A) (hB : mant f B) : cl f (rsh (A * B) (fB f) m) = rsh (A * B) (fB f) m ↔ ¬ (A = -fM f ∧ B = -fM f) := by
  have hp := fM_pos hf
  have hpow : (2 : Int) ^ (fB f).toNat = fM f := by rcases hf with rfl | rfl <;> rfl
  rw [cl_same hf]
  unfold mant at *
  constructor
  · rintro h ⟨rfl, rfl⟩
    have := rsh_btw (x := -fM f * -fM f) (s := fB f) (how := m) (a := fM f) (b := fM f) (by rw [hpow, Int.neg_mul_neg]; omega) (by rw [hpow, Int.neg_mul_neg]; omega)
    omega
  · intro h
    have h1 : -fM f * fM f ≤ A * B ∧ A * B ≤ (fM f - 1) * fM f := by
      have e1 : A.natAbs ≤ (fM f).toNat := by omega
      have e2 : B.natAbs ≤ (fM f).toNat := by omega
      have e3 : A.natAbs ≤ (fM f).toNat - 1 ∨ B.natAbs ≤ (fM f).toNat - 1 := by omega
      have e4 : (A * B).natAbs ≤ ((fM f).toNat - 1) * (fM f).toNat := by
        rw [Int.natAbs_mul]
        rcases e3 with e | e
        · exact Nat.mul_le_mul e e2
        · rw [Nat.mul_comm]
          exact Nat.mul_le_mul e e1
      have e5 : ((((fM f).toNat - 1) * (fM f).toNat : Nat) : Int) = (fM f - 1) * fM f := by
        rw [Int.natCast_mul, Int.toNat_of_nonneg (by omega), show (((fM f).toNat - 1 : Nat) : Int) = fM f - 1 by omega]
      have e6 : -fM f * fM f ≤ -((fM f - 1) * fM f) := by
        rw [Int.neg_mul, Int.sub_mul, Int.one_mul]
        omega
      generalize (fM f - 1) * fM f = X at *
      generalize -fM f * fM f = Y at *
      omega
    have := rsh_btw (x := A * B) (s := fB f) (how := m) (a := -fM f) (b := fM f - 1) (by rw [hpow]; exact h1.1) (by rw [hpow]; exact h1.2)
    omega
theorem mant_max {f A C : Int} (hA : mant f A) (hC : mant f C) : mant f (if A < C then C else A) := by
  split <;> assumption
theorem be_self (b : Bool) : (b == b) = Bool.true := by cases b <;> rfl
theorem be_tt : (Bool.true == Bool.true) = Bool.true := rfl
theorem be_tf : (Bool.true == Bool.false) = Bool.false := rfl
theorem be_ft : (Bool.false == Bool.true) = Bool.false := rfl
theorem be_ff : (Bool.false == Bool.false) = Bool.true := rfl
theorem rem_in (f a : Int) (hf : fmt f) : mant f (a.tmod (fM f)) := by
  rcases hf with rfl | rfl
  · show -32768 ≤ a.tmod 32768 ∧ a.tmod 32768 < 32768
    rw [Int.tmod_eq_emod]
    split <;> omega
  · show -2147483648 ≤ a.tmod 2147483648 ∧ a.tmod 2147483648 < 2147483648
    rw [Int.tmod_eq_emod]
    split <;> omega
theorem f_in (a : Int) : fmt ((IntKind.i64.wrap (a.tmod 2 + 2)).tmod 2) := by
  have h : -1 ≤ a.tmod 2 ∧ a.tmod 2 ≤ 1 := by rw [Int.tmod_eq_emod]; split <;> omega
  rw [wr (by omega), Int.tmod_eq_emod_of_nonneg (by omega)]
  omega
theorem m_in (a : Int) : 0 ≤ (IntKind.i64.wrap (a.tmod 3 + 3)).tmod 3 ∧ (IntKind.i64.wrap (a.tmod 3 + 3)).tmod 3 ≤ 2 := by
  have h : -2 ≤ a.tmod 3 ∧ a.tmod 3 ≤ 2 := by rw [Int.tmod_eq_emod]; split <;> omega
  rw [wr (by omega), Int.tmod_eq_emod_of_nonneg (by omega)]
  omega
theorem SatOnly.true (a b c format mode : Int) : Ok Try.prog 3 [.int a, .int b, .int c, .int format, .int mode] (.bool true) := by
  have hf := f_in format
  have hm := m_in mode
  refine ok_of (X := fun _ => []) (Z := fun _ => false) (res := [ResultVar.tmp 10]) tok follows Try.func3 rfl rfl fine3 (by kernel_rfl) (by kernel_rfl) ?_
  simp only [evA, evT, Go.undef, aload, astore, afieldAddr, afield, aindex, aindexAddr, abuild, abuildSlice, amakeSlice, aslice, aext, alen, aminmax, minmaxGo, aappend, newsOf, buildCells, cutRows, reps, setCells, AV.cells, allOne, AV.one, Value.oneCell', AV.pure, allPure, AV.free, allFree, rowsFree, Nat.reduceBEq, Nat.reduceAdd, Nat.reduceMul, Nat.reduceSub, Nat.reduceLT, Nat.reduceLeDiff, Int.reduceToNat, reduceIte, reduceCtorEq, Int.reduceLT, Int.reduceLE, Nat.reduceEqDiff, Int.reduceEq, Int.reduceNeg, Int.reduceMul, Int.reduceAdd, Int.reduceSub, Int.reduceBNe, Int.reduceBEq, apart, bnd]
  generalize (IntKind.i64.wrap (format.tmod 2 + 2)).tmod 2 = f at *
  generalize (IntKind.i64.wrap (mode.tmod 3 + 3)).tmod 3 = m at *
  have hA := rem_in f a hf
  have hB := rem_in f b hf
  have hC := rem_in f c hf
  have hp := fM_pos hf
  have hL : mant f (-fM f) := by unfold mant; omega
  have b0 : 0 ≤ fB f := by rcases hf with rfl | rfl <;> decide
  have b1 : ¬ fB f < 1 := by rcases hf with rfl | rfl <;> decide
  have sn : IntKind.i64.wrap (-1 * 2 ^ min (fB f).toNat IntKind.i64.bits) = -fM f := by rcases hf with rfl | rfl <;> decide
  have sp : IntKind.i64.wrap (1 * 2 ^ min (fB f).toNat IntKind.i64.bits) = fM f := by rcases hf with rfl | rfl <;> decide
  have ng : IntKind.i64.wrap (0 - -fM f) = fM f := by rw [wr (by omega)]; omega
  have nz : ¬ fM f = 0 := by omega
  have lo : ∀ v, (cl f v < -fM f) = False := fun v => eq_false (by have := cl_btw hf v; omega)
  have hi : ∀ v, (fM f ≤ cl f v) = False := fun v => eq_false (by have := cl_btw hf v; omega)
  refine call_ok (Bits.ok f hf) rfl ?_
  simp only [evA, evT, Go.undef, aload, astore, afieldAddr, afield, aindex, aindexAddr, abuild, abuildSlice, amakeSlice, aslice, aext, alen, aminmax, minmaxGo, aappend, newsOf, buildCells, cutRows, reps, setCells, AV.cells, allOne, AV.one, Value.oneCell', AV.pure, allPure, AV.free, allFree, rowsFree, Nat.reduceBEq, Nat.reduceAdd, Nat.reduceMul, Nat.reduceSub, Nat.reduceLT, Nat.reduceLeDiff, Int.reduceToNat, reduceIte, reduceCtorEq, Int.reduceLT, Int.reduceLE, Nat.reduceEqDiff, Int.reduceEq, Int.reduceNeg, Int.reduceMul, Int.reduceAdd, Int.reduceSub, Int.reduceBNe, Int.reduceBEq, apart, bnd, b0, b1, sn, sp, nz]
  generalize a.tmod (fM f) = A at *
  generalize b.tmod (fM f) = B at *
  generalize c.tmod (fM f) = C at *
  by_cases h1 : Go.bits .and .i64 C 1 = 1
  · by_cases h2 : Go.bits .and .i64 C 2 = 2
    · simp only [evA, evT, Go.undef, aload, astore, afieldAddr, afield, aindex, aindexAddr, abuild, abuildSlice, amakeSlice, aslice, aext, alen, aminmax, minmaxGo, aappend, newsOf, buildCells, cutRows, reps, setCells, AV.cells, allOne, AV.one, Value.oneCell', AV.pure, allPure, AV.free, allFree, rowsFree, Nat.reduceBEq, Nat.reduceAdd, Nat.reduceMul, Nat.reduceSub, Nat.reduceLT, Nat.reduceLeDiff, Int.reduceToNat, reduceIte, reduceCtorEq, Int.reduceLT, Int.reduceLE, Nat.reduceEqDiff, Int.reduceEq, Int.reduceNeg, Int.reduceMul, Int.reduceAdd, Int.reduceSub, Int.reduceBNe, Int.reduceBEq, apart, bnd, h1, h2]
      refine call_ok (Neg.ok (-fM f) f hf hL) rfl ?_
      simp only [evA, evT, Go.undef, aload, astore, afieldAddr, afield, aindex, aindexAddr, abuild, abuildSlice, amakeSlice, aslice, aext, alen, aminmax, minmaxGo, aappend, newsOf, buildCells, cutRows, reps, setCells, AV.cells, allOne, AV.one, Value.oneCell', AV.pure, allPure, AV.free, allFree, rowsFree, Nat.reduceBEq, Nat.reduceAdd, Nat.reduceMul, Nat.reduceSub, Nat.reduceLT, Nat.reduceLeDiff, Int.reduceToNat, reduceIte, reduceCtorEq, Int.reduceLT, Int.reduceLE, Nat.reduceEqDiff, Int.reduceEq, Int.reduceNeg, Int.reduceMul, Int.reduceAdd, Int.reduceSub, Int.reduceBNe, Int.reduceBEq, apart, bnd]
      refine call_ok (Mul.ok (-fM f) (-fM f) f m hf hL hL hm) rfl ?_
      simp only [evA, evT, Go.undef, aload, astore, afieldAddr, afield, aindex, aindexAddr, abuild, abuildSlice, amakeSlice, aslice, aext, alen, aminmax, minmaxGo, aappend, newsOf, buildCells, cutRows, reps, setCells, AV.cells, allOne, AV.one, Value.oneCell', AV.pure, allPure, AV.free, allFree, rowsFree, Nat.reduceBEq, Nat.reduceAdd, Nat.reduceMul, Nat.reduceSub, Nat.reduceLT, Nat.reduceLeDiff, Int.reduceToNat, reduceIte, reduceCtorEq, Int.reduceLT, Int.reduceLE, Nat.reduceEqDiff, Int.reduceEq, Int.reduceNeg, Int.reduceMul, Int.reduceAdd, Int.reduceSub, Int.reduceBNe, Int.reduceBEq, apart, bnd]
      refine call_ok (MulC.ok (-fM f) (-fM f) f m hf hL hL hm) rfl ?_
      simp only [evA, evT, Go.undef, aload, astore, afieldAddr, afield, aindex, aindexAddr, abuild, abuildSlice, amakeSlice, aslice, aext, alen, aminmax, minmaxGo, aappend, newsOf, buildCells, cutRows, reps, setCells, AV.cells, allOne, AV.one, Value.oneCell', AV.pure, allPure, AV.free, allFree, rowsFree, Nat.reduceBEq, Nat.reduceAdd, Nat.reduceMul, Nat.reduceSub, Nat.reduceLT, Nat.reduceLeDiff, Int.reduceToNat, reduceIte, reduceCtorEq, Int.reduceLT, Int.reduceLE, Nat.reduceEqDiff, Int.reduceEq, Int.reduceNeg, Int.reduceMul, Int.reduceAdd, Int.reduceSub, Int.reduceBNe, Int.reduceBEq, apart, bnd]
      refine call_ok (Add.ok (-fM f) (-fM f) f hf hL hL) rfl ?_
      simp only [evA, evT, Go.undef, aload, astore, afieldAddr, afield, aindex, aindexAddr, abuild, abuildSlice, amakeSlice, aslice, aext, alen, aminmax, minmaxGo, aappend, newsOf, buildCells, cutRows, reps, setCells, AV.cells, allOne, AV.one, Value.oneCell', AV.pure, allPure, AV.free, allFree, rowsFree, Nat.reduceBEq, Nat.reduceAdd, Nat.reduceMul, Nat.reduceSub, Nat.reduceLT, Nat.reduceLeDiff, Int.reduceToNat, reduceIte, reduceCtorEq, Int.reduceLT, Int.reduceLE, Nat.reduceEqDiff, Int.reduceEq, Int.reduceNeg, Int.reduceMul, Int.reduceAdd, Int.reduceSub, Int.reduceBNe, Int.reduceBEq, apart, bnd]
      refine call_ok (AddC.ok (-fM f) (-fM f) f hf hL hL) rfl ?_
      simp only [evA, evT, Go.undef, aload, astore, afieldAddr, afield, aindex, aindexAddr, abuild, abuildSlice, amakeSlice, aslice, aext, alen, aminmax, minmaxGo, aappend, newsOf, buildCells, cutRows, reps, setCells, AV.cells, allOne, AV.one, Value.oneCell', AV.pure, allPure, AV.free, allFree, rowsFree, Nat.reduceBEq, Nat.reduceAdd, Nat.reduceMul, Nat.reduceSub, Nat.reduceLT, Nat.reduceLeDiff, Int.reduceToNat, reduceIte, reduceCtorEq, Int.reduceLT, Int.reduceLE, Nat.reduceEqDiff, Int.reduceEq, Int.reduceNeg, Int.reduceMul, Int.reduceAdd, Int.reduceSub, Int.reduceBNe, Int.reduceBEq, apart, bnd]
      refine call_ok (Add.ok (if (-fM f) < C then C else (-fM f)) (-fM f) f hf (mant_max hL hC) hL) rfl ?_
      simp only [evA, evT, Go.undef, aload, astore, afieldAddr, afield, aindex, aindexAddr, abuild, abuildSlice, amakeSlice, aslice, aext, alen, aminmax, minmaxGo, aappend, newsOf, buildCells, cutRows, reps, setCells, AV.cells, allOne, AV.one, Value.oneCell', AV.pure, allPure, AV.free, allFree, rowsFree, Nat.reduceBEq, Nat.reduceAdd, Nat.reduceMul, Nat.reduceSub, Nat.reduceLT, Nat.reduceLeDiff, Int.reduceToNat, reduceIte, reduceCtorEq, Int.reduceLT, Int.reduceLE, Nat.reduceEqDiff, Int.reduceEq, Int.reduceNeg, Int.reduceMul, Int.reduceAdd, Int.reduceSub, Int.reduceBNe, Int.reduceBEq, apart, bnd]
      refine ⟨7, l_succ ?_⟩
      iterate 6
        simp only [evA, evT, Go.undef, aload, astore, afieldAddr, afield, aindex, aindexAddr, abuild, abuildSlice, amakeSlice, aslice, aext, alen, aminmax, minmaxGo, aappend, newsOf, buildCells, cutRows, reps, setCells, AV.cells, allOne, AV.one, Value.oneCell', AV.pure, allPure, AV.free, allFree, rowsFree, Nat.reduceBEq, Nat.reduceAdd, Nat.reduceMul, Nat.reduceSub, Nat.reduceLT, Nat.reduceLeDiff, Int.reduceToNat, reduceIte, reduceCtorEq, Int.reduceLT, Int.reduceLE, Nat.reduceEqDiff, Int.reduceEq, Int.reduceNeg, Int.reduceMul, Int.reduceAdd, Int.reduceSub, Int.reduceBNe, Int.reduceBEq, apart, bnd]
        refine l_succ ?_
      simp only [evA, evT, Go.undef, aload, astore, afieldAddr, afield, aindex, aindexAddr, abuild, abuildSlice, amakeSlice, aslice, aext, alen, aminmax, minmaxGo, aappend, newsOf, buildCells, cutRows, reps, setCells, AV.cells, allOne, AV.one, Value.oneCell', AV.pure, allPure, AV.free, allFree, rowsFree, Nat.reduceBEq, Nat.reduceAdd, Nat.reduceMul, Nat.reduceSub, Nat.reduceLT, Nat.reduceLeDiff, Int.reduceToNat, reduceIte, reduceCtorEq, Int.reduceLT, Int.reduceLE, Nat.reduceEqDiff, Int.reduceEq, Int.reduceNeg, Int.reduceMul, Int.reduceAdd, Int.reduceSub, Int.reduceBNe, Int.reduceBEq, apart, bnd]
      refine ⟨4, l_succ ?_⟩
      iterate 3
        simp only [evA, evT, Go.undef, aload, astore, afieldAddr, afield, aindex, aindexAddr, abuild, abuildSlice, amakeSlice, aslice, aext, alen, aminmax, minmaxGo, aappend, newsOf, buildCells, cutRows, reps, setCells, AV.cells, allOne, AV.one, Value.oneCell', AV.pure, allPure, AV.free, allFree, rowsFree, Nat.reduceBEq, Nat.reduceAdd, Nat.reduceMul, Nat.reduceSub, Nat.reduceLT, Nat.reduceLeDiff, Int.reduceToNat, reduceIte, reduceCtorEq, Int.reduceLT, Int.reduceLE, Nat.reduceEqDiff, Int.reduceEq, Int.reduceNeg, Int.reduceMul, Int.reduceAdd, Int.reduceSub, Int.reduceBNe, Int.reduceBEq, apart, bnd, lo, hi, ng]
        refine l_succ ?_
      simp only [evA, evT, Go.undef, aload, astore, afieldAddr, afield, aindex, aindexAddr, abuild, abuildSlice, amakeSlice, aslice, aext, alen, aminmax, minmaxGo, aappend, newsOf, buildCells, cutRows, reps, setCells, AV.cells, allOne, AV.one, Value.oneCell', AV.pure, allPure, AV.free, allFree, rowsFree, Nat.reduceBEq, Nat.reduceAdd, Nat.reduceMul, Nat.reduceSub, Nat.reduceLT, Nat.reduceLeDiff, Int.reduceToNat, reduceIte, reduceCtorEq, Int.reduceLT, Int.reduceLE, Nat.reduceEqDiff, Int.reduceEq, Int.reduceNeg, Int.reduceMul, Int.reduceAdd, Int.reduceSub, Int.reduceBNe, Int.reduceBEq, apart, bnd]
      refine call_ok aliveS.ok rfl ?_
      have fneg : (cl f (-(-fM f)) = -(-fM f)) = ¬ ((-fM f) = -fM f) := propext (neg_only hf hL)
      have fmul : (cl f (rsh ((-fM f) * (-fM f)) (fB f) m) = rsh ((-fM f) * (-fM f)) (fB f) m) = ¬ ((-fM f) = -fM f ∧ (-fM f) = -fM f) := propext (mul_only hf hL hL)
      have fge : (cl f ((-fM f) + (-fM f)) ≤ cl f ((if (-fM f) < C then C else (-fM f)) + (-fM f))) = True := eq_true (cl_mono hf (by split <;> omega))
      simp only [evA, evT, Go.undef, aload, astore, afieldAddr, afield, aindex, aindexAddr, abuild, abuildSlice, amakeSlice, aslice, aext, alen, aminmax, minmaxGo, aappend, newsOf, buildCells, cutRows, reps, setCells, AV.cells, allOne, AV.one, Value.oneCell', AV.pure, allPure, AV.free, allFree, rowsFree, Nat.reduceBEq, Nat.reduceAdd, Nat.reduceMul, Nat.reduceSub, Nat.reduceLT, Nat.reduceLeDiff, Int.reduceToNat, reduceIte, reduceCtorEq, Int.reduceLT, Int.reduceLE, Nat.reduceEqDiff, Int.reduceEq, Int.reduceNeg, Int.reduceMul, Int.reduceAdd, Int.reduceSub, Int.reduceBNe, Int.reduceBEq, apart, bnd, fneg, fmul, fge, be_self, be_tt, be_tf, be_ft, be_ff]
    · simp only [evA, evT, Go.undef, aload, astore, afieldAddr, afield, aindex, aindexAddr, abuild, abuildSlice, amakeSlice, aslice, aext, alen, aminmax, minmaxGo, aappend, newsOf, buildCells, cutRows, reps, setCells, AV.cells, allOne, AV.one, Value.oneCell', AV.pure, allPure, AV.free, allFree, rowsFree, Nat.reduceBEq, Nat.reduceAdd, Nat.reduceMul, Nat.reduceSub, Nat.reduceLT, Nat.reduceLeDiff, Int.reduceToNat, reduceIte, reduceCtorEq, Int.reduceLT, Int.reduceLE, Nat.reduceEqDiff, Int.reduceEq, Int.reduceNeg, Int.reduceMul, Int.reduceAdd, Int.reduceSub, Int.reduceBNe, Int.reduceBEq, apart, bnd, h1, h2]
      refine call_ok (Neg.ok (-fM f) f hf hL) rfl ?_
      simp only [evA, evT, Go.undef, aload, astore, afieldAddr, afield, aindex, aindexAddr, abuild, abuildSlice, amakeSlice, aslice, aext, alen, aminmax, minmaxGo, aappend, newsOf, buildCells, cutRows, reps, setCells, AV.cells, allOne, AV.one, Value.oneCell', AV.pure, allPure, AV.free, allFree, rowsFree, Nat.reduceBEq, Nat.reduceAdd, Nat.reduceMul, Nat.reduceSub, Nat.reduceLT, Nat.reduceLeDiff, Int.reduceToNat, reduceIte, reduceCtorEq, Int.reduceLT, Int.reduceLE, Nat.reduceEqDiff, Int.reduceEq, Int.reduceNeg, Int.reduceMul, Int.reduceAdd, Int.reduceSub, Int.reduceBNe, Int.reduceBEq, apart, bnd]
      refine call_ok (Mul.ok (-fM f) B f m hf hL hB hm) rfl ?_
      simp only [evA, evT, Go.undef, aload, astore, afieldAddr, afield, aindex, aindexAddr, abuild, abuildSlice, amakeSlice, aslice, aext, alen, aminmax, minmaxGo, aappend, newsOf, buildCells, cutRows, reps, setCells, AV.cells, allOne, AV.one, Value.oneCell', AV.pure, allPure, AV.free, allFree, rowsFree, Nat.reduceBEq, Nat.reduceAdd, Nat.reduceMul, Nat.reduceSub, Nat.reduceLT, Nat.reduceLeDiff, Int.reduceToNat, reduceIte, reduceCtorEq, Int.reduceLT, Int.reduceLE, Nat.reduceEqDiff, Int.reduceEq, Int.reduceNeg, Int.reduceMul, Int.reduceAdd, Int.reduceSub, Int.reduceBNe, Int.reduceBEq, apart, bnd]
      refine call_ok (MulC.ok (-fM f) B f m hf hL hB hm) rfl ?_
      simp only [evA, evT, Go.undef, aload, astore, afieldAddr, afield, aindex, aindexAddr, abuild, abuildSlice, amakeSlice, aslice, aext, alen, aminmax, minmaxGo, aappend, newsOf, buildCells, cutRows, reps, setCells, AV.cells, allOne, AV.one, Value.oneCell', AV.pure, allPure, AV.free, allFree, rowsFree, Nat.reduceBEq, Nat.reduceAdd, Nat.reduceMul, Nat.reduceSub, Nat.reduceLT, Nat.reduceLeDiff, Int.reduceToNat, reduceIte, reduceCtorEq, Int.reduceLT, Int.reduceLE, Nat.reduceEqDiff, Int.reduceEq, Int.reduceNeg, Int.reduceMul, Int.reduceAdd, Int.reduceSub, Int.reduceBNe, Int.reduceBEq, apart, bnd]
      refine call_ok (Add.ok (-fM f) B f hf hL hB) rfl ?_
      simp only [evA, evT, Go.undef, aload, astore, afieldAddr, afield, aindex, aindexAddr, abuild, abuildSlice, amakeSlice, aslice, aext, alen, aminmax, minmaxGo, aappend, newsOf, buildCells, cutRows, reps, setCells, AV.cells, allOne, AV.one, Value.oneCell', AV.pure, allPure, AV.free, allFree, rowsFree, Nat.reduceBEq, Nat.reduceAdd, Nat.reduceMul, Nat.reduceSub, Nat.reduceLT, Nat.reduceLeDiff, Int.reduceToNat, reduceIte, reduceCtorEq, Int.reduceLT, Int.reduceLE, Nat.reduceEqDiff, Int.reduceEq, Int.reduceNeg, Int.reduceMul, Int.reduceAdd, Int.reduceSub, Int.reduceBNe, Int.reduceBEq, apart, bnd]
      refine call_ok (AddC.ok (-fM f) B f hf hL hB) rfl ?_
      simp only [evA, evT, Go.undef, aload, astore, afieldAddr, afield, aindex, aindexAddr, abuild, abuildSlice, amakeSlice, aslice, aext, alen, aminmax, minmaxGo, aappend, newsOf, buildCells, cutRows, reps, setCells, AV.cells, allOne, AV.one, Value.oneCell', AV.pure, allPure, AV.free, allFree, rowsFree, Nat.reduceBEq, Nat.reduceAdd, Nat.reduceMul, Nat.reduceSub, Nat.reduceLT, Nat.reduceLeDiff, Int.reduceToNat, reduceIte, reduceCtorEq, Int.reduceLT, Int.reduceLE, Nat.reduceEqDiff, Int.reduceEq, Int.reduceNeg, Int.reduceMul, Int.reduceAdd, Int.reduceSub, Int.reduceBNe, Int.reduceBEq, apart, bnd]
      refine call_ok (Add.ok (if (-fM f) < C then C else (-fM f)) B f hf (mant_max hL hC) hB) rfl ?_
      simp only [evA, evT, Go.undef, aload, astore, afieldAddr, afield, aindex, aindexAddr, abuild, abuildSlice, amakeSlice, aslice, aext, alen, aminmax, minmaxGo, aappend, newsOf, buildCells, cutRows, reps, setCells, AV.cells, allOne, AV.one, Value.oneCell', AV.pure, allPure, AV.free, allFree, rowsFree, Nat.reduceBEq, Nat.reduceAdd, Nat.reduceMul, Nat.reduceSub, Nat.reduceLT, Nat.reduceLeDiff, Int.reduceToNat, reduceIte, reduceCtorEq, Int.reduceLT, Int.reduceLE, Nat.reduceEqDiff, Int.reduceEq, Int.reduceNeg, Int.reduceMul, Int.reduceAdd, Int.reduceSub, Int.reduceBNe, Int.reduceBEq, apart, bnd]
      refine ⟨7, l_succ ?_⟩
      iterate 6
        simp only [evA, evT, Go.undef, aload, astore, afieldAddr, afield, aindex, aindexAddr, abuild, abuildSlice, amakeSlice, aslice, aext, alen, aminmax, minmaxGo, aappend, newsOf, buildCells, cutRows, reps, setCells, AV.cells, allOne, AV.one, Value.oneCell', AV.pure, allPure, AV.free, allFree, rowsFree, Nat.reduceBEq, Nat.reduceAdd, Nat.reduceMul, Nat.reduceSub, Nat.reduceLT, Nat.reduceLeDiff, Int.reduceToNat, reduceIte, reduceCtorEq, Int.reduceLT, Int.reduceLE, Nat.reduceEqDiff, Int.reduceEq, Int.reduceNeg, Int.reduceMul, Int.reduceAdd, Int.reduceSub, Int.reduceBNe, Int.reduceBEq, apart, bnd]
        refine l_succ ?_
      simp only [evA, evT, Go.undef, aload, astore, afieldAddr, afield, aindex, aindexAddr, abuild, abuildSlice, amakeSlice, aslice, aext, alen, aminmax, minmaxGo, aappend, newsOf, buildCells, cutRows, reps, setCells, AV.cells, allOne, AV.one, Value.oneCell', AV.pure, allPure, AV.free, allFree, rowsFree, Nat.reduceBEq, Nat.reduceAdd, Nat.reduceMul, Nat.reduceSub, Nat.reduceLT, Nat.reduceLeDiff, Int.reduceToNat, reduceIte, reduceCtorEq, Int.reduceLT, Int.reduceLE, Nat.reduceEqDiff, Int.reduceEq, Int.reduceNeg, Int.reduceMul, Int.reduceAdd, Int.reduceSub, Int.reduceBNe, Int.reduceBEq, apart, bnd]
      refine ⟨4, l_succ ?_⟩
      iterate 3
        simp only [evA, evT, Go.undef, aload, astore, afieldAddr, afield, aindex, aindexAddr, abuild, abuildSlice, amakeSlice, aslice, aext, alen, aminmax, minmaxGo, aappend, newsOf, buildCells, cutRows, reps, setCells, AV.cells, allOne, AV.one, Value.oneCell', AV.pure, allPure, AV.free, allFree, rowsFree, Nat.reduceBEq, Nat.reduceAdd, Nat.reduceMul, Nat.reduceSub, Nat.reduceLT, Nat.reduceLeDiff, Int.reduceToNat, reduceIte, reduceCtorEq, Int.reduceLT, Int.reduceLE, Nat.reduceEqDiff, Int.reduceEq, Int.reduceNeg, Int.reduceMul, Int.reduceAdd, Int.reduceSub, Int.reduceBNe, Int.reduceBEq, apart, bnd, lo, hi, ng]
        refine l_succ ?_
      simp only [evA, evT, Go.undef, aload, astore, afieldAddr, afield, aindex, aindexAddr, abuild, abuildSlice, amakeSlice, aslice, aext, alen, aminmax, minmaxGo, aappend, newsOf, buildCells, cutRows, reps, setCells, AV.cells, allOne, AV.one, Value.oneCell', AV.pure, allPure, AV.free, allFree, rowsFree, Nat.reduceBEq, Nat.reduceAdd, Nat.reduceMul, Nat.reduceSub, Nat.reduceLT, Nat.reduceLeDiff, Int.reduceToNat, reduceIte, reduceCtorEq, Int.reduceLT, Int.reduceLE, Nat.reduceEqDiff, Int.reduceEq, Int.reduceNeg, Int.reduceMul, Int.reduceAdd, Int.reduceSub, Int.reduceBNe, Int.reduceBEq, apart, bnd]
      refine call_ok aliveS.ok rfl ?_
      have fneg : (cl f (-(-fM f)) = -(-fM f)) = ¬ ((-fM f) = -fM f) := propext (neg_only hf hL)
      have fmul : (cl f (rsh ((-fM f) * B) (fB f) m) = rsh ((-fM f) * B) (fB f) m) = ¬ ((-fM f) = -fM f ∧ B = -fM f) := propext (mul_only hf hL hB)
      have fge : (cl f ((-fM f) + B) ≤ cl f ((if (-fM f) < C then C else (-fM f)) + B)) = True := eq_true (cl_mono hf (by split <;> omega))
      by_cases eB : B = -fM f
      · simp only [evA, evT, Go.undef, aload, astore, afieldAddr, afield, aindex, aindexAddr, abuild, abuildSlice, amakeSlice, aslice, aext, alen, aminmax, minmaxGo, aappend, newsOf, buildCells, cutRows, reps, setCells, AV.cells, allOne, AV.one, Value.oneCell', AV.pure, allPure, AV.free, allFree, rowsFree, Nat.reduceBEq, Nat.reduceAdd, Nat.reduceMul, Nat.reduceSub, Nat.reduceLT, Nat.reduceLeDiff, Int.reduceToNat, reduceIte, reduceCtorEq, Int.reduceLT, Int.reduceLE, Nat.reduceEqDiff, Int.reduceEq, Int.reduceNeg, Int.reduceMul, Int.reduceAdd, Int.reduceSub, Int.reduceBNe, Int.reduceBEq, apart, bnd, fneg, fmul, fge, be_self, be_tt, be_tf, be_ft, be_ff, eq_true eB]
      · simp only [evA, evT, Go.undef, aload, astore, afieldAddr, afield, aindex, aindexAddr, abuild, abuildSlice, amakeSlice, aslice, aext, alen, aminmax, minmaxGo, aappend, newsOf, buildCells, cutRows, reps, setCells, AV.cells, allOne, AV.one, Value.oneCell', AV.pure, allPure, AV.free, allFree, rowsFree, Nat.reduceBEq, Nat.reduceAdd, Nat.reduceMul, Nat.reduceSub, Nat.reduceLT, Nat.reduceLeDiff, Int.reduceToNat, reduceIte, reduceCtorEq, Int.reduceLT, Int.reduceLE, Nat.reduceEqDiff, Int.reduceEq, Int.reduceNeg, Int.reduceMul, Int.reduceAdd, Int.reduceSub, Int.reduceBNe, Int.reduceBEq, apart, bnd, fneg, fmul, fge, be_self, be_tt, be_tf, be_ft, be_ff, eq_false eB]
  · by_cases h2 : Go.bits .and .i64 C 2 = 2
    · simp only [evA, evT, Go.undef, aload, astore, afieldAddr, afield, aindex, aindexAddr, abuild, abuildSlice, amakeSlice, aslice, aext, alen, aminmax, minmaxGo, aappend, newsOf, buildCells, cutRows, reps, setCells, AV.cells, allOne, AV.one, Value.oneCell', AV.pure, allPure, AV.free, allFree, rowsFree, Nat.reduceBEq, Nat.reduceAdd, Nat.reduceMul, Nat.reduceSub, Nat.reduceLT, Nat.reduceLeDiff, Int.reduceToNat, reduceIte, reduceCtorEq, Int.reduceLT, Int.reduceLE, Nat.reduceEqDiff, Int.reduceEq, Int.reduceNeg, Int.reduceMul, Int.reduceAdd, Int.reduceSub, Int.reduceBNe, Int.reduceBEq, apart, bnd, h1, h2]
      refine call_ok (Neg.ok A f hf hA) rfl ?_
      simp only [evA, evT, Go.undef, aload, astore, afieldAddr, afield, aindex, aindexAddr, abuild, abuildSlice, amakeSlice, aslice, aext, alen, aminmax, minmaxGo, aappend, newsOf, buildCells, cutRows, reps, setCells, AV.cells, allOne, AV.one, Value.oneCell', AV.pure, allPure, AV.free, allFree, rowsFree, Nat.reduceBEq, Nat.reduceAdd, Nat.reduceMul, Nat.reduceSub, Nat.reduceLT, Nat.reduceLeDiff, Int.reduceToNat, reduceIte, reduceCtorEq, Int.reduceLT, Int.reduceLE, Nat.reduceEqDiff, Int.reduceEq, Int.reduceNeg, Int.reduceMul, Int.reduceAdd, Int.reduceSub, Int.reduceBNe, Int.reduceBEq, apart, bnd]
      refine call_ok (Mul.ok A (-fM f) f m hf hA hL hm) rfl ?_
      simp only [evA, evT, Go.undef, aload, astore, afieldAddr, afield, aindex, aindexAddr, abuild, abuildSlice, amakeSlice, aslice, aext, alen, aminmax, minmaxGo, aappend, newsOf, buildCells, cutRows, reps, setCells, AV.cells, allOne, AV.one, Value.oneCell', AV.pure, allPure, AV.free, allFree, rowsFree, Nat.reduceBEq, Nat.reduceAdd, Nat.reduceMul, Nat.reduceSub, Nat.reduceLT, Nat.reduceLeDiff, Int.reduceToNat, reduceIte, reduceCtorEq, Int.reduceLT, Int.reduceLE, Nat.reduceEqDiff, Int.reduceEq, Int.reduceNeg, Int.reduceMul, Int.reduceAdd, Int.reduceSub, Int.reduceBNe, Int.reduceBEq, apart, bnd]
      refine call_ok (MulC.ok A (-fM f) f m hf hA hL hm) rfl ?_
      simp only [evA, evT, Go.undef, aload, astore, afieldAddr, afield, aindex, aindexAddr, abuild, abuildSlice, amakeSlice, aslice, aext, alen, aminmax, minmaxGo, aappend, newsOf, buildCells, cutRows, reps, setCells, AV.cells, allOne, AV.one, Value.oneCell', AV.pure, allPure, AV.free, allFree, rowsFree, Nat.reduceBEq, Nat.reduceAdd, Nat.reduceMul, Nat.reduceSub, Nat.reduceLT, Nat.reduceLeDiff, Int.reduceToNat, reduceIte, reduceCtorEq, Int.reduceLT, Int.reduceLE, Nat.reduceEqDiff, Int.reduceEq, Int.reduceNeg, Int.reduceMul, Int.reduceAdd, Int.reduceSub, Int.reduceBNe, Int.reduceBEq, apart, bnd]
      refine call_ok (Add.ok A (-fM f) f hf hA hL) rfl ?_
      simp only [evA, evT, Go.undef, aload, astore, afieldAddr, afield, aindex, aindexAddr, abuild, abuildSlice, amakeSlice, aslice, aext, alen, aminmax, minmaxGo, aappend, newsOf, buildCells, cutRows, reps, setCells, AV.cells, allOne, AV.one, Value.oneCell', AV.pure, allPure, AV.free, allFree, rowsFree, Nat.reduceBEq, Nat.reduceAdd, Nat.reduceMul, Nat.reduceSub, Nat.reduceLT, Nat.reduceLeDiff, Int.reduceToNat, reduceIte, reduceCtorEq, Int.reduceLT, Int.reduceLE, Nat.reduceEqDiff, Int.reduceEq, Int.reduceNeg, Int.reduceMul, Int.reduceAdd, Int.reduceSub, Int.reduceBNe, Int.reduceBEq, apart, bnd]
      refine call_ok (AddC.ok A (-fM f) f hf hA hL) rfl ?_
      simp only [evA, evT, Go.undef, aload, astore, afieldAddr, afield, aindex, aindexAddr, abuild, abuildSlice, amakeSlice, aslice, aext, alen, aminmax, minmaxGo, aappend, newsOf, buildCells, cutRows, reps, setCells, AV.cells, allOne, AV.one, Value.oneCell', AV.pure, allPure, AV.free, allFree, rowsFree, Nat.reduceBEq, Nat.reduceAdd, Nat.reduceMul, Nat.reduceSub, Nat.reduceLT, Nat.reduceLeDiff, Int.reduceToNat, reduceIte, reduceCtorEq, Int.reduceLT, Int.reduceLE, Nat.reduceEqDiff, Int.reduceEq, Int.reduceNeg, Int.reduceMul, Int.reduceAdd, Int.reduceSub, Int.reduceBNe, Int.reduceBEq, apart, bnd]
      refine call_ok (Add.ok (if A < C then C else A) (-fM f) f hf (mant_max hA hC) hL) rfl ?_
      simp only [evA, evT, Go.undef, aload, astore, afieldAddr, afield, aindex, aindexAddr, abuild, abuildSlice, amakeSlice, aslice, aext, alen, aminmax, minmaxGo, aappend, newsOf, buildCells, cutRows, reps, setCells, AV.cells, allOne, AV.one, Value.oneCell', AV.pure, allPure, AV.free, allFree, rowsFree, Nat.reduceBEq, Nat.reduceAdd, Nat.reduceMul, Nat.reduceSub, Nat.reduceLT, Nat.reduceLeDiff, Int.reduceToNat, reduceIte, reduceCtorEq, Int.reduceLT, Int.reduceLE, Nat.reduceEqDiff, Int.reduceEq, Int.reduceNeg, Int.reduceMul, Int.reduceAdd, Int.reduceSub, Int.reduceBNe, Int.reduceBEq, apart, bnd]
      refine ⟨7, l_succ ?_⟩
      iterate 6
        simp only [evA, evT, Go.undef, aload, astore, afieldAddr, afield, aindex, aindexAddr, abuild, abuildSlice, amakeSlice, aslice, aext, alen, aminmax, minmaxGo, aappend, newsOf, buildCells, cutRows, reps, setCells, AV.cells, allOne, AV.one, Value.oneCell', AV.pure, allPure, AV.free, allFree, rowsFree, Nat.reduceBEq, Nat.reduceAdd, Nat.reduceMul, Nat.reduceSub, Nat.reduceLT, Nat.reduceLeDiff, Int.reduceToNat, reduceIte, reduceCtorEq, Int.reduceLT, Int.reduceLE, Nat.reduceEqDiff, Int.reduceEq, Int.reduceNeg, Int.reduceMul, Int.reduceAdd, Int.reduceSub, Int.reduceBNe, Int.reduceBEq, apart, bnd]
        refine l_succ ?_
      simp only [evA, evT, Go.undef, aload, astore, afieldAddr, afield, aindex, aindexAddr, abuild, abuildSlice, amakeSlice, aslice, aext, alen, aminmax, minmaxGo, aappend, newsOf, buildCells, cutRows, reps, setCells, AV.cells, allOne, AV.one, Value.oneCell', AV.pure, allPure, AV.free, allFree, rowsFree, Nat.reduceBEq, Nat.reduceAdd, Nat.reduceMul, Nat.reduceSub, Nat.reduceLT, Nat.reduceLeDiff, Int.reduceToNat, reduceIte, reduceCtorEq, Int.reduceLT, Int.reduceLE, Nat.reduceEqDiff, Int.reduceEq, Int.reduceNeg, Int.reduceMul, Int.reduceAdd, Int.reduceSub, Int.reduceBNe, Int.reduceBEq, apart, bnd]
      refine ⟨4, l_succ ?_⟩
      iterate 3
        simp only [evA, evT, Go.undef, aload, astore, afieldAddr, afield, aindex, aindexAddr, abuild, abuildSlice, amakeSlice, aslice, aext, alen, aminmax, minmaxGo, aappend, newsOf, buildCells, cutRows, reps, setCells, AV.cells, allOne, AV.one, Value.oneCell', AV.pure, allPure, AV.free, allFree, rowsFree, Nat.reduceBEq, Nat.reduceAdd, Nat.reduceMul, Nat.reduceSub, Nat.reduceLT, Nat.reduceLeDiff, Int.reduceToNat, reduceIte, reduceCtorEq, Int.reduceLT, Int.reduceLE, Nat.reduceEqDiff, Int.reduceEq, Int.reduceNeg, Int.reduceMul, Int.reduceAdd, Int.reduceSub, Int.reduceBNe, Int.reduceBEq, apart, bnd, lo, hi, ng]
        refine l_succ ?_
      simp only [evA, evT, Go.undef, aload, astore, afieldAddr, afield, aindex, aindexAddr, abuild, abuildSlice, amakeSlice, aslice, aext, alen, aminmax, minmaxGo, aappend, newsOf, buildCells, cutRows, reps, setCells, AV.cells, allOne, AV.one, Value.oneCell', AV.pure, allPure, AV.free, allFree, rowsFree, Nat.reduceBEq, Nat.reduceAdd, Nat.reduceMul, Nat.reduceSub, Nat.reduceLT, Nat.reduceLeDiff, Int.reduceToNat, reduceIte, reduceCtorEq, Int.reduceLT, Int.reduceLE, Nat.reduceEqDiff, Int.reduceEq, Int.reduceNeg, Int.reduceMul, Int.reduceAdd, Int.reduceSub, Int.reduceBNe, Int.reduceBEq, apart, bnd]
      refine call_ok aliveS.ok rfl ?_
      have fneg : (cl f (-A) = -A) = ¬ (A = -fM f) := propext (neg_only hf hA)
      have fmul : (cl f (rsh (A * (-fM f)) (fB f) m) = rsh (A * (-fM f)) (fB f) m) = ¬ (A = -fM f ∧ (-fM f) = -fM f) := propext (mul_only hf hA hL)
      have fge : (cl f (A + (-fM f)) ≤ cl f ((if A < C then C else A) + (-fM f))) = True := eq_true (cl_mono hf (by split <;> omega))
      by_cases eA : A = -fM f
      · simp only [evA, evT, Go.undef, aload, astore, afieldAddr, afield, aindex, aindexAddr, abuild, abuildSlice, amakeSlice, aslice, aext, alen, aminmax, minmaxGo, aappend, newsOf, buildCells, cutRows, reps, setCells, AV.cells, allOne, AV.one, Value.oneCell', AV.pure, allPure, AV.free, allFree, rowsFree, Nat.reduceBEq, Nat.reduceAdd, Nat.reduceMul, Nat.reduceSub, Nat.reduceLT, Nat.reduceLeDiff, Int.reduceToNat, reduceIte, reduceCtorEq, Int.reduceLT, Int.reduceLE, Nat.reduceEqDiff, Int.reduceEq, Int.reduceNeg, Int.reduceMul, Int.reduceAdd, Int.reduceSub, Int.reduceBNe, Int.reduceBEq, apart, bnd, fneg, fmul, fge, be_self, be_tt, be_tf, be_ft, be_ff, eq_true eA]
      · simp only [evA, evT, Go.undef, aload, astore, afieldAddr, afield, aindex, aindexAddr, abuild, abuildSlice, amakeSlice, aslice, aext, alen, aminmax, minmaxGo, aappend, newsOf, buildCells, cutRows, reps, setCells, AV.cells, allOne, AV.one, Value.oneCell', AV.pure, allPure, AV.free, allFree, rowsFree, Nat.reduceBEq, Nat.reduceAdd, Nat.reduceMul, Nat.reduceSub, Nat.reduceLT, Nat.reduceLeDiff, Int.reduceToNat, reduceIte, reduceCtorEq, Int.reduceLT, Int.reduceLE, Nat.reduceEqDiff, Int.reduceEq, Int.reduceNeg, Int.reduceMul, Int.reduceAdd, Int.reduceSub, Int.reduceBNe, Int.reduceBEq, apart, bnd, fneg, fmul, fge, be_self, be_tt, be_tf, be_ft, be_ff, eq_false eA]
    · simp only [evA, evT, Go.undef, aload, astore, afieldAddr, afield, aindex, aindexAddr, abuild, abuildSlice, amakeSlice, aslice, aext, alen, aminmax, minmaxGo, aappend, newsOf, buildCells, cutRows, reps, setCells, AV.cells, allOne, AV.one, Value.oneCell', AV.pure, allPure, AV.free, allFree, rowsFree, Nat.reduceBEq, Nat.reduceAdd, Nat.reduceMul, Nat.reduceSub, Nat.reduceLT, Nat.reduceLeDiff, Int.reduceToNat, reduceIte, reduceCtorEq, Int.reduceLT, Int.reduceLE, Nat.reduceEqDiff, Int.reduceEq, Int.reduceNeg, Int.reduceMul, Int.reduceAdd, Int.reduceSub, Int.reduceBNe, Int.reduceBEq, apart, bnd, h1, h2]
      refine call_ok (Neg.ok A f hf hA) rfl ?_
      simp only [evA, evT, Go.undef, aload, astore, afieldAddr, afield, aindex, aindexAddr, abuild, abuildSlice, amakeSlice, aslice, aext, alen, aminmax, minmaxGo, aappend, newsOf, buildCells, cutRows, reps, setCells, AV.cells, allOne, AV.one, Value.oneCell', AV.pure, allPure, AV.free, allFree, rowsFree, Nat.reduceBEq, Nat.reduceAdd, Nat.reduceMul, Nat.reduceSub, Nat.reduceLT, Nat.reduceLeDiff, Int.reduceToNat, reduceIte, reduceCtorEq, Int.reduceLT, Int.reduceLE, Nat.reduceEqDiff, Int.reduceEq, Int.reduceNeg, Int.reduceMul, Int.reduceAdd, Int.reduceSub, Int.reduceBNe, Int.reduceBEq, apart, bnd]
      refine call_ok (Mul.ok A B f m hf hA hB hm) rfl ?_
      simp only [evA, evT, Go.undef, aload, astore, afieldAddr, afield, aindex, aindexAddr, abuild, abuildSlice, amakeSlice, aslice, aext, alen, aminmax, minmaxGo, aappend, newsOf, buildCells, cutRows, reps, setCells, AV.cells, allOne, AV.one, Value.oneCell', AV.pure, allPure, AV.free, allFree, rowsFree, Nat.reduceBEq, Nat.reduceAdd, Nat.reduceMul, Nat.reduceSub, Nat.reduceLT, Nat.reduceLeDiff, Int.reduceToNat, reduceIte, reduceCtorEq, Int.reduceLT, Int.reduceLE, Nat.reduceEqDiff, Int.reduceEq, Int.reduceNeg, Int.reduceMul, Int.reduceAdd, Int.reduceSub, Int.reduceBNe, Int.reduceBEq, apart, bnd]
      refine call_ok (MulC.ok A B f m hf hA hB hm) rfl ?_
      simp only [evA, evT, Go.undef, aload, astore, afieldAddr, afield, aindex, aindexAddr, abuild, abuildSlice, amakeSlice, aslice, aext, alen, aminmax, minmaxGo, aappend, newsOf, buildCells, cutRows, reps, setCells, AV.cells, allOne, AV.one, Value.oneCell', AV.pure, allPure, AV.free, allFree, rowsFree, Nat.reduceBEq, Nat.reduceAdd, Nat.reduceMul, Nat.reduceSub, Nat.reduceLT, Nat.reduceLeDiff, Int.reduceToNat, reduceIte, reduceCtorEq, Int.reduceLT, Int.reduceLE, Nat.reduceEqDiff, Int.reduceEq, Int.reduceNeg, Int.reduceMul, Int.reduceAdd, Int.reduceSub, Int.reduceBNe, Int.reduceBEq, apart, bnd]
      refine call_ok (Add.ok A B f hf hA hB) rfl ?_
      simp only [evA, evT, Go.undef, aload, astore, afieldAddr, afield, aindex, aindexAddr, abuild, abuildSlice, amakeSlice, aslice, aext, alen, aminmax, minmaxGo, aappend, newsOf, buildCells, cutRows, reps, setCells, AV.cells, allOne, AV.one, Value.oneCell', AV.pure, allPure, AV.free, allFree, rowsFree, Nat.reduceBEq, Nat.reduceAdd, Nat.reduceMul, Nat.reduceSub, Nat.reduceLT, Nat.reduceLeDiff, Int.reduceToNat, reduceIte, reduceCtorEq, Int.reduceLT, Int.reduceLE, Nat.reduceEqDiff, Int.reduceEq, Int.reduceNeg, Int.reduceMul, Int.reduceAdd, Int.reduceSub, Int.reduceBNe, Int.reduceBEq, apart, bnd]
      refine call_ok (AddC.ok A B f hf hA hB) rfl ?_
      simp only [evA, evT, Go.undef, aload, astore, afieldAddr, afield, aindex, aindexAddr, abuild, abuildSlice, amakeSlice, aslice, aext, alen, aminmax, minmaxGo, aappend, newsOf, buildCells, cutRows, reps, setCells, AV.cells, allOne, AV.one, Value.oneCell', AV.pure, allPure, AV.free, allFree, rowsFree, Nat.reduceBEq, Nat.reduceAdd, Nat.reduceMul, Nat.reduceSub, Nat.reduceLT, Nat.reduceLeDiff, Int.reduceToNat, reduceIte, reduceCtorEq, Int.reduceLT, Int.reduceLE, Nat.reduceEqDiff, Int.reduceEq, Int.reduceNeg, Int.reduceMul, Int.reduceAdd, Int.reduceSub, Int.reduceBNe, Int.reduceBEq, apart, bnd]
      refine call_ok (Add.ok (if A < C then C else A) B f hf (mant_max hA hC) hB) rfl ?_
      simp only [evA, evT, Go.undef, aload, astore, afieldAddr, afield, aindex, aindexAddr, abuild, abuildSlice, amakeSlice, aslice, aext, alen, aminmax, minmaxGo, aappend, newsOf, buildCells, cutRows, reps, setCells, AV.cells, allOne, AV.one, Value.oneCell', AV.pure, allPure, AV.free, allFree, rowsFree, Nat.reduceBEq, Nat.reduceAdd, Nat.reduceMul, Nat.reduceSub, Nat.reduceLT, Nat.reduceLeDiff, Int.reduceToNat, reduceIte, reduceCtorEq, Int.reduceLT, Int.reduceLE, Nat.reduceEqDiff, Int.reduceEq, Int.reduceNeg, Int.reduceMul, Int.reduceAdd, Int.reduceSub, Int.reduceBNe, Int.reduceBEq, apart, bnd]
      refine ⟨7, l_succ ?_⟩
      iterate 6
        simp only [evA, evT, Go.undef, aload, astore, afieldAddr, afield, aindex, aindexAddr, abuild, abuildSlice, amakeSlice, aslice, aext, alen, aminmax, minmaxGo, aappend, newsOf, buildCells, cutRows, reps, setCells, AV.cells, allOne, AV.one, Value.oneCell', AV.pure, allPure, AV.free, allFree, rowsFree, Nat.reduceBEq, Nat.reduceAdd, Nat.reduceMul, Nat.reduceSub, Nat.reduceLT, Nat.reduceLeDiff, Int.reduceToNat, reduceIte, reduceCtorEq, Int.reduceLT, Int.reduceLE, Nat.reduceEqDiff, Int.reduceEq, Int.reduceNeg, Int.reduceMul, Int.reduceAdd, Int.reduceSub, Int.reduceBNe, Int.reduceBEq, apart, bnd]
        refine l_succ ?_
      simp only [evA, evT, Go.undef, aload, astore, afieldAddr, afield, aindex, aindexAddr, abuild, abuildSlice, amakeSlice, aslice, aext, alen, aminmax, minmaxGo, aappend, newsOf, buildCells, cutRows, reps, setCells, AV.cells, allOne, AV.one, Value.oneCell', AV.pure, allPure, AV.free, allFree, rowsFree, Nat.reduceBEq, Nat.reduceAdd, Nat.reduceMul, Nat.reduceSub, Nat.reduceLT, Nat.reduceLeDiff, Int.reduceToNat, reduceIte, reduceCtorEq, Int.reduceLT, Int.reduceLE, Nat.reduceEqDiff, Int.reduceEq, Int.reduceNeg, Int.reduceMul, Int.reduceAdd, Int.reduceSub, Int.reduceBNe, Int.reduceBEq, apart, bnd]
      refine ⟨4, l_succ ?_⟩
      iterate 3
        simp only [evA, evT, Go.undef, aload, astore, afieldAddr, afield, aindex, aindexAddr, abuild, abuildSlice, amakeSlice, aslice, aext, alen, aminmax, minmaxGo, aappend, newsOf, buildCells, cutRows, reps, setCells, AV.cells, allOne, AV.one, Value.oneCell', AV.pure, allPure, AV.free, allFree, rowsFree, Nat.reduceBEq, Nat.reduceAdd, Nat.reduceMul, Nat.reduceSub, Nat.reduceLT, Nat.reduceLeDiff, Int.reduceToNat, reduceIte, reduceCtorEq, Int.reduceLT, Int.reduceLE, Nat.reduceEqDiff, Int.reduceEq, Int.reduceNeg, Int.reduceMul, Int.reduceAdd, Int.reduceSub, Int.reduceBNe, Int.reduceBEq, apart, bnd, lo, hi, ng]
        refine l_succ ?_
      simp only [evA, evT, Go.undef, aload, astore, afieldAddr, afield, aindex, aindexAddr, abuild, abuildSlice, amakeSlice, aslice, aext, alen, aminmax, minmaxGo, aappend, newsOf, buildCells, cutRows, reps, setCells, AV.cells, allOne, AV.one, Value.oneCell', AV.pure, allPure, AV.free, allFree, rowsFree, Nat.reduceBEq, Nat.reduceAdd, Nat.reduceMul, Nat.reduceSub, Nat.reduceLT, Nat.reduceLeDiff, Int.reduceToNat, reduceIte, reduceCtorEq, Int.reduceLT, Int.reduceLE, Nat.reduceEqDiff, Int.reduceEq, Int.reduceNeg, Int.reduceMul, Int.reduceAdd, Int.reduceSub, Int.reduceBNe, Int.reduceBEq, apart, bnd]
      refine call_ok aliveS.ok rfl ?_
      have fneg : (cl f (-A) = -A) = ¬ (A = -fM f) := propext (neg_only hf hA)
      have fmul : (cl f (rsh (A * B) (fB f) m) = rsh (A * B) (fB f) m) = ¬ (A = -fM f ∧ B = -fM f) := propext (mul_only hf hA hB)
      have fge : (cl f (A + B) ≤ cl f ((if A < C then C else A) + B)) = True := eq_true (cl_mono hf (by split <;> omega))
      by_cases eA : A = -fM f
      · by_cases eB : B = -fM f
        · simp only [evA, evT, Go.undef, aload, astore, afieldAddr, afield, aindex, aindexAddr, abuild, abuildSlice, amakeSlice, aslice, aext, alen, aminmax, minmaxGo, aappend, newsOf, buildCells, cutRows, reps, setCells, AV.cells, allOne, AV.one, Value.oneCell', AV.pure, allPure, AV.free, allFree, rowsFree, Nat.reduceBEq, Nat.reduceAdd, Nat.reduceMul, Nat.reduceSub, Nat.reduceLT, Nat.reduceLeDiff, Int.reduceToNat, reduceIte, reduceCtorEq, Int.reduceLT, Int.reduceLE, Nat.reduceEqDiff, Int.reduceEq, Int.reduceNeg, Int.reduceMul, Int.reduceAdd, Int.reduceSub, Int.reduceBNe, Int.reduceBEq, apart, bnd, fneg, fmul, fge, be_self, be_tt, be_tf, be_ft, be_ff, eq_true eA, eq_true eB]
        · simp only [evA, evT, Go.undef, aload, astore, afieldAddr, afield, aindex, aindexAddr, abuild, abuildSlice, amakeSlice, aslice, aext, alen, aminmax, minmaxGo, aappend, newsOf, buildCells, cutRows, reps, setCells, AV.cells, allOne, AV.one, Value.oneCell', AV.pure, allPure, AV.free, allFree, rowsFree, Nat.reduceBEq, Nat.reduceAdd, Nat.reduceMul, Nat.reduceSub, Nat.reduceLT, Nat.reduceLeDiff, Int.reduceToNat, reduceIte, reduceCtorEq, Int.reduceLT, Int.reduceLE, Nat.reduceEqDiff, Int.reduceEq, Int.reduceNeg, Int.reduceMul, Int.reduceAdd, Int.reduceSub, Int.reduceBNe, Int.reduceBEq, apart, bnd, fneg, fmul, fge, be_self, be_tt, be_tf, be_ft, be_ff, eq_true eA, eq_false eB]
      · by_cases eB : B = -fM f
        · simp only [evA, evT, Go.undef, aload, astore, afieldAddr, afield, aindex, aindexAddr, abuild, abuildSlice, amakeSlice, aslice, aext, alen, aminmax, minmaxGo, aappend, newsOf, buildCells, cutRows, reps, setCells, AV.cells, allOne, AV.one, Value.oneCell', AV.pure, allPure, AV.free, allFree, rowsFree, Nat.reduceBEq, Nat.reduceAdd, Nat.reduceMul, Nat.reduceSub, Nat.reduceLT, Nat.reduceLeDiff, Int.reduceToNat, reduceIte, reduceCtorEq, Int.reduceLT, Int.reduceLE, Nat.reduceEqDiff, Int.reduceEq, Int.reduceNeg, Int.reduceMul, Int.reduceAdd, Int.reduceSub, Int.reduceBNe, Int.reduceBEq, apart, bnd, fneg, fmul, fge, be_self, be_tt, be_tf, be_ft, be_ff, eq_false eA, eq_true eB]
        · simp only [evA, evT, Go.undef, aload, astore, afieldAddr, afield, aindex, aindexAddr, abuild, abuildSlice, amakeSlice, aslice, aext, alen, aminmax, minmaxGo, aappend, newsOf, buildCells, cutRows, reps, setCells, AV.cells, allOne, AV.one, Value.oneCell', AV.pure, allPure, AV.free, allFree, rowsFree, Nat.reduceBEq, Nat.reduceAdd, Nat.reduceMul, Nat.reduceSub, Nat.reduceLT, Nat.reduceLeDiff, Int.reduceToNat, reduceIte, reduceCtorEq, Int.reduceLT, Int.reduceLE, Nat.reduceEqDiff, Int.reduceEq, Int.reduceNeg, Int.reduceMul, Int.reduceAdd, Int.reduceSub, Int.reduceBNe, Int.reduceBEq, apart, bnd, fneg, fmul, fge, be_self, be_tt, be_tf, be_ft, be_ff, eq_false eA, eq_false eB]
end Go.Proofs.YtnnicpmehjdopaaV

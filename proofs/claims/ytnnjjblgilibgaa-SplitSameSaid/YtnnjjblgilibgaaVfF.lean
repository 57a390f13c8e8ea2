import Derived.Test.YtnnjjblgilibgaaVfC
/- Contracts of the document's functions: numbers, complex numbers. -/
namespace Go.Proofs.YtnnjjblgilibgaaV
open Go Go.RowKit
set_option linter.unusedVariables false
set_option linter.unusedSimpArgs false
set_option maxRecDepth 100000
set_option maxHeartbeats 40000000
theorem fine80 : Fine Try.prog 80 := fun _ _ => by kernel_rfl
theorem fine68 : Fine Try.prog 68 := fun _ _ => by kernel_rfl
theorem fine29 : Fine Try.prog 29 := fun _ _ => by kernel_rfl
theorem fine67 : Fine Try.prog 67 := fun _ _ => by kernel_rfl
theorem fine50 : Fine Try.prog 50 := fun _ _ => by kernel_rfl
theorem fine30 : Fine Try.prog 30 := fun _ _ => by kernel_rfl
theorem fine33 : Fine Try.prog 33 := fun _ _ => by kernel_rfl
theorem fine40 : Fine Try.prog 40 := fun _ _ => by kernel_rfl
theorem fine41 : Fine Try.prog 41 := fun _ _ => by kernel_rfl
theorem fine32 : Fine Try.prog 32 := fun _ _ => by kernel_rfl
theorem fine42 : Fine Try.prog 42 := fun _ _ => by kernel_rfl
theorem tm2 (x : Int) : x.tmod 2 = if 0 ≤ x ∨ x % 2 = 0 then x % 2 else -1 := by
  rw [Int.tmod_eq_emod]
  split <;> split <;> simp_all <;> omega
theorem td2 (x : Int) : x.tdiv 2 = if 0 ≤ x ∨ x % 2 = 0 then x / 2 else x / 2 + 1 := by
  rw [Int.tdiv_eq_ediv]
  split <;> split <;> simp_all <;> omega
theorem av_int {a b : Int} : (AV.raw (Value.int .i64 a) = AV.int b) = (a = b) := by simp
theorem wrap_sub {a b : Int} : IntKind.i64.wrap (a - IntKind.i64.wrap b) = IntKind.i64.wrap (a - b) := by
  simp only [IntKind.wrap_i64]
  omega
theorem half.ok (x : Int) (hx : in64 x) : Ok Try.prog 80 [.int x] (.int (x / 2)) := by
  unfold in64 at hx
  have e1 : IntKind.i64.wrap (x.tdiv 2) = x.tdiv 2 := wr (by rw [td2]; split <;> omega)
  have e2 : IntKind.i64.wrap (x.tdiv 2 - 1) = x.tdiv 2 - 1 := wr (by rw [td2]; split <;> omega)
  refine ok_of (X := fun _ => []) (Z := fun _ => false) (res := [ResultVar.tmp 2]) tok follows Try.func80 rfl rfl fine80 (by kernel_rfl) (by kernel_rfl) ?_
  simp only [evA, evT, Go.undef, aload, astore, afieldAddr, afield, aindex, aindexAddr, abuild, abuildSlice, amakeSlice, aslice, aext, alen, aminmax, minmaxGo, aappend, newsOf, buildCells, cutRows, reps, setCells, AV.cells, allOne, AV.one, Value.oneCell', AV.pure, allPure, AV.free, allFree, rowsFree, Nat.reduceBEq, Nat.reduceAdd, Nat.reduceMul, Nat.reduceSub, Nat.reduceLT, Nat.reduceLeDiff, Int.reduceToNat, reduceIte, reduceCtorEq, Int.reduceLT, Int.reduceLE, Nat.reduceEqDiff, Int.reduceEq, Int.reduceNeg, Int.reduceMul, Int.reduceAdd, Int.reduceSub, Int.reduceBNe, Int.reduceBEq, apart, bnd, e1, e2]
  simp only [av_int, tm2, td2]
  refine ⟨fun h => ?_, fun h => ⟨fun h' => ?_, fun h' => ?_⟩⟩ <;> (repeat' split at h) <;> (repeat' split) <;> omega
theorem odd.ok (x : Int) : Ok Try.prog 68 [.int x] (.bool (decide (x % 2 = 1))) := by
  refine ok_of (X := fun _ => []) (Z := fun _ => false) (res := [ResultVar.tmp 2]) tok follows Try.func68 rfl rfl fine68 (by kernel_rfl) (by kernel_rfl) ?_
  simp only [evA, evT, Go.undef, aload, astore, afieldAddr, afield, aindex, aindexAddr, abuild, abuildSlice, amakeSlice, aslice, aext, alen, aminmax, minmaxGo, aappend, newsOf, buildCells, cutRows, reps, setCells, AV.cells, allOne, AV.one, Value.oneCell', AV.pure, allPure, AV.free, allFree, rowsFree, Nat.reduceBEq, Nat.reduceAdd, Nat.reduceMul, Nat.reduceSub, Nat.reduceLT, Nat.reduceLeDiff, Int.reduceToNat, reduceIte, reduceCtorEq, Int.reduceLT, Int.reduceLE, Nat.reduceEqDiff, Int.reduceEq, Int.reduceNeg, Int.reduceMul, Int.reduceAdd, Int.reduceSub, Int.reduceBNe, Int.reduceBEq, apart, bnd, tm2, dec_d]
  have : (!decide ((if 0 ≤ x ∨ x % 2 = 0 then x % 2 else -1) = 0)) = decide (x % 2 = 1) := by
    rw [← decide_not]
    apply decide_eq_decide.2
    split <;> omega
  rw [this]
theorem Pow.ok (s : Int) (hs : 0 ≤ s ∧ s ≤ 62) : Ok Try.prog 29 [.int s] (.int (2 ^ s.toNat)) := by
  obtain ⟨n, rfl⟩ : ∃ n : Nat, s = n := ⟨s.toNat, by omega⟩
  have hn : n ≤ 62 := by omega
  rw [Int.toNat_natCast]
  refine ok_of (X := fun _ => []) (Z := fun _ => false) (res := [ResultVar.tmp 2]) tok follows Try.func29 rfl rfl fine29 (by kernel_rfl) (by kernel_rfl) ?_
  simp only [evA, evT, Go.undef, aload, astore, afieldAddr, afield, aindex, aindexAddr, abuild, abuildSlice, amakeSlice, aslice, aext, alen, aminmax, minmaxGo, aappend, newsOf, buildCells, cutRows, reps, setCells, AV.cells, allOne, AV.one, Value.oneCell', AV.pure, allPure, AV.free, allFree, rowsFree, Nat.reduceBEq, Nat.reduceAdd, Nat.reduceMul, Nat.reduceSub, Nat.reduceLT, Nat.reduceLeDiff, Int.reduceToNat, reduceIte, reduceCtorEq, Int.reduceLT, Int.reduceLE, Nat.reduceEqDiff, Int.reduceEq, Int.reduceNeg, Int.reduceMul, Int.reduceAdd, Int.reduceSub, Int.reduceBNe, Int.reduceBEq, apart, bnd]
  refine l_inv (fun i => ⟨[(4, .int i), (3, .int (2 ^ i)), (0, .int n)], [], 0⟩) n ?_ (fun i hi K hK => ?_) (fun K => ?_)
  · refine weak_of (fun l => l) rfl trivial ?_
    simp only [evA, evB, evT, Go.undef, aload, astore, afieldAddr, afield, aindex, aindexAddr, abuild, abuildSlice, amakeSlice, aslice, aext, alen, aminmax, minmaxGo, aappend, newsOf, buildCells, cutRows, reps, setCells, AV.cells, allOne, AV.one, Value.oneCell', AV.pure, allPure, AV.free, allFree, rowsFree, Nat.reduceBEq, Nat.reduceAdd, Nat.reduceMul, Nat.reduceSub, Nat.reduceLT, Nat.reduceLeDiff, Int.reduceToNat, reduceIte, reduceCtorEq, Int.reduceLT, Int.reduceLE, Nat.reduceEqDiff, Int.reduceEq, Int.reduceNeg, Int.reduceMul, Int.reduceAdd, Int.reduceSub, Int.reduceBNe, Int.reduceBEq, apart, bnd, Int.natCast_zero, Int.pow_zero]
  · have h1 : (i : Int) < n := by omega
    have h3 : IntKind.i64.wrap ((i : Int) + 1) = i + 1 := wr (by omega)
    have h4 : IntKind.i64.wrap (2 * 2 ^ i) = 2 ^ (i + 1) := by
      rw [Int.mul_comm, ← Int.pow_succ, pow_wr (by omega)]
    simp only [evA, evT, Go.undef, aload, astore, afieldAddr, afield, aindex, aindexAddr, abuild, abuildSlice, amakeSlice, aslice, aext, alen, aminmax, minmaxGo, aappend, newsOf, buildCells, cutRows, reps, setCells, AV.cells, allOne, AV.one, Value.oneCell', AV.pure, allPure, AV.free, allFree, rowsFree, Nat.reduceBEq, Nat.reduceAdd, Nat.reduceMul, Nat.reduceSub, Nat.reduceLT, Nat.reduceLeDiff, Int.reduceToNat, reduceIte, reduceCtorEq, Int.reduceLT, Int.reduceLE, Nat.reduceEqDiff, Int.reduceEq, Int.reduceNeg, Int.reduceMul, Int.reduceAdd, Int.reduceSub, Int.reduceBNe, Int.reduceBEq, apart, bnd, h1, h3, h4]
    refine hK _ (weak_of (fun l => l) rfl trivial ?_)
    simp only [evA, evB, evT, Go.undef, aload, astore, afieldAddr, afield, aindex, aindexAddr, abuild, abuildSlice, amakeSlice, aslice, aext, alen, aminmax, minmaxGo, aappend, newsOf, buildCells, cutRows, reps, setCells, AV.cells, allOne, AV.one, Value.oneCell', AV.pure, allPure, AV.free, allFree, rowsFree, Nat.reduceBEq, Nat.reduceAdd, Nat.reduceMul, Nat.reduceSub, Nat.reduceLT, Nat.reduceLeDiff, Int.reduceToNat, reduceIte, reduceCtorEq, Int.reduceLT, Int.reduceLE, Nat.reduceEqDiff, Int.reduceEq, Int.reduceNeg, Int.reduceMul, Int.reduceAdd, Int.reduceSub, Int.reduceBNe, Int.reduceBEq, apart, bnd, Int.natCast_add, Int.natCast_one]
  · simp only [evA, evT, Go.undef, aload, astore, afieldAddr, afield, aindex, aindexAddr, abuild, abuildSlice, amakeSlice, aslice, aext, alen, aminmax, minmaxGo, aappend, newsOf, buildCells, cutRows, reps, setCells, AV.cells, allOne, AV.one, Value.oneCell', AV.pure, allPure, AV.free, allFree, rowsFree, Nat.reduceBEq, Nat.reduceAdd, Nat.reduceMul, Nat.reduceSub, Nat.reduceLT, Nat.reduceLeDiff, Int.reduceToNat, reduceIte, reduceCtorEq, Int.reduceLT, Int.reduceLE, Nat.reduceEqDiff, Int.reduceEq, Int.reduceNeg, Int.reduceMul, Int.reduceAdd, Int.reduceSub, Int.reduceBNe, Int.reduceBEq, apart, bnd]
theorem Floor.ok (x s : Int) (hx : in64 x) (hs : 0 ≤ s ∧ s ≤ 62) : Ok Try.prog 67 [.int x, .int s] (.int (x / 2 ^ s.toNat)) := by
  obtain ⟨n, rfl⟩ : ∃ n : Nat, s = n := ⟨s.toNat, by omega⟩
  have hn : n ≤ 62 := by omega
  rw [Int.toNat_natCast]
  refine ok_of (X := fun _ => []) (Z := fun _ => false) (res := [ResultVar.tmp 4]) tok follows Try.func67 rfl rfl fine67 (by kernel_rfl) (by kernel_rfl) ?_
  simp only [evA, evT, Go.undef, aload, astore, afieldAddr, afield, aindex, aindexAddr, abuild, abuildSlice, amakeSlice, aslice, aext, alen, aminmax, minmaxGo, aappend, newsOf, buildCells, cutRows, reps, setCells, AV.cells, allOne, AV.one, Value.oneCell', AV.pure, allPure, AV.free, allFree, rowsFree, Nat.reduceBEq, Nat.reduceAdd, Nat.reduceMul, Nat.reduceSub, Nat.reduceLT, Nat.reduceLeDiff, Int.reduceToNat, reduceIte, reduceCtorEq, Int.reduceLT, Int.reduceLE, Nat.reduceEqDiff, Int.reduceEq, Int.reduceNeg, Int.reduceMul, Int.reduceAdd, Int.reduceSub, Int.reduceBNe, Int.reduceBEq, apart, bnd]
  refine l_inv (fun i => ⟨[(5, .int i), (0, .int (x / 2 ^ i)), (1, .int n)], [], 0⟩) n ?_ (fun i hi K hK => ?_) (fun K => ?_)
  · refine weak_of (fun l => l) rfl trivial ?_
    simp only [evA, evB, evT, Go.undef, aload, astore, afieldAddr, afield, aindex, aindexAddr, abuild, abuildSlice, amakeSlice, aslice, aext, alen, aminmax, minmaxGo, aappend, newsOf, buildCells, cutRows, reps, setCells, AV.cells, allOne, AV.one, Value.oneCell', AV.pure, allPure, AV.free, allFree, rowsFree, Nat.reduceBEq, Nat.reduceAdd, Nat.reduceMul, Nat.reduceSub, Nat.reduceLT, Nat.reduceLeDiff, Int.reduceToNat, reduceIte, reduceCtorEq, Int.reduceLT, Int.reduceLE, Nat.reduceEqDiff, Int.reduceEq, Int.reduceNeg, Int.reduceMul, Int.reduceAdd, Int.reduceSub, Int.reduceBNe, Int.reduceBEq, apart, bnd, Int.natCast_zero, Int.pow_zero, Int.ediv_one]
  · have h1 : (i : Int) < n := by omega
    have h3 : IntKind.i64.wrap ((i : Int) + 1) = i + 1 := wr (by omega)
    have h4 : x / 2 ^ i / 2 = x / 2 ^ (i + 1) := by
      rw [Int.pow_succ, Int.ediv_ediv, if_neg (by have := pow_pos i; omega), Int.sub_zero]
    simp only [evA, evT, Go.undef, aload, astore, afieldAddr, afield, aindex, aindexAddr, abuild, abuildSlice, amakeSlice, aslice, aext, alen, aminmax, minmaxGo, aappend, newsOf, buildCells, cutRows, reps, setCells, AV.cells, allOne, AV.one, Value.oneCell', AV.pure, allPure, AV.free, allFree, rowsFree, Nat.reduceBEq, Nat.reduceAdd, Nat.reduceMul, Nat.reduceSub, Nat.reduceLT, Nat.reduceLeDiff, Int.reduceToNat, reduceIte, reduceCtorEq, Int.reduceLT, Int.reduceLE, Nat.reduceEqDiff, Int.reduceEq, Int.reduceNeg, Int.reduceMul, Int.reduceAdd, Int.reduceSub, Int.reduceBNe, Int.reduceBEq, apart, bnd, h1]
    refine call_ok (half.ok _ (sh_bd hx)) rfl ?_
    simp only [evA, evT, Go.undef, aload, astore, afieldAddr, afield, aindex, aindexAddr, abuild, abuildSlice, amakeSlice, aslice, aext, alen, aminmax, minmaxGo, aappend, newsOf, buildCells, cutRows, reps, setCells, AV.cells, allOne, AV.one, Value.oneCell', AV.pure, allPure, AV.free, allFree, rowsFree, Nat.reduceBEq, Nat.reduceAdd, Nat.reduceMul, Nat.reduceSub, Nat.reduceLT, Nat.reduceLeDiff, Int.reduceToNat, reduceIte, reduceCtorEq, Int.reduceLT, Int.reduceLE, Nat.reduceEqDiff, Int.reduceEq, Int.reduceNeg, Int.reduceMul, Int.reduceAdd, Int.reduceSub, Int.reduceBNe, Int.reduceBEq, apart, bnd, h3, h4]
    refine hK _ (weak_of (fun l => l) rfl trivial ?_)
    simp only [evA, evB, evT, Go.undef, aload, astore, afieldAddr, afield, aindex, aindexAddr, abuild, abuildSlice, amakeSlice, aslice, aext, alen, aminmax, minmaxGo, aappend, newsOf, buildCells, cutRows, reps, setCells, AV.cells, allOne, AV.one, Value.oneCell', AV.pure, allPure, AV.free, allFree, rowsFree, Nat.reduceBEq, Nat.reduceAdd, Nat.reduceMul, Nat.reduceSub, Nat.reduceLT, Nat.reduceLeDiff, Int.reduceToNat, reduceIte, reduceCtorEq, Int.reduceLT, Int.reduceLE, Nat.reduceEqDiff, Int.reduceEq, Int.reduceNeg, Int.reduceMul, Int.reduceAdd, Int.reduceSub, Int.reduceBNe, Int.reduceBEq, apart, bnd, Int.natCast_add, Int.natCast_one]
  · simp only [evA, evT, Go.undef, aload, astore, afieldAddr, afield, aindex, aindexAddr, abuild, abuildSlice, amakeSlice, aslice, aext, alen, aminmax, minmaxGo, aappend, newsOf, buildCells, cutRows, reps, setCells, AV.cells, allOne, AV.one, Value.oneCell', AV.pure, allPure, AV.free, allFree, rowsFree, Nat.reduceBEq, Nat.reduceAdd, Nat.reduceMul, Nat.reduceSub, Nat.reduceLT, Nat.reduceLeDiff, Int.reduceToNat, reduceIte, reduceCtorEq, Int.reduceLT, Int.reduceLE, Nat.reduceEqDiff, Int.reduceEq, Int.reduceNeg, Int.reduceMul, Int.reduceAdd, Int.reduceSub, Int.reduceBNe, Int.reduceBEq, apart, bnd]
theorem Within.ok (m a b : Int) (hm : 0 ≤ m ∧ m ≤ 4611686018427387904) : Ok Try.prog 30 [cxA a b, .int m] (.bool (decide (win m a b))) := by
  have e1 : IntKind.i64.wrap (0 - m) = -m := by rw [wr (by omega)]; omega
  refine ok_of (X := fun _ => []) (Z := fun _ => false) (res := [ResultVar.tmp 4]) tok follows Try.func30 rfl rfl fine30 (by kernel_rfl) (by kernel_rfl) ?_
  simp only [evA, evT, Go.undef, aload, astore, afieldAddr, afield, aindex, aindexAddr, abuild, abuildSlice, amakeSlice, aslice, aext, alen, aminmax, minmaxGo, aappend, newsOf, buildCells, cutRows, reps, setCells, AV.cells, allOne, AV.one, Value.oneCell', AV.pure, allPure, AV.free, allFree, rowsFree, Nat.reduceBEq, Nat.reduceAdd, Nat.reduceMul, Nat.reduceSub, Nat.reduceLT, Nat.reduceLeDiff, Int.reduceToNat, reduceIte, reduceCtorEq, Int.reduceLT, Int.reduceLE, Nat.reduceEqDiff, Int.reduceEq, Int.reduceNeg, Int.reduceMul, Int.reduceAdd, Int.reduceSub, Int.reduceBNe, Int.reduceBEq, apart, bnd, e1, dec_t, dec_f, dec_d, win]
  omega
theorem Sum.ok (a b c d : Int) : Ok Try.prog 33 [cxA a b, cxA c d] (cxA (IntKind.i64.wrap (a + c)) (IntKind.i64.wrap (b + d))) := by
  refine ok_of (X := fun _ => []) (Z := fun _ => false) (res := [ResultVar.cell 4 35]) tok follows Try.func33 rfl rfl fine33 (by kernel_rfl) (by kernel_rfl) ?_
  simp only [evA, evT, Go.undef, aload, astore, afieldAddr, afield, aindex, aindexAddr, abuild, abuildSlice, amakeSlice, aslice, aext, alen, aminmax, minmaxGo, aappend, newsOf, buildCells, cutRows, reps, setCells, AV.cells, allOne, AV.one, Value.oneCell', AV.pure, allPure, AV.free, allFree, rowsFree, Nat.reduceBEq, Nat.reduceAdd, Nat.reduceMul, Nat.reduceSub, Nat.reduceLT, Nat.reduceLeDiff, Int.reduceToNat, reduceIte, reduceCtorEq, Int.reduceLT, Int.reduceLE, Nat.reduceEqDiff, Int.reduceEq, Int.reduceNeg, Int.reduceMul, Int.reduceAdd, Int.reduceSub, Int.reduceBNe, Int.reduceBEq, apart, bnd]
theorem Scale.ok (a b bits : Int) (hb : 0 ≤ bits ∧ bits ≤ 62) : Ok Try.prog 42 [cxA a b, .int bits] (cxA (IntKind.i64.wrap (a * 2 ^ bits.toNat)) (IntKind.i64.wrap (b * 2 ^ bits.toNat))) := by
  refine ok_of (X := fun _ => []) (Z := fun _ => false) (res := [ResultVar.cell 4 35]) tok follows Try.func42 rfl rfl fine42 (by kernel_rfl) (by kernel_rfl) ?_
  simp only [evA, evT, Go.undef, aload, astore, afieldAddr, afield, aindex, aindexAddr, abuild, abuildSlice, amakeSlice, aslice, aext, alen, aminmax, minmaxGo, aappend, newsOf, buildCells, cutRows, reps, setCells, AV.cells, allOne, AV.one, Value.oneCell', AV.pure, allPure, AV.free, allFree, rowsFree, Nat.reduceBEq, Nat.reduceAdd, Nat.reduceMul, Nat.reduceSub, Nat.reduceLT, Nat.reduceLeDiff, Int.reduceToNat, reduceIte, reduceCtorEq, Int.reduceLT, Int.reduceLE, Nat.reduceEqDiff, Int.reduceEq, Int.reduceNeg, Int.reduceMul, Int.reduceAdd, Int.reduceSub, Int.reduceBNe, Int.reduceBEq, apart, bnd]
  refine call_ok (Pow.ok bits hb) rfl ?_
  simp only [evA, evT, Go.undef, aload, astore, afieldAddr, afield, aindex, aindexAddr, abuild, abuildSlice, amakeSlice, aslice, aext, alen, aminmax, minmaxGo, aappend, newsOf, buildCells, cutRows, reps, setCells, AV.cells, allOne, AV.one, Value.oneCell', AV.pure, allPure, AV.free, allFree, rowsFree, Nat.reduceBEq, Nat.reduceAdd, Nat.reduceMul, Nat.reduceSub, Nat.reduceLT, Nat.reduceLeDiff, Int.reduceToNat, reduceIte, reduceCtorEq, Int.reduceLT, Int.reduceLE, Nat.reduceEqDiff, Int.reduceEq, Int.reduceNeg, Int.reduceMul, Int.reduceAdd, Int.reduceSub, Int.reduceBNe, Int.reduceBEq, apart, bnd]
theorem RTimes.ok (a b c d : Int) (h1 : win 2147483648 a b) (h2 : win 1073741824 c d) : Ok Try.prog 40 [cxA a b, cxA c d] (cxA (a * c - b * d) (a * d + b * c)) := by
  unfold win at h1 h2
  have g1 := mul_near (p := 2147483648) (q := 1073741824) (a := a) (b := c) (by decide) (by omega) (by omega)
  have g2 := mul_near (p := 2147483648) (q := 1073741824) (a := b) (b := d) (by decide) (by omega) (by omega)
  have g3 := mul_near (p := 2147483648) (q := 1073741824) (a := a) (b := d) (by decide) (by omega) (by omega)
  have g4 := mul_near (p := 2147483648) (q := 1073741824) (a := b) (b := c) (by decide) (by omega) (by omega)
  have e1 : IntKind.i64.wrap (a * c) = a * c := wr (by omega)
  have e2 : IntKind.i64.wrap (b * d) = b * d := wr (by omega)
  have e3 : IntKind.i64.wrap (a * d) = a * d := wr (by omega)
  have e4 : IntKind.i64.wrap (b * c) = b * c := wr (by omega)
  have e5 : IntKind.i64.wrap (a * c - b * d) = a * c - b * d := wr (by omega)
  have e6 : IntKind.i64.wrap (a * d + b * c) = a * d + b * c := wr (by omega)
  refine ok_of (X := fun _ => []) (Z := fun _ => false) (res := [ResultVar.cell 4 35]) tok follows Try.func40 rfl rfl fine40 (by kernel_rfl) (by kernel_rfl) ?_
  simp only [evA, evT, Go.undef, aload, astore, afieldAddr, afield, aindex, aindexAddr, abuild, abuildSlice, amakeSlice, aslice, aext, alen, aminmax, minmaxGo, aappend, newsOf, buildCells, cutRows, reps, setCells, AV.cells, allOne, AV.one, Value.oneCell', AV.pure, allPure, AV.free, allFree, rowsFree, Nat.reduceBEq, Nat.reduceAdd, Nat.reduceMul, Nat.reduceSub, Nat.reduceLT, Nat.reduceLeDiff, Int.reduceToNat, reduceIte, reduceCtorEq, Int.reduceLT, Int.reduceLE, Nat.reduceEqDiff, Int.reduceEq, Int.reduceNeg, Int.reduceMul, Int.reduceAdd, Int.reduceSub, Int.reduceBNe, Int.reduceBEq, apart, bnd, e1, e2, e3, e4, e5, e6]
theorem RTurn.ok (x y n : Int) (h : win 2305843009213693952 x y) (hn : in64 n) : Ok Try.prog 41 [cxA x y, .int n] (cxA (tRe x y n) (tIm x y n)) := by
  unfold win at h
  unfold in64 at hn
  have e1 : IntKind.i64.wrap (0 - y) = -y := by rw [wr (by omega)]; omega
  have e2 : IntKind.i64.wrap (0 - x) = -x := by rw [wr (by omega)]; omega
  have tm : n.tmod 4 = if 0 ≤ n ∨ n % 4 = 0 then n % 4 else n % 4 - 4 := by
    rw [Int.tmod_eq_emod]
    split <;> split <;> simp_all <;> omega
  refine ok_of (X := fun _ => []) (Z := fun _ => false) (res := [ResultVar.cell 4 35]) tok follows Try.func41 rfl rfl fine41 (by kernel_rfl) (by kernel_rfl) ?_
  simp only [evA, evT, Go.undef, aload, astore, afieldAddr, afield, aindex, aindexAddr, abuild, abuildSlice, amakeSlice, aslice, aext, alen, aminmax, minmaxGo, aappend, newsOf, buildCells, cutRows, reps, setCells, AV.cells, allOne, AV.one, Value.oneCell', AV.pure, allPure, AV.free, allFree, rowsFree, Nat.reduceBEq, Nat.reduceAdd, Nat.reduceMul, Nat.reduceSub, Nat.reduceLT, Nat.reduceLeDiff, Int.reduceToNat, reduceIte, reduceCtorEq, Int.reduceLT, Int.reduceLE, Nat.reduceEqDiff, Int.reduceEq, Int.reduceNeg, Int.reduceMul, Int.reduceAdd, Int.reduceSub, Int.reduceBNe, Int.reduceBEq, apart, bnd, e1, e2]
  have hneg : n.tmod 4 < 0 → IntKind.i64.wrap (n.tmod 4 + 4) = n % 4 := fun h => by
    rw [wr (by rw [tm] at h ⊢; split at h <;> split <;> omega)]
    rw [tm] at h ⊢
    split at h <;> split <;> omega
  have hpos : ¬ n.tmod 4 < 0 → n.tmod 4 = n % 4 := fun h => by
    rw [tm] at h ⊢
    split at h <;> split <;> omega
  have h4 : n % 4 = 0 → AV.agg [.int x, .int y] = cxA (tRe x y n) (tIm x y n) := fun h => by simp [tRe, tIm, h]
  have key : (n % 4 = 1 → AV.agg [.int (-y), .int x] = cxA (tRe x y n) (tIm x y n)) ∧ (¬ n % 4 = 1 → (n % 4 = 2 → AV.agg [.int (-x), .int (-y)] = cxA (tRe x y n) (tIm x y n)) ∧ (¬ n % 4 = 2 → (n % 4 = 3 → AV.agg [.int y, .int (-x)] = cxA (tRe x y n) (tIm x y n)) ∧ (¬ n % 4 = 3 → AV.agg [.int x, .int y] = cxA (tRe x y n) (tIm x y n)))) := by
    refine ⟨fun h => by simp [tRe, tIm, h], fun h1 => ⟨fun h => by simp [tRe, tIm, h], fun h2 => ⟨fun h => by simp [tRe, tIm, h], fun h3 => h4 (by omega)⟩⟩⟩
  refine ⟨fun h => ?_, fun h => ?_⟩
  · rw [hneg h]
    exact key
  · rw [hpos h]
    exact key
theorem RShift1.ok (x s mode : Int) (hx : in64 x) (hs : 0 ≤ s ∧ s ≤ 62) (hm : 0 ≤ mode ∧ mode ≤ 2) : Ok Try.prog 50 [.int x, .int s, .int mode] (.int (rsh x s mode)) := by
  have hx' := hx
  unfold in64 at hx
  refine ok_of (X := fun _ => []) (Z := fun _ => false) (res := [ResultVar.tmp 6]) tok follows Try.func50 rfl rfl fine50 (by kernel_rfl) (by kernel_rfl) ?_
  simp only [evA, evT, Go.undef, aload, astore, afieldAddr, afield, aindex, aindexAddr, abuild, abuildSlice, amakeSlice, aslice, aext, alen, aminmax, minmaxGo, aappend, newsOf, buildCells, cutRows, reps, setCells, AV.cells, allOne, AV.one, Value.oneCell', AV.pure, allPure, AV.free, allFree, rowsFree, Nat.reduceBEq, Nat.reduceAdd, Nat.reduceMul, Nat.reduceSub, Nat.reduceLT, Nat.reduceLeDiff, Int.reduceToNat, reduceIte, reduceCtorEq, Int.reduceLT, Int.reduceLE, Nat.reduceEqDiff, Int.reduceEq, Int.reduceNeg, Int.reduceMul, Int.reduceAdd, Int.reduceSub, Int.reduceBNe, Int.reduceBEq, apart, bnd]
  refine call_ok (Floor.ok x s hx' hs) rfl ?_
  have hp := pow_pos s.toNat
  have hp62 := pow_le62 (n := s.toNat) (by omega)
  have hd : x - x / 2 ^ s.toNat * 2 ^ s.toNat = x % 2 ^ s.toNat := by
    have := Int.emod_add_mul_ediv x (2 ^ s.toNat)
    rw [Int.mul_comm] at this
    omega
  have hr0 := Int.emod_nonneg x (Int.ne_of_gt hp)
  have hr1 := Int.emod_lt_of_pos x hp
  have hq := sh_bd (n := s.toNat) hx'
  by_cases h0 : s = 0
  · subst h0
    simp only [evA, evT, Go.undef, aload, astore, afieldAddr, afield, aindex, aindexAddr, abuild, abuildSlice, amakeSlice, aslice, aext, alen, aminmax, minmaxGo, aappend, newsOf, buildCells, cutRows, reps, setCells, AV.cells, allOne, AV.one, Value.oneCell', AV.pure, allPure, AV.free, allFree, rowsFree, Nat.reduceBEq, Nat.reduceAdd, Nat.reduceMul, Nat.reduceSub, Nat.reduceLT, Nat.reduceLeDiff, Int.reduceToNat, reduceIte, reduceCtorEq, Int.reduceLT, Int.reduceLE, Nat.reduceEqDiff, Int.reduceEq, Int.reduceNeg, Int.reduceMul, Int.reduceAdd, Int.reduceSub, Int.reduceBNe, Int.reduceBEq, apart, bnd, Int.pow_zero, Int.ediv_one, rsh_z]
  by_cases h1 : mode = 0
  · subst h1
    simp only [evA, evT, Go.undef, aload, astore, afieldAddr, afield, aindex, aindexAddr, abuild, abuildSlice, amakeSlice, aslice, aext, alen, aminmax, minmaxGo, aappend, newsOf, buildCells, cutRows, reps, setCells, AV.cells, allOne, AV.one, Value.oneCell', AV.pure, allPure, AV.free, allFree, rowsFree, Nat.reduceBEq, Nat.reduceAdd, Nat.reduceMul, Nat.reduceSub, Nat.reduceLT, Nat.reduceLeDiff, Int.reduceToNat, reduceIte, reduceCtorEq, Int.reduceLT, Int.reduceLE, Nat.reduceEqDiff, Int.reduceEq, Int.reduceNeg, Int.reduceMul, Int.reduceAdd, Int.reduceSub, Int.reduceBNe, Int.reduceBEq, apart, bnd, h0, rsh0]
  simp only [evA, evT, Go.undef, aload, astore, afieldAddr, afield, aindex, aindexAddr, abuild, abuildSlice, amakeSlice, aslice, aext, alen, aminmax, minmaxGo, aappend, newsOf, buildCells, cutRows, reps, setCells, AV.cells, allOne, AV.one, Value.oneCell', AV.pure, allPure, AV.free, allFree, rowsFree, Nat.reduceBEq, Nat.reduceAdd, Nat.reduceMul, Nat.reduceSub, Nat.reduceLT, Nat.reduceLeDiff, Int.reduceToNat, reduceIte, reduceCtorEq, Int.reduceLT, Int.reduceLE, Nat.reduceEqDiff, Int.reduceEq, Int.reduceNeg, Int.reduceMul, Int.reduceAdd, Int.reduceSub, Int.reduceBNe, Int.reduceBEq, apart, bnd, h0, h1]
  refine call_ok (Pow.ok s hs) rfl ?_
  have e1 : IntKind.i64.wrap (x - IntKind.i64.wrap (x / 2 ^ s.toNat * 2 ^ s.toNat)) = x % 2 ^ s.toNat := by
    rw [wrap_sub, hd]
    exact wr (by omega)
  have e2 : IntKind.i64.wrap (s - 1) = s - 1 := wr (by omega)
  have e3 : IntKind.i64.wrap (x / 2 ^ s.toNat + 1) = x / 2 ^ s.toNat + 1 := sh_up hx' (by omega)
  have e4 : (s - 1).toNat = s.toNat - 1 := by omega
  simp only [evA, evT, Go.undef, aload, astore, afieldAddr, afield, aindex, aindexAddr, abuild, abuildSlice, amakeSlice, aslice, aext, alen, aminmax, minmaxGo, aappend, newsOf, buildCells, cutRows, reps, setCells, AV.cells, allOne, AV.one, Value.oneCell', AV.pure, allPure, AV.free, allFree, rowsFree, Nat.reduceBEq, Nat.reduceAdd, Nat.reduceMul, Nat.reduceSub, Nat.reduceLT, Nat.reduceLeDiff, Int.reduceToNat, reduceIte, reduceCtorEq, Int.reduceLT, Int.reduceLE, Nat.reduceEqDiff, Int.reduceEq, Int.reduceNeg, Int.reduceMul, Int.reduceAdd, Int.reduceSub, Int.reduceBNe, Int.reduceBEq, apart, bnd, e1, e2]
  refine call_ok (Pow.ok (s - 1) (by omega)) rfl ?_
  rw [e4]
  have hm' : mode = 1 ∨ mode = 2 := by omega
  rcases hm' with rfl | rfl
  · simp only [evA, evT, Go.undef, aload, astore, afieldAddr, afield, aindex, aindexAddr, abuild, abuildSlice, amakeSlice, aslice, aext, alen, aminmax, minmaxGo, aappend, newsOf, buildCells, cutRows, reps, setCells, AV.cells, allOne, AV.one, Value.oneCell', AV.pure, allPure, AV.free, allFree, rowsFree, Nat.reduceBEq, Nat.reduceAdd, Nat.reduceMul, Nat.reduceSub, Nat.reduceLT, Nat.reduceLeDiff, Int.reduceToNat, reduceIte, reduceCtorEq, Int.reduceLT, Int.reduceLE, Nat.reduceEqDiff, Int.reduceEq, Int.reduceNeg, Int.reduceMul, Int.reduceAdd, Int.reduceSub, Int.reduceBNe, Int.reduceBEq, apart, bnd, e3, av_int]
    refine ⟨fun h => ⟨fun h2 => ?_, fun h2 => ?_⟩, fun h => ?_⟩
    · rw [rsh_up h0 (b := true) (by simp [goesUp]; omega), if_pos rfl]
    · rw [rsh_up h0 (b := false) (by simp [goesUp]; omega)]
      rfl
    · rw [rsh_up h0 (b := true) (by simp [goesUp]; omega), if_pos rfl]
  · simp only [evA, evT, Go.undef, aload, astore, afieldAddr, afield, aindex, aindexAddr, abuild, abuildSlice, amakeSlice, aslice, aext, alen, aminmax, minmaxGo, aappend, newsOf, buildCells, cutRows, reps, setCells, AV.cells, allOne, AV.one, Value.oneCell', AV.pure, allPure, AV.free, allFree, rowsFree, Nat.reduceBEq, Nat.reduceAdd, Nat.reduceMul, Nat.reduceSub, Nat.reduceLT, Nat.reduceLeDiff, Int.reduceToNat, reduceIte, reduceCtorEq, Int.reduceLT, Int.reduceLE, Nat.reduceEqDiff, Int.reduceEq, Int.reduceNeg, Int.reduceMul, Int.reduceAdd, Int.reduceSub, Int.reduceBNe, Int.reduceBEq, apart, bnd, e3, av_int]
    refine ⟨fun h => ⟨fun h2 => ?_, fun h2 => ?_⟩, fun h => ?_⟩
    · refine call_ok (odd.ok _) rfl ?_
      simp only [evA, evT, Go.undef, aload, astore, afieldAddr, afield, aindex, aindexAddr, abuild, abuildSlice, amakeSlice, aslice, aext, alen, aminmax, minmaxGo, aappend, newsOf, buildCells, cutRows, reps, setCells, AV.cells, allOne, AV.one, Value.oneCell', AV.pure, allPure, AV.free, allFree, rowsFree, Nat.reduceBEq, Nat.reduceAdd, Nat.reduceMul, Nat.reduceSub, Nat.reduceLT, Nat.reduceLeDiff, Int.reduceToNat, reduceIte, reduceCtorEq, Int.reduceLT, Int.reduceLE, Nat.reduceEqDiff, Int.reduceEq, Int.reduceNeg, Int.reduceMul, Int.reduceAdd, Int.reduceSub, Int.reduceBNe, Int.reduceBEq, apart, bnd, e3, av_int]
      refine ⟨fun h3 => ?_, fun h3 => ?_⟩
      · rw [rsh_up h0 (b := true) (by simp [goesUp, h2, h3]), if_pos rfl]
      · rw [rsh_up h0 (b := false) (by simp [goesUp, h2, h3])]
        rfl
    · rw [rsh_up h0 (b := false) (by simp [goesUp, h2]; omega)]
      rfl
    · rw [rsh_up h0 (b := true) (by simp [goesUp, h]), if_pos rfl]
theorem RShift.ok (x y s mode : Int) (hx : in64 x) (hy : in64 y) (hs : 0 ≤ s ∧ s ≤ 62) (hm : 0 ≤ mode ∧ mode ≤ 2) : Ok Try.prog 32 [cxA x y, .int s, .int mode] (cxA (rsh x s mode) (rsh y s mode)) := by
  refine ok_of (X := fun _ => []) (Z := fun _ => false) (res := [ResultVar.cell 6 35]) tok follows Try.func32 rfl rfl fine32 (by kernel_rfl) (by kernel_rfl) ?_
  simp only [evA, evT, Go.undef, aload, astore, afieldAddr, afield, aindex, aindexAddr, abuild, abuildSlice, amakeSlice, aslice, aext, alen, aminmax, minmaxGo, aappend, newsOf, buildCells, cutRows, reps, setCells, AV.cells, allOne, AV.one, Value.oneCell', AV.pure, allPure, AV.free, allFree, rowsFree, Nat.reduceBEq, Nat.reduceAdd, Nat.reduceMul, Nat.reduceSub, Nat.reduceLT, Nat.reduceLeDiff, Int.reduceToNat, reduceIte, reduceCtorEq, Int.reduceLT, Int.reduceLE, Nat.reduceEqDiff, Int.reduceEq, Int.reduceNeg, Int.reduceMul, Int.reduceAdd, Int.reduceSub, Int.reduceBNe, Int.reduceBEq, apart, bnd]
  refine call_ok (RShift1.ok x s mode hx hs hm) rfl ?_
  simp only [evA, evT, Go.undef, aload, astore, afieldAddr, afield, aindex, aindexAddr, abuild, abuildSlice, amakeSlice, aslice, aext, alen, aminmax, minmaxGo, aappend, newsOf, buildCells, cutRows, reps, setCells, AV.cells, allOne, AV.one, Value.oneCell', AV.pure, allPure, AV.free, allFree, rowsFree, Nat.reduceBEq, Nat.reduceAdd, Nat.reduceMul, Nat.reduceSub, Nat.reduceLT, Nat.reduceLeDiff, Int.reduceToNat, reduceIte, reduceCtorEq, Int.reduceLT, Int.reduceLE, Nat.reduceEqDiff, Int.reduceEq, Int.reduceNeg, Int.reduceMul, Int.reduceAdd, Int.reduceSub, Int.reduceBNe, Int.reduceBEq, apart, bnd]
  refine call_ok (RShift1.ok y s mode hy hs hm) rfl ?_
  simp only [evA, evT, Go.undef, aload, astore, afieldAddr, afield, aindex, aindexAddr, abuild, abuildSlice, amakeSlice, aslice, aext, alen, aminmax, minmaxGo, aappend, newsOf, buildCells, cutRows, reps, setCells, AV.cells, allOne, AV.one, Value.oneCell', AV.pure, allPure, AV.free, allFree, rowsFree, Nat.reduceBEq, Nat.reduceAdd, Nat.reduceMul, Nat.reduceSub, Nat.reduceLT, Nat.reduceLeDiff, Int.reduceToNat, reduceIte, reduceCtorEq, Int.reduceLT, Int.reduceLE, Nat.reduceEqDiff, Int.reduceEq, Int.reduceNeg, Int.reduceMul, Int.reduceAdd, Int.reduceSub, Int.reduceBNe, Int.reduceBEq, apart, bnd]
end Go.Proofs.YtnnjjblgilibgaaV

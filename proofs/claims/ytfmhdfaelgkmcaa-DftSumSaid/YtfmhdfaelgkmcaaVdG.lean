import Derived.Test.YtfmhdfaelgkmcaaVdF
/- DftTurns and DftSum answer true. -/
namespace Go.Proofs.YtfmhdfaelgkmcaaV
open Go Go.RowKit
set_option linter.unusedVariables false
set_option linter.unusedSimpArgs false
set_option maxRecDepth 100000
set_option maxHeartbeats 40000000
theorem fine12 : Fine Try.prog 12 := fun _ _ => by kernel_rfl
theorem fine17 : Fine Try.prog 17 := fun _ _ => by kernel_rfl
theorem small40' (x : Int) : -1099511627776 < x.tmod 1099511627776 ∧ x.tmod 1099511627776 < 1099511627776 := by
  have h1 := Int.tmod_lt_of_pos x (show (0 : Int) < 1099511627776 by decide)
  have := Int.tmod_lt_of_pos (-x) (show (0 : Int) < 1099511627776 by decide)
  rw [Int.neg_tmod] at this
  omega
theorem sumX_bd {xs : List (Int × Int)} (hx : nears 2147483648 xs) : ∀ i : Nat, i ≤ xs.length → (-(i * 2147483648) ≤ (sumX xs i).1 ∧ (sumX xs i).1 ≤ i * 2147483648) ∧ (-(i * 2147483648) ≤ (sumX xs i).2 ∧ (sumX xs i).2 ≤ i * 2147483648)
  | 0, _ => by simp [sumX]
  | i + 1, hi => by
    have := sumX_bd hx i (by omega)
    have h := near_get hx (i := i) (by omega)
    unfold win at h
    rw [sumX]
    simp only
    omega
theorem DftTurns.true (k0 : Int) (xs : List (Int × Int)) : Ok Try.prog 12 [.sl 2 (cxRows xs), .int k0] (.bool true) := by
  obtain ⟨k1, k2⟩ := small40' k0
  refine ok_of (X := fun _ => []) (Z := fun _ => false) (res := [ResultVar.tmp 4]) tok follows Try.func12 rfl rfl fine12 (by kernel_rfl) (by kernel_rfl) ?_
  simp only [evA, evT, Go.undef, aload, astore, afieldAddr, afield, aindex, aindexAddr, abuild, abuildSlice, amakeSlice, aslice, aext, alen, aminmax, minmaxGo, aappend, newsOf, buildCells, cutRows, reps, setCells, AV.cells, allOne, AV.one, Value.oneCell', AV.pure, allPure, AV.free, allFree, rowsFree, Nat.reduceBEq, Nat.reduceAdd, Nat.reduceMul, Nat.reduceSub, Nat.reduceLT, Nat.reduceLeDiff, Int.reduceToNat, reduceIte, reduceCtorEq, Int.reduceLT, Int.reduceLE, Nat.reduceEqDiff, Int.reduceEq, Int.reduceNeg, Int.reduceMul, Int.reduceAdd, Int.reduceSub, Int.reduceBNe, Int.reduceBEq, apart, bnd, cx_len, min70, min70_le, min70_0, Int.toNat_natCast, cx_take, cx_free]
  have hX := take_len (xs := xs)
  generalize xs.take (min xs.length 70) = X at *
  generalize hK : k0.tmod 1099511627776 = k at *
  rcases may_or X with ⟨g, log, hm⟩ | g
  · have hm' := hm
    obtain ⟨h1, h2, h3, h4, h5⟩ := hm'
    have hp := pow64 h1
    have e1 : IntKind.i64.wrap (k + (X.length : Int)) = k + X.length := wr (by omega)
    have e2 : IntKind.i64.wrap (0 - k) = -k := by rw [wr (by omega)]; omega
    have b1 := Bin.ok X log hm k false
    have b2 := Bin.ok X log hm (k + X.length) false
    rw [Int.add_emod_right] at b2
    have b3 := Bin.ok X log hm (-k) Bool.true
    rw [bin_back X log k h2] at b3
    have b4 := Bin.ok X log hm 0 false
    rw [Int.zero_emod, show ((0 : Int).toNat) = 0 from rfl, bin_one X log false h2] at b4
    have sb := sumX_bd h5 X.length (Nat.le_refl _)
    have s1 : IntKind.i64.wrap ((sumX X X.length).1 * 2 ^ min 8 IntKind.i64.bits) = (sumX X X.length).1 * 256 := by
      rw [show ((2 : Int) ^ min 8 IntKind.i64.bits) = 256 from rfl]
      exact wr (by omega)
    have s2 : IntKind.i64.wrap ((sumX X X.length).2 * 2 ^ min 8 IntKind.i64.bits) = (sumX X X.length).2 * 256 := by
      rw [show ((2 : Int) ^ min 8 IntKind.i64.bits) = 256 from rfl]
      exact wr (by omega)
    generalize (binV X (tabV log 40) false (k % X.length).toNat).1 = B1 at *
    generalize (binV X (tabV log 40) false (k % X.length).toNat).2 = B2 at *
    refine call_ok b1 rfl ?_
    simp only [evA, evT, Go.undef, aload, astore, afieldAddr, afield, aindex, aindexAddr, abuild, abuildSlice, amakeSlice, aslice, aext, alen, aminmax, minmaxGo, aappend, newsOf, buildCells, cutRows, reps, setCells, AV.cells, allOne, AV.one, Value.oneCell', AV.pure, allPure, AV.free, allFree, rowsFree, Nat.reduceBEq, Nat.reduceAdd, Nat.reduceMul, Nat.reduceSub, Nat.reduceLT, Nat.reduceLeDiff, Int.reduceToNat, reduceIte, reduceCtorEq, Int.reduceLT, Int.reduceLE, Nat.reduceEqDiff, Int.reduceEq, Int.reduceNeg, Int.reduceMul, Int.reduceAdd, Int.reduceSub, Int.reduceBNe, Int.reduceBEq, apart, bnd, cx_free, cx_len, e1]
    refine call_ok b2 rfl ?_
    simp only [evA, evT, Go.undef, aload, astore, afieldAddr, afield, aindex, aindexAddr, abuild, abuildSlice, amakeSlice, aslice, aext, alen, aminmax, minmaxGo, aappend, newsOf, buildCells, cutRows, reps, setCells, AV.cells, allOne, AV.one, Value.oneCell', AV.pure, allPure, AV.free, allFree, rowsFree, Nat.reduceBEq, Nat.reduceAdd, Nat.reduceMul, Nat.reduceSub, Nat.reduceLT, Nat.reduceLeDiff, Int.reduceToNat, reduceIte, reduceCtorEq, Int.reduceLT, Int.reduceLE, Nat.reduceEqDiff, Int.reduceEq, Int.reduceNeg, Int.reduceMul, Int.reduceAdd, Int.reduceSub, Int.reduceBNe, Int.reduceBEq, apart, bnd, cx_free, cx_len, e2]
    refine call_ok b3 rfl ?_
    simp only [evA, evT, Go.undef, aload, astore, afieldAddr, afield, aindex, aindexAddr, abuild, abuildSlice, amakeSlice, aslice, aext, alen, aminmax, minmaxGo, aappend, newsOf, buildCells, cutRows, reps, setCells, AV.cells, allOne, AV.one, Value.oneCell', AV.pure, allPure, AV.free, allFree, rowsFree, Nat.reduceBEq, Nat.reduceAdd, Nat.reduceMul, Nat.reduceSub, Nat.reduceLT, Nat.reduceLeDiff, Int.reduceToNat, reduceIte, reduceCtorEq, Int.reduceLT, Int.reduceLE, Nat.reduceEqDiff, Int.reduceEq, Int.reduceNeg, Int.reduceMul, Int.reduceAdd, Int.reduceSub, Int.reduceBNe, Int.reduceBEq, apart, bnd, cx_free, cx_len]
    refine call_ok b4 rfl ?_
    simp only [evA, evT, Go.undef, aload, astore, afieldAddr, afield, aindex, aindexAddr, abuild, abuildSlice, amakeSlice, aslice, aext, alen, aminmax, minmaxGo, aappend, newsOf, buildCells, cutRows, reps, setCells, AV.cells, allOne, AV.one, Value.oneCell', AV.pure, allPure, AV.free, allFree, rowsFree, Nat.reduceBEq, Nat.reduceAdd, Nat.reduceMul, Nat.reduceSub, Nat.reduceLT, Nat.reduceLeDiff, Int.reduceToNat, reduceIte, reduceCtorEq, Int.reduceLT, Int.reduceLE, Nat.reduceEqDiff, Int.reduceEq, Int.reduceNeg, Int.reduceMul, Int.reduceAdd, Int.reduceSub, Int.reduceBNe, Int.reduceBEq, apart, bnd, cx_free, cx_len]
    refine l_inv (fun i => ⟨[(62, .int i), (61, .int X.length), (60, .sl 2 (cxRows X)), (14, .loc 4 0), (13, .int 0), (12, .loc 3 0), (11, .int 0), (10, .loc 2 0), (9, .int 0), (8, .loc 1 0), (5, .loc 0 0)], [(4, some (.box [.int (sumX X i).1, .int (sumX X i).2])), (3, some (.box [.int ((sumX X X.length).1 * 256), .int ((sumX X X.length).2 * 256)])), (2, some (.box [.int B1, .int B2])), (1, some (.box [.int B1, .int B2])), (0, some (.box [.int B1, .int B2]))], 5⟩) X.length ?_ (fun i hi K hK => ?_) (fun K => ?_)
    · refine weak_of (fun l => l) rfl ?_ ?_
      all_goals simp only [evA, evB, evT, Go.undef, aload, astore, afieldAddr, afield, aindex, aindexAddr, abuild, abuildSlice, amakeSlice, aslice, aext, alen, aminmax, minmaxGo, aappend, newsOf, buildCells, cutRows, reps, setCells, AV.cells, allOne, AV.one, Value.oneCell', AV.pure, allPure, AV.free, allFree, rowsFree, Nat.reduceBEq, Nat.reduceAdd, Nat.reduceMul, Nat.reduceSub, Nat.reduceLT, Nat.reduceLeDiff, Int.reduceToNat, reduceIte, reduceCtorEq, Int.reduceLT, Int.reduceLE, Nat.reduceEqDiff, Int.reduceEq, Int.reduceNeg, Int.reduceMul, Int.reduceAdd, Int.reduceSub, Int.reduceBNe, Int.reduceBEq, apart, bnd, cx_free, Int.natCast_zero, sumX]
    · have q0 : (i : Int) < X.length := by omega
      have q1 : IntKind.i64.wrap ((i : Int) + 1) = ((i + 1 : Nat) : Int) := by rw [wr (by omega)]; omega
      have q2 : (0 : Int) ≤ i := by omega
      have sbi := sumX_bd h5 i (by omega)
      have hxi := near_get h5 hi
      unfold win at hxi
      have t1 : IntKind.i64.wrap ((sumX X i).1 + (X.getD i (0, 0)).1) = (sumX X i).1 + (X.getD i (0, 0)).1 := wr (by omega)
      have t2 : IntKind.i64.wrap ((sumX X i).2 + (X.getD i (0, 0)).2) = (sumX X i).2 + (X.getD i (0, 0)).2 := wr (by omega)
      simp only [evA, evT, Go.undef, aload, astore, afieldAddr, afield, aindex, aindexAddr, abuild, abuildSlice, amakeSlice, aslice, aext, alen, aminmax, minmaxGo, aappend, newsOf, buildCells, cutRows, reps, setCells, AV.cells, allOne, AV.one, Value.oneCell', AV.pure, allPure, AV.free, allFree, rowsFree, Nat.reduceBEq, Nat.reduceAdd, Nat.reduceMul, Nat.reduceSub, Nat.reduceLT, Nat.reduceLeDiff, Int.reduceToNat, reduceIte, reduceCtorEq, Int.reduceLT, Int.reduceLE, Nat.reduceEqDiff, Int.reduceEq, Int.reduceNeg, Int.reduceMul, Int.reduceAdd, Int.reduceSub, Int.reduceBNe, Int.reduceBEq, apart, bnd, q0, q1, q2, cx_len, Int.toNat_natCast, cx_getD hi, t1, t2]
      refine hK _ (weak_of (fun l => l) rfl ?_ ?_)
      all_goals simp only [evA, evB, evT, Go.undef, aload, astore, afieldAddr, afield, aindex, aindexAddr, abuild, abuildSlice, amakeSlice, aslice, aext, alen, aminmax, minmaxGo, aappend, newsOf, buildCells, cutRows, reps, setCells, AV.cells, allOne, AV.one, Value.oneCell', AV.pure, allPure, AV.free, allFree, rowsFree, Nat.reduceBEq, Nat.reduceAdd, Nat.reduceMul, Nat.reduceSub, Nat.reduceLT, Nat.reduceLeDiff, Int.reduceToNat, reduceIte, reduceCtorEq, Int.reduceLT, Int.reduceLE, Nat.reduceEqDiff, Int.reduceEq, Int.reduceNeg, Int.reduceMul, Int.reduceAdd, Int.reduceSub, Int.reduceBNe, Int.reduceBEq, apart, bnd, cx_free, sumX]
    · simp only [evA, evT, Go.undef, aload, astore, afieldAddr, afield, aindex, aindexAddr, abuild, abuildSlice, amakeSlice, aslice, aext, alen, aminmax, minmaxGo, aappend, newsOf, buildCells, cutRows, reps, setCells, AV.cells, allOne, AV.one, Value.oneCell', AV.pure, allPure, AV.free, allFree, rowsFree, Nat.reduceBEq, Nat.reduceAdd, Nat.reduceMul, Nat.reduceSub, Nat.reduceLT, Nat.reduceLeDiff, Int.reduceToNat, reduceIte, reduceCtorEq, Int.reduceLT, Int.reduceLE, Nat.reduceEqDiff, Int.reduceEq, Int.reduceNeg, Int.reduceMul, Int.reduceAdd, Int.reduceSub, Int.reduceBNe, Int.reduceBEq, apart, bnd]
      refine call_ok alive16.ok rfl ?_
      simp only [evA, evT, Go.undef, aload, astore, afieldAddr, afield, aindex, aindexAddr, abuild, abuildSlice, amakeSlice, aslice, aext, alen, aminmax, minmaxGo, aappend, newsOf, buildCells, cutRows, reps, setCells, AV.cells, allOne, AV.one, Value.oneCell', AV.pure, allPure, AV.free, allFree, rowsFree, Nat.reduceBEq, Nat.reduceAdd, Nat.reduceMul, Nat.reduceSub, Nat.reduceLT, Nat.reduceLeDiff, Int.reduceToNat, reduceIte, reduceCtorEq, Int.reduceLT, Int.reduceLE, Nat.reduceEqDiff, Int.reduceEq, Int.reduceNeg, Int.reduceMul, Int.reduceAdd, Int.reduceSub, Int.reduceBNe, Int.reduceBEq, apart, bnd, s1, s2]
  · have hne : ¬ whyD X = 0 := by rcases g with ⟨g, _⟩ | ⟨g, _⟩ <;> omega
    refine call_ok (Bin.bad X (by omega) hne k false) rfl ?_
    simp only [evA, evT, Go.undef, aload, astore, afieldAddr, afield, aindex, aindexAddr, abuild, abuildSlice, amakeSlice, aslice, aext, alen, aminmax, minmaxGo, aappend, newsOf, buildCells, cutRows, reps, setCells, AV.cells, allOne, AV.one, Value.oneCell', AV.pure, allPure, AV.free, allFree, rowsFree, Nat.reduceBEq, Nat.reduceAdd, Nat.reduceMul, Nat.reduceSub, Nat.reduceLT, Nat.reduceLeDiff, Int.reduceToNat, reduceIte, reduceCtorEq, Int.reduceLT, Int.reduceLE, Nat.reduceEqDiff, Int.reduceEq, Int.reduceNeg, Int.reduceMul, Int.reduceAdd, Int.reduceSub, Int.reduceBNe, Int.reduceBEq, apart, bnd, cx_free, hne]
    refine call_ok alive16.ok rfl ?_
    simp only [evA, evT, Go.undef, aload, astore, afieldAddr, afield, aindex, aindexAddr, abuild, abuildSlice, amakeSlice, aslice, aext, alen, aminmax, minmaxGo, aappend, newsOf, buildCells, cutRows, reps, setCells, AV.cells, allOne, AV.one, Value.oneCell', AV.pure, allPure, AV.free, allFree, rowsFree, Nat.reduceBEq, Nat.reduceAdd, Nat.reduceMul, Nat.reduceSub, Nat.reduceLT, Nat.reduceLeDiff, Int.reduceToNat, reduceIte, reduceCtorEq, Int.reduceLT, Int.reduceLE, Nat.reduceEqDiff, Int.reduceEq, Int.reduceNeg, Int.reduceMul, Int.reduceAdd, Int.reduceSub, Int.reduceBNe, Int.reduceBEq, apart, bnd]
theorem sumN_bd {f : Nat → Int} {B : Int} : ∀ m : Nat, (∀ k, k < m → -B ≤ f k ∧ f k ≤ B) → -(m * B) ≤ sumN f m ∧ sumN f m ≤ m * B
  | 0, _ => by simp [sumN]
  | m + 1, h => by
    have h1 := sumN_bd m (fun k hk => h k (by omega))
    have h2 := h m (by omega)
    rw [sumN, Int.natCast_add, Int.add_mul]
    simp only [Int.natCast_one, Int.one_mul]
    omega
theorem binV_bd (X : List (Int × Int)) (log : Nat) (inv : Bool) (hm : mayD X log) (k : Nat) : (-70368744177664 ≤ (binV X (tabV log 40) inv k).1 ∧ (binV X (tabV log 40) inv k).1 ≤ 70368744177664) ∧ (-70368744177664 ≤ (binV X (tabV log 40) inv k).2 ∧ (binV X (tabV log 40) inv k).2 ≤ 70368744177664) := by
  obtain ⟨h1, h2, h3, h4, h5⟩ := hm
  have hp := pow64 h1
  have := tS_bd X (tabV log 40) inv k (by omega) (by rw [tab_len]; omega) h5 (tab_40 h1.2) X.length (Nat.le_refl _)
  unfold binV
  simp only
  omega
theorem allV_get {xs ws : List (Int × Int)} {inv : Bool} {i : Nat} (h : i < xs.length) : (allV xs ws inv).getD i (0, 0) = binV xs ws inv i := by
  rw [getD_at (by rw [allV_len]; exact h)]
  unfold allV fillL
  simp [h]
theorem DftSum.true (inv : Bool) (xs : List (Int × Int)) : Ok Try.prog 17 [.sl 2 (cxRows xs), .bool inv] (.bool true) := by
  refine ok_of (X := fun _ => []) (Z := fun _ => false) (res := [ResultVar.tmp 4]) tok follows Try.func17 rfl rfl fine17 (by kernel_rfl) (by kernel_rfl) ?_
  simp only [evA, evT, Go.undef, aload, astore, afieldAddr, afield, aindex, aindexAddr, abuild, abuildSlice, amakeSlice, aslice, aext, alen, aminmax, minmaxGo, aappend, newsOf, buildCells, cutRows, reps, setCells, AV.cells, allOne, AV.one, Value.oneCell', AV.pure, allPure, AV.free, allFree, rowsFree, Nat.reduceBEq, Nat.reduceAdd, Nat.reduceMul, Nat.reduceSub, Nat.reduceLT, Nat.reduceLeDiff, Int.reduceToNat, reduceIte, reduceCtorEq, Int.reduceLT, Int.reduceLE, Nat.reduceEqDiff, Int.reduceEq, Int.reduceNeg, Int.reduceMul, Int.reduceAdd, Int.reduceSub, Int.reduceBNe, Int.reduceBEq, apart, bnd, cx_len, min70, min70_le, min70_0, Int.toNat_natCast, cx_take, cx_free]
  have hX := take_len (xs := xs)
  generalize xs.take (min xs.length 70) = X at *
  rcases may_or X with ⟨g, log, hm⟩ | g
  · have hm' := hm
    obtain ⟨h1, h2, h3, h4, h5⟩ := hm'
    have hp := pow64 h1
    have hx0 := near_get h5 (i := 0) (by omega)
    have hg := gm_bd h5 X.length (Nat.le_refl _)
    have hs : 2 ≤ slackV X ∧ slackV X ≤ 100 := by
      have m1 := mulabs (x := 2 * (X.length : Int)) (y := gm X X.length) (N := 128) (M := 2147483648) (by omega) (by omega)
      have m2 : 0 ≤ 2 * (X.length : Int) * gm X X.length := Int.mul_nonneg (by omega) (by omega)
      unfold slackV
      omega
    have bs := bins_sum X log inv h1 h2
    have bb := binV_bd X log inv hm
    unfold win at hx0
    have m3 := mulabs (x := (X.length : Int)) (y := (X.getD 0 (0, 0)).1) (N := 64) (M := 2147483648) (by omega) (by omega)
    have m4 := mulabs (x := (X.length : Int)) (y := (X.getD 0 (0, 0)).2) (N := 64) (M := 2147483648) (by omega) (by omega)
    have e1 : IntKind.i64.wrap (0 - (X.getD 0 (0, 0)).1) = -(X.getD 0 (0, 0)).1 := by rw [wr (by omega)]; omega
    have e2 : IntKind.i64.wrap (0 - (X.getD 0 (0, 0)).2) = -(X.getD 0 (0, 0)).2 := by rw [wr (by omega)]; omega
    have e3 : IntKind.i64.wrap (-(X.getD 0 (0, 0)).1 * (X.length : Int)) = -((X.length : Int) * (X.getD 0 (0, 0)).1) := by rw [Int.neg_mul, Int.mul_comm, wr (by omega)]
    have e4 : IntKind.i64.wrap (-(X.getD 0 (0, 0)).2 * (X.length : Int)) = -((X.length : Int) * (X.getD 0 (0, 0)).2) := by rw [Int.neg_mul, Int.mul_comm, wr (by omega)]
    have p8 : ((2 : Int) ^ min 8 IntKind.i64.bits) = 256 := rfl
    have e5 : IntKind.i64.wrap (-((X.length : Int) * (X.getD 0 (0, 0)).1) * 2 ^ min 8 IntKind.i64.bits) = -((X.length : Int) * (X.getD 0 (0, 0)).1 * 256) := by rw [p8, wr (by omega)]; omega
    have e6 : IntKind.i64.wrap (-((X.length : Int) * (X.getD 0 (0, 0)).2) * 2 ^ min 8 IntKind.i64.bits) = -((X.length : Int) * (X.getD 0 (0, 0)).2 * 256) := by rw [p8, wr (by omega)]; omega
    generalize hR0 : (X.length : Int) * (X.getD 0 (0, 0)).1 * 256 = R0 at *
    generalize hI0 : (X.length : Int) * (X.getD 0 (0, 0)).2 * 256 = I0 at *
    have q00 : (0 : Int) < X.length := by omega
    refine call_ok (All.okd X log hm inv) (by simp only [evA, evT, Go.undef, aload, astore, afieldAddr, afield, aindex, aindexAddr, abuild, abuildSlice, amakeSlice, aslice, aext, alen, aminmax, minmaxGo, aappend, newsOf, buildCells, cutRows, reps, setCells, AV.cells, allOne, AV.one, Value.oneCell', AV.pure, allPure, AV.free, allFree, rowsFree, Nat.reduceBEq, Nat.reduceAdd, Nat.reduceMul, Nat.reduceSub, Nat.reduceLT, Nat.reduceLeDiff, Int.reduceToNat, reduceIte, reduceCtorEq, Int.reduceLT, Int.reduceLE, Nat.reduceEqDiff, Int.reduceEq, Int.reduceNeg, Int.reduceMul, Int.reduceAdd, Int.reduceSub, Int.reduceBNe, Int.reduceBEq, apart, bnd, cx_free]) ?_
    simp only [evA, evT, Go.undef, aload, astore, afieldAddr, afield, aindex, aindexAddr, abuild, abuildSlice, amakeSlice, aslice, aext, alen, aminmax, minmaxGo, aappend, newsOf, buildCells, cutRows, reps, setCells, AV.cells, allOne, AV.one, Value.oneCell', AV.pure, allPure, AV.free, allFree, rowsFree, Nat.reduceBEq, Nat.reduceAdd, Nat.reduceMul, Nat.reduceSub, Nat.reduceLT, Nat.reduceLeDiff, Int.reduceToNat, reduceIte, reduceCtorEq, Int.reduceLT, Int.reduceLE, Nat.reduceEqDiff, Int.reduceEq, Int.reduceNeg, Int.reduceMul, Int.reduceAdd, Int.reduceSub, Int.reduceBNe, Int.reduceBEq, apart, bnd, cx_free]
    refine call_ok (Slack.ok X log hm) rfl ?_
    simp only [evA, evT, Go.undef, aload, astore, afieldAddr, afield, aindex, aindexAddr, abuild, abuildSlice, amakeSlice, aslice, aext, alen, aminmax, minmaxGo, aappend, newsOf, buildCells, cutRows, reps, setCells, AV.cells, allOne, AV.one, Value.oneCell', AV.pure, allPure, AV.free, allFree, rowsFree, Nat.reduceBEq, Nat.reduceAdd, Nat.reduceMul, Nat.reduceSub, Nat.reduceLT, Nat.reduceLeDiff, Int.reduceToNat, reduceIte, reduceCtorEq, Int.reduceLT, Int.reduceLE, Nat.reduceEqDiff, Int.reduceEq, Int.reduceNeg, Int.reduceMul, Int.reduceAdd, Int.reduceSub, Int.reduceBNe, Int.reduceBEq, apart, bnd, cx_free, cx_len, allV_len]
    refine call_ok alive16.ok rfl ?_
    simp only [evA, evT, Go.undef, aload, astore, afieldAddr, afield, aindex, aindexAddr, abuild, abuildSlice, amakeSlice, aslice, aext, alen, aminmax, minmaxGo, aappend, newsOf, buildCells, cutRows, reps, setCells, AV.cells, allOne, AV.one, Value.oneCell', AV.pure, allPure, AV.free, allFree, rowsFree, Nat.reduceBEq, Nat.reduceAdd, Nat.reduceMul, Nat.reduceSub, Nat.reduceLT, Nat.reduceLeDiff, Int.reduceToNat, reduceIte, reduceCtorEq, Int.reduceLT, Int.reduceLE, Nat.reduceEqDiff, Int.reduceEq, Int.reduceNeg, Int.reduceMul, Int.reduceAdd, Int.reduceSub, Int.reduceBNe, Int.reduceBEq, apart, bnd, cx_free, cx_len, allV_len, q00, Int.toNat_zero, cx_getD (show 0 < X.length by omega), e1, e2, e3, e4, e5, e6]
    refine l_inv (fun i => ⟨[(77, .int i), (76, .int X.length), (75, .sl 2 (cxRows (allV X (tabV log 40) inv))), (9, .int (-R0 + sumN (fun k => (binV X (tabV log 40) inv k).1) i)), (10, .int (-I0 + sumN (fun k => (binV X (tabV log 40) inv k).2) i)), (7, .int (slackV X)), (0, .sl 2 (cxRows X)), (1, .bool inv)], [], 0⟩) X.length ?_ (fun i hi K hK => ?_) (fun K => ?_)
    · refine weak_of (fun l => l) rfl trivial ?_
      simp only [evA, evB, evT, Go.undef, aload, astore, afieldAddr, afield, aindex, aindexAddr, abuild, abuildSlice, amakeSlice, aslice, aext, alen, aminmax, minmaxGo, aappend, newsOf, buildCells, cutRows, reps, setCells, AV.cells, allOne, AV.one, Value.oneCell', AV.pure, allPure, AV.free, allFree, rowsFree, Nat.reduceBEq, Nat.reduceAdd, Nat.reduceMul, Nat.reduceSub, Nat.reduceLT, Nat.reduceLeDiff, Int.reduceToNat, reduceIte, reduceCtorEq, Int.reduceLT, Int.reduceLE, Nat.reduceEqDiff, Int.reduceEq, Int.reduceNeg, Int.reduceMul, Int.reduceAdd, Int.reduceSub, Int.reduceBNe, Int.reduceBEq, apart, bnd, cx_free, Int.natCast_zero, sumN, Int.add_zero]
    · have q0 : (i : Int) < X.length := by omega
      have q1 : IntKind.i64.wrap ((i : Int) + 1) = ((i + 1 : Nat) : Int) := by rw [wr (by omega)]; omega
      have q2 : (0 : Int) ≤ i := by omega
      have hB := Bin.ok X log hm i inv
      rw [Int.emod_eq_of_lt (by omega) q0, Int.toNat_natCast] at hB
      have sb1 := sumN_bd (f := fun k => (binV X (tabV log 40) inv k).1) i (fun k _ => (bb k).1)
      have sb2 := sumN_bd (f := fun k => (binV X (tabV log 40) inv k).2) i (fun k _ => (bb k).2)
      have bi := bb i
      have r1 : IntKind.i64.wrap (-R0 + sumN (fun k => (binV X (tabV log 40) inv k).1) i + (binV X (tabV log 40) inv i).1) = -R0 + sumN (fun k => (binV X (tabV log 40) inv k).1) (i + 1) := by rw [sumN, wr (by omega)]; omega
      have r2 : IntKind.i64.wrap (-I0 + sumN (fun k => (binV X (tabV log 40) inv k).2) i + (binV X (tabV log 40) inv i).2) = -I0 + sumN (fun k => (binV X (tabV log 40) inv k).2) (i + 1) := by rw [sumN, wr (by omega)]; omega
      have hia : i < (allV X (tabV log 40) inv).length := by rw [allV_len]; exact hi
      simp only [evA, evT, Go.undef, aload, astore, afieldAddr, afield, aindex, aindexAddr, abuild, abuildSlice, amakeSlice, aslice, aext, alen, aminmax, minmaxGo, aappend, newsOf, buildCells, cutRows, reps, setCells, AV.cells, allOne, AV.one, Value.oneCell', AV.pure, allPure, AV.free, allFree, rowsFree, Nat.reduceBEq, Nat.reduceAdd, Nat.reduceMul, Nat.reduceSub, Nat.reduceLT, Nat.reduceLeDiff, Int.reduceToNat, reduceIte, reduceCtorEq, Int.reduceLT, Int.reduceLE, Nat.reduceEqDiff, Int.reduceEq, Int.reduceNeg, Int.reduceMul, Int.reduceAdd, Int.reduceSub, Int.reduceBNe, Int.reduceBEq, apart, bnd, q0, q2, cx_len, allV_len, Int.toNat_natCast, cx_getD hia, allV_get hi, cx_free]
      refine call_ok hB rfl ?_
      simp only [evA, evT, Go.undef, aload, astore, afieldAddr, afield, aindex, aindexAddr, abuild, abuildSlice, amakeSlice, aslice, aext, alen, aminmax, minmaxGo, aappend, newsOf, buildCells, cutRows, reps, setCells, AV.cells, allOne, AV.one, Value.oneCell', AV.pure, allPure, AV.free, allFree, rowsFree, Nat.reduceBEq, Nat.reduceAdd, Nat.reduceMul, Nat.reduceSub, Nat.reduceLT, Nat.reduceLeDiff, Int.reduceToNat, reduceIte, reduceCtorEq, Int.reduceLT, Int.reduceLE, Nat.reduceEqDiff, Int.reduceEq, Int.reduceNeg, Int.reduceMul, Int.reduceAdd, Int.reduceSub, Int.reduceBNe, Int.reduceBEq, apart, bnd, r1, r2, q1]
      refine hK _ (weak_of (fun l => l) rfl trivial ?_)
      simp only [evA, evB, evT, Go.undef, aload, astore, afieldAddr, afield, aindex, aindexAddr, abuild, abuildSlice, amakeSlice, aslice, aext, alen, aminmax, minmaxGo, aappend, newsOf, buildCells, cutRows, reps, setCells, AV.cells, allOne, AV.one, Value.oneCell', AV.pure, allPure, AV.free, allFree, rowsFree, Nat.reduceBEq, Nat.reduceAdd, Nat.reduceMul, Nat.reduceSub, Nat.reduceLT, Nat.reduceLeDiff, Int.reduceToNat, reduceIte, reduceCtorEq, Int.reduceLT, Int.reduceLE, Nat.reduceEqDiff, Int.reduceEq, Int.reduceNeg, Int.reduceMul, Int.reduceAdd, Int.reduceSub, Int.reduceBNe, Int.reduceBEq, apart, bnd, cx_free]
    · generalize sumN (fun k => (binV X (tabV log 40) inv k).1) X.length = S1 at *
      generalize sumN (fun k => (binV X (tabV log 40) inv k).2) X.length = S2 at *
      have hsn : (X.length : Int) ≤ slackV X * X.length := by
        have := Int.mul_le_mul_of_nonneg_right (show (1 : Int) ≤ slackV X by omega) (show (0 : Int) ≤ X.length by omega)
        omega
      have hsn2 := mulabs (x := slackV X) (y := (X.length : Int)) (N := 100) (M := 64) (by omega) (by omega)
      have w0 : IntKind.i64.wrap (slackV X * (X.length : Int)) = slackV X * X.length := wr (by omega)
      have w1 : IntKind.i64.wrap (0 - (-R0 + S1)) = 0 - (-R0 + S1) := wr (by omega)
      have w2 : IntKind.i64.wrap (0 - (-I0 + S2)) = 0 - (-I0 + S2) := wr (by omega)
      simp only [evA, evT, Go.undef, aload, astore, afieldAddr, afield, aindex, aindexAddr, abuild, abuildSlice, amakeSlice, aslice, aext, alen, aminmax, minmaxGo, aappend, newsOf, buildCells, cutRows, reps, setCells, AV.cells, allOne, AV.one, Value.oneCell', AV.pure, allPure, AV.free, allFree, rowsFree, Nat.reduceBEq, Nat.reduceAdd, Nat.reduceMul, Nat.reduceSub, Nat.reduceLT, Nat.reduceLeDiff, Int.reduceToNat, reduceIte, reduceCtorEq, Int.reduceLT, Int.reduceLE, Nat.reduceEqDiff, Int.reduceEq, Int.reduceNeg, Int.reduceMul, Int.reduceAdd, Int.reduceSub, Int.reduceBNe, Int.reduceBEq, apart, bnd, w0, w1, w2, cx_len]
      generalize slackV X * (X.length : Int) = D at *
      refine congrArg AV.bool (decide_eq_true ?_)
      repeat' split
      all_goals omega
  · have hne : ¬ whyD X = 0 := by rcases g with ⟨g, _⟩ | ⟨g, _⟩ <;> omega
    refine call_ok (All.badd X (by omega) hne inv) rfl ?_
    simp only [evA, evT, Go.undef, aload, astore, afieldAddr, afield, aindex, aindexAddr, abuild, abuildSlice, amakeSlice, aslice, aext, alen, aminmax, minmaxGo, aappend, newsOf, buildCells, cutRows, reps, setCells, AV.cells, allOne, AV.one, Value.oneCell', AV.pure, allPure, AV.free, allFree, rowsFree, Nat.reduceBEq, Nat.reduceAdd, Nat.reduceMul, Nat.reduceSub, Nat.reduceLT, Nat.reduceLeDiff, Int.reduceToNat, reduceIte, reduceCtorEq, Int.reduceLT, Int.reduceLE, Nat.reduceEqDiff, Int.reduceEq, Int.reduceNeg, Int.reduceMul, Int.reduceAdd, Int.reduceSub, Int.reduceBNe, Int.reduceBEq, apart, bnd, cx_free]
    refine call_ok (Slack.bad X (by omega) hne) rfl ?_
    simp only [evA, evT, Go.undef, aload, astore, afieldAddr, afield, aindex, aindexAddr, abuild, abuildSlice, amakeSlice, aslice, aext, alen, aminmax, minmaxGo, aappend, newsOf, buildCells, cutRows, reps, setCells, AV.cells, allOne, AV.one, Value.oneCell', AV.pure, allPure, AV.free, allFree, rowsFree, Nat.reduceBEq, Nat.reduceAdd, Nat.reduceMul, Nat.reduceSub, Nat.reduceLT, Nat.reduceLeDiff, Int.reduceToNat, reduceIte, reduceCtorEq, Int.reduceLT, Int.reduceLE, Nat.reduceEqDiff, Int.reduceEq, Int.reduceNeg, Int.reduceMul, Int.reduceAdd, Int.reduceSub, Int.reduceBNe, Int.reduceBEq, apart, bnd, cx_free, hne]
    refine call_ok alive16.ok rfl ?_
    simp only [evA, evT, Go.undef, aload, astore, afieldAddr, afield, aindex, aindexAddr, abuild, abuildSlice, amakeSlice, aslice, aext, alen, aminmax, minmaxGo, aappend, newsOf, buildCells, cutRows, reps, setCells, AV.cells, allOne, AV.one, Value.oneCell', AV.pure, allPure, AV.free, allFree, rowsFree, Nat.reduceBEq, Nat.reduceAdd, Nat.reduceMul, Nat.reduceSub, Nat.reduceLT, Nat.reduceLeDiff, Int.reduceToNat, reduceIte, reduceCtorEq, Int.reduceLT, Int.reduceLE, Nat.reduceEqDiff, Int.reduceEq, Int.reduceNeg, Int.reduceMul, Int.reduceAdd, Int.reduceSub, Int.reduceBNe, Int.reduceBEq, apart, bnd]
end Go.Proofs.YtfmhdfaelgkmcaaV

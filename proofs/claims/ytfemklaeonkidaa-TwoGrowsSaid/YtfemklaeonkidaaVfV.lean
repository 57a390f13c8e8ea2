import Derived.Test.YtfemklaeonkidaaVfU
/- Contract: the document's pass of halves. -/
namespace Go.Proofs.YtfemklaeonkidaaV
open Go Go.RowKit
set_option linter.unusedVariables false
set_option linter.unusedSimpArgs false
set_option maxRecDepth 100000
set_option maxHeartbeats 40000000
theorem t2V_at {inv : Bool} {bits s mode : Int} {xs ws : List (Int × Int)} {H u i : Nat} (hi : i < xs.length) : (t2V inv bits s mode xs ws H u).getD i (0, 0) = tV inv bits s mode xs ws H u i := by
  unfold t2V
  rw [mix_at hi]
  rfl
theorem mod2 (i H : Nat) : i % (2 * H) = i % H + H * (i / H % 2) := by
  rw [Nat.mul_comm 2 H, Nat.mod_mul]
/-- A number's pair lies within. -/
theorem pair_in {i H u n : Nat} (hH : 0 < H) (hn : n = 2 * H * u) (hi : i < n) : ((i / H) % 2 = 0 ∧ i + H < n ∧ i % (2 * H) = i % H) ∨ ((i / H) % 2 = 1 ∧ H ≤ i ∧ i % (2 * H) = i % H + H) := by
  have hm := mod2 i H
  have hd := Nat.div_add_mod i (2 * H)
  have hlt := Nat.mod_lt i hH
  have hiu : i / (2 * H) < u := Nat.div_lt_of_lt_mul (by omega)
  have hmul : 2 * H * (i / (2 * H) + 1) ≤ 2 * H * u := Nat.mul_le_mul_left _ hiu
  rw [Nat.mul_add, Nat.mul_one] at hmul
  rcases Nat.mod_two_eq_zero_or_one (i / H) with e | e
  · rw [e, Nat.mul_zero, Nat.add_zero] at hm
    exact .inl ⟨e, by omega, hm⟩
  · rw [e, Nat.mul_one] at hm
    refine .inr ⟨e, ?_, hm⟩
    rcases Nat.lt_or_ge i H with h | h
    · rw [Nat.div_eq_of_lt h] at e
      cases e
    · exact h
theorem RPass2.ok (inv : Bool) (bits s mode : Int) (xs ws : List (Int × Int)) (H u : Nat) (hl : xs.length ≤ 1000000) (hH : 0 < H) (hH16 : H ≤ 32) (hu : u ≤ 32) (hu0 : 0 < u) (hn : xs.length = 2 * H * u) (h2 : (ws.length : Int) = xs.length) (hset : setP bits s mode) (hx : nears 2147483648 xs) (hr : nears (2 ^ bits.toNat) ws) :
    Ok Try.prog 46 [.sl 2 (cxRows xs), .sl 2 (cxRows ws), .int H, .int bits, .int s, .int mode, .bool inv] (.sl 2 (cxRows (t2V inv bits s mode xs ws H u))) := by
  have m2 : IntKind.i64.wrap (2 * (H : Int)) = ((2 * H : Nat) : Int) := by rw [wr (by omega)]; omega
  have hdiv : IntKind.i64.wrap ((xs.length : Int).tdiv ((2 * H : Nat) : Int)) = u := by
    rw [Int.tdiv_eq_ediv_of_nonneg (by omega), hn, Int.natCast_mul (2 * H) u, Int.mul_ediv_cancel_left _ (by omega)]
    exact wr (by omega)
  have hnz : ¬ ((2 * H : Nat) : Int) = 0 := by omega
  have hbig : ∀ k, k < ws.length → win 2305843009213693952 (ws.getD k (0, 0)).1 (ws.getD k (0, 0)).2 := fun k hk => win_mono (near_get hr hk) (by have := pow29 hset.1; omega)
  refine ok_of (X := fun _ => []) (Z := fun _ => false) (res := [ResultVar.tmp 14]) tok follows Try.func46 rfl rfl fine46 (by kernel_rfl) (by kernel_rfl) ?_
  simp only [evA, evT, Go.undef, aload, astore, afieldAddr, afield, aindex, aindexAddr, abuild, abuildSlice, amakeSlice, aslice, aext, alen, aminmax, minmaxGo, aappend, newsOf, buildCells, cutRows, reps, setCells, AV.cells, allOne, AV.one, Value.oneCell', AV.pure, allPure, AV.free, allFree, rowsFree, Nat.reduceBEq, Nat.reduceAdd, Nat.reduceMul, Nat.reduceSub, Nat.reduceLT, Nat.reduceLeDiff, Int.reduceToNat, reduceIte, reduceCtorEq, Int.reduceLT, Int.reduceLE, Nat.reduceEqDiff, Int.reduceEq, Int.reduceNeg, Int.reduceMul, Int.reduceAdd, Int.reduceSub, Int.reduceBNe, Int.reduceBEq, apart, bnd, cx_len]
  refine l_inv (fun i => ⟨[(17, .int i), (16, .own 0), (15, .int xs.length), (0, .sl 2 (cxRows xs)), (1, .sl 2 (cxRows ws)), (2, .int H), (3, .int bits), (4, .int s), (5, .int mode), (6, .bool inv)], [(0, some (.row 37 2 (cxRows ((t2V inv bits s mode xs ws H u).take i))))], 1⟩) xs.length ?_ (fun i hi K hK => ?_) (fun K => ?_)
  · refine weak_of (fun l => l) rfl ?_ ?_
    all_goals simp only [evA, evB, evT, Go.undef, aload, astore, afieldAddr, afield, aindex, aindexAddr, abuild, abuildSlice, amakeSlice, aslice, aext, alen, aminmax, minmaxGo, aappend, newsOf, buildCells, cutRows, reps, setCells, AV.cells, allOne, AV.one, Value.oneCell', AV.pure, allPure, AV.free, allFree, rowsFree, Nat.reduceBEq, Nat.reduceAdd, Nat.reduceMul, Nat.reduceSub, Nat.reduceLT, Nat.reduceLeDiff, Int.reduceToNat, reduceIte, reduceCtorEq, Int.reduceLT, Int.reduceLE, Nat.reduceEqDiff, Int.reduceEq, Int.reduceNeg, Int.reduceMul, Int.reduceAdd, Int.reduceSub, Int.reduceBNe, Int.reduceBEq, apart, bnd, cx_free, Int.natCast_zero]
    simp [cxRows]
  · have hpush := take_push (xs := t2V inv bits s mode xs ws H u) (i := i) (by rw [t2V_len]; exact hi)
    rw [t2V_at hi] at hpush
    have hj := Nat.mod_lt i hH
    have c1 : (i : Int).tmod ((2 * H : Nat) : Int) = ((i % (2 * H) : Nat) : Int) := tmod_nat i (2 * H)
    have hti : ((t2V inv bits s mode xs ws H u).take i).length = i := by rw [List.length_take, t2V_len]; omega
    have hi1 : (i + 1) * 16 ≤ 140737488355328 := by omega
    have hi2 : i + 1 ≤ 9223372036854775807 := by omega
    have q0 : (i : Int) < xs.length := by omega
    have q1 : IntKind.i64.wrap ((i : Int) + 1) = ((i + 1 : Nat) : Int) := by rw [wr (by omega)]; omega
    have q2 : (0 : Int) ≤ (i : Int) := by omega
    have u1 : i % H * u < ws.length := by
      have h3 : i % H * u ≤ (H - 1) * u := Nat.mul_le_mul_right _ (by omega)
      have h4 : (H - 1) * u < 2 * H * u := Nat.mul_lt_mul_of_pos_right (by omega) hu0
      omega
    have d5 : IntKind.i64.wrap (((i % H : Nat) : Int) * (u : Int)) = ((i % H * u : Nat) : Int) := by rw [← Int.natCast_mul, wr (by omega)]
    have hr1 := root_win' inv hr u1
    rcases pair_in hH hn hi with ⟨hc, hin, hm⟩ | ⟨hc, hin, hm⟩
    · have e : tV inv bits s mode xs ws H u i = tU bits s mode (xs.getD i (0, 0)) (xs.getD (i + H) (0, 0)) (rootV ws inv (i % H * u)) := by
        unfold tV
        rw [if_pos hc]
      rw [e] at hpush
      rw [hm] at c1
      have d0 : ((i % H : Nat) : Int) < (H : Int) := by omega
      have d1 : IntKind.i64.wrap ((i : Int) + (H : Int)) = ((i + H : Nat) : Int) := by rw [wr (by omega)]; omega
      have d2 : ((i + H : Nat) : Int) < xs.length := by omega
      have d3 : (0 : Int) ≤ ((i + H : Nat) : Int) := by omega
      simp only [evA, evT, Go.undef, aload, astore, afieldAddr, afield, aindex, aindexAddr, abuild, abuildSlice, amakeSlice, aslice, aext, alen, aminmax, minmaxGo, aappend, newsOf, buildCells, cutRows, reps, setCells, AV.cells, allOne, AV.one, Value.oneCell', AV.pure, allPure, AV.free, allFree, rowsFree, Nat.reduceBEq, Nat.reduceAdd, Nat.reduceMul, Nat.reduceSub, Nat.reduceLT, Nat.reduceLeDiff, Int.reduceToNat, reduceIte, reduceCtorEq, Int.reduceLT, Int.reduceLE, Nat.reduceEqDiff, Int.reduceEq, Int.reduceNeg, Int.reduceMul, Int.reduceAdd, Int.reduceSub, Int.reduceBNe, Int.reduceBEq, apart, bnd, q0, q2, m2, hnz, c1, d0, d1, d2, d3, hdiv, d5, cx_len, Int.toNat_natCast, cx_getD hi, cx_getD hin, cx_free]
      refine call_ok (RRoot.ok ws inv (i % H * u) u1 (hbig _ u1)) rfl ?_
      simp only [evA, evT, Go.undef, aload, astore, afieldAddr, afield, aindex, aindexAddr, abuild, abuildSlice, amakeSlice, aslice, aext, alen, aminmax, minmaxGo, aappend, newsOf, buildCells, cutRows, reps, setCells, AV.cells, allOne, AV.one, Value.oneCell', AV.pure, allPure, AV.free, allFree, rowsFree, Nat.reduceBEq, Nat.reduceAdd, Nat.reduceMul, Nat.reduceSub, Nat.reduceLT, Nat.reduceLeDiff, Int.reduceToNat, reduceIte, reduceCtorEq, Int.reduceLT, Int.reduceLE, Nat.reduceEqDiff, Int.reduceEq, Int.reduceNeg, Int.reduceMul, Int.reduceAdd, Int.reduceSub, Int.reduceBNe, Int.reduceBEq, apart, bnd]
      refine call_ok (Up.ok bits s mode (xs.getD i (0, 0)) (xs.getD (i + H) (0, 0)) (rootV ws inv (i % H * u)) hset (near_get hx hi) (near_get hx hin) hr1) rfl ?_
      simp only [evA, evB, evT, Go.undef, aload, astore, afieldAddr, afield, aindex, aindexAddr, abuild, abuildSlice, amakeSlice, aslice, aext, alen, aminmax, minmaxGo, aappend, newsOf, buildCells, cutRows, reps, setCells, AV.cells, allOne, AV.one, Value.oneCell', AV.pure, allPure, AV.free, allFree, rowsFree, Nat.reduceBEq, Nat.reduceAdd, Nat.reduceMul, Nat.reduceSub, Nat.reduceLT, Nat.reduceLeDiff, Int.reduceToNat, reduceIte, reduceCtorEq, Int.reduceLT, Int.reduceLE, Nat.reduceEqDiff, Int.reduceEq, Int.reduceNeg, Int.reduceMul, Int.reduceAdd, Int.reduceSub, Int.reduceBNe, Int.reduceBEq, apart, bnd, cx_len, hti, hi1, hi2, cx_push, hpush, q1]
      refine hK _ (weak_of (fun l => l + 2) rfl ?_ ?_)
      all_goals simp only [evA, evB, evT, Go.undef, aload, astore, afieldAddr, afield, aindex, aindexAddr, abuild, abuildSlice, amakeSlice, aslice, aext, alen, aminmax, minmaxGo, aappend, newsOf, buildCells, cutRows, reps, setCells, AV.cells, allOne, AV.one, Value.oneCell', AV.pure, allPure, AV.free, allFree, rowsFree, Nat.reduceBEq, Nat.reduceAdd, Nat.reduceMul, Nat.reduceSub, Nat.reduceLT, Nat.reduceLeDiff, Int.reduceToNat, reduceIte, reduceCtorEq, Int.reduceLT, Int.reduceLE, Nat.reduceEqDiff, Int.reduceEq, Int.reduceNeg, Int.reduceMul, Int.reduceAdd, Int.reduceSub, Int.reduceBNe, Int.reduceBEq, apart, bnd, cx_free]
    · have e : tV inv bits s mode xs ws H u i = tD bits s mode (xs.getD (i - H) (0, 0)) (xs.getD i (0, 0)) (rootV ws inv (i % H * u)) := by
        unfold tV
        rw [if_neg (by omega)]
      rw [e] at hpush
      rw [hm] at c1
      have d0 : ¬ ((i % H + H : Nat) : Int) < (H : Int) := by omega
      have d1 : IntKind.i64.wrap ((i : Int) - (H : Int)) = ((i - H : Nat) : Int) := by rw [wr (by omega)]; omega
      have d2 : ((i - H : Nat) : Int) < xs.length := by omega
      have d3 : (0 : Int) ≤ ((i - H : Nat) : Int) := by omega
      have d4 : IntKind.i64.wrap (((i % H + H : Nat) : Int) - (H : Int)) = ((i % H : Nat) : Int) := by rw [wr (by omega)]; omega
      have hin' : i - H < xs.length := by omega
      simp only [evA, evT, Go.undef, aload, astore, afieldAddr, afield, aindex, aindexAddr, abuild, abuildSlice, amakeSlice, aslice, aext, alen, aminmax, minmaxGo, aappend, newsOf, buildCells, cutRows, reps, setCells, AV.cells, allOne, AV.one, Value.oneCell', AV.pure, allPure, AV.free, allFree, rowsFree, Nat.reduceBEq, Nat.reduceAdd, Nat.reduceMul, Nat.reduceSub, Nat.reduceLT, Nat.reduceLeDiff, Int.reduceToNat, reduceIte, reduceCtorEq, Int.reduceLT, Int.reduceLE, Nat.reduceEqDiff, Int.reduceEq, Int.reduceNeg, Int.reduceMul, Int.reduceAdd, Int.reduceSub, Int.reduceBNe, Int.reduceBEq, apart, bnd, q0, q2, m2, hnz, c1, d0, d1, d2, d3, d4, hdiv, d5, cx_len, Int.toNat_natCast, cx_getD hi, cx_getD hin', cx_free]
      refine call_ok (RRoot.ok ws inv (i % H * u) u1 (hbig _ u1)) rfl ?_
      simp only [evA, evT, Go.undef, aload, astore, afieldAddr, afield, aindex, aindexAddr, abuild, abuildSlice, amakeSlice, aslice, aext, alen, aminmax, minmaxGo, aappend, newsOf, buildCells, cutRows, reps, setCells, AV.cells, allOne, AV.one, Value.oneCell', AV.pure, allPure, AV.free, allFree, rowsFree, Nat.reduceBEq, Nat.reduceAdd, Nat.reduceMul, Nat.reduceSub, Nat.reduceLT, Nat.reduceLeDiff, Int.reduceToNat, reduceIte, reduceCtorEq, Int.reduceLT, Int.reduceLE, Nat.reduceEqDiff, Int.reduceEq, Int.reduceNeg, Int.reduceMul, Int.reduceAdd, Int.reduceSub, Int.reduceBNe, Int.reduceBEq, apart, bnd]
      refine call_ok (Down.ok bits s mode (xs.getD (i - H) (0, 0)) (xs.getD i (0, 0)) (rootV ws inv (i % H * u)) hset (near_get hx hin') (near_get hx hi) hr1) rfl ?_
      simp only [evA, evB, evT, Go.undef, aload, astore, afieldAddr, afield, aindex, aindexAddr, abuild, abuildSlice, amakeSlice, aslice, aext, alen, aminmax, minmaxGo, aappend, newsOf, buildCells, cutRows, reps, setCells, AV.cells, allOne, AV.one, Value.oneCell', AV.pure, allPure, AV.free, allFree, rowsFree, Nat.reduceBEq, Nat.reduceAdd, Nat.reduceMul, Nat.reduceSub, Nat.reduceLT, Nat.reduceLeDiff, Int.reduceToNat, reduceIte, reduceCtorEq, Int.reduceLT, Int.reduceLE, Nat.reduceEqDiff, Int.reduceEq, Int.reduceNeg, Int.reduceMul, Int.reduceAdd, Int.reduceSub, Int.reduceBNe, Int.reduceBEq, apart, bnd, cx_len, hti, hi1, hi2, cx_push, hpush, q1]
      refine hK _ (weak_of (fun l => l + 2) rfl ?_ ?_)
      all_goals simp only [evA, evB, evT, Go.undef, aload, astore, afieldAddr, afield, aindex, aindexAddr, abuild, abuildSlice, amakeSlice, aslice, aext, alen, aminmax, minmaxGo, aappend, newsOf, buildCells, cutRows, reps, setCells, AV.cells, allOne, AV.one, Value.oneCell', AV.pure, allPure, AV.free, allFree, rowsFree, Nat.reduceBEq, Nat.reduceAdd, Nat.reduceMul, Nat.reduceSub, Nat.reduceLT, Nat.reduceLeDiff, Int.reduceToNat, reduceIte, reduceCtorEq, Int.reduceLT, Int.reduceLE, Nat.reduceEqDiff, Int.reduceEq, Int.reduceNeg, Int.reduceMul, Int.reduceAdd, Int.reduceSub, Int.reduceBNe, Int.reduceBEq, apart, bnd, cx_free]
  · have : (t2V inv bits s mode xs ws H u).take xs.length = t2V inv bits s mode xs ws H u := List.take_of_length_le (by rw [t2V_len]; exact Nat.le_refl _)
    simp only [evA, evT, Go.undef, aload, astore, afieldAddr, afield, aindex, aindexAddr, abuild, abuildSlice, amakeSlice, aslice, aext, alen, aminmax, minmaxGo, aappend, newsOf, buildCells, cutRows, reps, setCells, AV.cells, allOne, AV.one, Value.oneCell', AV.pure, allPure, AV.free, allFree, rowsFree, Nat.reduceBEq, Nat.reduceAdd, Nat.reduceMul, Nat.reduceSub, Nat.reduceLT, Nat.reduceLeDiff, Int.reduceToNat, reduceIte, reduceCtorEq, Int.reduceLT, Int.reduceLE, Nat.reduceEqDiff, Int.reduceEq, Int.reduceNeg, Int.reduceMul, Int.reduceAdd, Int.reduceSub, Int.reduceBNe, Int.reduceBEq, apart, bnd, cx_free, this]
end Go.Proofs.YtfemklaeonkidaaV

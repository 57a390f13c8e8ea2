import Derived.Test.YtfemklaeonkidaaVfN
import Derived.Test.YtfemklaeonkidaaVfG
/- Contract: the document's pass of quarters. -/
namespace Go.Proofs.YtfemklaeonkidaaV
open Go Go.RowKit
set_option linter.unusedVariables false
set_option linter.unusedSimpArgs false
set_option maxRecDepth 100000
set_option maxHeartbeats 40000000
theorem fine49 : Fine Try.prog 49 := fun _ _ => by kernel_rfl
theorem tmod_nat (a b : Nat) : (a : Int).tmod b = ((a % b : Nat) : Int) := by
  rw [Int.tmod_eq_emod_of_nonneg (by omega), Int.natCast_emod]
theorem tdiv_nat (a b : Nat) : (a : Int).tdiv b = ((a / b : Nat) : Int) := by
  rw [Int.tdiv_eq_ediv_of_nonneg (by omega), Int.natCast_ediv]
theorem cx_cut {xs : List (Int × Int)} {a b : Nat} : ((cxRows xs).take b).drop a = cxRows ((xs.take b).drop a) := by
  unfold cxRows
  rw [List.map_drop, List.map_take]
theorem cut_at {xs : List (Int × Int)} {a b i : Nat} (hi : a + i < b) (hb : b ≤ xs.length) : (cxRows ((xs.take b).drop a)).getD i [] = [.int (xs.getD (a + i) (0, 0)).1, .int (xs.getD (a + i) (0, 0)).2] := by
  rw [cx_getD (by simp; omega)]
  have : ((xs.take b).drop a).getD i (0, 0) = xs.getD (a + i) (0, 0) := by
    rw [getD_at (by simp; omega), getD_at (by omega)]
    simp
  rw [this]
theorem cx_push {xs : List (Int × Int)} {a b : Int} : cxRows xs ++ [[.int a, .int b]] = cxRows (xs ++ [(a, b)]) := by simp [cxRows]
theorem take_push {xs : List (Int × Int)} {i : Nat} (h : i < xs.length) : xs.take i ++ [xs.getD i (0, 0)] = xs.take (i + 1) := by
  rw [getD_at h, List.take_append_getElem h]
section
variable (inv : Bool) (bits s mode : Int) (xs ws : List (Int × Int)) (H u : Nat)
theorem pV_at {i : Nat} (hi : i < xs.length) : (pV inv bits s mode xs ws H u).getD i (0, 0) = pT inv bits s mode xs ws H u i := by
  unfold pV
  rw [mix_at hi]
  rfl
theorem RPass.ok (hl : xs.length ≤ 1000000) (hH : 0 < H) (hH16 : H ≤ 16) (hu : u ≤ 16) (hu0 : 0 < u) (hn : xs.length = 4 * H * u) (h2 : (ws.length : Int) = xs.length) (hset : setP bits s mode) (hx : nears 2147483648 xs) (hr : nears (2 ^ bits.toNat) ws) :
    Ok Try.prog 49 [.sl 2 (cxRows xs), .sl 2 (cxRows ws), .int H, .int bits, .int s, .int mode, .bool inv] (.sl 2 (cxRows (pV inv bits s mode xs ws H u))) := by
  have m4 : IntKind.i64.wrap (4 * (H : Int)) = ((4 * H : Nat) : Int) := by rw [wr (by omega)]; omega
  have m3 : IntKind.i64.wrap (3 * (H : Int)) = ((3 * H : Nat) : Int) := by rw [wr (by omega)]; omega
  have m2 : IntKind.i64.wrap (2 * (H : Int)) = ((2 * H : Nat) : Int) := by rw [wr (by omega)]; omega
  have hdiv : IntKind.i64.wrap ((xs.length : Int).tdiv ((4 * H : Nat) : Int)) = u := by
    rw [Int.tdiv_eq_ediv_of_nonneg (by omega), hn, Int.natCast_mul (4 * H) u, Int.mul_ediv_cancel_left _ (by omega)]
    exact wr (by omega)
  have hnz : ¬ ((4 * H : Nat) : Int) = 0 := by omega
  have hnz1 : ¬ (H : Int) = 0 := by omega
  have hp := pow29 hset.1
  have hroot : ∀ k, k < ws.length → win (2 ^ bits.toNat) (rootV ws inv k).1 (rootV ws inv k).2 := fun k hk => by
    have := near_get hr hk
    cases inv
    · exact this
    · show win (2 ^ bits.toNat) (ws.getD k (0, 0)).1 (-(ws.getD k (0, 0)).2)
      unfold win at *
      omega
  have hbig : ∀ k, k < ws.length → win 2305843009213693952 (ws.getD k (0, 0)).1 (ws.getD k (0, 0)).2 := fun k hk => win_mono (near_get hr hk) (by omega)
  refine ok_of (X := fun _ => []) (Z := fun _ => false) (res := [ResultVar.tmp 14]) tok follows Try.func49 rfl rfl fine49 (by kernel_rfl) (by kernel_rfl) ?_
  simp only [evA, evT, Go.undef, aload, astore, afieldAddr, afield, aindex, aindexAddr, abuild, abuildSlice, amakeSlice, aslice, aext, alen, aminmax, minmaxGo, aappend, newsOf, buildCells, cutRows, reps, setCells, AV.cells, allOne, AV.one, Value.oneCell', AV.pure, allPure, AV.free, allFree, rowsFree, Nat.reduceBEq, Nat.reduceAdd, Nat.reduceMul, Nat.reduceSub, Nat.reduceLT, Nat.reduceLeDiff, Int.reduceToNat, reduceIte, reduceCtorEq, Int.reduceLT, Int.reduceLE, Nat.reduceEqDiff, Int.reduceEq, Int.reduceNeg, Int.reduceMul, Int.reduceAdd, Int.reduceSub, Int.reduceBNe, Int.reduceBEq, apart, bnd, cx_len, m4, hdiv, hnz]
  refine l_inv (fun i => ⟨[(18, .int i), (17, .own 0), (16, .int u), (15, .int xs.length), (0, .sl 2 (cxRows xs)), (1, .sl 2 (cxRows ws)), (2, .int H), (3, .int bits), (4, .int s), (5, .int mode), (6, .bool inv)], [(0, some (.row 37 2 (cxRows ((pV inv bits s mode xs ws H u).take i))))], 1⟩) xs.length ?_ (fun i hi K hK => ?_) (fun K => ?_)
  · refine weak_of (fun l => l) rfl ?_ ?_
    all_goals simp only [evA, evB, evT, Go.undef, aload, astore, afieldAddr, afield, aindex, aindexAddr, abuild, abuildSlice, amakeSlice, aslice, aext, alen, aminmax, minmaxGo, aappend, newsOf, buildCells, cutRows, reps, setCells, AV.cells, allOne, AV.one, Value.oneCell', AV.pure, allPure, AV.free, allFree, rowsFree, Nat.reduceBEq, Nat.reduceAdd, Nat.reduceMul, Nat.reduceSub, Nat.reduceLT, Nat.reduceLeDiff, Int.reduceToNat, reduceIte, reduceCtorEq, Int.reduceLT, Int.reduceLE, Nat.reduceEqDiff, Int.reduceEq, Int.reduceNeg, Int.reduceMul, Int.reduceAdd, Int.reduceSub, Int.reduceBNe, Int.reduceBEq, apart, bnd, cx_free, Int.natCast_zero]
    simp [cxRows]
  · have hdm := Nat.div_add_mod i (4 * H)
    have hmod := Nat.mod_lt i (show 0 < 4 * H by omega)
    have hgu : 4 * H * (i / (4 * H)) + 4 * H ≤ xs.length := by
      have h1 : i / (4 * H) < u := Nat.div_lt_of_lt_mul (by omega)
      have h2 : 4 * H * (i / (4 * H) + 1) ≤ 4 * H * u := Nat.mul_le_mul_left _ h1
      rw [Nat.mul_add, Nat.mul_one] at h2
      omega
    have hj := Nat.mod_lt (i - 4 * H * (i / (4 * H))) hH
    have hjm : i % H = (i - 4 * H * (i / (4 * H))) % H := by
      conv => lhs; rw [show i = H * (4 * (i / (4 * H))) + (i - 4 * H * (i / (4 * H))) by rw [show H * (4 * (i / (4 * H))) = 4 * H * (i / (4 * H)) by rw [← Nat.mul_assoc, Nat.mul_comm H 4]]; omega]
      rw [Nat.mul_add_mod]
    have hq : (i - 4 * H * (i / (4 * H))) / H < 4 := Nat.div_lt_of_lt_mul (by omega)
    have hpT : pT inv bits s mode xs ws H u i = bq inv bits s mode xs ws (4 * H * (i / (4 * H))) H u ((i - 4 * H * (i / (4 * H))) % H) (((i - 4 * H * (i / (4 * H))) / H : Nat) : Int) := rfl
    have hpush := take_push (xs := pV inv bits s mode xs ws H u) (i := i) (by rw [pV_len]; exact hi)
    rw [pV_at inv bits s mode xs ws H u hi, hpT] at hpush
    have c1 : (i : Int).tmod ((4 * H : Nat) : Int) = ((i % (4 * H) : Nat) : Int) := tmod_nat i (4 * H)
    have c2 : (i : Int).tmod (H : Int) = (((i - 4 * H * (i / (4 * H))) % H : Nat) : Int) := by rw [tmod_nat, hjm]
    have c4 : IntKind.i64.wrap ((i : Int) - ((i % (4 * H) : Nat) : Int)) = ((4 * H * (i / (4 * H)) : Nat) : Int) := by rw [wr (by omega)]; omega
    generalize hg : 4 * H * (i / (4 * H)) = g at *
    have c3 : IntKind.i64.wrap (((i - g : Nat) : Int).tdiv (H : Int)) = (((i - g) / H : Nat) : Int) := by
      rw [tdiv_nat]
      have := Nat.div_le_self (i - g) H
      generalize (i - g) / H = Q at *
      exact wr (by omega)
    have c5 : IntKind.i64.wrap ((i : Int) - (g : Int)) = ((i - g : Nat) : Int) := by rw [wr (by omega)]; omega
    generalize (i - g) % H = j at *
    generalize (i - g) / H = q at *
    have hju : ∀ a, a < 4 → a * j * u < ws.length := fun a ha => by
      have : a * j * u ≤ 3 * (H - 1) * u := Nat.mul_le_mul_right _ (Nat.mul_le_mul (by omega) (by omega))
      have h3 : 3 * (H - 1) * u < 4 * H * u := Nat.mul_lt_mul_of_pos_right (by omega) hu0
      omega
    have u1 : j * u < ws.length := by have := hju 1 (by decide); rwa [Nat.one_mul] at this
    have u2 := hju 2 (by decide)
    have u3 := hju 3 (by decide)
    have d1 : IntKind.i64.wrap ((g : Int) + (j : Int)) = ((g + j : Nat) : Int) := by rw [wr (by omega)]; omega
    have d2 : IntKind.i64.wrap ((g : Int) + ((3 * H : Nat) : Int)) = ((g + 3 * H : Nat) : Int) := by rw [wr (by omega)]; omega
    have d3 : IntKind.i64.wrap (((g + 3 * H : Nat) : Int) + (j : Int)) = ((g + 3 * H + j : Nat) : Int) := by rw [wr (by omega)]; omega
    have d4 : IntKind.i64.wrap (((g + 3 * H + j : Nat) : Int) + 1) = ((g + 3 * H + j + 1 : Nat) : Int) := by rw [wr (by omega)]; omega
    have d5 : IntKind.i64.wrap ((j : Int) * (u : Int)) = ((j * u : Nat) : Int) := by rw [← Int.natCast_mul, wr (by omega)]
    have d6 : IntKind.i64.wrap (2 * (j : Int)) = ((2 * j : Nat) : Int) := by rw [wr (by omega)]; omega
    have d7 : IntKind.i64.wrap (3 * (j : Int)) = ((3 * j : Nat) : Int) := by rw [wr (by omega)]; omega
    have d8 : IntKind.i64.wrap (((2 * j : Nat) : Int) * (u : Int)) = ((2 * j * u : Nat) : Int) := by rw [← Int.natCast_mul, wr (by omega)]
    have d9 : IntKind.i64.wrap (((3 * j : Nat) : Int) * (u : Int)) = ((3 * j * u : Nat) : Int) := by rw [← Int.natCast_mul, wr (by omega)]
    have s1 : (0 : Int) ≤ ((g + j : Nat) : Int) := by omega
    have s2 : ((g + j : Nat) : Int) ≤ ((g + 3 * H + j + 1 : Nat) : Int) := by omega
    have s3 : ((g + 3 * H + j + 1 : Nat) : Int) ≤ xs.length := by omega
    have hyl : ((((xs.take (g + 3 * H + j + 1)).drop (g + j)).length : Nat) : Int) = ((3 * H + 1 : Nat) : Int) := by
      rw [List.length_drop, List.length_take]
      omega
    have t0 := cut_at (xs := xs) (a := g + j) (b := g + 3 * H + j + 1) (i := 0) (by omega) (by omega)
    have t1 := cut_at (xs := xs) (a := g + j) (b := g + 3 * H + j + 1) (i := H) (by omega) (by omega)
    have t2 := cut_at (xs := xs) (a := g + j) (b := g + 3 * H + j + 1) (i := 2 * H) (by omega) (by omega)
    have t3 := cut_at (xs := xs) (a := g + j) (b := g + 3 * H + j + 1) (i := 3 * H) (by omega) (by omega)
    have y0 : (0 : Int) < ((3 * H + 1 : Nat) : Int) := by omega
    have y1 : (H : Int) < ((3 * H + 1 : Nat) : Int) := by omega
    have y2 : ((2 * H : Nat) : Int) < ((3 * H + 1 : Nat) : Int) := by omega
    have y3 : ((3 * H : Nat) : Int) < ((3 * H + 1 : Nat) : Int) := by omega
    have z1 : (0 : Int) ≤ (H : Int) := by omega
    have z2 : (0 : Int) ≤ ((2 * H : Nat) : Int) := by omega
    have z3 : (0 : Int) ≤ ((3 * H : Nat) : Int) := by omega
    have q0 : (i : Int) < xs.length := by omega
    have q1 : IntKind.i64.wrap ((i : Int) + 1) = ((i + 1 : Nat) : Int) := by rw [wr (by omega)]; omega
    rw [show g + j + 0 = g + j from rfl] at t0
    rw [show g + j + H = g + (H + j) by omega] at t1
    rw [show g + j + 2 * H = g + (2 * H + j) by omega] at t2
    rw [show g + j + 3 * H = g + (3 * H + j) by omega] at t3
    have n0 := near_get hx (i := g + j) (by omega)
    have n1 := near_get hx (i := g + (H + j)) (by omega)
    have n2 := near_get hx (i := g + (2 * H + j)) (by omega)
    have n3 := near_get hx (i := g + (3 * H + j)) (by omega)
    simp only [evA, evT, Go.undef, aload, astore, afieldAddr, afield, aindex, aindexAddr, abuild, abuildSlice, amakeSlice, aslice, aext, alen, aminmax, minmaxGo, aappend, newsOf, buildCells, cutRows, reps, setCells, AV.cells, allOne, AV.one, Value.oneCell', AV.pure, allPure, AV.free, allFree, rowsFree, Nat.reduceBEq, Nat.reduceAdd, Nat.reduceMul, Nat.reduceSub, Nat.reduceLT, Nat.reduceLeDiff, Int.reduceToNat, reduceIte, reduceCtorEq, Int.reduceLT, Int.reduceLE, Nat.reduceEqDiff, Int.reduceEq, Int.reduceNeg, Int.reduceMul, Int.reduceAdd, Int.reduceSub, Int.reduceBNe, Int.reduceBEq, apart, bnd, q0, m2, m3, m4, hnz, hnz1, c1, c2, c3, c4, c5, d1, d2, d3, d4, s1, s2, s3, cx_len, Int.toNat_natCast, cx_cut, hyl, y0, y1, y2, y3, z1, z2, z3, t0, t1, t2, t3, d5, d6, d7, d8, d9, cx_free]
    refine call_ok (RRoot.ok ws inv (j * u) u1 (hbig _ u1)) rfl ?_
    simp only [evA, evT, Go.undef, aload, astore, afieldAddr, afield, aindex, aindexAddr, abuild, abuildSlice, amakeSlice, aslice, aext, alen, aminmax, minmaxGo, aappend, newsOf, buildCells, cutRows, reps, setCells, AV.cells, allOne, AV.one, Value.oneCell', AV.pure, allPure, AV.free, allFree, rowsFree, Nat.reduceBEq, Nat.reduceAdd, Nat.reduceMul, Nat.reduceSub, Nat.reduceLT, Nat.reduceLeDiff, Int.reduceToNat, reduceIte, reduceCtorEq, Int.reduceLT, Int.reduceLE, Nat.reduceEqDiff, Int.reduceEq, Int.reduceNeg, Int.reduceMul, Int.reduceAdd, Int.reduceSub, Int.reduceBNe, Int.reduceBEq, apart, bnd, d6, d8, cx_free]
    refine call_ok (RRoot.ok ws inv (2 * j * u) u2 (hbig _ u2)) rfl ?_
    simp only [evA, evT, Go.undef, aload, astore, afieldAddr, afield, aindex, aindexAddr, abuild, abuildSlice, amakeSlice, aslice, aext, alen, aminmax, minmaxGo, aappend, newsOf, buildCells, cutRows, reps, setCells, AV.cells, allOne, AV.one, Value.oneCell', AV.pure, allPure, AV.free, allFree, rowsFree, Nat.reduceBEq, Nat.reduceAdd, Nat.reduceMul, Nat.reduceSub, Nat.reduceLT, Nat.reduceLeDiff, Int.reduceToNat, reduceIte, reduceCtorEq, Int.reduceLT, Int.reduceLE, Nat.reduceEqDiff, Int.reduceEq, Int.reduceNeg, Int.reduceMul, Int.reduceAdd, Int.reduceSub, Int.reduceBNe, Int.reduceBEq, apart, bnd, d7, d9, cx_free]
    refine call_ok (RRoot.ok ws inv (3 * j * u) u3 (hbig _ u3)) rfl ?_
    simp only [evA, evT, Go.undef, aload, astore, afieldAddr, afield, aindex, aindexAddr, abuild, abuildSlice, amakeSlice, aslice, aext, alen, aminmax, minmaxGo, aappend, newsOf, buildCells, cutRows, reps, setCells, AV.cells, allOne, AV.one, Value.oneCell', AV.pure, allPure, AV.free, allFree, rowsFree, Nat.reduceBEq, Nat.reduceAdd, Nat.reduceMul, Nat.reduceSub, Nat.reduceLT, Nat.reduceLeDiff, Int.reduceToNat, reduceIte, reduceCtorEq, Int.reduceLT, Int.reduceLE, Nat.reduceEqDiff, Int.reduceEq, Int.reduceNeg, Int.reduceMul, Int.reduceAdd, Int.reduceSub, Int.reduceBNe, Int.reduceBEq, apart, bnd]
    refine call_ok (Products.ok bits _ _ _ _ _ _ _ _ _ _ _ _ _ _ hset.1 n0 n2 n1 n3 (hroot _ u1) (hroot _ u2) (hroot _ u3)) rfl ?_
    simp only [evA, evT, Go.undef, aload, astore, afieldAddr, afield, aindex, aindexAddr, abuild, abuildSlice, amakeSlice, aslice, aext, alen, aminmax, minmaxGo, aappend, newsOf, buildCells, cutRows, reps, setCells, AV.cells, allOne, AV.one, Value.oneCell', AV.pure, allPure, AV.free, allFree, rowsFree, Nat.reduceBEq, Nat.reduceAdd, Nat.reduceMul, Nat.reduceSub, Nat.reduceLT, Nat.reduceLeDiff, Int.reduceToNat, reduceIte, reduceCtorEq, Int.reduceLT, Int.reduceLE, Nat.reduceEqDiff, Int.reduceEq, Int.reduceNeg, Int.reduceMul, Int.reduceAdd, Int.reduceSub, Int.reduceBNe, Int.reduceBEq, apart, bnd]
    have w0 : win 1152921504606846976 ((xs.getD (g + j) (0, 0)).1 * 2 ^ bits.toNat) ((xs.getD (g + j) (0, 0)).2 * 2 ^ bits.toNat) := by
      have a1 := (shl29 (a := (xs.getD (g + j) (0, 0)).1) hset.1 (by unfold win at n0; omega)).2
      have a2 := (shl29 (a := (xs.getD (g + j) (0, 0)).2) hset.1 (by unfold win at n0; omega)).2
      unfold win
      omega
    have hO : Ok Try.prog 42 _ (cxA (bq inv bits s mode xs ws g H u j q).1 (bq inv bits s mode xs ws g H u j q).2) := Out.ok inv q bits s mode _ _ _ _ _ _ _ _ (by omega) hset.1 hset.2.1 hset.2.2 w0 (times_win n2 (hroot _ u1) hp) (times_win n1 (hroot _ u2) hp) (times_win n3 (hroot _ u3) hp)
    have hti : ((pV inv bits s mode xs ws H u).take i).length = i := by rw [List.length_take, pV_len]; omega
    have hi1 : (i + 1) * 16 ≤ 140737488355328 := by omega
    have hi2 : i + 1 ≤ 9223372036854775807 := by omega
    refine call_ok hO rfl ?_
    simp only [evA, evB, evT, Go.undef, aload, astore, afieldAddr, afield, aindex, aindexAddr, abuild, abuildSlice, amakeSlice, aslice, aext, alen, aminmax, minmaxGo, aappend, newsOf, buildCells, cutRows, reps, setCells, AV.cells, allOne, AV.one, Value.oneCell', AV.pure, allPure, AV.free, allFree, rowsFree, Nat.reduceBEq, Nat.reduceAdd, Nat.reduceMul, Nat.reduceSub, Nat.reduceLT, Nat.reduceLeDiff, Int.reduceToNat, reduceIte, reduceCtorEq, Int.reduceLT, Int.reduceLE, Nat.reduceEqDiff, Int.reduceEq, Int.reduceNeg, Int.reduceMul, Int.reduceAdd, Int.reduceSub, Int.reduceBNe, Int.reduceBEq, apart, bnd, cx_len, hti, hi1, hi2, cx_push, hpush, q1]
    refine hK _ (weak_of (fun l => l + 3) rfl ?_ ?_)
    all_goals simp only [evA, evB, evT, Go.undef, aload, astore, afieldAddr, afield, aindex, aindexAddr, abuild, abuildSlice, amakeSlice, aslice, aext, alen, aminmax, minmaxGo, aappend, newsOf, buildCells, cutRows, reps, setCells, AV.cells, allOne, AV.one, Value.oneCell', AV.pure, allPure, AV.free, allFree, rowsFree, Nat.reduceBEq, Nat.reduceAdd, Nat.reduceMul, Nat.reduceSub, Nat.reduceLT, Nat.reduceLeDiff, Int.reduceToNat, reduceIte, reduceCtorEq, Int.reduceLT, Int.reduceLE, Nat.reduceEqDiff, Int.reduceEq, Int.reduceNeg, Int.reduceMul, Int.reduceAdd, Int.reduceSub, Int.reduceBNe, Int.reduceBEq, apart, bnd, cx_free]
  · have : (pV inv bits s mode xs ws H u).take xs.length = pV inv bits s mode xs ws H u := List.take_of_length_le (by rw [pV_len]; exact Nat.le_refl _)
    simp only [evA, evT, Go.undef, aload, astore, afieldAddr, afield, aindex, aindexAddr, abuild, abuildSlice, amakeSlice, aslice, aext, alen, aminmax, minmaxGo, aappend, newsOf, buildCells, cutRows, reps, setCells, AV.cells, allOne, AV.one, Value.oneCell', AV.pure, allPure, AV.free, allFree, rowsFree, Nat.reduceBEq, Nat.reduceAdd, Nat.reduceMul, Nat.reduceSub, Nat.reduceLT, Nat.reduceLeDiff, Int.reduceToNat, reduceIte, reduceCtorEq, Int.reduceLT, Int.reduceLE, Nat.reduceEqDiff, Int.reduceEq, Int.reduceNeg, Int.reduceMul, Int.reduceAdd, Int.reduceSub, Int.reduceBNe, Int.reduceBEq, apart, bnd, cx_free, this]
end
end Go.Proofs.YtfemklaeonkidaaV

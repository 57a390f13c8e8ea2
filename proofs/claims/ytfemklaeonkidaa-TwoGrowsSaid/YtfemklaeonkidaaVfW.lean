import Derived.Test.YtfemklaeonkidaaVfV
import Derived.Test.YtfemklaeonkidaaVfQ
/- The laws TwoPasses and TwoGrows answer true. -/
namespace Go.Proofs.YtfemklaeonkidaaV
open Go Go.RowKit
set_option linter.unusedVariables false
set_option linter.unusedSimpArgs false
set_option maxRecDepth 100000
set_option maxHeartbeats 40000000
theorem fine11 : Fine Try.prog 11 := fun _ _ => by kernel_rfl
theorem fine12 : Fine Try.prog 12 := fun _ _ => by kernel_rfl
theorem TwoPasses.true (inv : Bool) (h bits s mode : Int) (xs ws : List (Int × Int)) :
    Ok Try.prog 11 [.sl 2 (cxRows xs), .sl 2 (cxRows ws), .int h, .int bits, .int s, .int mode, .bool inv] (.bool true) := by
  refine ok_of (X := fun _ => []) (Z := fun _ => false) (res := [ResultVar.tmp 14]) tok follows Try.func11 rfl rfl fine11 (by kernel_rfl) (by kernel_rfl) ?_
  simp only [evA, evT, Go.undef, aload, astore, afieldAddr, afield, aindex, aindexAddr, abuild, abuildSlice, amakeSlice, aslice, aext, alen, aminmax, minmaxGo, aappend, newsOf, buildCells, cutRows, reps, setCells, AV.cells, allOne, AV.one, Value.oneCell', AV.pure, allPure, AV.free, allFree, rowsFree, Nat.reduceBEq, Nat.reduceAdd, Nat.reduceMul, Nat.reduceSub, Nat.reduceLT, Nat.reduceLeDiff, Int.reduceToNat, reduceIte, reduceCtorEq, Int.reduceLT, Int.reduceLE, Nat.reduceEqDiff, Int.reduceEq, Int.reduceNeg, Int.reduceMul, Int.reduceAdd, Int.reduceSub, Int.reduceBNe, Int.reduceBEq, apart, bnd, cx_len, min70, min70_le, min70_0, Int.toNat_natCast, cx_take, cx_free]
  have hX := take_len (xs := xs)
  have hW := take_len (xs := ws)
  generalize xs.take (min xs.length 70) = X at *
  generalize ws.take (min ws.length 70) = W at *
  rcases why_or (half h X.length) X W bits s mode with hG | ⟨e, hE, he⟩
  · have hG' := hG
    obtain ⟨h1, h2, ⟨h3, hset⟩, hx, hr⟩ := hG'
    have hQ := Half.ok h X.length (by omega)
    have hM := May.ok _ X W bits s mode (by omega) (by omega) hG
    obtain ⟨H, u, rfl, g1, g2, g3, g4, g5, g6, g7⟩ := half_nat h1 h3
    refine call_ok (twoPass.ok inv bits s mode X W H u (by omega) (by omega) g1 g2 g5 g4 (by omega) g6 h1 g7 h2 hset hx hr) (by simp only [evA, evT, Go.undef, aload, astore, afieldAddr, afield, aindex, aindexAddr, abuild, abuildSlice, amakeSlice, aslice, aext, alen, aminmax, minmaxGo, aappend, newsOf, buildCells, cutRows, reps, setCells, AV.cells, allOne, AV.one, Value.oneCell', AV.pure, allPure, AV.free, allFree, rowsFree, Nat.reduceBEq, Nat.reduceAdd, Nat.reduceMul, Nat.reduceSub, Nat.reduceLT, Nat.reduceLeDiff, Int.reduceToNat, reduceIte, reduceCtorEq, Int.reduceLT, Int.reduceLE, Nat.reduceEqDiff, Int.reduceEq, Int.reduceNeg, Int.reduceMul, Int.reduceAdd, Int.reduceSub, Int.reduceBNe, Int.reduceBEq, apart, bnd, cx_free]) ?_
    simp only [evA, evT, Go.undef, aload, astore, afieldAddr, afield, aindex, aindexAddr, abuild, abuildSlice, amakeSlice, aslice, aext, alen, aminmax, minmaxGo, aappend, newsOf, buildCells, cutRows, reps, setCells, AV.cells, allOne, AV.one, Value.oneCell', AV.pure, allPure, AV.free, allFree, rowsFree, Nat.reduceBEq, Nat.reduceAdd, Nat.reduceMul, Nat.reduceSub, Nat.reduceLT, Nat.reduceLeDiff, Int.reduceToNat, reduceIte, reduceCtorEq, Int.reduceLT, Int.reduceLE, Nat.reduceEqDiff, Int.reduceEq, Int.reduceNeg, Int.reduceMul, Int.reduceAdd, Int.reduceSub, Int.reduceBNe, Int.reduceBEq, apart, bnd, cx_len, cx_free]
    refine call_ok hQ rfl ?_
    simp only [evA, evT, Go.undef, aload, astore, afieldAddr, afield, aindex, aindexAddr, abuild, abuildSlice, amakeSlice, aslice, aext, alen, aminmax, minmaxGo, aappend, newsOf, buildCells, cutRows, reps, setCells, AV.cells, allOne, AV.one, Value.oneCell', AV.pure, allPure, AV.free, allFree, rowsFree, Nat.reduceBEq, Nat.reduceAdd, Nat.reduceMul, Nat.reduceSub, Nat.reduceLT, Nat.reduceLeDiff, Int.reduceToNat, reduceIte, reduceCtorEq, Int.reduceLT, Int.reduceLE, Nat.reduceEqDiff, Int.reduceEq, Int.reduceNeg, Int.reduceMul, Int.reduceAdd, Int.reduceSub, Int.reduceBNe, Int.reduceBEq, apart, bnd, cx_len, cx_free]
    refine call_ok hM rfl ?_
    simp only [evA, evT, Go.undef, aload, astore, afieldAddr, afield, aindex, aindexAddr, abuild, abuildSlice, amakeSlice, aslice, aext, alen, aminmax, minmaxGo, aappend, newsOf, buildCells, cutRows, reps, setCells, AV.cells, allOne, AV.one, Value.oneCell', AV.pure, allPure, AV.free, allFree, rowsFree, Nat.reduceBEq, Nat.reduceAdd, Nat.reduceMul, Nat.reduceSub, Nat.reduceLT, Nat.reduceLeDiff, Int.reduceToNat, reduceIte, reduceCtorEq, Int.reduceLT, Int.reduceLE, Nat.reduceEqDiff, Int.reduceEq, Int.reduceNeg, Int.reduceMul, Int.reduceAdd, Int.reduceSub, Int.reduceBNe, Int.reduceBEq, apart, bnd, cx_len, cx_free]
    refine call_ok alive2.ok rfl ?_
    simp only [evA, evT, Go.undef, aload, astore, afieldAddr, afield, aindex, aindexAddr, abuild, abuildSlice, amakeSlice, aslice, aext, alen, aminmax, minmaxGo, aappend, newsOf, buildCells, cutRows, reps, setCells, AV.cells, allOne, AV.one, Value.oneCell', AV.pure, allPure, AV.free, allFree, rowsFree, Nat.reduceBEq, Nat.reduceAdd, Nat.reduceMul, Nat.reduceSub, Nat.reduceLT, Nat.reduceLeDiff, Int.reduceToNat, reduceIte, reduceCtorEq, Int.reduceLT, Int.reduceLE, Nat.reduceEqDiff, Int.reduceEq, Int.reduceNeg, Int.reduceMul, Int.reduceAdd, Int.reduceSub, Int.reduceBNe, Int.reduceBEq, apart, bnd, cx_len, cx_free]
    refine call_ok (RPass2.ok inv bits s mode X W H u (by omega) g1 g2 g5 g4 (by omega) h2 hset hx hr) (by simp only [evA, evT, Go.undef, aload, astore, afieldAddr, afield, aindex, aindexAddr, abuild, abuildSlice, amakeSlice, aslice, aext, alen, aminmax, minmaxGo, aappend, newsOf, buildCells, cutRows, reps, setCells, AV.cells, allOne, AV.one, Value.oneCell', AV.pure, allPure, AV.free, allFree, rowsFree, Nat.reduceBEq, Nat.reduceAdd, Nat.reduceMul, Nat.reduceSub, Nat.reduceLT, Nat.reduceLeDiff, Int.reduceToNat, reduceIte, reduceCtorEq, Int.reduceLT, Int.reduceLE, Nat.reduceEqDiff, Int.reduceEq, Int.reduceNeg, Int.reduceMul, Int.reduceAdd, Int.reduceSub, Int.reduceBNe, Int.reduceBEq, apart, bnd, cx_free]) ?_
    simp only [evA, evT, Go.undef, aload, astore, afieldAddr, afield, aindex, aindexAddr, abuild, abuildSlice, amakeSlice, aslice, aext, alen, aminmax, minmaxGo, aappend, newsOf, buildCells, cutRows, reps, setCells, AV.cells, allOne, AV.one, Value.oneCell', AV.pure, allPure, AV.free, allFree, rowsFree, Nat.reduceBEq, Nat.reduceAdd, Nat.reduceMul, Nat.reduceSub, Nat.reduceLT, Nat.reduceLeDiff, Int.reduceToNat, reduceIte, reduceCtorEq, Int.reduceLT, Int.reduceLE, Nat.reduceEqDiff, Int.reduceEq, Int.reduceNeg, Int.reduceMul, Int.reduceAdd, Int.reduceSub, Int.reduceBNe, Int.reduceBEq, apart, bnd, cx_len, cx_free]
    refine call_ok (Same.ok _ (by rw [t2V_len]; omega)) rfl ?_
    simp only [evA, evT, Go.undef, aload, astore, afieldAddr, afield, aindex, aindexAddr, abuild, abuildSlice, amakeSlice, aslice, aext, alen, aminmax, minmaxGo, aappend, newsOf, buildCells, cutRows, reps, setCells, AV.cells, allOne, AV.one, Value.oneCell', AV.pure, allPure, AV.free, allFree, rowsFree, Nat.reduceBEq, Nat.reduceAdd, Nat.reduceMul, Nat.reduceSub, Nat.reduceLT, Nat.reduceLeDiff, Int.reduceToNat, reduceIte, reduceCtorEq, Int.reduceLT, Int.reduceLE, Nat.reduceEqDiff, Int.reduceEq, Int.reduceNeg, Int.reduceMul, Int.reduceAdd, Int.reduceSub, Int.reduceBNe, Int.reduceBEq, apart, bnd]
  · have hQ := Half.ok h X.length (by omega)
    have hM := May.no _ X W bits s mode (by omega) (by omega) e hE
    refine call_ok (twoPass.no inv h bits s mode X W (by omega) e hE) rfl ?_
    simp only [evA, evT, Go.undef, aload, astore, afieldAddr, afield, aindex, aindexAddr, abuild, abuildSlice, amakeSlice, aslice, aext, alen, aminmax, minmaxGo, aappend, newsOf, buildCells, cutRows, reps, setCells, AV.cells, allOne, AV.one, Value.oneCell', AV.pure, allPure, AV.free, allFree, rowsFree, Nat.reduceBEq, Nat.reduceAdd, Nat.reduceMul, Nat.reduceSub, Nat.reduceLT, Nat.reduceLeDiff, Int.reduceToNat, reduceIte, reduceCtorEq, Int.reduceLT, Int.reduceLE, Nat.reduceEqDiff, Int.reduceEq, Int.reduceNeg, Int.reduceMul, Int.reduceAdd, Int.reduceSub, Int.reduceBNe, Int.reduceBEq, apart, bnd, cx_len, cx_free]
    refine call_ok hQ rfl ?_
    simp only [evA, evT, Go.undef, aload, astore, afieldAddr, afield, aindex, aindexAddr, abuild, abuildSlice, amakeSlice, aslice, aext, alen, aminmax, minmaxGo, aappend, newsOf, buildCells, cutRows, reps, setCells, AV.cells, allOne, AV.one, Value.oneCell', AV.pure, allPure, AV.free, allFree, rowsFree, Nat.reduceBEq, Nat.reduceAdd, Nat.reduceMul, Nat.reduceSub, Nat.reduceLT, Nat.reduceLeDiff, Int.reduceToNat, reduceIte, reduceCtorEq, Int.reduceLT, Int.reduceLE, Nat.reduceEqDiff, Int.reduceEq, Int.reduceNeg, Int.reduceMul, Int.reduceAdd, Int.reduceSub, Int.reduceBNe, Int.reduceBEq, apart, bnd, cx_len, cx_free]
    refine call_ok hM rfl ?_
    simp only [evA, evT, Go.undef, aload, astore, afieldAddr, afield, aindex, aindexAddr, abuild, abuildSlice, amakeSlice, aslice, aext, alen, aminmax, minmaxGo, aappend, newsOf, buildCells, cutRows, reps, setCells, AV.cells, allOne, AV.one, Value.oneCell', AV.pure, allPure, AV.free, allFree, rowsFree, Nat.reduceBEq, Nat.reduceAdd, Nat.reduceMul, Nat.reduceSub, Nat.reduceLT, Nat.reduceLeDiff, Int.reduceToNat, reduceIte, reduceCtorEq, Int.reduceLT, Int.reduceLE, Nat.reduceEqDiff, Int.reduceEq, Int.reduceNeg, Int.reduceMul, Int.reduceAdd, Int.reduceSub, Int.reduceBNe, Int.reduceBEq, apart, bnd, cx_len, cx_free, he]
    refine call_ok alive2.ok rfl ?_
    simp only [evA, evT, Go.undef, aload, astore, afieldAddr, afield, aindex, aindexAddr, abuild, abuildSlice, amakeSlice, aslice, aext, alen, aminmax, minmaxGo, aappend, newsOf, buildCells, cutRows, reps, setCells, AV.cells, allOne, AV.one, Value.oneCell', AV.pure, allPure, AV.free, allFree, rowsFree, Nat.reduceBEq, Nat.reduceAdd, Nat.reduceMul, Nat.reduceSub, Nat.reduceLT, Nat.reduceLeDiff, Int.reduceToNat, reduceIte, reduceCtorEq, Int.reduceLT, Int.reduceLE, Nat.reduceEqDiff, Int.reduceEq, Int.reduceNeg, Int.reduceMul, Int.reduceAdd, Int.reduceSub, Int.reduceBNe, Int.reduceBEq, apart, bnd, cx_len, cx_free]
/-- What is rounded, of a sum of not more than 3 parts. -/
theorem rsh_grow3 {S m bits s mode : Int} (hb : 0 ≤ bits) (hs : 0 ≤ s) (h : -(3 * (m * 2 ^ bits.toNat)) ≤ S ∧ S ≤ 3 * (m * 2 ^ bits.toNat)) : rsh S (bits + s) mode * 2 ^ s.toNat < 3 * m + 2 ^ s.toNat ∧ -(rsh S (bits + s) mode * 2 ^ s.toNat) < 3 * m + 2 ^ s.toNat := by
  by_cases h0 : bits + s = 0
  · have e1 : bits = 0 := by omega
    have e2 : s = 0 := by omega
    subst e1 e2
    simp only [Int.add_zero, rsh_z, Int.toNat_zero, Int.pow_zero, Int.mul_one] at *
    omega
  · have g := (rsh_near S (bits + s) mode).resolve_right h0
    generalize rsh S (bits + s) mode = Y at *
    have e : (bits + s).toNat = bits.toNat + s.toNat := by omega
    rw [e, Int.pow_add] at g
    have hp := pow_pos bits.toNat
    have e1 : Y * (2 ^ bits.toNat * 2 ^ s.toNat) = (Y * 2 ^ s.toNat) * 2 ^ bits.toNat := by rw [Int.mul_assoc, Int.mul_comm (2 ^ s.toNat)]
    have e2 : (2 : Int) ^ bits.toNat * 2 ^ s.toNat = 2 ^ s.toNat * 2 ^ bits.toNat := Int.mul_comm _ _
    have e3 : 3 * (m * 2 ^ bits.toNat) = (3 * m) * 2 ^ bits.toNat := by rw [Int.mul_assoc]
    rw [e1, e2] at g
    rw [e3] at h
    have k1 : (Y * 2 ^ s.toNat) * 2 ^ bits.toNat < (3 * m + 2 ^ s.toNat) * 2 ^ bits.toNat := by
      rw [Int.add_mul]
      omega
    have k2 : -(Y * 2 ^ s.toNat) * 2 ^ bits.toNat < (3 * m + 2 ^ s.toNat) * 2 ^ bits.toNat := by
      rw [Int.add_mul, Int.neg_mul]
      omega
    exact ⟨Int.lt_of_mul_lt_mul_right k1 (Int.le_of_lt hp), Int.lt_of_mul_lt_mul_right k2 (Int.le_of_lt hp)⟩
/-- A part, grown. -/
def grown3 (m s y : Int) : Prop := y * 2 ^ s.toNat < 3 * m + 2 ^ s.toNat ∧ -(y * 2 ^ s.toNat) < 3 * m + 2 ^ s.toNat
theorem tUD_grow {m bits s mode : Int} {a b w : Int × Int} (hm : 0 ≤ m) (hb : 0 ≤ bits) (hs : 0 ≤ s) (h0 : win m a.1 a.2) (h1 : win m b.1 b.2) (g : win (2 ^ bits.toNat) w.1 w.2) :
    (grown3 m s (tU bits s mode a b w).1 ∧ grown3 m s (tU bits s mode a b w).2) ∧ grown3 m s (tD bits s mode a b w).1 ∧ grown3 m s (tD bits s mode a b w).2 := by
  have hp := pow_pos bits.toNat
  have w1 := times_bd hm h1 g
  have w0 : win (m * 2 ^ bits.toNat) (a.1 * 2 ^ bits.toNat) (a.2 * 2 ^ bits.toNat) := by
    unfold win at *
    have k1 := mul_near (p := m) (q := 2 ^ bits.toNat) (a := a.1) (b := 2 ^ bits.toNat) hm (by omega) (by omega)
    have k2 := mul_near (p := m) (q := 2 ^ bits.toNat) (a := a.2) (b := 2 ^ bits.toNat) hm (by omega) (by omega)
    omega
  unfold win at w0 w1
  generalize hM : m * 2 ^ bits.toNat = M at *
  unfold tU tD grown3
  refine ⟨⟨rsh_grow3 hb hs ?_, rsh_grow3 hb hs ?_⟩, rsh_grow3 hb hs ?_, rsh_grow3 hb hs ?_⟩
  all_goals rw [hM]; omega
theorem tV_grow (inv : Bool) (bits s mode : Int) (xs ws : List (Int × Int)) (H u : Nat) (hH : 0 < H) (hu0 : 0 < u) (hn : xs.length = 2 * H * u) (h2 : (ws.length : Int) = xs.length) (hset : setP bits s mode) (hx : nears 2147483648 xs) (hr : nears (2 ^ bits.toNat) ws) {i : Nat} (hi : i < xs.length) :
    grown3 (gm xs xs.length) s (tV inv bits s mode xs ws H u i).1 ∧ grown3 (gm xs xs.length) s (tV inv bits s mode xs ws H u i).2 := by
  have hj := Nat.mod_lt i hH
  have u1 : i % H * u < ws.length := by
    have h3 : i % H * u ≤ (H - 1) * u := Nat.mul_le_mul_right _ (by omega)
    have h4 : (H - 1) * u < 2 * H * u := Nat.mul_lt_mul_of_pos_right (by omega) hu0
    omega
  unfold tV
  rcases pair_in hH hn hi with ⟨hc, hin, _⟩ | ⟨hc, hin, _⟩
  · rw [if_pos hc]
    exact (tUD_grow (gm_bd hx _ (Nat.le_refl _)).1 hset.1.1 hset.2.1.1 (gm_le _ _ hi) (gm_le _ _ hin) (root_win' inv hr u1)).1
  · rw [if_neg (by omega)]
    exact (tUD_grow (gm_bd hx _ (Nat.le_refl _)).1 hset.1.1 hset.2.1.1 (gm_le _ _ (by omega)) (gm_le _ _ hi) (root_win' inv hr u1)).2
theorem TwoGrows.true (inv : Bool) (h bits s mode : Int) (xs ws : List (Int × Int)) :
    Ok Try.prog 12 [.sl 2 (cxRows xs), .sl 2 (cxRows ws), .int h, .int bits, .int s, .int mode, .bool inv] (.bool true) := by
  refine ok_of (X := fun _ => []) (Z := fun _ => false) (res := [ResultVar.tmp 14]) tok follows Try.func12 rfl rfl fine12 (by kernel_rfl) (by kernel_rfl) ?_
  simp only [evA, evT, Go.undef, aload, astore, afieldAddr, afield, aindex, aindexAddr, abuild, abuildSlice, amakeSlice, aslice, aext, alen, aminmax, minmaxGo, aappend, newsOf, buildCells, cutRows, reps, setCells, AV.cells, allOne, AV.one, Value.oneCell', AV.pure, allPure, AV.free, allFree, rowsFree, Nat.reduceBEq, Nat.reduceAdd, Nat.reduceMul, Nat.reduceSub, Nat.reduceLT, Nat.reduceLeDiff, Int.reduceToNat, reduceIte, reduceCtorEq, Int.reduceLT, Int.reduceLE, Nat.reduceEqDiff, Int.reduceEq, Int.reduceNeg, Int.reduceMul, Int.reduceAdd, Int.reduceSub, Int.reduceBNe, Int.reduceBEq, apart, bnd, cx_len, min70, min70_le, min70_0, Int.toNat_natCast, cx_take, cx_free]
  have hX := take_len (xs := xs)
  have hW := take_len (xs := ws)
  generalize xs.take (min xs.length 70) = X at *
  generalize ws.take (min ws.length 70) = W at *
  rcases why_or (half h X.length) X W bits s mode with hG | ⟨e, hE, he⟩
  · obtain ⟨h1, h2, ⟨h3, hset⟩, hx, hr⟩ := hG
    obtain ⟨H, u, rfl, g1, g2, g3, g4, g5, g6, g7⟩ := half_nat h1 h3
    have hn : X.length = 2 * H * u := by omega
    refine call_ok (twoPass.ok inv bits s mode X W H u (by omega) (by omega) g1 g2 g5 g4 hn g6 h1 g7 h2 hset hx hr) (by simp only [evA, evT, Go.undef, aload, astore, afieldAddr, afield, aindex, aindexAddr, abuild, abuildSlice, amakeSlice, aslice, aext, alen, aminmax, minmaxGo, aappend, newsOf, buildCells, cutRows, reps, setCells, AV.cells, allOne, AV.one, Value.oneCell', AV.pure, allPure, AV.free, allFree, rowsFree, Nat.reduceBEq, Nat.reduceAdd, Nat.reduceMul, Nat.reduceSub, Nat.reduceLT, Nat.reduceLeDiff, Int.reduceToNat, reduceIte, reduceCtorEq, Int.reduceLT, Int.reduceLE, Nat.reduceEqDiff, Int.reduceEq, Int.reduceNeg, Int.reduceMul, Int.reduceAdd, Int.reduceSub, Int.reduceBNe, Int.reduceBEq, apart, bnd, cx_free]) ?_
    simp only [evA, evT, Go.undef, aload, astore, afieldAddr, afield, aindex, aindexAddr, abuild, abuildSlice, amakeSlice, aslice, aext, alen, aminmax, minmaxGo, aappend, newsOf, buildCells, cutRows, reps, setCells, AV.cells, allOne, AV.one, Value.oneCell', AV.pure, allPure, AV.free, allFree, rowsFree, Nat.reduceBEq, Nat.reduceAdd, Nat.reduceMul, Nat.reduceSub, Nat.reduceLT, Nat.reduceLeDiff, Int.reduceToNat, reduceIte, reduceCtorEq, Int.reduceLT, Int.reduceLE, Nat.reduceEqDiff, Int.reduceEq, Int.reduceNeg, Int.reduceMul, Int.reduceAdd, Int.reduceSub, Int.reduceBNe, Int.reduceBEq, apart, bnd, cx_len, cx_free]
    refine call_ok (Max.ok X (by omega) hx) rfl ?_
    simp only [evA, evT, Go.undef, aload, astore, afieldAddr, afield, aindex, aindexAddr, abuild, abuildSlice, amakeSlice, aslice, aext, alen, aminmax, minmaxGo, aappend, newsOf, buildCells, cutRows, reps, setCells, AV.cells, allOne, AV.one, Value.oneCell', AV.pure, allPure, AV.free, allFree, rowsFree, Nat.reduceBEq, Nat.reduceAdd, Nat.reduceMul, Nat.reduceSub, Nat.reduceLT, Nat.reduceLeDiff, Int.reduceToNat, reduceIte, reduceCtorEq, Int.reduceLT, Int.reduceLE, Nat.reduceEqDiff, Int.reduceEq, Int.reduceNeg, Int.reduceMul, Int.reduceAdd, Int.reduceSub, Int.reduceBNe, Int.reduceBEq, apart, bnd, cx_len, cx_free, t2V_len]
    refine call_ok alive2.ok rfl ?_
    simp only [evA, evT, Go.undef, aload, astore, afieldAddr, afield, aindex, aindexAddr, abuild, abuildSlice, amakeSlice, aslice, aext, alen, aminmax, minmaxGo, aappend, newsOf, buildCells, cutRows, reps, setCells, AV.cells, allOne, AV.one, Value.oneCell', AV.pure, allPure, AV.free, allFree, rowsFree, Nat.reduceBEq, Nat.reduceAdd, Nat.reduceMul, Nat.reduceSub, Nat.reduceLT, Nat.reduceLeDiff, Int.reduceToNat, reduceIte, reduceCtorEq, Int.reduceLT, Int.reduceLE, Nat.reduceEqDiff, Int.reduceEq, Int.reduceNeg, Int.reduceMul, Int.reduceAdd, Int.reduceSub, Int.reduceBNe, Int.reduceBEq, apart, bnd, cx_len, cx_free, t2V_len]
    have hgm := gm_bd hx X.length (Nat.le_refl _)
    have hgrow := fun i (hi : i < X.length) => tV_grow inv bits s mode X W H u g1 g4 hn h2 hset hx hr hi
    generalize gm X X.length = m at *
    have e7 : IntKind.i64.wrap (3 * m) = 3 * m := wr (by omega)
    have hs0 := hset.2.1.1
    have hmin : min s.toNat IntKind.i64.bits = s.toNat := sh_min (by omega)
    have hp : (2 : Int) ^ s.toNat = 1 ∨ (2 : Int) ^ s.toNat = 2 ∨ (2 : Int) ^ s.toNat = 4 ∨ (2 : Int) ^ s.toNat = 8 := by
      have : s = 0 ∨ s = 1 ∨ s = 2 ∨ s = 3 := by omega
      rcases this with rfl | rfl | rfl | rfl <;> decide
    refine l_inv (fun i => ⟨[(71, .int i), (70, .int X.length), (69, .sl 2 (cxRows (t2V inv bits s mode X W H u))), (17, .int m), (4, .int s)], [], 0⟩) X.length ?_ (fun i hi K hK => ?_) (fun K => ?_)
    · refine weak_of (fun l => l) rfl trivial ?_
      simp only [evA, evB, evT, Go.undef, aload, astore, afieldAddr, afield, aindex, aindexAddr, abuild, abuildSlice, amakeSlice, aslice, aext, alen, aminmax, minmaxGo, aappend, newsOf, buildCells, cutRows, reps, setCells, AV.cells, allOne, AV.one, Value.oneCell', AV.pure, allPure, AV.free, allFree, rowsFree, Nat.reduceBEq, Nat.reduceAdd, Nat.reduceMul, Nat.reduceSub, Nat.reduceLT, Nat.reduceLeDiff, Int.reduceToNat, reduceIte, reduceCtorEq, Int.reduceLT, Int.reduceLE, Nat.reduceEqDiff, Int.reduceEq, Int.reduceNeg, Int.reduceMul, Int.reduceAdd, Int.reduceSub, Int.reduceBNe, Int.reduceBEq, apart, bnd, cx_free, Int.natCast_zero]
    · have q1 : (i : Int) < X.length := by omega
      have q2 : (0 : Int) ≤ i := by omega
      have q3 : IntKind.i64.wrap ((i : Int) + 1) = ((i + 1 : Nat) : Int) := by rw [wr (by omega)]; omega
      have hip : i < (t2V inv bits s mode X W H u).length := by rw [t2V_len]; exact hi
      have hgi := hgrow i hi
      generalize hy : tV inv bits s mode X W H u i = y at *
      obtain ⟨N, hN⟩ : ∃ N, N = (if (if (if y.1 < 0 - y.1 then 0 - y.1 else y.1) < y.2 then y.2 else (if y.1 < 0 - y.1 then 0 - y.1 else y.1)) < 0 - y.2 then 0 - y.2 else (if (if y.1 < 0 - y.1 then 0 - y.1 else y.1) < y.2 then y.2 else (if y.1 < 0 - y.1 then 0 - y.1 else y.1))) := ⟨_, rfl⟩
      have key : (-17179869184 ≤ y.1 ∧ y.1 ≤ 17179869184) ∧ (-17179869184 ≤ y.2 ∧ y.2 ≤ 17179869184) ∧ (0 ≤ N ∧ N ≤ 17179869184) ∧ ¬ 3 * m < (N - 1) * 2 ^ s.toNat ∧ (m = 0 → ¬ 0 < N) := by
        unfold grown3 at hgi
        rcases hp with e | e | e | e
        all_goals
          rw [e] at hgi ⊢
          repeat' split at hN
          all_goals omega
      obtain ⟨y1, y2, y3, y4, y5⟩ := key
      have e1 : IntKind.i64.wrap (0 - y.1) = 0 - y.1 := wr (by omega)
      have e2 : IntKind.i64.wrap (0 - y.2) = 0 - y.2 := wr (by omega)
      have e3 : IntKind.i64.wrap (N - 1) = N - 1 := wr (by omega)
      have e4 : IntKind.i64.wrap ((N - 1) * 2 ^ s.toNat) = (N - 1) * 2 ^ s.toNat := wr (by rcases hp with e | e | e | e <;> rw [e] <;> omega)
      by_cases hm0 : m = 0
      · subst hm0
        have e5 := y5 rfl
        have e6 : ¬ 0 < (N - 1) * 2 ^ s.toNat := by rwa [Int.mul_zero] at y4
        simp only [evA, evT, Go.undef, aload, astore, afieldAddr, afield, aindex, aindexAddr, abuild, abuildSlice, amakeSlice, aslice, aext, alen, aminmax, minmaxGo, aappend, newsOf, buildCells, cutRows, reps, setCells, AV.cells, allOne, AV.one, Value.oneCell', AV.pure, allPure, AV.free, allFree, rowsFree, Nat.reduceBEq, Nat.reduceAdd, Nat.reduceMul, Nat.reduceSub, Nat.reduceLT, Nat.reduceLeDiff, Int.reduceToNat, reduceIte, reduceCtorEq, Int.reduceLT, Int.reduceLE, Nat.reduceEqDiff, Int.reduceEq, Int.reduceNeg, Int.reduceMul, Int.reduceAdd, Int.reduceSub, Int.reduceBNe, Int.reduceBEq, apart, bnd, q1, q2, q3, cx_len, t2V_len, Int.toNat_natCast, cx_getD hip, t2V_at (inv := inv) (bits := bits) (s := s) (mode := mode) (ws := W) (H := H) (u := u) hi, hy, e1, e2, hN.symm, e3, hmin, e4, w_0, hs0, e6, e5]
        refine hK _ (weak_of (fun l => l) rfl trivial ?_)
        simp only [evA, evB, evT, Go.undef, aload, astore, afieldAddr, afield, aindex, aindexAddr, abuild, abuildSlice, amakeSlice, aslice, aext, alen, aminmax, minmaxGo, aappend, newsOf, buildCells, cutRows, reps, setCells, AV.cells, allOne, AV.one, Value.oneCell', AV.pure, allPure, AV.free, allFree, rowsFree, Nat.reduceBEq, Nat.reduceAdd, Nat.reduceMul, Nat.reduceSub, Nat.reduceLT, Nat.reduceLeDiff, Int.reduceToNat, reduceIte, reduceCtorEq, Int.reduceLT, Int.reduceLE, Nat.reduceEqDiff, Int.reduceEq, Int.reduceNeg, Int.reduceMul, Int.reduceAdd, Int.reduceSub, Int.reduceBNe, Int.reduceBEq, apart, bnd, cx_free]
      · simp only [evA, evT, Go.undef, aload, astore, afieldAddr, afield, aindex, aindexAddr, abuild, abuildSlice, amakeSlice, aslice, aext, alen, aminmax, minmaxGo, aappend, newsOf, buildCells, cutRows, reps, setCells, AV.cells, allOne, AV.one, Value.oneCell', AV.pure, allPure, AV.free, allFree, rowsFree, Nat.reduceBEq, Nat.reduceAdd, Nat.reduceMul, Nat.reduceSub, Nat.reduceLT, Nat.reduceLeDiff, Int.reduceToNat, reduceIte, reduceCtorEq, Int.reduceLT, Int.reduceLE, Nat.reduceEqDiff, Int.reduceEq, Int.reduceNeg, Int.reduceMul, Int.reduceAdd, Int.reduceSub, Int.reduceBNe, Int.reduceBEq, apart, bnd, q1, q2, q3, cx_len, t2V_len, Int.toNat_natCast, cx_getD hip, t2V_at (inv := inv) (bits := bits) (s := s) (mode := mode) (ws := W) (H := H) (u := u) hi, hy, e1, e2, hN.symm, e3, hmin, e4, e7, hs0, y4, hm0]
        refine hK _ (weak_of (fun l => l) rfl trivial ?_)
        simp only [evA, evB, evT, Go.undef, aload, astore, afieldAddr, afield, aindex, aindexAddr, abuild, abuildSlice, amakeSlice, aslice, aext, alen, aminmax, minmaxGo, aappend, newsOf, buildCells, cutRows, reps, setCells, AV.cells, allOne, AV.one, Value.oneCell', AV.pure, allPure, AV.free, allFree, rowsFree, Nat.reduceBEq, Nat.reduceAdd, Nat.reduceMul, Nat.reduceSub, Nat.reduceLT, Nat.reduceLeDiff, Int.reduceToNat, reduceIte, reduceCtorEq, Int.reduceLT, Int.reduceLE, Nat.reduceEqDiff, Int.reduceEq, Int.reduceNeg, Int.reduceMul, Int.reduceAdd, Int.reduceSub, Int.reduceBNe, Int.reduceBEq, apart, bnd, cx_free]
    · simp only [evA, evT, Go.undef, aload, astore, afieldAddr, afield, aindex, aindexAddr, abuild, abuildSlice, amakeSlice, aslice, aext, alen, aminmax, minmaxGo, aappend, newsOf, buildCells, cutRows, reps, setCells, AV.cells, allOne, AV.one, Value.oneCell', AV.pure, allPure, AV.free, allFree, rowsFree, Nat.reduceBEq, Nat.reduceAdd, Nat.reduceMul, Nat.reduceSub, Nat.reduceLT, Nat.reduceLeDiff, Int.reduceToNat, reduceIte, reduceCtorEq, Int.reduceLT, Int.reduceLE, Nat.reduceEqDiff, Int.reduceEq, Int.reduceNeg, Int.reduceMul, Int.reduceAdd, Int.reduceSub, Int.reduceBNe, Int.reduceBEq, apart, bnd]
  · refine call_ok (twoPass.no inv h bits s mode X W (by omega) e hE) rfl ?_
    simp only [evA, evT, Go.undef, aload, astore, afieldAddr, afield, aindex, aindexAddr, abuild, abuildSlice, amakeSlice, aslice, aext, alen, aminmax, minmaxGo, aappend, newsOf, buildCells, cutRows, reps, setCells, AV.cells, allOne, AV.one, Value.oneCell', AV.pure, allPure, AV.free, allFree, rowsFree, Nat.reduceBEq, Nat.reduceAdd, Nat.reduceMul, Nat.reduceSub, Nat.reduceLT, Nat.reduceLeDiff, Int.reduceToNat, reduceIte, reduceCtorEq, Int.reduceLT, Int.reduceLE, Nat.reduceEqDiff, Int.reduceEq, Int.reduceNeg, Int.reduceMul, Int.reduceAdd, Int.reduceSub, Int.reduceBNe, Int.reduceBEq, apart, bnd, he]
    refine call_ok alive2.ok rfl ?_
    simp only [evA, evT, Go.undef, aload, astore, afieldAddr, afield, aindex, aindexAddr, abuild, abuildSlice, amakeSlice, aslice, aext, alen, aminmax, minmaxGo, aappend, newsOf, buildCells, cutRows, reps, setCells, AV.cells, allOne, AV.one, Value.oneCell', AV.pure, allPure, AV.free, allFree, rowsFree, Nat.reduceBEq, Nat.reduceAdd, Nat.reduceMul, Nat.reduceSub, Nat.reduceLT, Nat.reduceLeDiff, Int.reduceToNat, reduceIte, reduceCtorEq, Int.reduceLT, Int.reduceLE, Nat.reduceEqDiff, Int.reduceEq, Int.reduceNeg, Int.reduceMul, Int.reduceAdd, Int.reduceSub, Int.reduceBNe, Int.reduceBEq, apart, bnd]
end Go.Proofs.YtfemklaeonkidaaV

import Derived.Test.YtfemklaeonkidaaVfM
/- Contract: a pass of kernel 4. -/
namespace Go.Proofs.YtfemklaeonkidaaV
open Go Go.RowKit
set_option linter.unusedVariables false
set_option linter.unusedSimpArgs false
set_option maxRecDepth 100000
set_option maxHeartbeats 40000000
theorem fine47 : Fine Try.prog 47 := fun _ _ => by kernel_rfl
theorem fine82 : Fine Try.prog 82 := fun _ _ => by kernel_rfl
theorem fine83 : Fine Try.prog 83 := fun _ _ => by kernel_rfl
theorem Pass1.ok (a b : Int) : Ok Try.prog 82 [cxA a b] (.bool (decide (¬ win 2147483648 a b))) := by
  refine ok_of (X := fun _ => []) (Z := fun _ => false) (res := [ResultVar.tmp 2]) tok follows Try.func82 rfl rfl fine82 (by kernel_rfl) (by kernel_rfl) ?_
  simp only [evA, evT, Go.undef, aload, astore, afieldAddr, afield, aindex, aindexAddr, abuild, abuildSlice, amakeSlice, aslice, aext, alen, aminmax, minmaxGo, aappend, newsOf, buildCells, cutRows, reps, setCells, AV.cells, allOne, AV.one, Value.oneCell', AV.pure, allPure, AV.free, allFree, rowsFree, Nat.reduceBEq, Nat.reduceAdd, Nat.reduceMul, Nat.reduceSub, Nat.reduceLT, Nat.reduceLeDiff, Int.reduceToNat, reduceIte, reduceCtorEq, Int.reduceLT, Int.reduceLE, Nat.reduceEqDiff, Int.reduceEq, Int.reduceNeg, Int.reduceMul, Int.reduceAdd, Int.reduceSub, Int.reduceBNe, Int.reduceBEq, apart, bnd]
  refine call_ok (narrow4.ok 2147483648 a b (by decide)) rfl ?_
  simp only [evA, evT, Go.undef, aload, astore, afieldAddr, afield, aindex, aindexAddr, abuild, abuildSlice, amakeSlice, aslice, aext, alen, aminmax, minmaxGo, aappend, newsOf, buildCells, cutRows, reps, setCells, AV.cells, allOne, AV.one, Value.oneCell', AV.pure, allPure, AV.free, allFree, rowsFree, Nat.reduceBEq, Nat.reduceAdd, Nat.reduceMul, Nat.reduceSub, Nat.reduceLT, Nat.reduceLeDiff, Int.reduceToNat, reduceIte, reduceCtorEq, Int.reduceLT, Int.reduceLE, Nat.reduceEqDiff, Int.reduceEq, Int.reduceNeg, Int.reduceMul, Int.reduceAdd, Int.reduceSub, Int.reduceBNe, Int.reduceBEq, apart, bnd, decide_not]
theorem Pass2.ok (a b bits : Int) (hb : 0 ≤ bits ∧ bits ≤ 29) : Ok Try.prog 83 [cxA a b, .box [.int bits] 0] (.bool (decide (¬ win (2 ^ bits.toNat) a b))) := by
  have h := pow29 hb
  have h0 := hb.1
  refine ok_of (X := fun _ => []) (Z := fun _ => false) (res := [ResultVar.tmp 3]) tok follows Try.func83 rfl rfl fine83 (by kernel_rfl) (by kernel_rfl) ?_
  simp only [evA, evT, Go.undef, aload, astore, afieldAddr, afield, aindex, aindexAddr, abuild, abuildSlice, amakeSlice, aslice, aext, alen, aminmax, minmaxGo, aappend, newsOf, buildCells, cutRows, reps, setCells, AV.cells, allOne, AV.one, Value.oneCell', AV.pure, allPure, AV.free, allFree, rowsFree, Nat.reduceBEq, Nat.reduceAdd, Nat.reduceMul, Nat.reduceSub, Nat.reduceLT, Nat.reduceLeDiff, Int.reduceToNat, reduceIte, reduceCtorEq, Int.reduceLT, Int.reduceLE, Nat.reduceEqDiff, Int.reduceEq, Int.reduceNeg, Int.reduceMul, Int.reduceAdd, Int.reduceSub, Int.reduceBNe, Int.reduceBEq, apart, bnd, one29 hb, h0]
  refine call_ok (narrow4.ok (2 ^ bits.toNat) a b (by omega)) rfl ?_
  simp only [evA, evT, Go.undef, aload, astore, afieldAddr, afield, aindex, aindexAddr, abuild, abuildSlice, amakeSlice, aslice, aext, alen, aminmax, minmaxGo, aappend, newsOf, buildCells, cutRows, reps, setCells, AV.cells, allOne, AV.one, Value.oneCell', AV.pure, allPure, AV.free, allFree, rowsFree, Nat.reduceBEq, Nat.reduceAdd, Nat.reduceMul, Nat.reduceSub, Nat.reduceLT, Nat.reduceLeDiff, Int.reduceToNat, reduceIte, reduceCtorEq, Int.reduceLT, Int.reduceLE, Nat.reduceEqDiff, Int.reduceEq, Int.reduceNeg, Int.reduceMul, Int.reduceAdd, Int.reduceSub, Int.reduceBNe, Int.reduceBEq, apart, bnd, decide_not]
section
variable (inv : Bool) (bits s mode : Int) (xs ws : List (Int × Int)) (h u : Nat)
def pT (i : Nat) : Int × Int := bT inv bits s mode xs ws (4 * h * (i / (4 * h))) h u i
def cP (k : Nat) : List (Int × Int) := mix xs (pT inv bits s mode xs ws h u) fun i => decide (i < 4 * h * k)
/-- All numbers turned. -/
def pV : List (Int × Int) := mix xs (pT inv bits s mode xs ws h u) fun _ => true
theorem cP_zero : cP inv bits s mode xs ws h u 0 = xs := mix_none fun i _ => by simp
theorem cP_all (hn : xs.length = 4 * h * u) : cP inv bits s mode xs ws h u u = pV inv bits s mode xs ws h u := mix_eq (fun i hi => by simp; omega) fun _ _ _ => rfl
theorem cP_len (k : Nat) : (cP inv bits s mode xs ws h u k).length = xs.length := mix_len
theorem pV_len : (pV inv bits s mode xs ws h u).length = xs.length := mix_len
theorem cP_at {k i : Nat} (hi : i < xs.length) (hk : 4 * h * k ≤ i) : (cP inv bits s mode xs ws h u k).getD i (0, 0) = xs.getD i (0, 0) := by
  unfold cP
  rw [mix_at hi, decide_eq_false (by omega)]
  rfl
theorem cP_step {k : Nat} (hh : 0 < h) (hx : 4 * h * k + 4 * h ≤ xs.length) : cur inv bits s mode (cP inv bits s mode xs ws h u k) ws (4 * h * k) h u h = cP inv bits s mode xs ws h u (k + 1) := by
  have e : 4 * h * (k + 1) = 4 * h * k + 4 * h := by rw [Nat.mul_add, Nat.mul_one]
  have hg : ∀ m, m < 4 * h → (cP inv bits s mode xs ws h u k).getD (4 * h * k + m) (0, 0) = xs.getD (4 * h * k + m) (0, 0) := fun m hm => cP_at _ _ _ _ _ _ _ _ (by omega) (by omega)
  refine ext_at (by rw [cur_len, cP_len, cP_len]) fun i hi => ?_
  rw [cur_len, cP_len] at hi
  unfold cur
  rw [mix_at (by rw [cP_len]; exact hi)]
  conv => rhs; unfold cP
  rw [mix_at hi]
  have hm := Nat.mod_lt (i - 4 * h * k) hh
  by_cases h1 : 4 * h * k ≤ i ∧ i < 4 * h * k + 4 * h
  · have hb : bP (4 * h * k) h h i = true := by unfold bP; simp; omega
    rw [hb, if_pos rfl, decide_eq_true (by omega : i < 4 * h * (k + 1)), if_pos rfl]
    unfold pT
    have hdiv : i / (4 * h) = k := by
      refine Nat.div_eq_of_lt_le ?_ ?_
      · rw [Nat.mul_comm]; exact h1.1
      · rw [Nat.mul_comm, e]; exact h1.2
    rw [hdiv]
    unfold bT bq
    rw [hg _ (by omega), hg _ (by omega), hg _ (by omega), hg _ (by omega)]
  · have hb : bP (4 * h * k) h h i = false := by unfold bP; simp; omega
    rw [hb, if_neg (by simp)]
    unfold cP
    rw [mix_at hi]
    by_cases h2 : i < 4 * h * k
    · rw [decide_eq_true h2, decide_eq_true (by omega : i < 4 * h * (k + 1))]
    · rw [decide_eq_false h2, decide_eq_false (by omega : ¬ i < 4 * h * (k + 1))]
end
theorem quarter_nat {h n : Int} (hn : lens n) (hq : half h n ∧ 4 * h ≤ n) : ∃ H u : Nat, h = H ∧ 0 < H ∧ H ≤ 16 ∧ n = ((4 * H * u : Nat) : Int) ∧ 0 < u ∧ u ≤ 16 ∧ Go.bits .and .i64 h (h - 1) = 0 := by
  obtain ⟨⟨h1, h2⟩, h3⟩ := hq
  have hh : h = 1 ∨ h = 2 ∨ h = 4 ∨ h = 8 ∨ h = 16 := by unfold lens at hn; omega
  rcases hn with rfl | rfl | rfl | rfl | rfl <;> rcases hh with rfl | rfl | rfl | rfl | rfl <;> first
    | (exfalso; omega)
    | exact ⟨1, 1, by decide⟩ | exact ⟨1, 2, by decide⟩ | exact ⟨1, 4, by decide⟩ | exact ⟨1, 8, by decide⟩ | exact ⟨1, 16, by decide⟩
    | exact ⟨2, 1, by decide⟩ | exact ⟨2, 2, by decide⟩ | exact ⟨2, 4, by decide⟩ | exact ⟨2, 8, by decide⟩
    | exact ⟨4, 1, by decide⟩ | exact ⟨4, 2, by decide⟩ | exact ⟨4, 4, by decide⟩
    | exact ⟨8, 1, by decide⟩ | exact ⟨8, 2, by decide⟩
    | exact ⟨16, 1, by decide⟩
theorem quarter_not {h n : Int} (hn : lens n) (hq : ¬ (half h n ∧ 4 * h ≤ n)) : h < 1 ∨ (¬ h < 1 ∧ n / 4 < h) ∨ (¬ h < 1 ∧ ¬ n / 4 < h ∧ IntKind.i64.wrap (h - 1) = h - 1 ∧ ¬ Go.bits .and .i64 h (h - 1) = 0) := by
  by_cases h1 : h < 1
  · exact .inl h1
  by_cases h2 : n / 4 < h
  · exact .inr (.inl ⟨h1, h2⟩)
  refine .inr (.inr ⟨h1, h2, wr (by unfold lens at hn; omega), ?_⟩)
  have hh : h = 1 ∨ h = 2 ∨ h = 3 ∨ h = 4 ∨ h = 5 ∨ h = 6 ∨ h = 7 ∨ h = 8 ∨ h = 9 ∨ h = 10 ∨ h = 11 ∨ h = 12 ∨ h = 13 ∨ h = 14 ∨ h = 15 ∨ h = 16 := by unfold lens at hn; omega
  unfold half at hq
  rcases hh with rfl | rfl | rfl | rfl | rfl | rfl | rfl | rfl | rfl | rfl | rfl | rfl | rfl | rfl | rfl | rfl <;> first | (exfalso; omega) | decide
theorem div4 {n : Nat} (hn : n ≤ 1000000) : IntKind.i64.wrap ((n : Int).tdiv 4) = (n : Int) / 4 := by
  rw [Int.tdiv_eq_ediv_of_nonneg (by omega)]
  exact wr (by omega)
section
variable (inv : Bool) (h bits s mode : Int) (xs ws : List (Int × Int)) (hl : xs.length ≤ 1000000) (hw : ws.length ≤ 1000000)
include hl hw
omit hw in
theorem Pass.no (e : Int) (he : Why (half h xs.length ∧ 4 * h ≤ xs.length) xs ws bits s mode e) :
    Ok Try.prog 47 [.sl 2 (cxRows xs), .sl 2 (cxRows ws), .int h, .int bits, .int s, .int mode, .bool inv] (.tup [.raw (.slice none 0 0), .int e]) := by
  have d4 := div4 hl
  refine ok_of (X := fun _ => []) (Z := fun _ => false) (res := [ResultVar.tmp 14, ResultVar.tmp 15]) tok follows Try.func47 rfl rfl fine47 (by kernel_rfl) (by kernel_rfl) ?_
  simp only [evA, evT, Go.undef, aload, astore, afieldAddr, afield, aindex, aindexAddr, abuild, abuildSlice, amakeSlice, aslice, aext, alen, aminmax, minmaxGo, aappend, newsOf, buildCells, cutRows, reps, setCells, AV.cells, allOne, AV.one, Value.oneCell', AV.pure, allPure, AV.free, allFree, rowsFree, Nat.reduceBEq, Nat.reduceAdd, Nat.reduceMul, Nat.reduceSub, Nat.reduceLT, Nat.reduceLeDiff, Int.reduceToNat, reduceIte, reduceCtorEq, Int.reduceLT, Int.reduceLE, Nat.reduceEqDiff, Int.reduceEq, Int.reduceNeg, Int.reduceMul, Int.reduceAdd, Int.reduceSub, Int.reduceBNe, Int.reduceBEq, apart, bnd, cx_len]
  rcases he with ⟨h1, rfl⟩ | ⟨h1, h2, rfl⟩ | ⟨h1, h2, h3, rfl⟩ | ⟨h1, h2, ⟨h3, hset⟩, h4, rfl⟩
  · refine call_ok (Log.bad _ h1) rfl ?_
    simp only [evA, evT, Go.undef, aload, astore, afieldAddr, afield, aindex, aindexAddr, abuild, abuildSlice, amakeSlice, aslice, aext, alen, aminmax, minmaxGo, aappend, newsOf, buildCells, cutRows, reps, setCells, AV.cells, allOne, AV.one, Value.oneCell', AV.pure, allPure, AV.free, allFree, rowsFree, Nat.reduceBEq, Nat.reduceAdd, Nat.reduceMul, Nat.reduceSub, Nat.reduceLT, Nat.reduceLeDiff, Int.reduceToNat, reduceIte, reduceCtorEq, Int.reduceLT, Int.reduceLE, Nat.reduceEqDiff, Int.reduceEq, Int.reduceNeg, Int.reduceMul, Int.reduceAdd, Int.reduceSub, Int.reduceBNe, Int.reduceBEq, apart, bnd]
  · refine call_ok (Log.ok _ h1) rfl ?_
    simp only [evA, evT, Go.undef, aload, astore, afieldAddr, afield, aindex, aindexAddr, abuild, abuildSlice, amakeSlice, aslice, aext, alen, aminmax, minmaxGo, aappend, newsOf, buildCells, cutRows, reps, setCells, AV.cells, allOne, AV.one, Value.oneCell', AV.pure, allPure, AV.free, allFree, rowsFree, Nat.reduceBEq, Nat.reduceAdd, Nat.reduceMul, Nat.reduceSub, Nat.reduceLT, Nat.reduceLeDiff, Int.reduceToNat, reduceIte, reduceCtorEq, Int.reduceLT, Int.reduceLE, Nat.reduceEqDiff, Int.reduceEq, Int.reduceNeg, Int.reduceMul, Int.reduceAdd, Int.reduceSub, Int.reduceBNe, Int.reduceBEq, apart, bnd, cx_len, h2]
  · refine call_ok (Log.ok _ h1) rfl ?_
    simp only [evA, evT, Go.undef, aload, astore, afieldAddr, afield, aindex, aindexAddr, abuild, abuildSlice, amakeSlice, aslice, aext, alen, aminmax, minmaxGo, aappend, newsOf, buildCells, cutRows, reps, setCells, AV.cells, allOne, AV.one, Value.oneCell', AV.pure, allPure, AV.free, allFree, rowsFree, Nat.reduceBEq, Nat.reduceAdd, Nat.reduceMul, Nat.reduceSub, Nat.reduceLT, Nat.reduceLeDiff, Int.reduceToNat, reduceIte, reduceCtorEq, Int.reduceLT, Int.reduceLE, Nat.reduceEqDiff, Int.reduceEq, Int.reduceNeg, Int.reduceMul, Int.reduceAdd, Int.reduceSub, Int.reduceBNe, Int.reduceBEq, apart, bnd, cx_len, h2, d4]
    by_cases hq : half h xs.length ∧ 4 * h ≤ xs.length
    · obtain ⟨H, u, rfl, g1, g2, g3, g4, g5, g6⟩ := quarter_nat h1 hq
      have k1 : ¬ (H : Int) < 1 := by omega
      have k2 : ¬ (xs.length : Int) / 4 < H := by omega
      have k3 : IntKind.i64.wrap ((H : Int) - 1) = H - 1 := wr (by omega)
      simp only [evA, evT, Go.undef, aload, astore, afieldAddr, afield, aindex, aindexAddr, abuild, abuildSlice, amakeSlice, aslice, aext, alen, aminmax, minmaxGo, aappend, newsOf, buildCells, cutRows, reps, setCells, AV.cells, allOne, AV.one, Value.oneCell', AV.pure, allPure, AV.free, allFree, rowsFree, Nat.reduceBEq, Nat.reduceAdd, Nat.reduceMul, Nat.reduceSub, Nat.reduceLT, Nat.reduceLeDiff, Int.reduceToNat, reduceIte, reduceCtorEq, Int.reduceLT, Int.reduceLE, Nat.reduceEqDiff, Int.reduceEq, Int.reduceNeg, Int.reduceMul, Int.reduceAdd, Int.reduceSub, Int.reduceBNe, Int.reduceBEq, apart, bnd, k1, k2, k3, g6]
      refine call_ok (settings4.ok bits s mode) rfl ?_
      simp only [evA, evT, Go.undef, aload, astore, afieldAddr, afield, aindex, aindexAddr, abuild, abuildSlice, amakeSlice, aslice, aext, alen, aminmax, minmaxGo, aappend, newsOf, buildCells, cutRows, reps, setCells, AV.cells, allOne, AV.one, Value.oneCell', AV.pure, allPure, AV.free, allFree, rowsFree, Nat.reduceBEq, Nat.reduceAdd, Nat.reduceMul, Nat.reduceSub, Nat.reduceLT, Nat.reduceLeDiff, Int.reduceToNat, reduceIte, reduceCtorEq, Int.reduceLT, Int.reduceLE, Nat.reduceEqDiff, Int.reduceEq, Int.reduceNeg, Int.reduceMul, Int.reduceAdd, Int.reduceSub, Int.reduceBNe, Int.reduceBEq, apart, bnd, show ¬ setP bits s mode from fun g => h3 ⟨hq, g⟩]
    · rcases quarter_not h1 hq with k1 | ⟨k1, k2⟩ | ⟨k1, k2, k3, k4⟩
      · simp only [evA, evT, Go.undef, aload, astore, afieldAddr, afield, aindex, aindexAddr, abuild, abuildSlice, amakeSlice, aslice, aext, alen, aminmax, minmaxGo, aappend, newsOf, buildCells, cutRows, reps, setCells, AV.cells, allOne, AV.one, Value.oneCell', AV.pure, allPure, AV.free, allFree, rowsFree, Nat.reduceBEq, Nat.reduceAdd, Nat.reduceMul, Nat.reduceSub, Nat.reduceLT, Nat.reduceLeDiff, Int.reduceToNat, reduceIte, reduceCtorEq, Int.reduceLT, Int.reduceLE, Nat.reduceEqDiff, Int.reduceEq, Int.reduceNeg, Int.reduceMul, Int.reduceAdd, Int.reduceSub, Int.reduceBNe, Int.reduceBEq, apart, bnd, k1]
      · simp only [evA, evT, Go.undef, aload, astore, afieldAddr, afield, aindex, aindexAddr, abuild, abuildSlice, amakeSlice, aslice, aext, alen, aminmax, minmaxGo, aappend, newsOf, buildCells, cutRows, reps, setCells, AV.cells, allOne, AV.one, Value.oneCell', AV.pure, allPure, AV.free, allFree, rowsFree, Nat.reduceBEq, Nat.reduceAdd, Nat.reduceMul, Nat.reduceSub, Nat.reduceLT, Nat.reduceLeDiff, Int.reduceToNat, reduceIte, reduceCtorEq, Int.reduceLT, Int.reduceLE, Nat.reduceEqDiff, Int.reduceEq, Int.reduceNeg, Int.reduceMul, Int.reduceAdd, Int.reduceSub, Int.reduceBNe, Int.reduceBEq, apart, bnd, k1, k2]
      · simp only [evA, evT, Go.undef, aload, astore, afieldAddr, afield, aindex, aindexAddr, abuild, abuildSlice, amakeSlice, aslice, aext, alen, aminmax, minmaxGo, aappend, newsOf, buildCells, cutRows, reps, setCells, AV.cells, allOne, AV.one, Value.oneCell', AV.pure, allPure, AV.free, allFree, rowsFree, Nat.reduceBEq, Nat.reduceAdd, Nat.reduceMul, Nat.reduceSub, Nat.reduceLT, Nat.reduceLeDiff, Int.reduceToNat, reduceIte, reduceCtorEq, Int.reduceLT, Int.reduceLE, Nat.reduceEqDiff, Int.reduceEq, Int.reduceNeg, Int.reduceMul, Int.reduceAdd, Int.reduceSub, Int.reduceBNe, Int.reduceBEq, apart, bnd, k1, k2, k3, k4]
  · obtain ⟨H, u, rfl, g1, g2, g3, g4, g5, g6⟩ := quarter_nat h1 h3
    have k1 : ¬ (H : Int) < 1 := by omega
    have k2 : ¬ (xs.length : Int) / 4 < H := by omega
    have k3 : IntKind.i64.wrap ((H : Int) - 1) = H - 1 := wr (by omega)
    refine call_ok (Log.ok _ h1) rfl ?_
    simp only [evA, evT, Go.undef, aload, astore, afieldAddr, afield, aindex, aindexAddr, abuild, abuildSlice, amakeSlice, aslice, aext, alen, aminmax, minmaxGo, aappend, newsOf, buildCells, cutRows, reps, setCells, AV.cells, allOne, AV.one, Value.oneCell', AV.pure, allPure, AV.free, allFree, rowsFree, Nat.reduceBEq, Nat.reduceAdd, Nat.reduceMul, Nat.reduceSub, Nat.reduceLT, Nat.reduceLeDiff, Int.reduceToNat, reduceIte, reduceCtorEq, Int.reduceLT, Int.reduceLE, Nat.reduceEqDiff, Int.reduceEq, Int.reduceNeg, Int.reduceMul, Int.reduceAdd, Int.reduceSub, Int.reduceBNe, Int.reduceBEq, apart, bnd, cx_len, h2, d4, k1, k2, k3, g6]
    refine call_ok (settings4.ok bits s mode) rfl ?_
    simp only [evA, evT, Go.undef, aload, astore, afieldAddr, afield, aindex, aindexAddr, abuild, abuildSlice, amakeSlice, aslice, aext, alen, aminmax, minmaxGo, aappend, newsOf, buildCells, cutRows, reps, setCells, AV.cells, allOne, AV.one, Value.oneCell', AV.pure, allPure, AV.free, allFree, rowsFree, Nat.reduceBEq, Nat.reduceAdd, Nat.reduceMul, Nat.reduceSub, Nat.reduceLT, Nat.reduceLeDiff, Int.reduceToNat, reduceIte, reduceCtorEq, Int.reduceLT, Int.reduceLE, Nat.reduceEqDiff, Int.reduceEq, Int.reduceNeg, Int.reduceMul, Int.reduceAdd, Int.reduceSub, Int.reduceBNe, Int.reduceBEq, apart, bnd, decide_eq_true hset, cx_free]
    by_cases hx : nears 2147483648 xs
    · refine call_ok (contains.no 82 [] (fun x => ¬ win 2147483648 x.1 x.2) xs (by omega) (fun _ => rfl) (fun _ => rfl) rfl (fun x _ => Pass1.ok x.1 x.2) (fun x hx' hn => hn (hx x hx'))) rfl ?_
      simp only [evA, evT, Go.undef, aload, astore, afieldAddr, afield, aindex, aindexAddr, abuild, abuildSlice, amakeSlice, aslice, aext, alen, aminmax, minmaxGo, aappend, newsOf, buildCells, cutRows, reps, setCells, AV.cells, allOne, AV.one, Value.oneCell', AV.pure, allPure, AV.free, allFree, rowsFree, Nat.reduceBEq, Nat.reduceAdd, Nat.reduceMul, Nat.reduceSub, Nat.reduceLT, Nat.reduceLeDiff, Int.reduceToNat, reduceIte, reduceCtorEq, Int.reduceLT, Int.reduceLE, Nat.reduceEqDiff, Int.reduceEq, Int.reduceNeg, Int.reduceMul, Int.reduceAdd, Int.reduceSub, Int.reduceBNe, Int.reduceBEq, apart, bnd, cx_free]
      refine call_ok (contains.yes 83 [.box [.int bits] 0] (fun x => ¬ win (2 ^ bits.toNat) x.1 x.2) ws (by omega) (fun _ => rfl) (fun _ => rfl) rfl (fun x _ => Pass2.ok x.1 x.2 bits hset.1) (Classical.byContradiction fun hn => h4 ⟨hx, fun x hx' => Classical.byContradiction fun hg => hn ⟨x, hx', hg⟩⟩)) rfl ?_
      simp only [evA, evT, Go.undef, aload, astore, afieldAddr, afield, aindex, aindexAddr, abuild, abuildSlice, amakeSlice, aslice, aext, alen, aminmax, minmaxGo, aappend, newsOf, buildCells, cutRows, reps, setCells, AV.cells, allOne, AV.one, Value.oneCell', AV.pure, allPure, AV.free, allFree, rowsFree, Nat.reduceBEq, Nat.reduceAdd, Nat.reduceMul, Nat.reduceSub, Nat.reduceLT, Nat.reduceLeDiff, Int.reduceToNat, reduceIte, reduceCtorEq, Int.reduceLT, Int.reduceLE, Nat.reduceEqDiff, Int.reduceEq, Int.reduceNeg, Int.reduceMul, Int.reduceAdd, Int.reduceSub, Int.reduceBNe, Int.reduceBEq, apart, bnd]
    · refine call_ok (contains.yes 82 [] (fun x => ¬ win 2147483648 x.1 x.2) xs (by omega) (fun _ => rfl) (fun _ => rfl) rfl (fun x _ => Pass1.ok x.1 x.2) (Classical.byContradiction fun hn => hx fun x hx' => Classical.byContradiction fun hg => hn ⟨x, hx', hg⟩)) rfl ?_
      simp only [evA, evT, Go.undef, aload, astore, afieldAddr, afield, aindex, aindexAddr, abuild, abuildSlice, amakeSlice, aslice, aext, alen, aminmax, minmaxGo, aappend, newsOf, buildCells, cutRows, reps, setCells, AV.cells, allOne, AV.one, Value.oneCell', AV.pure, allPure, AV.free, allFree, rowsFree, Nat.reduceBEq, Nat.reduceAdd, Nat.reduceMul, Nat.reduceSub, Nat.reduceLT, Nat.reduceLeDiff, Int.reduceToNat, reduceIte, reduceCtorEq, Int.reduceLT, Int.reduceLE, Nat.reduceEqDiff, Int.reduceEq, Int.reduceNeg, Int.reduceMul, Int.reduceAdd, Int.reduceSub, Int.reduceBNe, Int.reduceBEq, apart, bnd]
theorem Pass.ok (H u : Nat) (hH : 0 < H) (hH16 : H ≤ 16) (hu : u ≤ 16) (hu0 : 0 < u) (hn : xs.length = 4 * H * u) (hand : Go.bits .and .i64 H ((H : Int) - 1) = 0) (h1 : lens xs.length) (h2 : (ws.length : Int) = xs.length) (hset : setP bits s mode) (hx : nears 2147483648 xs) (hr : nears (2 ^ bits.toNat) ws) :
    Ok Try.prog 47 [.sl 2 (cxRows xs), .sl 2 (cxRows ws), .int H, .int bits, .int s, .int mode, .bool inv] (.tup [.sl 2 (cxRows (pV inv bits s mode xs ws H u)), .int 0]) := by
  have d4 := div4 hl
  have hpos : 0 < 4 * H * u := Nat.mul_pos (by omega) hu0
  have k1 : ¬ (H : Int) < 1 := by omega
  have k2 : ¬ (xs.length : Int) / 4 < H := by
    have : 4 * H * 1 ≤ 4 * H * u := Nat.mul_le_mul_left _ hu0
    omega
  have k3 : IntKind.i64.wrap ((H : Int) - 1) = H - 1 := wr (by omega)
  have m4 : IntKind.i64.wrap (4 * (H : Int)) = ((4 * H : Nat) : Int) := by rw [wr (by omega)]; omega
  have hdiv : IntKind.i64.wrap ((xs.length : Int).tdiv ((4 * H : Nat) : Int)) = u := by
    rw [Int.tdiv_eq_ediv_of_nonneg (by omega), hn, Int.natCast_mul (4 * H) u, Int.mul_ediv_cancel_left _ (by omega)]
    exact wr (by omega)
  have hnz : ¬ ((4 * H : Nat) : Int) = 0 := by omega
  refine ok_of (X := fun r => if Nat.beq r 12 then [[], [.const (.bool true)]] else if Nat.beq r 16 then [[], [], [], [], [], [], [], [], [], [], [], [], [], [], [], [], [], [], [], [], [], [], [.const (.bool true)]] else []) (Z := fun _ => false) (res := [ResultVar.tmp 14, ResultVar.tmp 15]) tok follows Try.func47 rfl rfl fine47 (by kernel_rfl) (by kernel_rfl) ?_
  simp only [evA, evT, Go.undef, aload, astore, afieldAddr, afield, aindex, aindexAddr, abuild, abuildSlice, amakeSlice, aslice, aext, alen, aminmax, minmaxGo, aappend, newsOf, buildCells, cutRows, reps, setCells, AV.cells, allOne, AV.one, Value.oneCell', AV.pure, allPure, AV.free, allFree, rowsFree, Nat.reduceBEq, Nat.reduceAdd, Nat.reduceMul, Nat.reduceSub, Nat.reduceLT, Nat.reduceLeDiff, Int.reduceToNat, reduceIte, reduceCtorEq, Int.reduceLT, Int.reduceLE, Nat.reduceEqDiff, Int.reduceEq, Int.reduceNeg, Int.reduceMul, Int.reduceAdd, Int.reduceSub, Int.reduceBNe, Int.reduceBEq, apart, bnd, cx_len]
  refine call_ok (Log.ok _ h1) rfl ?_
  simp only [evA, evT, Go.undef, aload, astore, afieldAddr, afield, aindex, aindexAddr, abuild, abuildSlice, amakeSlice, aslice, aext, alen, aminmax, minmaxGo, aappend, newsOf, buildCells, cutRows, reps, setCells, AV.cells, allOne, AV.one, Value.oneCell', AV.pure, allPure, AV.free, allFree, rowsFree, Nat.reduceBEq, Nat.reduceAdd, Nat.reduceMul, Nat.reduceSub, Nat.reduceLT, Nat.reduceLeDiff, Int.reduceToNat, reduceIte, reduceCtorEq, Int.reduceLT, Int.reduceLE, Nat.reduceEqDiff, Int.reduceEq, Int.reduceNeg, Int.reduceMul, Int.reduceAdd, Int.reduceSub, Int.reduceBNe, Int.reduceBEq, apart, bnd, cx_len, h2, d4, k1, k2, k3, hand]
  refine call_ok (settings4.ok bits s mode) rfl ?_
  simp only [evA, evT, Go.undef, aload, astore, afieldAddr, afield, aindex, aindexAddr, abuild, abuildSlice, amakeSlice, aslice, aext, alen, aminmax, minmaxGo, aappend, newsOf, buildCells, cutRows, reps, setCells, AV.cells, allOne, AV.one, Value.oneCell', AV.pure, allPure, AV.free, allFree, rowsFree, Nat.reduceBEq, Nat.reduceAdd, Nat.reduceMul, Nat.reduceSub, Nat.reduceLT, Nat.reduceLeDiff, Int.reduceToNat, reduceIte, reduceCtorEq, Int.reduceLT, Int.reduceLE, Nat.reduceEqDiff, Int.reduceEq, Int.reduceNeg, Int.reduceMul, Int.reduceAdd, Int.reduceSub, Int.reduceBNe, Int.reduceBEq, apart, bnd, decide_eq_true hset, cx_free]
  refine call_ok (contains.no 82 [] (fun x => ¬ win 2147483648 x.1 x.2) xs (by omega) (fun _ => rfl) (fun _ => rfl) rfl (fun x _ => Pass1.ok x.1 x.2) (fun x hx' hn => hn (hx x hx'))) rfl ?_
  simp only [evA, evT, Go.undef, aload, astore, afieldAddr, afield, aindex, aindexAddr, abuild, abuildSlice, amakeSlice, aslice, aext, alen, aminmax, minmaxGo, aappend, newsOf, buildCells, cutRows, reps, setCells, AV.cells, allOne, AV.one, Value.oneCell', AV.pure, allPure, AV.free, allFree, rowsFree, Nat.reduceBEq, Nat.reduceAdd, Nat.reduceMul, Nat.reduceSub, Nat.reduceLT, Nat.reduceLeDiff, Int.reduceToNat, reduceIte, reduceCtorEq, Int.reduceLT, Int.reduceLE, Nat.reduceEqDiff, Int.reduceEq, Int.reduceNeg, Int.reduceMul, Int.reduceAdd, Int.reduceSub, Int.reduceBNe, Int.reduceBEq, apart, bnd, cx_free]
  refine call_ok (contains.no 83 [.box [.int bits] 0] (fun x => ¬ win (2 ^ bits.toNat) x.1 x.2) ws (by omega) (fun _ => rfl) (fun _ => rfl) rfl (fun x _ => Pass2.ok x.1 x.2 bits hset.1) (fun x hx' hn => hn (hr x hx'))) rfl ?_
  simp only [evA, evT, Go.undef, aload, astore, afieldAddr, afield, aindex, aindexAddr, abuild, abuildSlice, amakeSlice, aslice, aext, alen, aminmax, minmaxGo, aappend, newsOf, buildCells, cutRows, reps, setCells, AV.cells, allOne, AV.one, Value.oneCell', AV.pure, allPure, AV.free, allFree, rowsFree, Nat.reduceBEq, Nat.reduceAdd, Nat.reduceMul, Nat.reduceSub, Nat.reduceLT, Nat.reduceLeDiff, Int.reduceToNat, reduceIte, reduceCtorEq, Int.reduceLT, Int.reduceLE, Nat.reduceEqDiff, Int.reduceEq, Int.reduceNeg, Int.reduceMul, Int.reduceAdd, Int.reduceSub, Int.reduceBNe, Int.reduceBEq, apart, bnd, cx_free]
  refine call_eff [] (Clone.ok xs hl (by omega)) rfl (by decide) ?_ ?_ rfl ?_ ?_ ?_ ?_ rfl rfl ?_
  all_goals simp only [evA, evB, evT, Go.undef, aload, astore, afieldAddr, afield, aindex, aindexAddr, abuild, abuildSlice, amakeSlice, aslice, aext, alen, aminmax, minmaxGo, aappend, newsOf, buildCells, cutRows, reps, setCells, AV.cells, allOne, AV.one, Value.oneCell', AV.pure, allPure, AV.free, allFree, rowsFree, Nat.reduceBEq, Nat.reduceAdd, Nat.reduceMul, Nat.reduceSub, Nat.reduceLT, Nat.reduceLeDiff, Int.reduceToNat, reduceIte, reduceCtorEq, Int.reduceLT, Int.reduceLE, Nat.reduceEqDiff, Int.reduceEq, Int.reduceNeg, Int.reduceMul, Int.reduceAdd, Int.reduceSub, Int.reduceBNe, Int.reduceBEq, apart, bnd, cx_free, cx_lt, cx_ren, lt_sl, rn_sl]
  refine l_inv (fun k => ⟨[(21, .int ((4 * H * k : Nat) : Int)), (20, .own 1), (10, .loc 0 0), (0, .sl 2 (cxRows xs)), (1, .sl 2 (cxRows ws)), (2, .int H), (4, .int s), (5, .int mode), (6, .bool inv)], [(1, some (.row 37 2 (cxRows (cP inv bits s mode xs ws H u k)))), (0, some (.box [.int bits]))], 2⟩) u ?_ (fun k hk K hK => ?_) (fun K => ?_)
  · refine weak_of (fun l => l) rfl ?_ ?_
    all_goals simp only [evA, evB, evT, Go.undef, aload, astore, afieldAddr, afield, aindex, aindexAddr, abuild, abuildSlice, amakeSlice, aslice, aext, alen, aminmax, minmaxGo, aappend, newsOf, buildCells, cutRows, reps, setCells, AV.cells, allOne, AV.one, Value.oneCell', AV.pure, allPure, AV.free, allFree, rowsFree, Nat.reduceBEq, Nat.reduceAdd, Nat.reduceMul, Nat.reduceSub, Nat.reduceLT, Nat.reduceLeDiff, Int.reduceToNat, reduceIte, reduceCtorEq, Int.reduceLT, Int.reduceLE, Nat.reduceEqDiff, Int.reduceEq, Int.reduceNeg, Int.reduceMul, Int.reduceAdd, Int.reduceSub, Int.reduceBNe, Int.reduceBEq, apart, bnd, cx_free, cP_zero, List.getD_nil, Nat.mul_zero, Int.natCast_zero]
  · have hk1 : 4 * H * (k + 1) ≤ 4 * H * u := Nat.mul_le_mul_left _ hk
    have hk2 : 4 * H * (k + 1) = 4 * H * k + 4 * H := by rw [Nat.mul_add, Nat.mul_one]
    have r1 : ((4 * H * k : Nat) : Int) < xs.length := by omega
    have r2 : IntKind.i64.wrap (((4 * H * k : Nat) : Int) + ((4 * H : Nat) : Int)) = ((4 * H * (k + 1) : Nat) : Int) := by rw [wr (by omega)]; omega
    have r3 : (0 : Int) ≤ ((4 * H * k : Nat) : Int) := by omega
    have r4 : ((4 * H * k : Nat) : Int) < ((4 * H * (k + 1) : Nat) : Int) := by omega
    have r5 : ((4 * H * (k + 1) : Nat) : Int) ≤ xs.length := by omega
    have r6 : (((4 * H * (k + 1) : Nat) : Int) - ((4 * H * k : Nat) : Int)).toNat = 4 * H := by omega
    have hst := cP_step inv bits s mode xs ws H u (k := k) hH (by omega)
    have hB : BlockH bits s mode (cP inv bits s mode xs ws H u k) ws (4 * H * k) H u (4 * H) := {
      len := by rw [cP_len]; exact hl
      wlen := hw
      n4 := rfl
      fit := by rw [cP_len]; omega
      set := hset
      near := fun i h1 h2 => by
        rw [cP_at _ _ _ _ _ _ _ _ (by omega) h1]
        exact near_get hx (by omega)
      roots := hr
      hu := fun a j ha hj => by
        have : a * j * u ≤ 3 * (H - 1) * u := Nat.mul_le_mul_right _ (Nat.mul_le_mul (by omega) (by omega))
        have h3 : 3 * (H - 1) * u < 4 * H * u := Nat.mul_lt_mul_of_pos_right (by omega) hu0
        omega
      ub := by omega }
    simp only [evA, evB, evT, Go.undef, aload, astore, afieldAddr, afield, aindex, aindexAddr, abuild, abuildSlice, amakeSlice, aslice, aext, alen, aminmax, minmaxGo, aappend, newsOf, buildCells, cutRows, reps, setCells, AV.cells, allOne, AV.one, Value.oneCell', AV.pure, allPure, AV.free, allFree, rowsFree, Nat.reduceBEq, Nat.reduceAdd, Nat.reduceMul, Nat.reduceSub, Nat.reduceLT, Nat.reduceLeDiff, Int.reduceToNat, reduceIte, reduceCtorEq, Int.reduceLT, Int.reduceLE, Nat.reduceEqDiff, Int.reduceEq, Int.reduceNeg, Int.reduceMul, Int.reduceAdd, Int.reduceSub, Int.reduceBNe, Int.reduceBEq, apart, bnd, cx_len, cP_len, r1, m4, r2, r3, r4, r5, r6, Int.toNat_natCast, hdiv, hnz, cx_free]
    refine call_eff [1] (block.ok inv bits s mode (cP inv bits s mode xs ws H u k) ws (4 * H * k) H u (4 * H) hB) rfl (by decide) ?_ ?_ rfl ?_ ?_ ?_ ?_ rfl rfl ?_
    all_goals simp only [evA, evB, evT, Go.undef, aload, astore, afieldAddr, afield, aindex, aindexAddr, abuild, abuildSlice, amakeSlice, aslice, aext, alen, aminmax, minmaxGo, aappend, newsOf, buildCells, cutRows, reps, setCells, AV.cells, allOne, AV.one, Value.oneCell', AV.pure, allPure, AV.free, allFree, rowsFree, Nat.reduceBEq, Nat.reduceAdd, Nat.reduceMul, Nat.reduceSub, Nat.reduceLT, Nat.reduceLeDiff, Int.reduceToNat, reduceIte, reduceCtorEq, Int.reduceLT, Int.reduceLE, Nat.reduceEqDiff, Int.reduceEq, Int.reduceNeg, Int.reduceMul, Int.reduceAdd, Int.reduceSub, Int.reduceBNe, Int.reduceBEq, apart, bnd, cx_free, cx_lt, cx_ren, lt_sl, rn_sl, m4, r2]
    refine hK _ (weak_of (fun l => l) rfl ?_ ?_)
    all_goals simp only [evA, evB, evT, Go.undef, aload, astore, afieldAddr, afield, aindex, aindexAddr, abuild, abuildSlice, amakeSlice, aslice, aext, alen, aminmax, minmaxGo, aappend, newsOf, buildCells, cutRows, reps, setCells, AV.cells, allOne, AV.one, Value.oneCell', AV.pure, allPure, AV.free, allFree, rowsFree, Nat.reduceBEq, Nat.reduceAdd, Nat.reduceMul, Nat.reduceSub, Nat.reduceLT, Nat.reduceLeDiff, Int.reduceToNat, reduceIte, reduceCtorEq, Int.reduceLT, Int.reduceLE, Nat.reduceEqDiff, Int.reduceEq, Int.reduceNeg, Int.reduceMul, Int.reduceAdd, Int.reduceSub, Int.reduceBNe, Int.reduceBEq, apart, bnd, cx_free, hst]
  · have r1 : ¬ ((4 * H * u : Nat) : Int) < xs.length := by omega
    simp only [evA, evT, Go.undef, aload, astore, afieldAddr, afield, aindex, aindexAddr, abuild, abuildSlice, amakeSlice, aslice, aext, alen, aminmax, minmaxGo, aappend, newsOf, buildCells, cutRows, reps, setCells, AV.cells, allOne, AV.one, Value.oneCell', AV.pure, allPure, AV.free, allFree, rowsFree, Nat.reduceBEq, Nat.reduceAdd, Nat.reduceMul, Nat.reduceSub, Nat.reduceLT, Nat.reduceLeDiff, Int.reduceToNat, reduceIte, reduceCtorEq, Int.reduceLT, Int.reduceLE, Nat.reduceEqDiff, Int.reduceEq, Int.reduceNeg, Int.reduceMul, Int.reduceAdd, Int.reduceSub, Int.reduceBNe, Int.reduceBEq, apart, bnd, cx_len, cP_len, pV_len, r1, cx_free, cP_all inv bits s mode xs ws H u hn]
end
end Go.Proofs.YtfemklaeonkidaaV

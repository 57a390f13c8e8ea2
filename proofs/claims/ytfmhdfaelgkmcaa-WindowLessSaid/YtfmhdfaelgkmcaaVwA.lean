import Derived.Test.YtfmhdfaelgkmcaaVpM
import Derived.Test.YtfmhdfaelgkmcaaVdD
/- Contracts: windows, by the code. -/
namespace Go.Proofs.YtfmhdfaelgkmcaaV
open Go Go.RowKit
set_option linter.unusedVariables false
set_option linter.unusedSimpArgs false
set_option maxRecDepth 100000
set_option maxHeartbeats 40000000
theorem fine133 : Fine Try.prog 133 := fun _ _ => by kernel_rfl
theorem fine113 : Fine Try.prog 113 := fun _ _ => by kernel_rfl
theorem fine111 : Fine Try.prog 111 := fun _ _ => by kernel_rfl
theorem fine109 : Fine Try.prog 109 := fun _ _ => by kernel_rfl
theorem fine110 : Fine Try.prog 110 := fun _ _ => by kernel_rfl
theorem fine112 : Fine Try.prog 112 := fun _ _ => by kernel_rfl
theorem fine114 : Fine Try.prog 114 := fun _ _ => by kernel_rfl
theorem fine32 : Fine Try.prog 32 := fun _ _ => by kernel_rfl
theorem fine34 : Fine Try.prog 34 := fun _ _ => by kernel_rfl
theorem fdiv_by (x d : Int) (hd : 0 < d) : x / d = if x.tmod d < 0 then x.tdiv d - 1 else x.tdiv d := by
  have h1 := Int.emod_nonneg x (show d ≠ 0 by omega)
  have h2 := Int.emod_lt_of_pos x hd
  have h3 := Int.emod_add_mul_ediv x d
  have h4 := Int.tmod_add_mul_tdiv x d
  have h5 := Int.tmod_lt_of_pos x hd
  have h6 : -d < x.tmod d := by
    have := Int.tmod_lt_of_pos (-x) hd
    rw [Int.neg_tmod] at this
    omega
  generalize x / d = q at *
  generalize x.tdiv d = t at *
  generalize x % d = r at *
  generalize x.tmod d = s at *
  have key : d * (q - t) = s - r := by rw [Int.mul_sub]; omega
  generalize hm : q - t = m at *
  split
  · have a1 : d * m < d * 0 := by omega
    have a2 : d * (-2) < d * m := by omega
    have b1 := Int.lt_of_mul_lt_mul_left a1 (by omega)
    have b2 := Int.lt_of_mul_lt_mul_left a2 (by omega)
    omega
  · have a1 : d * m < d * 1 := by omega
    have a2 : d * (-1) < d * m := by omega
    have b1 := Int.lt_of_mul_lt_mul_left a1 (by omega)
    have b2 := Int.lt_of_mul_lt_mul_left a2 (by omega)
    omega
theorem Div.ok (x d : Int) (hx : -4611686018427387904 ≤ x ∧ x ≤ 4611686018427387904) (hd : 1 ≤ d) : Ok Try.prog 133 [.int x, .int d] (.tup [.int (x / d), .int 0]) := by
  have hb : -4611686018427387904 ≤ x.tdiv d ∧ x.tdiv d ≤ 4611686018427387904 := by
    have h4 := Int.natAbs_tdiv_le_natAbs x d
    omega
  have e1 : IntKind.i64.wrap (x.tdiv d) = x.tdiv d := wr (by omega)
  have e2 : IntKind.i64.wrap (x.tdiv d - 1) = x.tdiv d - 1 := wr (by omega)
  have h1 : ¬ d < 1 := by omega
  have h2 : ¬ d = 0 := by omega
  have hf := fdiv_by x d (by omega)
  refine ok_of (X := fun _ => []) (Z := fun _ => false) (res := [ResultVar.tmp 4, ResultVar.tmp 5]) tok follows Try.func133 rfl rfl fine133 (by kernel_rfl) (by kernel_rfl) ?_
  by_cases h : x.tmod d < 0
  · rw [if_pos h] at hf
    simp only [evA, evT, Go.undef, aload, astore, afieldAddr, afield, aindex, aindexAddr, abuild, abuildSlice, amakeSlice, aslice, aext, alen, aminmax, minmaxGo, aappend, newsOf, buildCells, cutRows, reps, setCells, AV.cells, allOne, AV.one, Value.oneCell', AV.pure, allPure, AV.free, allFree, rowsFree, Nat.reduceBEq, Nat.reduceAdd, Nat.reduceMul, Nat.reduceSub, Nat.reduceLT, Nat.reduceLeDiff, Int.reduceToNat, reduceIte, reduceCtorEq, Int.reduceLT, Int.reduceLE, Nat.reduceEqDiff, Int.reduceEq, Int.reduceNeg, Int.reduceMul, Int.reduceAdd, Int.reduceSub, Int.reduceBNe, Int.reduceBEq, apart, bnd, h1, h2, h, e1, e2, hf]
  · rw [if_neg h] at hf
    simp only [evA, evT, Go.undef, aload, astore, afieldAddr, afield, aindex, aindexAddr, abuild, abuildSlice, amakeSlice, aslice, aext, alen, aminmax, minmaxGo, aappend, newsOf, buildCells, cutRows, reps, setCells, AV.cells, allOne, AV.one, Value.oneCell', AV.pure, allPure, AV.free, allFree, rowsFree, Nat.reduceBEq, Nat.reduceAdd, Nat.reduceMul, Nat.reduceSub, Nat.reduceLT, Nat.reduceLeDiff, Int.reduceToNat, reduceIte, reduceCtorEq, Int.reduceLT, Int.reduceLE, Nat.reduceEqDiff, Int.reduceEq, Int.reduceNeg, Int.reduceMul, Int.reduceAdd, Int.reduceSub, Int.reduceBNe, Int.reduceBEq, apart, bnd, h1, h2, h, e1, hf]
theorem wdiv.ok (x d : Int) (hx : -4611686018427387904 ≤ x ∧ x ≤ 4611686018427387904) (hd : 1 ≤ d) : Ok Try.prog 113 [.int x, .int d] (.int (x / d)) := by
  refine ok_of (X := fun _ => []) (Z := fun _ => false) (res := [ResultVar.tmp 4]) tok follows Try.func113 rfl rfl fine113 (by kernel_rfl) (by kernel_rfl) ?_
  simp only [evA, evT, Go.undef, aload, astore, afieldAddr, afield, aindex, aindexAddr, abuild, abuildSlice, amakeSlice, aslice, aext, alen, aminmax, minmaxGo, aappend, newsOf, buildCells, cutRows, reps, setCells, AV.cells, allOne, AV.one, Value.oneCell', AV.pure, allPure, AV.free, allFree, rowsFree, Nat.reduceBEq, Nat.reduceAdd, Nat.reduceMul, Nat.reduceSub, Nat.reduceLT, Nat.reduceLeDiff, Int.reduceToNat, reduceIte, reduceCtorEq, Int.reduceLT, Int.reduceLE, Nat.reduceEqDiff, Int.reduceEq, Int.reduceNeg, Int.reduceMul, Int.reduceAdd, Int.reduceSub, Int.reduceBNe, Int.reduceBEq, apart, bnd]
  refine call_ok (Div.ok x d hx hd) rfl ?_
  simp only [evA, evT, Go.undef, aload, astore, afieldAddr, afield, aindex, aindexAddr, abuild, abuildSlice, amakeSlice, aslice, aext, alen, aminmax, minmaxGo, aappend, newsOf, buildCells, cutRows, reps, setCells, AV.cells, allOne, AV.one, Value.oneCell', AV.pure, allPure, AV.free, allFree, rowsFree, Nat.reduceBEq, Nat.reduceAdd, Nat.reduceMul, Nat.reduceSub, Nat.reduceLT, Nat.reduceLeDiff, Int.reduceToNat, reduceIte, reduceCtorEq, Int.reduceLT, Int.reduceLE, Nat.reduceEqDiff, Int.reduceEq, Int.reduceNeg, Int.reduceMul, Int.reduceAdd, Int.reduceSub, Int.reduceBNe, Int.reduceBEq, apart, bnd]
theorem whalf.ok (x : Int) (hx : -4611686018427387904 ≤ x ∧ x ≤ 4611686018427387904) : Ok Try.prog 111 [.int x] (.int (rsh x 1 1)) := by
  refine ok_of (X := fun _ => []) (Z := fun _ => false) (res := [ResultVar.tmp 2]) tok follows Try.func111 rfl rfl fine111 (by kernel_rfl) (by kernel_rfl) ?_
  simp only [evA, evT, Go.undef, aload, astore, afieldAddr, afield, aindex, aindexAddr, abuild, abuildSlice, amakeSlice, aslice, aext, alen, aminmax, minmaxGo, aappend, newsOf, buildCells, cutRows, reps, setCells, AV.cells, allOne, AV.one, Value.oneCell', AV.pure, allPure, AV.free, allFree, rowsFree, Nat.reduceBEq, Nat.reduceAdd, Nat.reduceMul, Nat.reduceSub, Nat.reduceLT, Nat.reduceLeDiff, Int.reduceToNat, reduceIte, reduceCtorEq, Int.reduceLT, Int.reduceLE, Nat.reduceEqDiff, Int.reduceEq, Int.reduceNeg, Int.reduceMul, Int.reduceAdd, Int.reduceSub, Int.reduceBNe, Int.reduceBEq, apart, bnd]
  refine call_ok (Shift.ok x 1 1 (by decide) (by decide) (by omega)) rfl ?_
  simp only [evA, evT, Go.undef, aload, astore, afieldAddr, afield, aindex, aindexAddr, abuild, abuildSlice, amakeSlice, aslice, aext, alen, aminmax, minmaxGo, aappend, newsOf, buildCells, cutRows, reps, setCells, AV.cells, allOne, AV.one, Value.oneCell', AV.pure, allPure, AV.free, allFree, rowsFree, Nat.reduceBEq, Nat.reduceAdd, Nat.reduceMul, Nat.reduceSub, Nat.reduceLT, Nat.reduceLeDiff, Int.reduceToNat, reduceIte, reduceCtorEq, Int.reduceLT, Int.reduceLE, Nat.reduceEqDiff, Int.reduceEq, Int.reduceNeg, Int.reduceMul, Int.reduceAdd, Int.reduceSub, Int.reduceBNe, Int.reduceBEq, apart, bnd]
/-- A weight. -/
def wg (kind o c d : Int) : Int := if kind = 1 then rsh (o - c) 1 1 else if kind = 2 then (25 * o - 21 * c) / 46 else if kind = 3 then (21 * o - 25 * c + 4 * d) / 50 else o
abbrev fit (x : Int) : Prop := -1099511627776 ≤ x ∧ x ≤ 1099511627776
theorem form.ok (kind : Int) (hk : 0 ≤ kind ∧ kind ≤ 3) : ∃ F, fA kind = .fn F [] ∧ ∀ o c d, fit o → fit c → fit d → Ok Try.prog F [.int o, .int c, .int d] (.int (wg kind o c d)) := by
  have hc : kind = 0 ∨ kind = 1 ∨ kind = 2 ∨ kind = 3 := by omega
  rcases hc with rfl | rfl | rfl | rfl
  · refine ⟨_, rfl, fun o c d ho hc hd => ?_⟩
    refine ok_of (X := fun _ => []) (Z := fun _ => false) (res := [ResultVar.tmp 6]) tok follows Try.func109 rfl rfl fine109 (by kernel_rfl) (by kernel_rfl) ?_
    simp only [evA, evT, Go.undef, aload, astore, afieldAddr, afield, aindex, aindexAddr, abuild, abuildSlice, amakeSlice, aslice, aext, alen, aminmax, minmaxGo, aappend, newsOf, buildCells, cutRows, reps, setCells, AV.cells, allOne, AV.one, Value.oneCell', AV.pure, allPure, AV.free, allFree, rowsFree, Nat.reduceBEq, Nat.reduceAdd, Nat.reduceMul, Nat.reduceSub, Nat.reduceLT, Nat.reduceLeDiff, Int.reduceToNat, reduceIte, reduceCtorEq, Int.reduceLT, Int.reduceLE, Nat.reduceEqDiff, Int.reduceEq, Int.reduceNeg, Int.reduceMul, Int.reduceAdd, Int.reduceSub, Int.reduceBNe, Int.reduceBEq, apart, bnd]
    rfl
  · refine ⟨_, rfl, fun o c d ho hc hd => ?_⟩
    have e1 : IntKind.i64.wrap (o - c) = o - c := wr (by omega)
    refine ok_of (X := fun _ => []) (Z := fun _ => false) (res := [ResultVar.tmp 6]) tok follows Try.func110 rfl rfl fine110 (by kernel_rfl) (by kernel_rfl) ?_
    simp only [evA, evT, Go.undef, aload, astore, afieldAddr, afield, aindex, aindexAddr, abuild, abuildSlice, amakeSlice, aslice, aext, alen, aminmax, minmaxGo, aappend, newsOf, buildCells, cutRows, reps, setCells, AV.cells, allOne, AV.one, Value.oneCell', AV.pure, allPure, AV.free, allFree, rowsFree, Nat.reduceBEq, Nat.reduceAdd, Nat.reduceMul, Nat.reduceSub, Nat.reduceLT, Nat.reduceLeDiff, Int.reduceToNat, reduceIte, reduceCtorEq, Int.reduceLT, Int.reduceLE, Nat.reduceEqDiff, Int.reduceEq, Int.reduceNeg, Int.reduceMul, Int.reduceAdd, Int.reduceSub, Int.reduceBNe, Int.reduceBEq, apart, bnd, e1]
    refine call_ok (whalf.ok (o - c) (by omega)) rfl ?_
    simp only [evA, evT, Go.undef, aload, astore, afieldAddr, afield, aindex, aindexAddr, abuild, abuildSlice, amakeSlice, aslice, aext, alen, aminmax, minmaxGo, aappend, newsOf, buildCells, cutRows, reps, setCells, AV.cells, allOne, AV.one, Value.oneCell', AV.pure, allPure, AV.free, allFree, rowsFree, Nat.reduceBEq, Nat.reduceAdd, Nat.reduceMul, Nat.reduceSub, Nat.reduceLT, Nat.reduceLeDiff, Int.reduceToNat, reduceIte, reduceCtorEq, Int.reduceLT, Int.reduceLE, Nat.reduceEqDiff, Int.reduceEq, Int.reduceNeg, Int.reduceMul, Int.reduceAdd, Int.reduceSub, Int.reduceBNe, Int.reduceBEq, apart, bnd]
    rfl
  · refine ⟨_, rfl, fun o c d ho hc hd => ?_⟩
    have e1 : IntKind.i64.wrap (25 * o) = 25 * o := wr (by omega)
    have e2 : IntKind.i64.wrap (21 * c) = 21 * c := wr (by omega)
    have e3 : IntKind.i64.wrap (25 * o - 21 * c) = 25 * o - 21 * c := wr (by omega)
    refine ok_of (X := fun _ => []) (Z := fun _ => false) (res := [ResultVar.tmp 6]) tok follows Try.func112 rfl rfl fine112 (by kernel_rfl) (by kernel_rfl) ?_
    simp only [evA, evT, Go.undef, aload, astore, afieldAddr, afield, aindex, aindexAddr, abuild, abuildSlice, amakeSlice, aslice, aext, alen, aminmax, minmaxGo, aappend, newsOf, buildCells, cutRows, reps, setCells, AV.cells, allOne, AV.one, Value.oneCell', AV.pure, allPure, AV.free, allFree, rowsFree, Nat.reduceBEq, Nat.reduceAdd, Nat.reduceMul, Nat.reduceSub, Nat.reduceLT, Nat.reduceLeDiff, Int.reduceToNat, reduceIte, reduceCtorEq, Int.reduceLT, Int.reduceLE, Nat.reduceEqDiff, Int.reduceEq, Int.reduceNeg, Int.reduceMul, Int.reduceAdd, Int.reduceSub, Int.reduceBNe, Int.reduceBEq, apart, bnd, e1, e2, e3]
    refine call_ok (wdiv.ok (25 * o - 21 * c) 46 (by omega) (by decide)) rfl ?_
    simp only [evA, evT, Go.undef, aload, astore, afieldAddr, afield, aindex, aindexAddr, abuild, abuildSlice, amakeSlice, aslice, aext, alen, aminmax, minmaxGo, aappend, newsOf, buildCells, cutRows, reps, setCells, AV.cells, allOne, AV.one, Value.oneCell', AV.pure, allPure, AV.free, allFree, rowsFree, Nat.reduceBEq, Nat.reduceAdd, Nat.reduceMul, Nat.reduceSub, Nat.reduceLT, Nat.reduceLeDiff, Int.reduceToNat, reduceIte, reduceCtorEq, Int.reduceLT, Int.reduceLE, Nat.reduceEqDiff, Int.reduceEq, Int.reduceNeg, Int.reduceMul, Int.reduceAdd, Int.reduceSub, Int.reduceBNe, Int.reduceBEq, apart, bnd]
    rfl
  · refine ⟨_, rfl, fun o c d ho hc hd => ?_⟩
    have e1 : IntKind.i64.wrap (21 * o) = 21 * o := wr (by omega)
    have e2 : IntKind.i64.wrap (25 * c) = 25 * c := wr (by omega)
    have e3 : IntKind.i64.wrap (21 * o - 25 * c) = 21 * o - 25 * c := wr (by omega)
    have e4 : IntKind.i64.wrap (4 * d) = 4 * d := wr (by omega)
    have e5 : IntKind.i64.wrap (21 * o - 25 * c + 4 * d) = 21 * o - 25 * c + 4 * d := wr (by omega)
    refine ok_of (X := fun _ => []) (Z := fun _ => false) (res := [ResultVar.tmp 6]) tok follows Try.func114 rfl rfl fine114 (by kernel_rfl) (by kernel_rfl) ?_
    simp only [evA, evT, Go.undef, aload, astore, afieldAddr, afield, aindex, aindexAddr, abuild, abuildSlice, amakeSlice, aslice, aext, alen, aminmax, minmaxGo, aappend, newsOf, buildCells, cutRows, reps, setCells, AV.cells, allOne, AV.one, Value.oneCell', AV.pure, allPure, AV.free, allFree, rowsFree, Nat.reduceBEq, Nat.reduceAdd, Nat.reduceMul, Nat.reduceSub, Nat.reduceLT, Nat.reduceLeDiff, Int.reduceToNat, reduceIte, reduceCtorEq, Int.reduceLT, Int.reduceLE, Nat.reduceEqDiff, Int.reduceEq, Int.reduceNeg, Int.reduceMul, Int.reduceAdd, Int.reduceSub, Int.reduceBNe, Int.reduceBEq, apart, bnd, e1, e2, e3, e4, e5]
    refine call_ok (wdiv.ok (21 * o - 25 * c + 4 * d) 50 (by omega) (by decide)) rfl ?_
    simp only [evA, evT, Go.undef, aload, astore, afieldAddr, afield, aindex, aindexAddr, abuild, abuildSlice, amakeSlice, aslice, aext, alen, aminmax, minmaxGo, aappend, newsOf, buildCells, cutRows, reps, setCells, AV.cells, allOne, AV.one, Value.oneCell', AV.pure, allPure, AV.free, allFree, rowsFree, Nat.reduceBEq, Nat.reduceAdd, Nat.reduceMul, Nat.reduceSub, Nat.reduceLT, Nat.reduceLeDiff, Int.reduceToNat, reduceIte, reduceCtorEq, Int.reduceLT, Int.reduceLE, Nat.reduceEqDiff, Int.reduceEq, Int.reduceNeg, Int.reduceMul, Int.reduceAdd, Int.reduceSub, Int.reduceBNe, Int.reduceBEq, apart, bnd]
    rfl
def wtV (kind : Int) (log : Nat) (bits : Int) (k : Nat) : Int := wg kind (2 ^ bits.toNat) (rW log k bits).1 (rW log (2 * k % 2 ^ log : Nat) bits).1
def winL (kind : Int) (log : Nat) (bits : Int) (i : Nat) : List Int := (List.range i).map (wtV kind log bits)
theorem winL_len {kind : Int} {log : Nat} {bits : Int} {i : Nat} : (winL kind log bits i).length = i := by simp [winL]
theorem winL_succ {kind : Int} {log : Nat} {bits : Int} {i : Nat} : winL kind log bits i ++ [wtV kind log bits i] = winL kind log bits (i + 1) := by
  unfold winL
  rw [List.range_succ, List.map_append]
  rfl
theorem pow40 {bits : Int} (hb : 0 ≤ bits ∧ bits ≤ 40) : 1 ≤ (2 : Int) ^ bits.toNat ∧ (2 : Int) ^ bits.toNat ≤ 1099511627776 := by
  have h1 : (2 : Int) ^ bits.toNat ≤ 2 ^ 40 := pow_le (by omega)
  have h2 := pow_pos bits.toNat
  omega
theorem WTable.ok (kind : Int) (log : Nat) (bits : Int) (hk : 0 ≤ kind ∧ kind ≤ 3) (hl : 2 ≤ log ∧ log ≤ 6) (hb : 0 ≤ bits ∧ bits ≤ 40) : Ok Try.prog 32 [.int kind, .int log, .int bits] (.tup [.sl 1 (intRows (winL kind log bits (2 ^ log))), .int 0]) := by
  obtain ⟨F, hF, hf⟩ := form.ok kind hk
  have hp := pow64 hl
  have hpo := pow40 hb
  have hbb : (0 : Int) ≤ bits := hb.1
  have hsh : IntKind.i64.wrap (1 * 2 ^ min bits.toNat IntKind.i64.bits) = 2 ^ bits.toNat := sh1 (by omega)
  obtain ⟨m, hm⟩ : ∃ m, 2 ^ log = m + 1 := ⟨2 ^ log - 1, by omega⟩
  refine ok_of (X := fun _ => []) (Z := fun r => Nat.beq r 1) (res := [ResultVar.tmp 6, ResultVar.tmp 7]) tok follows Try.func32 rfl rfl fine32 (by kernel_rfl) (by kernel_rfl) ?_
  simp only [evA, evB, evT, Go.undef, aload, astore, afieldAddr, afield, aindex, aindexAddr, abuild, abuildSlice, amakeSlice, aslice, aext, alen, aminmax, minmaxGo, aappend, newsOf, buildCells, cutRows, reps, setCells, AV.cells, allOne, AV.one, Value.oneCell', AV.pure, allPure, AV.free, allFree, rowsFree, Nat.reduceBEq, Nat.reduceAdd, Nat.reduceMul, Nat.reduceSub, Nat.reduceLT, Nat.reduceLeDiff, Int.reduceToNat, reduceIte, reduceCtorEq, Int.reduceLT, Int.reduceLE, Nat.reduceEqDiff, Int.reduceEq, Int.reduceNeg, Int.reduceMul, Int.reduceAdd, Int.reduceSub, Int.reduceBNe, Int.reduceBEq, apart, bnd]
  refine hand_of _ (tab_hand 0 kind _ _ _ rfl) ?_
  simp only [evA, evB, evT, Go.undef, aload, astore, afieldAddr, afield, aindex, aindexAddr, abuild, abuildSlice, amakeSlice, aslice, aext, alen, aminmax, minmaxGo, aappend, newsOf, buildCells, cutRows, reps, setCells, AV.cells, allOne, AV.one, Value.oneCell', AV.pure, allPure, AV.free, allFree, rowsFree, Nat.reduceBEq, Nat.reduceAdd, Nat.reduceMul, Nat.reduceSub, Nat.reduceLT, Nat.reduceLeDiff, Int.reduceToNat, reduceIte, reduceCtorEq, Int.reduceLT, Int.reduceLE, Nat.reduceEqDiff, Int.reduceEq, Int.reduceNeg, Int.reduceMul, Int.reduceAdd, Int.reduceSub, Int.reduceBNe, Int.reduceBEq, apart, bnd, hF, decide_eq_true hk]
  refine call_ok (Table.ok log bits hl hb) (by simp only [evA, evT, Go.undef, aload, astore, afieldAddr, afield, aindex, aindexAddr, abuild, abuildSlice, amakeSlice, aslice, aext, alen, aminmax, minmaxGo, aappend, newsOf, buildCells, cutRows, reps, setCells, AV.cells, allOne, AV.one, Value.oneCell', AV.pure, allPure, AV.free, allFree, rowsFree, Nat.reduceBEq, Nat.reduceAdd, Nat.reduceMul, Nat.reduceSub, Nat.reduceLT, Nat.reduceLeDiff, Int.reduceToNat, reduceIte, reduceCtorEq, Int.reduceLT, Int.reduceLE, Nat.reduceEqDiff, Int.reduceEq, Int.reduceNeg, Int.reduceMul, Int.reduceAdd, Int.reduceSub, Int.reduceBNe, Int.reduceBEq, apart, bnd, cx_free]) ?_
  simp only [evA, evB, evT, Go.undef, aload, astore, afieldAddr, afield, aindex, aindexAddr, abuild, abuildSlice, amakeSlice, aslice, aext, alen, aminmax, minmaxGo, aappend, newsOf, buildCells, cutRows, reps, setCells, AV.cells, allOne, AV.one, Value.oneCell', AV.pure, allPure, AV.free, allFree, rowsFree, Nat.reduceBEq, Nat.reduceAdd, Nat.reduceMul, Nat.reduceSub, Nat.reduceLT, Nat.reduceLeDiff, Int.reduceToNat, reduceIte, reduceCtorEq, Int.reduceLT, Int.reduceLE, Nat.reduceEqDiff, Int.reduceEq, Int.reduceNeg, Int.reduceMul, Int.reduceAdd, Int.reduceSub, Int.reduceBNe, Int.reduceBEq, apart, bnd, cx_free, cx_len, tab_len]
  refine l_inv (fun i => match i with
    | 0 => ⟨[(34, .int 0), (33, .int ((2 ^ log : Nat) : Int)), (12, .raw (.slice none 0 0)), (10, .sl 2 (cxRows (tabV log bits))), (8, .fn F []), (2, .int bits)], [], 0⟩
    | i + 1 => ⟨[(34, .int ((i + 1 : Nat) : Int)), (33, .int ((2 ^ log : Nat) : Int)), (12, .own 0), (10, .sl 2 (cxRows (tabV log bits))), (8, .fn F []), (2, .int bits)], [(0, some (.row 3 1 (intRows (winL kind log bits (i + 1)))))], 1⟩) (m + 1) ?_ (fun i hi' K hK => ?_) (fun K => ?_)
  · refine weak_of (fun l => l) rfl trivial ?_
    simp only [evA, evB, evT, Go.undef, aload, astore, afieldAddr, afield, aindex, aindexAddr, abuild, abuildSlice, amakeSlice, aslice, aext, alen, aminmax, minmaxGo, aappend, newsOf, buildCells, cutRows, reps, setCells, AV.cells, allOne, AV.one, Value.oneCell', AV.pure, allPure, AV.free, allFree, rowsFree, Nat.reduceBEq, Nat.reduceAdd, Nat.reduceMul, Nat.reduceSub, Nat.reduceLT, Nat.reduceLeDiff, Int.reduceToNat, reduceIte, reduceCtorEq, Int.reduceLT, Int.reduceLE, Nat.reduceEqDiff, Int.reduceEq, Int.reduceNeg, Int.reduceMul, Int.reduceAdd, Int.reduceSub, Int.reduceBNe, Int.reduceBEq, apart, bnd, cx_free]
  · have hi : i < 2 ^ log := by omega
    have hi2 : i < (tabV log bits).length := by rw [tab_len]; exact hi
    have hj : 2 * i % 2 ^ log < 2 ^ log := Nat.mod_lt _ (by omega)
    have hj2 : 2 * i % 2 ^ log < (tabV log bits).length := by rw [tab_len]; exact hj
    have e1 : IntKind.i64.wrap (2 * (i : Int)) = ((2 * i : Nat) : Int) := by rw [wr (by omega)]; omega
    have e2 : ((2 * i : Nat) : Int).tmod ((2 ^ log : Nat) : Int) = ((2 * i % 2 ^ log : Nat) : Int) := by rw [Int.tmod_eq_emod_of_nonneg (by omega), Int.natCast_emod]
    have e3 : ¬ ((2 ^ log : Nat) : Int) = 0 := by omega
    have q0 : (i : Int) < ((2 ^ log : Nat) : Int) := by omega
    have q1 : IntKind.i64.wrap ((i : Int) + 1) = ((i + 1 : Nat) : Int) := by rw [wr (by omega)]; omega
    have q2 : (0 : Int) ≤ (i : Int) := by omega
    have q3 : ((2 * i % 2 ^ log : Nat) : Int) < ((2 ^ log : Nat) : Int) := by omega
    have q4 : (0 : Int) ≤ ((2 * i % 2 ^ log : Nat) : Int) := by omega
    have w1 := rW_le log i bits hl.2 hb
    have w2 := rW_le log ((2 * i % 2 ^ log : Nat) : Int) bits hl.2 hb
    unfold win at w1 w2
    have hB : Ok Try.prog F [.int (2 ^ bits.toNat), .int (rW log i bits).1, .int (rW log ((2 * i % 2 ^ log : Nat) : Int) bits).1] (.int (wtV kind log bits i)) := hf _ _ _ (by omega) (by omega) (by omega)
    have hti : (winL kind log bits i).length = i := winL_len
    have hi1 : (i + 1) * 8 ≤ 140737488355328 := by omega
    have hi2' : i + 1 ≤ 9223372036854775807 := by omega
    cases i with
    | zero =>
      have hz : [[AV.int (wtV kind log bits 0)]] = intRows (winL kind log bits (0 + 1)) := rfl
      have q0' : (0 : Int) < ((2 ^ log : Nat) : Int) := q0
      have hi20 := cx_getD hi2
      have hj20 := cx_getD hj2
      rw [tab_get hi] at hi20
      rw [tab_get hj] at hj20
      simp only [Nat.mul_zero, Nat.zero_mod, Int.natCast_zero] at hi20 hj20 hB
      have z1 : IntKind.i64.wrap (2 * 0) = 0 := rfl
      have z2 : (0 : Int).tmod ((2 ^ log : Nat) : Int) = 0 := Int.zero_tmod _
      simp only [evA, evB, evT, Go.undef, aload, astore, afieldAddr, afield, aindex, aindexAddr, abuild, abuildSlice, amakeSlice, aslice, aext, alen, aminmax, minmaxGo, aappend, newsOf, buildCells, cutRows, reps, setCells, AV.cells, allOne, AV.one, Value.oneCell', AV.pure, allPure, AV.free, allFree, rowsFree, Nat.reduceBEq, Nat.reduceAdd, Nat.reduceMul, Nat.reduceSub, Nat.reduceLT, Nat.reduceLeDiff, Int.reduceToNat, reduceIte, reduceCtorEq, Int.reduceLT, Int.reduceLE, Nat.reduceEqDiff, Int.reduceEq, Int.reduceNeg, Int.reduceMul, Int.reduceAdd, Int.reduceSub, Int.reduceBNe, Int.reduceBEq, apart, bnd, q0', hbb, hsh, e3, z1, z2, cx_len, tab_len, Int.toNat_zero, hi20]
      refine call_ok hB rfl ?_
      simp only [evA, evB, evT, Go.undef, aload, astore, afieldAddr, afield, aindex, aindexAddr, abuild, abuildSlice, amakeSlice, aslice, aext, alen, aminmax, minmaxGo, aappend, newsOf, buildCells, cutRows, reps, setCells, AV.cells, allOne, AV.one, Value.oneCell', AV.pure, allPure, AV.free, allFree, rowsFree, Nat.reduceBEq, Nat.reduceAdd, Nat.reduceMul, Nat.reduceSub, Nat.reduceLT, Nat.reduceLeDiff, Int.reduceToNat, reduceIte, reduceCtorEq, Int.reduceLT, Int.reduceLE, Nat.reduceEqDiff, Int.reduceEq, Int.reduceNeg, Int.reduceMul, Int.reduceAdd, Int.reduceSub, Int.reduceBNe, Int.reduceBEq, apart, bnd]
      dsimp only at hK
      refine hK _ (weak_of (fun l => l + 1) rfl ?_ ?_)
      all_goals simp only [evA, evB, evT, Go.undef, aload, astore, afieldAddr, afield, aindex, aindexAddr, abuild, abuildSlice, amakeSlice, aslice, aext, alen, aminmax, minmaxGo, aappend, newsOf, buildCells, cutRows, reps, setCells, AV.cells, allOne, AV.one, Value.oneCell', AV.pure, allPure, AV.free, allFree, rowsFree, Nat.reduceBEq, Nat.reduceAdd, Nat.reduceMul, Nat.reduceSub, Nat.reduceLT, Nat.reduceLeDiff, Int.reduceToNat, reduceIte, reduceCtorEq, Int.reduceLT, Int.reduceLE, Nat.reduceEqDiff, Int.reduceEq, Int.reduceNeg, Int.reduceMul, Int.reduceAdd, Int.reduceSub, Int.reduceBNe, Int.reduceBEq, apart, bnd, cx_free, in_free, hz, Int.natCast_one]
      done
    | succ i =>
      simp only [evA, evB, evT, Go.undef, aload, astore, afieldAddr, afield, aindex, aindexAddr, abuild, abuildSlice, amakeSlice, aslice, aext, alen, aminmax, minmaxGo, aappend, newsOf, buildCells, cutRows, reps, setCells, AV.cells, allOne, AV.one, Value.oneCell', AV.pure, allPure, AV.free, allFree, rowsFree, Nat.reduceBEq, Nat.reduceAdd, Nat.reduceMul, Nat.reduceSub, Nat.reduceLT, Nat.reduceLeDiff, Int.reduceToNat, reduceIte, reduceCtorEq, Int.reduceLT, Int.reduceLE, Nat.reduceEqDiff, Int.reduceEq, Int.reduceNeg, Int.reduceMul, Int.reduceAdd, Int.reduceSub, Int.reduceBNe, Int.reduceBEq, apart, bnd, q0, q2, hbb, hsh, e1, e2, e3, q3, q4, cx_len, tab_len, Int.toNat_natCast, cx_getD hi2, cx_getD hj2, tab_get hi, tab_get hj]
      refine call_ok hB rfl ?_
      simp only [evA, evB, evT, Go.undef, aload, astore, afieldAddr, afield, aindex, aindexAddr, abuild, abuildSlice, amakeSlice, aslice, aext, alen, aminmax, minmaxGo, aappend, newsOf, buildCells, cutRows, reps, setCells, AV.cells, allOne, AV.one, Value.oneCell', AV.pure, allPure, AV.free, allFree, rowsFree, Nat.reduceBEq, Nat.reduceAdd, Nat.reduceMul, Nat.reduceSub, Nat.reduceLT, Nat.reduceLeDiff, Int.reduceToNat, reduceIte, reduceCtorEq, Int.reduceLT, Int.reduceLE, Nat.reduceEqDiff, Int.reduceEq, Int.reduceNeg, Int.reduceMul, Int.reduceAdd, Int.reduceSub, Int.reduceBNe, Int.reduceBEq, apart, bnd, in_len, hti, hi1, hi2', in_push, winL_succ, q1]
      dsimp only at hK
      refine hK _ (weak_of (fun l => l + 2) rfl ?_ ?_)
      all_goals simp only [evA, evB, evT, Go.undef, aload, astore, afieldAddr, afield, aindex, aindexAddr, abuild, abuildSlice, amakeSlice, aslice, aext, alen, aminmax, minmaxGo, aappend, newsOf, buildCells, cutRows, reps, setCells, AV.cells, allOne, AV.one, Value.oneCell', AV.pure, allPure, AV.free, allFree, rowsFree, Nat.reduceBEq, Nat.reduceAdd, Nat.reduceMul, Nat.reduceSub, Nat.reduceLT, Nat.reduceLeDiff, Int.reduceToNat, reduceIte, reduceCtorEq, Int.reduceLT, Int.reduceLE, Nat.reduceEqDiff, Int.reduceEq, Int.reduceNeg, Int.reduceMul, Int.reduceAdd, Int.reduceSub, Int.reduceBNe, Int.reduceBEq, apart, bnd, cx_free, in_free]
  · simp only [evA, evB, evT, Go.undef, aload, astore, afieldAddr, afield, aindex, aindexAddr, abuild, abuildSlice, amakeSlice, aslice, aext, alen, aminmax, minmaxGo, aappend, newsOf, buildCells, cutRows, reps, setCells, AV.cells, allOne, AV.one, Value.oneCell', AV.pure, allPure, AV.free, allFree, rowsFree, Nat.reduceBEq, Nat.reduceAdd, Nat.reduceMul, Nat.reduceSub, Nat.reduceLT, Nat.reduceLeDiff, Int.reduceToNat, reduceIte, reduceCtorEq, Int.reduceLT, Int.reduceLE, Nat.reduceEqDiff, Int.reduceEq, Int.reduceNeg, Int.reduceMul, Int.reduceAdd, Int.reduceSub, Int.reduceBNe, Int.reduceBEq, apart, bnd, hm, in_free]
end Go.Proofs.YtfmhdfaelgkmcaaV

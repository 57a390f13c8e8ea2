import Derived.Test.YtfmhdfaelgkmcaaVwD
import Derived.Test.YtfmhdfaelgkmcaaVwC
/- Contracts: numbers weighed. -/
namespace Go.Proofs.YtfmhdfaelgkmcaaV
open Go Go.RowKit
set_option linter.unusedVariables false
set_option linter.unusedSimpArgs false
set_option maxRecDepth 100000
set_option maxHeartbeats 40000000
theorem fine97 : Fine Try.prog 97 := fun _ _ => by kernel_rfl
theorem fine55 : Fine Try.prog 55 := fun _ _ => by kernel_rfl
theorem fine137 : Fine Try.prog 137 := fun _ _ => by kernel_rfl
theorem fine128 : Fine Try.prog 128 := fun _ _ => by kernel_rfl
theorem fine98 : Fine Try.prog 98 := fun _ _ => by kernel_rfl
theorem fine56 : Fine Try.prog 56 := fun _ _ => by kernel_rfl
theorem fine57 : Fine Try.prog 57 := fun _ _ => by kernel_rfl
theorem first_z {p : Int → Prop} [DecidablePred p] : ∀ (zs : List Int), ¬ (∀ z ∈ zs, ¬ p z) → ∃ (m : Nat) (hm : m < zs.length), p zs[m] ∧ ∀ i (hi : i < zs.length), i < m → ¬ p zs[i]
  | [], h => absurd (fun z hz => by cases hz) h
  | z :: r, h => by
    by_cases hz : p z
    · exact ⟨0, by simp, hz, fun i _ hi => by omega⟩
    · obtain ⟨m, hm, h1, h2⟩ := first_z r (fun g => h (fun y hy => by
        rcases List.mem_cons.1 hy with rfl | hy
        · exact hz
        · exact g y hy))
      refine ⟨m + 1, by simpa using hm, h1, fun i hi him => ?_⟩
      cases i with
      | zero => exact hz
      | succ i => exact h2 i (by simpa using hi) (by omega)
theorem iindex.yes (F : Nat) (caps : List AV) (p : Int → Prop) [DecidablePred p] (zs : List Int) (hl : zs.length ≤ 1000000000) (hc : ∀ lb, caps.map (snap lb 6) = caps) (hf : allFree caps = true) (h : ∀ z ∈ zs, Ok Try.prog F (.int z :: caps) (.bool (decide (p z)))) (hn : ¬ ∀ z ∈ zs, ¬ p z) :
    ∃ m : Nat, Ok Try.prog 127 [.sl 1 (intRows zs), .fn F caps] (.int m) := by
  obtain ⟨m, hm, hp, hlt⟩ := first_z zs hn
  refine ⟨m, ?_⟩
  refine ok_of (X := fun _ => []) (Z := fun _ => false) (res := [ResultVar.tmp 4]) tok follows Try.func127 rfl rfl fine127 (by kernel_rfl) (by kernel_rfl) ?_
  simp only [evA, evB, evT, Go.undef, aload, astore, afieldAddr, afield, aindex, aindexAddr, abuild, abuildSlice, amakeSlice, aslice, aext, alen, aminmax, minmaxGo, aappend, newsOf, buildCells, cutRows, reps, setCells, AV.cells, allOne, AV.one, Value.oneCell', AV.pure, allPure, AV.free, allFree, rowsFree, Nat.reduceBEq, Nat.reduceAdd, Nat.reduceMul, Nat.reduceSub, Nat.reduceLT, Nat.reduceLeDiff, Int.reduceToNat, reduceIte, reduceCtorEq, Int.reduceLT, Int.reduceLE, Nat.reduceEqDiff, Int.reduceEq, Int.reduceNeg, Int.reduceMul, Int.reduceAdd, Int.reduceSub, Int.reduceBNe, Int.reduceBEq, apart, bnd, in_len]
  refine l_inv (fun i => ⟨[(8, .int i), (7, .int zs.length), (0, .sl 1 (intRows zs)), (1, .fn F caps)], [], 0⟩) m ?_ (fun i hi K hK => ?_) (fun K => ?_)
  · refine weak_of (fun l => l) rfl trivial ?_
    simp only [evA, evB, evT, Go.undef, aload, astore, afieldAddr, afield, aindex, aindexAddr, abuild, abuildSlice, amakeSlice, aslice, aext, alen, aminmax, minmaxGo, aappend, newsOf, buildCells, cutRows, reps, setCells, AV.cells, allOne, AV.one, Value.oneCell', AV.pure, allPure, AV.free, allFree, rowsFree, Nat.reduceBEq, Nat.reduceAdd, Nat.reduceMul, Nat.reduceSub, Nat.reduceLT, Nat.reduceLeDiff, Int.reduceToNat, reduceIte, reduceCtorEq, Int.reduceLT, Int.reduceLE, Nat.reduceEqDiff, Int.reduceEq, Int.reduceNeg, Int.reduceMul, Int.reduceAdd, Int.reduceSub, Int.reduceBNe, Int.reduceBEq, apart, bnd, in_free, hf, Int.natCast_zero]
  · have hi' : i < zs.length := by omega
    have h1 : (i : Int) < zs.length := by omega
    have h2 : (0 : Int) ≤ i := by omega
    have h3 : IntKind.i64.wrap ((i : Int) + 1) = i + 1 := wr (by omega)
    simp only [evA, evB, evT, Go.undef, aload, astore, afieldAddr, afield, aindex, aindexAddr, abuild, abuildSlice, amakeSlice, aslice, aext, alen, aminmax, minmaxGo, aappend, newsOf, buildCells, cutRows, reps, setCells, AV.cells, allOne, AV.one, Value.oneCell', AV.pure, allPure, AV.free, allFree, rowsFree, Nat.reduceBEq, Nat.reduceAdd, Nat.reduceMul, Nat.reduceSub, Nat.reduceLT, Nat.reduceLeDiff, Int.reduceToNat, reduceIte, reduceCtorEq, Int.reduceLT, Int.reduceLE, Nat.reduceEqDiff, Int.reduceEq, Int.reduceNeg, Int.reduceMul, Int.reduceAdd, Int.reduceSub, Int.reduceBNe, Int.reduceBEq, apart, bnd, h1, h2, h3, in_len, Int.toNat_natCast, in_get hi', hc]
    refine call_ok (h zs[i] (List.getElem_mem hi')) rfl ?_
    simp only [evA, evB, evT, Go.undef, aload, astore, afieldAddr, afield, aindex, aindexAddr, abuild, abuildSlice, amakeSlice, aslice, aext, alen, aminmax, minmaxGo, aappend, newsOf, buildCells, cutRows, reps, setCells, AV.cells, allOne, AV.one, Value.oneCell', AV.pure, allPure, AV.free, allFree, rowsFree, Nat.reduceBEq, Nat.reduceAdd, Nat.reduceMul, Nat.reduceSub, Nat.reduceLT, Nat.reduceLeDiff, Int.reduceToNat, reduceIte, reduceCtorEq, Int.reduceLT, Int.reduceLE, Nat.reduceEqDiff, Int.reduceEq, Int.reduceNeg, Int.reduceMul, Int.reduceAdd, Int.reduceSub, Int.reduceBNe, Int.reduceBEq, apart, bnd, h3, decide_eq_false (hlt i hi' hi)]
    refine hK _ (weak_of (fun l => l) rfl trivial ?_)
    simp only [evA, evB, evT, Go.undef, aload, astore, afieldAddr, afield, aindex, aindexAddr, abuild, abuildSlice, amakeSlice, aslice, aext, alen, aminmax, minmaxGo, aappend, newsOf, buildCells, cutRows, reps, setCells, AV.cells, allOne, AV.one, Value.oneCell', AV.pure, allPure, AV.free, allFree, rowsFree, Nat.reduceBEq, Nat.reduceAdd, Nat.reduceMul, Nat.reduceSub, Nat.reduceLT, Nat.reduceLeDiff, Int.reduceToNat, reduceIte, reduceCtorEq, Int.reduceLT, Int.reduceLE, Nat.reduceEqDiff, Int.reduceEq, Int.reduceNeg, Int.reduceMul, Int.reduceAdd, Int.reduceSub, Int.reduceBNe, Int.reduceBEq, apart, bnd, in_free, hf, Int.natCast_add, Int.natCast_one]
  · have h1 : (m : Int) < zs.length := by omega
    have h2 : (0 : Int) ≤ m := by omega
    simp only [evA, evB, evT, Go.undef, aload, astore, afieldAddr, afield, aindex, aindexAddr, abuild, abuildSlice, amakeSlice, aslice, aext, alen, aminmax, minmaxGo, aappend, newsOf, buildCells, cutRows, reps, setCells, AV.cells, allOne, AV.one, Value.oneCell', AV.pure, allPure, AV.free, allFree, rowsFree, Nat.reduceBEq, Nat.reduceAdd, Nat.reduceMul, Nat.reduceSub, Nat.reduceLT, Nat.reduceLeDiff, Int.reduceToNat, reduceIte, reduceCtorEq, Int.reduceLT, Int.reduceLE, Nat.reduceEqDiff, Int.reduceEq, Int.reduceNeg, Int.reduceMul, Int.reduceAdd, Int.reduceSub, Int.reduceBNe, Int.reduceBEq, apart, bnd, h1, h2, in_len, Int.toNat_natCast, in_get hm, hc]
    refine call_ok (h zs[m] (List.getElem_mem hm)) rfl ?_
    simp only [evA, evB, evT, Go.undef, aload, astore, afieldAddr, afield, aindex, aindexAddr, abuild, abuildSlice, amakeSlice, aslice, aext, alen, aminmax, minmaxGo, aappend, newsOf, buildCells, cutRows, reps, setCells, AV.cells, allOne, AV.one, Value.oneCell', AV.pure, allPure, AV.free, allFree, rowsFree, Nat.reduceBEq, Nat.reduceAdd, Nat.reduceMul, Nat.reduceSub, Nat.reduceLT, Nat.reduceLeDiff, Int.reduceToNat, reduceIte, reduceCtorEq, Int.reduceLT, Int.reduceLE, Nat.reduceEqDiff, Int.reduceEq, Int.reduceNeg, Int.reduceMul, Int.reduceAdd, Int.reduceSub, Int.reduceBNe, Int.reduceBEq, apart, bnd, decide_eq_true hp]
theorem icontains.yes (F : Nat) (caps : List AV) (p : Int → Prop) [DecidablePred p] (zs : List Int) (hl : zs.length ≤ 1000000000) (hc : ∀ lb, caps.map (snap lb 6) = caps) (hc5 : ∀ lb, caps.map (snap lb 5) = caps) (hf : allFree caps = true) (h : ∀ z ∈ zs, Ok Try.prog F (.int z :: caps) (.bool (decide (p z)))) (hn : ¬ ∀ z ∈ zs, ¬ p z) :
    Ok Try.prog 96 [.sl 1 (intRows zs), .fn F caps] (.bool true) := by
  obtain ⟨m, hm⟩ := iindex.yes F caps p zs hl hc hf h hn
  have h0 : (0 : Int) ≤ m := by omega
  refine ok_of (X := fun _ => []) (Z := fun _ => false) (res := [ResultVar.tmp 4]) tok follows Try.func96 rfl rfl fine96 (by kernel_rfl) (by kernel_rfl) ?_
  simp only [evA, evB, evT, Go.undef, aload, astore, afieldAddr, afield, aindex, aindexAddr, abuild, abuildSlice, amakeSlice, aslice, aext, alen, aminmax, minmaxGo, aappend, newsOf, buildCells, cutRows, reps, setCells, AV.cells, allOne, AV.one, Value.oneCell', AV.pure, allPure, AV.free, allFree, rowsFree, Nat.reduceBEq, Nat.reduceAdd, Nat.reduceMul, Nat.reduceSub, Nat.reduceLT, Nat.reduceLeDiff, Int.reduceToNat, reduceIte, reduceCtorEq, Int.reduceLT, Int.reduceLE, Nat.reduceEqDiff, Int.reduceEq, Int.reduceNeg, Int.reduceMul, Int.reduceAdd, Int.reduceSub, Int.reduceBNe, Int.reduceBEq, apart, bnd, in_free]
  simp only [hc5]
  refine call_ok hm rfl ?_
  simp only [evA, evB, evT, Go.undef, aload, astore, afieldAddr, afield, aindex, aindexAddr, abuild, abuildSlice, amakeSlice, aslice, aext, alen, aminmax, minmaxGo, aappend, newsOf, buildCells, cutRows, reps, setCells, AV.cells, allOne, AV.one, Value.oneCell', AV.pure, allPure, AV.free, allFree, rowsFree, Nat.reduceBEq, Nat.reduceAdd, Nat.reduceMul, Nat.reduceSub, Nat.reduceLT, Nat.reduceLeDiff, Int.reduceToNat, reduceIte, reduceCtorEq, Int.reduceLT, Int.reduceLE, Nat.reduceEqDiff, Int.reduceEq, Int.reduceNeg, Int.reduceMul, Int.reduceAdd, Int.reduceSub, Int.reduceBNe, Int.reduceBEq, apart, bnd, h0]
def far (f z : Int) : Prop := ¬ (-fM f ≤ z ∧ z < fM f)
instance (f z : Int) : Decidable (far f z) := by unfold far; infer_instance
theorem Apply1.ok (z f : Int) (hf : fmt f) : Ok Try.prog 97 [.int z, .box [.int (fB f)] 0] (.bool (decide (far f z))) := by
  refine ok_of (X := fun _ => []) (Z := fun _ => false) (res := [ResultVar.tmp 3]) tok follows Try.func97 rfl rfl fine97 (by kernel_rfl) (by kernel_rfl) ?_
  rcases hf with rfl | rfl
  · by_cases h1 : z < -32768
    · have : far 0 z := by unfold far fM; simp; omega
      simp only [evA, evT, Go.undef, aload, astore, afieldAddr, afield, aindex, aindexAddr, abuild, abuildSlice, amakeSlice, aslice, aext, alen, aminmax, minmaxGo, aappend, newsOf, buildCells, cutRows, reps, setCells, AV.cells, allOne, AV.one, Value.oneCell', AV.pure, allPure, AV.free, allFree, rowsFree, Nat.reduceBEq, Nat.reduceAdd, Nat.reduceMul, Nat.reduceSub, Nat.reduceLT, Nat.reduceLeDiff, Int.reduceToNat, reduceIte, reduceCtorEq, Int.reduceLT, Int.reduceLE, Nat.reduceEqDiff, Int.reduceEq, Int.reduceNeg, Int.reduceMul, Int.reduceAdd, Int.reduceSub, Int.reduceBNe, Int.reduceBEq, apart, bnd, fB, sn15, sp15, h1, this]
    · by_cases h2 : 32768 ≤ z
      · have : far 0 z := by unfold far fM; simp; omega
        simp only [evA, evT, Go.undef, aload, astore, afieldAddr, afield, aindex, aindexAddr, abuild, abuildSlice, amakeSlice, aslice, aext, alen, aminmax, minmaxGo, aappend, newsOf, buildCells, cutRows, reps, setCells, AV.cells, allOne, AV.one, Value.oneCell', AV.pure, allPure, AV.free, allFree, rowsFree, Nat.reduceBEq, Nat.reduceAdd, Nat.reduceMul, Nat.reduceSub, Nat.reduceLT, Nat.reduceLeDiff, Int.reduceToNat, reduceIte, reduceCtorEq, Int.reduceLT, Int.reduceLE, Nat.reduceEqDiff, Int.reduceEq, Int.reduceNeg, Int.reduceMul, Int.reduceAdd, Int.reduceSub, Int.reduceBNe, Int.reduceBEq, apart, bnd, fB, sn15, sp15, h1, h2, this]
      · have : ¬ far 0 z := by unfold far fM; simp; omega
        simp only [evA, evT, Go.undef, aload, astore, afieldAddr, afield, aindex, aindexAddr, abuild, abuildSlice, amakeSlice, aslice, aext, alen, aminmax, minmaxGo, aappend, newsOf, buildCells, cutRows, reps, setCells, AV.cells, allOne, AV.one, Value.oneCell', AV.pure, allPure, AV.free, allFree, rowsFree, Nat.reduceBEq, Nat.reduceAdd, Nat.reduceMul, Nat.reduceSub, Nat.reduceLT, Nat.reduceLeDiff, Int.reduceToNat, reduceIte, reduceCtorEq, Int.reduceLT, Int.reduceLE, Nat.reduceEqDiff, Int.reduceEq, Int.reduceNeg, Int.reduceMul, Int.reduceAdd, Int.reduceSub, Int.reduceBNe, Int.reduceBEq, apart, bnd, fB, sn15, sp15, h1, h2, this]
  · by_cases h1 : z < -2147483648
    · have : far 1 z := by unfold far fM; simp; omega
      simp only [evA, evT, Go.undef, aload, astore, afieldAddr, afield, aindex, aindexAddr, abuild, abuildSlice, amakeSlice, aslice, aext, alen, aminmax, minmaxGo, aappend, newsOf, buildCells, cutRows, reps, setCells, AV.cells, allOne, AV.one, Value.oneCell', AV.pure, allPure, AV.free, allFree, rowsFree, Nat.reduceBEq, Nat.reduceAdd, Nat.reduceMul, Nat.reduceSub, Nat.reduceLT, Nat.reduceLeDiff, Int.reduceToNat, reduceIte, reduceCtorEq, Int.reduceLT, Int.reduceLE, Nat.reduceEqDiff, Int.reduceEq, Int.reduceNeg, Int.reduceMul, Int.reduceAdd, Int.reduceSub, Int.reduceBNe, Int.reduceBEq, apart, bnd, fB, sn31, sp31, h1, this]
    · by_cases h2 : 2147483648 ≤ z
      · have : far 1 z := by unfold far fM; simp; omega
        simp only [evA, evT, Go.undef, aload, astore, afieldAddr, afield, aindex, aindexAddr, abuild, abuildSlice, amakeSlice, aslice, aext, alen, aminmax, minmaxGo, aappend, newsOf, buildCells, cutRows, reps, setCells, AV.cells, allOne, AV.one, Value.oneCell', AV.pure, allPure, AV.free, allFree, rowsFree, Nat.reduceBEq, Nat.reduceAdd, Nat.reduceMul, Nat.reduceSub, Nat.reduceLT, Nat.reduceLeDiff, Int.reduceToNat, reduceIte, reduceCtorEq, Int.reduceLT, Int.reduceLE, Nat.reduceEqDiff, Int.reduceEq, Int.reduceNeg, Int.reduceMul, Int.reduceAdd, Int.reduceSub, Int.reduceBNe, Int.reduceBEq, apart, bnd, fB, sn31, sp31, h1, h2, this]
      · have : ¬ far 1 z := by unfold far fM; simp; omega
        simp only [evA, evT, Go.undef, aload, astore, afieldAddr, afield, aindex, aindexAddr, abuild, abuildSlice, amakeSlice, aslice, aext, alen, aminmax, minmaxGo, aappend, newsOf, buildCells, cutRows, reps, setCells, AV.cells, allOne, AV.one, Value.oneCell', AV.pure, allPure, AV.free, allFree, rowsFree, Nat.reduceBEq, Nat.reduceAdd, Nat.reduceMul, Nat.reduceSub, Nat.reduceLT, Nat.reduceLeDiff, Int.reduceToNat, reduceIte, reduceCtorEq, Int.reduceLT, Int.reduceLE, Nat.reduceEqDiff, Int.reduceEq, Int.reduceNeg, Int.reduceMul, Int.reduceAdd, Int.reduceSub, Int.reduceBNe, Int.reduceBEq, apart, bnd, fB, sn31, sp31, h1, h2, this]
/-- Why numbers may not be weighed. -/
def whyW (zs : List Int) (kind f mode : Int) : Int := if ¬ lens zs.length then 3 else if ¬ ((0 ≤ kind ∧ kind ≤ 3) ∧ fmt f ∧ 0 ≤ mode ∧ mode ≤ 2) then 1 else if ¬ (∀ z ∈ zs, ¬ far f z) then 2 else 0
/-- Numbers weighed. -/
def apV (zs : List Int) (kind f mode : Int) (log i : Nat) : List Int := (List.range i).map fun k => rsh (zs.getD k 0 * wtV kind log (fB f - 2) k) (fB f - 2) mode
theorem apV_len {zs : List Int} {kind f mode : Int} {log i : Nat} : (apV zs kind f mode log i).length = i := by simp [apV]
theorem apV_succ {zs : List Int} {kind f mode : Int} {log i : Nat} : apV zs kind f mode log i ++ [rsh (zs.getD i 0 * wtV kind log (fB f - 2) i) (fB f - 2) mode] = apV zs kind f mode log (i + 1) := by
  unfold apV
  rw [List.range_succ, List.map_append]
  rfl
structure Weighed (zs : List Int) (kind f mode : Int) (log : Nat) : Prop where
  hl : 2 ≤ log ∧ log ≤ 6
  len : zs.length = 2 ^ log
  lens : lens zs.length
  lg : lg zs.length = log
  hk : 0 ≤ kind ∧ kind ≤ 3
  hf : fmt f
  hm : 0 ≤ mode ∧ mode ≤ 2
  hz : ∀ z ∈ zs, ¬ far f z
theorem why_or_w (zs : List Int) (kind f mode : Int) : (whyW zs kind f mode = 0 ∧ ∃ log, Weighed zs kind f mode log) ∨ (whyW zs kind f mode = 3 ∧ ¬ lens zs.length) ∨ (whyW zs kind f mode = 1 ∧ lens zs.length ∧ ¬ ((0 ≤ kind ∧ kind ≤ 3) ∧ fmt f ∧ 0 ≤ mode ∧ mode ≤ 2)) ∨ (whyW zs kind f mode = 2 ∧ lens zs.length ∧ ((0 ≤ kind ∧ kind ≤ 3) ∧ fmt f ∧ 0 ≤ mode ∧ mode ≤ 2) ∧ ¬ (∀ z ∈ zs, ¬ far f z)) := by
  unfold whyW
  by_cases h : lens zs.length
  · rw [if_neg (fun g => g h)]
    by_cases g : (0 ≤ kind ∧ kind ≤ 3) ∧ fmt f ∧ 0 ≤ mode ∧ mode ≤ 2
    · rw [if_neg (fun k => k g)]
      by_cases k : ∀ z ∈ zs, ¬ far f z
      · rw [if_neg (fun q => q k)]
        obtain ⟨log, h1, h2, h3⟩ := lens_log h
        exact .inl ⟨rfl, log, h1, h2, h, h3, g.1, g.2.1, g.2.2, k⟩
      · rw [if_pos k]
        exact .inr (.inr (.inr ⟨rfl, h, g, k⟩))
    · rw [if_pos g]
      exact .inr (.inr (.inl ⟨rfl, h, g⟩))
  · rw [if_pos h]
    exact .inr (.inl ⟨rfl, h⟩)
theorem wt_bd {kind : Int} {log : Nat} {f : Int} {k : Nat} (hl : log ≤ 6) (hf : fmt f) : 0 ≤ wtV kind log (fB f - 2) k ∧ wtV kind log (fB f - 2) k ≤ 2 ^ (fB f - 2).toNat ∧ (2 : Int) ^ (fB f - 2).toNat ≤ 536870912 := by
  have hB : fB f = 15 ∨ fB f = 31 := by unfold fB; split <;> omega
  have := wt_in kind log (fB f - 2) k hl (by omega)
  refine ⟨this.1, this.2, ?_⟩
  rcases hB with e | e <;> rw [e] <;> decide
theorem ap_bd {zs : List Int} {kind f : Int} {log i : Nat} (hl : log ≤ 6) (hf : fmt f) (hz : ∀ z ∈ zs, ¬ far f z) (hi : i < zs.length) : -1152921504606846976 ≤ zs.getD i 0 * wtV kind log (fB f - 2) i ∧ zs.getD i 0 * wtV kind log (fB f - 2) i ≤ 1152921504606846976 := by
  have h1 := wt_bd (kind := kind) (k := i) hl hf
  have h2 : -2147483648 ≤ zs.getD i 0 ∧ zs.getD i 0 ≤ 2147483648 := by
    have := hz _ (List.getElem_mem hi)
    rw [getD_at hi]
    have h3 := fM_pos hf
    unfold far at this
    omega
  exact mul_abs h2 (show -536870912 ≤ _ ∧ _ ≤ (536870912 : Int) by omega)
theorem Apply.ok (zs : List Int) (kind f mode : Int) (log : Nat) (h : Weighed zs kind f mode log) : Ok Try.prog 55 [.sl 1 (intRows zs), .int kind, .int f, .int mode] (.tup [.sl 1 (intRows (apV zs kind f mode log zs.length)), .int 0]) := by
  obtain ⟨hl, len, hlens, hlg, hk, hf, hm, hz⟩ := h
  have hp := pow64 hl
  have hL := Log.ok zs.length hlens
  rw [hlg] at hL
  have hB : fB f = 15 ∨ fB f = 31 := by unfold fB; split <;> omega
  have e1 : IntKind.i64.wrap (fB f - 2) = fB f - 2 := wr (by omega)
  have e2 : ¬ fB f - 2 < 0 := by omega
  have hC := icontains.no 97 [.box [.int (fB f)] 0] (far f) zs (by omega) (fun _ => rfl) (fun _ => rfl) rfl (fun z _ => Apply1.ok z f hf) hz
  have g1 : (0 : Int) ≤ zs.length := by omega
  have g2 : 8 * (zs.length : Int) ≤ 281474976710656 := by omega
  have g3 : (zs.length : Int) ≤ 9223372036854775807 := by omega
  refine ok_of (X := fun _ => []) (Z := fun _ => false) (res := [ResultVar.tmp 8, ResultVar.tmp 9]) tok follows Try.func55 rfl rfl fine55 (by kernel_rfl) (by kernel_rfl) ?_
  simp only [evA, evB, evT, Go.undef, aload, astore, afieldAddr, afield, aindex, aindexAddr, abuild, abuildSlice, amakeSlice, aslice, aext, alen, aminmax, minmaxGo, aappend, newsOf, buildCells, cutRows, reps, setCells, AV.cells, allOne, AV.one, Value.oneCell', AV.pure, allPure, AV.free, allFree, rowsFree, Nat.reduceBEq, Nat.reduceAdd, Nat.reduceMul, Nat.reduceSub, Nat.reduceLT, Nat.reduceLeDiff, Int.reduceToNat, reduceIte, reduceCtorEq, Int.reduceLT, Int.reduceLE, Nat.reduceEqDiff, Int.reduceEq, Int.reduceNeg, Int.reduceMul, Int.reduceAdd, Int.reduceSub, Int.reduceBNe, Int.reduceBEq, apart, bnd, in_len]
  refine call_ok hL rfl ?_
  simp only [evA, evB, evT, Go.undef, aload, astore, afieldAddr, afield, aindex, aindexAddr, abuild, abuildSlice, amakeSlice, aslice, aext, alen, aminmax, minmaxGo, aappend, newsOf, buildCells, cutRows, reps, setCells, AV.cells, allOne, AV.one, Value.oneCell', AV.pure, allPure, AV.free, allFree, rowsFree, Nat.reduceBEq, Nat.reduceAdd, Nat.reduceMul, Nat.reduceSub, Nat.reduceLT, Nat.reduceLeDiff, Int.reduceToNat, reduceIte, reduceCtorEq, Int.reduceLT, Int.reduceLE, Nat.reduceEqDiff, Int.reduceEq, Int.reduceNeg, Int.reduceMul, Int.reduceAdd, Int.reduceSub, Int.reduceBNe, Int.reduceBEq, apart, bnd]
  refine call_ok (Bits.ok f hf) rfl ?_
  simp only [evA, evB, evT, Go.undef, aload, astore, afieldAddr, afield, aindex, aindexAddr, abuild, abuildSlice, amakeSlice, aslice, aext, alen, aminmax, minmaxGo, aappend, newsOf, buildCells, cutRows, reps, setCells, AV.cells, allOne, AV.one, Value.oneCell', AV.pure, allPure, AV.free, allFree, rowsFree, Nat.reduceBEq, Nat.reduceAdd, Nat.reduceMul, Nat.reduceSub, Nat.reduceLT, Nat.reduceLeDiff, Int.reduceToNat, reduceIte, reduceCtorEq, Int.reduceLT, Int.reduceLE, Nat.reduceEqDiff, Int.reduceEq, Int.reduceNeg, Int.reduceMul, Int.reduceAdd, Int.reduceSub, Int.reduceBNe, Int.reduceBEq, apart, bnd]
  refine call_ok (Shift.ok 0 0 mode (by decide) hm (by decide)) rfl ?_
  simp only [evA, evB, evT, Go.undef, aload, astore, afieldAddr, afield, aindex, aindexAddr, abuild, abuildSlice, amakeSlice, aslice, aext, alen, aminmax, minmaxGo, aappend, newsOf, buildCells, cutRows, reps, setCells, AV.cells, allOne, AV.one, Value.oneCell', AV.pure, allPure, AV.free, allFree, rowsFree, Nat.reduceBEq, Nat.reduceAdd, Nat.reduceMul, Nat.reduceSub, Nat.reduceLT, Nat.reduceLeDiff, Int.reduceToNat, reduceIte, reduceCtorEq, Int.reduceLT, Int.reduceLE, Nat.reduceEqDiff, Int.reduceEq, Int.reduceNeg, Int.reduceMul, Int.reduceAdd, Int.reduceSub, Int.reduceBNe, Int.reduceBEq, apart, bnd, e1, e2]
  refine call_ok (WTable.ok kind log (fB f - 2) hk hl (by omega)) (by simp only [evA, evT, Go.undef, aload, astore, afieldAddr, afield, aindex, aindexAddr, abuild, abuildSlice, amakeSlice, aslice, aext, alen, aminmax, minmaxGo, aappend, newsOf, buildCells, cutRows, reps, setCells, AV.cells, allOne, AV.one, Value.oneCell', AV.pure, allPure, AV.free, allFree, rowsFree, Nat.reduceBEq, Nat.reduceAdd, Nat.reduceMul, Nat.reduceSub, Nat.reduceLT, Nat.reduceLeDiff, Int.reduceToNat, reduceIte, reduceCtorEq, Int.reduceLT, Int.reduceLE, Nat.reduceEqDiff, Int.reduceEq, Int.reduceNeg, Int.reduceMul, Int.reduceAdd, Int.reduceSub, Int.reduceBNe, Int.reduceBEq, apart, bnd, in_free]) ?_
  simp only [evA, evB, evT, Go.undef, aload, astore, afieldAddr, afield, aindex, aindexAddr, abuild, abuildSlice, amakeSlice, aslice, aext, alen, aminmax, minmaxGo, aappend, newsOf, buildCells, cutRows, reps, setCells, AV.cells, allOne, AV.one, Value.oneCell', AV.pure, allPure, AV.free, allFree, rowsFree, Nat.reduceBEq, Nat.reduceAdd, Nat.reduceMul, Nat.reduceSub, Nat.reduceLT, Nat.reduceLeDiff, Int.reduceToNat, reduceIte, reduceCtorEq, Int.reduceLT, Int.reduceLE, Nat.reduceEqDiff, Int.reduceEq, Int.reduceNeg, Int.reduceMul, Int.reduceAdd, Int.reduceSub, Int.reduceBNe, Int.reduceBEq, apart, bnd, in_free]
  refine call_ok hC rfl ?_
  simp only [evA, evB, evT, Go.undef, aload, astore, afieldAddr, afield, aindex, aindexAddr, abuild, abuildSlice, amakeSlice, aslice, aext, alen, aminmax, minmaxGo, aappend, newsOf, buildCells, cutRows, reps, setCells, AV.cells, allOne, AV.one, Value.oneCell', AV.pure, allPure, AV.free, allFree, rowsFree, Nat.reduceBEq, Nat.reduceAdd, Nat.reduceMul, Nat.reduceSub, Nat.reduceLT, Nat.reduceLeDiff, Int.reduceToNat, reduceIte, reduceCtorEq, Int.reduceLT, Int.reduceLE, Nat.reduceEqDiff, Int.reduceEq, Int.reduceNeg, Int.reduceMul, Int.reduceAdd, Int.reduceSub, Int.reduceBNe, Int.reduceBEq, apart, bnd, in_len, in_free, g1, g2, g3]
  refine l_inv (fun i => ⟨[(70, .int i), (69, .int zs.length), (68, .sl 1 (intRows zs)), (17, .own 1), (15, .sl 1 (intRows (winL kind log (fB f - 2) (2 ^ log)))), (12, .loc 0 0), (3, .int mode)], [(1, some (.row 3 1 (intRows (apV zs kind f mode log i)))), (0, some (.box [.int (fB f)]))], 2⟩) zs.length ?_ (fun i hi K hK => ?_) (fun K => ?_)
  · refine weak_of (fun l => l) rfl ?_ ?_
    all_goals simp only [evA, evB, evT, Go.undef, aload, astore, afieldAddr, afield, aindex, aindexAddr, abuild, abuildSlice, amakeSlice, aslice, aext, alen, aminmax, minmaxGo, aappend, newsOf, buildCells, cutRows, reps, setCells, AV.cells, allOne, AV.one, Value.oneCell', AV.pure, allPure, AV.free, allFree, rowsFree, Nat.reduceBEq, Nat.reduceAdd, Nat.reduceMul, Nat.reduceSub, Nat.reduceLT, Nat.reduceLeDiff, Int.reduceToNat, reduceIte, reduceCtorEq, Int.reduceLT, Int.reduceLE, Nat.reduceEqDiff, Int.reduceEq, Int.reduceNeg, Int.reduceMul, Int.reduceAdd, Int.reduceSub, Int.reduceBNe, Int.reduceBEq, apart, bnd, in_free, Int.natCast_zero]
    exact .inl rfl
  · have q0 : (i : Int) < zs.length := by omega
    have q1 : IntKind.i64.wrap ((i : Int) + 1) = ((i + 1 : Nat) : Int) := by rw [wr (by omega)]; omega
    have q2 : (0 : Int) ≤ (i : Int) := by omega
    have hwi : i < (winL kind log (fB f - 2) (2 ^ log)).length := by rw [winL_len]; omega
    have q3 : (i : Int) < ((2 ^ log : Nat) : Int) := by omega
    have hwv := in_getD hwi
    rw [winL_get (by omega)] at hwv
    have hb := ap_bd (kind := kind) (i := i) hl.2 hf hz hi
    have e3 : IntKind.i64.wrap (zs.getD i 0 * wtV kind log (fB f - 2) i) = zs.getD i 0 * wtV kind log (fB f - 2) i := wr (by omega)
    have hti : (apV zs kind f mode log i).length = i := apV_len
    have hi1 : (i + 1) * 8 ≤ 140737488355328 := by omega
    have hi2 : i + 1 ≤ 9223372036854775807 := by omega
    simp only [evA, evB, evT, Go.undef, aload, astore, afieldAddr, afield, aindex, aindexAddr, abuild, abuildSlice, amakeSlice, aslice, aext, alen, aminmax, minmaxGo, aappend, newsOf, buildCells, cutRows, reps, setCells, AV.cells, allOne, AV.one, Value.oneCell', AV.pure, allPure, AV.free, allFree, rowsFree, Nat.reduceBEq, Nat.reduceAdd, Nat.reduceMul, Nat.reduceSub, Nat.reduceLT, Nat.reduceLeDiff, Int.reduceToNat, reduceIte, reduceCtorEq, Int.reduceLT, Int.reduceLE, Nat.reduceEqDiff, Int.reduceEq, Int.reduceNeg, Int.reduceMul, Int.reduceAdd, Int.reduceSub, Int.reduceBNe, Int.reduceBEq, apart, bnd, q0, q2, q3, in_len, winL_len, Int.toNat_natCast, in_getD hi, hwv, e1, e3]
    refine call_ok (Shift.ok _ (fB f - 2) mode (by omega) hm (by omega)) rfl ?_
    simp only [evA, evB, evT, Go.undef, aload, astore, afieldAddr, afield, aindex, aindexAddr, abuild, abuildSlice, amakeSlice, aslice, aext, alen, aminmax, minmaxGo, aappend, newsOf, buildCells, cutRows, reps, setCells, AV.cells, allOne, AV.one, Value.oneCell', AV.pure, allPure, AV.free, allFree, rowsFree, Nat.reduceBEq, Nat.reduceAdd, Nat.reduceMul, Nat.reduceSub, Nat.reduceLT, Nat.reduceLeDiff, Int.reduceToNat, reduceIte, reduceCtorEq, Int.reduceLT, Int.reduceLE, Nat.reduceEqDiff, Int.reduceEq, Int.reduceNeg, Int.reduceMul, Int.reduceAdd, Int.reduceSub, Int.reduceBNe, Int.reduceBEq, apart, bnd, in_len, hti, hi1, hi2, in_push, apV_succ, q1]
    refine hK _ (weak_of (fun l => if l = 1 then 3 else l) rfl ?_ ?_)
    all_goals simp only [evA, evB, evT, Go.undef, aload, astore, afieldAddr, afield, aindex, aindexAddr, abuild, abuildSlice, amakeSlice, aslice, aext, alen, aminmax, minmaxGo, aappend, newsOf, buildCells, cutRows, reps, setCells, AV.cells, allOne, AV.one, Value.oneCell', AV.pure, allPure, AV.free, allFree, rowsFree, Nat.reduceBEq, Nat.reduceAdd, Nat.reduceMul, Nat.reduceSub, Nat.reduceLT, Nat.reduceLeDiff, Int.reduceToNat, reduceIte, reduceCtorEq, Int.reduceLT, Int.reduceLE, Nat.reduceEqDiff, Int.reduceEq, Int.reduceNeg, Int.reduceMul, Int.reduceAdd, Int.reduceSub, Int.reduceBNe, Int.reduceBEq, apart, bnd, in_free]
    done
  · simp only [evA, evB, evT, Go.undef, aload, astore, afieldAddr, afield, aindex, aindexAddr, abuild, abuildSlice, amakeSlice, aslice, aext, alen, aminmax, minmaxGo, aappend, newsOf, buildCells, cutRows, reps, setCells, AV.cells, allOne, AV.one, Value.oneCell', AV.pure, allPure, AV.free, allFree, rowsFree, Nat.reduceBEq, Nat.reduceAdd, Nat.reduceMul, Nat.reduceSub, Nat.reduceLT, Nat.reduceLeDiff, Int.reduceToNat, reduceIte, reduceCtorEq, Int.reduceLT, Int.reduceLE, Nat.reduceEqDiff, Int.reduceEq, Int.reduceNeg, Int.reduceMul, Int.reduceAdd, Int.reduceSub, Int.reduceBNe, Int.reduceBEq, apart, bnd, in_free]
end Go.Proofs.YtfmhdfaelgkmcaaV

import Derived.Test.YtfmhdfaelgkmcaaVfA
import Derived.Test.YtfmhdfaelgkmcaaVpS
/- Contracts of the package sat: mantissas, clamped. -/
namespace Go.Proofs.YtfmhdfaelgkmcaaV
open Go Go.RowKit
set_option linter.unusedVariables false
set_option linter.unusedSimpArgs false
set_option maxRecDepth 100000
set_option maxHeartbeats 40000000
theorem fine69 : Fine Try.prog 69 := fun _ _ => by kernel_rfl
theorem fine96 : Fine Try.prog 96 := fun _ _ => by kernel_rfl
theorem fine127 : Fine Try.prog 127 := fun _ _ => by kernel_rfl
/-- Formats: bits, and what 1 is. -/
def fB (f : Int) : Int := if f = 1 then 31 else 15
def fM (f : Int) : Int := if f = 1 then 2147483648 else 32768
abbrev fmt (f : Int) : Prop := f = 0 ∨ f = 1
theorem sn15 : IntKind.i64.wrap (-1 * 2 ^ min 15 IntKind.i64.bits) = -32768 := by decide
theorem sn31 : IntKind.i64.wrap (-1 * 2 ^ min 31 IntKind.i64.bits) = -2147483648 := by decide
theorem sp15 : IntKind.i64.wrap (1 * 2 ^ min 15 IntKind.i64.bits) = 32768 := by decide
theorem sp31 : IntKind.i64.wrap (1 * 2 ^ min 31 IntKind.i64.bits) = 2147483648 := by decide
theorem wk15 : IntKind.i64.wrap 32767 = 32767 := by decide
theorem wk31 : IntKind.i64.wrap 2147483647 = 2147483647 := by decide
theorem Bits.ok (f : Int) (hf : fmt f) : Ok Try.prog 69 [.int f] (.tup [.int (fB f), .int 0]) := by
  refine ok_of (X := fun _ => []) (Z := fun _ => false) (res := [ResultVar.tmp 2, ResultVar.tmp 3]) tok follows Try.func69 rfl rfl fine69 (by kernel_rfl) (by kernel_rfl) ?_
  rcases hf with rfl | rfl <;> simp only [evA, evT, Go.undef, aload, astore, afieldAddr, afield, aindex, aindexAddr, abuild, abuildSlice, amakeSlice, aslice, aext, alen, aminmax, minmaxGo, aappend, newsOf, buildCells, cutRows, reps, setCells, AV.cells, allOne, AV.one, Value.oneCell', AV.pure, allPure, AV.free, allFree, rowsFree, Nat.reduceBEq, Nat.reduceAdd, Nat.reduceMul, Nat.reduceSub, Nat.reduceLT, Nat.reduceLeDiff, Int.reduceToNat, reduceIte, reduceCtorEq, Int.reduceLT, Int.reduceLE, Nat.reduceEqDiff, Int.reduceEq, Int.reduceNeg, Int.reduceMul, Int.reduceAdd, Int.reduceSub, Int.reduceBNe, Int.reduceBEq, apart, bnd, fB]
theorem Bits.bad (f : Int) (hf : ¬ fmt f) : Ok Try.prog 69 [.int f] (.tup [.int 0, .int 1]) := by
  have h0 : ¬ f = 0 := fun h => hf (.inl h)
  have h1 : ¬ f = 1 := fun h => hf (.inr h)
  refine ok_of (X := fun _ => []) (Z := fun _ => false) (res := [ResultVar.tmp 2, ResultVar.tmp 3]) tok follows Try.func69 rfl rfl fine69 (by kernel_rfl) (by kernel_rfl) ?_
  simp only [evA, evT, Go.undef, aload, astore, afieldAddr, afield, aindex, aindexAddr, abuild, abuildSlice, amakeSlice, aslice, aext, alen, aminmax, minmaxGo, aappend, newsOf, buildCells, cutRows, reps, setCells, AV.cells, allOne, AV.one, Value.oneCell', AV.pure, allPure, AV.free, allFree, rowsFree, Nat.reduceBEq, Nat.reduceAdd, Nat.reduceMul, Nat.reduceSub, Nat.reduceLT, Nat.reduceLeDiff, Int.reduceToNat, reduceIte, reduceCtorEq, Int.reduceLT, Int.reduceLE, Nat.reduceEqDiff, Int.reduceEq, Int.reduceNeg, Int.reduceMul, Int.reduceAdd, Int.reduceSub, Int.reduceBNe, Int.reduceBEq, apart, bnd, h0, h1]
/-- The mantissa next to a number. -/
def cl (f x : Int) : Int := if x < -fM f then -fM f else if fM f - 1 < x then fM f - 1 else x
/-- A mantissa. -/
abbrev mant (f x : Int) : Prop := -fM f ≤ x ∧ x < fM f
def intRows (zs : List Int) : List (List AV) := zs.map fun z => [.int z]
theorem in_len {zs : List Int} : (intRows zs).length = zs.length := by simp [intRows]
theorem in_free : ∀ (zs : List Int), rowsFree (intRows zs) = true
  | [] => rfl
  | z :: r => by
    show (allFree [.int z] && rowsFree (intRows r)) = true
    rw [in_free r]
    rfl
theorem in_get {zs : List Int} {i : Nat} (h : i < zs.length) : (intRows zs).getD i [] = [.int zs[i]] := by
  unfold intRows
  rw [List.getD_eq_getElem?_getD, List.getElem?_map, List.getElem?_eq_getElem h]
  rfl
theorem iindex.no (F : Nat) (caps : List AV) (p : Int → Prop) [DecidablePred p] (zs : List Int) (hl : zs.length ≤ 1000000000) (hc : ∀ lb, caps.map (snap lb 6) = caps) (hf : allFree caps = true) (h : ∀ z ∈ zs, Ok Try.prog F (.int z :: caps) (.bool (decide (p z)))) (hn : ∀ z ∈ zs, ¬ p z) :
    Ok Try.prog 127 [.sl 1 (intRows zs), .fn F caps] (.int (-1)) := by
  refine ok_of (X := fun _ => []) (Z := fun _ => false) (res := [ResultVar.tmp 4]) tok follows Try.func127 rfl rfl fine127 (by kernel_rfl) (by kernel_rfl) ?_
  simp only [evA, evB, evT, Go.undef, aload, astore, afieldAddr, afield, aindex, aindexAddr, abuild, abuildSlice, amakeSlice, aslice, aext, alen, aminmax, minmaxGo, aappend, newsOf, buildCells, cutRows, reps, setCells, AV.cells, allOne, AV.one, Value.oneCell', AV.pure, allPure, AV.free, allFree, rowsFree, Nat.reduceBEq, Nat.reduceAdd, Nat.reduceMul, Nat.reduceSub, Nat.reduceLT, Nat.reduceLeDiff, Int.reduceToNat, reduceIte, reduceCtorEq, Int.reduceLT, Int.reduceLE, Nat.reduceEqDiff, Int.reduceEq, Int.reduceNeg, Int.reduceMul, Int.reduceAdd, Int.reduceSub, Int.reduceBNe, Int.reduceBEq, apart, bnd, in_len]
  refine l_inv (fun i => ⟨[(8, .int i), (7, .int zs.length), (0, .sl 1 (intRows zs)), (1, .fn F caps)], [], 0⟩) zs.length ?_ (fun i hi K hK => ?_) (fun K => ?_)
  · refine weak_of (fun l => l) rfl trivial ?_
    simp only [evA, evB, evT, Go.undef, aload, astore, afieldAddr, afield, aindex, aindexAddr, abuild, abuildSlice, amakeSlice, aslice, aext, alen, aminmax, minmaxGo, aappend, newsOf, buildCells, cutRows, reps, setCells, AV.cells, allOne, AV.one, Value.oneCell', AV.pure, allPure, AV.free, allFree, rowsFree, Nat.reduceBEq, Nat.reduceAdd, Nat.reduceMul, Nat.reduceSub, Nat.reduceLT, Nat.reduceLeDiff, Int.reduceToNat, reduceIte, reduceCtorEq, Int.reduceLT, Int.reduceLE, Nat.reduceEqDiff, Int.reduceEq, Int.reduceNeg, Int.reduceMul, Int.reduceAdd, Int.reduceSub, Int.reduceBNe, Int.reduceBEq, apart, bnd, in_free, hf, Int.natCast_zero]
  · have h1 : (i : Int) < zs.length := by omega
    have h2 : (0 : Int) ≤ i := by omega
    have h3 : IntKind.i64.wrap ((i : Int) + 1) = i + 1 := wr (by omega)
    simp only [evA, evB, evT, Go.undef, aload, astore, afieldAddr, afield, aindex, aindexAddr, abuild, abuildSlice, amakeSlice, aslice, aext, alen, aminmax, minmaxGo, aappend, newsOf, buildCells, cutRows, reps, setCells, AV.cells, allOne, AV.one, Value.oneCell', AV.pure, allPure, AV.free, allFree, rowsFree, Nat.reduceBEq, Nat.reduceAdd, Nat.reduceMul, Nat.reduceSub, Nat.reduceLT, Nat.reduceLeDiff, Int.reduceToNat, reduceIte, reduceCtorEq, Int.reduceLT, Int.reduceLE, Nat.reduceEqDiff, Int.reduceEq, Int.reduceNeg, Int.reduceMul, Int.reduceAdd, Int.reduceSub, Int.reduceBNe, Int.reduceBEq, apart, bnd, h1, h2, h3, in_len, Int.toNat_natCast, in_get hi, hc]
    refine call_ok (h zs[i] (List.getElem_mem hi)) rfl ?_
    simp only [evA, evB, evT, Go.undef, aload, astore, afieldAddr, afield, aindex, aindexAddr, abuild, abuildSlice, amakeSlice, aslice, aext, alen, aminmax, minmaxGo, aappend, newsOf, buildCells, cutRows, reps, setCells, AV.cells, allOne, AV.one, Value.oneCell', AV.pure, allPure, AV.free, allFree, rowsFree, Nat.reduceBEq, Nat.reduceAdd, Nat.reduceMul, Nat.reduceSub, Nat.reduceLT, Nat.reduceLeDiff, Int.reduceToNat, reduceIte, reduceCtorEq, Int.reduceLT, Int.reduceLE, Nat.reduceEqDiff, Int.reduceEq, Int.reduceNeg, Int.reduceMul, Int.reduceAdd, Int.reduceSub, Int.reduceBNe, Int.reduceBEq, apart, bnd, h3, decide_eq_false (hn zs[i] (List.getElem_mem hi))]
    refine hK _ (weak_of (fun l => l) rfl trivial ?_)
    simp only [evA, evB, evT, Go.undef, aload, astore, afieldAddr, afield, aindex, aindexAddr, abuild, abuildSlice, amakeSlice, aslice, aext, alen, aminmax, minmaxGo, aappend, newsOf, buildCells, cutRows, reps, setCells, AV.cells, allOne, AV.one, Value.oneCell', AV.pure, allPure, AV.free, allFree, rowsFree, Nat.reduceBEq, Nat.reduceAdd, Nat.reduceMul, Nat.reduceSub, Nat.reduceLT, Nat.reduceLeDiff, Int.reduceToNat, reduceIte, reduceCtorEq, Int.reduceLT, Int.reduceLE, Nat.reduceEqDiff, Int.reduceEq, Int.reduceNeg, Int.reduceMul, Int.reduceAdd, Int.reduceSub, Int.reduceBNe, Int.reduceBEq, apart, bnd, in_free, hf, Int.natCast_add, Int.natCast_one]
  · simp only [evA, evB, evT, Go.undef, aload, astore, afieldAddr, afield, aindex, aindexAddr, abuild, abuildSlice, amakeSlice, aslice, aext, alen, aminmax, minmaxGo, aappend, newsOf, buildCells, cutRows, reps, setCells, AV.cells, allOne, AV.one, Value.oneCell', AV.pure, allPure, AV.free, allFree, rowsFree, Nat.reduceBEq, Nat.reduceAdd, Nat.reduceMul, Nat.reduceSub, Nat.reduceLT, Nat.reduceLeDiff, Int.reduceToNat, reduceIte, reduceCtorEq, Int.reduceLT, Int.reduceLE, Nat.reduceEqDiff, Int.reduceEq, Int.reduceNeg, Int.reduceMul, Int.reduceAdd, Int.reduceSub, Int.reduceBNe, Int.reduceBEq, apart, bnd]
theorem icontains.no (F : Nat) (caps : List AV) (p : Int → Prop) [DecidablePred p] (zs : List Int) (hl : zs.length ≤ 1000000000) (hc : ∀ lb, caps.map (snap lb 6) = caps) (hc5 : ∀ lb, caps.map (snap lb 5) = caps) (hf : allFree caps = true) (h : ∀ z ∈ zs, Ok Try.prog F (.int z :: caps) (.bool (decide (p z)))) (hn : ∀ z ∈ zs, ¬ p z) :
    Ok Try.prog 96 [.sl 1 (intRows zs), .fn F caps] (.bool false) := by
  refine ok_of (X := fun _ => []) (Z := fun _ => false) (res := [ResultVar.tmp 4]) tok follows Try.func96 rfl rfl fine96 (by kernel_rfl) (by kernel_rfl) ?_
  simp only [evA, evB, evT, Go.undef, aload, astore, afieldAddr, afield, aindex, aindexAddr, abuild, abuildSlice, amakeSlice, aslice, aext, alen, aminmax, minmaxGo, aappend, newsOf, buildCells, cutRows, reps, setCells, AV.cells, allOne, AV.one, Value.oneCell', AV.pure, allPure, AV.free, allFree, rowsFree, Nat.reduceBEq, Nat.reduceAdd, Nat.reduceMul, Nat.reduceSub, Nat.reduceLT, Nat.reduceLeDiff, Int.reduceToNat, reduceIte, reduceCtorEq, Int.reduceLT, Int.reduceLE, Nat.reduceEqDiff, Int.reduceEq, Int.reduceNeg, Int.reduceMul, Int.reduceAdd, Int.reduceSub, Int.reduceBNe, Int.reduceBEq, apart, bnd, in_free]
  simp only [hc5]
  refine call_ok (iindex.no F caps p zs hl hc hf h hn) rfl ?_
  simp only [evA, evB, evT, Go.undef, aload, astore, afieldAddr, afield, aindex, aindexAddr, abuild, abuildSlice, amakeSlice, aslice, aext, alen, aminmax, minmaxGo, aappend, newsOf, buildCells, cutRows, reps, setCells, AV.cells, allOne, AV.one, Value.oneCell', AV.pure, allPure, AV.free, allFree, rowsFree, Nat.reduceBEq, Nat.reduceAdd, Nat.reduceMul, Nat.reduceSub, Nat.reduceLT, Nat.reduceLeDiff, Int.reduceToNat, reduceIte, reduceCtorEq, Int.reduceLT, Int.reduceLE, Nat.reduceEqDiff, Int.reduceEq, Int.reduceNeg, Int.reduceMul, Int.reduceAdd, Int.reduceSub, Int.reduceBNe, Int.reduceBEq, apart, bnd]
theorem fM_pos {f : Int} (hf : fmt f) : 32768 ≤ fM f ∧ fM f ≤ 2147483648 := by
  rcases hf with rfl | rfl <;> simp [fM]
theorem mul_bd {a b f : Int} (hf : fmt f) (ha : mant f a) (hb : mant f b) : -4611686018427387904 ≤ a * b ∧ a * b ≤ 4611686018427387904 := by
  have := fM_pos hf
  have h1 : a.natAbs ≤ 2147483648 := by omega
  have h2 : b.natAbs ≤ 2147483648 := by omega
  have h3 := Nat.mul_le_mul h1 h2
  rw [← Int.natAbs_mul] at h3
  omega
end Go.Proofs.YtfmhdfaelgkmcaaV

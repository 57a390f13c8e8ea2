import Derived.Test.YtnnjjblgilibgaaVfA
import Derived.Test.YtnnjjblgilibgaaVpS
/- Contracts of the package sat: mantissas, clamped. -/
namespace Go.Proofs.YtnnjjblgilibgaaV
open Go Go.RowKit
set_option linter.unusedVariables false
set_option linter.unusedSimpArgs false
set_option maxRecDepth 100000
set_option maxHeartbeats 40000000
theorem fine21 : Fine Try.prog 21 := fun _ _ => by kernel_rfl
theorem fine16 : Fine Try.prog 16 := fun _ _ => by kernel_rfl
/-- Formats: bits, and what 1 is. -/
def fB (f : Int) : Int := if f = 1 then 31 else 15
def fM (f : Int) : Int := if f = 1 then 2147483648 else 32768
abbrev fmt (f : Int) : Prop := f = 0 ∨ f = 1
theorem sn15 : IntKind.i64.wrap (-1 * 2 ^ min 15 IntKind.i64.bits) = -32768 := by decide
theorem sn31 : IntKind.i64.wrap (-1 * 2 ^ min 31 IntKind.i64.bits) = -2147483648 := by decide
theorem sp15 : IntKind.i64.wrap (1 * 2 ^ min 15 IntKind.i64.bits) = 32768 := by decide
theorem sp31 : IntKind.i64.wrap (1 * 2 ^ min 31 IntKind.i64.bits) = 2147483648 := by decide
theorem wk15 : IntKind.i64.wrap 32767 = 32767 := by decide
theorem wk31 : IntKind.i64.wrap 2147483647 = 2147483647 := by decide
theorem Bits.ok (f : Int) (hf : fmt f) : Ok Try.prog 21 [.int f] (.tup [.int (fB f), .int 0]) := by
  refine ok_of (X := fun _ => []) (Z := fun _ => false) (res := [ResultVar.tmp 2, ResultVar.tmp 3]) tok follows Try.func21 rfl rfl fine21 (by kernel_rfl) (by kernel_rfl) ?_
  rcases hf with rfl | rfl <;> simp only [evA, evT, Go.undef, aload, astore, afieldAddr, afield, aindex, aindexAddr, abuild, abuildSlice, amakeSlice, aslice, aext, alen, aminmax, minmaxGo, aappend, newsOf, buildCells, cutRows, reps, setCells, AV.cells, allOne, AV.one, Value.oneCell', AV.pure, allPure, AV.free, allFree, rowsFree, Nat.reduceBEq, Nat.reduceAdd, Nat.reduceMul, Nat.reduceSub, Nat.reduceLT, Nat.reduceLeDiff, Int.reduceToNat, reduceIte, reduceCtorEq, Int.reduceLT, Int.reduceLE, Nat.reduceEqDiff, Int.reduceEq, Int.reduceNeg, Int.reduceMul, Int.reduceAdd, Int.reduceSub, Int.reduceBNe, Int.reduceBEq, apart, bnd, fB]
theorem Bits.bad (f : Int) (hf : ¬ fmt f) : Ok Try.prog 21 [.int f] (.tup [.int 0, .int 1]) := by
  have h0 : ¬ f = 0 := fun h => hf (.inl h)
  have h1 : ¬ f = 1 := fun h => hf (.inr h)
  refine ok_of (X := fun _ => []) (Z := fun _ => false) (res := [ResultVar.tmp 2, ResultVar.tmp 3]) tok follows Try.func21 rfl rfl fine21 (by kernel_rfl) (by kernel_rfl) ?_
  simp only [evA, evT, Go.undef, aload, astore, afieldAddr, afield, aindex, aindexAddr, abuild, abuildSlice, amakeSlice, aslice, aext, alen, aminmax, minmaxGo, aappend, newsOf, buildCells, cutRows, reps, setCells, AV.cells, allOne, AV.one, Value.oneCell', AV.pure, allPure, AV.free, allFree, rowsFree, Nat.reduceBEq, Nat.reduceAdd, Nat.reduceMul, Nat.reduceSub, Nat.reduceLT, Nat.reduceLeDiff, Int.reduceToNat, reduceIte, reduceCtorEq, Int.reduceLT, Int.reduceLE, Nat.reduceEqDiff, Int.reduceEq, Int.reduceNeg, Int.reduceMul, Int.reduceAdd, Int.reduceSub, Int.reduceBNe, Int.reduceBEq, apart, bnd, h0, h1]
/-- The mantissa next to a number. -/
def cl (f x : Int) : Int := if x < -fM f then -fM f else if fM f - 1 < x then fM f - 1 else x
theorem Clamp.ok (x f : Int) (hf : fmt f) : Ok Try.prog 16 [.int x, .int f] (.tup [.int (cl f x), .bool (decide (¬ cl f x = x)), .int 0]) := by
  refine ok_of (X := fun _ => []) (Z := fun _ => false) (res := [ResultVar.tmp 4, ResultVar.tmp 5, ResultVar.tmp 6]) tok follows Try.func16 rfl rfl fine16 (by kernel_rfl) (by kernel_rfl) ?_
  simp only [evA, evT, Go.undef, aload, astore, afieldAddr, afield, aindex, aindexAddr, abuild, abuildSlice, amakeSlice, aslice, aext, alen, aminmax, minmaxGo, aappend, newsOf, buildCells, cutRows, reps, setCells, AV.cells, allOne, AV.one, Value.oneCell', AV.pure, allPure, AV.free, allFree, rowsFree, Nat.reduceBEq, Nat.reduceAdd, Nat.reduceMul, Nat.reduceSub, Nat.reduceLT, Nat.reduceLeDiff, Int.reduceToNat, reduceIte, reduceCtorEq, Int.reduceLT, Int.reduceLE, Nat.reduceEqDiff, Int.reduceEq, Int.reduceNeg, Int.reduceMul, Int.reduceAdd, Int.reduceSub, Int.reduceBNe, Int.reduceBEq, apart, bnd]
  refine call_ok (Bits.ok f hf) rfl ?_
  rcases hf with rfl | rfl
  · have h : (if 32767 < (if x < -32768 then -32768 else x) then 32767 else (if x < -32768 then -32768 else x)) = cl 0 x := by
      simp [cl, fM]
      repeat' split
      all_goals omega
    simp only [evA, evT, Go.undef, aload, astore, afieldAddr, afield, aindex, aindexAddr, abuild, abuildSlice, amakeSlice, aslice, aext, alen, aminmax, minmaxGo, aappend, newsOf, buildCells, cutRows, reps, setCells, AV.cells, allOne, AV.one, Value.oneCell', AV.pure, allPure, AV.free, allFree, rowsFree, Nat.reduceBEq, Nat.reduceAdd, Nat.reduceMul, Nat.reduceSub, Nat.reduceLT, Nat.reduceLeDiff, Int.reduceToNat, reduceIte, reduceCtorEq, Int.reduceLT, Int.reduceLE, Nat.reduceEqDiff, Int.reduceEq, Int.reduceNeg, Int.reduceMul, Int.reduceAdd, Int.reduceSub, Int.reduceBNe, Int.reduceBEq, apart, bnd, fB, sn15, sp15, wk15, h]
    by_cases e : cl 0 x = x <;> simp [e]
  · have h : (if 2147483647 < (if x < -2147483648 then -2147483648 else x) then 2147483647 else (if x < -2147483648 then -2147483648 else x)) = cl 1 x := by
      simp [cl, fM]
      repeat' split
      all_goals omega
    simp only [evA, evT, Go.undef, aload, astore, afieldAddr, afield, aindex, aindexAddr, abuild, abuildSlice, amakeSlice, aslice, aext, alen, aminmax, minmaxGo, aappend, newsOf, buildCells, cutRows, reps, setCells, AV.cells, allOne, AV.one, Value.oneCell', AV.pure, allPure, AV.free, allFree, rowsFree, Nat.reduceBEq, Nat.reduceAdd, Nat.reduceMul, Nat.reduceSub, Nat.reduceLT, Nat.reduceLeDiff, Int.reduceToNat, reduceIte, reduceCtorEq, Int.reduceLT, Int.reduceLE, Nat.reduceEqDiff, Int.reduceEq, Int.reduceNeg, Int.reduceMul, Int.reduceAdd, Int.reduceSub, Int.reduceBNe, Int.reduceBEq, apart, bnd, fB, sn31, sp31, wk31, h]
    by_cases e : cl 1 x = x <;> simp [e]
/-- A mantissa. -/
abbrev mant (f x : Int) : Prop := -fM f ≤ x ∧ x < fM f
def intRows (zs : List Int) : List (List AV) := zs.map fun z => [.int z]
theorem in_len {zs : List Int} : (intRows zs).length = zs.length := by simp [intRows]
theorem in_free : ∀ (zs : List Int), rowsFree (intRows zs) = true
  | [] => rfl
  | z :: r => by
    show (allFree [.int z] && rowsFree (intRows r)) = true
    rw [in_free r]
    rfl
theorem in_get {zs : List Int} {i : Nat} (h : i < zs.length) : (intRows zs).getD i [] = [.int zs[i]] := by
  unfold intRows
  rw [List.getD_eq_getElem?_getD, List.getElem?_map, List.getElem?_eq_getElem h]
  rfl
theorem fM_pos {f : Int} (hf : fmt f) : 32768 ≤ fM f ∧ fM f ≤ 2147483648 := by
  rcases hf with rfl | rfl <;> simp [fM]
theorem mul_bd {a b f : Int} (hf : fmt f) (ha : mant f a) (hb : mant f b) : -4611686018427387904 ≤ a * b ∧ a * b ≤ 4611686018427387904 := by
  have := fM_pos hf
  have h1 : a.natAbs ≤ 2147483648 := by omega
  have h2 : b.natAbs ≤ 2147483648 := by omega
  have h3 := Nat.mul_le_mul h1 h2
  rw [← Int.natAbs_mul] at h3
  omega
end Go.Proofs.YtnnjjblgilibgaaV

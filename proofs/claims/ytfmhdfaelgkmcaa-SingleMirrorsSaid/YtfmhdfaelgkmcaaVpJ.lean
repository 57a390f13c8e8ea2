import Derived.Test.YtfmhdfaelgkmcaaVsA
/- Numbers, one of which is as asked: the first one. -/
namespace Go.Proofs.YtfmhdfaelgkmcaaV
open Go Go.RowKit
set_option linter.unusedVariables false
set_option linter.unusedSimpArgs false
set_option maxRecDepth 100000
set_option maxHeartbeats 40000000
theorem first_z {p : Int → Prop} [DecidablePred p] : ∀ (zs : List Int), ¬ (∀ z ∈ zs, ¬ p z) → ∃ (m : Nat) (hm : m < zs.length), p zs[m] ∧ ∀ i (hi : i < zs.length), i < m → ¬ p zs[i]
  | [], h => absurd (fun z hz => by cases hz) h
  | z :: r, h => by
    by_cases hz : p z
    · exact ⟨0, by simp, hz, fun i _ hi => by omega⟩
    · obtain ⟨m, hm, h1, h2⟩ := first_z r (fun g => h (fun y hy => by
        rcases List.mem_cons.1 hy with rfl | hy
        · exact hz
        · exact g y hy))
      refine ⟨m + 1, by simpa using hm, h1, fun i hi him => ?_⟩
      cases i with
      | zero => exact hz
      | succ i => exact h2 i (by simpa using hi) (by omega)
theorem iindex.yes (F : Nat) (caps : List AV) (p : Int → Prop) [DecidablePred p] (zs : List Int) (hl : zs.length ≤ 1000000000) (hc : ∀ lb, caps.map (snap lb 6) = caps) (hf : allFree caps = true) (h : ∀ z ∈ zs, Ok Try.prog F (.int z :: caps) (.bool (decide (p z)))) (hn : ¬ ∀ z ∈ zs, ¬ p z) :
    ∃ m : Nat, Ok Try.prog 127 [.sl 1 (intRows zs), .fn F caps] (.int m) := by
  obtain ⟨m, hm, hp, hlt⟩ := first_z zs hn
  refine ⟨m, ?_⟩
  refine ok_of (X := fun _ => []) (Z := fun _ => false) (res := [ResultVar.tmp 4]) tok follows Try.func127 rfl rfl fine127 (by kernel_rfl) (by kernel_rfl) ?_
  simp only [evA, evB, evT, Go.undef, aload, astore, afieldAddr, afield, aindex, aindexAddr, abuild, abuildSlice, amakeSlice, aslice, aext, alen, aminmax, minmaxGo, aappend, newsOf, buildCells, cutRows, reps, setCells, AV.cells, allOne, AV.one, Value.oneCell', AV.pure, allPure, AV.free, allFree, rowsFree, Nat.reduceBEq, Nat.reduceAdd, Nat.reduceMul, Nat.reduceSub, Nat.reduceLT, Nat.reduceLeDiff, Int.reduceToNat, reduceIte, reduceCtorEq, Int.reduceLT, Int.reduceLE, Nat.reduceEqDiff, Int.reduceEq, Int.reduceNeg, Int.reduceMul, Int.reduceAdd, Int.reduceSub, Int.reduceBNe, Int.reduceBEq, apart, bnd, in_len]
  refine l_inv (fun i => ⟨[(8, .int i), (7, .int zs.length), (0, .sl 1 (intRows zs)), (1, .fn F caps)], [], 0⟩) m ?_ (fun i hi K hK => ?_) (fun K => ?_)
  · refine weak_of (fun l => l) rfl trivial ?_
    simp only [evA, evB, evT, Go.undef, aload, astore, afieldAddr, afield, aindex, aindexAddr, abuild, abuildSlice, amakeSlice, aslice, aext, alen, aminmax, minmaxGo, aappend, newsOf, buildCells, cutRows, reps, setCells, AV.cells, allOne, AV.one, Value.oneCell', AV.pure, allPure, AV.free, allFree, rowsFree, Nat.reduceBEq, Nat.reduceAdd, Nat.reduceMul, Nat.reduceSub, Nat.reduceLT, Nat.reduceLeDiff, Int.reduceToNat, reduceIte, reduceCtorEq, Int.reduceLT, Int.reduceLE, Nat.reduceEqDiff, Int.reduceEq, Int.reduceNeg, Int.reduceMul, Int.reduceAdd, Int.reduceSub, Int.reduceBNe, Int.reduceBEq, apart, bnd, in_free, hf, Int.natCast_zero]
  · have hi' : i < zs.length := by omega
    have h1 : (i : Int) < zs.length := by omega
    have h2 : (0 : Int) ≤ i := by omega
    have h3 : IntKind.i64.wrap ((i : Int) + 1) = i + 1 := wr (by omega)
    simp only [evA, evB, evT, Go.undef, aload, astore, afieldAddr, afield, aindex, aindexAddr, abuild, abuildSlice, amakeSlice, aslice, aext, alen, aminmax, minmaxGo, aappend, newsOf, buildCells, cutRows, reps, setCells, AV.cells, allOne, AV.one, Value.oneCell', AV.pure, allPure, AV.free, allFree, rowsFree, Nat.reduceBEq, Nat.reduceAdd, Nat.reduceMul, Nat.reduceSub, Nat.reduceLT, Nat.reduceLeDiff, Int.reduceToNat, reduceIte, reduceCtorEq, Int.reduceLT, Int.reduceLE, Nat.reduceEqDiff, Int.reduceEq, Int.reduceNeg, Int.reduceMul, Int.reduceAdd, Int.reduceSub, Int.reduceBNe, Int.reduceBEq, apart, bnd, h1, h2, h3, in_len, Int.toNat_natCast, in_get hi', hc]
    refine call_ok (h zs[i] (List.getElem_mem hi')) rfl ?_
    simp only [evA, evB, evT, Go.undef, aload, astore, afieldAddr, afield, aindex, aindexAddr, abuild, abuildSlice, amakeSlice, aslice, aext, alen, aminmax, minmaxGo, aappend, newsOf, buildCells, cutRows, reps, setCells, AV.cells, allOne, AV.one, Value.oneCell', AV.pure, allPure, AV.free, allFree, rowsFree, Nat.reduceBEq, Nat.reduceAdd, Nat.reduceMul, Nat.reduceSub, Nat.reduceLT, Nat.reduceLeDiff, Int.reduceToNat, reduceIte, reduceCtorEq, Int.reduceLT, Int.reduceLE, Nat.reduceEqDiff, Int.reduceEq, Int.reduceNeg, Int.reduceMul, Int.reduceAdd, Int.reduceSub, Int.reduceBNe, Int.reduceBEq, apart, bnd, h3, decide_eq_false (hlt i hi' hi)]
    refine hK _ (weak_of (fun l => l) rfl trivial ?_)
    simp only [evA, evB, evT, Go.undef, aload, astore, afieldAddr, afield, aindex, aindexAddr, abuild, abuildSlice, amakeSlice, aslice, aext, alen, aminmax, minmaxGo, aappend, newsOf, buildCells, cutRows, reps, setCells, AV.cells, allOne, AV.one, Value.oneCell', AV.pure, allPure, AV.free, allFree, rowsFree, Nat.reduceBEq, Nat.reduceAdd, Nat.reduceMul, Nat.reduceSub, Nat.reduceLT, Nat.reduceLeDiff, Int.reduceToNat, reduceIte, reduceCtorEq, Int.reduceLT, Int.reduceLE, Nat.reduceEqDiff, Int.reduceEq, Int.reduceNeg, Int.reduceMul, Int.reduceAdd, Int.reduceSub, Int.reduceBNe, Int.reduceBEq, apart, bnd, in_free, hf, Int.natCast_add, Int.natCast_one]
  · have h1 : (m : Int) < zs.length := by omega
    have h2 : (0 : Int) ≤ m := by omega
    simp only [evA, evB, evT, Go.undef, aload, astore, afieldAddr, afield, aindex, aindexAddr, abuild, abuildSlice, amakeSlice, aslice, aext, alen, aminmax, minmaxGo, aappend, newsOf, buildCells, cutRows, reps, setCells, AV.cells, allOne, AV.one, Value.oneCell', AV.pure, allPure, AV.free, allFree, rowsFree, Nat.reduceBEq, Nat.reduceAdd, Nat.reduceMul, Nat.reduceSub, Nat.reduceLT, Nat.reduceLeDiff, Int.reduceToNat, reduceIte, reduceCtorEq, Int.reduceLT, Int.reduceLE, Nat.reduceEqDiff, Int.reduceEq, Int.reduceNeg, Int.reduceMul, Int.reduceAdd, Int.reduceSub, Int.reduceBNe, Int.reduceBEq, apart, bnd, h1, h2, in_len, Int.toNat_natCast, in_get hm, hc]
    refine call_ok (h zs[m] (List.getElem_mem hm)) rfl ?_
    simp only [evA, evB, evT, Go.undef, aload, astore, afieldAddr, afield, aindex, aindexAddr, abuild, abuildSlice, amakeSlice, aslice, aext, alen, aminmax, minmaxGo, aappend, newsOf, buildCells, cutRows, reps, setCells, AV.cells, allOne, AV.one, Value.oneCell', AV.pure, allPure, AV.free, allFree, rowsFree, Nat.reduceBEq, Nat.reduceAdd, Nat.reduceMul, Nat.reduceSub, Nat.reduceLT, Nat.reduceLeDiff, Int.reduceToNat, reduceIte, reduceCtorEq, Int.reduceLT, Int.reduceLE, Nat.reduceEqDiff, Int.reduceEq, Int.reduceNeg, Int.reduceMul, Int.reduceAdd, Int.reduceSub, Int.reduceBNe, Int.reduceBEq, apart, bnd, decide_eq_true hp]
theorem icontains.yes (F : Nat) (caps : List AV) (p : Int → Prop) [DecidablePred p] (zs : List Int) (hl : zs.length ≤ 1000000000) (hc : ∀ lb, caps.map (snap lb 6) = caps) (hc5 : ∀ lb, caps.map (snap lb 5) = caps) (hf : allFree caps = true) (h : ∀ z ∈ zs, Ok Try.prog F (.int z :: caps) (.bool (decide (p z)))) (hn : ¬ ∀ z ∈ zs, ¬ p z) :
    Ok Try.prog 96 [.sl 1 (intRows zs), .fn F caps] (.bool true) := by
  obtain ⟨m, hm⟩ := iindex.yes F caps p zs hl hc hf h hn
  have h0 : (0 : Int) ≤ m := by omega
  refine ok_of (X := fun _ => []) (Z := fun _ => false) (res := [ResultVar.tmp 4]) tok follows Try.func96 rfl rfl fine96 (by kernel_rfl) (by kernel_rfl) ?_
  simp only [evA, evB, evT, Go.undef, aload, astore, afieldAddr, afield, aindex, aindexAddr, abuild, abuildSlice, amakeSlice, aslice, aext, alen, aminmax, minmaxGo, aappend, newsOf, buildCells, cutRows, reps, setCells, AV.cells, allOne, AV.one, Value.oneCell', AV.pure, allPure, AV.free, allFree, rowsFree, Nat.reduceBEq, Nat.reduceAdd, Nat.reduceMul, Nat.reduceSub, Nat.reduceLT, Nat.reduceLeDiff, Int.reduceToNat, reduceIte, reduceCtorEq, Int.reduceLT, Int.reduceLE, Nat.reduceEqDiff, Int.reduceEq, Int.reduceNeg, Int.reduceMul, Int.reduceAdd, Int.reduceSub, Int.reduceBNe, Int.reduceBEq, apart, bnd, in_free]
  simp only [hc5]
  refine call_ok hm rfl ?_
  simp only [evA, evB, evT, Go.undef, aload, astore, afieldAddr, afield, aindex, aindexAddr, abuild, abuildSlice, amakeSlice, aslice, aext, alen, aminmax, minmaxGo, aappend, newsOf, buildCells, cutRows, reps, setCells, AV.cells, allOne, AV.one, Value.oneCell', AV.pure, allPure, AV.free, allFree, rowsFree, Nat.reduceBEq, Nat.reduceAdd, Nat.reduceMul, Nat.reduceSub, Nat.reduceLT, Nat.reduceLeDiff, Int.reduceToNat, reduceIte, reduceCtorEq, Int.reduceLT, Int.reduceLE, Nat.reduceEqDiff, Int.reduceEq, Int.reduceNeg, Int.reduceMul, Int.reduceAdd, Int.reduceSub, Int.reduceBNe, Int.reduceBEq, apart, bnd, h0]
mutual
theorem jfree_lt (k : Nat) : ∀ (x : AV), x.free = true → x.lt k = true
  | .any, _ => rfl
  | .raw _, _ => rfl
  | .agg l, h => jallFree_lt k l h
  | .tup l, h => jallFree_lt k l h
  | .sl sz l, h => jrowsFree_lt k l h
  | .fn f l, h => jallFree_lt k l h
  | .iface t v, h => jfree_lt k v h
  | .box l off, h => jallFree_lt k l h
theorem jallFree_lt (k : Nat) : ∀ (l : List AV), allFree l = true → allLt k l = true
  | [], _ => rfl
  | x :: r, h => by
    rw [allFree, Bool.and_eq_true] at h
    rw [al_cons, jfree_lt k x h.1, jallFree_lt k r h.2]
    rfl
theorem jrowsFree_lt (k : Nat) : ∀ (l : List (List AV)), rowsFree l = true → rowsLt k l = true
  | [], _ => rfl
  | x :: r, h => by
    rw [rowsFree, Bool.and_eq_true] at h
    show (allLt k x && rowsLt k r) = true
    rw [jallFree_lt k x h.1, jrowsFree_lt k r h.2]
    rfl
end
theorem in_lt {k : Nat} {zs : List Int} : rowsLt k (intRows zs) = true := jrowsFree_lt k _ (in_free zs)
theorem in_getE {zs : List Int} {i : Nat} (h : i < zs.length) : (intRows zs).getD i [] = [.int (zs.getD i 0)] := by
  rw [in_get h, List.getD_eq_getElem?_getD, List.getElem?_eq_getElem h]
  rfl
end Go.Proofs.YtfmhdfaelgkmcaaV

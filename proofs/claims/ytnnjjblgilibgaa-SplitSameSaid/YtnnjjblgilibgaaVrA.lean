import Derived.Test.YtnnjjblgilibgaaVfB
import Derived.Test.YtnnjjblgilibgaaVpT
import Derived.Test.YtnnjjblgilibgaaVpS
/- Contracts: arcs; the steps' angles; turns by shifts. -/
namespace Go.Proofs.YtnnjjblgilibgaaV
open Go Go.RowKit
set_option linter.unusedVariables false
set_option linter.unusedSimpArgs false
set_option maxRecDepth 100000
set_option maxHeartbeats 40000000
theorem fine100 : Fine Try.prog 100 := fun _ _ => by kernel_rfl
theorem fine102 : Fine Try.prog 102 := fun _ _ => by kernel_rfl
theorem fine96 : Fine Try.prog 96 := fun _ _ => by kernel_rfl
theorem fine104 : Fine Try.prog 104 := fun _ _ => by kernel_rfl
theorem fine91 : Fine Try.prog 91 := fun _ _ => by kernel_rfl
theorem fine101 : Fine Try.prog 101 := fun _ _ => by kernel_rfl
theorem fine98 : Fine Try.prog 98 := fun _ _ => by kernel_rfl
theorem fine94 : Fine Try.prog 94 := fun _ _ => by kernel_rfl
theorem fine99 : Fine Try.prog 99 := fun _ _ => by kernel_rfl
theorem fine95 : Fine Try.prog 95 := fun _ _ => by kernel_rfl
theorem w64 (x : Int) : IntKind.i64.wrap x = wrap64 x := by rw [IntKind.wrap_i64]; unfold wrap64; rfl
theorem seq_mono1 {α : Type} {F : Fence} {n : Nat} {P : Program} {g : Nat} {lb : Array Value} {encs : α → Array Value} {Kp Kp' : World → World → Prop} {S Sp : List α → Prop} {N : Nat} {w : World} (h : SeqStopsK F n P g lb encs Kp S Sp N w) (hk : ∀ A B, Kp' A B → Kp A B) : SeqStopsK F n P g lb encs Kp' S Sp N w :=
  fun l J Jx W hW hJ hJx hY h0 => h l J Jx W hW hJ hJx (fun pre x W1 hj hl => by
    obtain ⟨fn, tmps, asg, body, hy, hR⟩ := hY pre x W1 hj hl
    exact ⟨fn, tmps, asg, body, hy, hR.mono fun e W' he => he.imp (fun q => ⟨q.1, q.2.1, hk _ _ q.2.2⟩) id⟩) h0
theorem rep_box1' {w : World} {N : Nat → Prop} {z : Int} {v : Value} (h : Rep w (fun _ => none) N (.box [.int z] 0) v) : ∃ b o, v = .pointer (some ⟨b, o, none⟩) ∧ N b ∧ w.cell? ⟨b, o, none⟩ = some (.int .i64 z) := by
  cases h with
  | box _ _ b o cell hN hw hr =>
    refine ⟨b, o, rfl, hN, ?_⟩
    have h1 := hw 0 (by simp)
    have h2 := (hr 0 _ rfl).of_raw
    rw [h2] at h1
    exact h1
theorem terms.ok (n : Int) : Ok Try.prog 100 [.int n] (.fn 102 [.box [.int n] 0]) := by
  refine ok_of (X := fun _ => []) (Z := fun _ => false) (res := [ResultVar.tmp 2]) tok follows Try.func100 rfl rfl fine100 (by kernel_rfl) (by kernel_rfl) ?_
  simp only [evA, evT, Go.undef, aload, astore, afieldAddr, afield, aindex, aindexAddr, abuild, abuildSlice, amakeSlice, aslice, aext, alen, aminmax, minmaxGo, aappend, newsOf, buildCells, cutRows, reps, setCells, AV.cells, allOne, AV.one, Value.oneCell', AV.pure, allPure, AV.free, allFree, rowsFree, Nat.reduceBEq, Nat.reduceAdd, Nat.reduceMul, Nat.reduceSub, Nat.reduceLT, Nat.reduceLeDiff, Int.reduceToNat, reduceIte, reduceCtorEq, Int.reduceLT, Int.reduceLE, Nat.reduceEqDiff, Int.reduceEq, Int.reduceNeg, Int.reduceMul, Int.reduceAdd, Int.reduceSub, Int.reduceBNe, Int.reduceBEq, apart, bnd]
theorem terms.seq {n : Int} (hn : 2 ≤ n) (hn2 : n ≤ 17592186044416) : OkSeq Try.prog 102 [.box [.int n] 0] (fun x : Int => [.int x]) (atake n (acount n)) (acount n) := by
  refine ⟨fine102, fun _ => rfl, fun w N vs hN hl hr m hm => ?_⟩
  match vs, hl with
  | [v0], _ =>
    obtain ⟨A, o1, rfl, hA, ha⟩ := rep_box1' (hr 0 _ rfl)
    exact seq_mono1 (arc_terms.stops m hm n hn hn2 A o1 w ha) fun W W' hkp v hv => (World.cell?_of_block (w := W) (w' := W') (a := ⟨A, o1, none⟩) (hkp A hA)).trans hv
def arcV (n : Int) : Int := asumTo n (acount n)
def fS64 (l : List Int) : Int := l.foldl (fun s x => wrap64 (s + x)) 0
theorem fS64_snoc (l : List Int) (x : Int) : fS64 (l ++ [x]) = wrap64 (fS64 l + x) := by
  unfold fS64
  rw [List.foldl_append]
  rfl
theorem sum.ok (n : Int) (hn : 2 ≤ n) (hn2 : n ≤ 17592186044416) : Ok Try.prog 96 [.int n] (.int (arcV n)) := by
  refine ok_of (X := fun _ => []) (Z := fun _ => false) (res := [ResultVar.tmp 2]) tok follows Try.func96 rfl rfl fine96 (by kernel_rfl) (by kernel_rfl) ?_
  simp only [evA, evB, evT, Go.undef, aload, astore, afieldAddr, afield, aindex, aindexAddr, abuild, abuildSlice, amakeSlice, aslice, aext, alen, aminmax, minmaxGo, aappend, newsOf, buildCells, cutRows, reps, setCells, AV.cells, allOne, AV.one, Value.oneCell', AV.pure, allPure, AV.free, allFree, rowsFree, Nat.reduceBEq, Nat.reduceAdd, Nat.reduceMul, Nat.reduceSub, Nat.reduceLT, Nat.reduceLeDiff, Int.reduceToNat, reduceIte, reduceCtorEq, Int.reduceLT, Int.reduceLE, Nat.reduceEqDiff, Int.reduceEq, Int.reduceNeg, Int.reduceMul, Int.reduceAdd, Int.reduceSub, Int.reduceBNe, Int.reduceBEq, apart, bnd]
  refine call_ok (terms.ok n) rfl ?_
  simp only [evA, evB, evT, Go.undef, aload, astore, afieldAddr, afield, aindex, aindexAddr, abuild, abuildSlice, amakeSlice, aslice, aext, alen, aminmax, minmaxGo, aappend, newsOf, buildCells, cutRows, reps, setCells, AV.cells, allOne, AV.one, Value.oneCell', AV.pure, allPure, AV.free, allFree, rowsFree, Nat.reduceBEq, Nat.reduceAdd, Nat.reduceMul, Nat.reduceSub, Nat.reduceLT, Nat.reduceLeDiff, Int.reduceToNat, reduceIte, reduceCtorEq, Int.reduceLT, Int.reduceLE, Nat.reduceEqDiff, Int.reduceEq, Int.reduceNeg, Int.reduceMul, Int.reduceAdd, Int.reduceSub, Int.reduceBNe, Int.reduceBEq, apart, bnd]
  refine .inl ⟨rfl, .inl ⟨Int, fun x => [.int x], atake n (acount n), [(3, .loc 0 0), (6, .fn 102 [.box [.int n] 0])], fun pre => [(0, some (.box [.int (fS64 pre)]))], 1, 1, _, _, _, rfl, rfl, terms.seq hn hn2, fun _ => rfl, rfl, rfl, fun _ => rfl, ?_, fun pre x _ => ?_, ?_⟩⟩
  · refine weak_of (fun l => l) rfl ?_ ?_
    all_goals simp only [evA, evB, evT, Go.undef, aload, astore, afieldAddr, afield, aindex, aindexAddr, abuild, abuildSlice, amakeSlice, aslice, aext, alen, aminmax, minmaxGo, aappend, newsOf, buildCells, cutRows, reps, setCells, AV.cells, allOne, AV.one, Value.oneCell', AV.pure, allPure, AV.free, allFree, rowsFree, Nat.reduceBEq, Nat.reduceAdd, Nat.reduceMul, Nat.reduceSub, Nat.reduceLT, Nat.reduceLeDiff, Int.reduceToNat, reduceIte, reduceCtorEq, Int.reduceLT, Int.reduceLE, Nat.reduceEqDiff, Int.reduceEq, Int.reduceNeg, Int.reduceMul, Int.reduceAdd, Int.reduceSub, Int.reduceBNe, Int.reduceBEq, apart, bnd, LB.ren, LB.lt]
    exact .inl rfl
  · simp only [evA, evB, evT, Go.undef, aload, astore, afieldAddr, afield, aindex, aindexAddr, abuild, abuildSlice, amakeSlice, aslice, aext, alen, aminmax, minmaxGo, aappend, newsOf, buildCells, cutRows, reps, setCells, AV.cells, allOne, AV.one, Value.oneCell', AV.pure, allPure, AV.free, allFree, rowsFree, Nat.reduceBEq, Nat.reduceAdd, Nat.reduceMul, Nat.reduceSub, Nat.reduceLT, Nat.reduceLeDiff, Int.reduceToNat, reduceIte, reduceCtorEq, Int.reduceLT, Int.reduceLE, Nat.reduceEqDiff, Int.reduceEq, Int.reduceNeg, Int.reduceMul, Int.reduceAdd, Int.reduceSub, Int.reduceBNe, Int.reduceBEq, apart, bnd]
    refine weak_of (fun l => l) rfl ?_ ?_
    all_goals simp only [evA, evB, evT, Go.undef, aload, astore, afieldAddr, afield, aindex, aindexAddr, abuild, abuildSlice, amakeSlice, aslice, aext, alen, aminmax, minmaxGo, aappend, newsOf, buildCells, cutRows, reps, setCells, AV.cells, allOne, AV.one, Value.oneCell', AV.pure, allPure, AV.free, allFree, rowsFree, Nat.reduceBEq, Nat.reduceAdd, Nat.reduceMul, Nat.reduceSub, Nat.reduceLT, Nat.reduceLeDiff, Int.reduceToNat, reduceIte, reduceCtorEq, Int.reduceLT, Int.reduceLE, Nat.reduceEqDiff, Int.reduceEq, Int.reduceNeg, Int.reduceMul, Int.reduceAdd, Int.reduceSub, Int.reduceBNe, Int.reduceBEq, apart, bnd, LB.ren, LB.lt, fS64_snoc, w64]
  · simp only [evA, evB, evT, Go.undef, aload, astore, afieldAddr, afield, aindex, aindexAddr, abuild, abuildSlice, amakeSlice, aslice, aext, alen, aminmax, minmaxGo, aappend, newsOf, buildCells, cutRows, reps, setCells, AV.cells, allOne, AV.one, Value.oneCell', AV.pure, allPure, AV.free, allFree, rowsFree, Nat.reduceBEq, Nat.reduceAdd, Nat.reduceMul, Nat.reduceSub, Nat.reduceLT, Nat.reduceLeDiff, Int.reduceToNat, reduceIte, reduceCtorEq, Int.reduceLT, Int.reduceLE, Nat.reduceEqDiff, Int.reduceEq, Int.reduceNeg, Int.reduceMul, Int.reduceAdd, Int.reduceSub, Int.reduceBNe, Int.reduceBEq, apart, bnd]
    rfl
theorem Arc.ok (n : Int) (hn : 2 ≤ n) (hn2 : n ≤ 17592186044416) : Ok Try.prog 104 [.int n] (.tup [.int (arcV n), .int 0]) := by
  have h1 : ¬ n < 2 := by omega
  have h2 : ¬ 17592186044416 < n := by omega
  refine ok_of (X := fun _ => []) (Z := fun _ => false) (res := [ResultVar.tmp 2, ResultVar.tmp 3]) tok follows Try.func104 rfl rfl fine104 (by kernel_rfl) (by kernel_rfl) ?_
  simp only [evA, evT, Go.undef, aload, astore, afieldAddr, afield, aindex, aindexAddr, abuild, abuildSlice, amakeSlice, aslice, aext, alen, aminmax, minmaxGo, aappend, newsOf, buildCells, cutRows, reps, setCells, AV.cells, allOne, AV.one, Value.oneCell', AV.pure, allPure, AV.free, allFree, rowsFree, Nat.reduceBEq, Nat.reduceAdd, Nat.reduceMul, Nat.reduceSub, Nat.reduceLT, Nat.reduceLeDiff, Int.reduceToNat, reduceIte, reduceCtorEq, Int.reduceLT, Int.reduceLE, Nat.reduceEqDiff, Int.reduceEq, Int.reduceNeg, Int.reduceMul, Int.reduceAdd, Int.reduceSub, Int.reduceBNe, Int.reduceBEq, apart, bnd, h1, h2]
  refine call_ok (sum.ok n hn hn2) rfl ?_
  simp only [evA, evT, Go.undef, aload, astore, afieldAddr, afield, aindex, aindexAddr, abuild, abuildSlice, amakeSlice, aslice, aext, alen, aminmax, minmaxGo, aappend, newsOf, buildCells, cutRows, reps, setCells, AV.cells, allOne, AV.one, Value.oneCell', AV.pure, allPure, AV.free, allFree, rowsFree, Nat.reduceBEq, Nat.reduceAdd, Nat.reduceMul, Nat.reduceSub, Nat.reduceLT, Nat.reduceLeDiff, Int.reduceToNat, reduceIte, reduceCtorEq, Int.reduceLT, Int.reduceLE, Nat.reduceEqDiff, Int.reduceEq, Int.reduceNeg, Int.reduceMul, Int.reduceAdd, Int.reduceSub, Int.reduceBNe, Int.reduceBEq, apart, bnd]
def quarterV : Int := wrap64 (arcV 2 + arcV 3)
theorem Quarter0.ok : Ok Try.prog 91 [] (.int quarterV) := by
  refine ok_of (X := fun _ => []) (Z := fun _ => false) (res := [ResultVar.tmp 0]) tok follows Try.func91 rfl rfl fine91 (by kernel_rfl) (by kernel_rfl) ?_
  simp only [evA, evT, Go.undef, aload, astore, afieldAddr, afield, aindex, aindexAddr, abuild, abuildSlice, amakeSlice, aslice, aext, alen, aminmax, minmaxGo, aappend, newsOf, buildCells, cutRows, reps, setCells, AV.cells, allOne, AV.one, Value.oneCell', AV.pure, allPure, AV.free, allFree, rowsFree, Nat.reduceBEq, Nat.reduceAdd, Nat.reduceMul, Nat.reduceSub, Nat.reduceLT, Nat.reduceLeDiff, Int.reduceToNat, reduceIte, reduceCtorEq, Int.reduceLT, Int.reduceLE, Nat.reduceEqDiff, Int.reduceEq, Int.reduceNeg, Int.reduceMul, Int.reduceAdd, Int.reduceSub, Int.reduceBNe, Int.reduceBEq, apart, bnd]
  refine call_ok (sum.ok 2 (by decide) (by decide)) rfl ?_
  simp only [evA, evT, Go.undef, aload, astore, afieldAddr, afield, aindex, aindexAddr, abuild, abuildSlice, amakeSlice, aslice, aext, alen, aminmax, minmaxGo, aappend, newsOf, buildCells, cutRows, reps, setCells, AV.cells, allOne, AV.one, Value.oneCell', AV.pure, allPure, AV.free, allFree, rowsFree, Nat.reduceBEq, Nat.reduceAdd, Nat.reduceMul, Nat.reduceSub, Nat.reduceLT, Nat.reduceLeDiff, Int.reduceToNat, reduceIte, reduceCtorEq, Int.reduceLT, Int.reduceLE, Nat.reduceEqDiff, Int.reduceEq, Int.reduceNeg, Int.reduceMul, Int.reduceAdd, Int.reduceSub, Int.reduceBNe, Int.reduceBEq, apart, bnd]
  refine call_ok (sum.ok 3 (by decide) (by decide)) rfl ?_
  simp only [evA, evT, Go.undef, aload, astore, afieldAddr, afield, aindex, aindexAddr, abuild, abuildSlice, amakeSlice, aslice, aext, alen, aminmax, minmaxGo, aappend, newsOf, buildCells, cutRows, reps, setCells, AV.cells, allOne, AV.one, Value.oneCell', AV.pure, allPure, AV.free, allFree, rowsFree, Nat.reduceBEq, Nat.reduceAdd, Nat.reduceMul, Nat.reduceSub, Nat.reduceLT, Nat.reduceLeDiff, Int.reduceToNat, reduceIte, reduceCtorEq, Int.reduceLT, Int.reduceLE, Nat.reduceEqDiff, Int.reduceEq, Int.reduceNeg, Int.reduceMul, Int.reduceAdd, Int.reduceSub, Int.reduceBNe, Int.reduceBEq, apart, bnd, w64, quarterV]
/-- A step's angle. -/
def angV (i : Nat) : Int := if i = 0 then quarterV else arcV (2 ^ i)
def angC (i : Nat) : List AV := (List.range 45).map fun j => if j < i then .int (angV j) else .int 0
theorem angC_len {i : Nat} : (angC i).length = 45 := by simp [angC]
theorem angC_set {i : Nat} (h : i < 45) : (angC i).set i (.int (angV i)) = angC (i + 1) := by
  refine List.ext_getElem (by simp [angC]) fun j h1 h2 => ?_
  rw [List.getElem_set]
  simp only [angC, List.getElem_map, List.getElem_range]
  by_cases h : i = j
  · subst h
    simp
  · rw [if_neg h]
    by_cases hj : j < i
    · rw [if_pos hj, if_pos (by omega)]
    · rw [if_neg hj, if_neg (by omega)]
theorem angC_get {i : Nat} (h : i < 45) : (angC 45).getD i .any = .int (angV i) := by
  rw [List.getD_eq_getElem?_getD, List.getElem?_eq_getElem (by rw [angC_len]; exact h)]
  simp [angC, h]
theorem angC_all (p : AV → Prop) (h : ∀ z : Int, p (.int z)) {i : Nat} : ∀ x ∈ angC i, p x := by
  intro x hx
  obtain ⟨j, _, rfl⟩ := List.mem_map.1 hx
  split <;> exact h _
theorem allOne_of : ∀ (l : List AV), (∀ x ∈ l, x.one = true) → allOne l = true
  | [], _ => rfl
  | x :: r, h => by
    show (x.one && allOne r) = true
    rw [h x (by simp), allOne_of r fun y hy => h y (by simp [hy])]
    rfl
theorem allFree_of : ∀ (l : List AV), (∀ x ∈ l, x.free = true) → allFree l = true
  | [], _ => rfl
  | x :: r, h => by
    show (x.free && allFree r) = true
    rw [h x (by simp), allFree_of r fun y hy => h y (by simp [hy])]
    rfl
theorem allPure_of : ∀ (l : List AV), (∀ x ∈ l, x.pure = true) → allPure l = true
  | [], _ => rfl
  | x :: r, h => by
    show (x.pure && allPure r) = true
    rw [h x (by simp), allPure_of r fun y hy => h y (by simp [hy])]
    rfl
theorem angC_one {i : Nat} : allOne (angC i) = true := allOne_of _ (angC_all (fun x => x.one = true) fun _ => rfl)
theorem angC_free {i : Nat} : allFree (angC i) = true := allFree_of _ (angC_all (fun x => x.free = true) fun _ => rfl)
theorem angC_pure {i : Nat} : allPure (angC i) = true := allPure_of _ (angC_all (fun x => x.pure = true) fun _ => rfl)
theorem angC_snap {lb : Nat → Option LB} {i : Nat} : (angC i).map (snap lb 5) = angC i := by
  have : ∀ x ∈ angC i, snap lb 5 x = id x := angC_all _ fun _ => rfl
  rw [List.map_congr_left this, List.map_id]
theorem setCells_take : ∀ (xs l : List AV) (o : Nat), o + xs.length = l.length → setCells l o xs = l.take o ++ xs
  | [], l, o, h => by
    rw [setCells, List.append_nil, List.take_of_length_le (by simp at h; omega)]
  | x :: xs, l, o, h => by
    simp only [List.length_cons] at h
    rw [setCells, setCells_take xs (l.set o x) (o + 1) (by simp; omega), List.take_succ_eq_append_getElem (by simp; omega), List.take_set, List.set_eq_of_length_le (by simp; omega)]
    simp
theorem angC_over {l : List AV} (h : l.length = 45) {i : Nat} : setCells l 0 (angC i) = angC i := by
  rw [setCells_take _ _ _ (by rw [angC_len, h])]
  rfl
theorem angC_take {i : Nat} : (angC i).take 45 = angC i := List.take_of_length_le (by rw [angC_len]; exact Nat.le_refl _)
theorem sh1 {i : Nat} (h : i ≤ 44) : IntKind.i64.wrap (1 * 2 ^ min i IntKind.i64.bits) = 2 ^ i := by
  have e : min i IntKind.i64.bits = i := by
    have : IntKind.i64.bits = 64 := rfl
    omega
  rw [e, Int.one_mul, pow_wr (by omega)]
theorem angles.ok : Ok Try.prog 101 [] (.agg (angC 45)) := by
  refine ok_of (X := fun _ => []) (Z := fun _ => false) (res := [ResultVar.cell 0 118]) tok follows Try.func101 rfl rfl fine101 (by kernel_rfl) (by kernel_rfl) ?_
  simp only [evA, evT, Go.undef, aload, astore, afieldAddr, afield, aindex, aindexAddr, abuild, abuildSlice, amakeSlice, aslice, aext, alen, aminmax, minmaxGo, aappend, newsOf, buildCells, cutRows, reps, setCells, AV.cells, allOne, AV.one, Value.oneCell', AV.pure, allPure, AV.free, allFree, rowsFree, Nat.reduceBEq, Nat.reduceAdd, Nat.reduceMul, Nat.reduceSub, Nat.reduceLT, Nat.reduceLeDiff, Int.reduceToNat, reduceIte, reduceCtorEq, Int.reduceLT, Int.reduceLE, Nat.reduceEqDiff, Int.reduceEq, Int.reduceNeg, Int.reduceMul, Int.reduceAdd, Int.reduceSub, Int.reduceBNe, Int.reduceBEq, apart, bnd]
  refine call_ok Quarter0.ok rfl ?_
  simp only [evA, evT, Go.undef, aload, astore, afieldAddr, afield, aindex, aindexAddr, abuild, abuildSlice, amakeSlice, aslice, aext, alen, aminmax, minmaxGo, aappend, newsOf, buildCells, cutRows, reps, setCells, AV.cells, allOne, AV.one, Value.oneCell', AV.pure, allPure, AV.free, allFree, rowsFree, Nat.reduceBEq, Nat.reduceAdd, Nat.reduceMul, Nat.reduceSub, Nat.reduceLT, Nat.reduceLeDiff, Int.reduceToNat, reduceIte, reduceCtorEq, Int.reduceLT, Int.reduceLE, Nat.reduceEqDiff, Int.reduceEq, Int.reduceNeg, Int.reduceMul, Int.reduceAdd, Int.reduceSub, Int.reduceBNe, Int.reduceBEq, apart, bnd]
  refine l_inv (fun i => ⟨[(2, .int (i + 1 : Nat)), (1, .loc 1 0), (0, .loc 0 0)], [(1, some (.box (angC (i + 1)))), (0, some (.box (List.replicate 45 (.int 0))))], 2⟩) 44 ?_ (fun i hi K hK => ?_) (fun K => ?_)
  · refine weak_of (fun l => l) rfl ?_ ?_
    · refine ⟨⟨rfl, .inl ⟨rfl, angC_free⟩, rfl⟩, ⟨rfl, .inl ⟨rfl, rfl⟩, rfl⟩, trivial⟩
    · simp only [evA, evB, evT, Go.undef, aload, astore, afieldAddr, afield, aindex, aindexAddr, abuild, abuildSlice, amakeSlice, aslice, aext, alen, aminmax, minmaxGo, aappend, newsOf, buildCells, cutRows, reps, setCells, AV.cells, allOne, AV.one, Value.oneCell', AV.pure, allPure, AV.free, allFree, rowsFree, Nat.reduceBEq, Nat.reduceAdd, Nat.reduceMul, Nat.reduceSub, Nat.reduceLT, Nat.reduceLeDiff, Int.reduceToNat, reduceIte, reduceCtorEq, Int.reduceLT, Int.reduceLE, Nat.reduceEqDiff, Int.reduceEq, Int.reduceNeg, Int.reduceMul, Int.reduceAdd, Int.reduceSub, Int.reduceBNe, Int.reduceBEq, apart, bnd]
  · have h1 : ((i + 1 : Nat) : Int) < 45 := by omega
    have h2 : (0 : Int) ≤ ((i + 1 : Nat) : Int) := by omega
    have h3 : IntKind.i64.wrap (((i + 1 : Nat) : Int) + 1) = ((i + 1 + 1 : Nat) : Int) := by rw [wr (by omega)]; omega
    have h4 : i + 1 + 1 ≤ 45 := by omega
    have hp1 : (2 : Int) ^ (i + 1) ≤ 2 ^ 44 := pow_le (by omega)
    have hp2 : (2 : Int) ^ 1 ≤ 2 ^ (i + 1) := pow_le (by omega)
    have he : arcV (2 ^ (i + 1)) = angV (i + 1) := by unfold angV; rw [if_neg (by omega)]
    simp only [evA, evT, Go.undef, aload, astore, afieldAddr, afield, aindex, aindexAddr, abuild, abuildSlice, amakeSlice, aslice, aext, alen, aminmax, minmaxGo, aappend, newsOf, buildCells, cutRows, reps, setCells, AV.cells, allOne, AV.one, Value.oneCell', AV.pure, allPure, AV.free, allFree, rowsFree, Nat.reduceBEq, Nat.reduceAdd, Nat.reduceMul, Nat.reduceSub, Nat.reduceLT, Nat.reduceLeDiff, Int.reduceToNat, reduceIte, reduceCtorEq, Int.reduceLT, Int.reduceLE, Nat.reduceEqDiff, Int.reduceEq, Int.reduceNeg, Int.reduceMul, Int.reduceAdd, Int.reduceSub, Int.reduceBNe, Int.reduceBEq, apart, bnd, h1, h2, Int.toNat_natCast, sh1 (show i + 1 ≤ 44 by omega)]
    refine call_ok (Arc.ok (2 ^ (i + 1)) (by omega) (by omega)) rfl ?_
    simp only [evA, evT, Go.undef, aload, astore, afieldAddr, afield, aindex, aindexAddr, abuild, abuildSlice, amakeSlice, aslice, aext, alen, aminmax, minmaxGo, aappend, newsOf, buildCells, cutRows, reps, setCells, AV.cells, allOne, AV.one, Value.oneCell', AV.pure, allPure, AV.free, allFree, rowsFree, Nat.reduceBEq, Nat.reduceAdd, Nat.reduceMul, Nat.reduceSub, Nat.reduceLT, Nat.reduceLeDiff, Int.reduceToNat, reduceIte, reduceCtorEq, Int.reduceLT, Int.reduceLE, Nat.reduceEqDiff, Int.reduceEq, Int.reduceNeg, Int.reduceMul, Int.reduceAdd, Int.reduceSub, Int.reduceBNe, Int.reduceBEq, apart, bnd, h1, h2, h3, h4, Int.toNat_natCast, angC_len, he, angC_set (show i + 1 < 45 by omega)]
    refine hK _ (weak_of (fun l => l) rfl ?_ ?_)
    all_goals simp only [evA, evB, evT, Go.undef, aload, astore, afieldAddr, afield, aindex, aindexAddr, abuild, abuildSlice, amakeSlice, aslice, aext, alen, aminmax, minmaxGo, aappend, newsOf, buildCells, cutRows, reps, setCells, AV.cells, allOne, AV.one, Value.oneCell', AV.pure, allPure, AV.free, allFree, rowsFree, Nat.reduceBEq, Nat.reduceAdd, Nat.reduceMul, Nat.reduceSub, Nat.reduceLT, Nat.reduceLeDiff, Int.reduceToNat, reduceIte, reduceCtorEq, Int.reduceLT, Int.reduceLE, Nat.reduceEqDiff, Int.reduceEq, Int.reduceNeg, Int.reduceMul, Int.reduceAdd, Int.reduceSub, Int.reduceBNe, Int.reduceBEq, apart, bnd, angC_free]
  · simp only [evA, evT, Go.undef, aload, astore, afieldAddr, afield, aindex, aindexAddr, abuild, abuildSlice, amakeSlice, aslice, aext, alen, aminmax, minmaxGo, aappend, newsOf, buildCells, cutRows, reps, setCells, AV.cells, allOne, AV.one, Value.oneCell', AV.pure, allPure, AV.free, allFree, rowsFree, Nat.reduceBEq, Nat.reduceAdd, Nat.reduceMul, Nat.reduceSub, Nat.reduceLT, Nat.reduceLeDiff, Int.reduceToNat, reduceIte, reduceCtorEq, Int.reduceLT, Int.reduceLE, Nat.reduceEqDiff, Int.reduceEq, Int.reduceNeg, Int.reduceMul, Int.reduceAdd, Int.reduceSub, Int.reduceBNe, Int.reduceBEq, apart, bnd, angC_len, angC_take, angC_one, angC_over, angC_snap, List.length_replicate]
/-- A step of a turn. -/
def stV (i : Nat) (ang : Int) (p : Int × Int × Int) : Int × Int × Int :=
  if 0 ≤ p.2.2 then (wrap64 (p.1 - p.2.1 / 2 ^ i), wrap64 (p.2.1 + p.1 / 2 ^ i), wrap64 (p.2.2 - ang)) else (wrap64 (p.1 + p.2.1 / 2 ^ i), wrap64 (p.2.1 - p.1 / 2 ^ i), wrap64 (p.2.2 + ang))
def runV (x z : Int) : Nat → Int × Int × Int
  | 0 => (x, 0, z)
  | i + 1 => stV i (angV i) (runV x z i)
theorem fd {x : Int} {i : Nat} (h : i ≤ 62) : x.fdiv (2 ^ min i IntKind.i64.bits) = x / 2 ^ i := by
  have e : min i IntKind.i64.bits = i := by
    have : IntKind.i64.bits = 64 := rfl
    omega
  rw [e, Int.fdiv_eq_ediv_of_nonneg _ (by have := pow_pos i; omega)]
theorem run.ok (x z : Int) : Ok Try.prog 98 [.int x, .int z] (.tup [cxA (runV x z 45).1 (runV x z 45).2.1, .int (runV x z 45).2.2]) := by
  refine ok_of (X := fun _ => []) (Z := fun _ => false) (res := [ResultVar.cell 4 35, ResultVar.tmp 5]) tok follows Try.func98 rfl rfl fine98 (by kernel_rfl) (by kernel_rfl) ?_
  simp only [evA, evT, Go.undef, aload, astore, afieldAddr, afield, aindex, aindexAddr, abuild, abuildSlice, amakeSlice, aslice, aext, alen, aminmax, minmaxGo, aappend, newsOf, buildCells, cutRows, reps, setCells, AV.cells, allOne, AV.one, Value.oneCell', AV.pure, allPure, AV.free, allFree, rowsFree, Nat.reduceBEq, Nat.reduceAdd, Nat.reduceMul, Nat.reduceSub, Nat.reduceLT, Nat.reduceLeDiff, Int.reduceToNat, reduceIte, reduceCtorEq, Int.reduceLT, Int.reduceLE, Nat.reduceEqDiff, Int.reduceEq, Int.reduceNeg, Int.reduceMul, Int.reduceAdd, Int.reduceSub, Int.reduceBNe, Int.reduceBEq, apart, bnd]
  refine call_ok angles.ok (by simp only [evA, evT, Go.undef, aload, astore, afieldAddr, afield, aindex, aindexAddr, abuild, abuildSlice, amakeSlice, aslice, aext, alen, aminmax, minmaxGo, aappend, newsOf, buildCells, cutRows, reps, setCells, AV.cells, allOne, AV.one, Value.oneCell', AV.pure, allPure, AV.free, allFree, rowsFree, Nat.reduceBEq, Nat.reduceAdd, Nat.reduceMul, Nat.reduceSub, Nat.reduceLT, Nat.reduceLeDiff, Int.reduceToNat, reduceIte, reduceCtorEq, Int.reduceLT, Int.reduceLE, Nat.reduceEqDiff, Int.reduceEq, Int.reduceNeg, Int.reduceMul, Int.reduceAdd, Int.reduceSub, Int.reduceBNe, Int.reduceBEq, apart, bnd, angC_pure]) ?_
  simp only [evA, evT, Go.undef, aload, astore, afieldAddr, afield, aindex, aindexAddr, abuild, abuildSlice, amakeSlice, aslice, aext, alen, aminmax, minmaxGo, aappend, newsOf, buildCells, cutRows, reps, setCells, AV.cells, allOne, AV.one, Value.oneCell', AV.pure, allPure, AV.free, allFree, rowsFree, Nat.reduceBEq, Nat.reduceAdd, Nat.reduceMul, Nat.reduceSub, Nat.reduceLT, Nat.reduceLeDiff, Int.reduceToNat, reduceIte, reduceCtorEq, Int.reduceLT, Int.reduceLE, Nat.reduceEqDiff, Int.reduceEq, Int.reduceNeg, Int.reduceMul, Int.reduceAdd, Int.reduceSub, Int.reduceBNe, Int.reduceBEq, apart, bnd]
  refine l_inv (fun i => ⟨[(14, .int i), (13, .agg (angC 45)), (1, .int (runV x z i).2.2), (6, .loc 1 0), (4, .loc 0 0)], [(1, some (.box [.int (runV x z i).1, .int (runV x z i).2.1])), (0, some (.box [.int 0, .int 0]))], 2⟩) 45 ?_ (fun i hi K hK => ?_) (fun K => ?_)
  · refine weak_of (fun l => l) rfl ?_ ?_
    all_goals simp only [evA, evB, evT, Go.undef, aload, astore, afieldAddr, afield, aindex, aindexAddr, abuild, abuildSlice, amakeSlice, aslice, aext, alen, aminmax, minmaxGo, aappend, newsOf, buildCells, cutRows, reps, setCells, AV.cells, allOne, AV.one, Value.oneCell', AV.pure, allPure, AV.free, allFree, rowsFree, Nat.reduceBEq, Nat.reduceAdd, Nat.reduceMul, Nat.reduceSub, Nat.reduceLT, Nat.reduceLeDiff, Int.reduceToNat, reduceIte, reduceCtorEq, Int.reduceLT, Int.reduceLE, Nat.reduceEqDiff, Int.reduceEq, Int.reduceNeg, Int.reduceMul, Int.reduceAdd, Int.reduceSub, Int.reduceBNe, Int.reduceBEq, apart, bnd, angC_free, runV, Int.natCast_zero]
  · have h1 : (i : Int) < 45 := by omega
    have h2 : (0 : Int) ≤ (i : Int) := by omega
    have h3 : IntKind.i64.wrap ((i : Int) + 1) = ((i + 1 : Nat) : Int) := by rw [wr (by omega)]; omega
    have h4 : i < 45 := hi
    have hf : ∀ y : Int, y.fdiv (2 ^ min i IntKind.i64.bits) = y / 2 ^ i := fun y => fd (by omega)
    simp only [evA, evT, Go.undef, aload, astore, afieldAddr, afield, aindex, aindexAddr, abuild, abuildSlice, amakeSlice, aslice, aext, alen, aminmax, minmaxGo, aappend, newsOf, buildCells, cutRows, reps, setCells, AV.cells, allOne, AV.one, Value.oneCell', AV.pure, allPure, AV.free, allFree, rowsFree, Nat.reduceBEq, Nat.reduceAdd, Nat.reduceMul, Nat.reduceSub, Nat.reduceLT, Nat.reduceLeDiff, Int.reduceToNat, reduceIte, reduceCtorEq, Int.reduceLT, Int.reduceLE, Nat.reduceEqDiff, Int.reduceEq, Int.reduceNeg, Int.reduceMul, Int.reduceAdd, Int.reduceSub, Int.reduceBNe, Int.reduceBEq, apart, bnd, h1, h2, h3, h4, Int.toNat_natCast, angC_len, angC_get hi, hf]
    by_cases hz : 0 ≤ (runV x z i).2.2
    · have e : runV x z (i + 1) = (wrap64 ((runV x z i).1 - (runV x z i).2.1 / 2 ^ i), wrap64 ((runV x z i).2.1 + (runV x z i).1 / 2 ^ i), wrap64 ((runV x z i).2.2 - angV i)) := by
        show stV i (angV i) (runV x z i) = _
        unfold stV
        rw [if_pos hz]
      simp only [evA, evT, Go.undef, aload, astore, afieldAddr, afield, aindex, aindexAddr, abuild, abuildSlice, amakeSlice, aslice, aext, alen, aminmax, minmaxGo, aappend, newsOf, buildCells, cutRows, reps, setCells, AV.cells, allOne, AV.one, Value.oneCell', AV.pure, allPure, AV.free, allFree, rowsFree, Nat.reduceBEq, Nat.reduceAdd, Nat.reduceMul, Nat.reduceSub, Nat.reduceLT, Nat.reduceLeDiff, Int.reduceToNat, reduceIte, reduceCtorEq, Int.reduceLT, Int.reduceLE, Nat.reduceEqDiff, Int.reduceEq, Int.reduceNeg, Int.reduceMul, Int.reduceAdd, Int.reduceSub, Int.reduceBNe, Int.reduceBEq, apart, bnd, hz, h3]
      refine hK _ (weak_of (fun l => l) rfl ?_ ?_)
      all_goals simp only [evA, evB, evT, Go.undef, aload, astore, afieldAddr, afield, aindex, aindexAddr, abuild, abuildSlice, amakeSlice, aslice, aext, alen, aminmax, minmaxGo, aappend, newsOf, buildCells, cutRows, reps, setCells, AV.cells, allOne, AV.one, Value.oneCell', AV.pure, allPure, AV.free, allFree, rowsFree, Nat.reduceBEq, Nat.reduceAdd, Nat.reduceMul, Nat.reduceSub, Nat.reduceLT, Nat.reduceLeDiff, Int.reduceToNat, reduceIte, reduceCtorEq, Int.reduceLT, Int.reduceLE, Nat.reduceEqDiff, Int.reduceEq, Int.reduceNeg, Int.reduceMul, Int.reduceAdd, Int.reduceSub, Int.reduceBNe, Int.reduceBEq, apart, bnd, angC_free, e, w64]
    · have e : runV x z (i + 1) = (wrap64 ((runV x z i).1 + (runV x z i).2.1 / 2 ^ i), wrap64 ((runV x z i).2.1 - (runV x z i).1 / 2 ^ i), wrap64 ((runV x z i).2.2 + angV i)) := by
        show stV i (angV i) (runV x z i) = _
        unfold stV
        rw [if_neg hz]
      simp only [evA, evT, Go.undef, aload, astore, afieldAddr, afield, aindex, aindexAddr, abuild, abuildSlice, amakeSlice, aslice, aext, alen, aminmax, minmaxGo, aappend, newsOf, buildCells, cutRows, reps, setCells, AV.cells, allOne, AV.one, Value.oneCell', AV.pure, allPure, AV.free, allFree, rowsFree, Nat.reduceBEq, Nat.reduceAdd, Nat.reduceMul, Nat.reduceSub, Nat.reduceLT, Nat.reduceLeDiff, Int.reduceToNat, reduceIte, reduceCtorEq, Int.reduceLT, Int.reduceLE, Nat.reduceEqDiff, Int.reduceEq, Int.reduceNeg, Int.reduceMul, Int.reduceAdd, Int.reduceSub, Int.reduceBNe, Int.reduceBEq, apart, bnd, hz, h3]
      refine hK _ (weak_of (fun l => l) rfl ?_ ?_)
      all_goals simp only [evA, evB, evT, Go.undef, aload, astore, afieldAddr, afield, aindex, aindexAddr, abuild, abuildSlice, amakeSlice, aslice, aext, alen, aminmax, minmaxGo, aappend, newsOf, buildCells, cutRows, reps, setCells, AV.cells, allOne, AV.one, Value.oneCell', AV.pure, allPure, AV.free, allFree, rowsFree, Nat.reduceBEq, Nat.reduceAdd, Nat.reduceMul, Nat.reduceSub, Nat.reduceLT, Nat.reduceLeDiff, Int.reduceToNat, reduceIte, reduceCtorEq, Int.reduceLT, Int.reduceLE, Nat.reduceEqDiff, Int.reduceEq, Int.reduceNeg, Int.reduceMul, Int.reduceAdd, Int.reduceSub, Int.reduceBNe, Int.reduceBEq, apart, bnd, angC_free, e, w64]
  · simp only [evA, evT, Go.undef, aload, astore, afieldAddr, afield, aindex, aindexAddr, abuild, abuildSlice, amakeSlice, aslice, aext, alen, aminmax, minmaxGo, aappend, newsOf, buildCells, cutRows, reps, setCells, AV.cells, allOne, AV.one, Value.oneCell', AV.pure, allPure, AV.free, allFree, rowsFree, Nat.reduceBEq, Nat.reduceAdd, Nat.reduceMul, Nat.reduceSub, Nat.reduceLT, Nat.reduceLeDiff, Int.reduceToNat, reduceIte, reduceCtorEq, Int.reduceLT, Int.reduceLE, Nat.reduceEqDiff, Int.reduceEq, Int.reduceNeg, Int.reduceMul, Int.reduceAdd, Int.reduceSub, Int.reduceBNe, Int.reduceBEq, apart, bnd]
theorem gRun.ok (x z : Int) (hx : 0 ≤ x ∧ x ≤ 144115188075855872) (hz : -72057594037927936 ≤ z ∧ z ≤ 72057594037927936) : Ok Try.prog 94 [.int x, .int z] (.tup [cxA (runV x z 45).1 (runV x z 45).2.1, .int (runV x z 45).2.2, .int 0]) := by
  have h1 : ¬ x < 0 := by omega
  have h2 : ¬ 144115188075855872 < x := by omega
  have h3 : ¬ z < -72057594037927936 := by omega
  have h4 : ¬ 72057594037927936 < z := by omega
  refine ok_of (X := fun _ => []) (Z := fun _ => false) (res := [ResultVar.cell 4 35, ResultVar.tmp 5, ResultVar.tmp 6]) tok follows Try.func94 rfl rfl fine94 (by kernel_rfl) (by kernel_rfl) ?_
  simp only [evA, evT, Go.undef, aload, astore, afieldAddr, afield, aindex, aindexAddr, abuild, abuildSlice, amakeSlice, aslice, aext, alen, aminmax, minmaxGo, aappend, newsOf, buildCells, cutRows, reps, setCells, AV.cells, allOne, AV.one, Value.oneCell', AV.pure, allPure, AV.free, allFree, rowsFree, Nat.reduceBEq, Nat.reduceAdd, Nat.reduceMul, Nat.reduceSub, Nat.reduceLT, Nat.reduceLeDiff, Int.reduceToNat, reduceIte, reduceCtorEq, Int.reduceLT, Int.reduceLE, Nat.reduceEqDiff, Int.reduceEq, Int.reduceNeg, Int.reduceMul, Int.reduceAdd, Int.reduceSub, Int.reduceBNe, Int.reduceBEq, apart, bnd, h1, h2, h3, h4]
  refine call_ok (run.ok x z) rfl ?_
  simp only [evA, evT, Go.undef, aload, astore, afieldAddr, afield, aindex, aindexAddr, abuild, abuildSlice, amakeSlice, aslice, aext, alen, aminmax, minmaxGo, aappend, newsOf, buildCells, cutRows, reps, setCells, AV.cells, allOne, AV.one, Value.oneCell', AV.pure, allPure, AV.free, allFree, rowsFree, Nat.reduceBEq, Nat.reduceAdd, Nat.reduceMul, Nat.reduceSub, Nat.reduceLT, Nat.reduceLeDiff, Int.reduceToNat, reduceIte, reduceCtorEq, Int.reduceLT, Int.reduceLE, Nat.reduceEqDiff, Int.reduceEq, Int.reduceNeg, Int.reduceMul, Int.reduceAdd, Int.reduceSub, Int.reduceBNe, Int.reduceBEq, apart, bnd]
def gainV : Int := (runV 72057594037927936 0 45).1
theorem Gain0.ok : Ok Try.prog 99 [] (.int gainV) := by
  refine ok_of (X := fun _ => []) (Z := fun _ => false) (res := [ResultVar.tmp 0]) tok follows Try.func99 rfl rfl fine99 (by kernel_rfl) (by kernel_rfl) ?_
  simp only [evA, evT, Go.undef, aload, astore, afieldAddr, afield, aindex, aindexAddr, abuild, abuildSlice, amakeSlice, aslice, aext, alen, aminmax, minmaxGo, aappend, newsOf, buildCells, cutRows, reps, setCells, AV.cells, allOne, AV.one, Value.oneCell', AV.pure, allPure, AV.free, allFree, rowsFree, Nat.reduceBEq, Nat.reduceAdd, Nat.reduceMul, Nat.reduceSub, Nat.reduceLT, Nat.reduceLeDiff, Int.reduceToNat, reduceIte, reduceCtorEq, Int.reduceLT, Int.reduceLE, Nat.reduceEqDiff, Int.reduceEq, Int.reduceNeg, Int.reduceMul, Int.reduceAdd, Int.reduceSub, Int.reduceBNe, Int.reduceBEq, apart, bnd]
  refine call_ok (run.ok _ _) rfl ?_
  simp only [evA, evT, Go.undef, aload, astore, afieldAddr, afield, aindex, aindexAddr, abuild, abuildSlice, amakeSlice, aslice, aext, alen, aminmax, minmaxGo, aappend, newsOf, buildCells, cutRows, reps, setCells, AV.cells, allOne, AV.one, Value.oneCell', AV.pure, allPure, AV.free, allFree, rowsFree, Nat.reduceBEq, Nat.reduceAdd, Nat.reduceMul, Nat.reduceSub, Nat.reduceLT, Nat.reduceLeDiff, Int.reduceToNat, reduceIte, reduceCtorEq, Int.reduceLT, Int.reduceLE, Nat.reduceEqDiff, Int.reduceEq, Int.reduceNeg, Int.reduceMul, Int.reduceAdd, Int.reduceSub, Int.reduceBNe, Int.reduceBEq, apart, bnd, gainV]
theorem shl1 {x : Int} : IntKind.i64.wrap (x * 2 ^ min 1 IntKind.i64.bits) = wrap64 (2 * x) := by
  rw [show min 1 IntKind.i64.bits = 1 from rfl, Int.pow_succ, Int.pow_zero, Int.one_mul, w64, Int.mul_comm]
/-- What is left of a quotient, and it, bit by bit. -/
def invS (g : Int) : Nat → Int × Int
  | 0 => (72057594037927936, 0)
  | i + 1 => if g ≤ wrap64 (2 * (invS g i).1) then (wrap64 (wrap64 (2 * (invS g i).1) - g), Go.bits .or .i64 (wrap64 (2 * (invS g i).2)) 1) else (wrap64 (2 * (invS g i).1), wrap64 (2 * (invS g i).2))
def invV : Int := (invS gainV 56).2
theorem Inverse0.ok : Ok Try.prog 95 [] (.int invV) := by
  refine ok_of (X := fun _ => []) (Z := fun _ => false) (res := [ResultVar.tmp 0]) tok follows Try.func95 rfl rfl fine95 (by kernel_rfl) (by kernel_rfl) ?_
  simp only [evA, evT, Go.undef, aload, astore, afieldAddr, afield, aindex, aindexAddr, abuild, abuildSlice, amakeSlice, aslice, aext, alen, aminmax, minmaxGo, aappend, newsOf, buildCells, cutRows, reps, setCells, AV.cells, allOne, AV.one, Value.oneCell', AV.pure, allPure, AV.free, allFree, rowsFree, Nat.reduceBEq, Nat.reduceAdd, Nat.reduceMul, Nat.reduceSub, Nat.reduceLT, Nat.reduceLeDiff, Int.reduceToNat, reduceIte, reduceCtorEq, Int.reduceLT, Int.reduceLE, Nat.reduceEqDiff, Int.reduceEq, Int.reduceNeg, Int.reduceMul, Int.reduceAdd, Int.reduceSub, Int.reduceBNe, Int.reduceBEq, apart, bnd]
  refine call_ok Gain0.ok rfl ?_
  simp only [evA, evT, Go.undef, aload, astore, afieldAddr, afield, aindex, aindexAddr, abuild, abuildSlice, amakeSlice, aslice, aext, alen, aminmax, minmaxGo, aappend, newsOf, buildCells, cutRows, reps, setCells, AV.cells, allOne, AV.one, Value.oneCell', AV.pure, allPure, AV.free, allFree, rowsFree, Nat.reduceBEq, Nat.reduceAdd, Nat.reduceMul, Nat.reduceSub, Nat.reduceLT, Nat.reduceLeDiff, Int.reduceToNat, reduceIte, reduceCtorEq, Int.reduceLT, Int.reduceLE, Nat.reduceEqDiff, Int.reduceEq, Int.reduceNeg, Int.reduceMul, Int.reduceAdd, Int.reduceSub, Int.reduceBNe, Int.reduceBEq, apart, bnd]
  refine l_inv (fun i => ⟨[(5, .int i), (2, .loc 0 0), (1, .int gainV)], [(0, some (.box [.int (invS gainV i).1, .int (invS gainV i).2]))], 1⟩) 56 ?_ (fun i hi K hK => ?_) (fun K => ?_)
  · refine weak_of (fun l => l) rfl ?_ ?_
    all_goals simp only [evA, evB, evT, Go.undef, aload, astore, afieldAddr, afield, aindex, aindexAddr, abuild, abuildSlice, amakeSlice, aslice, aext, alen, aminmax, minmaxGo, aappend, newsOf, buildCells, cutRows, reps, setCells, AV.cells, allOne, AV.one, Value.oneCell', AV.pure, allPure, AV.free, allFree, rowsFree, Nat.reduceBEq, Nat.reduceAdd, Nat.reduceMul, Nat.reduceSub, Nat.reduceLT, Nat.reduceLeDiff, Int.reduceToNat, reduceIte, reduceCtorEq, Int.reduceLT, Int.reduceLE, Nat.reduceEqDiff, Int.reduceEq, Int.reduceNeg, Int.reduceMul, Int.reduceAdd, Int.reduceSub, Int.reduceBNe, Int.reduceBEq, apart, bnd, invS, Int.natCast_zero]
  · have h1 : (i : Int) < 56 := by omega
    have h3 : IntKind.i64.wrap ((i : Int) + 1) = ((i + 1 : Nat) : Int) := by rw [wr (by omega)]; omega
    by_cases hg : gainV ≤ wrap64 (2 * (invS gainV i).1)
    · have e : invS gainV (i + 1) = (wrap64 (wrap64 (2 * (invS gainV i).1) - gainV), Go.bits .or .i64 (wrap64 (2 * (invS gainV i).2)) 1) := by rw [invS, if_pos hg]
      simp only [evA, evT, Go.undef, aload, astore, afieldAddr, afield, aindex, aindexAddr, abuild, abuildSlice, amakeSlice, aslice, aext, alen, aminmax, minmaxGo, aappend, newsOf, buildCells, cutRows, reps, setCells, AV.cells, allOne, AV.one, Value.oneCell', AV.pure, allPure, AV.free, allFree, rowsFree, Nat.reduceBEq, Nat.reduceAdd, Nat.reduceMul, Nat.reduceSub, Nat.reduceLT, Nat.reduceLeDiff, Int.reduceToNat, reduceIte, reduceCtorEq, Int.reduceLT, Int.reduceLE, Nat.reduceEqDiff, Int.reduceEq, Int.reduceNeg, Int.reduceMul, Int.reduceAdd, Int.reduceSub, Int.reduceBNe, Int.reduceBEq, apart, bnd, h1, h3, shl1, hg]
      refine hK _ (weak_of (fun l => l) rfl ?_ ?_)
      all_goals simp only [evA, evB, evT, Go.undef, aload, astore, afieldAddr, afield, aindex, aindexAddr, abuild, abuildSlice, amakeSlice, aslice, aext, alen, aminmax, minmaxGo, aappend, newsOf, buildCells, cutRows, reps, setCells, AV.cells, allOne, AV.one, Value.oneCell', AV.pure, allPure, AV.free, allFree, rowsFree, Nat.reduceBEq, Nat.reduceAdd, Nat.reduceMul, Nat.reduceSub, Nat.reduceLT, Nat.reduceLeDiff, Int.reduceToNat, reduceIte, reduceCtorEq, Int.reduceLT, Int.reduceLE, Nat.reduceEqDiff, Int.reduceEq, Int.reduceNeg, Int.reduceMul, Int.reduceAdd, Int.reduceSub, Int.reduceBNe, Int.reduceBEq, apart, bnd, e, w64]
    · have e : invS gainV (i + 1) = (wrap64 (2 * (invS gainV i).1), wrap64 (2 * (invS gainV i).2)) := by rw [invS, if_neg hg]
      simp only [evA, evT, Go.undef, aload, astore, afieldAddr, afield, aindex, aindexAddr, abuild, abuildSlice, amakeSlice, aslice, aext, alen, aminmax, minmaxGo, aappend, newsOf, buildCells, cutRows, reps, setCells, AV.cells, allOne, AV.one, Value.oneCell', AV.pure, allPure, AV.free, allFree, rowsFree, Nat.reduceBEq, Nat.reduceAdd, Nat.reduceMul, Nat.reduceSub, Nat.reduceLT, Nat.reduceLeDiff, Int.reduceToNat, reduceIte, reduceCtorEq, Int.reduceLT, Int.reduceLE, Nat.reduceEqDiff, Int.reduceEq, Int.reduceNeg, Int.reduceMul, Int.reduceAdd, Int.reduceSub, Int.reduceBNe, Int.reduceBEq, apart, bnd, h1, h3, shl1, hg]
      refine hK _ (weak_of (fun l => l) rfl ?_ ?_)
      all_goals simp only [evA, evB, evT, Go.undef, aload, astore, afieldAddr, afield, aindex, aindexAddr, abuild, abuildSlice, amakeSlice, aslice, aext, alen, aminmax, minmaxGo, aappend, newsOf, buildCells, cutRows, reps, setCells, AV.cells, allOne, AV.one, Value.oneCell', AV.pure, allPure, AV.free, allFree, rowsFree, Nat.reduceBEq, Nat.reduceAdd, Nat.reduceMul, Nat.reduceSub, Nat.reduceLT, Nat.reduceLeDiff, Int.reduceToNat, reduceIte, reduceCtorEq, Int.reduceLT, Int.reduceLE, Nat.reduceEqDiff, Int.reduceEq, Int.reduceNeg, Int.reduceMul, Int.reduceAdd, Int.reduceSub, Int.reduceBNe, Int.reduceBEq, apart, bnd, e]
  · simp only [evA, evT, Go.undef, aload, astore, afieldAddr, afield, aindex, aindexAddr, abuild, abuildSlice, amakeSlice, aslice, aext, alen, aminmax, minmaxGo, aappend, newsOf, buildCells, cutRows, reps, setCells, AV.cells, allOne, AV.one, Value.oneCell', AV.pure, allPure, AV.free, allFree, rowsFree, Nat.reduceBEq, Nat.reduceAdd, Nat.reduceMul, Nat.reduceSub, Nat.reduceLT, Nat.reduceLeDiff, Int.reduceToNat, reduceIte, reduceCtorEq, Int.reduceLT, Int.reduceLE, Nat.reduceEqDiff, Int.reduceEq, Int.reduceNeg, Int.reduceMul, Int.reduceAdd, Int.reduceSub, Int.reduceBNe, Int.reduceBEq, apart, bnd, invV]
end Go.Proofs.YtnnjjblgilibgaaV

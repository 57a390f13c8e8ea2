import Derived.Test.YtfmhdfaelgkmcaaVpZ
import Derived.Test.YtfmhdfaelgkmcaaVfD
import Derived.Test.YtfmhdfaelgkmcaaVsA
/- The states of a bin, in order: a function that is gone through, with cells of its own. -/
namespace Go.Proofs.YtfmhdfaelgkmcaaV
open Go Go.RowKit
set_option linter.unusedVariables false
set_option linter.unusedSimpArgs false
set_option maxRecDepth 100000
set_option maxHeartbeats 40000000
theorem fine77 : Fine Try.prog 77 := fun _ _ => by kernel_rfl
theorem fine76 : Fine Try.prog 76 := fun _ _ => by kernel_rfl
theorem fine75 : Fine Try.prog 75 := fun _ _ => by kernel_rfl
theorem fine116 : Fine Try.prog 116 := fun _ _ => by kernel_rfl
theorem part.ok (x : Int) (hx : -9223372036854775808 ≤ x ∧ x < 9223372036854775808) : Ok Try.prog 77 [.int x] (.int (rsh x 13 1)) := by
  refine ok_of (X := fun _ => []) (Z := fun _ => false) (res := [ResultVar.tmp 2]) tok follows Try.func77 rfl rfl fine77 (by kernel_rfl) (by kernel_rfl) ?_
  simp only [evA, evT, Go.undef, aload, astore, afieldAddr, afield, aindex, aindexAddr, abuild, abuildSlice, amakeSlice, aslice, aext, alen, aminmax, minmaxGo, aappend, newsOf, buildCells, cutRows, reps, setCells, AV.cells, allOne, AV.one, Value.oneCell', AV.pure, allPure, AV.free, allFree, rowsFree, Nat.reduceBEq, Nat.reduceAdd, Nat.reduceMul, Nat.reduceSub, Nat.reduceLT, Nat.reduceLeDiff, Int.reduceToNat, reduceIte, reduceCtorEq, Int.reduceLT, Int.reduceLE, Nat.reduceEqDiff, Int.reduceEq, Int.reduceNeg, Int.reduceMul, Int.reduceAdd, Int.reduceSub, Int.reduceBNe, Int.reduceBEq, apart, bnd]
  refine call_ok (Shift.ok x 13 1 (by decide) (by decide) hx) rfl ?_
  simp only [evA, evT, Go.undef, aload, astore, afieldAddr, afield, aindex, aindexAddr, abuild, abuildSlice, amakeSlice, aslice, aext, alen, aminmax, minmaxGo, aappend, newsOf, buildCells, cutRows, reps, setCells, AV.cells, allOne, AV.one, Value.oneCell', AV.pure, allPure, AV.free, allFree, rowsFree, Nat.reduceBEq, Nat.reduceAdd, Nat.reduceMul, Nat.reduceSub, Nat.reduceLT, Nat.reduceLeDiff, Int.reduceToNat, reduceIte, reduceCtorEq, Int.reduceLT, Int.reduceLE, Nat.reduceEqDiff, Int.reduceEq, Int.reduceNeg, Int.reduceMul, Int.reduceAdd, Int.reduceSub, Int.reduceBNe, Int.reduceBEq, apart, bnd]
theorem push.ok (s o x : Int) : OkG Try.prog 76 [.box [.int s, .int o]] [.loc 0 0, .int x] [.box [.int x, .int s]] none (.tup []) := by
  refine okg_of (X := fun _ => []) (Z := fun _ => false) (res := []) tok follows Try.func76 rfl rfl fine76 (by kernel_rfl) (by kernel_rfl) (id := none) rfl ?_
  simp only [evA, evB, evT, Go.undef, aload, astore, afieldAddr, afield, aindex, aindexAddr, abuild, abuildSlice, amakeSlice, aslice, aext, alen, aminmax, minmaxGo, aappend, newsOf, buildCells, cutRows, reps, setCells, AV.cells, allOne, AV.one, Value.oneCell', AV.pure, allPure, AV.free, allFree, rowsFree, Nat.reduceBEq, Nat.reduceAdd, Nat.reduceMul, Nat.reduceSub, Nat.reduceLT, Nat.reduceLeDiff, Int.reduceToNat, reduceIte, reduceCtorEq, Int.reduceLT, Int.reduceLE, Nat.reduceEqDiff, Int.reduceEq, Int.reduceNeg, Int.reduceMul, Int.reduceAdd, Int.reduceSub, Int.reduceBNe, Int.reduceBEq, apart, bnd]
  rfl
theorem states.ok (zs : List Int) (c : Int) : Ok Try.prog 75 [.sl 1 (intRows zs), .int c] (.fn 116 [.box [.sl 1 (intRows zs)] 0, .box [.int c] 0]) := by
  refine ok_of (X := fun _ => []) (Z := fun _ => false) (res := [ResultVar.tmp 4]) tok follows Try.func75 rfl rfl fine75 (by kernel_rfl) (by kernel_rfl) ?_
  simp only [evA, evT, Go.undef, aload, astore, afieldAddr, afield, aindex, aindexAddr, abuild, abuildSlice, amakeSlice, aslice, aext, alen, aminmax, minmaxGo, aappend, newsOf, buildCells, cutRows, reps, setCells, AV.cells, allOne, AV.one, Value.oneCell', AV.pure, allPure, AV.free, allFree, rowsFree, Nat.reduceBEq, Nat.reduceAdd, Nat.reduceMul, Nat.reduceSub, Nat.reduceLT, Nat.reduceLeDiff, Int.reduceToNat, reduceIte, reduceCtorEq, Int.reduceLT, Int.reduceLE, Nat.reduceEqDiff, Int.reduceEq, Int.reduceNeg, Int.reduceMul, Int.reduceAdd, Int.reduceSub, Int.reduceBNe, Int.reduceBEq, apart, bnd, in_free]
/-- The states: now, and the old one. -/
def stN (zs : List Int) (c : Int) : Nat → Int × Int
  | 0 => (0, 0)
  | j + 1 => (IntKind.i64.wrap (IntKind.i64.wrap (zs.getD j 0 + rsh (IntKind.i64.wrap (IntKind.i64.wrap (2 * c) * (stN zs c j).1)) 13 1) - (stN zs c j).2), (stN zs c j).1)
def stL (zs : List Int) (c : Int) (k : Nat) : List Int := (List.range k).map fun j => (stN zs c (j + 1)).1
theorem stL_succ {zs : List Int} {c : Int} {k : Nat} : stL zs c k ++ [(stN zs c (k + 1)).1] = stL zs c (k + 1) := by
  unfold stL
  rw [List.range_succ, List.map_append]
  rfl
theorem stL_len {zs : List Int} {c : Int} {k : Nat} : (stL zs c k).length = k := by simp [stL]
/-- What stands in the walk. -/
structure StIt (rows : List (List AV)) (N : Nat → Prop) (l : Nat) (c : Int) (v2 v7 : Value) (n : Nat) (b : Nat) (s o : Int) (a : Act) (w : World) : Prop where
  hd : a.defers = []
  hs : a.tmps.size = 31
  t0 : a.tmps.getD 0 undef = .func (.yield l) #[] #[]
  t2 : a.tmps.getD 2 undef = v2
  t4 : a.tmps.getD 4 undef = .pointer (some ⟨b, 0, none⟩)
  t7 : a.tmps.getD 7 undef = v7
  t8 : a.tmps.getD 8 undef = .int .i64 n
  low : ∀ k, N k → k < w.heap.size
  r2 : Rep w (fun _ => none) N (.box [.int c] 0) v2
  r7 : Rep w (fun _ => none) N (.sl 1 rows) v7
  nb : ¬ N b
  cells : ∃ ty, w.heap[b]? = some (.cells #[.int .i64 s, .int .i64 o] ty (0, 0))
theorem Stay.sub {T T' : List Nat} {a a' : Act} (h : Stay T a a') (hs : (T'.all fun t => T.any fun u => Nat.beq t u) = true) : Stay T' a a' :=
  ⟨h.1, fun t ht => h.2 t (by
    obtain ⟨u, hu, e⟩ := List.any_eq_true.1 ((List.all_eq_true.1 hs) t ht)
    rw [Nat.eq_of_beq_eq_true e]
    exact hu)⟩
theorem wrap_bd (x : Int) : -9223372036854775808 ≤ IntKind.i64.wrap x ∧ IntKind.i64.wrap x < 9223372036854775808 := by
  rw [IntKind.wrap_i64]
  omega
theorem in_getD' {zs : List Int} {i : Nat} (h : i < zs.length) : (intRows zs).getD i [] = [.int (zs.getD i 0)] := by
  rw [in_get h, List.getD_eq_getElem?_getD, List.getElem?_eq_getElem h]
  rfl
section
variable {rows : List (List AV)} {N : Nat → Prop} {l : Nat} {c : Int} {v2 v7 : Value} {n b : Nat} {s o s' o' : Int} {a a' : Act} {w w' : World}
theorem StIt.stay (I : StIt rows N l c v2 v7 n b s o a w) (h : Stay [0, 2, 4, 7, 8] a a') (hs : a'.tmps.size = 31) : StIt rows N l c v2 v7 n b s o a' w :=
  ⟨h.1.trans I.hd, hs, (h.2 0 (by decide)).trans I.t0, (h.2 2 (by decide)).trans I.t2, (h.2 4 (by decide)).trans I.t4, (h.2 7 (by decide)).trans I.t7, (h.2 8 (by decide)).trans I.t8, I.low, I.r2, I.r7, I.nb, I.cells⟩
theorem StIt.world (I : StIt rows N l c v2 v7 n b s o a w) (hk : KpN N w w') (hc : ∃ ty, w'.heap[b]? = some (.cells #[.int .i64 s', .int .i64 o'] ty (0, 0))) : StIt rows N l c v2 v7 n b s' o' a w' := by
  have hmono : ∀ x v, Rep w (fun _ => none) N x v → Rep w' (fun _ => none) N x v := fun x v h => h.mono (fun d o u hb hc => (World.cell?_of_block (w := w) (w' := w') (a := ⟨d, o, none⟩) (hk d hb)).trans hc) (fun _ _ h => h) (fun _ h => h)
  refine ⟨I.hd, I.hs, I.t0, I.t2, I.t4, I.t7, I.t8, fun k h => ?_, hmono _ _ I.r2, hmono _ _ I.r7, I.nb, hc⟩
  have := hk k h
  rw [Array.getElem?_eq_getElem (I.low k h)] at this
  exact (Array.getElem?_eq_some_iff.1 this).1
theorem StIt.kp (I : StIt rows N l c v2 v7 n b s o a w) (h : But (fun x => x = b) w w') : KpN N w w' := fun k hk => h.block k (I.low k hk) (fun e => I.nb (e ▸ hk))
theorem StIt.rel (I : StIt rows N l c v2 v7 n b s o a w) (env : List (Nat × AV)) (h : ∀ p ∈ env, Rep w (phi b) N p.2 (a.tmps.getD p.1 undef)) : Rel 31 w (phi b) ⟨N, fun _ => none, 0, 0⟩ (phi b) N (fun l => l < 1) (St.E ⟨env, [(0, rawB [.int .i64 s, .int .i64 o])], 1⟩) (St.lb ⟨env, [(0, rawB [.int .i64 s, .int .i64 o])], 1⟩) a w := by
  obtain ⟨ty, hg⟩ := I.cells
  exact rel_here I.hd I.hs I.low I.nb hg rfl h
theorem StIt.tel (I : StIt rows N l c v2 v7 n b s o a w) (env : List (Nat × AV)) (h : ∀ p ∈ env, Rep w (phi b) N p.2 (a.tmps.getD p.1 undef)) : TelS 31 w (phi b) ⟨N, fun _ => none, 0, 0⟩ ⟨env, [(0, rawB [.int .i64 s, .int .i64 o])], 1⟩ a w := ⟨_, _, I.rel env h⟩
theorem rep_phi {x : AV} {v : Value} (h : Rep w (fun _ => none) N x v) : Rep w (phi b) N x v := h.mono (fun _ _ _ _ h => h) (fun _ _ h => by cases h) (fun _ h => h)
theorem rep_is {v u : Value} (h : v = u) : Rep w (phi b) N (.raw u) v := by
  subst h
  exact .raw _
theorem StIt.loc (I : StIt rows N l c v2 v7 n b s o a w) : Rep w (phi b) N (.loc 0 0) (a.tmps.getD 4 undef) := by
  rw [I.t4]
  exact .loc 0 0 b rfl
end
theorem states.seq (zs : List Int) (c : Int) (hl : zs.length ≤ 1000000) : OkSeqZ Try.prog 116 [.box [.sl 1 (intRows zs)] 0, .box [.int c] 0] (fun x : Int => [.int x]) (stL zs c zs.length) 2 := by
  refine ⟨fine116, fun _ => rfl, fun w N vs hN hl2 hr m hm l J W hWb h0 hs hb hy => ?_⟩
  match vs, hl2 with
  | [v1, v2], _ =>
    have r1 : Rep W (fun _ => none) N (.box [.sl 1 (intRows zs)] 0) v1 := (hr 0 _ rfl).keep hWb hN
    have r2 : Rep W (fun _ => none) N (.box [.int c] 0) v2 := (hr 1 _ rfl).keep hWb hN
    have hNW : ∀ k, N k → k < W.heap.size := fun k h => Nat.lt_of_lt_of_le (hN k h) hWb.size
    refine callsIn_of_wp Try.func116 rfl trivial ?_ rfl
    simp only [Try.ntmps116, List.size_toArray, List.length_cons, List.length_nil, Nat.reduceAdd, Nat.reduceSub, Array.replicate_succ, Array.replicate_zero, List.push_toArray, List.append_toArray, List.nil_append, List.cons_append]
    generalize ha : (Act.mk _ _) = a0
    have hfs : ∀ f ∈ [77, 76], Fine Try.prog f := by
      intro f hf
      simp only [List.mem_cons, List.not_mem_nil, or_false] at hf
      rcases hf with rfl | rfl
      · exact fine77
      · exact fine76
    have a_d : a0.defers = [] := by rw [← ha]
    have a_s : a0.tmps.size = 31 := by rw [← ha]; rfl
    have a_0 : a0.tmps.getD 0 undef = .func (.yield l) #[] #[] := by rw [← ha]; rfl
    have a_1 : a0.tmps.getD 1 undef = v1 := by rw [← ha]; rfl
    have a_2 : a0.tmps.getD 2 undef = v2 := by rw [← ha]; rfl
    refine wpIn_seq ?_
    have ht0 : TelS 31 W (fun _ => none) ⟨N, fun _ => none, 0, 0⟩ ⟨[], [], 0⟩ a0 W := ⟨fun _ => none, N, ⟨by rw [a_d]; exact .none (Nat.zero_le _), a_s, But.refl _ _, fun _ _ h => h, hNW, fun c h => .inl h, (fun t x hx => by cases hx), (fun l B hB => by cases hB), (fun l B v c hB => by cases hB), (fun l l' B B' v v' c hne hB => by cases hB), fun _ _ => rfl⟩⟩
    refine piece tok follows (fs := []) (T := [0, 1, 2]) (k0 := 0) (X := fun _ => []) (s1 := ⟨[(4, .loc 0 0)], [(0, rawB [.int .i64 0, .int .i64 0])], 1⟩) (fun _ _ => rfl) (by kernel_rfl) (by kernel_rfl) (by kernel_rfl) (fun f hf => by cases hf) (by kernel_rfl) ht0 ?_ ?_
    · simp only [evA, evB, evT, Go.undef, aload, astore, afieldAddr, afield, aindex, aindexAddr, abuild, abuildSlice, amakeSlice, aslice, aext, alen, aminmax, minmaxGo, aappend, newsOf, buildCells, cutRows, reps, setCells, AV.cells, allOne, AV.one, Value.oneCell', AV.pure, allPure, AV.free, allFree, rowsFree, Nat.reduceBEq, Nat.reduceAdd, Nat.reduceMul, Nat.reduceSub, Nat.reduceLT, Nat.reduceLeDiff, Int.reduceToNat, reduceIte, reduceCtorEq, Int.reduceLT, Int.reduceLE, Nat.reduceEqDiff, Int.reduceEq, Int.reduceNeg, Int.reduceMul, Int.reduceAdd, Int.reduceSub, Int.reduceBNe, Int.reduceBEq, apart, bnd, tk_n]
      exact Weak.refl 0 _
    · rintro a1 w1 ⟨φ, N', R⟩ hst
      show Code.wpIn _ _ _ _ _ _ _
      obtain ⟨b, ty, cs, hp, hg, hcs, hrc, _⟩ := R.lbl 0 (.box [.int 0, .int 0]) rfl
      have hbs : W.heap.size ≤ b := by
        rcases R.mine 0 _ _ b rfl hp rfl with ⟨_, _, h, _⟩ | h
        · cases h
        · exact h
      have hbut : But (fun _ => False) W w1 := ⟨R.bel.os, R.bel.tape, R.bel.output, R.bel.size, fun k hk _ => R.bel.block k hk (by rintro ⟨_, _, h, _⟩; cases h)⟩
      have hcs2 : cs = #[.int .i64 0, .int .i64 0] := by
        have e0 := (hrc 0 _ rfl).of_raw
        have e1 := (hrc 1 _ rfl).of_raw
        refine Array.ext hcs fun i h1 h2 => ?_
        rw [Array.getD_eq_getD_getElem?] at e0 e1
        have h2 : i < 2 := h2
        match i, h2 with
        | 0, _ =>
          rw [Array.getElem?_eq_getElem h1] at e0
          exact e0
        | 1, _ =>
          rw [Array.getElem?_eq_getElem h1] at e1
          exact e1
      subst hcs2
      have hJ := h0 b _ ty w1 hbut hbs hg rfl
      have t4 : a1.tmps.getD 4 undef = .pointer (some ⟨b, 0, none⟩) := by
        have h := R.env 4 (.loc 0 0) rfl
        generalize a1.tmps.getD 4 undef = v at h ⊢
        cases h with
        | loc _ _ b' h' =>
          rw [hp] at h'
          obtain rfl : b = b' := by injection h' with e; injection e with e; injection e with e; injection e
          rfl
      have hnb : ¬ N b := fun h => by have := hNW b h; omega
      have hlow1 : ∀ k, N k → k < w1.heap.size := fun k h => Nat.lt_of_lt_of_le (hNW k h) hbut.size
      have r1' := r1.keep hbut.toBelow hNW
      have r2' := r2.keep hbut.toBelow hNW
      have R1 := rel_here (env := [(1, .box [.sl 1 (intRows zs)] 0)]) (cl := [.int .i64 0, .int .i64 0]) (hst.1.trans a_d) R.size hlow1 hnb hg rfl (fun p hp' => by
        simp only [List.mem_singleton] at hp'
        subst hp'
        rw [show a1.tmps.getD 1 undef = v1 from (hst.2 1 (by decide)).trans a_1]
        exact rep_phi r1')
      refine wpIn_seq (wpIn_region ?_)
      show wpOpsIn _ _ _ _ _ [0, 1, 2] _ _
      refine step_tel tok R1 rfl rfl (show (7 : Nat) < 31 by decide) (p := True) (x := .sl 1 (intRows zs)) (by show aop tt _ _ (.load 44 (.tmp 1)) = _; simp only [evA, evB, evT, Go.undef, aload, astore, afieldAddr, afield, aindex, aindexAddr, abuild, abuildSlice, amakeSlice, aslice, aext, alen, aminmax, minmaxGo, aappend, newsOf, buildCells, cutRows, reps, setCells, AV.cells, allOne, AV.one, Value.oneCell', AV.pure, allPure, AV.free, allFree, rowsFree, Nat.reduceBEq, Nat.reduceAdd, Nat.reduceMul, Nat.reduceSub, Nat.reduceLT, Nat.reduceLeDiff, Int.reduceToNat, reduceIte, reduceCtorEq, Int.reduceLT, Int.reduceLE, Nat.reduceEqDiff, Int.reduceEq, Int.reduceNeg, Int.reduceMul, Int.reduceAdd, Int.reduceSub, Int.reduceBNe, Int.reduceBEq, apart, bnd]; done) trivial fun v7 hv7 R2 => ?_
      refine step_tel tok (s := St.put _ (some 7) _) R2 rfl rfl (show (8 : Nat) < 31 by decide) (p := True) (x := .int ((intRows zs).length : Nat)) (by show aop tt _ _ (.call ⟨.builtin .len, #[.tmp 7], #[44]⟩) = _; simp only [evA, evB, evT, Go.undef, aload, astore, afieldAddr, afield, aindex, aindexAddr, abuild, abuildSlice, amakeSlice, aslice, aext, alen, aminmax, minmaxGo, aappend, newsOf, buildCells, cutRows, reps, setCells, AV.cells, allOne, AV.one, Value.oneCell', AV.pure, allPure, AV.free, allFree, rowsFree, Nat.reduceBEq, Nat.reduceAdd, Nat.reduceMul, Nat.reduceSub, Nat.reduceLT, Nat.reduceLeDiff, Int.reduceToNat, reduceIte, reduceCtorEq, Int.reduceLT, Int.reduceLE, Nat.reduceEqDiff, Int.reduceEq, Int.reduceNeg, Int.reduceMul, Int.reduceAdd, Int.reduceSub, Int.reduceBNe, Int.reduceBEq, apart, bnd]; done) trivial fun v8 hv8 R3 => ?_
      have hv8 := hv8.of_raw
      refine step_val rfl rfl rfl ?_
      show Code.wpIn _ _ _ _ _ _ _
      refine wpIn_block (wpIn_loop_rounds (zs.length + 1) ?_)
      refine rounds_ind (I := fun j a w => StIt (intRows zs) N l c v2 v7 zs.length b (stN zs c j).1 (stN zs c j).2 a w ∧ a.tmps.getD 9 undef = .int .i64 j ∧ J b (stL zs c j) #[.int .i64 (stN zs c j).1, .int .i64 (stN zs c j).2] w) zs.length ?_ ?_ ?_
      · rintro j a w hj ⟨I, t9, hJ⟩ K hK
        generalize hst0 : (stN zs c j).1 = s at *
        generalize hot0 : (stN zs c j).2 = o at *
        have q0 : (j : Int) < (zs.length : Int) := by omega
        have q2 : (0 : Int) ≤ (j : Int) := by omega
        have t8 := I.t8
        refine wpIn_seq ?_
        refine piece tok follows (fs := []) (T := [0, 2, 4, 7, 8, 9]) (k0 := 1) (X := fun _ => []) (s1 := ⟨[(10, .bool true)], [(0, rawB [.int .i64 s, .int .i64 o])], 1⟩) phi_none (by kernel_rfl) (by kernel_rfl) (by kernel_rfl) (fun f hf => by cases hf) (by kernel_rfl) (I.tel [(8, .int zs.length), (9, .int j)] (fun p hp => ?_)) ?_ ?_
        · simp only [List.mem_cons, List.not_mem_nil, or_false] at hp
          rcases hp with rfl | rfl
          · exact rep_is t8
          · exact rep_is t9
        · simp only [evA, evB, evT, Go.undef, aload, astore, afieldAddr, afield, aindex, aindexAddr, abuild, abuildSlice, amakeSlice, aslice, aext, alen, aminmax, minmaxGo, aappend, newsOf, buildCells, cutRows, reps, setCells, AV.cells, allOne, AV.one, Value.oneCell', AV.pure, allPure, AV.free, allFree, rowsFree, Nat.reduceBEq, Nat.reduceAdd, Nat.reduceMul, Nat.reduceSub, Nat.reduceLT, Nat.reduceLeDiff, Int.reduceToNat, reduceIte, reduceCtorEq, Int.reduceLT, Int.reduceLE, Nat.reduceEqDiff, Int.reduceEq, Int.reduceNeg, Int.reduceMul, Int.reduceAdd, Int.reduceSub, Int.reduceBNe, Int.reduceBEq, apart, bnd, tk_n, q0]
          refine weak_of (fun l => l) rfl ?_ ?_
          all_goals simp only [evA, evB, evT, Go.undef, aload, astore, afieldAddr, afield, aindex, aindexAddr, abuild, abuildSlice, amakeSlice, aslice, aext, alen, aminmax, minmaxGo, aappend, newsOf, buildCells, cutRows, reps, setCells, AV.cells, allOne, AV.one, Value.oneCell', AV.pure, allPure, AV.free, allFree, rowsFree, Nat.reduceBEq, Nat.reduceAdd, Nat.reduceMul, Nat.reduceSub, Nat.reduceLT, Nat.reduceLeDiff, Int.reduceToNat, reduceIte, reduceCtorEq, Int.reduceLT, Int.reduceLE, Nat.reduceEqDiff, Int.reduceEq, Int.reduceNeg, Int.reduceMul, Int.reduceAdd, Int.reduceSub, Int.reduceBNe, Int.reduceBEq, apart, bnd]
        rintro a3 w3 ht hst
        obtain ⟨hc3, hb3, hz3, he3⟩ := tel_out ht
        replace I := (I.stay (hst.sub (by decide)) hz3).world (I.kp hb3) hc3
        replace hJ := hs b _ _ _ _ _ _ hJ hb3 hc3.choose_spec rfl
        replace t9 := (hst.2 9 (by decide)).trans t9
        have t10 := he3 10 _ rfl
        show Code.wpIn _ _ _ _ _ _ _
        refine wpIn_seq (wpIn_cond_split (t := true) t10 (fun _ => wpIn_skip ?_) (fun h => by cases h))
        show Code.wpIn _ _ _ _ _ _ _
        refine wpIn_seq (wpIn_block (wpIn_seq ?_))
        have hx := in_getD' (zs := zs) (i := j) hj
        have hrow : (intRows zs).length = zs.length := in_len
        refine piece tok follows (fs := []) (T := [0, 2, 4, 7, 8, 9]) (k0 := 1) (X := fun _ => []) (s1 := ⟨[(6, .int (zs.getD j 0))], [(0, rawB [.int .i64 s, .int .i64 o])], 1⟩) phi_none (by kernel_rfl) (by kernel_rfl) (by kernel_rfl) (fun f hf => by cases hf) (by kernel_rfl) (I.tel [(7, .sl 1 (intRows zs)), (9, .int j)] (fun p hp => ?_)) ?_ ?_
        · simp only [List.mem_cons, List.not_mem_nil, or_false] at hp
          rcases hp with rfl | rfl
          · exact (by show Rep _ _ _ _ (a3.tmps.getD 7 undef); rw [I.t7]; exact rep_phi I.r7)
          · exact rep_is t9
        · simp only [evA, evB, evT, Go.undef, aload, astore, afieldAddr, afield, aindex, aindexAddr, abuild, abuildSlice, amakeSlice, aslice, aext, alen, aminmax, minmaxGo, aappend, newsOf, buildCells, cutRows, reps, setCells, AV.cells, allOne, AV.one, Value.oneCell', AV.pure, allPure, AV.free, allFree, rowsFree, Nat.reduceBEq, Nat.reduceAdd, Nat.reduceMul, Nat.reduceSub, Nat.reduceLT, Nat.reduceLeDiff, Int.reduceToNat, reduceIte, reduceCtorEq, Int.reduceLT, Int.reduceLE, Nat.reduceEqDiff, Int.reduceEq, Int.reduceNeg, Int.reduceMul, Int.reduceAdd, Int.reduceSub, Int.reduceBNe, Int.reduceBEq, apart, bnd, tk_n, q0, q2, in_len, Int.toNat_natCast, hx]
          refine weak_of (fun l => l) rfl ?_ ?_
          all_goals simp only [evA, evB, evT, Go.undef, aload, astore, afieldAddr, afield, aindex, aindexAddr, abuild, abuildSlice, amakeSlice, aslice, aext, alen, aminmax, minmaxGo, aappend, newsOf, buildCells, cutRows, reps, setCells, AV.cells, allOne, AV.one, Value.oneCell', AV.pure, allPure, AV.free, allFree, rowsFree, Nat.reduceBEq, Nat.reduceAdd, Nat.reduceMul, Nat.reduceSub, Nat.reduceLT, Nat.reduceLeDiff, Int.reduceToNat, reduceIte, reduceCtorEq, Int.reduceLT, Int.reduceLE, Nat.reduceEqDiff, Int.reduceEq, Int.reduceNeg, Int.reduceMul, Int.reduceAdd, Int.reduceSub, Int.reduceBNe, Int.reduceBEq, apart, bnd]
        rintro a4 w4 ht hst
        obtain ⟨hc4, hb4, hz4, he4⟩ := tel_out ht
        replace I := (I.stay (hst.sub (by decide)) hz4).world (I.kp hb4) hc4
        replace hJ := hs b _ _ _ _ _ _ hJ hb4 hc4.choose_spec rfl
        replace t9 := (hst.2 9 (by decide)).trans t9
        have t6 := he4 6 _ rfl
        show Code.wpIn _ _ _ _ _ _ _
        refine wpIn_seq ?_
        have hs1 : (stN zs c (j + 1)) = (IntKind.i64.wrap (IntKind.i64.wrap (zs.getD j 0 + rsh (IntKind.i64.wrap (IntKind.i64.wrap (2 * c) * s)) 13 1) - o), s) := by
          rw [stN, hst0, hot0]
        generalize hs' : (stN zs c (j + 1)).1 = s' at *
        have hs2 : IntKind.i64.wrap (IntKind.i64.wrap (zs.getD j 0 + rsh (IntKind.i64.wrap (IntKind.i64.wrap (2 * c) * s)) 13 1) - o) = s' := by rw [← hs', hs1]
        have hwb := wrap_bd (IntKind.i64.wrap (2 * c) * s)
        refine piece tok follows (fs := [77, 76]) (T := [0, 2, 4, 7, 8, 9]) (k0 := 1) (X := fun r => if Nat.beq r 4 then [[], [], [], [], [], [], [], [], [], [], [], [.const (.bool true)]] else []) (s1 := ⟨[], [(0, rawB [.int .i64 s', .int .i64 s])], 1⟩) phi_none (by kernel_rfl) (by kernel_rfl) (by kernel_rfl) (hfs) (by kernel_rfl) (I.tel [(2, .box [.int c] 0), (4, .loc 0 0), (6, .int (zs.getD j 0))] (fun p hp => ?_)) ?_ ?_
        · simp only [List.mem_cons, List.not_mem_nil, or_false] at hp
          rcases hp with rfl | rfl | rfl
          · exact (by show Rep _ _ _ _ (a4.tmps.getD 2 undef); rw [I.t2]; exact rep_phi I.r2)
          · exact I.loc
          · exact rep_is t6
        · simp only [evA, evB, evT, Go.undef, aload, astore, afieldAddr, afield, aindex, aindexAddr, abuild, abuildSlice, amakeSlice, aslice, aext, alen, aminmax, minmaxGo, aappend, newsOf, buildCells, cutRows, reps, setCells, AV.cells, allOne, AV.one, Value.oneCell', AV.pure, allPure, AV.free, allFree, rowsFree, Nat.reduceBEq, Nat.reduceAdd, Nat.reduceMul, Nat.reduceSub, Nat.reduceLT, Nat.reduceLeDiff, Int.reduceToNat, reduceIte, reduceCtorEq, Int.reduceLT, Int.reduceLE, Nat.reduceEqDiff, Int.reduceEq, Int.reduceNeg, Int.reduceMul, Int.reduceAdd, Int.reduceSub, Int.reduceBNe, Int.reduceBEq, apart, bnd]
          refine call_ok (part.ok _ hwb) rfl ?_
          simp only [evA, evB, evT, Go.undef, aload, astore, afieldAddr, afield, aindex, aindexAddr, abuild, abuildSlice, amakeSlice, aslice, aext, alen, aminmax, minmaxGo, aappend, newsOf, buildCells, cutRows, reps, setCells, AV.cells, allOne, AV.one, Value.oneCell', AV.pure, allPure, AV.free, allFree, rowsFree, Nat.reduceBEq, Nat.reduceAdd, Nat.reduceMul, Nat.reduceSub, Nat.reduceLT, Nat.reduceLeDiff, Int.reduceToNat, reduceIte, reduceCtorEq, Int.reduceLT, Int.reduceLE, Nat.reduceEqDiff, Int.reduceEq, Int.reduceNeg, Int.reduceMul, Int.reduceAdd, Int.reduceSub, Int.reduceBNe, Int.reduceBEq, apart, bnd, hs2]
          refine call_eff [0] (push.ok s o s') rfl (by decide) ?_ rfl rfl rfl ?_ ?_ ?_ rfl rfl ?_
          all_goals simp only [evA, evB, evT, Go.undef, aload, astore, afieldAddr, afield, aindex, aindexAddr, abuild, abuildSlice, amakeSlice, aslice, aext, alen, aminmax, minmaxGo, aappend, newsOf, buildCells, cutRows, reps, setCells, AV.cells, allOne, AV.one, Value.oneCell', AV.pure, allPure, AV.free, allFree, rowsFree, Nat.reduceBEq, Nat.reduceAdd, Nat.reduceMul, Nat.reduceSub, Nat.reduceLT, Nat.reduceLeDiff, Int.reduceToNat, reduceIte, reduceCtorEq, Int.reduceLT, Int.reduceLE, Nat.reduceEqDiff, Int.reduceEq, Int.reduceNeg, Int.reduceMul, Int.reduceAdd, Int.reduceSub, Int.reduceBNe, Int.reduceBEq, apart, bnd, tk_n]
          refine weak_of (fun l => l) rfl ?_ ?_
          all_goals simp only [evA, evB, evT, Go.undef, aload, astore, afieldAddr, afield, aindex, aindexAddr, abuild, abuildSlice, amakeSlice, aslice, aext, alen, aminmax, minmaxGo, aappend, newsOf, buildCells, cutRows, reps, setCells, AV.cells, allOne, AV.one, Value.oneCell', AV.pure, allPure, AV.free, allFree, rowsFree, Nat.reduceBEq, Nat.reduceAdd, Nat.reduceMul, Nat.reduceSub, Nat.reduceLT, Nat.reduceLeDiff, Int.reduceToNat, reduceIte, reduceCtorEq, Int.reduceLT, Int.reduceLE, Nat.reduceEqDiff, Int.reduceEq, Int.reduceNeg, Int.reduceMul, Int.reduceAdd, Int.reduceSub, Int.reduceBNe, Int.reduceBEq, apart, bnd]
        rintro a5 w5 ht hst
        obtain ⟨hc5, hb5, hz5, he5⟩ := tel_out ht
        replace I := (I.stay (hst.sub (by decide)) hz5).world (I.kp hb5) hc5
        replace hJ := hs b _ _ _ _ _ _ hJ hb5 hc5.choose_spec rfl
        replace t9 := (hst.2 9 (by decide)).trans t9
        show Code.wpIn _ _ _ _ _ _ _
        refine wpIn_seq (wpIn_region ?_)
        show wpOpsIn _ _ _ _ _ [0, 1, 2, 3, 4] _ _
        have t0 := I.t0
        have hz := I.hs
        refine step_val rfl rfl (v := .func (.yield l) #[] #[]) (w' := w5) (by show _ = Result.ok (Next.value _) _; rw [← t0]; rfl) ?_
        have I6 := I.stay (a' := a5.put (some 25) (.func (.yield l) #[] #[])) ((Stay.refl _ _).put (by decide)) (put_size.trans hz)
        have R6 := I6.rel [(4, .loc 0 0)] (fun p hp => by
          simp only [List.mem_singleton] at hp
          subst hp
          exact I6.loc)
        refine step_tel tok R6 rfl rfl (show (26 : Nat) < 31 by decide) (p := True) (x := .loc 0 0) (by show aop tt _ _ (.fieldAddr 90 (.tmp 4) 0) = _; simp only [evA, evB, evT, Go.undef, aload, astore, afieldAddr, afield, aindex, aindexAddr, abuild, abuildSlice, amakeSlice, aslice, aext, alen, aminmax, minmaxGo, aappend, newsOf, buildCells, cutRows, reps, setCells, AV.cells, allOne, AV.one, Value.oneCell', AV.pure, allPure, AV.free, allFree, rowsFree, Nat.reduceBEq, Nat.reduceAdd, Nat.reduceMul, Nat.reduceSub, Nat.reduceLT, Nat.reduceLeDiff, Int.reduceToNat, reduceIte, reduceCtorEq, Int.reduceLT, Int.reduceLE, Nat.reduceEqDiff, Int.reduceEq, Int.reduceNeg, Int.reduceMul, Int.reduceAdd, Int.reduceSub, Int.reduceBNe, Int.reduceBEq, apart, bnd]) trivial fun v26 hv26 R7 => ?_
        refine step_tel tok (s := St.put _ (some 26) _) R7 rfl rfl (show (27 : Nat) < 31 by decide) (p := True) (x := .int s') (by show aop tt _ _ (.load 3 (.tmp 26)) = _; simp only [evA, evB, evT, Go.undef, aload, astore, afieldAddr, afield, aindex, aindexAddr, abuild, abuildSlice, amakeSlice, aslice, aext, alen, aminmax, minmaxGo, aappend, newsOf, buildCells, cutRows, reps, setCells, AV.cells, allOne, AV.one, Value.oneCell', AV.pure, allPure, AV.free, allFree, rowsFree, Nat.reduceBEq, Nat.reduceAdd, Nat.reduceMul, Nat.reduceSub, Nat.reduceLT, Nat.reduceLeDiff, Int.reduceToNat, reduceIte, reduceCtorEq, Int.reduceLT, Int.reduceLE, Nat.reduceEqDiff, Int.reduceEq, Int.reduceNeg, Int.reduceMul, Int.reduceAdd, Int.reduceSub, Int.reduceBNe, Int.reduceBEq, apart, bnd]) trivial fun v27 hv27 R8 => ?_
        have hv27 := hv27.of_raw
        subst hv27
        obtain ⟨a8, ha8⟩ : ∃ a8, a8 = ((a5.put (some 25) (.func (.yield l) #[] #[])).put (some 26) v26).put (some 27) (.int .i64 s') := ⟨_, rfl⟩
        have hz8 : a8.tmps.size = 31 := by rw [ha8, put_size, put_size, put_size, hz]
        have hst8 : Stay [0, 2, 4, 7, 8, 9] a5 a8 := by rw [ha8]; exact (((Stay.refl _ _).put (by decide)).put (by decide)).put (by decide)
        have t25 : a8.tmps.getD 25 undef = .func (.yield l) #[] #[] := by
          rw [ha8]
          exact (put_ne (by decide)).trans ((put_ne (by decide)).trans (put_eq (by rw [hz]; decide)))
        have t27 : a8.tmps.getD 27 undef = .int .i64 s' := by
          rw [ha8]
          exact put_eq (by rw [put_size, put_size, hz]; decide)
        show wpOpsIn _ _ _ _ _ [3, 4] (((a5.put (some 25) (.func (.yield l) #[] #[])).put (some 26) v26).put (some 27) (.int .i64 s')) _
        rw [← ha8]
        have hya := hy b (stL zs c j) s' _ w5 hJ (by rw [stL_len, stL_len]; exact hj)
        refine step_yield (l := l) (x := .tmp 25) (ars := #[.tmp 27]) (R := _) rfl rfl rfl t25 (by
          have e : (#[Operand.tmp 27]).map a8.eval = #[.int .i64 s'] := by
            simp [Act.eval, t27]
          rw [e]
          exact hya) fun e w6 he => ?_
        obtain ⟨he, hJ6, hk6⟩ := he
        refine ⟨.bool true, he, ?_⟩
        have hc6 := (hb b _ _ w6 hJ6).2.2
        have t28 : (a8.put (some 28) (.bool true)).tmps.getD 28 undef = .bool true := put_eq (by rw [hz8]; decide)
        refine step_val rfl rfl (v := .bool false) (w' := w6) (by
          show (do pure (Next.value (← Op.unary .not ((a8.put (some 28) (.bool true)).tmps.getD 28 undef))) : Sem Next).run _ _ = _
          rw [t28]
          rfl) ?_
        show Code.wpIn _ _ _ _ _ _ _
        obtain ⟨a9, ha9⟩ : ∃ a9, a9 = (a8.put (some 28) (.bool true)).put (some 29) (.bool false) := ⟨_, rfl⟩
        have hz9 : a9.tmps.size = 31 := by rw [ha9, put_size, put_size, hz8]
        have hst9 : Stay [0, 2, 4, 7, 8, 9] a8 a9 := by rw [ha9]; exact ((Stay.refl _ _).put (by decide)).put (by decide)
        have t29 : a9.tmps.getD 29 undef = .bool false := by
          rw [ha9]
          exact put_eq (by rw [put_size, hz8]; decide)
        show Code.wpIn _ _ _ _ _ ((a8.put (some 28) (.bool true)).put (some 29) (.bool false)) _
        rw [← ha9]
        replace t9 := (hst9.2 9 (by decide)).trans ((hst8.2 9 (by decide)).trans t9)
        replace I := ((I.stay (hst8.sub (by decide)) hz8).stay (hst9.sub (by decide)) hz9).world hk6 hc6
        refine wpIn_cond_split (t := false) t29 (fun h => by cases h) (fun _ => wpIn_skip ?_)
        show Code.wpIn _ _ _ _ _ _ _
        have q1 : IntKind.i64.wrap ((j : Int) + 1) = ((j + 1 : Nat) : Int) := by rw [wr (by omega)]; omega
        refine piece tok follows (fs := []) (T := [0, 2, 4, 7, 8]) (k0 := 1) (X := fun _ => []) (s1 := ⟨[(9, .int ((j + 1 : Nat) : Int))], [(0, rawB [.int .i64 s', .int .i64 s])], 1⟩) phi_none (by kernel_rfl) (by kernel_rfl) (by kernel_rfl) (fun f hf => by cases hf) (by kernel_rfl) (I.tel [(9, .int j)] (fun p hp => ?_)) ?_ ?_
        · simp only [List.mem_singleton] at hp
          subst hp
          exact rep_is t9
        · simp only [evA, evB, evT, Go.undef, aload, astore, afieldAddr, afield, aindex, aindexAddr, abuild, abuildSlice, amakeSlice, aslice, aext, alen, aminmax, minmaxGo, aappend, newsOf, buildCells, cutRows, reps, setCells, AV.cells, allOne, AV.one, Value.oneCell', AV.pure, allPure, AV.free, allFree, rowsFree, Nat.reduceBEq, Nat.reduceAdd, Nat.reduceMul, Nat.reduceSub, Nat.reduceLT, Nat.reduceLeDiff, Int.reduceToNat, reduceIte, reduceCtorEq, Int.reduceLT, Int.reduceLE, Nat.reduceEqDiff, Int.reduceEq, Int.reduceNeg, Int.reduceMul, Int.reduceAdd, Int.reduceSub, Int.reduceBNe, Int.reduceBEq, apart, bnd, tk_n, q1]
          refine weak_of (fun l => l) rfl ?_ ?_
          all_goals simp only [evA, evB, evT, Go.undef, aload, astore, afieldAddr, afield, aindex, aindexAddr, abuild, abuildSlice, amakeSlice, aslice, aext, alen, aminmax, minmaxGo, aappend, newsOf, buildCells, cutRows, reps, setCells, AV.cells, allOne, AV.one, Value.oneCell', AV.pure, allPure, AV.free, allFree, rowsFree, Nat.reduceBEq, Nat.reduceAdd, Nat.reduceMul, Nat.reduceSub, Nat.reduceLT, Nat.reduceLeDiff, Int.reduceToNat, reduceIte, reduceCtorEq, Int.reduceLT, Int.reduceLE, Nat.reduceEqDiff, Int.reduceEq, Int.reduceNeg, Int.reduceMul, Int.reduceAdd, Int.reduceSub, Int.reduceBNe, Int.reduceBEq, apart, bnd]
        rintro a7 w7 ht hst
        obtain ⟨hc7, hb7, hz7, he7⟩ := tel_out ht
        replace I := (I.stay hst hz7).world (I.kp hb7) hc7
        replace hJ := hs b _ _ _ _ _ _ hJ6 hb7 hc7.choose_spec rfl
        have e2 : (stN zs c (j + 1)).2 = s := by rw [hs1]
        refine hK a7 w7 ⟨by rw [e2]; exact I, he7 9 _ rfl, ?_⟩
        rw [e2, ← stL_succ, hs']
        exact hJ
      · rintro a w ⟨I, t9, hJ⟩ K
        have t8 := I.t8
        refine wpIn_seq ?_
        refine piece tok follows (fs := []) (T := [0, 2, 4, 7, 8, 9]) (k0 := 1) (X := fun _ => []) (s1 := ⟨[(10, .bool false)], [(0, rawB [.int .i64 (stN zs c zs.length).1, .int .i64 (stN zs c zs.length).2])], 1⟩) phi_none (by kernel_rfl) (by kernel_rfl) (by kernel_rfl) (fun f hf => by cases hf) (by kernel_rfl) (I.tel [(8, .int zs.length), (9, .int zs.length)] (fun p hp => ?_)) ?_ ?_
        · simp only [List.mem_cons, List.not_mem_nil, or_false] at hp
          rcases hp with rfl | rfl
          · exact rep_is t8
          · exact rep_is t9
        · simp only [evA, evB, evT, Go.undef, aload, astore, afieldAddr, afield, aindex, aindexAddr, abuild, abuildSlice, amakeSlice, aslice, aext, alen, aminmax, minmaxGo, aappend, newsOf, buildCells, cutRows, reps, setCells, AV.cells, allOne, AV.one, Value.oneCell', AV.pure, allPure, AV.free, allFree, rowsFree, Nat.reduceBEq, Nat.reduceAdd, Nat.reduceMul, Nat.reduceSub, Nat.reduceLT, Nat.reduceLeDiff, Int.reduceToNat, reduceIte, reduceCtorEq, Int.reduceLT, Int.reduceLE, Nat.reduceEqDiff, Int.reduceEq, Int.reduceNeg, Int.reduceMul, Int.reduceAdd, Int.reduceSub, Int.reduceBNe, Int.reduceBEq, apart, bnd, tk_n]
          refine weak_of (fun l => l) rfl ?_ ?_
          all_goals simp only [evA, evB, evT, Go.undef, aload, astore, afieldAddr, afield, aindex, aindexAddr, abuild, abuildSlice, amakeSlice, aslice, aext, alen, aminmax, minmaxGo, aappend, newsOf, buildCells, cutRows, reps, setCells, AV.cells, allOne, AV.one, Value.oneCell', AV.pure, allPure, AV.free, allFree, rowsFree, Nat.reduceBEq, Nat.reduceAdd, Nat.reduceMul, Nat.reduceSub, Nat.reduceLT, Nat.reduceLeDiff, Int.reduceToNat, reduceIte, reduceCtorEq, Int.reduceLT, Int.reduceLE, Nat.reduceEqDiff, Int.reduceEq, Int.reduceNeg, Int.reduceMul, Int.reduceAdd, Int.reduceSub, Int.reduceBNe, Int.reduceBEq, apart, bnd]
        rintro a3 w3 ht hst
        obtain ⟨hc3, hb3, hz3, he3⟩ := tel_out ht
        replace I := (I.stay (hst.sub (by decide)) hz3).world (I.kp hb3) hc3
        replace hJ := hs b _ _ _ _ _ _ hJ hb3 hc3.choose_spec rfl
        show Code.wpIn _ _ _ _ _ _ _
        refine wpIn_seq (wpIn_cond_split (t := false) (he3 10 _ rfl) (fun h => by cases h) (fun _ => wpIn_exit ?_))
        exact exit_out (bodyPost_end (results_none rfl _ _ _) I.hd ⟨⟨_, rfl⟩, b, _, hJ⟩)
      · refine ⟨⟨hst.1.trans a_d, ?_, ?_, ?_, ?_, ?_, ?_, hlow1, r2', hv7.any_of_free (in_free zs) (fun _ h => h), hnb, ty, hg⟩, ?_, hJ⟩
        · exact put_size.trans (put_size.trans (put_size.trans R.size))
        · exact (put_ne (by decide)).trans ((put_ne (by decide)).trans ((put_ne (by decide)).trans ((hst.2 0 (by decide)).trans a_0)))
        · exact (put_ne (by decide)).trans ((put_ne (by decide)).trans ((put_ne (by decide)).trans ((hst.2 2 (by decide)).trans a_2)))
        · exact (put_ne (by decide)).trans ((put_ne (by decide)).trans ((put_ne (by decide)).trans t4))
        · exact (put_ne (by decide)).trans ((put_ne (by decide)).trans (put_eq (by rw [R.size]; decide)))
        · refine (put_ne (by decide)).trans ((put_eq (by show 8 < (a1.put (some 7) v7).tmps.size; rw [put_size, R.size]; decide)).trans (hv8.trans ?_))
          rw [in_len]
        · exact put_eq (by show 9 < ((a1.put (some 7) v7).put (some 8) v8).tmps.size; rw [put_size, put_size, R.size]; decide)
end Go.Proofs.YtfmhdfaelgkmcaaV

import Derived.Test.YtnnjjblgilibgaaGreatVgA
import Derived.Test.YtnnjjblgilibgaaGreatVgC
import Derived.Test.YtnnjjblgilibgaaGreatVgD
/- Every so many numbers: a function that is gone through. -/
namespace Go.Proofs.YtnnjjblgilibgaaGreatV
open Go Go.RowKit
set_option linter.unusedVariables false
set_option linter.unusedSimpArgs false
set_option maxRecDepth 100000
set_option maxHeartbeats 40000000
theorem fine111 : Fine Tryz.prog 111 := fun _ _ => by kernel_rfl
theorem fine144 : Fine Tryz.prog 144 := fun _ _ => by kernel_rfl
theorem fine110 : Fine Tryz.prog 110 := fun _ _ => by kernel_rfl
theorem fine143 : Fine Tryz.prog 143 := fun _ _ => by kernel_rfl
/-- Every so many, k of them. -/
def evL (xs : List (Int × Int)) (fr by' : Nat) (k : Nat) : List (Int × Int) := (List.range k).map fun j => xs.getD (fr + by' * j) (0, 0)
theorem evL_len {xs : List (Int × Int)} {fr by' k : Nat} : (evL xs fr by' k).length = k := by simp [evL]
theorem evL_succ {xs : List (Int × Int)} {fr by' k : Nat} : evL xs fr by' k ++ [xs.getD (fr + by' * k) (0, 0)] = evL xs fr by' (k + 1) := by
  unfold evL
  rw [List.range_succ, List.map_append]
  rfl
theorem every.ok (xs : List (Int × Int)) (fr by' : Int) : Ok Tryz.prog 111 [.sl 2 (cxRows xs), .int fr, .int by'] (.fn 144 [.box [.int fr] 0, .box [.sl 2 (cxRows xs)] 0, .box [.int by'] 0]) := by
  refine ok_of (X := fun _ => []) (Z := fun _ => false) (res := [ResultVar.tmp 6]) tok follows Tryz.func111 rfl rfl fine111 (by kernel_rfl) (by kernel_rfl) ?_
  simp only [evA, evT, evD, seval, cx_free]
theorem rel_here0 {n : Nat} {a : Act} {w : World} {N : Nat → Prop} {env : List (Nat × AV)} (hd : a.defers = []) (hsz : a.tmps.size = n) (hlow : ∀ c, N c → c < w.heap.size) (henv : ∀ p ∈ env, Rep w (fun _ => none) N p.2 (a.tmps.getD p.1 undef)) :
    Rel n w (fun _ => none) ⟨N, fun _ => none, 0, 0⟩ (fun _ => none) N (fun l => l < 0) (St.E ⟨env, [], 0⟩) (St.lb ⟨env, [], 0⟩) a w :=
  ⟨by rw [hd]; exact .none (Nat.zero_le _), hsz, But.refl _ _, fun _ _ h => h, hlow, fun c h => .inl h, fun t x hx => henv _ (look_mem hx), (fun l B hB => by cases hB), (fun l B v c hB => by cases hB), (fun l l' B B' v v' c hne hB => by cases hB), fun l hl => rfl⟩
theorem tel_out0 {n : Nat} {a : Act} {w w' : World} {N0 : NG} {env : List (Nat × AV)} {nx : Nat} (h : TelS n w (fun _ => none) N0 ⟨env, [], nx⟩ a w') :
    But (fun _ => False) w w' ∧ a.tmps.size = n ∧ ∀ t v, look t env = some (.raw v) → a.tmps.getD t undef = v := by
  obtain ⟨φ, N, R⟩ := h
  exact ⟨⟨R.bel.os, R.bel.tape, R.bel.output, R.bel.size, fun k hk _ => R.bel.block k hk (by rintro ⟨_, _, h, _⟩; cases h)⟩, R.size, fun t v hv => (R.env t _ hv).of_raw⟩
theorem Stay.sub' {T T' : List Nat} {a a' : Act} (h : Stay T a a') (hs : (T'.all fun t => T.any fun u => Nat.beq t u) = true) : Stay T' a a' :=
  ⟨h.1, fun t ht => h.2 t (by
    obtain ⟨u, hu, e⟩ := List.any_eq_true.1 ((List.all_eq_true.1 hs) t ht)
    rw [Nat.eq_of_beq_eq_true e]
    exact hu)⟩
theorem rep_is' {w : World} {φ : Nat → Option Value} {N : Nat → Prop} {v u : Value} (h : v = u) : Rep w φ N (.raw u) v := by
  subst h
  exact .raw _
theorem rep_cx {w : World} {φ : Nat → Option Value} {N : Nat → Prop} {a b : Int} {v : Value} (h : Rep w φ N (cxA a b) v) : v = .agg #[.int .i64 a, .int .i64 b] := by
  cases h with
  | agg _ vs hl hr =>
    have e0 := (hr 0 _ rfl).of_raw
    have e1 := (hr 1 _ rfl).of_raw
    congr 1
    refine Array.ext (by rw [← hl]; rfl) fun i h1 h2 => ?_
    rw [Array.getD_eq_getD_getElem?] at e0 e1
    have h2 : i < 2 := h2
    match i, h2 with
    | 0, _ =>
      rw [Array.getElem?_eq_getElem h1] at e0
      exact e0
    | 1, _ =>
      rw [Array.getElem?_eq_getElem h1] at e1
      exact e1
/-- What stands in the walk. -/
structure EvIt (xs : List (Int × Int)) (by' : Int) (N : Nat → Prop) (l : Nat) (v2 v3 : Value) (a : Act) (w : World) : Prop where
  hd : a.defers = []
  hs : a.tmps.size = 21
  t0 : a.tmps.getD 0 undef = .func (.yield l) #[] #[]
  t2 : a.tmps.getD 2 undef = v2
  t3 : a.tmps.getD 3 undef = v3
  low : ∀ k, N k → k < w.heap.size
  r2 : Rep w (fun _ => none) N (.box [.sl 2 (cxRows xs)] 0) v2
  r3 : Rep w (fun _ => none) N (.box [.int by'] 0) v3
section
variable {xs : List (Int × Int)} {by' : Int} {N : Nat → Prop} {l : Nat} {v2 v3 : Value} {a a' : Act} {w w' : World}
theorem EvIt.stay (I : EvIt xs by' N l v2 v3 a w) (h : Stay [0, 2, 3] a a') (hs : a'.tmps.size = 21) : EvIt xs by' N l v2 v3 a' w :=
  ⟨h.1.trans I.hd, hs, (h.2 0 (by decide)).trans I.t0, (h.2 2 (by decide)).trans I.t2, (h.2 3 (by decide)).trans I.t3, I.low, I.r2, I.r3⟩
theorem EvIt.world (I : EvIt xs by' N l v2 v3 a w) (hk : KpN N w w') : EvIt xs by' N l v2 v3 a w' := by
  have hmono : ∀ x v, Rep w (fun _ => none) N x v → Rep w' (fun _ => none) N x v := fun x v h => h.mono (fun d o u hb hc => (World.cell?_of_block (w := w) (w' := w') (a := ⟨d, o, none⟩) (hk d hb)).trans hc) (fun _ _ h => h) (fun _ h => h)
  refine ⟨I.hd, I.hs, I.t0, I.t2, I.t3, fun k h => ?_, hmono _ _ I.r2, hmono _ _ I.r3⟩
  have := hk k h
  rw [Array.getElem?_eq_getElem (I.low k h)] at this
  exact (Array.getElem?_eq_some_iff.1 this).1
theorem EvIt.kp (I : EvIt xs by' N l v2 v3 a w) (h : But (fun _ => False) w w') : KpN N w w' := fun k hk => h.block k (I.low k hk) (fun e => e)
theorem EvIt.tel (I : EvIt xs by' N l v2 v3 a w) (env : List (Nat × AV)) (h : ∀ p ∈ env, Rep w (fun _ => none) N p.2 (a.tmps.getD p.1 undef)) : TelS 21 w (fun _ => none) ⟨N, fun _ => none, 0, 0⟩ ⟨env, [], 0⟩ a w := ⟨_, _, rel_here0 I.hd I.hs I.low h⟩
end
theorem ret_out {id id' : Nat} {K1 K2 : Act → World → Prop} {Q : Exit → Act → World → Prop} {a : Act} {w : World} (h : Q .ret a w) : Exit.inBlock id' (Exit.then K1 (Exit.then K2 (Exit.inBlock id Q))) .ret a w := by
  simp only [Exit.then, Exit.inBlock]
  exact h
theorem every.seq (xs : List (Int × Int)) (fr by' n : Nat) (hl : xs.length ≤ 1000000) (hf : fr ≤ 1000000) (hb : by' ≤ 1000000) (hlast : ∀ j, j < n → fr + by' * j < xs.length) (hend : xs.length ≤ fr + by' * n) (hn : fr + by' * n ≤ 2000000) : OkSeq Tryz.prog 144 [.box [.int fr] 0, .box [.sl 2 (cxRows xs)] 0, .box [.int by'] 0] (fun x : Int × Int => [cxA x.1 x.2]) (evL xs fr by' n) n := by
  refine ⟨fine144, fun _ => rfl, fun w N vs hN hl2 hr m hm l J Jx W hWb hJ hJx hY h0 => ?_⟩
  match vs, hl2 with
  | [v1, v2, v3], _ =>
    have r1 : Rep W (fun _ => none) N (.box [.int fr] 0) v1 := (hr 0 _ rfl).keep hWb hN
    have r2 : Rep W (fun _ => none) N (.box [.sl 2 (cxRows xs)] 0) v2 := (hr 1 _ rfl).keep hWb hN
    have r3 : Rep W (fun _ => none) N (.box [.int by'] 0) v3 := (hr 2 _ rfl).keep hWb hN
    have hNW : ∀ k, N k → k < W.heap.size := fun k h => Nat.lt_of_lt_of_le (hN k h) hWb.size
    have hJ2 : ∀ (pre : List (Int × Int)) (A B : World), J pre A → But (fun _ => False) A B → J pre B := fun pre A B h hb => hJ _ _ _ none h ⟨hb.os, hb.tape, hb.output, hb.size, fun k hk _ => hb.block k hk (fun h => h)⟩ (fun r e => by cases e)
    refine callsIn_of_wp Tryz.func144 rfl trivial ?_ rfl
    simp only [Tryz.ntmps144, List.size_toArray, List.length_cons, List.length_nil, Nat.reduceAdd, Nat.reduceSub, Array.replicate_succ, Array.replicate_zero, List.push_toArray, List.append_toArray, List.nil_append, List.cons_append]
    generalize ha : (Act.mk _ _) = a0
    have a_d : a0.defers = [] := by rw [← ha]
    have a_s : a0.tmps.size = 21 := by rw [← ha]; rfl
    have a_0 : a0.tmps.getD 0 undef = .func (.yield l) #[] #[] := by rw [← ha]; rfl
    have a_1 : a0.tmps.getD 1 undef = v1 := by rw [← ha]; rfl
    have a_2 : a0.tmps.getD 2 undef = v2 := by rw [← ha]; rfl
    have a_3 : a0.tmps.getD 3 undef = v3 := by rw [← ha]; rfl
    have I0 : EvIt xs by' N l v2 v3 a0 W := ⟨a_d, a_s, a_0, a_2, a_3, hNW, r2, r3⟩
    refine wpIn_seq ?_
    refine piece tok follows (fs := []) (T := [0, 2, 3]) (k0 := 0) (X := fun _ => []) (s1 := ⟨[(5, .int fr)], [], 0⟩) (fun _ _ => rfl) (by kernel_rfl) (by kernel_rfl) (by kernel_rfl) (fun f hf => by cases hf) (by kernel_rfl) (I0.tel [(1, .box [.int fr] 0)] (fun p hp => ?_)) ?_ ?_
    · simp only [List.mem_singleton] at hp
      subst hp
      show Rep _ _ _ _ (a0.tmps.getD 1 undef)
      rw [a_1]
      exact r1
    · simp only [evA, evB, evT, evD, seval, tk_n]
      refine weak_of (fun l => l) rfl trivial ?_
      simp only [evA, evB, evT, evD, seval]
    rintro a1 w1 ht hst
    obtain ⟨hb1, hz1, he1⟩ := tel_out0 ht
    have I1 := (I0.stay hst hz1).world (I0.kp hb1)
    have hJ1 := hJ2 _ _ _ h0 hb1
    have t5 := he1 5 _ rfl
    show Code.wpIn _ _ _ _ _ _ _
    refine wpIn_block (wpIn_loop_rounds (n + 1) ?_)
    refine rounds_ind (I := fun j a w => EvIt xs by' N l v2 v3 a w ∧ a.tmps.getD 5 undef = .int .i64 ((fr + by' * j : Nat) : Int) ∧ J (evL xs fr by' j) w) n ?_ ?_ ⟨I1, t5, hJ1⟩
    · rintro j a w hj ⟨I, t5, hJj⟩ K hK
      have hi : fr + by' * j < xs.length := hlast j hj
      have hmul : by' * (j + 1) = by' * j + by' := by rw [Nat.mul_add, Nat.mul_one]
      generalize hidef : fr + by' * j = i at *
      have q0 : (i : Int) < (xs.length : Int) := by omega
      have q2 : (0 : Int) ≤ (i : Int) := by omega
      have hx := cx_getD hi
      refine wpIn_seq (wpIn_seq (wpIn_region ?_))
      show wpOpsIn _ _ _ _ _ [0, 1, 2, 3] _ _
      refine step_tel tok (s := ⟨[(5, .int i), (2, .box [.sl 2 (cxRows xs)] 0)], [], 0⟩) (rel_here0 I.hd I.hs I.low (fun p hp => ?_)) rfl rfl (show (7 : Nat) < 21 by decide) (p := True) (x := .int i) (by show aop tt _ _ (.move (.tmp 5)) = _; simp only [evA, evB, evT, evD, seval]) trivial fun v7 hv7 R2 => ?_
      · simp only [List.mem_cons, List.not_mem_nil, or_false] at hp
        rcases hp with rfl | rfl
        · exact rep_is' t5
        · show Rep _ _ _ _ (a.tmps.getD 2 undef)
          rw [I.t2]
          exact I.r2
      refine step_tel tok (s := St.put _ (some 7) _) R2 rfl rfl (show (8 : Nat) < 21 by decide) (p := True) (x := .sl 2 (cxRows xs)) (by show aop tt _ _ (.load 22 (.tmp 2)) = _; simp only [evA, evB, evT, evD, seval]) trivial fun v8 hv8 R3 => ?_
      refine step_tel tok (s := St.put _ (some 8) _) R3 rfl rfl (show (9 : Nat) < 21 by decide) (p := True) (x := .int xs.length) (by show aop tt _ _ (.call ⟨.builtin .len, #[.tmp 8], #[22]⟩) = _; simp only [evA, evB, evT, evD, seval, cx_len]) trivial fun v9 hv9 R4 => ?_
      refine step_tel tok (s := St.put _ (some 9) _) R4 rfl rfl (show (10 : Nat) < 21 by decide) (p := True) (x := .bool true) (by show aop tt _ _ (.binOp .lss 3 (.tmp 7) (.tmp 9) 3) = _; simp only [evA, evB, evT, evD, seval, q0]) trivial fun v10 hv10 R5 => ?_
      have hv10 := hv10.of_raw
      show Code.wpIn _ _ _ _ _ ((((a.put (some 7) v7).put (some 8) v8).put (some 9) v9).put (some 10) v10) _
      obtain ⟨a3, ha3⟩ : ∃ a3, a3 = (((a.put (some 7) v7).put (some 8) v8).put (some 9) v9).put (some 10) v10 := ⟨_, rfl⟩
      have hz3 : a3.tmps.size = 21 := by rw [ha3, put_size, put_size, put_size, put_size, I.hs]
      have hst3 : Stay [0, 2, 3, 5] a a3 := by rw [ha3]; exact ((((Stay.refl _ _).put (by decide)).put (by decide)).put (by decide)).put (by decide)
      have t10 : a3.tmps.getD 10 undef = .bool true := by
        rw [ha3]
        exact (put_eq (by rw [put_size, put_size, put_size, I.hs]; decide)).trans hv10
      rw [← ha3]
      replace t5 := (hst3.2 5 (by decide)).trans t5
      replace I := I.stay (hst3.sub' (by decide)) hz3
      refine wpIn_cond_split (t := true) t10 (fun _ => wpIn_skip ?_) (fun h => by cases h)
      show Code.wpIn _ _ _ _ _ _ _
      refine wpIn_seq (wpIn_block (wpIn_seq (wpIn_region ?_)))
      show wpOpsIn _ _ _ _ _ [0, 1, 2, 3, 4, 5, 6] _ _
      have t0 := I.t0
      refine step_val rfl rfl (v := .func (.yield l) #[] #[]) (w' := w) (by show _ = Result.ok (Next.value _) _; rw [← t0]; rfl) ?_
      have I4 := I.stay (a' := a3.put (some 14) (.func (.yield l) #[] #[])) ((Stay.refl _ _).put (by decide)) (put_size.trans hz3)
      have t5' : (a3.put (some 14) (.func (.yield l) #[] #[])).tmps.getD 5 undef = .int .i64 (i : Int) := (put_ne (by decide)).trans t5
      refine step_tel tok (s := ⟨[(5, .int i), (2, .box [.sl 2 (cxRows xs)] 0)], [], 0⟩) (rel_here0 I4.hd I4.hs I4.low (fun p hp => ?_)) rfl rfl (show (15 : Nat) < 21 by decide) (p := True) (x := .sl 2 (cxRows xs)) (by show aop tt _ _ (.load 22 (.tmp 2)) = _; simp only [evA, evB, evT, evD, seval]) trivial fun v15 hv15 R6 => ?_
      · simp only [List.mem_cons, List.not_mem_nil, or_false] at hp
        rcases hp with rfl | rfl
        · exact rep_is' t5'
        · have h2 := I4.t2
          have h3 := I4.r2
          rw [← h2] at h3
          exact h3
      refine step_tel tok (s := St.put _ (some 15) _) R6 rfl rfl (show (16 : Nat) < 21 by decide) (p := True) (x := .int i) (by show aop tt _ _ (.move (.tmp 5)) = _; simp only [evA, evB, evT, evD, seval]) trivial fun v16 hv16 R7 => ?_
      refine step_tel tok (s := St.put _ (some 16) _) R7 rfl rfl (show (17 : Nat) < 21 by decide) (p := (0 : Int) ≤ i ∧ (i : Int) < xs.length) (x := .box [.int (xs.getD i (0, 0)).1, .int (xs.getD i (0, 0)).2] 0) (by show aop tt _ _ (.indexAddr 22 (.tmp 15) (.tmp 16)) = _; simp only [evA, evB, evT, evD, seval, cx_len, Int.toNat_natCast, hx]) ⟨q2, q0⟩ fun v17 hv17 R8 => ?_
      refine step_tel tok (s := St.put _ (some 17) _) R8 rfl rfl (show (18 : Nat) < 21 by decide) (p := True) (x := cxA (xs.getD i (0, 0)).1 (xs.getD i (0, 0)).2) (by show aop tt _ _ (.load 43 (.tmp 17)) = _; simp only [evA, evB, evT, evD, seval]) trivial fun v18 hv18 R9 => ?_
      have hv18 := rep_cx hv18
      obtain ⟨a8, ha8⟩ : ∃ a8, a8 = ((((a3.put (some 14) (.func (.yield l) #[] #[])).put (some 15) v15).put (some 16) v16).put (some 17) v17).put (some 18) v18 := ⟨_, rfl⟩
      have hz8 : a8.tmps.size = 21 := by rw [ha8, put_size, put_size, put_size, put_size, put_size, hz3]
      have hst8 : Stay [0, 2, 3, 5] a3 a8 := by rw [ha8]; exact (((((Stay.refl _ _).put (by decide)).put (by decide)).put (by decide)).put (by decide)).put (by decide)
      have t14 : a8.tmps.getD 14 undef = .func (.yield l) #[] #[] := by
        rw [ha8]
        exact (put_ne (by decide)).trans ((put_ne (by decide)).trans ((put_ne (by decide)).trans ((put_ne (by decide)).trans (put_eq (by rw [hz3]; decide)))))
      have t18 : a8.tmps.getD 18 undef = .agg #[.int .i64 (xs.getD i (0, 0)).1, .int .i64 (xs.getD i (0, 0)).2] := by
        rw [ha8]
        exact (put_eq (by rw [put_size, put_size, put_size, put_size, hz3]; decide)).trans hv18
      show wpOpsIn _ _ _ _ _ [5, 6] (((((a3.put (some 14) (.func (.yield l) #[] #[])).put (some 15) v15).put (some 16) v16).put (some 17) v17).put (some 18) v18) _
      rw [← ha8]
      have hya := hY (evL xs fr by' j) (xs.getD i (0, 0)) w hJj (by rw [evL_len]; exact hj)
      refine step_yield (l := l) (x := .tmp 14) (ars := #[.tmp 18]) (R := _) rfl rfl rfl t14 (by
        have e : (#[Operand.tmp 18]).map a8.eval = #[.agg #[.int .i64 (xs.getD i (0, 0)).1, .int .i64 (xs.getD i (0, 0)).2]] := by
          simp [Act.eval, t18]
        rw [e]
        exact hya) fun e w6 he => ?_
      obtain ⟨bb, heb, hcase⟩ : ∃ bb : Bool, e = .returned (.bool bb) ∧ ((bb = true ∧ J (evL xs fr by' j ++ [xs.getD i (0, 0)]) w6 ∧ KpN N w w6) ∨ (bb = false ∧ Jx (evL xs fr by' j ++ [xs.getD i (0, 0)]) w6)) := he.elim (fun h => ⟨true, h.1, .inl ⟨rfl, h.2.1, h.2.2⟩⟩) (fun h => ⟨false, h.1, .inr ⟨rfl, h.2⟩⟩)
      refine ⟨.bool bb, heb, ?_⟩
      have t19 : (a8.put (some 19) (.bool bb)).tmps.getD 19 undef = .bool bb := put_eq (by rw [hz8]; decide)
      refine step_val rfl rfl (v := .bool (!bb)) (w' := w6) (by
        show (do pure (Next.value (← Op.unary .not ((a8.put (some 19) (.bool bb)).tmps.getD 19 undef))) : Sem Next).run _ _ = _
        rw [t19]
        rfl) ?_
      show Code.wpIn _ _ _ _ _ ((a8.put (some 19) (.bool bb)).put (some 20) (.bool (!bb))) _
      obtain ⟨a9, ha9⟩ : ∃ a9, a9 = (a8.put (some 19) (.bool bb)).put (some 20) (.bool (!bb)) := ⟨_, rfl⟩
      have hz9 : a9.tmps.size = 21 := by rw [ha9, put_size, put_size, hz8]
      have hst9 : Stay [0, 2, 3, 5] a8 a9 := by rw [ha9]; exact ((Stay.refl _ _).put (by decide)).put (by decide)
      have t20 : a9.tmps.getD 20 undef = .bool (!bb) := by
        rw [ha9]
        exact put_eq (by rw [put_size, hz8]; decide)
      rw [← ha9]
      replace t5 := (hst9.2 5 (by decide)).trans ((hst8.2 5 (by decide)).trans t5)
      replace I := (I.stay (hst8.sub' (by decide)) hz8).stay (hst9.sub' (by decide)) hz9
      rcases hcase with ⟨rfl, hJ6, hk6⟩ | ⟨rfl, hX6⟩
      · replace I := I.world hk6
        refine wpIn_cond_split (t := false) t20 (fun h => by cases h) (fun _ => wpIn_skip ?_)
        show Code.wpIn _ _ _ _ _ _ _
        have q1 : IntKind.i64.wrap ((i : Int) + (by' : Int)) = ((i + by' : Nat) : Int) := by rw [wr (by omega)]; omega
        refine piece tok follows (fs := []) (T := [0, 2, 3]) (k0 := 0) (X := fun _ => []) (s1 := ⟨[(5, .int ((i + by' : Nat) : Int))], [], 0⟩) (fun _ _ => rfl) (by kernel_rfl) (by kernel_rfl) (by kernel_rfl) (fun f hf => by cases hf) (by kernel_rfl) (I.tel [(5, .int i), (3, .box [.int by'] 0)] (fun p hp => ?_)) ?_ ?_
        · simp only [List.mem_cons, List.not_mem_nil, or_false] at hp
          rcases hp with rfl | rfl
          · exact rep_is' t5
          · have h2 := I.t3
            have h3 := I.r3
            rw [← h2] at h3
            exact h3
        · simp only [evA, evB, evT, evD, seval, tk_n, q1]
          refine weak_of (fun l => l) rfl trivial ?_
          simp only [evA, evB, evT, evD, seval]
        rintro a7 w7 ht hst
        obtain ⟨hb7, hz7, he7⟩ := tel_out0 ht
        replace I := (I.stay hst hz7).world (I.kp hb7)
        have hJ7 := hJ2 _ _ _ hJ6 hb7
        refine hK a7 w7 ⟨I, ?_, ?_⟩
        · rw [show fr + by' * (j + 1) = i + by' by omega]
          exact he7 5 _ rfl
        · rw [← evL_succ, hidef]
          exact hJ7
      · refine wpIn_cond_split (t := true) t20 (fun _ => wpIn_ret ?_) (fun h => by cases h)
        exact ret_out (bodyPost_ret (results_none rfl _ _ _) I.hd ⟨⟨_, rfl⟩, .inr ⟨_, trivial, hX6⟩⟩)
    · rintro a w ⟨I, t5, hJj⟩ K
      generalize hidef : fr + by' * n = i at *
      have q0 : ¬ (i : Int) < (xs.length : Int) := by omega
      refine wpIn_seq (wpIn_seq (wpIn_region ?_))
      show wpOpsIn _ _ _ _ _ [0, 1, 2, 3] _ _
      refine step_tel tok (s := ⟨[(5, .int i), (2, .box [.sl 2 (cxRows xs)] 0)], [], 0⟩) (rel_here0 I.hd I.hs I.low (fun p hp => ?_)) rfl rfl (show (7 : Nat) < 21 by decide) (p := True) (x := .int i) (by show aop tt _ _ (.move (.tmp 5)) = _; simp only [evA, evB, evT, evD, seval]) trivial fun v7 hv7 R2 => ?_
      · simp only [List.mem_cons, List.not_mem_nil, or_false] at hp
        rcases hp with rfl | rfl
        · exact rep_is' t5
        · show Rep _ _ _ _ (a.tmps.getD 2 undef)
          rw [I.t2]
          exact I.r2
      refine step_tel tok (s := St.put _ (some 7) _) R2 rfl rfl (show (8 : Nat) < 21 by decide) (p := True) (x := .sl 2 (cxRows xs)) (by show aop tt _ _ (.load 22 (.tmp 2)) = _; simp only [evA, evB, evT, evD, seval]) trivial fun v8 hv8 R3 => ?_
      refine step_tel tok (s := St.put _ (some 8) _) R3 rfl rfl (show (9 : Nat) < 21 by decide) (p := True) (x := .int xs.length) (by show aop tt _ _ (.call ⟨.builtin .len, #[.tmp 8], #[22]⟩) = _; simp only [evA, evB, evT, evD, seval, cx_len]) trivial fun v9 hv9 R4 => ?_
      refine step_tel tok (s := St.put _ (some 9) _) R4 rfl rfl (show (10 : Nat) < 21 by decide) (p := True) (x := .bool false) (by show aop tt _ _ (.binOp .lss 3 (.tmp 7) (.tmp 9) 3) = _; simp only [evA, evB, evT, evD, seval, q0]) trivial fun v10 hv10 R5 => ?_
      have hv10 := hv10.of_raw
      have t10 : ((((a.put (some 7) v7).put (some 8) v8).put (some 9) v9).put (some 10) v10).tmps.getD 10 undef = .bool false := (put_eq (by rw [put_size, put_size, put_size, I.hs]; decide)).trans hv10
      refine wpIn_cond_split (t := false) t10 (fun h => by cases h) (fun _ => wpIn_exit ?_)
      exact exit_out (bodyPost_end (results_none rfl _ _ _) I.hd ⟨⟨_, rfl⟩, .inl ⟨_, rfl, hJj⟩⟩)
theorem cappend.ok (F : Nat) (caps : List AV) (vals : List (Int × Int)) (hv : vals ≠ []) (hl : vals.length ≤ 1000000) (hs : OkSeq Tryz.prog F caps (fun x : Int × Int => [cxA x.1 x.2]) vals vals.length) (hcf : allFree caps = true) (hlt : ∀ k, allLt k caps = true) : Ok Tryz.prog 143 [.raw (.slice none 0 0), .fn F caps] (.sl 2 (cxRows vals)) := by
  refine ok_of (X := fun _ => []) (Z := fun _ => false) (res := [ResultVar.tmp 4]) tok follows Tryz.func143 rfl rfl fine143 (by kernel_rfl) (by kernel_rfl) ?_
  simp only [evA, evB, evT, evD, seval, hcf]
  refine .inr ⟨Int × Int, fun x => [cxA x.1 x.2], vals, [(2, .loc 0 0), (6, .fn F caps)], fun pre => match pre with
    | [] => [(0, some (.box [.raw (.slice none 0 0)]))]
    | y :: r => [(1, some (.row 43 2 (cxRows (y :: r)))), (0, some (.box [.own 1]))], 2, 1, _, _, _, rfl, hcf, hs, fun _ => rfl, rfl, (by simp only [envLt, AV.lt, hlt]; rfl), fun pre => by cases pre <;> rfl, ?_, fun pre x hlen => ?_, ?_⟩
  · refine weak_of (fun l => l) rfl ?_ ?_
    all_goals simp only [evA, evB, evT, evD, seval, hcf, hlt]
    done
  · cases pre with
    | nil =>
      simp only [evA, evB, evT, evD, seval, List.nil_append]
      refine weak_of (fun l => if l = 1 then 4 else l) rfl ?_ ?_
      all_goals simp only [evA, evB, evT, evD, seval]
      exact ⟨.inl ⟨rfl, rfl⟩, .inr ⟨rfl, rfl⟩⟩
    | cons y r =>
      have hn1 : (y :: r).length + 1 ≤ 1000000 := by omega
      have hb1 : (r.length + 1 + 1) * 16 ≤ 140737488355328 := by rw [List.length_cons] at hn1; omega
      have hb2 : r.length ≤ 9223372036854775805 := by rw [List.length_cons] at hn1; omega
      have hpush : cxRows (y :: r) ++ [[.int x.1, .int x.2]] = cxRows (y :: (r ++ [x])) := by simp [cxRows]
      simp only [evA, evB, evT, evD, seval, cx_len, List.length_cons, List.cons_append, hb1, hb2, hpush]
      refine weak_of (fun l => if l = 1 then 4 else l) rfl ?_ ?_
      all_goals simp only [evA, evB, evT, evD, seval, cx_free]
      exact .inr ⟨rfl, rfl⟩
  · cases vals with
    | nil => exact absurd rfl hv
    | cons y r =>
      simp only [evA, evB, evT, evD, seval, cx_free]
theorem ccollect.ok (F : Nat) (caps : List AV) (vals : List (Int × Int)) (hv : vals ≠ []) (hl : vals.length ≤ 1000000) (hs : OkSeq Tryz.prog F caps (fun x : Int × Int => [cxA x.1 x.2]) vals vals.length) (hcf : allFree caps = true) (hlt : ∀ k, allLt k caps = true) (h5 : ∀ lb, caps.map (snap lb 5) = caps) (h6 : ∀ lb, caps.map (snap lb 6) = caps) : Ok Tryz.prog 110 [.fn F caps] (.sl 2 (cxRows vals)) := by
  refine ok_of (X := fun _ => []) (Z := fun _ => false) (res := [ResultVar.tmp 2]) tok follows Tryz.func110 rfl rfl fine110 (by kernel_rfl) (by kernel_rfl) ?_
  simp only [evA, evT, evD, seval, hcf, h5, h6]
  refine call_ok (cappend.ok F caps vals hv hl hs hcf hlt) (by simp only [evA, evT, evD, seval, cx_free]) ?_
  simp only [evA, evT, evD, seval, cx_free]
end Go.Proofs.YtnnjjblgilibgaaGreatV

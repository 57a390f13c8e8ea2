-- Laid by this session's program hyb.py, out of the kit's print and this session's own contracts.
import Derived.Test.YtobkjhiicafkbaaPx0
import Derived.Test.YtobkjhiicafkbaaPx2
import Derived.Test.YtobkjhiicafkbaaPx3
namespace Go.Proofs.Ytobkjhiicafkbaa.P
open Go.RowKit Go.Proofs.YtobkjhiicafkbaaW.PrintWords Go.Proofs.YtobkjhiicafkbaaW.PrintLast Go.Proofs.YtobkjhiicafkbaaW.PrintMore Go.Proofs.YtobkjhiicafkbaaW.Hand
attribute [local go_sem] max2_int min2_int max_two min_two max_three min_three max_four min_four   -- for this text's walks alone
set_option linter.unusedVariables false
set_option linter.unusedSimpArgs false

/-! ### headroomlaw01_RoundBack: function 6 -/
def headroomlaw01_RoundBack.j0 : Nat → Int → Int → Int → Option (Bool)
  | 0, _, _, _ => none
  | k + 1, x0, x1, x2 => (round_Shift.f x0 (Int.tmod (wrap64 ((Int.tmod x1 31) + 31)) 31) 0).bind fun bt109 => ((round_Shift.f bt109.1 (Int.tmod (wrap64 ((Int.tmod x2 31) + 31)) 31) 0).bind fun bt111 => ((round_Shift.f x0 (wrap64 ((Int.tmod (wrap64 ((Int.tmod x1 31) + 31)) 31) + (Int.tmod (wrap64 ((Int.tmod x2 31) + 31)) 31))) 0).bind fun bt113 => ((headroomlaw01_alive.f).bind fun t115 => (if t115 = true then (if bt109.2 = 0 then (if bt111.2 = 0 then (if bt113.2 = 0 then (some (bt111.1 == bt113.1)) else (some false)) else (some false)) else (some false)) else (some false)))))
def headroomlaw01_RoundBack.f (k : Nat) (a0 : Int) (a1 : Int) (a2 : Int) (a3 : Int) : Option (Bool) := (round_Up.f k a0 a1).bind fun bt105 => (if bt105.2 = 0 then ((round_Shift.f bt105.1 a1 (Int.tmod (wrap64 ((Int.tmod a3 3) + 3)) 3)).bind fun bt107 => (if bt107.2 = 0 then (if bt107.1 = a0 then (headroomlaw01_RoundBack.j0 k a0 a1 a2) else (some false)) else (some false))) else (headroomlaw01_RoundBack.j0 k a0 a1 a2))
theorem headroomlaw01_RoundBack.mono_l : ∀ k, (∀ y0 y1 y2, LeO (headroomlaw01_RoundBack.j0 k y0 y1 y2) (headroomlaw01_RoundBack.j0 (k + 1) y0 y1 y2))
  | 0 => fun _ _ _ r h => by simp [headroomlaw01_RoundBack.j0] at h
  | k + 1 => by
    have ih0 := headroomlaw01_RoundBack.mono_l k
    · intro y0 y1 y2
      unfold headroomlaw01_RoundBack.j0
      repeat' first
      | (with_reducible exact ih0 _ _ _)
      | (with_reducible exact round_Up.mono _ _ _)
      | (with_reducible exact LeO.refl _)
      | (with_reducible exact LeO.none _)
      | (with_reducible refine LeO.ite ?_ ?_)
      | (with_reducible refine LeO.bind ?_ (fun _ => ?_))
      | exact ih0 _ _ _
      | exact round_Up.mono _ _ _
      | exact LeO.none _
      | refine LeO.ite ?_ ?_
      | refine LeO.bind ?_ (fun _ => ?_)
theorem headroomlaw01_RoundBack.mono : ∀ a0 a1 a2 a3 k, LeO (headroomlaw01_RoundBack.f k a0 a1 a2 a3) (headroomlaw01_RoundBack.f (k + 1) a0 a1 a2 a3) := by
  intro a0 a1 a2 a3 k
  have ih0 := headroomlaw01_RoundBack.mono_l k
  unfold headroomlaw01_RoundBack.f
  repeat' first
      | (with_reducible exact ih0 _ _ _)
      | (with_reducible exact round_Up.mono _ _ _)
      | (with_reducible exact LeO.refl _)
      | (with_reducible exact LeO.none _)
      | (with_reducible refine LeO.ite ?_ ?_)
      | (with_reducible refine LeO.bind ?_ (fun _ => ?_))
      | exact ih0 _ _ _
      | exact round_Up.mono _ _ _
      | exact LeO.none _
      | refine LeO.ite ?_ ?_
      | refine LeO.bind ?_ (fun _ => ?_)
set_option maxHeartbeats 8000000 in
set_option maxRecDepth 100000 in
theorem headroomlaw01_RoundBack.calls (k : Nat) (a0 : Int) (a1 : Int) (a2 : Int) (a3 : Int) (r : Bool) (w : World) (h : headroomlaw01_RoundBack.f k a0 a1 a2 a3 = some r) :
    Calls Try.prog 6 #[.int .i64 a0, .int .i64 a1, .int .i64 a2, .int .i64 a3] w fun e w' => e = .returned (.bool r) ∧ Below w.heap.size w w' := by
  have HB := Aside0.mk (Below.refl w.heap.size w)
  have H : ((round_Up.f k a0 a1).bind fun bt105 => (if bt105.2 = 0 then ((round_Shift.f bt105.1 a1 (Int.tmod (wrap64 ((Int.tmod a3 3) + 3)) 3)).bind fun bt107 => (if bt107.2 = 0 then (if bt107.1 = a0 then (headroomlaw01_RoundBack.j0 k a0 a1 a2) else (some false)) else (some false))) else (headroomlaw01_RoundBack.j0 k a0 a1 a2))) = some r := h
  clear h
  replace H := Option.bind_eq_some_iff.mp H
  obtain ⟨⟨t105, t106⟩, A50, H⟩ := H
  replace H : (if t106 = 0 then ((round_Shift.f t105 a1 (Int.tmod (wrap64 ((Int.tmod a3 3) + 3)) 3)).bind fun bt107 => (if bt107.2 = 0 then (if bt107.1 = a0 then (headroomlaw01_RoundBack.j0 k a0 a1 a2) else (some false)) else (some false))) else (headroomlaw01_RoundBack.j0 k a0 a1 a2)) = some r := H
  have A5 := Aside0.mk A50
  clear A50
  have HC6 := Aside0.mk H
  clear H
  go_enter Try.func6, Try.ntmps6
  go_upto_if 30 with (first | ((with_reducible refine gate_callee (f := 27) rfl ?_); refine goesL_ (some 26) rfl rfl Try.func27 (by kernel_rfl) rfl #[.int .i64 a0, .int .i64 a1] rfl (by (try simp only [List.map_toArray, List.map_cons, List.map_nil]); first | done | rfl | (simp only [List.length_drop, List.length_take]; rfl)) ?_; (with_reducible refine (round_Up.calls k a0 a1 t105 t106 _ A5.out).mono ?_); rintro e w' ⟨rfl, ⟨nd, rfl⟩⟩; refine ⟨_, rfl, ?_⟩))
  (try simp only [Act.put, List.setIfInBounds_toArray, List.set_cons_zero, List.set_cons_succ])
  go_cut [] (fun wc => ∃ (kq : Nat), Aside0 (headroomlaw01_RoundBack.j0 kq a0 a1 a2 = some r) ∧ Aside0 (kq ≤ k) ∧ Aside0 (Below w.heap.size w wc))
  case first =>
    have H := HC6.out
    clear HC6
    by_cases c7 : t106 = 0
    · rw [if_pos c7] at H
      have c7b0 : (t106 == 0) = true := beq_iff_eq.mpr c7
      have c7b1 : (t106 != 0) = false := bne_eq_false_iff_eq.mpr c7
      clear c7
      (first | rw [c7b0] | (simp only [i64_w, i32_w]; rw [c7b0]) | skip)
      replace H := Option.bind_eq_some_iff.mp H
      obtain ⟨⟨t107, t108⟩, A80, H⟩ := H
      replace H : (if t108 = 0 then (if t107 = a0 then (headroomlaw01_RoundBack.j0 k a0 a1 a2) else (some false)) else (some false)) = some r := H
      have A8 := Aside0.mk A80
      clear A80
      by_cases c9 : t108 = 0
      · rw [if_pos c9] at H
        have c9b0 : (t108 == 0) = true := beq_iff_eq.mpr c9
        have c9b1 : (t108 != 0) = false := bne_eq_false_iff_eq.mpr c9
        clear c9
        by_cases c10 : t107 = a0
        · rw [if_pos c10] at H
          have c10b0 : (t107 == a0) = true := beq_iff_eq.mpr c10
          have c10b1 : (t107 != a0) = false := bne_eq_false_iff_eq.mpr c10
          clear c10
          have H' := Aside0.mk H
          clear H
          go_wp2_with (first | ((with_reducible refine gate_callee (f := 15) rfl ?_); refine goesL_ (some 35) rfl rfl Try.func15 (by kernel_rfl) rfl #[.int .i64 t105, .int .i64 a1, .int .i64 (Int.tmod (wrap64 ((Int.tmod a3 3) + 3)) 3)] rfl (by (try simp only [List.map_toArray, List.map_cons, List.map_nil]); first | done | rfl | (simp only [List.length_drop, List.length_take]; rfl)) ?_; (with_reducible refine (round_Shift.calls t105 a1 (Int.tmod (wrap64 ((Int.tmod a3 3) + 3)) 3) t107 t108 _ A8.out).mono ?_); rintro e w11 ⟨rfl, hb⟩; refine ⟨_, rfl, ?_⟩; have n0_ := Aside0.mk (below_step (by repeat (first | (with_reducible first | exact HB.out | apply below_alloc | apply pw_below_drewN | apply below_drew1) | exact HB.out)) hb); clear HB; have HB := n0_; clear n0_; (try clear hb); (try clear hb2); (try clear hk); (try clear hi)))
          go_meet
          case rel => exact ⟨_, H', ⟨by first | omega | exact Nat.le_refl _⟩, ⟨by repeat (first | (with_reducible first | exact HB.out | apply below_alloc | apply pw_below_drewN | apply below_drew1) | exact HB.out)⟩⟩
        · rw [if_neg c10] at H
          have c10b0 : (t107 == a0) = false := beq_eq_false_iff_ne.mpr c10
          have c10b1 : (t107 != a0) = true := bne_iff_ne.mpr c10
          obtain rfl := Option.some.inj H
          go_wp2_with (first | ((with_reducible refine gate_callee (f := 15) rfl ?_); refine goesL_ (some 35) rfl rfl Try.func15 (by kernel_rfl) rfl #[.int .i64 t105, .int .i64 a1, .int .i64 (Int.tmod (wrap64 ((Int.tmod a3 3) + 3)) 3)] rfl (by (try simp only [List.map_toArray, List.map_cons, List.map_nil]); first | done | rfl | (simp only [List.length_drop, List.length_take]; rfl)) ?_; (with_reducible refine (round_Shift.calls t105 a1 (Int.tmod (wrap64 ((Int.tmod a3 3) + 3)) 3) t107 t108 _ A8.out).mono ?_); rintro e w12 ⟨rfl, hb⟩; refine ⟨_, rfl, ?_⟩; have n0_ := Aside0.mk (below_step (by repeat (first | (with_reducible first | exact HB.out | apply below_alloc | apply pw_below_drewN | apply below_drew1) | exact HB.out)) hb); clear HB; have HB := n0_; clear n0_; (try clear hb); (try clear hb2); (try clear hk); (try clear hi)))
          go_ret
          exact ⟨by first | rfl | (simp [errW_none, errW_some] <;> rfl) | (simp [*, errW_none, errW_some] <;> rfl), by repeat (first | (with_reducible first | exact HB.out | apply below_alloc | apply pw_below_drewN | apply below_drew1) | exact HB.out)⟩
      · rw [if_neg c9] at H
        have c9b0 : (t108 == 0) = false := beq_eq_false_iff_ne.mpr c9
        have c9b1 : (t108 != 0) = true := bne_iff_ne.mpr c9
        obtain rfl := Option.some.inj H
        go_wp2_with (first | ((with_reducible refine gate_callee (f := 15) rfl ?_); refine goesL_ (some 35) rfl rfl Try.func15 (by kernel_rfl) rfl #[.int .i64 t105, .int .i64 a1, .int .i64 (Int.tmod (wrap64 ((Int.tmod a3 3) + 3)) 3)] rfl (by (try simp only [List.map_toArray, List.map_cons, List.map_nil]); first | done | rfl | (simp only [List.length_drop, List.length_take]; rfl)) ?_; (with_reducible refine (round_Shift.calls t105 a1 (Int.tmod (wrap64 ((Int.tmod a3 3) + 3)) 3) t107 t108 _ A8.out).mono ?_); rintro e w13 ⟨rfl, hb⟩; refine ⟨_, rfl, ?_⟩; have n0_ := Aside0.mk (below_step (by repeat (first | (with_reducible first | exact HB.out | apply below_alloc | apply pw_below_drewN | apply below_drew1) | exact HB.out)) hb); clear HB; have HB := n0_; clear n0_; (try clear hb); (try clear hb2); (try clear hk); (try clear hi)))
        go_ret
        exact ⟨by first | rfl | (simp [errW_none, errW_some] <;> rfl) | (simp [*, errW_none, errW_some] <;> rfl), by repeat (first | (with_reducible first | exact HB.out | apply below_alloc | apply pw_below_drewN | apply below_drew1) | exact HB.out)⟩
    · rw [if_neg c7] at H
      have c7b0 : (t106 == 0) = false := beq_eq_false_iff_ne.mpr c7
      have c7b1 : (t106 != 0) = true := bne_iff_ne.mpr c7
      (first | rw [c7b0] | (simp only [i64_w, i32_w]; rw [c7b0]) | skip)
      have H' := Aside0.mk H
      clear H
      go_wp2
      go_meet
      case rel => exact ⟨_, H', ⟨by first | omega | exact Nat.le_refl _⟩, ⟨by repeat (first | (with_reducible first | exact HB.out | apply below_alloc | apply pw_below_drewN | apply below_drew1) | exact HB.out)⟩⟩
  case rest =>
    clear HC6
    try clear c1
    try clear c2
    try clear p2
    try clear c6
    try clear p6
    try clear c7
    try clear c7b0
    try clear c7b1
    try clear c9
    try clear c9b0
    try clear c9b1
    try clear c10
    try clear c10b0
    try clear c10b1
    obtain ⟨kq, HA, HJ5, HB⟩ := hcut
    cases kq with
    | zero => exact absurd HA.out (by simp [headroomlaw01_RoundBack.j0])
    | succ kj5 =>
      have H := HA.out
      clear HA
      simp only [headroomlaw01_RoundBack.j0] at H
      replace H := Option.bind_eq_some_iff.mp H
      obtain ⟨⟨t109, t110⟩, A140, H⟩ := H
      replace H : ((round_Shift.f t109 (Int.tmod (wrap64 ((Int.tmod a2 31) + 31)) 31) 0).bind fun bt111 => ((round_Shift.f a0 (wrap64 ((Int.tmod (wrap64 ((Int.tmod a1 31) + 31)) 31) + (Int.tmod (wrap64 ((Int.tmod a2 31) + 31)) 31))) 0).bind fun bt113 => ((headroomlaw01_alive.f).bind fun t115 => (if t115 = true then (if t110 = 0 then (if bt111.2 = 0 then (if bt113.2 = 0 then (some (bt111.1 == bt113.1)) else (some false)) else (some false)) else (some false)) else (some false))))) = some r := H
      have A14 := Aside0.mk A140
      clear A140
      replace H := Option.bind_eq_some_iff.mp H
      obtain ⟨⟨t111, t112⟩, A150, H⟩ := H
      replace H : ((round_Shift.f a0 (wrap64 ((Int.tmod (wrap64 ((Int.tmod a1 31) + 31)) 31) + (Int.tmod (wrap64 ((Int.tmod a2 31) + 31)) 31))) 0).bind fun bt113 => ((headroomlaw01_alive.f).bind fun t115 => (if t115 = true then (if t110 = 0 then (if t112 = 0 then (if bt113.2 = 0 then (some (t111 == bt113.1)) else (some false)) else (some false)) else (some false)) else (some false)))) = some r := H
      have A15 := Aside0.mk A150
      clear A150
      replace H := Option.bind_eq_some_iff.mp H
      obtain ⟨⟨t113, t114⟩, A160, H⟩ := H
      replace H : ((headroomlaw01_alive.f).bind fun t115 => (if t115 = true then (if t110 = 0 then (if t112 = 0 then (if t114 = 0 then (some (t111 == t113)) else (some false)) else (some false)) else (some false)) else (some false))) = some r := H
      have A16 := Aside0.mk A160
      clear A160
      replace H := Option.bind_eq_some_iff.mp H
      obtain ⟨t115, A170, H⟩ := H
      replace H : (if t115 = true then (if t110 = 0 then (if t112 = 0 then (if t114 = 0 then (some (t111 == t113)) else (some false)) else (some false)) else (some false)) else (some false)) = some r := H
      have A17 := Aside0.mk A170
      clear A170
      by_cases c18 : t115 = true
      · subst c18
        have H1 : (if t110 = 0 then (if t112 = 0 then (if t114 = 0 then (some (t111 == t113)) else (some false)) else (some false)) else (some false)) = some r := by rw [if_pos rfl] at H; exact H
        clear H
        have H := H1
        clear H1
        by_cases c19 : t110 = 0
        · rw [if_pos c19] at H
          have c19b0 : (t110 == 0) = true := beq_iff_eq.mpr c19
          have c19b1 : (t110 != 0) = false := bne_eq_false_iff_eq.mpr c19
          clear c19
          by_cases c20 : t112 = 0
          · rw [if_pos c20] at H
            have c20b0 : (t112 == 0) = true := beq_iff_eq.mpr c20
            have c20b1 : (t112 != 0) = false := bne_eq_false_iff_eq.mpr c20
            clear c20
            by_cases c21 : t114 = 0
            · rw [if_pos c21] at H
              have c21b0 : (t114 == 0) = true := beq_iff_eq.mpr c21
              have c21b1 : (t114 != 0) = false := bne_eq_false_iff_eq.mpr c21
              clear c21
              obtain rfl := Option.some.inj H
              go_wp2_with (first | ((with_reducible refine gate_callee (f := 15) rfl ?_); refine goesL_ (some 56) rfl rfl Try.func15 (by kernel_rfl) rfl #[.int .i64 a0, .int .i64 (Int.tmod (wrap64 ((Int.tmod a1 31) + 31)) 31), .int .i64 0] rfl (by (try simp only [List.map_toArray, List.map_cons, List.map_nil]); first | done | rfl | (simp only [List.length_drop, List.length_take]; rfl)) ?_; (with_reducible refine (round_Shift.calls a0 (Int.tmod (wrap64 ((Int.tmod a1 31) + 31)) 31) 0 t109 t110 _ A14.out).mono ?_); rintro e w22 ⟨rfl, hb⟩; refine ⟨_, rfl, ?_⟩; have n0_ := Aside0.mk (below_step (by repeat (first | (with_reducible first | exact HB.out | apply below_alloc | apply pw_below_drewN | apply below_drew1) | exact HB.out)) hb); clear HB; have HB := n0_; clear n0_; (try clear hb); (try clear hb2); (try clear hk); (try clear hi)) | ((with_reducible refine gate_callee (f := 15) rfl ?_); refine goesL_ (some 62) rfl rfl Try.func15 (by kernel_rfl) rfl #[.int .i64 t109, .int .i64 (Int.tmod (wrap64 ((Int.tmod a2 31) + 31)) 31), .int .i64 0] rfl (by (try simp only [List.map_toArray, List.map_cons, List.map_nil]); first | done | rfl | (simp only [List.length_drop, List.length_take]; rfl)) ?_; (with_reducible refine (round_Shift.calls t109 (Int.tmod (wrap64 ((Int.tmod a2 31) + 31)) 31) 0 t111 t112 _ A15.out).mono ?_); rintro e w23 ⟨rfl, hb⟩; refine ⟨_, rfl, ?_⟩; have n0_ := Aside0.mk (below_step (by repeat (first | (with_reducible first | exact HB.out | apply below_alloc | apply pw_below_drewN | apply below_drew1) | exact HB.out)) hb); clear HB; have HB := n0_; clear n0_; (try clear hb); (try clear hb2); (try clear hk); (try clear hi)) | ((with_reducible refine gate_callee (f := 15) rfl ?_); refine goesL_ (some 70) rfl rfl Try.func15 (by kernel_rfl) rfl #[.int .i64 a0, .int .i64 (wrap64 ((Int.tmod (wrap64 ((Int.tmod a1 31) + 31)) 31) + (Int.tmod (wrap64 ((Int.tmod a2 31) + 31)) 31))), .int .i64 0] rfl (by (try simp only [List.map_toArray, List.map_cons, List.map_nil]); first | done | rfl | (simp only [List.length_drop, List.length_take]; rfl)) ?_; (with_reducible refine (round_Shift.calls a0 (wrap64 ((Int.tmod (wrap64 ((Int.tmod a1 31) + 31)) 31) + (Int.tmod (wrap64 ((Int.tmod a2 31) + 31)) 31))) 0 t113 t114 _ A16.out).mono ?_); rintro e w24 ⟨rfl, hb⟩; refine ⟨_, rfl, ?_⟩; have n0_ := Aside0.mk (below_step (by repeat (first | (with_reducible first | exact HB.out | apply below_alloc | apply pw_below_drewN | apply below_drew1) | exact HB.out)) hb); clear HB; have HB := n0_; clear n0_; (try clear hb); (try clear hb2); (try clear hk); (try clear hi)) | ((with_reducible refine gate_callee (f := 16) rfl ?_); refine goesL_ (some 73) rfl rfl Try.func16 (by kernel_rfl) rfl #[] rfl (by (try simp only [List.map_toArray, List.map_cons, List.map_nil]); first | done | rfl | (simp only [List.length_drop, List.length_take]; rfl)) ?_; (with_reducible refine (headroomlaw01_alive.calls  true _ A17.out).mono ?_); rintro e w25 ⟨rfl, hb⟩; refine ⟨_, rfl, ?_⟩; have n0_ := Aside0.mk (below_step (by repeat (first | (with_reducible first | exact HB.out | apply below_alloc | apply pw_below_drewN | apply below_drew1) | exact HB.out)) hb); clear HB; have HB := n0_; clear n0_; (try clear hb); (try clear hb2); (try clear hk); (try clear hi)))
              go_ret
              exact ⟨by first | rfl | (simp [errW_none, errW_some] <;> rfl) | (simp [*, errW_none, errW_some] <;> rfl), by repeat (first | (with_reducible first | exact HB.out | apply below_alloc | apply pw_below_drewN | apply below_drew1) | exact HB.out)⟩
            · rw [if_neg c21] at H
              have c21b0 : (t114 == 0) = false := beq_eq_false_iff_ne.mpr c21
              have c21b1 : (t114 != 0) = true := bne_iff_ne.mpr c21
              obtain rfl := Option.some.inj H
              go_wp2_with (first | ((with_reducible refine gate_callee (f := 15) rfl ?_); refine goesL_ (some 56) rfl rfl Try.func15 (by kernel_rfl) rfl #[.int .i64 a0, .int .i64 (Int.tmod (wrap64 ((Int.tmod a1 31) + 31)) 31), .int .i64 0] rfl (by (try simp only [List.map_toArray, List.map_cons, List.map_nil]); first | done | rfl | (simp only [List.length_drop, List.length_take]; rfl)) ?_; (with_reducible refine (round_Shift.calls a0 (Int.tmod (wrap64 ((Int.tmod a1 31) + 31)) 31) 0 t109 t110 _ A14.out).mono ?_); rintro e w26 ⟨rfl, hb⟩; refine ⟨_, rfl, ?_⟩; have n0_ := Aside0.mk (below_step (by repeat (first | (with_reducible first | exact HB.out | apply below_alloc | apply pw_below_drewN | apply below_drew1) | exact HB.out)) hb); clear HB; have HB := n0_; clear n0_; (try clear hb); (try clear hb2); (try clear hk); (try clear hi)) | ((with_reducible refine gate_callee (f := 15) rfl ?_); refine goesL_ (some 62) rfl rfl Try.func15 (by kernel_rfl) rfl #[.int .i64 t109, .int .i64 (Int.tmod (wrap64 ((Int.tmod a2 31) + 31)) 31), .int .i64 0] rfl (by (try simp only [List.map_toArray, List.map_cons, List.map_nil]); first | done | rfl | (simp only [List.length_drop, List.length_take]; rfl)) ?_; (with_reducible refine (round_Shift.calls t109 (Int.tmod (wrap64 ((Int.tmod a2 31) + 31)) 31) 0 t111 t112 _ A15.out).mono ?_); rintro e w27 ⟨rfl, hb⟩; refine ⟨_, rfl, ?_⟩; have n0_ := Aside0.mk (below_step (by repeat (first | (with_reducible first | exact HB.out | apply below_alloc | apply pw_below_drewN | apply below_drew1) | exact HB.out)) hb); clear HB; have HB := n0_; clear n0_; (try clear hb); (try clear hb2); (try clear hk); (try clear hi)) | ((with_reducible refine gate_callee (f := 15) rfl ?_); refine goesL_ (some 70) rfl rfl Try.func15 (by kernel_rfl) rfl #[.int .i64 a0, .int .i64 (wrap64 ((Int.tmod (wrap64 ((Int.tmod a1 31) + 31)) 31) + (Int.tmod (wrap64 ((Int.tmod a2 31) + 31)) 31))), .int .i64 0] rfl (by (try simp only [List.map_toArray, List.map_cons, List.map_nil]); first | done | rfl | (simp only [List.length_drop, List.length_take]; rfl)) ?_; (with_reducible refine (round_Shift.calls a0 (wrap64 ((Int.tmod (wrap64 ((Int.tmod a1 31) + 31)) 31) + (Int.tmod (wrap64 ((Int.tmod a2 31) + 31)) 31))) 0 t113 t114 _ A16.out).mono ?_); rintro e w28 ⟨rfl, hb⟩; refine ⟨_, rfl, ?_⟩; have n0_ := Aside0.mk (below_step (by repeat (first | (with_reducible first | exact HB.out | apply below_alloc | apply pw_below_drewN | apply below_drew1) | exact HB.out)) hb); clear HB; have HB := n0_; clear n0_; (try clear hb); (try clear hb2); (try clear hk); (try clear hi)) | ((with_reducible refine gate_callee (f := 16) rfl ?_); refine goesL_ (some 73) rfl rfl Try.func16 (by kernel_rfl) rfl #[] rfl (by (try simp only [List.map_toArray, List.map_cons, List.map_nil]); first | done | rfl | (simp only [List.length_drop, List.length_take]; rfl)) ?_; (with_reducible refine (headroomlaw01_alive.calls  true _ A17.out).mono ?_); rintro e w29 ⟨rfl, hb⟩; refine ⟨_, rfl, ?_⟩; have n0_ := Aside0.mk (below_step (by repeat (first | (with_reducible first | exact HB.out | apply below_alloc | apply pw_below_drewN | apply below_drew1) | exact HB.out)) hb); clear HB; have HB := n0_; clear n0_; (try clear hb); (try clear hb2); (try clear hk); (try clear hi)))
              go_ret
              exact ⟨by first | rfl | (simp [errW_none, errW_some] <;> rfl) | (simp [*, errW_none, errW_some] <;> rfl), by repeat (first | (with_reducible first | exact HB.out | apply below_alloc | apply pw_below_drewN | apply below_drew1) | exact HB.out)⟩
          · rw [if_neg c20] at H
            have c20b0 : (t112 == 0) = false := beq_eq_false_iff_ne.mpr c20
            have c20b1 : (t112 != 0) = true := bne_iff_ne.mpr c20
            obtain rfl := Option.some.inj H
            go_wp2_with (first | ((with_reducible refine gate_callee (f := 15) rfl ?_); refine goesL_ (some 56) rfl rfl Try.func15 (by kernel_rfl) rfl #[.int .i64 a0, .int .i64 (Int.tmod (wrap64 ((Int.tmod a1 31) + 31)) 31), .int .i64 0] rfl (by (try simp only [List.map_toArray, List.map_cons, List.map_nil]); first | done | rfl | (simp only [List.length_drop, List.length_take]; rfl)) ?_; (with_reducible refine (round_Shift.calls a0 (Int.tmod (wrap64 ((Int.tmod a1 31) + 31)) 31) 0 t109 t110 _ A14.out).mono ?_); rintro e w30 ⟨rfl, hb⟩; refine ⟨_, rfl, ?_⟩; have n0_ := Aside0.mk (below_step (by repeat (first | (with_reducible first | exact HB.out | apply below_alloc | apply pw_below_drewN | apply below_drew1) | exact HB.out)) hb); clear HB; have HB := n0_; clear n0_; (try clear hb); (try clear hb2); (try clear hk); (try clear hi)) | ((with_reducible refine gate_callee (f := 15) rfl ?_); refine goesL_ (some 62) rfl rfl Try.func15 (by kernel_rfl) rfl #[.int .i64 t109, .int .i64 (Int.tmod (wrap64 ((Int.tmod a2 31) + 31)) 31), .int .i64 0] rfl (by (try simp only [List.map_toArray, List.map_cons, List.map_nil]); first | done | rfl | (simp only [List.length_drop, List.length_take]; rfl)) ?_; (with_reducible refine (round_Shift.calls t109 (Int.tmod (wrap64 ((Int.tmod a2 31) + 31)) 31) 0 t111 t112 _ A15.out).mono ?_); rintro e w31 ⟨rfl, hb⟩; refine ⟨_, rfl, ?_⟩; have n0_ := Aside0.mk (below_step (by repeat (first | (with_reducible first | exact HB.out | apply below_alloc | apply pw_below_drewN | apply below_drew1) | exact HB.out)) hb); clear HB; have HB := n0_; clear n0_; (try clear hb); (try clear hb2); (try clear hk); (try clear hi)) | ((with_reducible refine gate_callee (f := 15) rfl ?_); refine goesL_ (some 70) rfl rfl Try.func15 (by kernel_rfl) rfl #[.int .i64 a0, .int .i64 (wrap64 ((Int.tmod (wrap64 ((Int.tmod a1 31) + 31)) 31) + (Int.tmod (wrap64 ((Int.tmod a2 31) + 31)) 31))), .int .i64 0] rfl (by (try simp only [List.map_toArray, List.map_cons, List.map_nil]); first | done | rfl | (simp only [List.length_drop, List.length_take]; rfl)) ?_; (with_reducible refine (round_Shift.calls a0 (wrap64 ((Int.tmod (wrap64 ((Int.tmod a1 31) + 31)) 31) + (Int.tmod (wrap64 ((Int.tmod a2 31) + 31)) 31))) 0 t113 t114 _ A16.out).mono ?_); rintro e w32 ⟨rfl, hb⟩; refine ⟨_, rfl, ?_⟩; have n0_ := Aside0.mk (below_step (by repeat (first | (with_reducible first | exact HB.out | apply below_alloc | apply pw_below_drewN | apply below_drew1) | exact HB.out)) hb); clear HB; have HB := n0_; clear n0_; (try clear hb); (try clear hb2); (try clear hk); (try clear hi)) | ((with_reducible refine gate_callee (f := 16) rfl ?_); refine goesL_ (some 73) rfl rfl Try.func16 (by kernel_rfl) rfl #[] rfl (by (try simp only [List.map_toArray, List.map_cons, List.map_nil]); first | done | rfl | (simp only [List.length_drop, List.length_take]; rfl)) ?_; (with_reducible refine (headroomlaw01_alive.calls  true _ A17.out).mono ?_); rintro e w33 ⟨rfl, hb⟩; refine ⟨_, rfl, ?_⟩; have n0_ := Aside0.mk (below_step (by repeat (first | (with_reducible first | exact HB.out | apply below_alloc | apply pw_below_drewN | apply below_drew1) | exact HB.out)) hb); clear HB; have HB := n0_; clear n0_; (try clear hb); (try clear hb2); (try clear hk); (try clear hi)))
            go_ret
            exact ⟨by first | rfl | (simp [errW_none, errW_some] <;> rfl) | (simp [*, errW_none, errW_some] <;> rfl), by repeat (first | (with_reducible first | exact HB.out | apply below_alloc | apply pw_below_drewN | apply below_drew1) | exact HB.out)⟩
        · rw [if_neg c19] at H
          have c19b0 : (t110 == 0) = false := beq_eq_false_iff_ne.mpr c19
          have c19b1 : (t110 != 0) = true := bne_iff_ne.mpr c19
          obtain rfl := Option.some.inj H
          go_wp2_with (first | ((with_reducible refine gate_callee (f := 15) rfl ?_); refine goesL_ (some 56) rfl rfl Try.func15 (by kernel_rfl) rfl #[.int .i64 a0, .int .i64 (Int.tmod (wrap64 ((Int.tmod a1 31) + 31)) 31), .int .i64 0] rfl (by (try simp only [List.map_toArray, List.map_cons, List.map_nil]); first | done | rfl | (simp only [List.length_drop, List.length_take]; rfl)) ?_; (with_reducible refine (round_Shift.calls a0 (Int.tmod (wrap64 ((Int.tmod a1 31) + 31)) 31) 0 t109 t110 _ A14.out).mono ?_); rintro e w34 ⟨rfl, hb⟩; refine ⟨_, rfl, ?_⟩; have n0_ := Aside0.mk (below_step (by repeat (first | (with_reducible first | exact HB.out | apply below_alloc | apply pw_below_drewN | apply below_drew1) | exact HB.out)) hb); clear HB; have HB := n0_; clear n0_; (try clear hb); (try clear hb2); (try clear hk); (try clear hi)) | ((with_reducible refine gate_callee (f := 15) rfl ?_); refine goesL_ (some 62) rfl rfl Try.func15 (by kernel_rfl) rfl #[.int .i64 t109, .int .i64 (Int.tmod (wrap64 ((Int.tmod a2 31) + 31)) 31), .int .i64 0] rfl (by (try simp only [List.map_toArray, List.map_cons, List.map_nil]); first | done | rfl | (simp only [List.length_drop, List.length_take]; rfl)) ?_; (with_reducible refine (round_Shift.calls t109 (Int.tmod (wrap64 ((Int.tmod a2 31) + 31)) 31) 0 t111 t112 _ A15.out).mono ?_); rintro e w35 ⟨rfl, hb⟩; refine ⟨_, rfl, ?_⟩; have n0_ := Aside0.mk (below_step (by repeat (first | (with_reducible first | exact HB.out | apply below_alloc | apply pw_below_drewN | apply below_drew1) | exact HB.out)) hb); clear HB; have HB := n0_; clear n0_; (try clear hb); (try clear hb2); (try clear hk); (try clear hi)) | ((with_reducible refine gate_callee (f := 15) rfl ?_); refine goesL_ (some 70) rfl rfl Try.func15 (by kernel_rfl) rfl #[.int .i64 a0, .int .i64 (wrap64 ((Int.tmod (wrap64 ((Int.tmod a1 31) + 31)) 31) + (Int.tmod (wrap64 ((Int.tmod a2 31) + 31)) 31))), .int .i64 0] rfl (by (try simp only [List.map_toArray, List.map_cons, List.map_nil]); first | done | rfl | (simp only [List.length_drop, List.length_take]; rfl)) ?_; (with_reducible refine (round_Shift.calls a0 (wrap64 ((Int.tmod (wrap64 ((Int.tmod a1 31) + 31)) 31) + (Int.tmod (wrap64 ((Int.tmod a2 31) + 31)) 31))) 0 t113 t114 _ A16.out).mono ?_); rintro e w36 ⟨rfl, hb⟩; refine ⟨_, rfl, ?_⟩; have n0_ := Aside0.mk (below_step (by repeat (first | (with_reducible first | exact HB.out | apply below_alloc | apply pw_below_drewN | apply below_drew1) | exact HB.out)) hb); clear HB; have HB := n0_; clear n0_; (try clear hb); (try clear hb2); (try clear hk); (try clear hi)) | ((with_reducible refine gate_callee (f := 16) rfl ?_); refine goesL_ (some 73) rfl rfl Try.func16 (by kernel_rfl) rfl #[] rfl (by (try simp only [List.map_toArray, List.map_cons, List.map_nil]); first | done | rfl | (simp only [List.length_drop, List.length_take]; rfl)) ?_; (with_reducible refine (headroomlaw01_alive.calls  true _ A17.out).mono ?_); rintro e w37 ⟨rfl, hb⟩; refine ⟨_, rfl, ?_⟩; have n0_ := Aside0.mk (below_step (by repeat (first | (with_reducible first | exact HB.out | apply below_alloc | apply pw_below_drewN | apply below_drew1) | exact HB.out)) hb); clear HB; have HB := n0_; clear n0_; (try clear hb); (try clear hb2); (try clear hk); (try clear hi)))
          go_ret
          exact ⟨by first | rfl | (simp [errW_none, errW_some] <;> rfl) | (simp [*, errW_none, errW_some] <;> rfl), by repeat (first | (with_reducible first | exact HB.out | apply below_alloc | apply pw_below_drewN | apply below_drew1) | exact HB.out)⟩
      · replace c18 := Bool.eq_false_iff.mpr c18
        subst c18
        have H1 : (some false) = some r := by rw [if_neg (show ¬ (false = true) by decide)] at H; exact H
        clear H
        have H := H1
        clear H1
        obtain rfl := Option.some.inj H
        go_wp2_with (first | ((with_reducible refine gate_callee (f := 15) rfl ?_); refine goesL_ (some 56) rfl rfl Try.func15 (by kernel_rfl) rfl #[.int .i64 a0, .int .i64 (Int.tmod (wrap64 ((Int.tmod a1 31) + 31)) 31), .int .i64 0] rfl (by (try simp only [List.map_toArray, List.map_cons, List.map_nil]); first | done | rfl | (simp only [List.length_drop, List.length_take]; rfl)) ?_; (with_reducible refine (round_Shift.calls a0 (Int.tmod (wrap64 ((Int.tmod a1 31) + 31)) 31) 0 t109 t110 _ A14.out).mono ?_); rintro e w38 ⟨rfl, hb⟩; refine ⟨_, rfl, ?_⟩; have n0_ := Aside0.mk (below_step (by repeat (first | (with_reducible first | exact HB.out | apply below_alloc | apply pw_below_drewN | apply below_drew1) | exact HB.out)) hb); clear HB; have HB := n0_; clear n0_; (try clear hb); (try clear hb2); (try clear hk); (try clear hi)) | ((with_reducible refine gate_callee (f := 15) rfl ?_); refine goesL_ (some 62) rfl rfl Try.func15 (by kernel_rfl) rfl #[.int .i64 t109, .int .i64 (Int.tmod (wrap64 ((Int.tmod a2 31) + 31)) 31), .int .i64 0] rfl (by (try simp only [List.map_toArray, List.map_cons, List.map_nil]); first | done | rfl | (simp only [List.length_drop, List.length_take]; rfl)) ?_; (with_reducible refine (round_Shift.calls t109 (Int.tmod (wrap64 ((Int.tmod a2 31) + 31)) 31) 0 t111 t112 _ A15.out).mono ?_); rintro e w39 ⟨rfl, hb⟩; refine ⟨_, rfl, ?_⟩; have n0_ := Aside0.mk (below_step (by repeat (first | (with_reducible first | exact HB.out | apply below_alloc | apply pw_below_drewN | apply below_drew1) | exact HB.out)) hb); clear HB; have HB := n0_; clear n0_; (try clear hb); (try clear hb2); (try clear hk); (try clear hi)) | ((with_reducible refine gate_callee (f := 15) rfl ?_); refine goesL_ (some 70) rfl rfl Try.func15 (by kernel_rfl) rfl #[.int .i64 a0, .int .i64 (wrap64 ((Int.tmod (wrap64 ((Int.tmod a1 31) + 31)) 31) + (Int.tmod (wrap64 ((Int.tmod a2 31) + 31)) 31))), .int .i64 0] rfl (by (try simp only [List.map_toArray, List.map_cons, List.map_nil]); first | done | rfl | (simp only [List.length_drop, List.length_take]; rfl)) ?_; (with_reducible refine (round_Shift.calls a0 (wrap64 ((Int.tmod (wrap64 ((Int.tmod a1 31) + 31)) 31) + (Int.tmod (wrap64 ((Int.tmod a2 31) + 31)) 31))) 0 t113 t114 _ A16.out).mono ?_); rintro e w40 ⟨rfl, hb⟩; refine ⟨_, rfl, ?_⟩; have n0_ := Aside0.mk (below_step (by repeat (first | (with_reducible first | exact HB.out | apply below_alloc | apply pw_below_drewN | apply below_drew1) | exact HB.out)) hb); clear HB; have HB := n0_; clear n0_; (try clear hb); (try clear hb2); (try clear hk); (try clear hi)) | ((with_reducible refine gate_callee (f := 16) rfl ?_); refine goesL_ (some 73) rfl rfl Try.func16 (by kernel_rfl) rfl #[] rfl (by (try simp only [List.map_toArray, List.map_cons, List.map_nil]); first | done | rfl | (simp only [List.length_drop, List.length_take]; rfl)) ?_; (with_reducible refine (headroomlaw01_alive.calls  false _ A17.out).mono ?_); rintro e w41 ⟨rfl, hb⟩; refine ⟨_, rfl, ?_⟩; have n0_ := Aside0.mk (below_step (by repeat (first | (with_reducible first | exact HB.out | apply below_alloc | apply pw_below_drewN | apply below_drew1) | exact HB.out)) hb); clear HB; have HB := n0_; clear n0_; (try clear hb); (try clear hb2); (try clear hk); (try clear hi)))
        go_ret
        exact ⟨by first | rfl | (simp [errW_none, errW_some] <;> rfl) | (simp [*, errW_none, errW_some] <;> rfl), by repeat (first | (with_reducible first | exact HB.out | apply below_alloc | apply pw_below_drewN | apply below_drew1) | exact HB.out)⟩

/-- THE ONE PURE STATEMENT of headroomlaw01_RoundBack. -/
def headroomlaw01_RoundBack.Pure : Prop := ∀ (a0 : Int) (a1 : Int) (a2 : Int) (a3 : Int), (Lit.int .i64 a0).wf = true → (Lit.int .i64 a1).wf = true → (Lit.int .i64 a2).wf = true → (Lit.int .i64 a3).wf = true → ∃ k, headroomlaw01_RoundBack.f k a0 a1 a2 a3 = some true
theorem headroomlaw01_RoundBack.walk (P : headroomlaw01_RoundBack.Pure) (a0 : Int) (a1 : Int) (a2 : Int) (a3 : Int) (w : World) (w0_ : (Lit.int .i64 a0).wf = true) (w1_ : (Lit.int .i64 a1).wf = true) (w2_ : (Lit.int .i64 a2).wf = true) (w3_ : (Lit.int .i64 a3).wf = true) :
    Calls Try.prog 6 #[.int .i64 a0, .int .i64 a1, .int .i64 a2, .int .i64 a3] w fun e w' => e = .returned (.bool true) ∧ Below w.heap.size w w' := by
  obtain ⟨k, h⟩ := P a0 a1 a2 a3 w0_ w1_ w2_ w3_
  refine (headroomlaw01_RoundBack.calls k a0 a1 a2 a3 true w h).mono ?_
  rintro e w' ⟨rfl, hd⟩
  exact ⟨rfl, hd⟩

end Go.Proofs.Ytobkjhiicafkbaa.P

-- Laid by this session's program hyb.py, out of the kit's print and this session's own contracts.
import Derived.Test.YtobkjhiicafkbaaPx0
import Derived.Test.YtobkjhiicafkbaaPx2
import Derived.Test.YtobkjhiicafkbaaPx3
import Derived.Test.YtobkjhiicafkbaaPx6
import Derived.Test.YtobkjhiicafkbaaPx8
import Derived.Test.YtobkjhiicafkbaaPx9
namespace Go.Proofs.Ytobkjhiicafkbaa.P
open Go.RowKit Go.Proofs.YtobkjhiicafkbaaW.PrintWords Go.Proofs.YtobkjhiicafkbaaW.PrintLast Go.Proofs.YtobkjhiicafkbaaW.PrintMore Go.Proofs.YtobkjhiicafkbaaW.Hand
attribute [local go_sem] max2_int min2_int max_two min_two max_three min_three max_four min_four   -- for this text's walks alone
set_option linter.unusedVariables false
set_option linter.unusedSimpArgs false

/-! ### headroomlaw01_RoundUps: function 9 -/
mutual
def headroomlaw01_RoundUps.j0 : Nat → Int → Int → Int → Int → Bool → Option (Bool)
  | 0, _, _, _, _, _ => none
  | k + 1, x0, x1, x7, x8, x52 => if x52 = true then (some false) else (if x1 < 0 then (headroomlaw01_RoundUps.j1 k x0 x1 x7 x8 true) else (headroomlaw01_RoundUps.j1 k x0 x1 x7 x8 (decide (x1 > 62))))
def headroomlaw01_RoundUps.j1 : Nat → Int → Int → Int → Int → Bool → Option (Bool)
  | 0, _, _, _, _, _ => none
  | k + 1, x0, x1, x7, x8, x58 => if x58 = true then (if x8 = 1 then (some (x7 == 0)) else (some false)) else ((headroomref01_Pow.f k (wrap64 (62 - x1))).bind fun t144 => (if x0 < (wrap64 (-t144)) then (if x8 = 2 then (some (x7 == 0)) else (some false)) else (if x0 > t144 then (if x8 = 2 then (some (x7 == 0)) else (some false)) else (if x8 = 0 then ((headroomref01_Pow.f k x1).bind fun t145 => (some (x7 == (wrap64 (x0 * t145))))) else (some false)))))
end
def headroomlaw01_RoundUps.f (k : Nat) (a0 : Int) (a1 : Int) (a2 : Int) : Option (Bool) := (round_Up.f k a0 a1).bind fun bt134 => ((round_Div.f a0 a2).bind fun bt136 => (if a2 < 1 then (if bt136.2 = 1 then (if bt136.1 = 0 then (if a2 ≥ 1 then (if bt136.2 = 0 then ((headroomref01_Div.f a0 a2).bind fun t138 => (if bt136.1 = t138 then ((headroomlaw01_alive.f).bind fun t139 => (headroomlaw01_RoundUps.j0 k a0 a1 bt134.1 bt134.2 (!t139))) else (headroomlaw01_RoundUps.j0 k a0 a1 bt134.1 bt134.2 true))) else (headroomlaw01_RoundUps.j0 k a0 a1 bt134.1 bt134.2 true)) else ((headroomlaw01_alive.f).bind fun t140 => (headroomlaw01_RoundUps.j0 k a0 a1 bt134.1 bt134.2 (!t140)))) else (headroomlaw01_RoundUps.j0 k a0 a1 bt134.1 bt134.2 true)) else (headroomlaw01_RoundUps.j0 k a0 a1 bt134.1 bt134.2 true)) else (if a2 ≥ 1 then (if bt136.2 = 0 then ((headroomref01_Div.f a0 a2).bind fun t141 => (if bt136.1 = t141 then ((headroomlaw01_alive.f).bind fun t142 => (headroomlaw01_RoundUps.j0 k a0 a1 bt134.1 bt134.2 (!t142))) else (headroomlaw01_RoundUps.j0 k a0 a1 bt134.1 bt134.2 true))) else (headroomlaw01_RoundUps.j0 k a0 a1 bt134.1 bt134.2 true)) else ((headroomlaw01_alive.f).bind fun t143 => (headroomlaw01_RoundUps.j0 k a0 a1 bt134.1 bt134.2 (!t143))))))
theorem headroomlaw01_RoundUps.mono_l : ∀ k, (∀ y0 y1 y2 y3 y4, LeO (headroomlaw01_RoundUps.j0 k y0 y1 y2 y3 y4) (headroomlaw01_RoundUps.j0 (k + 1) y0 y1 y2 y3 y4)) ∧ (∀ y0 y1 y2 y3 y4, LeO (headroomlaw01_RoundUps.j1 k y0 y1 y2 y3 y4) (headroomlaw01_RoundUps.j1 (k + 1) y0 y1 y2 y3 y4))
  | 0 => ⟨fun _ _ _ _ _ r h => by simp [headroomlaw01_RoundUps.j0] at h, fun _ _ _ _ _ r h => by simp [headroomlaw01_RoundUps.j1] at h⟩
  | k + 1 => by
    obtain ⟨ih0, ih1⟩ := headroomlaw01_RoundUps.mono_l k
    refine ⟨?_, ?_⟩
    · intro y0 y1 y2 y3 y4
      unfold headroomlaw01_RoundUps.j0
      repeat' first
      | (with_reducible exact ih0 _ _ _ _ _)
      | (with_reducible exact ih1 _ _ _ _ _)
      | (with_reducible exact headroomref01_Pow.mono _ _)
      | (with_reducible exact round_Up.mono _ _ _)
      | (with_reducible exact LeO.refl _)
      | (with_reducible exact LeO.none _)
      | (with_reducible refine LeO.ite ?_ ?_)
      | (with_reducible refine LeO.bind ?_ (fun _ => ?_))
      | exact ih0 _ _ _ _ _
      | exact ih1 _ _ _ _ _
      | exact headroomref01_Pow.mono _ _
      | exact round_Up.mono _ _ _
      | exact LeO.none _
      | refine LeO.ite ?_ ?_
      | refine LeO.bind ?_ (fun _ => ?_)
    · intro y0 y1 y2 y3 y4
      unfold headroomlaw01_RoundUps.j1
      repeat' first
      | (with_reducible exact ih0 _ _ _ _ _)
      | (with_reducible exact ih1 _ _ _ _ _)
      | (with_reducible exact headroomref01_Pow.mono _ _)
      | (with_reducible exact round_Up.mono _ _ _)
      | (with_reducible exact LeO.refl _)
      | (with_reducible exact LeO.none _)
      | (with_reducible refine LeO.ite ?_ ?_)
      | (with_reducible refine LeO.bind ?_ (fun _ => ?_))
      | exact ih0 _ _ _ _ _
      | exact ih1 _ _ _ _ _
      | exact headroomref01_Pow.mono _ _
      | exact round_Up.mono _ _ _
      | exact LeO.none _
      | refine LeO.ite ?_ ?_
      | refine LeO.bind ?_ (fun _ => ?_)
theorem headroomlaw01_RoundUps.mono : ∀ a0 a1 a2 k, LeO (headroomlaw01_RoundUps.f k a0 a1 a2) (headroomlaw01_RoundUps.f (k + 1) a0 a1 a2) := by
  intro a0 a1 a2 k
  obtain ⟨ih0, ih1⟩ := headroomlaw01_RoundUps.mono_l k
  unfold headroomlaw01_RoundUps.f
  repeat' first
      | (with_reducible exact ih0 _ _ _ _ _)
      | (with_reducible exact ih1 _ _ _ _ _)
      | (with_reducible exact headroomref01_Pow.mono _ _)
      | (with_reducible exact round_Up.mono _ _ _)
      | (with_reducible exact LeO.refl _)
      | (with_reducible exact LeO.none _)
      | (with_reducible refine LeO.ite ?_ ?_)
      | (with_reducible refine LeO.bind ?_ (fun _ => ?_))
      | exact ih0 _ _ _ _ _
      | exact ih1 _ _ _ _ _
      | exact headroomref01_Pow.mono _ _
      | exact round_Up.mono _ _ _
      | exact LeO.none _
      | refine LeO.ite ?_ ?_
      | refine LeO.bind ?_ (fun _ => ?_)
set_option maxHeartbeats 8000000 in
set_option maxRecDepth 100000 in
theorem headroomlaw01_RoundUps.calls (k : Nat) (a0 : Int) (a1 : Int) (a2 : Int) (r : Bool) (w : World) (h : headroomlaw01_RoundUps.f k a0 a1 a2 = some r) :
    Calls Try.prog 9 #[.int .i64 a0, .int .i64 a1, .int .i64 a2] w fun e w' => e = .returned (.bool r) ∧ Below w.heap.size w w' := by
  have HB := Aside0.mk (Below.refl w.heap.size w)
  have H : ((round_Up.f k a0 a1).bind fun bt134 => ((round_Div.f a0 a2).bind fun bt136 => (if a2 < 1 then (if bt136.2 = 1 then (if bt136.1 = 0 then (if a2 ≥ 1 then (if bt136.2 = 0 then ((headroomref01_Div.f a0 a2).bind fun t138 => (if bt136.1 = t138 then ((headroomlaw01_alive.f).bind fun t139 => (headroomlaw01_RoundUps.j0 k a0 a1 bt134.1 bt134.2 (!t139))) else (headroomlaw01_RoundUps.j0 k a0 a1 bt134.1 bt134.2 true))) else (headroomlaw01_RoundUps.j0 k a0 a1 bt134.1 bt134.2 true)) else ((headroomlaw01_alive.f).bind fun t140 => (headroomlaw01_RoundUps.j0 k a0 a1 bt134.1 bt134.2 (!t140)))) else (headroomlaw01_RoundUps.j0 k a0 a1 bt134.1 bt134.2 true)) else (headroomlaw01_RoundUps.j0 k a0 a1 bt134.1 bt134.2 true)) else (if a2 ≥ 1 then (if bt136.2 = 0 then ((headroomref01_Div.f a0 a2).bind fun t141 => (if bt136.1 = t141 then ((headroomlaw01_alive.f).bind fun t142 => (headroomlaw01_RoundUps.j0 k a0 a1 bt134.1 bt134.2 (!t142))) else (headroomlaw01_RoundUps.j0 k a0 a1 bt134.1 bt134.2 true))) else (headroomlaw01_RoundUps.j0 k a0 a1 bt134.1 bt134.2 true)) else ((headroomlaw01_alive.f).bind fun t143 => (headroomlaw01_RoundUps.j0 k a0 a1 bt134.1 bt134.2 (!t143))))))) = some r := h
  clear h
  replace H := Option.bind_eq_some_iff.mp H
  obtain ⟨⟨t134, t135⟩, A40, H⟩ := H
  replace H : ((round_Div.f a0 a2).bind fun bt136 => (if a2 < 1 then (if bt136.2 = 1 then (if bt136.1 = 0 then (if a2 ≥ 1 then (if bt136.2 = 0 then ((headroomref01_Div.f a0 a2).bind fun t138 => (if bt136.1 = t138 then ((headroomlaw01_alive.f).bind fun t139 => (headroomlaw01_RoundUps.j0 k a0 a1 t134 t135 (!t139))) else (headroomlaw01_RoundUps.j0 k a0 a1 t134 t135 true))) else (headroomlaw01_RoundUps.j0 k a0 a1 t134 t135 true)) else ((headroomlaw01_alive.f).bind fun t140 => (headroomlaw01_RoundUps.j0 k a0 a1 t134 t135 (!t140)))) else (headroomlaw01_RoundUps.j0 k a0 a1 t134 t135 true)) else (headroomlaw01_RoundUps.j0 k a0 a1 t134 t135 true)) else (if a2 ≥ 1 then (if bt136.2 = 0 then ((headroomref01_Div.f a0 a2).bind fun t141 => (if bt136.1 = t141 then ((headroomlaw01_alive.f).bind fun t142 => (headroomlaw01_RoundUps.j0 k a0 a1 t134 t135 (!t142))) else (headroomlaw01_RoundUps.j0 k a0 a1 t134 t135 true))) else (headroomlaw01_RoundUps.j0 k a0 a1 t134 t135 true)) else ((headroomlaw01_alive.f).bind fun t143 => (headroomlaw01_RoundUps.j0 k a0 a1 t134 t135 (!t143)))))) = some r := H
  have A4 := Aside0.mk A40
  clear A40
  replace H := Option.bind_eq_some_iff.mp H
  obtain ⟨⟨t136, t137⟩, A50, H⟩ := H
  replace H : (if a2 < 1 then (if t137 = 1 then (if t136 = 0 then (if a2 ≥ 1 then (if t137 = 0 then ((headroomref01_Div.f a0 a2).bind fun t138 => (if t136 = t138 then ((headroomlaw01_alive.f).bind fun t139 => (headroomlaw01_RoundUps.j0 k a0 a1 t134 t135 (!t139))) else (headroomlaw01_RoundUps.j0 k a0 a1 t134 t135 true))) else (headroomlaw01_RoundUps.j0 k a0 a1 t134 t135 true)) else ((headroomlaw01_alive.f).bind fun t140 => (headroomlaw01_RoundUps.j0 k a0 a1 t134 t135 (!t140)))) else (headroomlaw01_RoundUps.j0 k a0 a1 t134 t135 true)) else (headroomlaw01_RoundUps.j0 k a0 a1 t134 t135 true)) else (if a2 ≥ 1 then (if t137 = 0 then ((headroomref01_Div.f a0 a2).bind fun t141 => (if t136 = t141 then ((headroomlaw01_alive.f).bind fun t142 => (headroomlaw01_RoundUps.j0 k a0 a1 t134 t135 (!t142))) else (headroomlaw01_RoundUps.j0 k a0 a1 t134 t135 true))) else (headroomlaw01_RoundUps.j0 k a0 a1 t134 t135 true)) else ((headroomlaw01_alive.f).bind fun t143 => (headroomlaw01_RoundUps.j0 k a0 a1 t134 t135 (!t143))))) = some r := H
  have A5 := Aside0.mk A50
  clear A50
  have HC6 := Aside0.mk H
  clear H
  go_enter Try.func9, Try.ntmps9
  go_upto_region 3 with (first | ((with_reducible refine gate_callee (f := 27) rfl ?_); refine goesL_ (some 15) rfl rfl Try.func27 (by kernel_rfl) rfl #[.int .i64 a0, .int .i64 a1] rfl (by (try simp only [List.map_toArray, List.map_cons, List.map_nil]); first | done | rfl | (simp only [List.length_drop, List.length_take]; rfl)) ?_; (with_reducible refine (round_Up.calls k a0 a1 t134 t135 _ A4.out).mono ?_); rintro e w' ⟨rfl, ⟨nd, rfl⟩⟩; refine ⟨_, rfl, ?_⟩) | ((with_reducible refine gate_callee (f := 38) rfl ?_); refine goesL_ (some 21) rfl rfl Try.func38 (by kernel_rfl) rfl #[.int .i64 a0, .int .i64 a2] rfl (by (try simp only [List.map_toArray, List.map_cons, List.map_nil]); first | done | rfl | (simp only [List.length_drop, List.length_take]; rfl)) ?_; (with_reducible refine (round_Div.calls a0 a2 t136 t137 _ A5.out).mono ?_); rintro e w' ⟨rfl, ⟨nd, rfl⟩⟩; refine ⟨_, rfl, ?_⟩))
  (try simp only [Act.put, List.setIfInBounds_toArray, List.set_cons_zero, List.set_cons_succ])
  go_cut [52] (fun v52 wc => ∃ (kq : Nat) (x52_5 : Bool), v52 = .bool x52_5 ∧ Aside0 (headroomlaw01_RoundUps.j0 kq a0 a1 t134 t135 x52_5 = some r) ∧ Aside0 (kq ≤ k) ∧ Aside0 (Below w.heap.size w wc))
  case first =>
    have H := HC6.out
    clear HC6
    by_cases c7 : a2 < 1
    · rw [if_pos c7] at H
      have c7b0 : decide (a2 < 1) = true := decide_eq_true c7
      clear c7
      (first | rw [c7b0] | (simp only [i64_w, i32_w]; rw [c7b0]) | skip)
      by_cases c8 : t137 = 1
      · rw [if_pos c8] at H
        have c8b0 : (t137 == 1) = true := beq_iff_eq.mpr c8
        have c8b1 : (t137 != 1) = false := bne_eq_false_iff_eq.mpr c8
        clear c8
        by_cases c9 : t136 = 0
        · rw [if_pos c9] at H
          have c9b0 : (t136 == 0) = true := beq_iff_eq.mpr c9
          have c9b1 : (t136 != 0) = false := bne_eq_false_iff_eq.mpr c9
          clear c9
          by_cases c10 : a2 ≥ 1
          · rw [if_pos c10] at H
            have c10b0 : decide (1 ≤ a2) = true := decide_eq_true c10
            clear c10
            by_cases c11 : t137 = 0
            · rw [if_pos c11] at H
              have c11b0 : (t137 == 0) = true := beq_iff_eq.mpr c11
              have c11b1 : (t137 != 0) = false := bne_eq_false_iff_eq.mpr c11
              clear c11
              replace H := Option.bind_eq_some_iff.mp H
              obtain ⟨t138, A120, H⟩ := H
              replace H : (if t136 = t138 then ((headroomlaw01_alive.f).bind fun t139 => (headroomlaw01_RoundUps.j0 k a0 a1 t134 t135 (!t139))) else (headroomlaw01_RoundUps.j0 k a0 a1 t134 t135 true)) = some r := H
              have A12 := Aside0.mk A120
              clear A120
              by_cases c13 : t136 = t138
              · rw [if_pos c13] at H
                have c13b0 : (t136 == t138) = true := beq_iff_eq.mpr c13
                have c13b1 : (t136 != t138) = false := bne_eq_false_iff_eq.mpr c13
                clear c13
                replace H := Option.bind_eq_some_iff.mp H
                obtain ⟨t139, A140, H⟩ := H
                replace H : (headroomlaw01_RoundUps.j0 k a0 a1 t134 t135 (!t139)) = some r := H
                have A14 := Aside0.mk A140
                clear A140
                have H' := Aside0.mk H
                clear H
                go_wp2_with (first | (go_at_call 39; (with_reducible refine (headroomref01_Div.calls a0 a2 t138 _ A12.out).mono ?_); rintro e w' ⟨rfl, ⟨nd, rfl⟩⟩) | (go_at_call 16; (with_reducible refine (headroomlaw01_alive.calls  t139 _ A14.out).mono ?_); rintro e w15 ⟨rfl, hb⟩; have n0_ := Aside0.mk (below_step (by repeat (first | (with_reducible first | exact HB.out | apply below_alloc | apply pw_below_drewN | apply below_drew1) | exact HB.out)) hb); clear HB; have HB := n0_; clear n0_; (try clear hb); (try clear hb2); (try clear hk); (try clear hi)))
                go_meet
                case rel => exact ⟨_, (!t139), (by first | rfl | (simp; done) | (simp [*]; done)), H', ⟨by first | omega | exact Nat.le_refl _⟩, ⟨by repeat (first | (with_reducible first | exact HB.out | apply below_alloc | apply pw_below_drewN | apply below_drew1) | exact HB.out)⟩⟩
              · rw [if_neg c13] at H
                have c13b0 : (t136 == t138) = false := beq_eq_false_iff_ne.mpr c13
                have c13b1 : (t136 != t138) = true := bne_iff_ne.mpr c13
                have H' := Aside0.mk H
                clear H
                go_wp2_with (first | (go_at_call 39; (with_reducible refine (headroomref01_Div.calls a0 a2 t138 _ A12.out).mono ?_); rintro e w' ⟨rfl, ⟨nd, rfl⟩⟩))
                go_meet
                case rel => exact ⟨_, (true), (by first | rfl | (simp; done) | (simp [*]; done)), H', ⟨by first | omega | exact Nat.le_refl _⟩, ⟨by repeat (first | (with_reducible first | exact HB.out | apply below_alloc | apply pw_below_drewN | apply below_drew1) | exact HB.out)⟩⟩
            · rw [if_neg c11] at H
              have c11b0 : (t137 == 0) = false := beq_eq_false_iff_ne.mpr c11
              have c11b1 : (t137 != 0) = true := bne_iff_ne.mpr c11
              have H' := Aside0.mk H
              clear H
              go_wp2
              go_meet
              case rel => exact ⟨_, (true), (by first | rfl | (simp; done) | (simp [*]; done)), H', ⟨by first | omega | exact Nat.le_refl _⟩, ⟨by repeat (first | (with_reducible first | exact HB.out | apply below_alloc | apply pw_below_drewN | apply below_drew1) | exact HB.out)⟩⟩
          · rw [if_neg c10] at H
            have c10b0 : decide (1 ≤ a2) = false := decide_eq_false c10
            clear c10
            replace H := Option.bind_eq_some_iff.mp H
            obtain ⟨t140, A160, H⟩ := H
            replace H : (headroomlaw01_RoundUps.j0 k a0 a1 t134 t135 (!t140)) = some r := H
            have A16 := Aside0.mk A160
            clear A160
            have H' := Aside0.mk H
            clear H
            go_wp2_with (first | (go_at_call 16; (with_reducible refine (headroomlaw01_alive.calls  t140 _ A16.out).mono ?_); rintro e w17 ⟨rfl, hb⟩; have n0_ := Aside0.mk (below_step (by repeat (first | (with_reducible first | exact HB.out | apply below_alloc | apply pw_below_drewN | apply below_drew1) | exact HB.out)) hb); clear HB; have HB := n0_; clear n0_; (try clear hb); (try clear hb2); (try clear hk); (try clear hi)))
            go_meet
            case rel => exact ⟨_, (!t140), (by first | rfl | (simp; done) | (simp [*]; done)), H', ⟨by first | omega | exact Nat.le_refl _⟩, ⟨by repeat (first | (with_reducible first | exact HB.out | apply below_alloc | apply pw_below_drewN | apply below_drew1) | exact HB.out)⟩⟩
        · rw [if_neg c9] at H
          have c9b0 : (t136 == 0) = false := beq_eq_false_iff_ne.mpr c9
          have c9b1 : (t136 != 0) = true := bne_iff_ne.mpr c9
          have H' := Aside0.mk H
          clear H
          go_wp2
          go_meet
          case rel => exact ⟨_, (true), (by first | rfl | (simp; done) | (simp [*]; done)), H', ⟨by first | omega | exact Nat.le_refl _⟩, ⟨by repeat (first | (with_reducible first | exact HB.out | apply below_alloc | apply pw_below_drewN | apply below_drew1) | exact HB.out)⟩⟩
      · rw [if_neg c8] at H
        have c8b0 : (t137 == 1) = false := beq_eq_false_iff_ne.mpr c8
        have c8b1 : (t137 != 1) = true := bne_iff_ne.mpr c8
        have H' := Aside0.mk H
        clear H
        go_wp2
        go_meet
        case rel => exact ⟨_, (true), (by first | rfl | (simp; done) | (simp [*]; done)), H', ⟨by first | omega | exact Nat.le_refl _⟩, ⟨by repeat (first | (with_reducible first | exact HB.out | apply below_alloc | apply pw_below_drewN | apply below_drew1) | exact HB.out)⟩⟩
    · rw [if_neg c7] at H
      have c7b0 : decide (a2 < 1) = false := decide_eq_false c7
      clear c7
      (first | rw [c7b0] | (simp only [i64_w, i32_w]; rw [c7b0]) | skip)
      by_cases c18 : a2 ≥ 1
      · rw [if_pos c18] at H
        have c18b0 : decide (1 ≤ a2) = true := decide_eq_true c18
        clear c18
        by_cases c19 : t137 = 0
        · rw [if_pos c19] at H
          have c19b0 : (t137 == 0) = true := beq_iff_eq.mpr c19
          have c19b1 : (t137 != 0) = false := bne_eq_false_iff_eq.mpr c19
          clear c19
          replace H := Option.bind_eq_some_iff.mp H
          obtain ⟨t141, A200, H⟩ := H
          replace H : (if t136 = t141 then ((headroomlaw01_alive.f).bind fun t142 => (headroomlaw01_RoundUps.j0 k a0 a1 t134 t135 (!t142))) else (headroomlaw01_RoundUps.j0 k a0 a1 t134 t135 true)) = some r := H
          have A20 := Aside0.mk A200
          clear A200
          by_cases c21 : t136 = t141
          · rw [if_pos c21] at H
            have c21b0 : (t136 == t141) = true := beq_iff_eq.mpr c21
            have c21b1 : (t136 != t141) = false := bne_eq_false_iff_eq.mpr c21
            clear c21
            replace H := Option.bind_eq_some_iff.mp H
            obtain ⟨t142, A220, H⟩ := H
            replace H : (headroomlaw01_RoundUps.j0 k a0 a1 t134 t135 (!t142)) = some r := H
            have A22 := Aside0.mk A220
            clear A220
            have H' := Aside0.mk H
            clear H
            go_wp2_with (first | (go_at_call 39; (with_reducible refine (headroomref01_Div.calls a0 a2 t141 _ A20.out).mono ?_); rintro e w' ⟨rfl, ⟨nd, rfl⟩⟩) | (go_at_call 16; (with_reducible refine (headroomlaw01_alive.calls  t142 _ A22.out).mono ?_); rintro e w23 ⟨rfl, hb⟩; have n0_ := Aside0.mk (below_step (by repeat (first | (with_reducible first | exact HB.out | apply below_alloc | apply pw_below_drewN | apply below_drew1) | exact HB.out)) hb); clear HB; have HB := n0_; clear n0_; (try clear hb); (try clear hb2); (try clear hk); (try clear hi)))
            go_meet
            case rel => exact ⟨_, (!t142), (by first | rfl | (simp; done) | (simp [*]; done)), H', ⟨by first | omega | exact Nat.le_refl _⟩, ⟨by repeat (first | (with_reducible first | exact HB.out | apply below_alloc | apply pw_below_drewN | apply below_drew1) | exact HB.out)⟩⟩
          · rw [if_neg c21] at H
            have c21b0 : (t136 == t141) = false := beq_eq_false_iff_ne.mpr c21
            have c21b1 : (t136 != t141) = true := bne_iff_ne.mpr c21
            have H' := Aside0.mk H
            clear H
            go_wp2_with (first | (go_at_call 39; (with_reducible refine (headroomref01_Div.calls a0 a2 t141 _ A20.out).mono ?_); rintro e w' ⟨rfl, ⟨nd, rfl⟩⟩))
            go_meet
            case rel => exact ⟨_, (true), (by first | rfl | (simp; done) | (simp [*]; done)), H', ⟨by first | omega | exact Nat.le_refl _⟩, ⟨by repeat (first | (with_reducible first | exact HB.out | apply below_alloc | apply pw_below_drewN | apply below_drew1) | exact HB.out)⟩⟩
        · rw [if_neg c19] at H
          have c19b0 : (t137 == 0) = false := beq_eq_false_iff_ne.mpr c19
          have c19b1 : (t137 != 0) = true := bne_iff_ne.mpr c19
          have H' := Aside0.mk H
          clear H
          go_wp2
          go_meet
          case rel => exact ⟨_, (true), (by first | rfl | (simp; done) | (simp [*]; done)), H', ⟨by first | omega | exact Nat.le_refl _⟩, ⟨by repeat (first | (with_reducible first | exact HB.out | apply below_alloc | apply pw_below_drewN | apply below_drew1) | exact HB.out)⟩⟩
      · rw [if_neg c18] at H
        have c18b0 : decide (1 ≤ a2) = false := decide_eq_false c18
        clear c18
        replace H := Option.bind_eq_some_iff.mp H
        obtain ⟨t143, A240, H⟩ := H
        replace H : (headroomlaw01_RoundUps.j0 k a0 a1 t134 t135 (!t143)) = some r := H
        have A24 := Aside0.mk A240
        clear A240
        have H' := Aside0.mk H
        clear H
        go_wp2_with (first | (go_at_call 16; (with_reducible refine (headroomlaw01_alive.calls  t143 _ A24.out).mono ?_); rintro e w25 ⟨rfl, hb⟩; have n0_ := Aside0.mk (below_step (by repeat (first | (with_reducible first | exact HB.out | apply below_alloc | apply pw_below_drewN | apply below_drew1) | exact HB.out)) hb); clear HB; have HB := n0_; clear n0_; (try clear hb); (try clear hb2); (try clear hk); (try clear hi)))
        go_meet
        case rel => exact ⟨_, (!t143), (by first | rfl | (simp; done) | (simp [*]; done)), H', ⟨by first | omega | exact Nat.le_refl _⟩, ⟨by repeat (first | (with_reducible first | exact HB.out | apply below_alloc | apply pw_below_drewN | apply below_drew1) | exact HB.out)⟩⟩
  case rest =>
    clear HC6
    try clear c1
    try clear c2
    try clear p2
    try clear c3
    try clear c7
    try clear c7b0
    try clear c8
    try clear c8b0
    try clear c8b1
    try clear c9
    try clear c9b0
    try clear c9b1
    try clear c10
    try clear c10b0
    try clear c11
    try clear c11b0
    try clear c11b1
    try clear c13
    try clear c13b0
    try clear c13b1
    try clear c18
    try clear c18b0
    try clear c19
    try clear c19b0
    try clear c19b1
    try clear c21
    try clear c21b0
    try clear c21b1
    obtain ⟨kq, x52_5, rfl, HA, HJ5, HB⟩ := hcut
    cases kq with
    | zero => exact absurd HA.out (by simp [headroomlaw01_RoundUps.j0])
    | succ kj5 =>
      have H := HA.out
      clear HA
      simp only [headroomlaw01_RoundUps.j0] at H
      by_cases c26 : x52_5 = true
      · subst c26
        have H1 : (some false) = some r := by rw [if_pos rfl] at H; exact H
        clear H
        have H := H1
        clear H1
        obtain rfl := Option.some.inj H
        go_wp2
        go_ret
        exact ⟨by first | rfl | (simp [errW_none, errW_some] <;> rfl) | (simp [*, errW_none, errW_some] <;> rfl), by repeat (first | (with_reducible first | exact HB.out | apply below_alloc | apply pw_below_drewN | apply below_drew1) | exact HB.out)⟩
      · replace c26 := Bool.eq_false_iff.mpr c26
        subst c26
        have H1 : (if a1 < 0 then (headroomlaw01_RoundUps.j1 kj5 a0 a1 t134 t135 true) else (headroomlaw01_RoundUps.j1 kj5 a0 a1 t134 t135 (decide (a1 > 62)))) = some r := by rw [if_neg (show ¬ (false = true) by decide)] at H; exact H
        clear H
        have H := H1
        clear H1
        have HC27 := Aside0.mk H
        clear H
        go_upto_region 5 with (fail)
        go_cut [58] (fun v58 wc => ∃ (kq : Nat) (x58_26 : Bool), v58 = .bool x58_26 ∧ Aside0 (headroomlaw01_RoundUps.j1 kq a0 a1 t134 t135 x58_26 = some r) ∧ Aside0 (kq ≤ kj5) ∧ Aside0 (Below w.heap.size w wc))
        case first =>
          have H := HC27.out
          clear HC27
          by_cases c28 : a1 < 0
          · rw [if_pos c28] at H
            have c28b0 : decide (a1 < 0) = true := decide_eq_true c28
            clear c28
            (first | rw [c28b0] | (simp only [i64_w, i32_w]; rw [c28b0]) | skip)
            have H' := Aside0.mk H
            clear H
            go_wp2
            go_meet
            case rel => exact ⟨_, (true), (by first | rfl | (simp; done) | (simp [*]; done)), H', ⟨by have := HJ5.out; first | omega | exact Nat.le_refl _⟩, ⟨by repeat (first | (with_reducible first | exact HB.out | apply below_alloc | apply pw_below_drewN | apply below_drew1) | exact HB.out)⟩⟩
          · rw [if_neg c28] at H
            have c28b0 : decide (a1 < 0) = false := decide_eq_false c28
            clear c28
            (first | rw [c28b0] | (simp only [i64_w, i32_w]; rw [c28b0]) | skip)
            have H' := Aside0.mk H
            clear H
            go_wp2
            go_meet
            case rel => exact ⟨_, (decide (a1 > 62)), (by first | rfl | (simp; done) | (simp [*]; done)), H', ⟨by have := HJ5.out; first | omega | exact Nat.le_refl _⟩, ⟨by repeat (first | (with_reducible first | exact HB.out | apply below_alloc | apply pw_below_drewN | apply below_drew1) | exact HB.out)⟩⟩
        case rest =>
          clear HC27
          try clear c1
          try clear c2
          try clear p2
          try clear c3
          try clear c7
          try clear c7b0
          try clear c8
          try clear c8b0
          try clear c8b1
          try clear c9
          try clear c9b0
          try clear c9b1
          try clear c10
          try clear c10b0
          try clear c11
          try clear c11b0
          try clear c11b1
          try clear c13
          try clear c13b0
          try clear c13b1
          try clear c18
          try clear c18b0
          try clear c19
          try clear c19b0
          try clear c19b1
          try clear c21
          try clear c21b0
          try clear c21b1
          try clear c26
          try clear c27
          try clear c28
          try clear c28b0
          try clear p2
          obtain ⟨kq, x58_26, rfl, HA, HJ26, HB⟩ := hcut
          cases kq with
          | zero => exact absurd HA.out (by simp [headroomlaw01_RoundUps.j1])
          | succ kj26 =>
            have H := HA.out
            clear HA
            simp only [headroomlaw01_RoundUps.j1] at H
            by_cases c29 : x58_26 = true
            · subst c29
              have H1 : (if t135 = 1 then (some (t134 == 0)) else (some false)) = some r := by rw [if_pos rfl] at H; exact H
              clear H
              have H := H1
              clear H1
              by_cases c30 : t135 = 1
              · rw [if_pos c30] at H
                have c30b0 : (t135 == 1) = true := beq_iff_eq.mpr c30
                have c30b1 : (t135 != 1) = false := bne_eq_false_iff_eq.mpr c30
                clear c30
                obtain rfl := Option.some.inj H
                go_wp2
                go_ret
                exact ⟨by first | rfl | (simp [errW_none, errW_some] <;> rfl) | (simp [*, errW_none, errW_some] <;> rfl), by repeat (first | (with_reducible first | exact HB.out | apply below_alloc | apply pw_below_drewN | apply below_drew1) | exact HB.out)⟩
              · rw [if_neg c30] at H
                have c30b0 : (t135 == 1) = false := beq_eq_false_iff_ne.mpr c30
                have c30b1 : (t135 != 1) = true := bne_iff_ne.mpr c30
                obtain rfl := Option.some.inj H
                go_wp2
                go_ret
                exact ⟨by first | rfl | (simp [errW_none, errW_some] <;> rfl) | (simp [*, errW_none, errW_some] <;> rfl), by repeat (first | (with_reducible first | exact HB.out | apply below_alloc | apply pw_below_drewN | apply below_drew1) | exact HB.out)⟩
            · replace c29 := Bool.eq_false_iff.mpr c29
              subst c29
              have H1 : ((headroomref01_Pow.f kj26 (wrap64 (62 - a1))).bind fun t144 => (if a0 < (wrap64 (-t144)) then (if t135 = 2 then (some (t134 == 0)) else (some false)) else (if a0 > t144 then (if t135 = 2 then (some (t134 == 0)) else (some false)) else (if t135 = 0 then ((headroomref01_Pow.f kj26 a1).bind fun t145 => (some (t134 == (wrap64 (a0 * t145))))) else (some false))))) = some r := by rw [if_neg (show ¬ (false = true) by decide)] at H; exact H
              clear H
              have H := H1
              clear H1
              replace H := Option.bind_eq_some_iff.mp H
              obtain ⟨t144, A310, H⟩ := H
              replace H : (if a0 < (wrap64 (-t144)) then (if t135 = 2 then (some (t134 == 0)) else (some false)) else (if a0 > t144 then (if t135 = 2 then (some (t134 == 0)) else (some false)) else (if t135 = 0 then ((headroomref01_Pow.f kj26 a1).bind fun t145 => (some (t134 == (wrap64 (a0 * t145))))) else (some false)))) = some r := H
              have A31 := Aside0.mk A310
              clear A310
              by_cases c32 : a0 < (wrap64 (-t144))
              · rw [if_pos c32] at H
                have c32b0 : decide (a0 < (wrap64 (-t144))) = true := decide_eq_true c32
                clear c32
                by_cases c33 : t135 = 2
                · rw [if_pos c33] at H
                  have c33b0 : (t135 == 2) = true := beq_iff_eq.mpr c33
                  have c33b1 : (t135 != 2) = false := bne_eq_false_iff_eq.mpr c33
                  clear c33
                  obtain rfl := Option.some.inj H
                  go_wp2_with (first | ((with_reducible refine gate_callee (f := 25) rfl ?_); refine goesL_ (some 67) rfl rfl Try.func25 (by kernel_rfl) rfl #[.int .i64 (wrap64 (62 - a1))] rfl (by (try simp only [List.map_toArray, List.map_cons, List.map_nil]); first | done | rfl | (simp only [List.length_drop, List.length_take]; rfl)) ?_; (with_reducible refine (headroomref01_Pow.calls kj26 (wrap64 (62 - a1)) t144 _ A31.out).mono ?_); rintro e w' ⟨rfl, ⟨nd, rfl⟩⟩; refine ⟨_, rfl, ?_⟩))
                  go_ret
                  exact ⟨by first | rfl | (simp [errW_none, errW_some] <;> rfl) | (simp [*, errW_none, errW_some] <;> rfl), by repeat (first | (with_reducible first | exact HB.out | apply below_alloc | apply pw_below_drewN | apply below_drew1) | exact HB.out)⟩
                · rw [if_neg c33] at H
                  have c33b0 : (t135 == 2) = false := beq_eq_false_iff_ne.mpr c33
                  have c33b1 : (t135 != 2) = true := bne_iff_ne.mpr c33
                  obtain rfl := Option.some.inj H
                  go_wp2_with (first | ((with_reducible refine gate_callee (f := 25) rfl ?_); refine goesL_ (some 67) rfl rfl Try.func25 (by kernel_rfl) rfl #[.int .i64 (wrap64 (62 - a1))] rfl (by (try simp only [List.map_toArray, List.map_cons, List.map_nil]); first | done | rfl | (simp only [List.length_drop, List.length_take]; rfl)) ?_; (with_reducible refine (headroomref01_Pow.calls kj26 (wrap64 (62 - a1)) t144 _ A31.out).mono ?_); rintro e w' ⟨rfl, ⟨nd, rfl⟩⟩; refine ⟨_, rfl, ?_⟩))
                  go_ret
                  exact ⟨by first | rfl | (simp [errW_none, errW_some] <;> rfl) | (simp [*, errW_none, errW_some] <;> rfl), by repeat (first | (with_reducible first | exact HB.out | apply below_alloc | apply pw_below_drewN | apply below_drew1) | exact HB.out)⟩
              · rw [if_neg c32] at H
                have c32b0 : decide (a0 < (wrap64 (-t144))) = false := decide_eq_false c32
                clear c32
                by_cases c34 : a0 > t144
                · rw [if_pos c34] at H
                  have c34b0 : decide (t144 < a0) = true := decide_eq_true c34
                  clear c34
                  by_cases c35 : t135 = 2
                  · rw [if_pos c35] at H
                    have c35b0 : (t135 == 2) = true := beq_iff_eq.mpr c35
                    have c35b1 : (t135 != 2) = false := bne_eq_false_iff_eq.mpr c35
                    clear c35
                    obtain rfl := Option.some.inj H
                    go_wp2_with (first | ((with_reducible refine gate_callee (f := 25) rfl ?_); refine goesL_ (some 67) rfl rfl Try.func25 (by kernel_rfl) rfl #[.int .i64 (wrap64 (62 - a1))] rfl (by (try simp only [List.map_toArray, List.map_cons, List.map_nil]); first | done | rfl | (simp only [List.length_drop, List.length_take]; rfl)) ?_; (with_reducible refine (headroomref01_Pow.calls kj26 (wrap64 (62 - a1)) t144 _ A31.out).mono ?_); rintro e w' ⟨rfl, ⟨nd, rfl⟩⟩; refine ⟨_, rfl, ?_⟩))
                    go_ret
                    exact ⟨by first | rfl | (simp [errW_none, errW_some] <;> rfl) | (simp [*, errW_none, errW_some] <;> rfl), by repeat (first | (with_reducible first | exact HB.out | apply below_alloc | apply pw_below_drewN | apply below_drew1) | exact HB.out)⟩
                  · rw [if_neg c35] at H
                    have c35b0 : (t135 == 2) = false := beq_eq_false_iff_ne.mpr c35
                    have c35b1 : (t135 != 2) = true := bne_iff_ne.mpr c35
                    obtain rfl := Option.some.inj H
                    go_wp2_with (first | ((with_reducible refine gate_callee (f := 25) rfl ?_); refine goesL_ (some 67) rfl rfl Try.func25 (by kernel_rfl) rfl #[.int .i64 (wrap64 (62 - a1))] rfl (by (try simp only [List.map_toArray, List.map_cons, List.map_nil]); first | done | rfl | (simp only [List.length_drop, List.length_take]; rfl)) ?_; (with_reducible refine (headroomref01_Pow.calls kj26 (wrap64 (62 - a1)) t144 _ A31.out).mono ?_); rintro e w' ⟨rfl, ⟨nd, rfl⟩⟩; refine ⟨_, rfl, ?_⟩))
                    go_ret
                    exact ⟨by first | rfl | (simp [errW_none, errW_some] <;> rfl) | (simp [*, errW_none, errW_some] <;> rfl), by repeat (first | (with_reducible first | exact HB.out | apply below_alloc | apply pw_below_drewN | apply below_drew1) | exact HB.out)⟩
                · rw [if_neg c34] at H
                  have c34b0 : decide (t144 < a0) = false := decide_eq_false c34
                  clear c34
                  by_cases c36 : t135 = 0
                  · rw [if_pos c36] at H
                    have c36b0 : (t135 == 0) = true := beq_iff_eq.mpr c36
                    have c36b1 : (t135 != 0) = false := bne_eq_false_iff_eq.mpr c36
                    clear c36
                    replace H := Option.bind_eq_some_iff.mp H
                    obtain ⟨t145, A370, H⟩ := H
                    replace H : (some (t134 == (wrap64 (a0 * t145)))) = some r := H
                    have A37 := Aside0.mk A370
                    clear A370
                    obtain rfl := Option.some.inj H
                    go_wp2_with (first | ((with_reducible refine gate_callee (f := 25) rfl ?_); refine goesL_ (some 67) rfl rfl Try.func25 (by kernel_rfl) rfl #[.int .i64 (wrap64 (62 - a1))] rfl (by (try simp only [List.map_toArray, List.map_cons, List.map_nil]); first | done | rfl | (simp only [List.length_drop, List.length_take]; rfl)) ?_; (with_reducible refine (headroomref01_Pow.calls kj26 (wrap64 (62 - a1)) t144 _ A31.out).mono ?_); rintro e w' ⟨rfl, ⟨nd, rfl⟩⟩; refine ⟨_, rfl, ?_⟩) | (go_at_call 25; (with_reducible refine (headroomref01_Pow.calls kj26 a1 t145 _ A37.out).mono ?_); rintro e w' ⟨rfl, ⟨nd, rfl⟩⟩))
                    go_ret
                    exact ⟨by first | rfl | (simp [errW_none, errW_some] <;> rfl) | (simp [*, errW_none, errW_some] <;> rfl), by repeat (first | (with_reducible first | exact HB.out | apply below_alloc | apply pw_below_drewN | apply below_drew1) | exact HB.out)⟩
                  · rw [if_neg c36] at H
                    have c36b0 : (t135 == 0) = false := beq_eq_false_iff_ne.mpr c36
                    have c36b1 : (t135 != 0) = true := bne_iff_ne.mpr c36
                    obtain rfl := Option.some.inj H
                    go_wp2_with (first | ((with_reducible refine gate_callee (f := 25) rfl ?_); refine goesL_ (some 67) rfl rfl Try.func25 (by kernel_rfl) rfl #[.int .i64 (wrap64 (62 - a1))] rfl (by (try simp only [List.map_toArray, List.map_cons, List.map_nil]); first | done | rfl | (simp only [List.length_drop, List.length_take]; rfl)) ?_; (with_reducible refine (headroomref01_Pow.calls kj26 (wrap64 (62 - a1)) t144 _ A31.out).mono ?_); rintro e w' ⟨rfl, ⟨nd, rfl⟩⟩; refine ⟨_, rfl, ?_⟩))
                    go_ret
                    exact ⟨by first | rfl | (simp [errW_none, errW_some] <;> rfl) | (simp [*, errW_none, errW_some] <;> rfl), by repeat (first | (with_reducible first | exact HB.out | apply below_alloc | apply pw_below_drewN | apply below_drew1) | exact HB.out)⟩

/-- THE ONE PURE STATEMENT of headroomlaw01_RoundUps. -/
def headroomlaw01_RoundUps.Pure : Prop := ∀ (a0 : Int) (a1 : Int) (a2 : Int), (Lit.int .i64 a0).wf = true → (Lit.int .i64 a1).wf = true → (Lit.int .i64 a2).wf = true → ∃ k, headroomlaw01_RoundUps.f k a0 a1 a2 = some true
theorem headroomlaw01_RoundUps.walk (P : headroomlaw01_RoundUps.Pure) (a0 : Int) (a1 : Int) (a2 : Int) (w : World) (w0_ : (Lit.int .i64 a0).wf = true) (w1_ : (Lit.int .i64 a1).wf = true) (w2_ : (Lit.int .i64 a2).wf = true) :
    Calls Try.prog 9 #[.int .i64 a0, .int .i64 a1, .int .i64 a2] w fun e w' => e = .returned (.bool true) ∧ Below w.heap.size w w' := by
  obtain ⟨k, h⟩ := P a0 a1 a2 w0_ w1_ w2_
  refine (headroomlaw01_RoundUps.calls k a0 a1 a2 true w h).mono ?_
  rintro e w' ⟨rfl, hd⟩
  exact ⟨rfl, hd⟩

end Go.Proofs.Ytobkjhiicafkbaa.P

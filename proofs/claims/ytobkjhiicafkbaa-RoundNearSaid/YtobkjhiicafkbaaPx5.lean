-- Laid by this session's program hyb.py, out of the kit's print and this session's own contracts.
import Derived.Test.YtobkjhiicafkbaaPx0
import Derived.Test.YtobkjhiicafkbaaPx2
namespace Go.Proofs.Ytobkjhiicafkbaa.P
open Go.RowKit Go.Proofs.YtobkjhiicafkbaaW.PrintWords Go.Proofs.YtobkjhiicafkbaaW.PrintLast Go.Proofs.YtobkjhiicafkbaaW.PrintMore Go.Proofs.YtobkjhiicafkbaaW.Hand
attribute [local go_sem] max2_int min2_int max_two min_two max_three min_three max_four min_four   -- for this text's walks alone
set_option linter.unusedVariables false
set_option linter.unusedSimpArgs false

/-! ### headroomlaw01_RoundNear: function 4 -/
def headroomlaw01_RoundNear.j0 : Nat → Int → Int → Int → Int → Bool → Option (Bool)
  | 0, _, _, _, _, _ => none
  | k + 1, x0, x2, x3, x9, x69 => if x69 = true then (some false) else (if 0 ≤ x2 then (if (wrap64 (x0 - (wrap64 (x9 * (shl .i64 1 x2))))) < 0 then (if (wrap64 (-(wrap64 (x0 - (wrap64 (x9 * (shl .i64 1 x2))))))) < (shl .i64 1 x2) then (if x3 = 0 then (some true) else (some (decide ((wrap64 (2 * (wrap64 (-(wrap64 (x0 - (wrap64 (x9 * (shl .i64 1 x2))))))))) ≤ (shl .i64 1 x2))))) else (some false)) else (if (wrap64 (x0 - (wrap64 (x9 * (shl .i64 1 x2))))) < (shl .i64 1 x2) then (if x3 = 0 then (some true) else (some (decide ((wrap64 (2 * (wrap64 (x0 - (wrap64 (x9 * (shl .i64 1 x2))))))) ≤ (shl .i64 1 x2))))) else (some false))) else (none))
def headroomlaw01_RoundNear.f (k : Nat) (a0 : Int) (a1 : Int) (a2 : Int) (a3 : Int) : Option (Bool) := (round_Shift.f (a0 / 4) (Int.tmod (wrap64 ((Int.tmod a2 31) + 31)) 31) (Int.tmod (wrap64 ((Int.tmod a3 3) + 3)) 3)).bind fun bt116 => ((round_Shift.f (a1 / 4) (Int.tmod (wrap64 ((Int.tmod a2 31) + 31)) 31) (Int.tmod (wrap64 ((Int.tmod a3 3) + 3)) 3)).bind fun bt118 => (if bt116.2 = 0 then (if bt118.2 = 0 then (if (a0 / 4) ≤ (a1 / 4) then (if bt116.1 > bt118.1 then (headroomlaw01_RoundNear.j0 k (a0 / 4) (Int.tmod (wrap64 ((Int.tmod a2 31) + 31)) 31) (Int.tmod (wrap64 ((Int.tmod a3 3) + 3)) 3) bt116.1 true) else (if (a1 / 4) ≤ (a0 / 4) then (if bt118.1 > bt116.1 then (headroomlaw01_RoundNear.j0 k (a0 / 4) (Int.tmod (wrap64 ((Int.tmod a2 31) + 31)) 31) (Int.tmod (wrap64 ((Int.tmod a3 3) + 3)) 3) bt116.1 true) else ((headroomlaw01_alive.f).bind fun t120 => (headroomlaw01_RoundNear.j0 k (a0 / 4) (Int.tmod (wrap64 ((Int.tmod a2 31) + 31)) 31) (Int.tmod (wrap64 ((Int.tmod a3 3) + 3)) 3) bt116.1 (!t120)))) else ((headroomlaw01_alive.f).bind fun t121 => (headroomlaw01_RoundNear.j0 k (a0 / 4) (Int.tmod (wrap64 ((Int.tmod a2 31) + 31)) 31) (Int.tmod (wrap64 ((Int.tmod a3 3) + 3)) 3) bt116.1 (!t121))))) else (if (a1 / 4) ≤ (a0 / 4) then (if bt118.1 > bt116.1 then (headroomlaw01_RoundNear.j0 k (a0 / 4) (Int.tmod (wrap64 ((Int.tmod a2 31) + 31)) 31) (Int.tmod (wrap64 ((Int.tmod a3 3) + 3)) 3) bt116.1 true) else ((headroomlaw01_alive.f).bind fun t122 => (headroomlaw01_RoundNear.j0 k (a0 / 4) (Int.tmod (wrap64 ((Int.tmod a2 31) + 31)) 31) (Int.tmod (wrap64 ((Int.tmod a3 3) + 3)) 3) bt116.1 (!t122)))) else ((headroomlaw01_alive.f).bind fun t123 => (headroomlaw01_RoundNear.j0 k (a0 / 4) (Int.tmod (wrap64 ((Int.tmod a2 31) + 31)) 31) (Int.tmod (wrap64 ((Int.tmod a3 3) + 3)) 3) bt116.1 (!t123))))) else (headroomlaw01_RoundNear.j0 k (a0 / 4) (Int.tmod (wrap64 ((Int.tmod a2 31) + 31)) 31) (Int.tmod (wrap64 ((Int.tmod a3 3) + 3)) 3) bt116.1 true)) else (headroomlaw01_RoundNear.j0 k (a0 / 4) (Int.tmod (wrap64 ((Int.tmod a2 31) + 31)) 31) (Int.tmod (wrap64 ((Int.tmod a3 3) + 3)) 3) bt116.1 true)))
theorem headroomlaw01_RoundNear.mono_l : ∀ k, (∀ y0 y1 y2 y3 y4, LeO (headroomlaw01_RoundNear.j0 k y0 y1 y2 y3 y4) (headroomlaw01_RoundNear.j0 (k + 1) y0 y1 y2 y3 y4))
  | 0 => fun _ _ _ _ _ r h => by simp [headroomlaw01_RoundNear.j0] at h
  | k + 1 => by
    have ih0 := headroomlaw01_RoundNear.mono_l k
    · intro y0 y1 y2 y3 y4
      unfold headroomlaw01_RoundNear.j0
      repeat' first
      | (with_reducible exact ih0 _ _ _ _ _)
      | (with_reducible exact LeO.refl _)
      | (with_reducible exact LeO.none _)
      | (with_reducible refine LeO.ite ?_ ?_)
      | (with_reducible refine LeO.bind ?_ (fun _ => ?_))
      | exact ih0 _ _ _ _ _
      | exact LeO.none _
      | refine LeO.ite ?_ ?_
      | refine LeO.bind ?_ (fun _ => ?_)
theorem headroomlaw01_RoundNear.mono : ∀ a0 a1 a2 a3 k, LeO (headroomlaw01_RoundNear.f k a0 a1 a2 a3) (headroomlaw01_RoundNear.f (k + 1) a0 a1 a2 a3) := by
  intro a0 a1 a2 a3 k
  have ih0 := headroomlaw01_RoundNear.mono_l k
  unfold headroomlaw01_RoundNear.f
  repeat' first
      | (with_reducible exact ih0 _ _ _ _ _)
      | (with_reducible exact LeO.refl _)
      | (with_reducible exact LeO.none _)
      | (with_reducible refine LeO.ite ?_ ?_)
      | (with_reducible refine LeO.bind ?_ (fun _ => ?_))
      | exact ih0 _ _ _ _ _
      | exact LeO.none _
      | refine LeO.ite ?_ ?_
      | refine LeO.bind ?_ (fun _ => ?_)
set_option maxHeartbeats 8000000 in
set_option maxRecDepth 100000 in
theorem headroomlaw01_RoundNear.calls (k : Nat) (a0 : Int) (a1 : Int) (a2 : Int) (a3 : Int) (r : Bool) (w : World) (h : headroomlaw01_RoundNear.f k a0 a1 a2 a3 = some r) :
    Calls Try.prog 4 #[.int .i64 a0, .int .i64 a1, .int .i64 a2, .int .i64 a3] w fun e w' => e = .returned (.bool r) ∧ Below w.heap.size w w' := by
  have HB := Aside0.mk (Below.refl w.heap.size w)
  have H : ((round_Shift.f (a0 / 4) (Int.tmod (wrap64 ((Int.tmod a2 31) + 31)) 31) (Int.tmod (wrap64 ((Int.tmod a3 3) + 3)) 3)).bind fun bt116 => ((round_Shift.f (a1 / 4) (Int.tmod (wrap64 ((Int.tmod a2 31) + 31)) 31) (Int.tmod (wrap64 ((Int.tmod a3 3) + 3)) 3)).bind fun bt118 => (if bt116.2 = 0 then (if bt118.2 = 0 then (if (a0 / 4) ≤ (a1 / 4) then (if bt116.1 > bt118.1 then (headroomlaw01_RoundNear.j0 k (a0 / 4) (Int.tmod (wrap64 ((Int.tmod a2 31) + 31)) 31) (Int.tmod (wrap64 ((Int.tmod a3 3) + 3)) 3) bt116.1 true) else (if (a1 / 4) ≤ (a0 / 4) then (if bt118.1 > bt116.1 then (headroomlaw01_RoundNear.j0 k (a0 / 4) (Int.tmod (wrap64 ((Int.tmod a2 31) + 31)) 31) (Int.tmod (wrap64 ((Int.tmod a3 3) + 3)) 3) bt116.1 true) else ((headroomlaw01_alive.f).bind fun t120 => (headroomlaw01_RoundNear.j0 k (a0 / 4) (Int.tmod (wrap64 ((Int.tmod a2 31) + 31)) 31) (Int.tmod (wrap64 ((Int.tmod a3 3) + 3)) 3) bt116.1 (!t120)))) else ((headroomlaw01_alive.f).bind fun t121 => (headroomlaw01_RoundNear.j0 k (a0 / 4) (Int.tmod (wrap64 ((Int.tmod a2 31) + 31)) 31) (Int.tmod (wrap64 ((Int.tmod a3 3) + 3)) 3) bt116.1 (!t121))))) else (if (a1 / 4) ≤ (a0 / 4) then (if bt118.1 > bt116.1 then (headroomlaw01_RoundNear.j0 k (a0 / 4) (Int.tmod (wrap64 ((Int.tmod a2 31) + 31)) 31) (Int.tmod (wrap64 ((Int.tmod a3 3) + 3)) 3) bt116.1 true) else ((headroomlaw01_alive.f).bind fun t122 => (headroomlaw01_RoundNear.j0 k (a0 / 4) (Int.tmod (wrap64 ((Int.tmod a2 31) + 31)) 31) (Int.tmod (wrap64 ((Int.tmod a3 3) + 3)) 3) bt116.1 (!t122)))) else ((headroomlaw01_alive.f).bind fun t123 => (headroomlaw01_RoundNear.j0 k (a0 / 4) (Int.tmod (wrap64 ((Int.tmod a2 31) + 31)) 31) (Int.tmod (wrap64 ((Int.tmod a3 3) + 3)) 3) bt116.1 (!t123))))) else (headroomlaw01_RoundNear.j0 k (a0 / 4) (Int.tmod (wrap64 ((Int.tmod a2 31) + 31)) 31) (Int.tmod (wrap64 ((Int.tmod a3 3) + 3)) 3) bt116.1 true)) else (headroomlaw01_RoundNear.j0 k (a0 / 4) (Int.tmod (wrap64 ((Int.tmod a2 31) + 31)) 31) (Int.tmod (wrap64 ((Int.tmod a3 3) + 3)) 3) bt116.1 true)))) = some r := h
  clear h
  replace H := Option.bind_eq_some_iff.mp H
  obtain ⟨⟨t116, t117⟩, A50, H⟩ := H
  replace H : ((round_Shift.f (a1 / 4) (Int.tmod (wrap64 ((Int.tmod a2 31) + 31)) 31) (Int.tmod (wrap64 ((Int.tmod a3 3) + 3)) 3)).bind fun bt118 => (if t117 = 0 then (if bt118.2 = 0 then (if (a0 / 4) ≤ (a1 / 4) then (if t116 > bt118.1 then (headroomlaw01_RoundNear.j0 k (a0 / 4) (Int.tmod (wrap64 ((Int.tmod a2 31) + 31)) 31) (Int.tmod (wrap64 ((Int.tmod a3 3) + 3)) 3) t116 true) else (if (a1 / 4) ≤ (a0 / 4) then (if bt118.1 > t116 then (headroomlaw01_RoundNear.j0 k (a0 / 4) (Int.tmod (wrap64 ((Int.tmod a2 31) + 31)) 31) (Int.tmod (wrap64 ((Int.tmod a3 3) + 3)) 3) t116 true) else ((headroomlaw01_alive.f).bind fun t120 => (headroomlaw01_RoundNear.j0 k (a0 / 4) (Int.tmod (wrap64 ((Int.tmod a2 31) + 31)) 31) (Int.tmod (wrap64 ((Int.tmod a3 3) + 3)) 3) t116 (!t120)))) else ((headroomlaw01_alive.f).bind fun t121 => (headroomlaw01_RoundNear.j0 k (a0 / 4) (Int.tmod (wrap64 ((Int.tmod a2 31) + 31)) 31) (Int.tmod (wrap64 ((Int.tmod a3 3) + 3)) 3) t116 (!t121))))) else (if (a1 / 4) ≤ (a0 / 4) then (if bt118.1 > t116 then (headroomlaw01_RoundNear.j0 k (a0 / 4) (Int.tmod (wrap64 ((Int.tmod a2 31) + 31)) 31) (Int.tmod (wrap64 ((Int.tmod a3 3) + 3)) 3) t116 true) else ((headroomlaw01_alive.f).bind fun t122 => (headroomlaw01_RoundNear.j0 k (a0 / 4) (Int.tmod (wrap64 ((Int.tmod a2 31) + 31)) 31) (Int.tmod (wrap64 ((Int.tmod a3 3) + 3)) 3) t116 (!t122)))) else ((headroomlaw01_alive.f).bind fun t123 => (headroomlaw01_RoundNear.j0 k (a0 / 4) (Int.tmod (wrap64 ((Int.tmod a2 31) + 31)) 31) (Int.tmod (wrap64 ((Int.tmod a3 3) + 3)) 3) t116 (!t123))))) else (headroomlaw01_RoundNear.j0 k (a0 / 4) (Int.tmod (wrap64 ((Int.tmod a2 31) + 31)) 31) (Int.tmod (wrap64 ((Int.tmod a3 3) + 3)) 3) t116 true)) else (headroomlaw01_RoundNear.j0 k (a0 / 4) (Int.tmod (wrap64 ((Int.tmod a2 31) + 31)) 31) (Int.tmod (wrap64 ((Int.tmod a3 3) + 3)) 3) t116 true))) = some r := H
  have A5 := Aside0.mk A50
  clear A50
  replace H := Option.bind_eq_some_iff.mp H
  obtain ⟨⟨t118, t119⟩, A60, H⟩ := H
  replace H : (if t117 = 0 then (if t119 = 0 then (if (a0 / 4) ≤ (a1 / 4) then (if t116 > t118 then (headroomlaw01_RoundNear.j0 k (a0 / 4) (Int.tmod (wrap64 ((Int.tmod a2 31) + 31)) 31) (Int.tmod (wrap64 ((Int.tmod a3 3) + 3)) 3) t116 true) else (if (a1 / 4) ≤ (a0 / 4) then (if t118 > t116 then (headroomlaw01_RoundNear.j0 k (a0 / 4) (Int.tmod (wrap64 ((Int.tmod a2 31) + 31)) 31) (Int.tmod (wrap64 ((Int.tmod a3 3) + 3)) 3) t116 true) else ((headroomlaw01_alive.f).bind fun t120 => (headroomlaw01_RoundNear.j0 k (a0 / 4) (Int.tmod (wrap64 ((Int.tmod a2 31) + 31)) 31) (Int.tmod (wrap64 ((Int.tmod a3 3) + 3)) 3) t116 (!t120)))) else ((headroomlaw01_alive.f).bind fun t121 => (headroomlaw01_RoundNear.j0 k (a0 / 4) (Int.tmod (wrap64 ((Int.tmod a2 31) + 31)) 31) (Int.tmod (wrap64 ((Int.tmod a3 3) + 3)) 3) t116 (!t121))))) else (if (a1 / 4) ≤ (a0 / 4) then (if t118 > t116 then (headroomlaw01_RoundNear.j0 k (a0 / 4) (Int.tmod (wrap64 ((Int.tmod a2 31) + 31)) 31) (Int.tmod (wrap64 ((Int.tmod a3 3) + 3)) 3) t116 true) else ((headroomlaw01_alive.f).bind fun t122 => (headroomlaw01_RoundNear.j0 k (a0 / 4) (Int.tmod (wrap64 ((Int.tmod a2 31) + 31)) 31) (Int.tmod (wrap64 ((Int.tmod a3 3) + 3)) 3) t116 (!t122)))) else ((headroomlaw01_alive.f).bind fun t123 => (headroomlaw01_RoundNear.j0 k (a0 / 4) (Int.tmod (wrap64 ((Int.tmod a2 31) + 31)) 31) (Int.tmod (wrap64 ((Int.tmod a3 3) + 3)) 3) t116 (!t123))))) else (headroomlaw01_RoundNear.j0 k (a0 / 4) (Int.tmod (wrap64 ((Int.tmod a2 31) + 31)) 31) (Int.tmod (wrap64 ((Int.tmod a3 3) + 3)) 3) t116 true)) else (headroomlaw01_RoundNear.j0 k (a0 / 4) (Int.tmod (wrap64 ((Int.tmod a2 31) + 31)) 31) (Int.tmod (wrap64 ((Int.tmod a3 3) + 3)) 3) t116 true)) = some r := H
  have A6 := Aside0.mk A60
  clear A60
  have HC7 := Aside0.mk H
  clear H
  go_enter Try.func4, Try.ntmps4
  go_upto_region 5 with (first | ((with_reducible refine gate_callee (f := 15) rfl ?_); refine goesL_ (some 30) rfl rfl Try.func15 (by kernel_rfl) rfl #[.int .i64 (a0 / 4), .int .i64 (Int.tmod (wrap64 ((Int.tmod a2 31) + 31)) 31), .int .i64 (Int.tmod (wrap64 ((Int.tmod a3 3) + 3)) 3)] rfl (by (try simp only [List.map_toArray, List.map_cons, List.map_nil]); first | done | rfl | (simp only [List.length_drop, List.length_take]; rfl)) ?_; (with_reducible refine (round_Shift.calls (a0 / 4) (Int.tmod (wrap64 ((Int.tmod a2 31) + 31)) 31) (Int.tmod (wrap64 ((Int.tmod a3 3) + 3)) 3) t116 t117 _ A5.out).mono ?_); rintro e w8 ⟨rfl, hb⟩; refine ⟨_, rfl, ?_⟩; have n0_ := Aside0.mk (below_step (by repeat (first | (with_reducible first | exact HB.out | apply below_alloc | apply pw_below_drewN | apply below_drew1) | exact HB.out)) hb); clear HB; have HB := n0_; clear n0_; (try clear hb); (try clear hb2); (try clear hk); (try clear hi)) | ((with_reducible refine gate_callee (f := 15) rfl ?_); refine goesL_ (some 37) rfl rfl Try.func15 (by kernel_rfl) rfl #[.int .i64 (a1 / 4), .int .i64 (Int.tmod (wrap64 ((Int.tmod a2 31) + 31)) 31), .int .i64 (Int.tmod (wrap64 ((Int.tmod a3 3) + 3)) 3)] rfl (by (try simp only [List.map_toArray, List.map_cons, List.map_nil]); first | done | rfl | (simp only [List.length_drop, List.length_take]; rfl)) ?_; (with_reducible refine (round_Shift.calls (a1 / 4) (Int.tmod (wrap64 ((Int.tmod a2 31) + 31)) 31) (Int.tmod (wrap64 ((Int.tmod a3 3) + 3)) 3) t118 t119 _ A6.out).mono ?_); rintro e w9 ⟨rfl, hb⟩; refine ⟨_, rfl, ?_⟩; have n0_ := Aside0.mk (below_step (by repeat (first | (with_reducible first | exact HB.out | apply below_alloc | apply pw_below_drewN | apply below_drew1) | exact HB.out)) hb); clear HB; have HB := n0_; clear n0_; (try clear hb); (try clear hb2); (try clear hk); (try clear hi)))
  (try simp only [Act.put, List.setIfInBounds_toArray, List.set_cons_zero, List.set_cons_succ])
  go_cut [69] (fun v69 wc => ∃ (kq : Nat) (x69_6 : Bool), v69 = .bool x69_6 ∧ Aside0 (headroomlaw01_RoundNear.j0 kq (a0 / 4) (Int.tmod (wrap64 ((Int.tmod a2 31) + 31)) 31) (Int.tmod (wrap64 ((Int.tmod a3 3) + 3)) 3) t116 x69_6 = some r) ∧ Aside0 (kq ≤ k) ∧ Aside0 (Below w.heap.size w wc))
  case first =>
    have H := HC7.out
    clear HC7
    by_cases c10 : t117 = 0
    · rw [if_pos c10] at H
      have c10b0 : (t117 == 0) = true := beq_iff_eq.mpr c10
      have c10b1 : (t117 != 0) = false := bne_eq_false_iff_eq.mpr c10
      clear c10
      (first | rw [c10b0] | (simp only [i64_w, i32_w]; rw [c10b0]) | skip)
      by_cases c11 : t119 = 0
      · rw [if_pos c11] at H
        have c11b0 : (t119 == 0) = true := beq_iff_eq.mpr c11
        have c11b1 : (t119 != 0) = false := bne_eq_false_iff_eq.mpr c11
        clear c11
        by_cases c12 : (a0 / 4) ≤ (a1 / 4)
        · rw [if_pos c12] at H
          have c12b0 : decide ((a0 / 4) ≤ (a1 / 4)) = true := decide_eq_true c12
          clear c12
          by_cases c13 : t116 > t118
          · rw [if_pos c13] at H
            have c13b0 : decide (t118 < t116) = true := decide_eq_true c13
            clear c13
            have H' := Aside0.mk H
            clear H
            go_wp2
            go_meet
            case rel => exact ⟨_, (true), (by first | rfl | (simp; done) | (simp [*]; done)), H', ⟨by first | omega | exact Nat.le_refl _⟩, ⟨by repeat (first | (with_reducible first | exact HB.out | apply below_alloc | apply pw_below_drewN | apply below_drew1) | exact HB.out)⟩⟩
          · rw [if_neg c13] at H
            have c13b0 : decide (t118 < t116) = false := decide_eq_false c13
            clear c13
            by_cases c14 : (a1 / 4) ≤ (a0 / 4)
            · rw [if_pos c14] at H
              have c14b0 : decide ((a1 / 4) ≤ (a0 / 4)) = true := decide_eq_true c14
              clear c14
              by_cases c15 : t118 > t116
              · rw [if_pos c15] at H
                have c15b0 : decide (t116 < t118) = true := decide_eq_true c15
                clear c15
                have H' := Aside0.mk H
                clear H
                go_wp2
                go_meet
                case rel => exact ⟨_, (true), (by first | rfl | (simp; done) | (simp [*]; done)), H', ⟨by first | omega | exact Nat.le_refl _⟩, ⟨by repeat (first | (with_reducible first | exact HB.out | apply below_alloc | apply pw_below_drewN | apply below_drew1) | exact HB.out)⟩⟩
              · rw [if_neg c15] at H
                have c15b0 : decide (t116 < t118) = false := decide_eq_false c15
                clear c15
                replace H := Option.bind_eq_some_iff.mp H
                obtain ⟨t120, A160, H⟩ := H
                replace H : (headroomlaw01_RoundNear.j0 k (a0 / 4) (Int.tmod (wrap64 ((Int.tmod a2 31) + 31)) 31) (Int.tmod (wrap64 ((Int.tmod a3 3) + 3)) 3) t116 (!t120)) = some r := H
                have A16 := Aside0.mk A160
                clear A160
                have H' := Aside0.mk H
                clear H
                go_wp2_with (first | (go_at_call 16; (with_reducible refine (headroomlaw01_alive.calls  t120 _ A16.out).mono ?_); rintro e w17 ⟨rfl, hb⟩; have n0_ := Aside0.mk (below_step (by repeat (first | (with_reducible first | exact HB.out | apply below_alloc | apply pw_below_drewN | apply below_drew1) | exact HB.out)) hb); clear HB; have HB := n0_; clear n0_; (try clear hb); (try clear hb2); (try clear hk); (try clear hi)))
                go_meet
                case rel => exact ⟨_, (!t120), (by first | rfl | (simp; done) | (simp [*]; done)), H', ⟨by first | omega | exact Nat.le_refl _⟩, ⟨by repeat (first | (with_reducible first | exact HB.out | apply below_alloc | apply pw_below_drewN | apply below_drew1) | exact HB.out)⟩⟩
            · rw [if_neg c14] at H
              have c14b0 : decide ((a1 / 4) ≤ (a0 / 4)) = false := decide_eq_false c14
              clear c14
              replace H := Option.bind_eq_some_iff.mp H
              obtain ⟨t121, A180, H⟩ := H
              replace H : (headroomlaw01_RoundNear.j0 k (a0 / 4) (Int.tmod (wrap64 ((Int.tmod a2 31) + 31)) 31) (Int.tmod (wrap64 ((Int.tmod a3 3) + 3)) 3) t116 (!t121)) = some r := H
              have A18 := Aside0.mk A180
              clear A180
              have H' := Aside0.mk H
              clear H
              go_wp2_with (first | (go_at_call 16; (with_reducible refine (headroomlaw01_alive.calls  t121 _ A18.out).mono ?_); rintro e w19 ⟨rfl, hb⟩; have n0_ := Aside0.mk (below_step (by repeat (first | (with_reducible first | exact HB.out | apply below_alloc | apply pw_below_drewN | apply below_drew1) | exact HB.out)) hb); clear HB; have HB := n0_; clear n0_; (try clear hb); (try clear hb2); (try clear hk); (try clear hi)))
              go_meet
              case rel => exact ⟨_, (!t121), (by first | rfl | (simp; done) | (simp [*]; done)), H', ⟨by first | omega | exact Nat.le_refl _⟩, ⟨by repeat (first | (with_reducible first | exact HB.out | apply below_alloc | apply pw_below_drewN | apply below_drew1) | exact HB.out)⟩⟩
        · rw [if_neg c12] at H
          have c12b0 : decide ((a0 / 4) ≤ (a1 / 4)) = false := decide_eq_false c12
          clear c12
          by_cases c20 : (a1 / 4) ≤ (a0 / 4)
          · rw [if_pos c20] at H
            have c20b0 : decide ((a1 / 4) ≤ (a0 / 4)) = true := decide_eq_true c20
            clear c20
            by_cases c21 : t118 > t116
            · rw [if_pos c21] at H
              have c21b0 : decide (t116 < t118) = true := decide_eq_true c21
              clear c21
              have H' := Aside0.mk H
              clear H
              go_wp2
              go_meet
              case rel => exact ⟨_, (true), (by first | rfl | (simp; done) | (simp [*]; done)), H', ⟨by first | omega | exact Nat.le_refl _⟩, ⟨by repeat (first | (with_reducible first | exact HB.out | apply below_alloc | apply pw_below_drewN | apply below_drew1) | exact HB.out)⟩⟩
            · rw [if_neg c21] at H
              have c21b0 : decide (t116 < t118) = false := decide_eq_false c21
              clear c21
              replace H := Option.bind_eq_some_iff.mp H
              obtain ⟨t122, A220, H⟩ := H
              replace H : (headroomlaw01_RoundNear.j0 k (a0 / 4) (Int.tmod (wrap64 ((Int.tmod a2 31) + 31)) 31) (Int.tmod (wrap64 ((Int.tmod a3 3) + 3)) 3) t116 (!t122)) = some r := H
              have A22 := Aside0.mk A220
              clear A220
              have H' := Aside0.mk H
              clear H
              go_wp2_with (first | (go_at_call 16; (with_reducible refine (headroomlaw01_alive.calls  t122 _ A22.out).mono ?_); rintro e w23 ⟨rfl, hb⟩; have n0_ := Aside0.mk (below_step (by repeat (first | (with_reducible first | exact HB.out | apply below_alloc | apply pw_below_drewN | apply below_drew1) | exact HB.out)) hb); clear HB; have HB := n0_; clear n0_; (try clear hb); (try clear hb2); (try clear hk); (try clear hi)))
              go_meet
              case rel => exact ⟨_, (!t122), (by first | rfl | (simp; done) | (simp [*]; done)), H', ⟨by first | omega | exact Nat.le_refl _⟩, ⟨by repeat (first | (with_reducible first | exact HB.out | apply below_alloc | apply pw_below_drewN | apply below_drew1) | exact HB.out)⟩⟩
          · rw [if_neg c20] at H
            have c20b0 : decide ((a1 / 4) ≤ (a0 / 4)) = false := decide_eq_false c20
            clear c20
            replace H := Option.bind_eq_some_iff.mp H
            obtain ⟨t123, A240, H⟩ := H
            replace H : (headroomlaw01_RoundNear.j0 k (a0 / 4) (Int.tmod (wrap64 ((Int.tmod a2 31) + 31)) 31) (Int.tmod (wrap64 ((Int.tmod a3 3) + 3)) 3) t116 (!t123)) = some r := H
            have A24 := Aside0.mk A240
            clear A240
            have H' := Aside0.mk H
            clear H
            go_wp2_with (first | (go_at_call 16; (with_reducible refine (headroomlaw01_alive.calls  t123 _ A24.out).mono ?_); rintro e w25 ⟨rfl, hb⟩; have n0_ := Aside0.mk (below_step (by repeat (first | (with_reducible first | exact HB.out | apply below_alloc | apply pw_below_drewN | apply below_drew1) | exact HB.out)) hb); clear HB; have HB := n0_; clear n0_; (try clear hb); (try clear hb2); (try clear hk); (try clear hi)))
            go_meet
            case rel => exact ⟨_, (!t123), (by first | rfl | (simp; done) | (simp [*]; done)), H', ⟨by first | omega | exact Nat.le_refl _⟩, ⟨by repeat (first | (with_reducible first | exact HB.out | apply below_alloc | apply pw_below_drewN | apply below_drew1) | exact HB.out)⟩⟩
      · rw [if_neg c11] at H
        have c11b0 : (t119 == 0) = false := beq_eq_false_iff_ne.mpr c11
        have c11b1 : (t119 != 0) = true := bne_iff_ne.mpr c11
        have H' := Aside0.mk H
        clear H
        go_wp2
        go_meet
        case rel => exact ⟨_, (true), (by first | rfl | (simp; done) | (simp [*]; done)), H', ⟨by first | omega | exact Nat.le_refl _⟩, ⟨by repeat (first | (with_reducible first | exact HB.out | apply below_alloc | apply pw_below_drewN | apply below_drew1) | exact HB.out)⟩⟩
    · rw [if_neg c10] at H
      have c10b0 : (t117 == 0) = false := beq_eq_false_iff_ne.mpr c10
      have c10b1 : (t117 != 0) = true := bne_iff_ne.mpr c10
      (first | rw [c10b0] | (simp only [i64_w, i32_w]; rw [c10b0]) | skip)
      have H' := Aside0.mk H
      clear H
      go_wp2
      go_meet
      case rel => exact ⟨_, (true), (by first | rfl | (simp; done) | (simp [*]; done)), H', ⟨by first | omega | exact Nat.le_refl _⟩, ⟨by repeat (first | (with_reducible first | exact HB.out | apply below_alloc | apply pw_below_drewN | apply below_drew1) | exact HB.out)⟩⟩
  case rest =>
    clear HC7
    try clear c1
    try clear c2
    try clear p2
    try clear c4
    try clear p6
    try clear c10
    try clear c10b0
    try clear c10b1
    try clear c11
    try clear c11b0
    try clear c11b1
    try clear c12
    try clear c12b0
    try clear c13
    try clear c13b0
    try clear c14
    try clear c14b0
    try clear c15
    try clear c15b0
    try clear c20
    try clear c20b0
    try clear c21
    try clear c21b0
    obtain ⟨kq, x69_6, rfl, HA, HJ6, HB⟩ := hcut
    cases kq with
    | zero => exact absurd HA.out (by simp [headroomlaw01_RoundNear.j0])
    | succ kj6 =>
      have H := HA.out
      clear HA
      simp only [headroomlaw01_RoundNear.j0] at H
      by_cases c26 : x69_6 = true
      · subst c26
        have H1 : (some false) = some r := by rw [if_pos rfl] at H; exact H
        clear H
        have H := H1
        clear H1
        obtain rfl := Option.some.inj H
        go_wp2
        go_ret
        exact ⟨by first | rfl | (simp [errW_none, errW_some] <;> rfl) | (simp [*, errW_none, errW_some] <;> rfl), by repeat (first | (with_reducible first | exact HB.out | apply below_alloc | apply pw_below_drewN | apply below_drew1) | exact HB.out)⟩
      · replace c26 := Bool.eq_false_iff.mpr c26
        subst c26
        have H1 : (if 0 ≤ (Int.tmod (wrap64 ((Int.tmod a2 31) + 31)) 31) then (if (wrap64 ((a0 / 4) - (wrap64 (t116 * (shl .i64 1 (Int.tmod (wrap64 ((Int.tmod a2 31) + 31)) 31)))))) < 0 then (if (wrap64 (-(wrap64 ((a0 / 4) - (wrap64 (t116 * (shl .i64 1 (Int.tmod (wrap64 ((Int.tmod a2 31) + 31)) 31)))))))) < (shl .i64 1 (Int.tmod (wrap64 ((Int.tmod a2 31) + 31)) 31)) then (if (Int.tmod (wrap64 ((Int.tmod a3 3) + 3)) 3) = 0 then (some true) else (some (decide ((wrap64 (2 * (wrap64 (-(wrap64 ((a0 / 4) - (wrap64 (t116 * (shl .i64 1 (Int.tmod (wrap64 ((Int.tmod a2 31) + 31)) 31)))))))))) ≤ (shl .i64 1 (Int.tmod (wrap64 ((Int.tmod a2 31) + 31)) 31)))))) else (some false)) else (if (wrap64 ((a0 / 4) - (wrap64 (t116 * (shl .i64 1 (Int.tmod (wrap64 ((Int.tmod a2 31) + 31)) 31)))))) < (shl .i64 1 (Int.tmod (wrap64 ((Int.tmod a2 31) + 31)) 31)) then (if (Int.tmod (wrap64 ((Int.tmod a3 3) + 3)) 3) = 0 then (some true) else (some (decide ((wrap64 (2 * (wrap64 ((a0 / 4) - (wrap64 (t116 * (shl .i64 1 (Int.tmod (wrap64 ((Int.tmod a2 31) + 31)) 31)))))))) ≤ (shl .i64 1 (Int.tmod (wrap64 ((Int.tmod a2 31) + 31)) 31)))))) else (some false))) else (none)) = some r := by rw [if_neg (show ¬ (false = true) by decide)] at H; exact H
        clear H
        have H := H1
        clear H1
        obtain ⟨ji27, hji27⟩ : ∃ j_ : Int, (Int.tmod (wrap64 ((Int.tmod a2 31) + 31)) 31) = j_ := ⟨_, rfl⟩
        replace H : (if 0 ≤ (ji27) then (if (wrap64 ((a0 / 4) - (wrap64 (t116 * (shl .i64 1 (ji27)))))) < 0 then (if (wrap64 (-(wrap64 ((a0 / 4) - (wrap64 (t116 * (shl .i64 1 (ji27)))))))) < (shl .i64 1 (ji27)) then (if (Int.tmod (wrap64 ((Int.tmod a3 3) + 3)) 3) = 0 then (some true) else (some (decide ((wrap64 (2 * (wrap64 (-(wrap64 ((a0 / 4) - (wrap64 (t116 * (shl .i64 1 (ji27)))))))))) ≤ (shl .i64 1 (ji27)))))) else (some false)) else (if (wrap64 ((a0 / 4) - (wrap64 (t116 * (shl .i64 1 (ji27)))))) < (shl .i64 1 (ji27)) then (if (Int.tmod (wrap64 ((Int.tmod a3 3) + 3)) 3) = 0 then (some true) else (some (decide ((wrap64 (2 * (wrap64 ((a0 / 4) - (wrap64 (t116 * (shl .i64 1 (ji27)))))))) ≤ (shl .i64 1 (ji27)))))) else (some false))) else (none)) = some r := by first | (rw [hji27] at H; exact H) | (simp only [hji27] at H ⊢; exact H)
        by_cases c28 : 0 ≤ (ji27)
        · rw [if_pos c28] at H
          have c28b0 := eq_true c28
          have c28b1 : decide (0 ≤ (ji27)) = true := decide_eq_true c28
          clear c28
          obtain ⟨ji29, hji29⟩ : ∃ j_ : Int, (shl .i64 1 (ji27)) = j_ := ⟨_, rfl⟩
          replace H : (if (wrap64 ((a0 / 4) - (wrap64 (t116 * (ji29))))) < 0 then (if (wrap64 (-(wrap64 ((a0 / 4) - (wrap64 (t116 * (ji29))))))) < (ji29) then (if (Int.tmod (wrap64 ((Int.tmod a3 3) + 3)) 3) = 0 then (some true) else (some (decide ((wrap64 (2 * (wrap64 (-(wrap64 ((a0 / 4) - (wrap64 (t116 * (ji29))))))))) ≤ (ji29))))) else (some false)) else (if (wrap64 ((a0 / 4) - (wrap64 (t116 * (ji29))))) < (ji29) then (if (Int.tmod (wrap64 ((Int.tmod a3 3) + 3)) 3) = 0 then (some true) else (some (decide ((wrap64 (2 * (wrap64 ((a0 / 4) - (wrap64 (t116 * (ji29))))))) ≤ (ji29))))) else (some false))) = some r := by first | (rw [hji29] at H; exact H) | (simp only [hji29] at H ⊢; exact H)
          have hji29_ : (IntKind.i64.wrap (1 * 2 ^ min (ji27).toNat 64)) = ji29 := hji29
          have hji29z : (ji27) ≤ 64 → (IntKind.i64.wrap (1 * 2 ^ (ji27).toNat)) = ji29 := shl_small hji29
          have hji29u : (IntKind.i64.wrap (2 ^ min (ji27).toNat 64)) = ji29 := by have h_ := hji29_; rw [Int.one_mul] at h_; exact h_
          have hji29v : (ji27) ≤ 64 → (IntKind.i64.wrap (2 ^ (ji27).toNat)) = ji29 := fun hle_ => by have h_ := hji29z hle_; rw [Int.one_mul] at h_; exact h_
          have hji29y : (wrap64 (1 * 2 ^ min (ji27).toNat 64)) = ji29 := (i64_w _).symm.trans hji29_
          have hji29x : (ji27) ≤ 64 → (wrap64 (1 * 2 ^ (ji27).toNat)) = ji29 := fun h_ => (i64_w _).symm.trans (hji29z h_)
          by_cases c30 : (wrap64 ((a0 / 4) - (wrap64 (t116 * (ji29))))) < 0
          · rw [if_pos c30] at H
            have c30b0 : decide ((wrap64 ((a0 / 4) - (wrap64 (t116 * (ji29))))) < 0) = true := decide_eq_true c30
            clear c30
            have c31b0 := eq_true (of_decide_eq_true (by first | (with_reducible assumption) | assumption) : 0 ≤ (ji27))
            by_cases c33 : (wrap64 (-(wrap64 ((a0 / 4) - (wrap64 (t116 * (ji29))))))) < (ji29)
            · rw [if_pos c33] at H
              have c33b0 : decide ((wrap64 (-(wrap64 ((a0 / 4) - (wrap64 (t116 * (ji29))))))) < (ji29)) = true := decide_eq_true c33
              clear c33
              by_cases c34 : (Int.tmod (wrap64 ((Int.tmod a3 3) + 3)) 3) = 0
              · rw [if_pos c34] at H
                have c34b0 : ((Int.tmod (wrap64 ((Int.tmod a3 3) + 3)) 3) == 0) = true := beq_iff_eq.mpr c34
                have c34b1 : ((Int.tmod (wrap64 ((Int.tmod a3 3) + 3)) 3) != 0) = false := bne_eq_false_iff_eq.mpr c34
                clear c34
                obtain rfl := Option.some.inj H
                go_wp2
                go_ret
                exact ⟨by first | rfl | (simp [errW_none, errW_some] <;> rfl) | (simp only [← hji27, ← hji29]; first | rfl | (simp [errW_none, errW_some] <;> rfl)) | (simp [*, errW_none, errW_some] <;> rfl), by repeat (first | (with_reducible first | exact HB.out | apply below_alloc | apply pw_below_drewN | apply below_drew1) | exact HB.out)⟩
              · rw [if_neg c34] at H
                have c34b0 : ((Int.tmod (wrap64 ((Int.tmod a3 3) + 3)) 3) == 0) = false := beq_eq_false_iff_ne.mpr c34
                have c34b1 : ((Int.tmod (wrap64 ((Int.tmod a3 3) + 3)) 3) != 0) = true := bne_iff_ne.mpr c34
                have c35b0 := eq_true (of_decide_eq_true (by first | (with_reducible assumption) | assumption) : 0 ≤ (ji27))
                obtain rfl := Option.some.inj H
                go_wp2
                go_ret
                exact ⟨by first | rfl | (simp [errW_none, errW_some] <;> rfl) | (simp only [← hji27, ← hji29]; first | rfl | (simp [errW_none, errW_some] <;> rfl)) | (simp [*, errW_none, errW_some] <;> rfl), by repeat (first | (with_reducible first | exact HB.out | apply below_alloc | apply pw_below_drewN | apply below_drew1) | exact HB.out)⟩
            · rw [if_neg c33] at H
              have c33b0 : decide ((wrap64 (-(wrap64 ((a0 / 4) - (wrap64 (t116 * (ji29))))))) < (ji29)) = false := decide_eq_false c33
              clear c33
              obtain rfl := Option.some.inj H
              go_wp2
              go_ret
              exact ⟨by first | rfl | (simp [errW_none, errW_some] <;> rfl) | (simp only [← hji27, ← hji29]; first | rfl | (simp [errW_none, errW_some] <;> rfl)) | (simp [*, errW_none, errW_some] <;> rfl), by repeat (first | (with_reducible first | exact HB.out | apply below_alloc | apply pw_below_drewN | apply below_drew1) | exact HB.out)⟩
          · rw [if_neg c30] at H
            have c30b0 : decide ((wrap64 ((a0 / 4) - (wrap64 (t116 * (ji29))))) < 0) = false := decide_eq_false c30
            clear c30
            have c37b0 := eq_true (of_decide_eq_true (by first | (with_reducible assumption) | assumption) : 0 ≤ (ji27))
            by_cases c39 : (wrap64 ((a0 / 4) - (wrap64 (t116 * (ji29))))) < (ji29)
            · rw [if_pos c39] at H
              have c39b0 : decide ((wrap64 ((a0 / 4) - (wrap64 (t116 * (ji29))))) < (ji29)) = true := decide_eq_true c39
              clear c39
              by_cases c40 : (Int.tmod (wrap64 ((Int.tmod a3 3) + 3)) 3) = 0
              · rw [if_pos c40] at H
                have c40b0 : ((Int.tmod (wrap64 ((Int.tmod a3 3) + 3)) 3) == 0) = true := beq_iff_eq.mpr c40
                have c40b1 : ((Int.tmod (wrap64 ((Int.tmod a3 3) + 3)) 3) != 0) = false := bne_eq_false_iff_eq.mpr c40
                clear c40
                obtain rfl := Option.some.inj H
                go_wp2
                go_ret
                exact ⟨by first | rfl | (simp [errW_none, errW_some] <;> rfl) | (simp only [← hji27, ← hji29]; first | rfl | (simp [errW_none, errW_some] <;> rfl)) | (simp [*, errW_none, errW_some] <;> rfl), by repeat (first | (with_reducible first | exact HB.out | apply below_alloc | apply pw_below_drewN | apply below_drew1) | exact HB.out)⟩
              · rw [if_neg c40] at H
                have c40b0 : ((Int.tmod (wrap64 ((Int.tmod a3 3) + 3)) 3) == 0) = false := beq_eq_false_iff_ne.mpr c40
                have c40b1 : ((Int.tmod (wrap64 ((Int.tmod a3 3) + 3)) 3) != 0) = true := bne_iff_ne.mpr c40
                have c41b0 := eq_true (of_decide_eq_true (by first | (with_reducible assumption) | assumption) : 0 ≤ (ji27))
                obtain rfl := Option.some.inj H
                go_wp2
                go_ret
                exact ⟨by first | rfl | (simp [errW_none, errW_some] <;> rfl) | (simp only [← hji27, ← hji29]; first | rfl | (simp [errW_none, errW_some] <;> rfl)) | (simp [*, errW_none, errW_some] <;> rfl), by repeat (first | (with_reducible first | exact HB.out | apply below_alloc | apply pw_below_drewN | apply below_drew1) | exact HB.out)⟩
            · rw [if_neg c39] at H
              have c39b0 : decide ((wrap64 ((a0 / 4) - (wrap64 (t116 * (ji29))))) < (ji29)) = false := decide_eq_false c39
              clear c39
              obtain rfl := Option.some.inj H
              go_wp2
              go_ret
              exact ⟨by first | rfl | (simp [errW_none, errW_some] <;> rfl) | (simp only [← hji27, ← hji29]; first | rfl | (simp [errW_none, errW_some] <;> rfl)) | (simp [*, errW_none, errW_some] <;> rfl), by repeat (first | (with_reducible first | exact HB.out | apply below_alloc | apply pw_below_drewN | apply below_drew1) | exact HB.out)⟩
        · rw [if_neg c28] at H
          exact absurd H (by simp)

/-- THE ONE PURE STATEMENT of headroomlaw01_RoundNear. -/
def headroomlaw01_RoundNear.Pure : Prop := ∀ (a0 : Int) (a1 : Int) (a2 : Int) (a3 : Int), (Lit.int .i64 a0).wf = true → (Lit.int .i64 a1).wf = true → (Lit.int .i64 a2).wf = true → (Lit.int .i64 a3).wf = true → ∃ k, headroomlaw01_RoundNear.f k a0 a1 a2 a3 = some true
theorem headroomlaw01_RoundNear.walk (P : headroomlaw01_RoundNear.Pure) (a0 : Int) (a1 : Int) (a2 : Int) (a3 : Int) (w : World) (w0_ : (Lit.int .i64 a0).wf = true) (w1_ : (Lit.int .i64 a1).wf = true) (w2_ : (Lit.int .i64 a2).wf = true) (w3_ : (Lit.int .i64 a3).wf = true) :
    Calls Try.prog 4 #[.int .i64 a0, .int .i64 a1, .int .i64 a2, .int .i64 a3] w fun e w' => e = .returned (.bool true) ∧ Below w.heap.size w w' := by
  obtain ⟨k, h⟩ := P a0 a1 a2 a3 w0_ w1_ w2_ w3_
  refine (headroomlaw01_RoundNear.calls k a0 a1 a2 a3 true w h).mono ?_
  rintro e w' ⟨rfl, hd⟩
  exact ⟨rfl, hd⟩

end Go.Proofs.Ytobkjhiicafkbaa.P

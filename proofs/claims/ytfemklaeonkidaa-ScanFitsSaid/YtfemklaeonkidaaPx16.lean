-- Laid by this session's program hyb.py, out of the kit's print and this session's own contracts.
import Derived.Test.YtfemklaeonkidaaPx0
import Derived.Test.YtfemklaeonkidaaPx15
namespace Go.Proofs.Ytfemklaeonkidaa.P
open Go.RowKit Go.Proofs.YtfemklaeonkidaaW.PrintWords Go.Proofs.YtfemklaeonkidaaW.PrintLast Go.Proofs.YtfemklaeonkidaaW.PrintMore Go.Proofs.YtfemklaeonkidaaW.Hand
attribute [local go_sem] max2_int min2_int max_two min_two max_three min_three max_four min_four   -- for this text's walks alone
set_option linter.unusedVariables false
set_option linter.unusedSimpArgs false

/-! ### headroomref09_Pre: function 22 -/
def headroomref09_Pre.f : Nat → Int → Int → Int → Option (Int)
  | 0, _, _, _ => none
  | k + 1, a0, a1, a2 => (headroomref02_One.f k a2).bind fun t172 => (if a0 = 4 then (if a1 ≤ (wrap64 (Int.tdiv t172 8)) then (some 0) else ((headroomref09_Pre.f k 2 a1 a2).bind fun t173 => (some (wrap64 (1 + t173))))) else (if a1 ≤ (wrap64 (Int.tdiv t172 4)) then (some 0) else (if a1 ≤ (wrap64 (Int.tdiv t172 2)) then (some 1) else (some 2))))
theorem headroomref09_Pre.mono_l : ∀ k, (∀ y0 y1 y2, LeO (headroomref09_Pre.f k y0 y1 y2) (headroomref09_Pre.f (k + 1) y0 y1 y2))
  | 0 => fun _ _ _ r h => by simp [headroomref09_Pre.f] at h
  | k + 1 => by
    have ih0 := headroomref09_Pre.mono_l k
    · intro y0 y1 y2
      unfold headroomref09_Pre.f
      repeat' first
      | (with_reducible exact ih0 _ _ _)
      | (with_reducible exact headroomref02_One.mono _ _)
      | (with_reducible exact LeO.refl _)
      | (with_reducible exact LeO.none _)
      | (with_reducible refine LeO.ite ?_ ?_)
      | (with_reducible refine LeO.bind ?_ (fun _ => ?_))
      | exact ih0 _ _ _
      | exact headroomref02_One.mono _ _
      | exact LeO.none _
      | refine LeO.ite ?_ ?_
      | refine LeO.bind ?_ (fun _ => ?_)
theorem headroomref09_Pre.mono : ∀ a0 a1 a2 k, LeO (headroomref09_Pre.f k a0 a1 a2) (headroomref09_Pre.f (k + 1) a0 a1 a2) := by
  intro a0 a1 a2 k
  have ih0 := headroomref09_Pre.mono_l k
  exact ih0 a0 a1 a2
set_option maxHeartbeats 8000000 in
set_option maxRecDepth 100000 in
theorem headroomref09_Pre.calls (k : Nat) : ∀ (a0 : Int) (a1 : Int) (a2 : Int) (r : Int) (w : World) (h : headroomref09_Pre.f k a0 a1 a2 = some r),
    Calls Try.prog 22 #[.int .i64 a0, .int .i64 a1, .int .i64 a2] w fun e w' => e = .returned (.int .i64 r) ∧ Drawn0 w w' := by
  induction k using Nat.strongRecOn with
  | _ k ih =>
  intro a0 a1 a2 r w h
  cases k with
  | zero => exact absurd h (by simp [headroomref09_Pre.f])
  | succ k =>
  simp only [headroomref09_Pre.f] at h
  have H : ((headroomref02_One.f k a2).bind fun t172 => (if a0 = 4 then (if a1 ≤ (wrap64 (Int.tdiv t172 8)) then (some 0) else ((headroomref09_Pre.f k 2 a1 a2).bind fun t173 => (some (wrap64 (1 + t173))))) else (if a1 ≤ (wrap64 (Int.tdiv t172 4)) then (some 0) else (if a1 ≤ (wrap64 (Int.tdiv t172 2)) then (some 1) else (some 2))))) = some r := h
  clear h
  replace H := Option.bind_eq_some_iff.mp H
  obtain ⟨t172, A40, H⟩ := H
  replace H : (if a0 = 4 then (if a1 ≤ (wrap64 (Int.tdiv t172 8)) then (some 0) else ((headroomref09_Pre.f k 2 a1 a2).bind fun t173 => (some (wrap64 (1 + t173))))) else (if a1 ≤ (wrap64 (Int.tdiv t172 4)) then (some 0) else (if a1 ≤ (wrap64 (Int.tdiv t172 2)) then (some 1) else (some 2)))) = some r := H
  have A4 := Aside0.mk A40
  clear A40
  by_cases c5 : a0 = 4
  · rw [if_pos c5] at H
    have c5b0 : (a0 == 4) = true := beq_iff_eq.mpr c5
    have c5b1 : (a0 != 4) = false := bne_eq_false_iff_eq.mpr c5
    clear c5
    by_cases c6 : a1 ≤ (wrap64 (Int.tdiv t172 8))
    · rw [if_pos c6] at H
      have c6b0 : decide (a1 ≤ (wrap64 (Int.tdiv t172 8))) = true := decide_eq_true c6
      clear c6
      obtain rfl := Option.some.inj H
      go_enter Try.func22, Try.ntmps22
      go_wp2_with (first | ((with_reducible refine gate_callee (f := 51) rfl ?_); refine goesL_ (some 9) rfl rfl Try.func51 (by kernel_rfl) rfl #[.int .i64 a2] rfl (by (try simp only [List.map_toArray, List.map_cons, List.map_nil]); first | done | rfl | (simp only [List.length_drop, List.length_take]; rfl)) ?_; (with_reducible refine (headroomref02_One.calls k a2 t172 _ A4.out).mono ?_); rintro e w' ⟨rfl, ⟨nd, rfl⟩⟩; refine ⟨_, rfl, ?_⟩))
      go_ret
      exact ⟨by first | rfl | (simp; done) | (simp [*]; done), by repeat (first | exact Drawn0.refl _ | apply Drawn0.step)⟩
    · rw [if_neg c6] at H
      have c6b0 : decide (a1 ≤ (wrap64 (Int.tdiv t172 8))) = false := decide_eq_false c6
      clear c6
      replace H := Option.bind_eq_some_iff.mp H
      obtain ⟨t173, A70, H⟩ := H
      replace H : (some (wrap64 (1 + t173))) = some r := H
      have A7 := Aside0.mk A70
      clear A70
      obtain rfl := Option.some.inj H
      go_enter Try.func22, Try.ntmps22
      go_wp2_with (first | ((with_reducible refine gate_callee (f := 51) rfl ?_); refine goesL_ (some 9) rfl rfl Try.func51 (by kernel_rfl) rfl #[.int .i64 a2] rfl (by (try simp only [List.map_toArray, List.map_cons, List.map_nil]); first | done | rfl | (simp only [List.length_drop, List.length_take]; rfl)) ?_; (with_reducible refine (headroomref02_One.calls k a2 t172 _ A4.out).mono ?_); rintro e w' ⟨rfl, ⟨nd, rfl⟩⟩; refine ⟨_, rfl, ?_⟩) | ((with_reducible refine gate_callee (f := 22) rfl ?_); refine goesL_ (some 18) rfl rfl Try.func22 (by kernel_rfl) rfl #[.int .i64 2, .int .i64 a1, .int .i64 a2] rfl (by (try simp only [List.map_toArray, List.map_cons, List.map_nil]); first | done | rfl | (simp only [List.length_drop, List.length_take]; rfl)) ?_; (with_reducible refine (ih k (by omega) 2 a1 a2 t173 _ A7.out).mono ?_); rintro e w' ⟨rfl, ⟨nd, rfl⟩⟩; refine ⟨_, rfl, ?_⟩))
      go_ret
      exact ⟨by first | rfl | (simp; done) | (simp [*]; done), by repeat (first | exact Drawn0.refl _ | apply Drawn0.step)⟩
  · rw [if_neg c5] at H
    have c5b0 : (a0 == 4) = false := beq_eq_false_iff_ne.mpr c5
    have c5b1 : (a0 != 4) = true := bne_iff_ne.mpr c5
    by_cases c8 : a1 ≤ (wrap64 (Int.tdiv t172 4))
    · rw [if_pos c8] at H
      have c8b0 : decide (a1 ≤ (wrap64 (Int.tdiv t172 4))) = true := decide_eq_true c8
      clear c8
      obtain rfl := Option.some.inj H
      go_enter Try.func22, Try.ntmps22
      go_wp2_with (first | ((with_reducible refine gate_callee (f := 51) rfl ?_); refine goesL_ (some 9) rfl rfl Try.func51 (by kernel_rfl) rfl #[.int .i64 a2] rfl (by (try simp only [List.map_toArray, List.map_cons, List.map_nil]); first | done | rfl | (simp only [List.length_drop, List.length_take]; rfl)) ?_; (with_reducible refine (headroomref02_One.calls k a2 t172 _ A4.out).mono ?_); rintro e w' ⟨rfl, ⟨nd, rfl⟩⟩; refine ⟨_, rfl, ?_⟩))
      go_ret
      exact ⟨by first | rfl | (simp; done) | (simp [*]; done), by repeat (first | exact Drawn0.refl _ | apply Drawn0.step)⟩
    · rw [if_neg c8] at H
      have c8b0 : decide (a1 ≤ (wrap64 (Int.tdiv t172 4))) = false := decide_eq_false c8
      clear c8
      by_cases c9 : a1 ≤ (wrap64 (Int.tdiv t172 2))
      · rw [if_pos c9] at H
        have c9b0 : decide (a1 ≤ (wrap64 (Int.tdiv t172 2))) = true := decide_eq_true c9
        clear c9
        obtain rfl := Option.some.inj H
        go_enter Try.func22, Try.ntmps22
        go_wp2_with (first | ((with_reducible refine gate_callee (f := 51) rfl ?_); refine goesL_ (some 9) rfl rfl Try.func51 (by kernel_rfl) rfl #[.int .i64 a2] rfl (by (try simp only [List.map_toArray, List.map_cons, List.map_nil]); first | done | rfl | (simp only [List.length_drop, List.length_take]; rfl)) ?_; (with_reducible refine (headroomref02_One.calls k a2 t172 _ A4.out).mono ?_); rintro e w' ⟨rfl, ⟨nd, rfl⟩⟩; refine ⟨_, rfl, ?_⟩))
        go_ret
        exact ⟨by first | rfl | (simp; done) | (simp [*]; done), by repeat (first | exact Drawn0.refl _ | apply Drawn0.step)⟩
      · rw [if_neg c9] at H
        have c9b0 : decide (a1 ≤ (wrap64 (Int.tdiv t172 2))) = false := decide_eq_false c9
        clear c9
        obtain rfl := Option.some.inj H
        go_enter Try.func22, Try.ntmps22
        go_wp2_with (first | ((with_reducible refine gate_callee (f := 51) rfl ?_); refine goesL_ (some 9) rfl rfl Try.func51 (by kernel_rfl) rfl #[.int .i64 a2] rfl (by (try simp only [List.map_toArray, List.map_cons, List.map_nil]); first | done | rfl | (simp only [List.length_drop, List.length_take]; rfl)) ?_; (with_reducible refine (headroomref02_One.calls k a2 t172 _ A4.out).mono ?_); rintro e w' ⟨rfl, ⟨nd, rfl⟩⟩; refine ⟨_, rfl, ?_⟩))
        go_ret
        exact ⟨by first | rfl | (simp; done) | (simp [*]; done), by repeat (first | exact Drawn0.refl _ | apply Drawn0.step)⟩

end Go.Proofs.Ytfemklaeonkidaa.P

-- Laid by this session's program hyb.py, out of the kit's print and this session's own contracts.
import Derived.Test.YtfemklaeonkidaaPx0
import Derived.Test.YtfemklaeonkidaaPx11
import Derived.Test.YtfemklaeonkidaaPx14
namespace Go.Proofs.Ytfemklaeonkidaa.P
open Go.RowKit Go.Proofs.YtfemklaeonkidaaW.PrintWords Go.Proofs.YtfemklaeonkidaaW.PrintLast Go.Proofs.YtfemklaeonkidaaW.PrintMore Go.Proofs.YtfemklaeonkidaaW.Hand
attribute [local go_sem] max2_int min2_int max_two min_two max_three min_three max_four min_four   -- for this text's walks alone
set_option linter.unusedVariables false
set_option linter.unusedSimpArgs false

/-! ### headroomref02_One: function 51 -/
def headroomref02_One.f (k : Nat) (a0 : Int) : Option (Int) := (headroomref02_Bits.f a0).bind fun t167 => ((headroomref01_Pow.f k t167).bind fun t168 => (some t168))
theorem headroomref02_One.mono : ∀ a0 k, LeO (headroomref02_One.f k a0) (headroomref02_One.f (k + 1) a0) := by
  intro a0 k
  unfold headroomref02_One.f
  repeat' first
      | (with_reducible exact headroomref01_Pow.mono _ _)
      | (with_reducible exact LeO.refl _)
      | (with_reducible exact LeO.none _)
      | (with_reducible refine LeO.ite ?_ ?_)
      | (with_reducible refine LeO.bind ?_ (fun _ => ?_))
      | exact headroomref01_Pow.mono _ _
      | exact LeO.none _
      | refine LeO.ite ?_ ?_
      | refine LeO.bind ?_ (fun _ => ?_)
set_option maxHeartbeats 8000000 in
set_option maxRecDepth 100000 in
theorem headroomref02_One.calls (k : Nat) (a0 : Int) (r : Int) (w : World) (h : headroomref02_One.f k a0 = some r) :
    Calls Try.prog 51 #[.int .i64 a0] w fun e w' => e = .returned (.int .i64 r) ∧ Drawn0 w w' := by
  have H : ((headroomref02_Bits.f a0).bind fun t167 => ((headroomref01_Pow.f k t167).bind fun t168 => (some t168))) = some r := h
  clear h
  replace H := Option.bind_eq_some_iff.mp H
  obtain ⟨t167, A20, H⟩ := H
  replace H : ((headroomref01_Pow.f k t167).bind fun t168 => (some t168)) = some r := H
  have A2 := Aside0.mk A20
  clear A20
  replace H := Option.bind_eq_some_iff.mp H
  obtain ⟨t168, A30, H⟩ := H
  replace H : (some t168) = some r := H
  have A3 := Aside0.mk A30
  clear A30
  obtain rfl := Option.some.inj H
  go_enter Try.func51, Try.ntmps51
  go_wp2_with (first | ((with_reducible refine gate_callee (f := 85) rfl ?_); refine goesL_ (some 4) rfl rfl Try.func85 (by kernel_rfl) rfl #[.int .i64 a0] rfl (by (try simp only [List.map_toArray, List.map_cons, List.map_nil]); first | done | rfl | (simp only [List.length_drop, List.length_take]; rfl)) ?_; (with_reducible refine (headroomref02_Bits.calls a0 t167 _ A2.out).mono ?_); rintro e w' ⟨rfl, ⟨nd, rfl⟩⟩; refine ⟨_, rfl, ?_⟩) | ((with_reducible refine gate_callee (f := 27) rfl ?_); refine goesL_ (some 5) rfl rfl Try.func27 (by kernel_rfl) rfl #[.int .i64 t167] rfl (by (try simp only [List.map_toArray, List.map_cons, List.map_nil]); first | done | rfl | (simp only [List.length_drop, List.length_take]; rfl)) ?_; (with_reducible refine (headroomref01_Pow.calls k t167 t168 _ A3.out).mono ?_); rintro e w' ⟨rfl, ⟨nd, rfl⟩⟩; refine ⟨_, rfl, ?_⟩))
  go_ret
  exact ⟨by first | rfl | (simp; done) | (simp [*]; done), by repeat (first | exact Drawn0.refl _ | apply Drawn0.step)⟩

/-! ### headroomref09_May: function 18 -/
def headroomref09_May.f (k : Nat) (a0 : Int) (a1 : Int) : Option (Bool) := if a0 ≥ 0 then ((headroomref02_One.f k a1).bind fun t169 => (some (decide (a0 ≤ t169)))) else (some false)
theorem headroomref09_May.mono : ∀ a0 a1 k, LeO (headroomref09_May.f k a0 a1) (headroomref09_May.f (k + 1) a0 a1) := by
  intro a0 a1 k
  unfold headroomref09_May.f
  repeat' first
      | (with_reducible exact headroomref02_One.mono _ _)
      | (with_reducible exact LeO.refl _)
      | (with_reducible exact LeO.none _)
      | (with_reducible refine LeO.ite ?_ ?_)
      | (with_reducible refine LeO.bind ?_ (fun _ => ?_))
      | exact headroomref02_One.mono _ _
      | exact LeO.none _
      | refine LeO.ite ?_ ?_
      | refine LeO.bind ?_ (fun _ => ?_)
set_option maxHeartbeats 8000000 in
set_option maxRecDepth 100000 in
theorem headroomref09_May.calls (k : Nat) (a0 : Int) (a1 : Int) (r : Bool) (w : World) (h : headroomref09_May.f k a0 a1 = some r) :
    Calls Try.prog 18 #[.int .i64 a0, .int .i64 a1] w fun e w' => e = .returned (.bool r) ∧ Drawn0 w w' := by
  have H : (if a0 ≥ 0 then ((headroomref02_One.f k a1).bind fun t169 => (some (decide (a0 ≤ t169)))) else (some false)) = some r := h
  clear h
  by_cases c3 : a0 ≥ 0
  · rw [if_pos c3] at H
    have c3b0 : decide (0 ≤ a0) = true := decide_eq_true c3
    clear c3
    replace H := Option.bind_eq_some_iff.mp H
    obtain ⟨t169, A40, H⟩ := H
    replace H : (some (decide (a0 ≤ t169))) = some r := H
    have A4 := Aside0.mk A40
    clear A40
    obtain rfl := Option.some.inj H
    go_enter Try.func18, Try.ntmps18
    go_wp2_with (first | (go_at_call 51; (with_reducible refine (headroomref02_One.calls k a1 t169 _ A4.out).mono ?_); rintro e w' ⟨rfl, ⟨nd, rfl⟩⟩))
    go_ret
    exact ⟨by first | rfl | (simp; done) | (simp [*]; done), by repeat (first | exact Drawn0.refl _ | apply Drawn0.step)⟩
  · rw [if_neg c3] at H
    have c3b0 : decide (0 ≤ a0) = false := decide_eq_false c3
    clear c3
    obtain rfl := Option.some.inj H
    go_enter Try.func18, Try.ntmps18
    go_wp2
    go_ret
    exact ⟨by first | rfl | (simp; done) | (simp [*]; done), by repeat (first | exact Drawn0.refl _ | apply Drawn0.step)⟩

/-! ### headroomref02_Format: function 19 -/
def headroomref02_Format.f (a0 : Int) : Option (Bool) := if a0 = 0 then (some true) else (some (a0 == 1))
set_option maxHeartbeats 8000000 in
set_option maxRecDepth 100000 in
theorem headroomref02_Format.calls (a0 : Int) (r : Bool) (w : World) (h : headroomref02_Format.f a0 = some r) :
    Calls Try.prog 19 #[.int .i64 a0] w fun e w' => e = .returned (.bool r) ∧ Drawn0 w w' := by
  have H : (if a0 = 0 then (some true) else (some (a0 == 1))) = some r := h
  clear h
  by_cases c2 : a0 = 0
  · rw [if_pos c2] at H
    have c2b0 : (a0 == 0) = true := beq_iff_eq.mpr c2
    have c2b1 : (a0 != 0) = false := bne_eq_false_iff_eq.mpr c2
    clear c2
    obtain rfl := Option.some.inj H
    go_enter Try.func19, Try.ntmps19
    go_wp2
    go_ret
    exact ⟨by first | rfl | (simp; done) | (simp [*]; done), by repeat (first | exact Drawn0.refl _ | apply Drawn0.step)⟩
  · rw [if_neg c2] at H
    have c2b0 : (a0 == 0) = false := beq_eq_false_iff_ne.mpr c2
    have c2b1 : (a0 != 0) = true := bne_iff_ne.mpr c2
    obtain rfl := Option.some.inj H
    go_enter Try.func19, Try.ntmps19
    go_wp2
    go_ret
    exact ⟨by first | rfl | (simp; done) | (simp [*]; done), by repeat (first | exact Drawn0.refl _ | apply Drawn0.step)⟩

/-! ### headroomref09_Room: function 21 -/
def headroomref09_Room.l0 : Nat → Int → Int → Int → Option (Int)
  | 0, _, _, _ => none
  | k + 1, x0, x1, x5 => if x5 > 0 then (if x0 > 0 then ((headroomref01_Pow.f k x5).bind fun t170 => ((headroomref02_One.f k x1).bind fun t171 => (if (wrap64 (x0 * t170)) ≤ (wrap64 (Int.tdiv t171 2)) then (some x5) else (headroomref09_Room.l0 k x0 x1 (wrap64 (x5 - 1)))))) else (headroomref09_Room.l0 k x0 x1 (wrap64 (x5 - 1)))) else (some 0)
def headroomref09_Room.f (k : Nat) (a0 : Int) (a1 : Int) : Option (Int) := headroomref09_Room.l0 k a0 a1 31
theorem headroomref09_Room.mono_l : ∀ k, (∀ y0 y1 y2, LeO (headroomref09_Room.l0 k y0 y1 y2) (headroomref09_Room.l0 (k + 1) y0 y1 y2))
  | 0 => fun _ _ _ r h => by simp [headroomref09_Room.l0] at h
  | k + 1 => by
    have ih0 := headroomref09_Room.mono_l k
    · intro y0 y1 y2
      unfold headroomref09_Room.l0
      repeat' first
      | (with_reducible exact ih0 _ _ _)
      | (with_reducible exact headroomref01_Pow.mono _ _)
      | (with_reducible exact headroomref02_One.mono _ _)
      | (with_reducible exact LeO.refl _)
      | (with_reducible exact LeO.none _)
      | (with_reducible refine LeO.ite ?_ ?_)
      | (with_reducible refine LeO.bind ?_ (fun _ => ?_))
      | exact ih0 _ _ _
      | exact headroomref01_Pow.mono _ _
      | exact headroomref02_One.mono _ _
      | exact LeO.none _
      | refine LeO.ite ?_ ?_
      | refine LeO.bind ?_ (fun _ => ?_)
theorem headroomref09_Room.mono : ∀ a0 a1 k, LeO (headroomref09_Room.f k a0 a1) (headroomref09_Room.f (k + 1) a0 a1) := by
  intro a0 a1 k
  have ih0 := headroomref09_Room.mono_l k
  unfold headroomref09_Room.f
  repeat' first
      | (with_reducible exact ih0 _ _ _)
      | (with_reducible exact headroomref01_Pow.mono _ _)
      | (with_reducible exact headroomref02_One.mono _ _)
      | (with_reducible exact LeO.refl _)
      | (with_reducible exact LeO.none _)
      | (with_reducible refine LeO.ite ?_ ?_)
      | (with_reducible refine LeO.bind ?_ (fun _ => ?_))
      | exact ih0 _ _ _
      | exact headroomref01_Pow.mono _ _
      | exact headroomref02_One.mono _ _
      | exact LeO.none _
      | refine LeO.ite ?_ ?_
      | refine LeO.bind ?_ (fun _ => ?_)
set_option maxHeartbeats 8000000 in
set_option maxRecDepth 100000 in
theorem headroomref09_Room.calls (k : Nat) (a0 : Int) (a1 : Int) (r : Int) (w : World) (h : headroomref09_Room.f k a0 a1 = some r) :
    Calls Try.prog 21 #[.int .i64 a0, .int .i64 a1] w fun e w' => e = .returned (.int .i64 r) ∧ Drawn0 w w' := by
  have H : (headroomref09_Room.l0 k a0 a1 31) = some r := h
  clear h
  have H' := Aside0.mk H
  clear H
  go_enter Try.func21, Try.ntmps21
  go_wp2
  go_loopg [5] k (fun kq v5 w' => ∃ (x5_1 : Int), v5 = .int .i64 x5_1 ∧ Aside0 (headroomref09_Room.l0 kq a0 a1 x5_1 = some r) ∧ Aside0 (kq ≤ k) ∧ Drawn0 w w')
  case atStart => exact ⟨(31), (by first | rfl | (simp; done) | (simp [*]; done)), H', ⟨Nat.le_refl _⟩, by repeat (first | exact Drawn0.refl _ | apply Drawn0.step)⟩
  case round =>
    clear H'
    try clear c2
    try clear p2
    obtain ⟨x5_1, rfl, HA, HK1, ⟨m1, rfl⟩⟩ := hrel
    cases gk with
    | zero => exact absurd HA.out (by simp [headroomref09_Room.l0])
    | succ k1 =>
      have H := HA.out
      clear HA
      simp only [headroomref09_Room.l0] at H
      by_cases c3 : x5_1 > 0
      · rw [if_pos c3] at H
        have c3b0 : decide (0 < x5_1) = true := decide_eq_true c3
        clear c3
        by_cases c4 : a0 > 0
        · rw [if_pos c4] at H
          have c4b0 : decide (0 < a0) = true := decide_eq_true c4
          clear c4
          replace H := Option.bind_eq_some_iff.mp H
          obtain ⟨t170, A50, H⟩ := H
          replace H : ((headroomref02_One.f k1 a1).bind fun t171 => (if (wrap64 (a0 * t170)) ≤ (wrap64 (Int.tdiv t171 2)) then (some x5_1) else (headroomref09_Room.l0 k1 a0 a1 (wrap64 (x5_1 - 1))))) = some r := H
          have A5 := Aside0.mk A50
          clear A50
          replace H := Option.bind_eq_some_iff.mp H
          obtain ⟨t171, A60, H⟩ := H
          replace H : (if (wrap64 (a0 * t170)) ≤ (wrap64 (Int.tdiv t171 2)) then (some x5_1) else (headroomref09_Room.l0 k1 a0 a1 (wrap64 (x5_1 - 1)))) = some r := H
          have A6 := Aside0.mk A60
          clear A60
          by_cases c7 : (wrap64 (a0 * t170)) ≤ (wrap64 (Int.tdiv t171 2))
          · rw [if_pos c7] at H
            have c7b0 : decide ((wrap64 (a0 * t170)) ≤ (wrap64 (Int.tdiv t171 2))) = true := decide_eq_true c7
            clear c7
            obtain rfl := Option.some.inj H
            go_wp2_with (first | (go_at_call 27; (with_reducible refine (headroomref01_Pow.calls k1 x5_1 t170 _ A5.out).mono ?_); rintro e w' ⟨rfl, ⟨nd, rfl⟩⟩) | (go_at_call 51; (with_reducible refine (headroomref02_One.calls k1 a1 t171 _ A6.out).mono ?_); rintro e w' ⟨rfl, ⟨nd, rfl⟩⟩))
            go_ret
            exact ⟨by first | rfl | (simp; done) | (simp [*]; done), by repeat (first | exact Drawn0.refl _ | apply Drawn0.step)⟩
          · rw [if_neg c7] at H
            have c7b0 : decide ((wrap64 (a0 * t170)) ≤ (wrap64 (Int.tdiv t171 2))) = false := decide_eq_false c7
            clear c7
            have H' := Aside0.mk H
            clear H
            go_wp2_with (first | (go_at_call 27; (with_reducible refine (headroomref01_Pow.calls k1 x5_1 t170 _ A5.out).mono ?_); rintro e w' ⟨rfl, ⟨nd, rfl⟩⟩) | (go_at_call 51; (with_reducible refine (headroomref02_One.calls k1 a1 t171 _ A6.out).mono ?_); rintro e w' ⟨rfl, ⟨nd, rfl⟩⟩))
            go_roundg k1
            case measure => have := HK1.out; omega
            case rel => exact ⟨(wrap64 (x5_1 - 1)), (by first | rfl | (simp; done) | (simp [*]; done)), H', ⟨by have := HK1.out; omega⟩, by repeat (first | exact Drawn0.refl _ | apply Drawn0.step)⟩
        · rw [if_neg c4] at H
          have c4b0 : decide (0 < a0) = false := decide_eq_false c4
          clear c4
          have H' := Aside0.mk H
          clear H
          go_wp2
          go_roundg k1
          case measure => have := HK1.out; omega
          case rel => exact ⟨(wrap64 (x5_1 - 1)), (by first | rfl | (simp; done) | (simp [*]; done)), H', ⟨by have := HK1.out; omega⟩, by repeat (first | exact Drawn0.refl _ | apply Drawn0.step)⟩
      · rw [if_neg c3] at H
        have c3b0 : decide (0 < x5_1) = false := decide_eq_false c3
        clear c3
        obtain rfl := Option.some.inj H
        go_wp2
        go_ret
        exact ⟨by first | rfl | (simp; done) | (simp [*]; done), by repeat (first | exact Drawn0.refl _ | apply Drawn0.step)⟩

end Go.Proofs.Ytfemklaeonkidaa.P

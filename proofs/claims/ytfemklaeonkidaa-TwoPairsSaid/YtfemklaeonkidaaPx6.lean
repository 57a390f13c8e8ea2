-- Laid by this session's program hyb.py, out of the kit's print and this session's own contracts.
import Derived.Test.YtfemklaeonkidaaPx0
namespace Go.Proofs.Ytfemklaeonkidaa.P
open Go.RowKit Go.Proofs.YtfemklaeonkidaaW.PrintWords Go.Proofs.YtfemklaeonkidaaW.PrintLast Go.Proofs.YtfemklaeonkidaaW.PrintMore Go.Proofs.YtfemklaeonkidaaW.Hand
attribute [local go_sem] max2_int min2_int max_two min_two max_three min_three max_four min_four   -- for this text's walks alone
set_option linter.unusedVariables false
set_option linter.unusedSimpArgs false

/-! ### round_Up: function 64 -/
def round_Up.f (a0 a1 : Int) : Option (Int × Int) := some (upf a0 a1)
theorem round_Up.bad (x s : Int) (w : World) (h : s < 0 ∨ 62 < s) :
    Calls Try.prog 64 #[.int .i64 x, .int .i64 s] w fun e w' => e = .returned (.tuple #[.int .i64 0, .int .i64 1]) ∧ Drawn0 w w' := by
  by_cases h1 : s < 0
  · have g1 : decide (s < 0) = true := by simpa using h1
    clear h h1
    go_enter Try.func64, Try.ntmps64
    go_wp2
    go_ret2
    exact ⟨rfl, Drawn0.refl _⟩
  · have g1 : decide (s < 0) = false := by simpa using h1
    have g2 : decide (62 < s) = true := decide_eq_true (by omega)
    clear h h1
    go_enter Try.func64, Try.ntmps64
    go_wp2
    go_ret2
    exact ⟨rfl, Drawn0.refl _⟩
theorem round_Up.far (x s : Int) (w : World) (h0 : 0 ≤ s) (h1 : s ≤ 62) (h : x < -2 ^ (62 - s).toNat ∨ 2 ^ (62 - s).toNat < x) :
    Calls Try.prog 64 #[.int .i64 x, .int .i64 s] w fun e w' => e = .returned (.tuple #[.int .i64 0, .int .i64 2]) ∧ Drawn0 w w' := by
  have g1 : decide (s < 0) = false := decide_eq_false (by omega)
  have g2 : decide (62 < s) = false := decide_eq_false (by omega)
  have hp := pow_wrap (n := (62 - s).toNat) (by omega)
  have hq := pow_pos (62 - s).toNat
  have hr := pow_le62 (n := (62 - s).toNat) (by omega)
  have e : wrap64 (-wrap64 (2 ^ (62 - s).toNat)) = -2 ^ (62 - s).toNat := by
    rw [hp]
    unfold wrap64
    omega
  by_cases h2 : x < -2 ^ (62 - s).toNat
  · have g3 : decide (x < wrap64 (-wrap64 (2 ^ (62 - s).toNat))) = true := decide_eq_true (by rw [e]; exact h2)
    clear h h2 hp hq hr e
    go_enter Try.func64, Try.ntmps64
    go_wp2
    go_ret2
    exact ⟨rfl, Drawn0.refl _⟩
  · have g3 : decide (x < wrap64 (-wrap64 (2 ^ (62 - s).toNat))) = false := decide_eq_false (by rw [e]; exact h2)
    have g4 : decide (wrap64 (2 ^ (62 - s).toNat) < x) = true := decide_eq_true (by rw [hp]; omega)
    clear h h2 hp hq hr e
    go_enter Try.func64, Try.ntmps64
    go_wp2
    go_ret2
    exact ⟨rfl, Drawn0.refl _⟩
theorem round_Up.ok (x s : Int) (w : World) (h0 : 0 ≤ s) (h1 : s ≤ 62) (h2 : -2 ^ (62 - s).toNat ≤ x) (h3 : x ≤ 2 ^ (62 - s).toNat) :
    Calls Try.prog 64 #[.int .i64 x, .int .i64 s] w fun e w' => e = .returned (.tuple #[.int .i64 (x * 2 ^ s.toNat), .int .i64 0]) ∧ Drawn0 w w' := by
  have g1 : decide (s < 0) = false := decide_eq_false (by omega)
  have g2 : decide (62 < s) = false := decide_eq_false (by omega)
  have hp := pow_wrap (n := (62 - s).toNat) (by omega)
  have hq := pow_pos (62 - s).toNat
  have hr := pow_le62 (n := (62 - s).toNat) (by omega)
  have e : wrap64 (-wrap64 (2 ^ (62 - s).toNat)) = -2 ^ (62 - s).toNat := by
    rw [hp]
    unfold wrap64
    omega
  have g3 : decide (x < wrap64 (-wrap64 (2 ^ (62 - s).toNat))) = false := decide_eq_false (by rw [e]; omega)
  have g4 : decide (wrap64 (2 ^ (62 - s).toNat) < x) = false := decide_eq_false (by rw [hp]; omega)
  have hb := up_bound h0 h1 h2 h3
  have HW := Lib.hid (show wrap64 (x * 2 ^ s.toNat) = x * 2 ^ s.toNat by unfold wrap64; omega)
  clear h2 h3 hp hq hr e hb
  go_enter Try.func64, Try.ntmps64
  go_wp2
  go_ret2
  exact ⟨ret2 HW.out rfl, Drawn0.refl _⟩
theorem round_Up.calls (a0 a1 r1 r2 : Int) (w : World) (h : round_Up.f a0 a1 = some (r1, r2)) :
    Calls Try.prog 64 #[.int .i64 a0, .int .i64 a1] w fun e w' => e = .returned (.tuple #[.int .i64 r1, .int .i64 r2]) ∧ Drawn0 w w' := by
  unfold round_Up.f upf at h
  have h := Option.some.inj h
  by_cases h1 : a1 < 0 ∨ 62 < a1
  · rw [if_pos h1] at h
    cases h
    exact round_Up.bad a0 a1 w h1
  rw [if_neg h1] at h
  by_cases h2 : a0 < -2 ^ (62 - a1).toNat ∨ 2 ^ (62 - a1).toNat < a0
  · rw [if_pos h2] at h
    cases h
    exact round_Up.far a0 a1 w (by omega) (by omega) h2
  · rw [if_neg h2] at h
    cases h
    exact round_Up.ok a0 a1 w (by omega) (by omega) (by omega) (by omega)

end Go.Proofs.Ytfemklaeonkidaa.P

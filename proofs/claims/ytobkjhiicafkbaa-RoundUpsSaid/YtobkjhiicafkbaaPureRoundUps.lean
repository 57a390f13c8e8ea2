/- RoundUps: any int times a power of 2, and divided by any int, is as the document says, or refused; the arguments are ints of 64 bits. -/
import Derived.Test.YtobkjhiicafkbaaPx10
import Derived.Test.YtobkjhiicafkbaaPx2
import Derived.Test.YtobkjhiicafkbaaLMath
import Derived.Test.YtobkjhiicafkbaaLRound
import Derived.Test.YtobkjhiicafkbaaLUp
namespace Go.Proofs.Ytobkjhiicafkbaa.Pure
open Go.RowKit Go.Proofs.Ytobkjhiicafkbaa.P Go.Proofs.YtobkjhiicafkbaaW.PrintWords Go.Proofs.YtobkjhiicafkbaaW.PrintLast Go.Proofs.YtobkjhiicafkbaaW.PrintMore Go.Proofs.YtobkjhiicafkbaaW.Hand
set_option linter.unusedVariables false
set_option linter.unusedSimpArgs false
theorem alive1 : headroomlaw01_alive.f = some true := by decide +kernel
theorem RoundUps : headroomlaw01_RoundUps.Pure := by
  intro x s d hx hs hd
  have hx := wf64 hx
  have hs := wf64 hs
  refine ⟨200 + 1 + 1, ?_⟩
  unfold headroomlaw01_RoundUps.f
  rw [round_Up_eq (by omega), Option.bind_some, round_Div_eq hx, Option.bind_some, alive1]
  have key : headroomlaw01_RoundUps.j0 (200 + 1 + 1) x s (upf x s).1 (upf x s).2 (!true) = some true := by
    simp only [headroomlaw01_RoundUps.j0, Bool.not_true, Bool.false_eq_true, if_false, headroomlaw01_RoundUps.j1]
    by_cases h1 : s < 0
    · have hu : upf x s = (0, 1) := by unfold upf; rw [if_pos (.inl h1)]
      rw [hu]
      simp only [if_pos h1, if_true]
      rfl
    simp only [if_neg h1]
    by_cases h2 : s > 62
    · have hu : upf x s = (0, 1) := by unfold upf; rw [if_pos (.inr h2)]
      rw [hu]
      simp only [decide_eq_true h2, if_true]
      rfl
    simp only [decide_eq_false h2, Bool.false_eq_true, if_false]
    rw [w64 (a := 62 - s) (by omega), ref_Pow (by omega) (by omega), Option.bind_some]
    have hp := pow_bd (n := (62 - s).toNat) (by omega)
    rw [w64 (a := -2 ^ (62 - s).toNat) (by omega)]
    by_cases h3 : x < -2 ^ (62 - s).toNat
    · have hu : upf x s = (0, 2) := by unfold upf; rw [if_neg (by omega), if_pos (.inl h3)]
      rw [hu, if_pos h3]
      rfl
    rw [if_neg h3]
    by_cases h4 : x > 2 ^ (62 - s).toNat
    · have hu : upf x s = (0, 2) := by unfold upf; rw [if_neg (by omega), if_pos (.inr h4)]
      rw [hu, if_pos h4]
      rfl
    have := up_bound (x := x) (s := s) (by omega) (by omega) (by omega) (by omega)
    have hu : upf x s = (x * 2 ^ s.toNat, 0) := by unfold upf; rw [if_neg (by omega), if_neg (by omega)]
    rw [hu, if_neg h4, if_pos rfl, ref_Pow (by omega) (by omega), Option.bind_some, w64 (by omega)]
    simp
  by_cases h1 : d < 1
  · simp only [if_pos h1, if_true, if_neg (show ¬ d ≥ 1 by omega), Option.bind_some]
    exact key
  · simp only [if_neg h1, if_pos (show d ≥ 1 by omega), if_true, ref_Div_eq hx (show 1 ≤ d by omega), Option.bind_some]
    exact key
end Go.Proofs.Ytobkjhiicafkbaa.Pure

/- SatClamps: any int clamped, of any int's format, is as the document says, or refused; the arguments are ints of 64 bits. -/
import Derived.Test.YtobkjhiicafkbaaPx11
import Derived.Test.YtobkjhiicafkbaaPx13
import Derived.Test.YtobkjhiicafkbaaPx14
import Derived.Test.YtobkjhiicafkbaaLMath
import Derived.Test.YtobkjhiicafkbaaLRound
import Derived.Test.YtobkjhiicafkbaaLSat
namespace Go.Proofs.Ytobkjhiicafkbaa.Pure
open Go.RowKit Go.Proofs.Ytobkjhiicafkbaa.P Go.Proofs.YtobkjhiicafkbaaW.PrintWords Go.Proofs.YtobkjhiicafkbaaW.PrintLast Go.Proofs.YtobkjhiicafkbaaW.PrintMore Go.Proofs.YtobkjhiicafkbaaW.Hand
set_option linter.unusedVariables false
set_option linter.unusedSimpArgs false
theorem SatClamps : headroomlaw02_SatClamps.Pure := by
  intro x fmt hx hf
  refine ⟨200, ?_⟩
  unfold headroomlaw02_SatClamps.f
  rw [ref_Format]
  by_cases h : fmt = 0 ∨ fmt = 1
  · have e1 : sat_Clamp.f x fmt = some (sclamp (mag fmt) x, sclamp (mag fmt) x != x, 0) := if_pos h
    have e2 : ∃ b, sat_Bits.f fmt = some (b, 0) ∧ headroomref02_Bits.f fmt = some b := by
      rcases h with rfl | rfl
      · exact ⟨15, rfl, rfl⟩
      · exact ⟨31, rfl, rfl⟩
    obtain ⟨b, e2, e3⟩ := e2
    rw [e1, e2, e3, decide_eq_true h]
    simp only [Option.bind_some, if_true, ref_Clamp (show 64 ≤ 200 by decide) h, alive2]
    simp
  · have e1 : sat_Clamp.f x fmt = some (0, false, 1) := if_neg h
    have e2 : sat_Bits.f fmt = some (0, 1) := by
      unfold sat_Bits.f
      rw [if_neg (by omega), if_neg (by omega)]
    rw [e1, e2, decide_eq_false h]
    simp only [Option.bind_some, alive2, Bool.false_eq_true, if_false, if_true]
    rfl
end Go.Proofs.Ytobkjhiicafkbaa.Pure

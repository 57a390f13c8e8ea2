/- SatMuls: any ints' product, of any int's format, in any int's mode, is as the document says, or refused; the arguments are ints of 64 bits. -/
import Derived.Test.YtobkjhiicafkbaaPx16
import Derived.Test.YtobkjhiicafkbaaLMath
import Derived.Test.YtobkjhiicafkbaaLRound
import Derived.Test.YtobkjhiicafkbaaLSat
namespace Go.Proofs.Ytobkjhiicafkbaa.Pure
open Go.RowKit Go.Proofs.Ytobkjhiicafkbaa.P Go.Proofs.YtobkjhiicafkbaaW.PrintWords Go.Proofs.YtobkjhiicafkbaaW.PrintLast Go.Proofs.YtobkjhiicafkbaaW.PrintMore Go.Proofs.YtobkjhiicafkbaaW.Hand
set_option linter.unusedVariables false
set_option linter.unusedSimpArgs false
theorem SatMuls : headroomlaw02_SatMuls.Pure := by
  intro a b fmt mode ha hb hf hm
  refine ⟨200, ?_⟩
  unfold headroomlaw02_SatMuls.f
  rw [ref_Two_mul (by omega)]
  have e : sat_Mul.f a b fmt mode = some (if mode < 0 ∨ 2 < mode then (0, false, 1) else satof fmt [a, b] (rmul fmt mode a b)) := by
    unfold sat_Mul.f
    split <;> rfl
  rw [e]
  simp only [Option.bind_some, alive2, if_true]
  simp
end Go.Proofs.Ytobkjhiicafkbaa.Pure

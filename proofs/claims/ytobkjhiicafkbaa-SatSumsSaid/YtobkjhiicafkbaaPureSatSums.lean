/- SatSums: any ints' sum, difference and opposite, of any int's format, are as the document says, or refused; the arguments are ints of 64 bits. -/
import Derived.Test.YtobkjhiicafkbaaPx12
import Derived.Test.YtobkjhiicafkbaaPx16
import Derived.Test.YtobkjhiicafkbaaPx18
import Derived.Test.YtobkjhiicafkbaaLMath
import Derived.Test.YtobkjhiicafkbaaLRound
import Derived.Test.YtobkjhiicafkbaaLSat
namespace Go.Proofs.Ytobkjhiicafkbaa.Pure
open Go.RowKit Go.Proofs.Ytobkjhiicafkbaa.P Go.Proofs.YtobkjhiicafkbaaW.PrintWords Go.Proofs.YtobkjhiicafkbaaW.PrintLast Go.Proofs.YtobkjhiicafkbaaW.PrintMore Go.Proofs.YtobkjhiicafkbaaW.Hand
set_option linter.unusedVariables false
set_option linter.unusedSimpArgs false
theorem SatSums : headroomlaw02_SatSums.Pure := by
  intro a b fmt ha hb hf
  refine ⟨200, ?_⟩
  unfold headroomlaw02_SatSums.f
  rw [ref_Two_sum (by omega), ref_Two_less (by omega), ref_Two_less (a := 0) (b := a) (by omega)]
  have e : satof fmt [0, a] (0 - a) = satof fmt [a] (-a) := by
    unfold satof
    have h0 : inm (mag fmt) 0 = true := by
      have := mag_bd (fmt := fmt)
      exact decide_eq_true (by omega)
    simp [h0]
  rw [e]
  simp only [sat_Add.f, sat_Sub.f, sat_Neg.f, Option.bind_some, alive2, if_true]
  simp
end Go.Proofs.Ytobkjhiicafkbaa.Pure

/- RoundShifts: any int shifted by any int in any int's mode is what the document's halving comes to, or refused; the arguments are ints of 64 bits. -/
import Derived.Test.YtobkjhiicafkbaaPx2
import Derived.Test.YtobkjhiicafkbaaPx8
import Derived.Test.YtobkjhiicafkbaaLMath
import Derived.Test.YtobkjhiicafkbaaLRound
namespace Go.Proofs.Ytobkjhiicafkbaa.Pure
open Go.RowKit Go.Proofs.Ytobkjhiicafkbaa.P Go.Proofs.YtobkjhiicafkbaaW.PrintWords Go.Proofs.YtobkjhiicafkbaaW.PrintLast Go.Proofs.YtobkjhiicafkbaaW.PrintMore Go.Proofs.YtobkjhiicafkbaaW.Hand
set_option linter.unusedVariables false
set_option linter.unusedSimpArgs false
theorem alive1 : headroomlaw01_alive.f = some true := by decide +kernel
theorem RoundShifts : headroomlaw01_RoundShifts.Pure := by
  intro x s m hx hs hm
  have hx := wf64 hx
  refine ⟨202 + 1, ?_⟩
  unfold headroomlaw01_RoundShifts.f
  by_cases hb : s < 0 ∨ 62 < s ∨ m < 0 ∨ 2 < m
  · have e : round_Shift.f x s m = some (0, 1) := if_pos hb
    have key : headroomlaw01_RoundShifts.j0 (202 + 1) x s m 0 1 true = some true := by
      simp only [headroomlaw01_RoundShifts.j0, alive1, Option.bind_some]
      rfl
    rw [e, Option.bind_some]
    split
    · exact key
    · split
      · exact key
      · split
        · exact key
        · rw [decide_eq_true (show m > 2 by omega)]
          exact key
  · have e : round_Shift.f x s m = some (rshift x s m, 0) := if_neg hb
    rw [e, Option.bind_some, if_neg (by omega), if_neg (by omega), if_neg (by omega), decide_eq_false (by omega)]
    simp only [headroomlaw01_RoundShifts.j0, alive1, Option.bind_some]
    rw [ref_Shift (by omega) hx (by omega) (by omega) (by omega)]
    simp
end Go.Proofs.Ytobkjhiicafkbaa.Pure

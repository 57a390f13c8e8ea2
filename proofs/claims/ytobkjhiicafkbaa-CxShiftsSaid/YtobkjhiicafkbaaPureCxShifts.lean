/- CxShifts: any number shifted, in any mode, is as the document says, or refused; the arguments are ints of 64 bits. -/
import Derived.Test.YtobkjhiicafkbaaPx2
import Derived.Test.YtobkjhiicafkbaaPx24
import Derived.Test.YtobkjhiicafkbaaPx25
import Derived.Test.YtobkjhiicafkbaaLMath
import Derived.Test.YtobkjhiicafkbaaLRound
import Derived.Test.YtobkjhiicafkbaaLCx
namespace Go.Proofs.Ytobkjhiicafkbaa.Pure
open Go.RowKit Go.Proofs.Ytobkjhiicafkbaa.P Go.Proofs.YtobkjhiicafkbaaW.PrintWords Go.Proofs.YtobkjhiicafkbaaW.PrintLast Go.Proofs.YtobkjhiicafkbaaW.PrintMore Go.Proofs.YtobkjhiicafkbaaW.Hand
set_option linter.unusedVariables false
set_option linter.unusedSimpArgs false
theorem CxShifts : headroomlaw03_CxShifts.Pure := by
  intro a b s m ha hb hs hm
  have ha := wf64 ha
  have hb := wf64 hb
  refine ⟨200 + 1, ?_⟩
  unfold headroomlaw03_CxShifts.f cx_Shift.f
  by_cases h : s < 0 ∨ 62 < s ∨ m < 0 ∨ 2 < m
  · have e : ∀ x, round_Shift.f x s m = some (0, 1) := fun x => if_pos h
    have key : headroomlaw03_CxShifts.j0 (200 + 1) s m 1 true a b 0 0 = some true := by
      simp only [headroomlaw03_CxShifts.j0, alive3, Option.bind_some, if_true]
      rfl
    simp only [e, Option.bind_some, Int.reduceEq, if_false]
    split
    · exact key
    · split
      · exact key
      · split
        · exact key
        · rw [decide_eq_true (by omega)]
          exact key
  · have e : ∀ x, round_Shift.f x s m = some (rshift x s m, 0) := fun x => if_neg h
    simp only [e, Option.bind_some, if_true]
    rw [if_neg (by omega), if_neg (by omega), if_neg (by omega), decide_eq_false (by omega)]
    simp only [headroomlaw03_CxShifts.j0, alive3, Option.bind_some, if_true, Bool.false_eq_true, if_false, headroomref03_Shift.f]
    rw [ref_Shift (by omega) ha (by omega) (by omega) (by omega), ref_Shift (by omega) hb (by omega) (by omega) (by omega)]
    simp
end Go.Proofs.Ytobkjhiicafkbaa.Pure

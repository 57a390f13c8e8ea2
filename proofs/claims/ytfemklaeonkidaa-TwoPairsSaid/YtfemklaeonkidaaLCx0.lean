/- What the document's functions of layer 3 answer, in closed form; numbers are of their kind. -/
import Derived.Test.YtfemklaeonkidaaPx11
import Derived.Test.YtfemklaeonkidaaLMath
import Derived.Test.YtfemklaeonkidaaLRound
namespace Go.Proofs.Ytfemklaeonkidaa.P
open Go.RowKit Go.Proofs.Ytfemklaeonkidaa.P Go.Proofs.YtfemklaeonkidaaW.PrintWords Go.Proofs.YtfemklaeonkidaaW.PrintLast Go.Proofs.YtfemklaeonkidaaW.PrintMore Go.Proofs.YtfemklaeonkidaaW.Hand
set_option linter.unusedVariables false
set_option linter.unusedSimpArgs false
theorem ref_Within {re im m : Int} (h0 : 0 ≤ m) (h1 : m ≤ 4611686018427387904) : headroomref03_Within.f re im m = some (win m re im) := by
  unfold headroomref03_Within.f win
  rw [w64 (a := -m) (by omega)]
  by_cases a : re ≤ m
  · rw [if_pos a]
    by_cases b : re ≥ -m
    · rw [if_pos b]
      by_cases c : im ≤ m
      · rw [if_pos c]
        congr 1
        rw [decide_eq_decide]
        omega
      · rw [if_neg c, decide_eq_false (by omega)]
    · rw [if_neg b, decide_eq_false (by omega)]
  · rw [if_neg a, decide_eq_false (by omega)]
end Go.Proofs.Ytfemklaeonkidaa.P

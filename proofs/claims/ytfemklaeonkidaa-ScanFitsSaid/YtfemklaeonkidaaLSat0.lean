/- What the document's functions of layer 2 answer, in closed form; numbers are of their kind. -/
import Derived.Test.YtfemklaeonkidaaPx14
import Derived.Test.YtfemklaeonkidaaPx15
import Derived.Test.YtfemklaeonkidaaLMath
import Derived.Test.YtfemklaeonkidaaLRound
namespace Go.Proofs.Ytfemklaeonkidaa.P
open Go.RowKit Go.Proofs.Ytfemklaeonkidaa.P Go.Proofs.YtfemklaeonkidaaW.PrintWords Go.Proofs.YtfemklaeonkidaaW.PrintLast Go.Proofs.YtfemklaeonkidaaW.PrintMore Go.Proofs.YtfemklaeonkidaaW.Hand
set_option linter.unusedVariables false
set_option linter.unusedSimpArgs false
theorem ref_One {k : Nat} {fmt : Int} (hk : 64 ≤ k) (hf : fmt = 0 ∨ fmt = 1) : headroomref02_One.f k fmt = some (mag fmt) := by
  unfold headroomref02_One.f headroomref02_Bits.f
  rcases hf with rfl | rfl
  · rw [if_pos rfl, Option.bind_some, ref_Pow hk (by decide), Option.bind_some]
    rfl
  · rw [if_neg (by decide), Option.bind_some, ref_Pow hk (by decide), Option.bind_some]
    rfl
theorem mag_bd {fmt : Int} : 32768 ≤ mag fmt ∧ mag fmt ≤ 2147483648 := by
  unfold mag
  split <;> omega
theorem ref_Format (fmt : Int) : headroomref02_Format.f fmt = some (decide (fmt = 0 ∨ fmt = 1)) := by
  unfold headroomref02_Format.f
  by_cases h : fmt = 0
  · rw [if_pos h, decide_eq_true (.inl h)]
  · rw [if_neg h]
    congr 1
    by_cases h1 : fmt = 1
    · subst h1; rfl
    · rw [decide_eq_false (by omega)]
      simpa using h1
theorem inm_bd {fmt x : Int} (h : inm (mag fmt) x = true) : -2147483648 ≤ x ∧ x ≤ 2147483647 := by
  have := mag_bd (fmt := fmt)
  have := of_decide_eq_true h
  omega
end Go.Proofs.Ytfemklaeonkidaa.P

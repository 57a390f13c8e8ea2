/- CxSums: any numbers' sum and difference, the conjugate and the turned one, are as the document says, or refused; the arguments are ints of 64 bits. -/
import Derived.Test.YtobkjhiicafkbaaPx21
import Derived.Test.YtobkjhiicafkbaaPx22
import Derived.Test.YtobkjhiicafkbaaPx26
import Derived.Test.YtobkjhiicafkbaaPx27
import Derived.Test.YtobkjhiicafkbaaPx28
import Derived.Test.YtobkjhiicafkbaaLMath
import Derived.Test.YtobkjhiicafkbaaLRound
import Derived.Test.YtobkjhiicafkbaaLCx
namespace Go.Proofs.Ytobkjhiicafkbaa.Pure
open Go.RowKit Go.Proofs.Ytobkjhiicafkbaa.P Go.Proofs.YtobkjhiicafkbaaW.PrintWords Go.Proofs.YtobkjhiicafkbaaW.PrintLast Go.Proofs.YtobkjhiicafkbaaW.PrintMore Go.Proofs.YtobkjhiicafkbaaW.Hand
set_option linter.unusedVariables false
set_option linter.unusedSimpArgs false
theorem CxSums : headroomlaw03_CxSums.Pure := by
  intro a b c d n ha hb hc hd hn
  refine ⟨200 + 1, ?_⟩
  unfold headroomlaw03_CxSums.f
  rw [ref_Wide (by omega), ref_Wide (by omega)]
  unfold cx_Sum.f cx_Less.f cx_Conj.f cx_Turn.f
  simp only [Option.bind_some]
  cases h1 : win 2305843009213693952 a b with
  | false =>
    simp only [Bool.false_and, Bool.false_eq_true, if_false, Option.bind_some, headroomlaw03_CxSums.j0, alive3, if_true, headroomref03_Sum.f, headroomref03_Less.f, headroomref03_Conj.f, told_no]
    obtain ⟨v, h2, _⟩ := ref_Turn_some (k := 200) (by omega) a b n
    rw [h2]
    simp only [Option.bind_some, told_no]
  | true =>
    have w1 := win_true h1
    have e1 : wrap64 (-b) = -b := w64 (by omega)
    cases h2 : win 2305843009213693952 c d with
    | false =>
      simp only [Bool.and_false, Bool.false_eq_true, if_false, if_true, Option.bind_some, headroomlaw03_CxSums.j0, alive3, headroomref03_Sum.f, headroomref03_Less.f, headroomref03_Conj.f, told_no, e1, told_yes, ref_Turn (k := 200) (by omega) (a := a) (b := b) n (by omega) (by omega)]
    | true =>
      have w2 := win_true h2
      have e2 : wrap64 (a + c) = a + c := w64 (by omega)
      have e3 : wrap64 (b + d) = b + d := w64 (by omega)
      have e4 : wrap64 (a - c) = a - c := w64 (by omega)
      have e5 : wrap64 (b - d) = b - d := w64 (by omega)
      simp only [Bool.and_true, if_true, Option.bind_some, headroomlaw03_CxSums.j0, alive3, headroomref03_Sum.f, headroomref03_Less.f, headroomref03_Conj.f, e1, e2, e3, e4, e5, told_yes, ref_Turn (k := 200) (by omega) (a := a) (b := b) n (by omega) (by omega)]
end Go.Proofs.Ytobkjhiicafkbaa.Pure

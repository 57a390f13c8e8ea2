/- CxTimes: any numbers' product, and the norm, are as the document says, or refused; the arguments are ints of 64 bits. -/
import Derived.Test.YtobkjhiicafkbaaPx20
import Derived.Test.YtobkjhiicafkbaaPx21
import Derived.Test.YtobkjhiicafkbaaPx29
import Derived.Test.YtobkjhiicafkbaaPx30
import Derived.Test.YtobkjhiicafkbaaLMath
import Derived.Test.YtobkjhiicafkbaaLRound
import Derived.Test.YtobkjhiicafkbaaLCx
namespace Go.Proofs.Ytobkjhiicafkbaa.Pure
open Go.RowKit Go.Proofs.Ytobkjhiicafkbaa.P Go.Proofs.YtobkjhiicafkbaaW.PrintWords Go.Proofs.YtobkjhiicafkbaaW.PrintLast Go.Proofs.YtobkjhiicafkbaaW.PrintMore Go.Proofs.YtobkjhiicafkbaaW.Hand
set_option linter.unusedVariables false
set_option linter.unusedSimpArgs false
theorem CxTimes : headroomlaw03_CxTimes.Pure := by
  intro a b c d ha hb hc hd
  refine ⟨200 + 1, ?_⟩
  unfold headroomlaw03_CxTimes.f
  have p31 : (2 : Int) ^ (31 : Int).toNat = 2147483648 := by decide
  have p30 : (2 : Int) ^ (30 : Int).toNat = 1073741824 := by decide
  have hmay : headroomref03_MayTimes.f (200 + 1) a b c d = some ((win 2147483648 a b && win 1073741824 c d) || (win 1073741824 a b && win 2147483648 c d)) := by
    unfold headroomref03_MayTimes.f
    rw [ref_Pow (by omega) (by decide), ref_Pow (by omega) (by decide), p31, p30]
    simp only [Option.bind_some]
    rw [ref_Within (m := 2147483648) (by decide) (by decide), ref_Within (m := 1073741824) (by decide) (by decide), ref_Within (m := 2147483648) (by decide) (by decide), ref_Within (m := 1073741824) (by decide) (by decide)]
    simp only [Option.bind_some]
    cases win 2147483648 a b <;> cases win 1073741824 c d <;> cases win 1073741824 a b <;> cases win 2147483648 c d <;> rfl
  have hj : headroomlaw03_CxTimes.j0 (200 + 1) ((cx_Norm.f a b).getD (0, 0)).1 ((cx_Norm.f a b).getD (0, 0)).2 (!true) a b = some true := by
    simp only [headroomlaw03_CxTimes.j0, Bool.not_true, Bool.false_eq_true, if_false]
    rw [ref_Pow (by omega) (by decide), p31, Option.bind_some, ref_Within (by decide) (by decide), Option.bind_some]
    unfold cx_Norm.f
    cases h : win 2147483648 a b with
    | true =>
      have w := win_true h
      simp only [if_true, Option.getD_some, headroomref03_Norm.f, Option.bind_some]
      rw [norm_bd w.2.2.1 w.1 w.2.2.2 w.2.1]
      simp
    | false => simp
  have hn : ∃ v, cx_Norm.f a b = some v := by
    unfold cx_Norm.f
    split <;> exact ⟨_, rfl⟩
  obtain ⟨v, hv⟩ := hn
  rw [hv] at hj
  rw [hv, hmay]
  unfold cx_Times.f
  cases h : (win 2147483648 a b && win 1073741824 c d || win 1073741824 a b && win 2147483648 c d) with
  | false =>
    simp only [Bool.false_eq_true, if_false, Option.bind_some, headroomref03_Times.f, told_no, if_true, alive3]
    exact hj
  | true =>
    have e := times_bd (x := a) (y := b) (u := c) (v := d) (by simpa using h)
    simp only [if_true, Option.bind_some, headroomref03_Times.f, e.1, e.2, told_yes, alive3]
    exact hj
end Go.Proofs.Ytobkjhiicafkbaa.Pure

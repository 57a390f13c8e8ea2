/- TwoPairs: the plain law: a pair is as the document says, or refused; the arguments are ints of 64 bits. -/
import Derived.Test.YtfemklaeonkidaaPx11
import Derived.Test.YtfemklaeonkidaaPx33
import Derived.Test.YtfemklaeonkidaaLMath
import Derived.Test.YtfemklaeonkidaaLRound
import Derived.Test.YtfemklaeonkidaaLCx0
import Derived.Test.YtfemklaeonkidaaLTwo
namespace Go.Proofs.Ytfemklaeonkidaa.Pure
open Go.RowKit Go.Proofs.Ytfemklaeonkidaa.P Go.Proofs.YtfemklaeonkidaaW.PrintWords Go.Proofs.YtfemklaeonkidaaW.PrintLast Go.Proofs.YtfemklaeonkidaaW.PrintMore Go.Proofs.YtfemklaeonkidaaW.Hand
set_option linter.unusedVariables false
set_option linter.unusedSimpArgs false
theorem TwoPairs : headroomlaw10_TwoPairs.Pure := by
  intro a0 a1 b0 b1 r0 r1 b s m _ _ _ _ _ _ _ _ _
  have h31 : headroomref01_Pow.f 300 31 = some 2147483648 := by
    rw [ref_Pow (by omega) (by omega)]; rfl
  have hw : ∀ x y, headroomref03_Within.f x y 2147483648 = some (win 2147483648 x y) := fun x y => ref_Within (by omega) (by omega)
  refine ⟨300, ?_⟩
  rw [two_Pair_eq, ref_settings_eq]
  cases hs : setB b s m with
  | false => exact ⟨_, _, _, _, _, two_alive, h31, rfl, .inl ⟨rfl, rfl, rfl, rfl, rfl, rfl⟩⟩
  | true =>
    have hs' := of_decide_eq_true hs
    obtain ⟨z0, z1⟩ := pow29 hs'.1 hs'.2.1
    rw [if_pos rfl, hw, hw]
    unfold pairIn
    cases ha : win 2147483648 a0 a1 with
    | false => exact ⟨_, _, _, _, _, two_alive, h31, rfl, .inr ⟨rfl, .inl ⟨rfl, rfl, rfl, rfl, rfl, rfl⟩⟩⟩
    | true =>
      cases hb : win 2147483648 b0 b1 with
      | false => exact ⟨_, _, _, _, _, two_alive, h31, rfl, .inr ⟨rfl, .inr ⟨rfl, .inl ⟨rfl, rfl, rfl, rfl, rfl, rfl⟩⟩⟩⟩
      | true =>
        have hp : headroomref01_Pow.f 300 b = some (2 ^ b.toNat) := ref_Pow (by omega) (by omega)
        have hwm : headroomref03_Within.f r0 r1 (2 ^ b.toNat) = some (win (2 ^ b.toNat) r0 r1) := ref_Within (by omega) (by omega)
        cases hr : win (2 ^ b.toNat) r0 r1 with
        | false => exact ⟨_, _, _, _, _, two_alive, h31, rfl, .inr ⟨rfl, .inr ⟨rfl, .inr ⟨rfl, _, hp, .inl ⟨by rw [hwm, hr], rfl, rfl, rfl, rfl, rfl⟩⟩⟩⟩⟩
        | true =>
          have hud := ref_UpDown (k := 300) (by omega) hs ha hb hr
          exact ⟨_, _, _, _, _, two_alive, h31, rfl, .inr ⟨rfl, .inr ⟨rfl, .inr ⟨rfl, _, hp, .inr ⟨by rw [hwm, hr], rfl, hud.1, hud.2⟩⟩⟩⟩⟩
end Go.Proofs.Ytfemklaeonkidaa.Pure

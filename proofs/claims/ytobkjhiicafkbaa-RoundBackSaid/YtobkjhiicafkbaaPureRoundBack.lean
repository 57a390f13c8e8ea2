/- RoundBack: what is put up is shifted down again as it was, in each mode, and two shifts down are one; the arguments are ints of 64 bits. -/
import Derived.Test.YtobkjhiicafkbaaPx2
import Derived.Test.YtobkjhiicafkbaaPx4
import Derived.Test.YtobkjhiicafkbaaLMath
import Derived.Test.YtobkjhiicafkbaaLRound
import Derived.Test.YtobkjhiicafkbaaLUp
namespace Go.Proofs.Ytobkjhiicafkbaa.Pure
open Go.RowKit Go.Proofs.Ytobkjhiicafkbaa.P Go.Proofs.YtobkjhiicafkbaaW.PrintWords Go.Proofs.YtobkjhiicafkbaaW.PrintLast Go.Proofs.YtobkjhiicafkbaaW.PrintMore Go.Proofs.YtobkjhiicafkbaaW.Hand
set_option linter.unusedVariables false
set_option linter.unusedSimpArgs false
theorem alive1 : headroomlaw01_alive.f = some true := by decide +kernel
theorem RoundBack : headroomlaw01_RoundBack.Pure := by
  intro x s t m hx hs ht hm
  have hx := wf64 hx
  refine ⟨1 + 1, ?_⟩
  unfold headroomlaw01_RoundBack.f
  rw [round_Up_eq (by omega), Option.bind_some]
  have key : headroomlaw01_RoundBack.j0 (1 + 1) x s t = some true := by
    simp only [headroomlaw01_RoundBack.j0, norm_mod (a := s) (n := 31) (by decide) (by decide), norm_mod (a := t) (n := 31) (by decide) (by decide), alive1, Option.bind_some, if_true]
    have hS : 0 ≤ s % 31 ∧ s % 31 ≤ 30 := by omega
    have hT : 0 ≤ t % 31 ∧ t % 31 ≤ 30 := by omega
    generalize s % 31 = S at *
    generalize t % 31 = U at *
    rw [w64 (a := S + U) (by omega)]
    have e : ∀ z w : Int, 0 ≤ w ∧ w ≤ 62 → round_Shift.f z w 0 = some (z / 2 ^ w.toNat, 0) := by
      intro z w hw
      unfold round_Shift.f
      rw [if_neg (by omega)]
      congr 2
      unfold rshift goesUp
      by_cases h : w = 0
      · subst h; simp
      · rw [if_neg h]; simp
    rw [e x S (by omega), Option.bind_some, e _ U (by omega), Option.bind_some, e x (S + U) (by omega), Option.bind_some]
    simp only [reduceIte]
    rw [Int.ediv_ediv_of_nonneg (by have := pow_bd (n := S.toNat) (by omega); omega), ← Int.pow_add, show (S + U).toNat = S.toNat + U.toNat by omega]
    simp
  unfold upf
  by_cases h1 : s < 0 ∨ 62 < s
  · rw [if_pos h1, if_neg (by decide)]
    exact key
  rw [if_neg h1]
  by_cases h2 : x < -2 ^ (62 - s).toNat ∨ 2 ^ (62 - s).toNat < x
  · rw [if_pos h2, if_neg (by decide)]
    exact key
  rw [if_neg h2, if_pos rfl]
  have e : round_Shift.f (x * 2 ^ s.toNat) s ((wrap64 (m.tmod 3 + 3)).tmod 3) = some (x, 0) := by
    rw [norm_mod (a := m) (n := 3) (by decide) (by decide)]
    unfold round_Shift.f
    rw [if_neg (by omega)]
    congr 2
    unfold rshift
    by_cases h : s = 0
    · subst h; simp
    · have hp := pow_bd (n := s.toNat) (by omega)
      have hp2 := pow_bd (n := s.toNat - 1) (by omega)
      have hz : x * 2 ^ s.toNat % 2 ^ s.toNat = 0 := Int.mul_emod_left _ _
      have hq : x * 2 ^ s.toNat / 2 ^ s.toNat = x := Int.mul_ediv_cancel _ (by omega)
      have hg : goesUp (x * 2 ^ s.toNat) s (m % 3) = false := by
        unfold goesUp
        rw [hz]
        split
        · rfl
        · split
          · exact decide_eq_false (by omega)
          · rw [decide_eq_false (by omega), decide_eq_false (by omega)]; rfl
      rw [if_neg h, hg, if_neg (by decide), hq]
  rw [e, Option.bind_some, if_pos rfl, if_pos rfl]
  exact key
end Go.Proofs.Ytobkjhiicafkbaa.Pure

import Derived.Test.YtfmhdfaelgkmcaaVsD
import Derived.Test.YtfmhdfaelgkmcaaVpS
/- The states do not grow too far: a rotation's square keeps, but for what comes in. No program here. -/
namespace Go.Proofs.YtfmhdfaelgkmcaaV
open Go Go.RowKit
set_option linter.unusedVariables false
set_option linter.unusedSimpArgs false
set_option maxHeartbeats 4000000
theorem mul_self_nn (d : Int) : 0 ≤ d * d := by
  rcases Int.le_total 0 d with h | h
  · exact Int.mul_nonneg h h
  · exact Int.mul_nonneg_of_nonpos_of_nonpos h h
theorem mul_self_lt {b d : Int} (hb : 0 ≤ b) (h : b < d) : b * b < d * d := by
  have h1 : b * b ≤ b * d := Int.mul_le_mul_of_nonneg_left (by omega) hb
  have h2 : b * d < d * d := Int.mul_lt_mul_of_pos_right h (by omega)
  omega
theorem sq_le {d b : Int} (h : d * d ≤ b * b) (hb : 0 ≤ b) : -b ≤ d ∧ d ≤ b := by
  constructor
  · rcases Int.lt_or_le d (-b) with g | g
    · have h1 : b * b < (-d) * (-d) := mul_self_lt hb (by omega)
      rw [Int.neg_mul_neg] at h1
      omega
    · exact g
  · rcases Int.lt_or_le b d with g | g
    · have h1 : b * b < d * d := mul_self_lt hb g
      omega
    · exact g
/-- The states, exactly. -/
def sE (zs : List Int) (c : Int) : Nat → Int × Int
  | 0 => (0, 0)
  | j + 1 => (zs.getD j 0 + rsh (2 * c * (sE zs c j).1) 13 1 - (sE zs c j).2, (sE zs c j).1)
abbrev qS : Int := 17592186052608
theorem en_step {c s o x r C Q j : Int} (hC : 0 < C) (hc : -C ≤ c ∧ c ≤ C) (hp : -Q ≤ C * x + (C * r - 2 * c * s) ∧ C * x + (C * r - 2 * c * s) ≤ Q) (hQ : 0 ≤ Q) (hj : 0 ≤ j) (hE : (C * s - c * o) * (C * s - c * o) + (C * C - c * c) * (o * o) ≤ (j * Q) * (j * Q)) :
    (C * (x + r - o) - c * s) * (C * (x + r - o) - c * s) + (C * C - c * c) * (s * s) ≤ ((j + 1) * Q) * ((j + 1) * Q) ∧ -((j + 1) * Q) ≤ C * (x + r - o) - c * s ∧ C * (x + r - o) - c * s ≤ (j + 1) * Q := by
  generalize hpd : C * x + (C * r - 2 * c * s) = p at *
  have hcc : 0 ≤ C * C - c * c := by
    have : 0 ≤ (C - c) * (C + c) := Int.mul_nonneg (by omega) (by omega)
    grind
  have e1 : (c * s - C * o) * (c * s - C * o) + (C * C - c * c) * (s * s) = (C * s - c * o) * (C * s - c * o) + (C * C - c * c) * (o * o) := by grind
  have e2 : C * (x + r - o) - c * s = (c * s - C * o) + p := by grind
  have hs0 : 0 ≤ (C * C - c * c) * (s * s) := Int.mul_nonneg hcc (mul_self_nn s)
  have hjQ : 0 ≤ j * Q := Int.mul_nonneg hj hQ
  have hd : -(j * Q) ≤ c * s - C * o ∧ c * s - C * o ≤ j * Q := sq_le (by omega) hjQ
  generalize hdd : c * s - C * o = d at *
  have hpd2 : 2 * (p * d) + p * p ≤ 2 * (Q * (j * Q)) + Q * Q := by
    have a1 : p * d ≤ Q * (j * Q) := by
      have b1 : 0 ≤ (Q - p) * (j * Q + d) := Int.mul_nonneg (by omega) (by omega)
      have b2 : 0 ≤ (Q + p) * (j * Q - d) := Int.mul_nonneg (by omega) (by omega)
      grind
    have a2 : p * p ≤ Q * Q := by
      have b1 : 0 ≤ (Q - p) * (Q + p) := Int.mul_nonneg (by omega) (by omega)
      grind
    omega
  have key : (C * (x + r - o) - c * s) * (C * (x + r - o) - c * s) + (C * C - c * c) * (s * s) ≤ ((j + 1) * Q) * ((j + 1) * Q) := by
    rw [e2]
    grind
  refine ⟨key, ?_⟩
  have hj1 : 0 ≤ (j + 1) * Q := Int.mul_nonneg (by omega) hQ
  exact sq_le (by omega) hj1
end Go.Proofs.YtfmhdfaelgkmcaaV

import Derived.Test.YtnnjjblgilibgaaVpA
/- Plain mathematics: what is rounded lies near. -/
namespace Go.Proofs.YtnnjjblgilibgaaV
open Go Go.RowKit
set_option linter.unusedVariables false
set_option linter.unusedSimpArgs false
/-- What is rounded is not so far as a whole one. -/
theorem rsh_near' (x s how : Int) : -(2 ^ s.toNat) < rsh x s how * 2 ^ s.toNat - x ∧ rsh x s how * 2 ^ s.toNat - x < 2 ^ s.toNat ∨ s = 0 := by
  by_cases h0 : s = 0
  · exact .inr h0
  left
  have hp := pow_pos s.toNat
  have hd := Int.emod_add_mul_ediv x (2 ^ s.toNat)
  have hr0 := Int.emod_nonneg x (Int.ne_of_gt hp)
  have hr1 := Int.emod_lt_of_pos x hp
  rw [Int.mul_comm] at hd
  unfold rsh
  rw [if_neg h0]
  split
  · rename_i hup
    have hne : x % 2 ^ s.toNat ≠ 0 := by
      intro he
      unfold goesUp at hup
      have hp1 := pow_pos (s.toNat - 1)
      rw [he] at hup
      split at hup
      · cases hup
      · split at hup
        · simp at hup; omega
        · simp at hup; omega
    rw [Int.add_mul]
    omega
  · omega
/-- Between whole ones. -/
theorem rsh_btw {x s how a b : Int} (h1 : a * 2 ^ s.toNat ≤ x) (h2 : x ≤ b * 2 ^ s.toNat) : a ≤ rsh x s how ∧ rsh x s how ≤ b := by
  have hp := pow_pos s.toNat
  rcases rsh_near' x s how with h | rfl
  · constructor
    · have : a * 2 ^ s.toNat < (rsh x s how + 1) * 2 ^ s.toNat := by rw [Int.add_mul]; omega
      have := Int.lt_of_mul_lt_mul_right this (Int.le_of_lt hp)
      omega
    · have : rsh x s how * 2 ^ s.toNat < (b + 1) * 2 ^ s.toNat := by rw [Int.add_mul]; omega
      have := Int.lt_of_mul_lt_mul_right this (Int.le_of_lt hp)
      omega
  · rw [rsh_z]
    simp at h1 h2
    omega
end Go.Proofs.YtnnjjblgilibgaaV

/- What Up and Div answer, in closed form; numbers are of their kind. -/
import Derived.Test.YtobkjhiicafkbaaPx3
import Derived.Test.YtobkjhiicafkbaaPx8
import Derived.Test.YtobkjhiicafkbaaPx9
import Derived.Test.YtobkjhiicafkbaaLMath
import Derived.Test.YtobkjhiicafkbaaLRound
namespace Go.Proofs.Ytobkjhiicafkbaa.P
open Go.RowKit Go.Proofs.Ytobkjhiicafkbaa.P Go.Proofs.YtobkjhiicafkbaaW.PrintWords Go.Proofs.YtobkjhiicafkbaaW.PrintLast Go.Proofs.YtobkjhiicafkbaaW.PrintMore Go.Proofs.YtobkjhiicafkbaaW.Hand
set_option linter.unusedVariables false
set_option linter.unusedSimpArgs false
def upf (x s : Int) : Int × Int := if s < 0 ∨ 62 < s then (0, 1) else if x < -2 ^ (62 - s).toNat ∨ 2 ^ (62 - s).toNat < x then (0, 2) else (x * 2 ^ s.toNat, 0)
theorem up_bound {x s : Int} (h1 : 0 ≤ s) (h2 : s ≤ 62) (h3 : -2 ^ (62 - s).toNat ≤ x) (h4 : x ≤ 2 ^ (62 - s).toNat) : -4611686018427387904 ≤ x * 2 ^ s.toNat ∧ x * 2 ^ s.toNat ≤ 4611686018427387904 := by
  have hp := pow_bd (n := s.toNat) (by omega)
  have e : (2 : Int) ^ (62 - s).toNat * 2 ^ s.toNat = 4611686018427387904 := by
    rw [← Int.pow_add, show (62 - s).toNat + s.toNat = 62 by omega]
    rfl
  have a := Int.mul_le_mul_of_nonneg_right h4 (show 0 ≤ (2 : Int) ^ s.toNat by omega)
  have b := Int.mul_le_mul_of_nonneg_right h3 (show 0 ≤ (2 : Int) ^ s.toNat by omega)
  rw [Int.neg_mul] at b
  omega
theorem round_Up_eq {k : Nat} (hk : 1 ≤ k) (x s : Int) : round_Up.f k x s = some (upf x s) := by
  obtain ⟨k, rfl⟩ : ∃ n, k = n + 1 := ⟨k - 1, by omega⟩
  unfold round_Up.f upf
  by_cases h1 : s < 0
  · rw [if_pos h1, if_pos (.inl h1)]
    simp [round_Up.j0]
  rw [if_neg h1]
  by_cases h2 : s > 62
  · rw [decide_eq_true h2, if_pos (.inr h2)]
    simp [round_Up.j0]
  rw [decide_eq_false h2, if_neg (by omega)]
  simp only [round_Up.j0, Bool.false_eq_true, if_false]
  have hp := pow_bd (n := (62 - s).toNat) (by omega)
  have e1 : shl .i64 1 (62 - s) = 2 ^ (62 - s).toNat := by rw [shl64 (by omega), Int.one_mul, w64 (by omega)]
  rw [w64 (a := 62 - s) (by omega), if_pos (by omega), e1, w64 (a := -2 ^ (62 - s).toNat) (by omega)]
  by_cases h3 : x < -2 ^ (62 - s).toNat
  · rw [if_pos h3, if_pos (.inl h3)]
  rw [if_neg h3]
  by_cases h4 : x > 2 ^ (62 - s).toNat
  · rw [if_pos h4, if_pos (.inr h4)]
  rw [if_neg h4, if_pos (by omega), if_neg (by omega)]
  have := up_bound (x := x) (s := s) (by omega) (by omega) (by omega) (by omega)
  rw [shl64 (by omega), w64 (by omega)]
theorem neg_div {x d : Int} (hx : x < 0) (hd : 1 ≤ d) : x / d = if (-x) % d = 0 then -((-x) / d) else -((-x) / d) - 1 := by
  have h1 := Int.mul_ediv_add_emod (-x) d
  have h2 := Int.emod_nonneg (-x) (b := d) (by omega)
  have h3 := Int.emod_lt_of_pos (-x) (b := d) (by omega)
  generalize hq : (-x) / d = q at *
  generalize hr : (-x) % d = r at *
  split
  · exact ((Int.ediv_emod_unique (a := x) (b := d) (r := 0) (q := -q) (by omega)).2 ⟨by rw [Int.mul_neg]; omega, by omega, by omega⟩).1
  · exact ((Int.ediv_emod_unique (a := x) (b := d) (r := d - r) (q := -q - 1) (by omega)).2 ⟨by rw [Int.mul_sub, Int.mul_neg]; omega, by omega, by omega⟩).1
theorem div_range {x d : Int} (hx : -9223372036854775808 ≤ x ∧ x ≤ 9223372036854775807) (hd : 1 ≤ d) : -9223372036854775808 ≤ x / d ∧ x / d ≤ 9223372036854775807 ∧ (x < 0 → 0 ≤ (-x) / d ∧ (-x) / d ≤ -x) := by
  refine ⟨?_, ?_, fun h => ⟨Int.ediv_nonneg (by omega) (by omega), Int.ediv_le_self _ (by omega)⟩⟩
  · refine Int.le_ediv_of_mul_le (by omega) ?_
    omega
  · have h1 := Int.ediv_le_ediv (c := d) (by omega) hx.2
    have h2 : (9223372036854775807 : Int) / d ≤ 9223372036854775807 := Int.ediv_le_self _ (by decide)
    omega
theorem round_Div_eq {x d : Int} (hx : -9223372036854775808 ≤ x ∧ x ≤ 9223372036854775807) : round_Div.f x d = some (if d < 1 then (0, 1) else (x / d, 0)) := by
  unfold round_Div.f
  by_cases h1 : d < 1
  · rw [if_pos h1, if_pos h1]
  rw [if_neg h1, if_neg h1, if_neg (by omega)]
  obtain ⟨r1, r2, r3⟩ := div_range (x := x) (d := d) hx (by omega)
  rw [tmod_if, tdiv_if]
  by_cases h2 : 0 ≤ x
  · have := Int.emod_nonneg x (b := d) (by omega)
    rw [if_pos h2, if_pos h2, if_neg (by omega), w64 (by omega)]
  · have h3 := Int.emod_nonneg (-x) (b := d) (by omega)
    have h4 := neg_div (x := x) (d := d) (by omega) (by omega)
    have h5 := r3 (by omega)
    rw [if_neg h2, if_neg h2]
    by_cases h6 : (-x) % d = 0
    · rw [if_pos h6] at h4
      rw [h6, if_neg (by omega), w64 (by omega), h4]
    · rw [if_neg h6] at h4
      rw [if_pos (by omega), w64 (a := -(-x / d)) (by omega), w64 (by omega), h4]
theorem ref_Div_eq {x d : Int} (hx : -9223372036854775808 ≤ x ∧ x ≤ 9223372036854775807) (hd : 1 ≤ d) : headroomref01_Div.f x d = some (x / d) := by
  unfold headroomref01_Div.f
  rw [if_neg (by omega)]
  obtain ⟨r1, r2, r3⟩ := div_range (x := x) (d := d) hx (by omega)
  rw [tdiv_if]
  by_cases h2 : 0 ≤ x
  · rw [if_neg (by omega), if_pos h2, w64 (by omega)]
  · have h4 := neg_div (x := x) (d := d) (by omega) (by omega)
    have h5 := r3 (by omega)
    have h1 := Int.mul_ediv_add_emod (-x) d
    have h3 := Int.emod_nonneg (-x) (b := d) (by omega)
    have h7 := Int.emod_lt_of_pos (-x) (b := d) (by omega)
    have h8 : 0 ≤ d * (-x / d) := Int.mul_nonneg (by omega) h5.1
    have e : -(-x / d) * d = -(d * (-x / d)) := by rw [Int.neg_mul, Int.mul_comm]
    rw [if_pos (by omega), if_neg h2, w64 (a := -(-x / d)) (by omega), e, w64 (a := -(d * (-x / d))) (by omega)]
    by_cases h6 : (-x) % d = 0
    · rw [if_pos h6] at h4
      rw [if_pos (by omega), h4]
    · rw [if_neg h6] at h4
      rw [if_neg (by omega), w64 (by omega), h4]
end Go.Proofs.Ytobkjhiicafkbaa.P

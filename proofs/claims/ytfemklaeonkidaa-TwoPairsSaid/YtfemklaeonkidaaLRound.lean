/- What the document's functions of layer 1 answer, in closed form; numbers are of their kind. -/
import Derived.Test.YtfemklaeonkidaaPx11
import Derived.Test.YtfemklaeonkidaaPx18
import Derived.Test.YtfemklaeonkidaaPx19
import Derived.Test.YtfemklaeonkidaaLMath
namespace Go.Proofs.Ytfemklaeonkidaa.P
open Go.RowKit Go.Proofs.Ytfemklaeonkidaa.P Go.Proofs.YtfemklaeonkidaaW.PrintWords Go.Proofs.YtfemklaeonkidaaW.PrintLast Go.Proofs.YtfemklaeonkidaaW.PrintMore Go.Proofs.YtfemklaeonkidaaW.Hand
set_option linter.unusedVariables false
set_option linter.unusedSimpArgs false
theorem ref_half (x : Int) (hx : -9223372036854775808 ≤ x ∧ x ≤ 9223372036854775807) : headroomref01_half.f x = some (x / 2) := by
  unfold headroomref01_half.f
  rw [tmod_if, tdiv_if]
  by_cases h0 : 0 ≤ x
  · rw [if_pos h0, if_pos h0, w64 (by omega)]
    by_cases h1 : x % 2 = 0
    · rw [if_pos h1]
    · rw [if_neg h1, if_pos (by omega)]
  · rw [if_neg h0, if_neg h0, w64 (by omega)]
    by_cases h1 : -(-x % 2) = 0
    · rw [if_pos h1]
      congr 1
      omega
    · rw [if_neg h1, if_neg (by omega), w64 (by omega)]
      congr 1
      omega
theorem ref_Pow_l (s : Int) (hs : s ≤ 62) (d : Nat) : ∀ (k : Nat) (i : Nat), (i : Int) + d = s → d < k → headroomref01_Pow.l0 k s (2 ^ i) i = some (2 ^ s.toNat) := by
  induction d with
  | zero =>
    intro k i hi hk
    obtain ⟨k, rfl⟩ : ∃ n, k = n + 1 := ⟨k - 1, by omega⟩
    simp only [headroomref01_Pow.l0]
    rw [if_neg (by omega)]
    have : i = s.toNat := by omega
    rw [this]
  | succ d ih =>
    intro k i hi hk
    obtain ⟨k, rfl⟩ : ∃ n, k = n + 1 := ⟨k - 1, by omega⟩
    simp only [headroomref01_Pow.l0]
    rw [if_pos (by omega)]
    have h := pow_bd (n := i + 1) (by omega)
    have e : wrap64 (2 * 2 ^ i) = 2 ^ (i + 1) := by rw [Int.pow_succ, Int.mul_comm] at *; exact w64 (by omega)
    have e2 : wrap64 ((i : Int) + 1) = ((i + 1 : Nat) : Int) := by rw [w64 (by omega)]; rfl
    rw [e, e2]
    exact ih k (i + 1) (by omega) (by omega)
theorem ref_Pow {k : Nat} {s : Int} (hk : 64 ≤ k) (hs : s ≤ 62) : headroomref01_Pow.f k s = some (2 ^ s.toNat) := by
  unfold headroomref01_Pow.f
  by_cases h0 : 0 ≤ s
  · exact ref_Pow_l s hs s.toNat k 0 (by omega) (by omega)
  · obtain ⟨k, rfl⟩ : ∃ n, k = n + 1 := ⟨k - 1, by omega⟩
    simp only [headroomref01_Pow.l0]
    rw [if_neg (by omega)]
    have : s.toNat = 0 := by omega
    rw [this]
    rfl
theorem ref_Floor_l (x s : Int) (hx : -9223372036854775808 ≤ x ∧ x ≤ 9223372036854775807) (hs : s ≤ 100) (d : Nat) : ∀ (k : Nat) (i : Nat), (i : Int) + d = s → d < k → headroomref01_Floor.l0 k (x / 2 ^ i) s i = some (x / 2 ^ s.toNat) := by
  induction d with
  | zero =>
    intro k i hi hk
    obtain ⟨k, rfl⟩ : ∃ n, k = n + 1 := ⟨k - 1, by omega⟩
    simp only [headroomref01_Floor.l0]
    rw [if_neg (by omega)]
    have : i = s.toNat := by omega
    rw [this]
  | succ d ih =>
    intro k i hi hk
    obtain ⟨k, rfl⟩ : ∃ n, k = n + 1 := ⟨k - 1, by omega⟩
    simp only [headroomref01_Floor.l0]
    rw [if_pos (by omega), ref_half _ (ediv_range hx i), Option.bind_some]
    have e : x / 2 ^ i / 2 = x / 2 ^ (i + 1) := by rw [Int.pow_succ, Int.ediv_ediv_of_nonneg (by have := Go.Proofs.YtfemklaeonkidaaW.Hand.pow_pos i; omega)]
    have e2 : wrap64 ((i : Int) + 1) = ((i + 1 : Nat) : Int) := by rw [w64 (by omega)]; rfl
    rw [e, e2]
    exact ih k (i + 1) (by omega) (by omega)
theorem ref_Floor {k : Nat} {x s : Int} (hk : 101 ≤ k) (hx : -9223372036854775808 ≤ x ∧ x ≤ 9223372036854775807) (hs : s ≤ 100) : headroomref01_Floor.f k x s = some (x / 2 ^ s.toNat) := by
  unfold headroomref01_Floor.f
  by_cases h0 : 0 ≤ s
  · have := ref_Floor_l x s hx hs s.toNat k 0 (by omega) (by omega)
    simpa using this
  · obtain ⟨k, rfl⟩ : ∃ n, k = n + 1 := ⟨k - 1, by omega⟩
    simp only [headroomref01_Floor.l0]
    rw [if_neg (by omega)]
    have : s.toNat = 0 := by omega
    rw [this]
    simp
theorem ref_Shift {k : Nat} {x s m : Int} (hk : 110 ≤ k) (hx : -9223372036854775808 ≤ x ∧ x ≤ 9223372036854775807) (hs0 : 0 ≤ s) (hs : s ≤ 62) (hm : m = 0 ∨ m = 1 ∨ m = 2) : headroomref01_Shift.f k x s m = some (rshift x s m) := by
  unfold headroomref01_Shift.f
  rw [ref_Floor (by omega) hx (by omega), Option.bind_some]
  obtain ⟨k, rfl⟩ : ∃ n, k = n + 1 := ⟨k - 1, by omega⟩
  unfold rshift
  by_cases h0 : s = 0
  · subst h0
    rw [if_pos rfl, if_pos rfl]
    simp [headroomref01_Shift.j0]
  rw [if_neg h0, if_neg h0]
  simp only [headroomref01_Shift.j0]
  by_cases hm0 : m = 0
  · subst hm0
    simp [goesUp]
  have hm0' : (m == 0) = false := by simpa using hm0
  rw [hm0', if_neg (by decide), ref_Pow (by omega) hs, Option.bind_some]
  have e1 : wrap64 (s - 1) = s - 1 := w64 (by omega)
  rw [e1, ref_Pow (by omega) (by omega), Option.bind_some]
  have h1 : (s - 1).toNat = s.toNat - 1 := by omega
  rw [h1]
  have hp := pow_bd (n := s.toNat) (by omega)
  have hb := Int.emod_nonneg x (b := 2 ^ s.toNat) (by omega)
  have hb2 := Int.emod_lt_of_pos x (b := 2 ^ s.toNat) (by omega)
  have hd := Int.mul_ediv_add_emod x (2 ^ s.toNat)
  have e2 : wrap64 (x / 2 ^ s.toNat * 2 ^ s.toNat) = x - x % 2 ^ s.toNat ∨ x - x % 2 ^ s.toNat < -9223372036854775808 := by
    rw [Int.mul_comm]
    by_cases h : -9223372036854775808 ≤ x - x % 2 ^ s.toNat
    · left
      rw [w64 (by omega)]
      omega
    · right
      omega
  have e3 : wrap64 (x - wrap64 (x / 2 ^ s.toNat * 2 ^ s.toNat)) = x % 2 ^ s.toNat := by
    rcases e2 with e2 | e2
    · rw [e2, w64 (by omega)]
      omega
    · exfalso
      have h2 : (2 : Int) ^ 63 = 9223372036854775808 := by decide
      have h3 := pow_split (m := s.toNat) (n := 63) (by omega)
      rw [h2] at h3
      have h4 : x / 2 ^ s.toNat < -(2 ^ (63 - s.toNat)) := by
        refine Int.lt_of_mul_lt_mul_left (a := 2 ^ s.toNat) ?_ (by omega)
        rw [Int.mul_neg, ← h3]
        omega
      have h5 : -(2 ^ (63 - s.toNat)) ≤ x / 2 ^ s.toNat := by
        refine Int.le_ediv_of_mul_le (by omega) ?_
        rw [Int.neg_mul, Int.mul_comm, ← h3]
        omega
      omega
  rw [e3]
  unfold goesUp
  rw [if_neg hm0]
  generalize hl : x % 2 ^ s.toNat = left at *
  generalize hh : (2 : Int) ^ (s.toNat - 1) = half at *
  generalize hq : x / 2 ^ s.toNat = q at *
  rcases hm with hm | rfl | rfl
  · exact absurd hm hm0
  · simp only [reduceIte, decide_eq_true_eq]
    split <;> (try split) <;> (try split) <;> first | rfl | omega
  · have ho : (Int.tmod q 2 != 0) = (q % 2 == 1) := by
      rw [tmod_if]
      have h5 : q % 2 = 1 ∨ q % 2 = 0 := by omega
      split <;> rcases h5 with h5 | h5
      · rw [h5]; rfl
      · rw [h5]; rfl
      · have : (-q) % 2 = 1 := by omega
        rw [h5, this]; rfl
      · have : (-q) % 2 = 0 := by omega
        rw [h5, this]; rfl
    simp only [headroomref01_odd.f, Option.bind_some, ho, Int.reduceEq, if_false, Bool.or_eq_true, Bool.and_eq_true, decide_eq_true_eq, beq_iff_eq, gt_iff_lt]
    by_cases h2 : half < left
    · rw [if_pos h2, if_pos (Or.inl h2)]
    · rw [if_neg h2]
      by_cases h3 : left = half
      · rw [if_pos h3]
        by_cases h4 : q % 2 = 1
        · rw [if_pos h4, if_pos (Or.inr ⟨h3, h4⟩)]
        · rw [if_neg h4, if_neg (by omega)]
      · rw [if_neg h3, if_neg (by omega)]
end Go.Proofs.Ytfemklaeonkidaa.P

/- RoundNear: what is rounded is less than 1 away, by the nearest modes not more than a half, and a greater number is not rounded to a less one; the arguments are ints of 64 bits. -/
import Derived.Test.YtobkjhiicafkbaaPx2
import Derived.Test.YtobkjhiicafkbaaPx5
import Derived.Test.YtobkjhiicafkbaaLMath
import Derived.Test.YtobkjhiicafkbaaLRound
namespace Go.Proofs.Ytobkjhiicafkbaa.Pure
open Go.RowKit Go.Proofs.Ytobkjhiicafkbaa.P Go.Proofs.YtobkjhiicafkbaaW.PrintWords Go.Proofs.YtobkjhiicafkbaaW.PrintLast Go.Proofs.YtobkjhiicafkbaaW.PrintMore Go.Proofs.YtobkjhiicafkbaaW.Hand
set_option linter.unusedVariables false
set_option linter.unusedSimpArgs false
theorem alive1 : headroomlaw01_alive.f = some true := by decide +kernel
/-- What a shift is, by its quotient and what is left. -/
theorem rshift_near (x s m : Int) (hx : -2305843009213693952 ≤ x ∧ x ≤ 2305843009213693951) (hs : 0 ≤ s) (hs2 : s ≤ 30) (hm : m = 0 ∨ m = 1 ∨ m = 2) :
    ∃ q left p : Int, x = p * q + left ∧ 0 ≤ left ∧ left < p ∧ p = 2 ^ s.toNat ∧ 1 ≤ p ∧ p ≤ 1073741824 ∧ q = x / p ∧ left = x % p ∧ -2305843009213693952 ≤ q ∧ q ≤ 2305843009213693951 ∧
      (rshift x s m = q ∧ (m = 0 ∨ 2 * left ≤ p) ∨ rshift x s m = q + 1 ∧ m ≠ 0 ∧ p ≤ 2 * left) := by
  have hp := pow_bd (n := s.toNat) (by omega)
  have hp2 : (2 : Int) ^ s.toNat ≤ 2 ^ 30 := pow_le (by omega)
  have hp3 : (2 : Int) ^ 30 = 1073741824 := by decide
  have h1 := Int.mul_ediv_add_emod x (2 ^ s.toNat)
  have h2 := Int.emod_nonneg x (b := 2 ^ s.toNat) (by omega)
  have h3 := Int.emod_lt_of_pos x (b := 2 ^ s.toNat) (by omega)
  have hq1 : -2305843009213693952 ≤ x / 2 ^ s.toNat := by
    refine Int.le_ediv_of_mul_le (by omega) ?_
    omega
  have hq2 : x / 2 ^ s.toNat ≤ 2305843009213693951 := by
    have := Int.ediv_le_ediv (c := 2 ^ s.toNat) (by omega) hx.2
    have h4 : (2305843009213693951 : Int) / 2 ^ s.toNat ≤ 2305843009213693951 := Int.ediv_le_self _ (by decide)
    omega
  refine ⟨x / 2 ^ s.toNat, x % 2 ^ s.toNat, 2 ^ s.toNat, by omega, h2, h3, rfl, by omega, by omega, rfl, rfl, hq1, hq2, ?_⟩
  rw [rshift_eq (by omega) hs]
  by_cases h0 : s = 0
  · subst h0
    left
    rw [if_pos rfl]
    refine ⟨by simp, ?_⟩
    right
    simp at h3 ⊢ <;> omega
  · rw [if_neg h0]
    have hh : (2 : Int) ^ s.toNat = 2 * 2 ^ (s.toNat - 1) := by
      have := pow_split (m := 1) (n := s.toNat) (by omega)
      simpa using this
    unfold goesUp
    generalize x / 2 ^ s.toNat = q at *
    generalize x % 2 ^ s.toNat = left at *
    generalize (2 : Int) ^ s.toNat = p at *
    generalize (2 : Int) ^ (s.toNat - 1) = half at *
    rcases hm with rfl | rfl | rfl
    · left
      simp
    · simp only [Int.reduceEq, reduceIte, decide_eq_true_eq]
      by_cases h : half ≤ left
      · right
        rw [if_pos h]
        exact ⟨rfl, by decide, by omega⟩
      · left
        rw [if_neg h]
        exact ⟨rfl, by omega⟩
    · simp only [Int.reduceEq, reduceIte, Bool.or_eq_true, Bool.and_eq_true, decide_eq_true_eq, beq_iff_eq]
      by_cases h : half < left ∨ left = half ∧ q % 2 = 1
      · right
        rw [if_pos h]
        exact ⟨rfl, by decide, by omega⟩
      · left
        rw [if_neg h]
        exact ⟨rfl, by omega⟩
theorem rshift_mono {x y s m : Int} (hx : -2305843009213693952 ≤ x ∧ x ≤ 2305843009213693951) (hy : -2305843009213693952 ≤ y ∧ y ≤ 2305843009213693951) (hs : 0 ≤ s) (hs2 : s ≤ 30) (hm : m = 0 ∨ m = 1 ∨ m = 2) (h : x ≤ y) : rshift x s m ≤ rshift y s m := by
  obtain ⟨q, l, p, e1, e2, e3, e4, e5, e6, e7, e8, _, _, e9⟩ := rshift_near x s m hx hs hs2 hm
  obtain ⟨q', l', p', f1, f2, f3, f4, f5, f6, f7, f8, _, _, f9⟩ := rshift_near y s m hy hs hs2 hm
  obtain rfl : p = p' := by rw [e4, f4]
  have hq : q ≤ q' := by rw [e7, f7]; exact Int.ediv_le_ediv (by omega) h
  by_cases hqq : q = q'
  · subst hqq
    rcases e9 with ⟨e9, e10⟩ | ⟨e9, e10, e11⟩
    · rcases f9 with ⟨f9, f10⟩ | ⟨f9, f10, f11⟩ <;> omega
    · rcases f9 with ⟨f9, f10⟩ | ⟨f9, f10, f11⟩
      · have h1 : l ≤ l' := by omega
        have h2 : 2 * l = p ∧ 2 * l' = p := by omega
        have h3 : x = y := by omega
        rw [h3]
        exact Int.le_refl _
      · omega
  · rcases e9 with ⟨e9, _⟩ | ⟨e9, _⟩ <;> rcases f9 with ⟨f9, _⟩ | ⟨f9, _⟩ <;> omega
theorem RoundNear : headroomlaw01_RoundNear.Pure := by
  intro x y s m hx hy hs hm
  have hx := wf64 hx
  have hy := wf64 hy
  refine ⟨1 + 1, ?_⟩
  unfold headroomlaw01_RoundNear.f
  rw [norm_mod (a := s) (n := 31) (by decide) (by decide), norm_mod (a := m) (n := 3) (by decide) (by decide)]
  have hS : 0 ≤ s % 31 ∧ s % 31 ≤ 30 := by omega
  have hM : m % 3 = 0 ∨ m % 3 = 1 ∨ m % 3 = 2 := by omega
  have hX : -2305843009213693952 ≤ x / 4 ∧ x / 4 ≤ 2305843009213693951 := by omega
  have hY : -2305843009213693952 ≤ y / 4 ∧ y / 4 ≤ 2305843009213693951 := by omega
  clear hx hy hs hm
  generalize s % 31 = S at *
  generalize m % 3 = M at *
  generalize x / 4 = X at *
  generalize y / 4 = Y at *
  have e1 : round_Shift.f X S M = some (rshift X S M, 0) := if_neg (by omega)
  have e2 : round_Shift.f Y S M = some (rshift Y S M, 0) := if_neg (by omega)
  have m1 : X ≤ Y → rshift X S M ≤ rshift Y S M := rshift_mono hX hY hS.1 hS.2 hM
  have m2 : Y ≤ X → rshift Y S M ≤ rshift X S M := rshift_mono hY hX hS.1 hS.2 hM
  have key : headroomlaw01_RoundNear.j0 (1 + 1) X S M (rshift X S M) false = some true := by
    obtain ⟨q, l, p, g1, g2, g3, g4, g5, g6, g7, g8, g10, g11, g9⟩ := rshift_near X S M hX hS.1 hS.2 hM
    simp only [headroomlaw01_RoundNear.j0, Bool.false_eq_true, if_false]
    have hsh : shl .i64 1 S = p := by
      rw [shl64 (by omega), Int.one_mul, ← g4, w64 (by omega)]
    rw [if_pos hS.1, hsh]
    have hbig : ∀ z : Int, -4000000000000000000 ≤ z → z ≤ 4000000000000000000 → wrap64 z = z := fun z h1 h2 => w64 (by omega)
    have hpq : p * (q + 1) = p * q + p := by rw [Int.mul_add, Int.mul_one]
    rcases g9 with ⟨g9, g12⟩ | ⟨g9, g12, g13⟩
    · rw [g9, Int.mul_comm q p, hbig (p * q) (by omega) (by omega), hbig (X - p * q) (by omega) (by omega), if_neg (by omega), if_pos (by omega)]
      by_cases hm0 : M = 0
      · rw [if_pos hm0]
      · rw [if_neg hm0, hbig (2 * (X - p * q)) (by omega) (by omega), decide_eq_true (by omega)]
    · rw [g9, Int.mul_comm (q + 1) p, hpq, hbig (p * q + p) (by omega) (by omega), hbig (X - (p * q + p)) (by omega) (by omega), if_pos (by omega), hbig (-(X - (p * q + p))) (by omega) (by omega), if_pos (by omega), if_neg g12, hbig (2 * -(X - (p * q + p))) (by omega) (by omega), decide_eq_true (by omega)]
  rw [e1, e2]
  simp only [Option.bind_some, if_true, alive1, Bool.not_true]
  by_cases h1 : X ≤ Y
  · rw [if_pos h1, if_neg (by have := m1 h1; omega)]
    by_cases h2 : Y ≤ X
    · rw [if_pos h2, if_neg (by have := m2 h2; omega)]
      exact key
    · rw [if_neg h2]
      exact key
  · rw [if_neg h1, if_pos (by omega), if_neg (by have := m2 (by omega); omega)]
    exact key
end Go.Proofs.Ytobkjhiicafkbaa.Pure

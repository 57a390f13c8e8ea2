/- Plain lemmas on whole numbers: Go's division and remainder, powers of 2, wraps; no condition. -/
import Derived.Test.YtfemklaeonkidaaPx7
import Derived.Test.YtfemklaeonkidaaWMore
import Derived.Test.YtfemklaeonkidaaMHand
namespace Go.Proofs.Ytfemklaeonkidaa.P
open Go.RowKit Go.Proofs.Ytfemklaeonkidaa.P Go.Proofs.YtfemklaeonkidaaW.PrintWords Go.Proofs.YtfemklaeonkidaaW.PrintLast Go.Proofs.YtfemklaeonkidaaW.PrintMore Go.Proofs.YtfemklaeonkidaaW.Hand
set_option linter.unusedVariables false
set_option linter.unusedSimpArgs false
theorem tdiv_if (a b : Int) : a.tdiv b = if 0 ≤ a then a / b else -((-a) / b) := by
  split
  · exact Int.tdiv_eq_ediv_of_nonneg ‹_›
  · have := Int.neg_tdiv (-a) b
    rw [Int.neg_neg] at this
    rw [this, Int.tdiv_eq_ediv_of_nonneg (by omega)]
theorem tmod_if (a b : Int) : a.tmod b = if 0 ≤ a then a % b else -((-a) % b) := by
  split
  · exact Int.tmod_eq_emod_of_nonneg ‹_›
  · have := Int.neg_tmod (-a) b
    rw [Int.neg_neg] at this
    rw [this, Int.tmod_eq_emod_of_nonneg (by omega)]
theorem wf64 {a : Int} (h : (Lit.int .i64 a).wf = true) : -9223372036854775808 ≤ a ∧ a ≤ 9223372036854775807 := by
  simp only [Lit.wf, IntKind.min, IntKind.max, IntKind.signed, IntKind.bits, Bool.and_eq_true, decide_eq_true_eq, if_true] at h
  omega
theorem w64 {a : Int} (h : -9223372036854775808 ≤ a ∧ a ≤ 9223372036854775807) : wrap64 a = a := by
  unfold wrap64
  omega
theorem w64_range (a : Int) : -9223372036854775808 ≤ wrap64 a ∧ wrap64 a ≤ 9223372036854775807 := by
  unfold wrap64
  omega
theorem pow62 : (2 : Int) ^ 62 = 4611686018427387904 := by decide
theorem pow_bd {n : Nat} (h : n ≤ 62) : 1 ≤ (2 : Int) ^ n ∧ (2 : Int) ^ n ≤ 4611686018427387904 := by
  have h1 := Go.Proofs.YtfemklaeonkidaaW.Hand.pow_pos n
  have h2 := pow_le h
  have h3 := pow62
  omega
theorem pow_split {m n : Nat} (h : m ≤ n) : (2 : Int) ^ n = 2 ^ m * 2 ^ (n - m) := by rw [← Int.pow_add, Nat.add_sub_cancel' h]
theorem shl64 {x y : Int} (h : y ≤ 63) : shl .i64 x y = wrap64 (x * 2 ^ y.toNat) := by
  unfold shl
  rw [Nat.min_eq_left (by show y.toNat ≤ 64; omega), IntKind.wrap_i64, wrap64]
/-- A remainder made 0 or more, as the laws write it. -/
theorem norm_mod {a n : Int} (hn : 0 < n) (hb : n ≤ 1000000) : (wrap64 (a.tmod n + n)).tmod n = a % n := by
  have h : -n < a.tmod n ∧ a.tmod n < n ∧ (a.tmod n) % n = a % n := by
    refine ⟨?_, Int.tmod_lt_of_pos a hn, ?_⟩
    · have := Int.lt_tmod_of_pos a hn
      omega
    · have h1 := Int.mul_tdiv_add_tmod a n
      have h2 : a % n = (n * a.tdiv n + a.tmod n) % n := by rw [h1]
      rw [h2, Int.add_comm, Int.add_mul_emod_self_left]
  rw [w64 (by omega), tmod_if, if_pos (by omega), ← h.2.2]
  rw [Int.add_emod_right]
theorem ediv_range {x : Int} (hx : -9223372036854775808 ≤ x ∧ x ≤ 9223372036854775807) (n : Nat) : -9223372036854775808 ≤ x / 2 ^ n ∧ x / 2 ^ n ≤ 9223372036854775807 := by
  have h1 := Go.Proofs.YtfemklaeonkidaaW.Hand.pow_pos n
  constructor
  · refine Int.le_ediv_of_mul_le h1 ?_
    generalize (2 : Int) ^ n = p at *
    omega
  · have : x / 2 ^ n ≤ 9223372036854775807 / 2 ^ n := Int.ediv_le_ediv h1 hx.2
    have h2 : (9223372036854775807 : Int) / 2 ^ n ≤ 9223372036854775807 := Int.ediv_le_self _ (by decide)
    omega
theorem ediv_half {x : Int} (hx : -9223372036854775808 ≤ x ∧ x ≤ 9223372036854775807) {n : Nat} (hn : 1 ≤ n) : -4611686018427387904 ≤ x / 2 ^ n ∧ x / 2 ^ n ≤ 4611686018427387903 := by
  obtain ⟨m, rfl⟩ : ∃ m, n = m + 1 := ⟨n - 1, by omega⟩
  have h : x / 2 ^ (m + 1) = x / 2 ^ m / 2 := by rw [Int.pow_succ, Int.ediv_ediv_of_nonneg (by have := Go.Proofs.YtfemklaeonkidaaW.Hand.pow_pos m; omega)]
  have := ediv_range hx m
  rw [h]
  omega
theorem rshift_range {x s m : Int} (hx : -9223372036854775808 ≤ x ∧ x ≤ 9223372036854775807) : -9223372036854775808 ≤ rshift x s m ∧ rshift x s m ≤ 9223372036854775807 := by
  unfold rshift
  split
  · exact hx
  · split
    · exact w64_range _
    · exact ediv_range hx _
/-- With no wrap. -/
theorem rshift_eq {x s m : Int} (hx : -9223372036854775808 ≤ x ∧ x ≤ 9223372036854775807) (hs : 0 ≤ s) : rshift x s m = if s = 0 then x else if goesUp x s m = true then x / 2 ^ s.toNat + 1 else x / 2 ^ s.toNat := by
  unfold rshift
  by_cases h : s = 0
  · rw [if_pos h, if_pos h]
  · have := ediv_half hx (n := s.toNat) (by omega)
    rw [if_neg h, if_neg h, w64 (by omega)]
/-- What a shift is, by its quotient and what is left. -/
theorem rshift_cases (x s m : Int) (hx : -9223372036854775808 ≤ x ∧ x ≤ 9223372036854775807) (hs : 0 ≤ s) (hs2 : s ≤ 62) (hm : m = 0 ∨ m = 1 ∨ m = 2) :
    ∃ q left p : Int, x = p * q + left ∧ 0 ≤ left ∧ left < p ∧ p = 2 ^ s.toNat ∧ 1 ≤ p ∧ p ≤ 4611686018427387904 ∧ q = x / p ∧ left = x % p ∧
      (rshift x s m = q ∧ (m = 0 ∨ 2 * left ≤ p) ∨ rshift x s m = q + 1 ∧ m ≠ 0 ∧ p ≤ 2 * left) := by
  have hp := pow_bd (n := s.toNat) (by omega)
  have h1 := Int.mul_ediv_add_emod x (2 ^ s.toNat)
  have h2 := Int.emod_nonneg x (b := 2 ^ s.toNat) (by omega)
  have h3 := Int.emod_lt_of_pos x (b := 2 ^ s.toNat) (by omega)
  refine ⟨x / 2 ^ s.toNat, x % 2 ^ s.toNat, 2 ^ s.toNat, by omega, h2, h3, rfl, by omega, by omega, rfl, rfl, ?_⟩
  rw [rshift_eq hx hs]
  by_cases h0 : s = 0
  · subst h0
    left
    rw [if_pos rfl]
    refine ⟨by simp, ?_⟩
    right
    simp at h3 ⊢ <;> omega
  · rw [if_neg h0]
    have hh : (2 : Int) ^ s.toNat = 2 * 2 ^ (s.toNat - 1) := by
      have := pow_split (m := 1) (n := s.toNat) (by omega)
      simpa using this
    unfold goesUp
    generalize x / 2 ^ s.toNat = q at *
    generalize x % 2 ^ s.toNat = left at *
    generalize (2 : Int) ^ s.toNat = p at *
    generalize (2 : Int) ^ (s.toNat - 1) = half at *
    rcases hm with rfl | rfl | rfl
    · left
      simp
    · simp only [Int.reduceEq, reduceIte, decide_eq_true_eq]
      by_cases h : half ≤ left
      · right
        rw [if_pos h]
        exact ⟨rfl, by decide, by omega⟩
      · left
        rw [if_neg h]
        exact ⟨rfl, by omega⟩
    · simp only [Int.reduceEq, reduceIte, Bool.or_eq_true, Bool.and_eq_true, decide_eq_true_eq, beq_iff_eq]
      by_cases h : half < left ∨ left = half ∧ q % 2 = 1
      · right
        rw [if_pos h]
        exact ⟨rfl, by decide, by omega⟩
      · left
        rw [if_neg h]
        exact ⟨rfl, by omega⟩
theorem rshift_mono {x y s m : Int} (hx : -9223372036854775808 ≤ x ∧ x ≤ 9223372036854775807) (hy : -9223372036854775808 ≤ y ∧ y ≤ 9223372036854775807) (hs : 0 ≤ s) (hs2 : s ≤ 62) (hm : m = 0 ∨ m = 1 ∨ m = 2) (h : x ≤ y) : rshift x s m ≤ rshift y s m := by
  obtain ⟨q, l, p, e1, e2, e3, e4, e5, e6, e7, e8, e9⟩ := rshift_cases x s m hx hs hs2 hm
  obtain ⟨q', l', p', f1, f2, f3, f4, f5, f6, f7, f8, f9⟩ := rshift_cases y s m hy hs hs2 hm
  obtain rfl : p = p' := by rw [e4, f4]
  have hq : q ≤ q' := by rw [e7, f7]; exact Int.ediv_le_ediv (by omega) h
  by_cases hqq : q = q'
  · subst hqq
    rcases e9 with ⟨e9, e10⟩ | ⟨e9, e10, e11⟩
    · rcases f9 with ⟨f9, f10⟩ | ⟨f9, f10, f11⟩ <;> omega
    · rcases f9 with ⟨f9, f10⟩ | ⟨f9, f10, f11⟩
      · have h3 : x = y := by omega
        rw [h3]
        exact Int.le_refl _
      · omega
  · rcases e9 with ⟨e9, _⟩ | ⟨e9, _⟩ <;> rcases f9 with ⟨f9, _⟩ | ⟨f9, _⟩ <;> omega
/-- What is a multiple is shifted exactly. -/
theorem rshift_mul {z s m : Int} (hx : -9223372036854775808 ≤ 2 ^ s.toNat * z ∧ 2 ^ s.toNat * z ≤ 9223372036854775807) (hs : 0 ≤ s) (hs2 : s ≤ 62) (hm : m = 0 ∨ m = 1 ∨ m = 2) : rshift (2 ^ s.toNat * z) s m = z := by
  obtain ⟨q, l, p, e1, e2, e3, e4, e5, e6, e7, e8, e9⟩ := rshift_cases _ s m hx hs hs2 hm
  rw [← e4] at *
  have h1 : p * z / p = z := Int.mul_ediv_cancel_left _ (by omega)
  have h2 : p * z % p = 0 := Int.mul_emod_right _ _
  rcases e9 with ⟨e9, _⟩ | ⟨e9, _, _⟩ <;> omega
theorem mul_bd2 {x y m n : Int} (h1 : -m ≤ x) (h2 : x ≤ m) (h3 : -n ≤ y) (h4 : y ≤ n) : -(m * n) ≤ x * y ∧ x * y ≤ m * n := by
  have hm : 0 ≤ m := by omega
  have hx : x.natAbs ≤ m.toNat := by omega
  have hy : y.natAbs ≤ n.toNat := by omega
  have h5 := Nat.mul_le_mul hx hy
  rw [← Int.natAbs_mul] at h5
  have h6 : ((m.toNat * n.toNat : Nat) : Int) = m * n := by
    rw [Int.natCast_mul, Int.toNat_of_nonneg hm, Int.toNat_of_nonneg (by omega)]
  omega
end Go.Proofs.Ytfemklaeonkidaa.P

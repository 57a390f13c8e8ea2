import Derived.Below
import Derived.WalkKit
/- Plain mathematics of shifts and of small numbers. -/
namespace Go.Proofs.YtnnjjblgilibgaaV
open Go Go.RowKit
set_option linter.unusedVariables false
set_option linter.unusedSimpArgs false

theorem and_mask64 (i : Nat) (hi : i ≤ 62) (x : Int) : bits .and .i64 x (2 ^ i - 1) = x % 2 ^ i := by
  have hpos : 0 < 2 ^ i := Nat.two_pow_pos i
  have h63 : 2 ^ i ≤ 2 ^ 62 := Nat.pow_le_pow_right (by decide) hi
  have hc : ((2 : Int) ^ i - 1) = ((2 ^ i - 1 : Nat) : Int) := by
    rw [Int.natCast_sub hpos]; simp
  have hd : (2 ^ i : Int) ∣ 2 ^ 64 := ⟨2 ^ (64 - i), by rw [← Int.pow_add, Nat.add_sub_cancel' (by omega)]⟩
  have hx : 0 ≤ x % 2 ^ 64 := Int.emod_nonneg _ (by decide)
  have e : ((BitVec.ofInt 64 x &&& BitVec.ofInt 64 (2 ^ i - 1)).toNat : Int) = x % 2 ^ i := by
    rw [BitVec.toNat_and, BitVec.toNat_ofInt, hc, BitVec.ofInt_natCast, BitVec.toNat_ofNat, Nat.mod_eq_of_lt (by omega), Nat.and_two_pow_sub_one_eq_mod]
    rw [Int.natCast_emod, Int.toNat_of_nonneg (by simpa using hx)]
    have := Int.emod_emod_of_dvd x hd
    simpa using this
  have hp' : (0 : Int) < 2 ^ i := by exact_mod_cast hpos
  have hb0 : 0 ≤ x % 2 ^ i := Int.emod_nonneg _ (by omega)
  have hb1 : x % 2 ^ i < 2 ^ i := Int.emod_lt_of_pos _ hp'
  have h63' : (2 ^ i : Int) ≤ 2 ^ 62 := by exact_mod_cast h63
  show IntKind.i64.wrap ((BitVec.ofInt 64 x &&& BitVec.ofInt 64 (2 ^ i - 1)).toNat : Int) = x % 2 ^ i
  rw [e, IntKind.wrap_i64]
  omega
theorem and3_64 (x : Int) : bits .and .i64 x 3 = x % 4 := and_mask64 2 (by decide) x
theorem and1_64 (x : Int) : bits .and .i64 x 1 = x % 2 := and_mask64 1 (by decide) x
theorem pow_pos (n : Nat) : (0 : Int) < 2 ^ n := Int.pow_pos (by decide)
theorem pow_le {m n : Nat} (h : m ≤ n) : (2 : Int) ^ m ≤ 2 ^ n := by exact_mod_cast Nat.pow_le_pow_right (by decide : 0 < 2) h
theorem pow_le62 {n : Nat} (h : n ≤ 62) : (2 : Int) ^ n ≤ 4611686018427387904 := by
  have h2 := pow_le h
  have h3 : (2 : Int) ^ 62 = 4611686018427387904 := by decide
  omega
/-- In range, nothing wraps. -/
theorem wr {x : Int} (h : -9223372036854775808 ≤ x ∧ x < 9223372036854775808) : IntKind.i64.wrap x = x := by
  rw [IntKind.wrap_i64]
  omega
theorem pow_wr {n : Nat} (h : n ≤ 62) : IntKind.i64.wrap (2 ^ n) = 2 ^ n := wr (by have := pow_pos n; have := pow_le62 h; omega)
theorem pow_wr1 {n : Nat} (h : n ≤ 62) : IntKind.i64.wrap (2 ^ n - 1) = 2 ^ n - 1 := wr (by have := pow_pos n; have := pow_le62 h; omega)

/-- A number divided by a power of 2, rounded. -/
def goesUp (x : Int) (s : Nat) (how : Int) : Bool :=
  if how = 0 then false else if how = 1 then decide (2 ^ (s - 1) ≤ x % 2 ^ s)
  else decide (2 ^ (s - 1) < x % 2 ^ s) || (decide (x % 2 ^ s = 2 ^ (s - 1)) && decide ((x / 2 ^ s) % 2 = 1))
def rsh (x s how : Int) : Int := if s = 0 then x else if goesUp x s.toNat how = true then x / 2 ^ s.toNat + 1 else x / 2 ^ s.toNat
/-! What stands in the code of Shift. -/
theorem sh_min {s : Int} (h : 0 ≤ s ∧ s ≤ 62) : min s.toNat IntKind.i64.bits = s.toNat := by
  have : IntKind.i64.bits = 64 := rfl
  omega
theorem sh_min1 {s : Int} (h : 1 ≤ s ∧ s ≤ 62) : min (IntKind.i64.wrap (s - 1)).toNat IntKind.i64.bits = s.toNat - 1 := by
  have : IntKind.i64.bits = 64 := rfl
  rw [wr (by omega)]
  omega
theorem sh_p {n : Nat} (h : n ≤ 62) : IntKind.i64.wrap (1 * 2 ^ n) = 2 ^ n := by rw [Int.one_mul, pow_wr h]
theorem sh_div (x : Int) (n : Nat) : x.fdiv (2 ^ n) = x / 2 ^ n := Int.fdiv_eq_ediv_of_nonneg _ (Int.le_of_lt (pow_pos n))
theorem sh_bd {x : Int} {n : Nat} (h : -9223372036854775808 ≤ x ∧ x < 9223372036854775808) : -9223372036854775808 ≤ x / 2 ^ n ∧ x / 2 ^ n < 9223372036854775808 := by
  have hp := pow_pos n
  constructor
  · rw [Int.le_ediv_iff_mul_le hp]
    have : -9223372036854775808 * (2 : Int) ^ n ≤ -9223372036854775808 * 1 := Int.mul_le_mul_of_nonpos_left (by omega) (by omega)
    omega
  · by_cases hx : 0 ≤ x
    · have := Int.ediv_le_self (2 ^ n) hx
      omega
    · have := Int.ediv_neg_of_neg_of_pos (show x < 0 by omega) hp
      omega
theorem sh_up {x : Int} {n : Nat} (h : -9223372036854775808 ≤ x ∧ x < 9223372036854775808) (hn : 1 ≤ n) : IntKind.i64.wrap (x / 2 ^ n + 1) = x / 2 ^ n + 1 := by
  refine wr ?_
  have hp := pow_pos n
  have h2 : (2 : Int) ≤ 2 ^ n := by have := pow_le (m := 1) hn; simpa using this
  have h1 := (sh_bd (n := n) h).1
  have : x / 2 ^ n ≤ 4611686018427387904 := by
    have h3 : x / 2 ^ n < 4611686018427387904 + 1 := by
      rw [Int.ediv_lt_iff_lt_mul hp]
      have : (4611686018427387904 + 1) * (2 : Int) ≤ (4611686018427387904 + 1) * 2 ^ n := Int.mul_le_mul_of_nonneg_left h2 (by omega)
      omega
    omega
  omega
theorem rsh0 (x s : Int) : rsh x s 0 = x / 2 ^ s.toNat := by
  unfold rsh goesUp
  split
  · rename_i h; subst h; simp
  · simp
theorem rsh_z (x how : Int) : rsh x 0 how = x := by unfold rsh; rw [if_pos rfl]
theorem rsh_up {x s how : Int} (h : s ≠ 0) {b : Bool} (hb : goesUp x s.toNat how = b) : rsh x s how = if b = true then x / 2 ^ s.toNat + 1 else x / 2 ^ s.toNat := by
  unfold rsh
  rw [if_neg h, hb]
end Go.Proofs.YtnnjjblgilibgaaV

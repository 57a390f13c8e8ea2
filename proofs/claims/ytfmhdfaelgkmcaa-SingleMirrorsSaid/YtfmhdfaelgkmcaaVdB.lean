import Derived.Test.YtfmhdfaelgkmcaaVdA
/- What a bin comes to. No program here but the contract of the whole. -/
namespace Go.Proofs.YtfmhdfaelgkmcaaV
open Go Go.RowKit
set_option linter.unusedVariables false
set_option linter.unusedSimpArgs false
set_option maxRecDepth 100000
set_option maxHeartbeats 40000000
theorem w64_id {x : Int} (h : -9223372036854775808 ≤ x ∧ x < 9223372036854775808) : wrap64 x = x := by
  rw [← w64]
  exact wr h
theorem mulabs {x y N M : Int} (h1 : -N ≤ x ∧ x ≤ N) (h2 : -M ≤ y ∧ y ≤ M) : -(N * M) ≤ x * y ∧ x * y ≤ N * M := by
  have a1 : 0 ≤ (N - x) * (M + y) := Int.mul_nonneg (by omega) (by omega)
  have a2 : 0 ≤ (N + x) * (M - y) := Int.mul_nonneg (by omega) (by omega)
  have a3 : 0 ≤ (N - x) * (M - y) := Int.mul_nonneg (by omega) (by omega)
  have a4 : 0 ≤ (N + x) * (M + y) := Int.mul_nonneg (by omega) (by omega)
  rw [Int.sub_mul, Int.mul_add, Int.mul_add] at a1
  rw [Int.add_mul, Int.mul_sub, Int.mul_sub] at a2
  rw [Int.sub_mul, Int.mul_sub, Int.mul_sub] at a3
  rw [Int.add_mul, Int.mul_add, Int.mul_add] at a4
  omega
/-- A sum of c products, in two parts. -/
def twoS (c : Int) (p : Int × Int) (T : Int) : Prop := p.1 * 65536 + p.2 = T ∧ (-(c * 36028797018963968) ≤ p.1 ∧ p.1 ≤ c * 36028797018963968) ∧ (-(c * 72056494526300160) ≤ p.2 ∧ p.2 ≤ c * 72056494526300160)
theorem addS_two {c : Int} {p : Int × Int} {T a b : Int} (h : twoS c p T) (hc : 0 ≤ c ∧ c ≤ 127) (ha : -2147483648 ≤ a ∧ a ≤ 2147483648) (hb : -1099511627776 ≤ b ∧ b ≤ 1099511627776) : twoS (c + 1) (addS p a b) (T + a * b) := by
  obtain ⟨h1, h2, h3⟩ := h
  have m1 := mulabs (x := a / 65536) (y := b) (N := 32768) (M := 1099511627776) (by omega) hb
  have m2 := mulabs (x := a % 65536) (y := b) (N := 65535) (M := 1099511627776) (by omega) hb
  have e : a * b = (a / 65536 * b) * 65536 + a % 65536 * b := by
    have : a = a / 65536 * 65536 + a % 65536 := by omega
    conv => lhs; rw [this]
    rw [Int.add_mul, Int.mul_assoc, Int.mul_comm 65536 b, ← Int.mul_assoc]
  have w1 : wrap64 (a / 65536 * b) = a / 65536 * b := w64_id (by omega)
  have w2 : wrap64 (a % 65536 * b) = a % 65536 * b := w64_id (by omega)
  have w3 : wrap64 (p.1 + a / 65536 * b) = p.1 + a / 65536 * b := w64_id (by omega)
  have w4 : wrap64 (p.2 + a % 65536 * b) = p.2 + a % 65536 * b := w64_id (by omega)
  unfold twoS addS
  simp only [w1, w2, w3, w4]
  rw [e]
  generalize a / 65536 * b = u at *
  generalize a % 65536 * b = v at *
  omega
section
variable (xs ws : List (Int × Int)) (inv : Bool) (k : Nat)
/-- The sum itself. -/
def tS : Nat → Int × Int
  | 0 => (0, 0)
  | i + 1 => ((tS i).1 + ((xs.getD i (0, 0)).1 * (rootV ws inv (i * k % xs.length)).1 - (xs.getD i (0, 0)).2 * (rootV ws inv (i * k % xs.length)).2), (tS i).2 + ((xs.getD i (0, 0)).1 * (rootV ws inv (i * k % xs.length)).2 + (xs.getD i (0, 0)).2 * (rootV ws inv (i * k % xs.length)).1))
theorem root_near {m : Int} {ws : List (Int × Int)} (hr : nears m ws) (inv : Bool) {j : Nat} (hj : j < ws.length) : win m (rootV ws inv j).1 (rootV ws inv j).2 := by
  have := near_get hr hj
  cases inv
  · exact this
  · show win m (ws.getD j (0, 0)).1 (-(ws.getD j (0, 0)).2)
    unfold win at *
    omega
theorem binS_two (hl : xs.length ≤ 64) (hl2 : ws.length = xs.length) (hx : nears 2147483648 xs) (hw : nears 1099511627776 ws) : ∀ i, i ≤ xs.length → twoS (2 * i) (binS xs ws inv k i).1 (tS xs ws inv k i).1 ∧ twoS (2 * i) (binS xs ws inv k i).2 (tS xs ws inv k i).2
  | 0, _ => by
    unfold twoS binS tS
    simp
  | i + 1, hi => by
    obtain ⟨h1, h2⟩ := binS_two hl hl2 hx hw i (by omega)
    have hr := root_near hw inv (j := i * k % xs.length) (by rw [hl2]; exact Nat.mod_lt _ (by omega))
    have ha := near_get hx (i := i) (by omega)
    rw [binS, tS]
    unfold win at hr ha
    generalize (xs.getD i (0, 0)).1 = a at *
    generalize (xs.getD i (0, 0)).2 = b at *
    generalize (rootV ws inv (i * k % xs.length)).1 = u at *
    generalize (rootV ws inv (i * k % xs.length)).2 = v at *
    have e : (2 : Int) * ((i + 1 : Nat) : Int) = 2 * (i : Int) + 1 + 1 := by omega
    rw [e]
    constructor
    · have := addS_two (addS_two h1 (a := a) (b := u) (by omega) (by omega) (by omega)) (a := -b) (b := v) (by omega) (by omega) (by omega)
      rw [Int.neg_mul] at this
      rwa [show (tS xs ws inv k i).1 + (a * u - b * v) = (tS xs ws inv k i).1 + a * u + -(b * v) by omega]
    · have := addS_two (addS_two h2 (a := a) (b := v) (by omega) (by omega) (by omega)) (a := b) (b := u) (by omega) (by omega) (by omega)
      rwa [show (tS xs ws inv k i).2 + (a * v + b * u) = (tS xs ws inv k i).2 + a * v + b * u by omega]
theorem downS_two {c : Int} {p : Int × Int} {T : Int} (h : twoS c p T) (hc : 0 ≤ c ∧ c ≤ 128) : downS p = T / 4294967296 := by
  obtain ⟨h1, h2, h3⟩ := h
  unfold downS
  rw [w64_id (by omega)]
  omega
/-- A bin. -/
def binV : Int × Int := ((tS xs ws inv k xs.length).1 / 4294967296, (tS xs ws inv k xs.length).2 / 4294967296)
end
theorem bin.ok (xs ws : List (Int × Int)) (inv : Bool) (log k : Nat) (hlog : 2 ≤ log ∧ log ≤ 6) (hl : xs.length = 2 ^ log) (hl2 : ws.length = 2 ^ log) (hk : k < 2 ^ log) (hx : nears 2147483648 xs) (hw : nears 1099511627776 ws) :
    Ok Try.prog 84 [.sl 2 (cxRows xs), .sl 2 (cxRows ws), .int k, .bool inv] (cxA (binV xs ws inv k).1 (binV xs ws inv k).2) := by
  have h64 : (2 : Nat) ^ log ≤ 64 := by
    have : (2 : Nat) ^ log ≤ 2 ^ 6 := Nat.pow_le_pow_right (by decide) hlog.2
    omega
  have h := dbin.ok xs ws inv log k hlog hl hl2 hk hx hw
  obtain ⟨h1, h2⟩ := binS_two xs ws inv k (by omega) (by omega) hx hw xs.length (Nat.le_refl _)
  rw [downS_two h1 (by omega), downS_two h2 (by omega)] at h
  exact h
end Go.Proofs.YtfmhdfaelgkmcaaV

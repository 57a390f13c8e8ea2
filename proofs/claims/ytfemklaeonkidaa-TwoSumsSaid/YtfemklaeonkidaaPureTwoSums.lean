/- TwoSums: the plain law: a pair's sum and difference together are near what they must be; the arguments are ints of 64 bits. -/
import Derived.Test.YtfemklaeonkidaaPx38
import Derived.Test.YtfemklaeonkidaaLMath
import Derived.Test.YtfemklaeonkidaaLRound
import Derived.Test.YtfemklaeonkidaaLCx0
import Derived.Test.YtfemklaeonkidaaLTwo
namespace Go.Proofs.Ytfemklaeonkidaa.Pure
open Go.RowKit Go.Proofs.Ytfemklaeonkidaa.P Go.Proofs.YtfemklaeonkidaaW.PrintWords Go.Proofs.YtfemklaeonkidaaW.PrintLast Go.Proofs.YtfemklaeonkidaaW.PrintMore Go.Proofs.YtfemklaeonkidaaW.Hand
set_option linter.unusedVariables false
set_option linter.unusedSimpArgs false
theorem near_ok {b s x y p q k : Int} (hb : 0 ≤ b ∧ b ≤ 29) (hs : 0 ≤ s ∧ s ≤ 3) (hx : p - 2 ^ (b + s).toNat ≤ x * 2 ^ (b + s).toNat ∧ x * 2 ^ (b + s).toNat ≤ p + 2 ^ (b + s).toNat) (hy : q - 2 ^ (b + s).toNat ≤ y * 2 ^ (b + s).toNat ∧ y * 2 ^ (b + s).toNat ≤ q + 2 ^ (b + s).toNat)
    (hp : -3458764513820540928 ≤ p ∧ p ≤ 3458764513820540928) (hq : -3458764513820540928 ≤ q ∧ q ≤ 3458764513820540928) (hk : k = p + q) : nearB b s x y k = true := by
  obtain ⟨z0, z1⟩ := pow32 (b := b + s) (by omega) (by omega)
  unfold nearB nearD
  have e1 : wrap64 (x + y) * 2 ^ (b + s).toNat = x * 2 ^ (b + s).toNat + y * 2 ^ (b + s).toNat := by
    have hx1 : -3458764518115508224 ≤ x ∧ x ≤ 3458764518115508224 := by
      have h1 : x ≤ 0 ∨ x ≤ x * 2 ^ (b + s).toNat := by
        rcases Int.le_total x 0 with h | h
        · exact .inl h
        · right
          have := Int.mul_le_mul_of_nonneg_left z0 h
          omega
      have h2 : 0 ≤ x ∨ x * 2 ^ (b + s).toNat ≤ x := by
        rcases Int.le_total 0 x with h | h
        · exact .inl h
        · right
          have := Int.mul_le_mul_of_nonpos_left h z0
          omega
      generalize x * 2 ^ (b + s).toNat = e at *
      omega
    have hy1 : -3458764518115508224 ≤ y ∧ y ≤ 3458764518115508224 := by
      have h1 : y ≤ 0 ∨ y ≤ y * 2 ^ (b + s).toNat := by
        rcases Int.le_total y 0 with h | h
        · exact .inl h
        · right
          have := Int.mul_le_mul_of_nonneg_left z0 h
          omega
      have h2 : 0 ≤ y ∨ y * 2 ^ (b + s).toNat ≤ y := by
        rcases Int.le_total 0 y with h | h
        · exact .inl h
        · right
          have := Int.mul_le_mul_of_nonpos_left h z0
          omega
      generalize y * 2 ^ (b + s).toNat = e at *
      omega
    rw [w64 (by omega), Int.add_mul]
  rw [e1]
  generalize x * 2 ^ (b + s).toNat = u at *
  generalize y * 2 ^ (b + s).toNat = v at *
  generalize (2 : Int) ^ (b + s).toNat = P at *
  subst hk
  rw [w64 (a := u + v) (by omega), w64 (a := u + v - (p + q)) (by omega), w64 (a := -(u + v - (p + q))) (by omega), w64 (a := 2 * P) (by omega)]
  apply decide_eq_true
  rw [mx_le]
  omega
theorem TwoSums : headroomlaw10_TwoSums.Pure := by
  intro a0 a1 b0 b1 r0 r1 b s m _ _ _ _ _ _ _ _ _
  refine ⟨two_alive, ?_⟩
  rw [two_Pair_eq]
  cases hs : setB b s m with
  | false => exact ⟨_, _, _, _, _, rfl, .inr ⟨by decide, rfl, rfl, rfl, rfl⟩⟩
  | true =>
    cases hin : pairIn a0 a1 b0 b1 r0 r1 b with
    | false => exact ⟨_, _, _, _, _, rfl, .inr ⟨by decide, rfl, rfl, rfl, rfl⟩⟩
    | true =>
      refine ⟨_, _, _, _, _, rfl, .inl ⟨rfl, ?_⟩⟩
      have hs' := of_decide_eq_true hs
      unfold pairIn at hin
      rw [Bool.and_eq_true, Bool.and_eq_true] at hin
      obtain ⟨ha, hb, hr⟩ := hin
      obtain ⟨z0, z1⟩ := pow29 hs'.1 hs'.2.1
      obtain ⟨t0, t1⟩ := prod_num z1 z0 hb hr
      obtain ⟨x1, x2, x3, x4⟩ := win_true ha
      have s0 := scale_num z1 z0 x3 x1
      have s1 := scale_num z1 z0 x4 x2
      have nr : ∀ x, -3458764513820540928 ≤ x ∧ x ≤ 3458764513820540928 → x - 2 ^ (b + s).toNat ≤ rshift x (b + s) m * 2 ^ (b + s).toNat ∧ rshift x (b + s) m * 2 ^ (b + s).toNat ≤ x + 2 ^ (b + s).toNat := fun x hx => rshift_near (by omega) (by omega) (by omega) hs'.2.2.2.2.1 hs'.2.2.2.2.2
      have ng : ∀ x y, x - 2 ^ (b + s).toNat ≤ y * 2 ^ (b + s).toNat ∧ y * 2 ^ (b + s).toNat ≤ x + 2 ^ (b + s).toNat → -x - 2 ^ (b + s).toNat ≤ -y * 2 ^ (b + s).toNat ∧ -y * 2 ^ (b + s).toNat ≤ -x + 2 ^ (b + s).toNat := by
        intro x y h
        rw [Int.neg_mul]
        generalize y * 2 ^ (b + s).toNat = e at *
        omega
      have wn : ∀ x, -3458764513820540928 ≤ x ∧ x ≤ 3458764513820540928 → wrap64 (-(rshift x (b + s) m)) = -(rshift x (b + s) m) := by
        intro x hx
        have h1 := rshift_mono (x := -3458764513820540928) (y := x) (s := b + s) (m := m) (by omega) (by omega) (by omega) (by omega) (by omega) hx.1
        have h2 := nr x hx
        have hP := pow32 (b := b + s) (by omega) (by omega)
        apply w64
        generalize rshift x (b + s) m = y at *
        have h3 : 0 ≤ y ∨ y * 2 ^ (b + s).toNat ≤ y := by
          rcases Int.le_total 0 y with h | h
          · exact .inl h
          · right
            have := Int.mul_le_mul_of_nonpos_left h hP.1
            omega
        have h4 : y ≤ 0 ∨ y ≤ y * 2 ^ (b + s).toNat := by
          rcases Int.le_total y 0 with h | h
          · exact .inl h
          · right
            have := Int.mul_le_mul_of_nonneg_left hP.1 h
            omega
        generalize y * 2 ^ (b + s).toNat = e at *
        omega
      have d0 : wrap64 (wrap64 (2 * a0) * 2 ^ b.toNat) = 2 * (a0 * 2 ^ b.toNat) := by rw [w64 (a := 2 * a0) (by omega), Int.mul_assoc, w64 (by omega)]
      have d1 : wrap64 (wrap64 (2 * a1) * 2 ^ b.toNat) = 2 * (a1 * 2 ^ b.toNat) := by rw [w64 (a := 2 * a1) (by omega), Int.mul_assoc, w64 (by omega)]
      obtain ⟨y1, y2, y3, y4⟩ := win_true hb
      obtain ⟨v1, v2, v3, v4⟩ := win_true hr
      have p1 := scale_num (a := b0) (p := 536870912) (by decide) (by decide) y3 y1
      have m1 := mul_bd2 y3 y1 (show -536870912 ≤ r0 by omega) (show r0 ≤ 536870912 by omega)
      have m2 := mul_bd2 y4 y2 (show -536870912 ≤ r1 by omega) (show r1 ≤ 536870912 by omega)
      have m3 := mul_bd2 y3 y1 (show -536870912 ≤ r1 by omega) (show r1 ≤ 536870912 by omega)
      have m4 := mul_bd2 y4 y2 (show -536870912 ≤ r0 by omega) (show r0 ≤ 536870912 by omega)
      have e0 : wrap64 (2 * wrap64 (wrap64 (b0 * r0) - wrap64 (b1 * r1))) = 2 * prodRe b0 b1 r0 r1 := by
        unfold prodRe at *
        rw [w64 (a := b0 * r0) (by omega), w64 (a := b1 * r1) (by omega), w64 (a := b0 * r0 - b1 * r1) (by omega), w64 (by omega)]
      have e1 : wrap64 (2 * wrap64 (wrap64 (b0 * r1) + wrap64 (b1 * r0))) = 2 * prodIm b0 b1 r0 r1 := by
        unfold prodIm at *
        rw [w64 (a := b0 * r1) (by omega), w64 (a := b1 * r0) (by omega), w64 (a := b0 * r1 + b1 * r0) (by omega), w64 (by omega)]
      unfold pairUp pairDn
      generalize prodRe b0 b1 r0 r1 = tr at *
      generalize prodIm b0 b1 r0 r1 = ti at *
      generalize a0 * 2 ^ b.toNat = u0 at *
      generalize a1 * 2 ^ b.toNat = u1 at *
      refine ⟨hs'.1, hs'.2.1, hs'.2.2.1, hs'.2.2.2.1, ?_, ?_, ?_, ?_⟩
      · rw [d0]; exact near_ok ⟨hs'.1, hs'.2.1⟩ ⟨hs'.2.2.1, hs'.2.2.2.1⟩ (nr _ (by omega)) (nr _ (by omega)) (by omega) (by omega) (by omega)
      · rw [d1]; exact near_ok ⟨hs'.1, hs'.2.1⟩ ⟨hs'.2.2.1, hs'.2.2.2.1⟩ (nr _ (by omega)) (nr _ (by omega)) (by omega) (by omega) (by omega)
      · rw [e0, wn _ (by omega)]; exact near_ok ⟨hs'.1, hs'.2.1⟩ ⟨hs'.2.2.1, hs'.2.2.2.1⟩ (nr _ (by omega)) (ng _ _ (nr _ (by omega))) (by omega) (by omega) (by omega)
      · rw [e1, wn _ (by omega)]; exact near_ok ⟨hs'.1, hs'.2.1⟩ ⟨hs'.2.2.1, hs'.2.2.2.1⟩ (nr _ (by omega)) (ng _ _ (nr _ (by omega))) (by omega) (by omega) (by omega)
end Go.Proofs.Ytfemklaeonkidaa.Pure

/- What a pair comes to, in closed form; numbers are of their kind. -/
import Derived.Test.YtfemklaeonkidaaPx20
import Derived.Test.YtfemklaeonkidaaPx23
import Derived.Test.YtfemklaeonkidaaPx24
import Derived.Test.YtfemklaeonkidaaPx25
import Derived.Test.YtfemklaeonkidaaPx26
import Derived.Test.YtfemklaeonkidaaPx27
import Derived.Test.YtfemklaeonkidaaPx29
import Derived.Test.YtfemklaeonkidaaPx30
import Derived.Test.YtfemklaeonkidaaPx31
import Derived.Test.YtfemklaeonkidaaPx32
import Derived.Test.YtfemklaeonkidaaPx5
import Derived.Test.YtfemklaeonkidaaLMath
import Derived.Test.YtfemklaeonkidaaLRound
import Derived.Test.YtfemklaeonkidaaLCx0
namespace Go.Proofs.Ytfemklaeonkidaa.P
open Go.RowKit Go.Proofs.Ytfemklaeonkidaa.P Go.Proofs.YtfemklaeonkidaaW.PrintWords Go.Proofs.YtfemklaeonkidaaW.PrintLast Go.Proofs.YtfemklaeonkidaaW.PrintMore Go.Proofs.YtfemklaeonkidaaW.Hand
set_option linter.unusedVariables false
set_option linter.unusedSimpArgs false
def setB (b s m : Int) : Bool := decide (0 ≤ b ∧ b ≤ 29 ∧ 0 ≤ s ∧ s ≤ 3 ∧ 0 ≤ m ∧ m ≤ 2)
theorem two_settings_eq (b s m : Int) : two_settings.f b s m = some (setB b s m) := by
  unfold two_settings.f setB round_Shift.f
  by_cases hm : 0 ≤ m ∧ m ≤ 2
  · rw [if_neg (by omega), Option.bind_some]
    repeat' split
    all_goals first
      | (rw [decide_eq_true (by omega)]; rfl)
      | rw [decide_eq_false (by omega)]
  · rw [if_pos (by omega), Option.bind_some]
    repeat' split
    all_goals first
      | (rw [decide_eq_false (by omega)]; done)
      | (rw [decide_eq_false (by omega)]; rfl)
theorem ref_settings_eq (b s m : Int) : headroomref10_Settings.f b s m = some (setB b s m) := by
  unfold headroomref10_Settings.f setB
  repeat' split
  all_goals first
    | exact congrArg some (decide_eq_decide.2 (by omega))
    | rw [decide_eq_false (by omega)]
theorem mx_le (a b m : Int) : mx a b ≤ m ↔ a ≤ m ∧ b ≤ m := by unfold mx; split <;> omega
theorem le_mn (a b m : Int) : m ≤ mn a b ↔ m ≤ a ∧ m ≤ b := by unfold mn; split <;> omega
theorem two_narrow_win {m : Int} (h0 : 0 ≤ m) (h1 : m ≤ 4611686018427387904) (x y : Int) : two_narrow.f x y m = some (win m x y) := by
  have e : wrap64 (-m) = -m := w64 (by omega)
  unfold two_narrow.f win
  rw [e]
  simp only [ge_iff_le, mx_le, le_mn]
  split
  · exact congrArg some (decide_eq_decide.2 (by omega))
  · rw [decide_eq_false (by omega)]
/-- The second number's product. -/
def prodRe (b0 b1 r0 r1 : Int) : Int := b0 * r0 - b1 * r1
def prodIm (b0 b1 r0 r1 : Int) : Int := b0 * r1 + b1 * r0
theorem prod_bd {b0 b1 r0 r1 m n : Int} (hb : win m b0 b1 = true) (hr : win n r0 r1 = true) : -(2 * (m * n)) ≤ prodRe b0 b1 r0 r1 ∧ prodRe b0 b1 r0 r1 ≤ 2 * (m * n) ∧ -(2 * (m * n)) ≤ prodIm b0 b1 r0 r1 ∧ prodIm b0 b1 r0 r1 ≤ 2 * (m * n) := by
  obtain ⟨x1, x2, x3, x4⟩ := win_true hb
  obtain ⟨y1, y2, y3, y4⟩ := win_true hr
  have p1 := mul_bd2 x3 x1 y3 y1
  have p2 := mul_bd2 x4 x2 y4 y2
  have p3 := mul_bd2 x3 x1 y4 y2
  have p4 := mul_bd2 x4 x2 y3 y1
  unfold prodRe prodIm
  generalize m * n = k at *
  generalize b0 * r0 = e1 at *
  generalize b1 * r1 = e2 at *
  generalize b0 * r1 = e3 at *
  generalize b1 * r0 = e4 at *
  omega
theorem pow29 {b : Int} (h0 : 0 ≤ b) (h1 : b ≤ 29) : 1 ≤ (2 : Int) ^ b.toNat ∧ (2 : Int) ^ b.toNat ≤ 536870912 := by
  have h := pow_pos b.toNat
  have h2 := pow_le (m := b.toNat) (n := 29) (by omega)
  have h3 : (2 : Int) ^ 29 = 536870912 := by decide
  omega
theorem pow32 {b : Int} (h0 : 0 ≤ b) (h1 : b ≤ 32) : 1 ≤ (2 : Int) ^ b.toNat ∧ (2 : Int) ^ b.toNat ≤ 4294967296 := by
  have h := pow_pos b.toNat
  have h2 := pow_le (m := b.toNat) (n := 32) (by omega)
  have h3 : (2 : Int) ^ 32 = 4294967296 := by decide
  omega
/-- A product's bounds, in numbers. -/
theorem prod_num {b0 b1 r0 r1 p : Int} (hp : p ≤ 536870912) (hp0 : 1 ≤ p) (hb : win 2147483648 b0 b1 = true) (hr : win p r0 r1 = true) : (-2305843009213693952 ≤ prodRe b0 b1 r0 r1 ∧ prodRe b0 b1 r0 r1 ≤ 2305843009213693952) ∧ -2305843009213693952 ≤ prodIm b0 b1 r0 r1 ∧ prodIm b0 b1 r0 r1 ≤ 2305843009213693952 := by
  have := prod_bd hb hr
  omega
theorem scale_num {a p : Int} (hp : p ≤ 536870912) (hp0 : 1 ≤ p) (h0 : -2147483648 ≤ a) (h1 : a ≤ 2147483648) : -1152921504606846976 ≤ a * p ∧ a * p ≤ 1152921504606846976 := by
  have := mul_bd2 h0 h1 (show -536870912 ≤ p by omega) hp
  omega
/-- A pair, in closed form. -/
def pairUp (a t S m p : Int) : Int := rshift (a * p + t) S m
def pairDn (a t S m p : Int) : Int := rshift (a * p - t) S m
theorem cx_Shift_ok {s m : Int} (h0 : 0 ≤ s) (h1 : s ≤ 62) (hm : 0 ≤ m) (hm2 : m ≤ 2) (x y : Int) : cx_Shift.f x y s m = some (rshift x s m, rshift y s m, 0) := by
  unfold cx_Shift.f round_Shift.f
  rw [if_neg (by omega), if_neg (by omega)]
  rfl
theorem cx_Times_ok {b0 b1 r0 r1 p : Int} (hp : p ≤ 536870912) (hb : win 2147483648 b0 b1 = true) (hr : win p r0 r1 = true) : cx_Times.f b0 b1 r0 r1 = some (prodRe b0 b1 r0 r1, prodIm b0 b1 r0 r1, 0) := by
  obtain ⟨y1, y2, y3, y4⟩ := win_true hr
  have hr2 : win 1073741824 r0 r1 = true := decide_eq_true (by omega)
  unfold cx_Times.f
  rw [if_pos (by rw [hb, hr2]; rfl)]
  rfl
theorem two_pair_eq {a0 a1 b0 b1 r0 r1 b s m : Int} (hs : setB b s m = true) (ha : win 2147483648 a0 a1 = true) (hb : win 2147483648 b0 b1 = true) (hr : win (2 ^ b.toNat) r0 r1 = true) :
    two_pair.f a0 a1 b0 b1 r0 r1 b s m = some (pairUp a0 (prodRe b0 b1 r0 r1) (b + s) m (2 ^ b.toNat), pairUp a1 (prodIm b0 b1 r0 r1) (b + s) m (2 ^ b.toNat), pairDn a0 (prodRe b0 b1 r0 r1) (b + s) m (2 ^ b.toNat), pairDn a1 (prodIm b0 b1 r0 r1) (b + s) m (2 ^ b.toNat)) := by
  have hs := of_decide_eq_true hs
  obtain ⟨z0, z1⟩ := pow29 hs.1 hs.2.1
  obtain ⟨t0, t1⟩ := prod_num z1 z0 hb hr
  obtain ⟨x1, x2, x3, x4⟩ := win_true ha
  have s0 := scale_num z1 z0 x3 x1
  have s1 := scale_num z1 z0 x4 x2
  unfold two_pair.f
  rw [cx_Times_ok z1 hb hr, Option.bind_some, if_pos hs.1]
  simp only [shl64 (show b ≤ 63 by omega)]
  rw [w64 (a := b + s) (by omega), w64 (a := a0 * 2 ^ b.toNat) (by omega), w64 (a := a1 * 2 ^ b.toNat) (by omega)]
  rw [w64 (by omega), w64 (by omega), w64 (by omega), w64 (by omega)]
  rw [cx_Shift_ok (by omega) (by omega) (by omega) (by omega), Option.bind_some, cx_Shift_ok (by omega) (by omega) (by omega) (by omega), Option.bind_some]
  rfl
theorem shl1 {b : Int} (h0 : 0 ≤ b) (h1 : b ≤ 29) : shl .i64 1 b = 2 ^ b.toNat := by
  obtain ⟨z0, z1⟩ := pow29 h0 h1
  rw [shl64 (by omega), Int.one_mul, w64 (by omega)]
/-- Whether all three may be. -/
def pairIn (a0 a1 b0 b1 r0 r1 b : Int) : Bool := win 2147483648 a0 a1 && (win 2147483648 b0 b1 && win (2 ^ b.toNat) r0 r1)
theorem two_Pair_eq (a0 a1 b0 b1 r0 r1 b s m : Int) :
    two_Pair.f a0 a1 b0 b1 r0 r1 b s m = some (if setB b s m = true then (if pairIn a0 a1 b0 b1 r0 r1 b = true then (pairUp a0 (prodRe b0 b1 r0 r1) (b + s) m (2 ^ b.toNat), pairUp a1 (prodIm b0 b1 r0 r1) (b + s) m (2 ^ b.toNat), pairDn a0 (prodRe b0 b1 r0 r1) (b + s) m (2 ^ b.toNat), pairDn a1 (prodIm b0 b1 r0 r1) (b + s) m (2 ^ b.toNat), 0) else (0, 0, 0, 0, 2)) else (0, 0, 0, 0, 1)) := by
  unfold two_Pair.f
  rw [two_settings_eq, Option.bind_some]
  cases hs : setB b s m with
  | false => rfl
  | true =>
    have hs' := of_decide_eq_true hs
    obtain ⟨z0, z1⟩ := pow29 hs'.1 hs'.2.1
    rw [if_pos rfl, if_pos rfl, two_narrow_win (by omega) (by omega), Option.bind_some, two_narrow_win (by omega) (by omega), shl1 hs'.1 hs'.2.1, two_narrow_win (by omega) (by omega), if_pos hs'.1]
    unfold pairIn
    cases ha : win 2147483648 a0 a1 with
    | false => rfl
    | true =>
      cases hb : win 2147483648 b0 b1 with
      | false => rfl
      | true =>
        cases hr : win (2 ^ b.toNat) r0 r1 with
        | false => rfl
        | true =>
          rw [two_pair_eq hs ha hb hr]
          rfl
theorem two_alive : headroomlaw10_alive.f = some true := by decide +kernel
/-- What is rounded is not farther than 1. -/
theorem rshift_near {x s m : Int} (hx : -9223372036854775808 ≤ x ∧ x ≤ 9223372036854775807) (hs : 0 ≤ s) (hs2 : s ≤ 62) (hm : 0 ≤ m) (hm2 : m ≤ 2) : x - 2 ^ s.toNat ≤ rshift x s m * 2 ^ s.toNat ∧ rshift x s m * 2 ^ s.toNat ≤ x + 2 ^ s.toNat := by
  obtain ⟨q, l, p, e1, e2, e3, e4, e5, e6, e7, e8, e9⟩ := rshift_cases x s m hx hs hs2 (by omega)
  rw [← e4]
  rcases e9 with ⟨e9, _⟩ | ⟨e9, _⟩
  · rw [e9, Int.mul_comm]; omega
  · rw [e9, Int.add_mul, Int.mul_comm]; omega
theorem ref_Scale_ok {k : Nat} {a0 a1 b : Int} (hk : 64 ≤ k) (hb : 0 ≤ b ∧ b ≤ 29) (ha : win 2147483648 a0 a1 = true) : headroomref10_Scale.f k a0 a1 b = some (a0 * 2 ^ b.toNat, a1 * 2 ^ b.toNat) := by
  obtain ⟨z0, z1⟩ := pow29 hb.1 hb.2
  obtain ⟨x1, x2, x3, x4⟩ := win_true ha
  have s0 := scale_num z1 z0 x3 x1
  have s1 := scale_num z1 z0 x4 x2
  unfold headroomref10_Scale.f
  rw [ref_Pow hk (by omega), Option.bind_some, w64 (by omega), w64 (by omega)]
theorem ref_Times_ok {b0 b1 r0 r1 p : Int} (hp : p ≤ 536870912) (hb : win 2147483648 b0 b1 = true) (hr : win p r0 r1 = true) : headroomref03_Times.f b0 b1 r0 r1 = some (prodRe b0 b1 r0 r1, prodIm b0 b1 r0 r1) := by
  obtain ⟨y1, y2, y3, y4⟩ := win_true hb
  obtain ⟨v1, v2, v3, v4⟩ := win_true hr
  have m1 := mul_bd2 y3 y1 (show -536870912 ≤ r0 by omega) (show r0 ≤ 536870912 by omega)
  have m2 := mul_bd2 y4 y2 (show -536870912 ≤ r1 by omega) (show r1 ≤ 536870912 by omega)
  have m3 := mul_bd2 y3 y1 (show -536870912 ≤ r1 by omega) (show r1 ≤ 536870912 by omega)
  have m4 := mul_bd2 y4 y2 (show -536870912 ≤ r0 by omega) (show r0 ≤ 536870912 by omega)
  unfold headroomref03_Times.f prodRe prodIm
  rw [w64 (a := b0 * r0) (by omega), w64 (a := b1 * r1) (by omega), w64 (a := b0 * r1) (by omega), w64 (a := b1 * r0) (by omega), w64 (by omega), w64 (by omega)]
theorem ref_Shift2 {k : Nat} {x y s m : Int} (hk : 110 ≤ k) (hx : -9223372036854775808 ≤ x ∧ x ≤ 9223372036854775807) (hy : -9223372036854775808 ≤ y ∧ y ≤ 9223372036854775807) (h0 : 0 ≤ s) (h1 : s ≤ 62) (hm : 0 ≤ m) (hm2 : m ≤ 2) : headroomref03_Shift.f k x y s m = some (rshift x s m, rshift y s m) := by
  unfold headroomref03_Shift.f
  rw [ref_Shift hk hx h0 h1 (by omega), ref_Shift hk hy h0 h1 (by omega)]
  rfl
theorem ref_UpDown {k : Nat} {a0 a1 b0 b1 r0 r1 b s m : Int} (hk : 110 ≤ k) (hs : setB b s m = true) (ha : win 2147483648 a0 a1 = true) (hb : win 2147483648 b0 b1 = true) (hr : win (2 ^ b.toNat) r0 r1 = true) :
    headroomref10_Up.f k a0 a1 b0 b1 r0 r1 b s m = some (pairUp a0 (prodRe b0 b1 r0 r1) (b + s) m (2 ^ b.toNat), pairUp a1 (prodIm b0 b1 r0 r1) (b + s) m (2 ^ b.toNat)) ∧
    headroomref10_Down.f k a0 a1 b0 b1 r0 r1 b s m = some (pairDn a0 (prodRe b0 b1 r0 r1) (b + s) m (2 ^ b.toNat), pairDn a1 (prodIm b0 b1 r0 r1) (b + s) m (2 ^ b.toNat)) := by
  have hs := of_decide_eq_true hs
  obtain ⟨z0, z1⟩ := pow29 hs.1 hs.2.1
  obtain ⟨t0, t1⟩ := prod_num z1 z0 hb hr
  obtain ⟨x1, x2, x3, x4⟩ := win_true ha
  have s0 := scale_num z1 z0 x3 x1
  have s1 := scale_num z1 z0 x4 x2
  unfold headroomref10_Up.f headroomref10_Down.f headroomref03_Sum.f headroomref03_Less.f pairUp pairDn
  rw [ref_Scale_ok (by omega) ⟨hs.1, hs.2.1⟩ ha, ref_Times_ok z1 hb hr, w64 (a := b + s) (by omega)]
  simp only [Option.bind_some]
  rw [w64 (by omega), w64 (by omega), w64 (by omega), w64 (by omega)]
  rw [ref_Shift2 hk (by omega) (by omega) (by omega) (by omega) (by omega) (by omega), ref_Shift2 hk (by omega) (by omega) (by omega) (by omega) (by omega) (by omega)]
  exact ⟨rfl, rfl⟩
end Go.Proofs.Ytfemklaeonkidaa.P

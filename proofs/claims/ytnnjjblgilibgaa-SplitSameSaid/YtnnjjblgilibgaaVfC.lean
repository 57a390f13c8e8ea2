import Derived.Test.YtnnjjblgilibgaaVfB
/- Contracts of the functions of the package four: what a quad is. -/
namespace Go.Proofs.YtnnjjblgilibgaaV
open Go Go.RowKit
set_option linter.unusedVariables false
set_option linter.unusedSimpArgs false
set_option maxRecDepth 100000
set_option maxHeartbeats 40000000
theorem dec_t {p : Prop} [Decidable p] : (AV.raw (Value.bool true) = AV.bool (decide p)) = p := by simp
theorem dec_f {p : Prop} [Decidable p] : (AV.raw (Value.bool false) = AV.bool (decide p)) = ¬ p := by simp
theorem dec_d {p q : Prop} [Decidable p] [Decidable q] : (AV.raw (Value.bool (decide p)) = AV.bool (decide q)) = (p ↔ q) := by simp
/-- Cells of four numbers. -/
abbrev arr4 (a0 b0 a1 b1 a2 b2 a3 b3 : Int) : AV := .agg [.int a0, .int b0, .int a1, .int b1, .int a2, .int b2, .int a3, .int b3]
theorem tRe_near {m x y n : Int} (h : win m x y) (h0 : 0 ≤ m) : -m ≤ tRe x y n ∧ tRe x y n ≤ m := by
  unfold win at h
  unfold tRe
  split
  · omega
  · split
    · omega
    · split <;> omega
theorem tIm_near {m x y n : Int} (h : win m x y) (h0 : 0 ≤ m) : -m ≤ tIm x y n ∧ tIm x y n ≤ m := by
  unfold win at h
  unfold tIm
  split
  · omega
  · split
    · omega
    · split <;> omega
theorem pow29 {bits : Int} (hb : 0 ≤ bits ∧ bits ≤ 29) : 1 ≤ (2 : Int) ^ bits.toNat ∧ (2 : Int) ^ bits.toNat ≤ 536870912 := by
  have := pow_pos bits.toNat
  have : (2 : Int) ^ bits.toNat ≤ 2 ^ 29 := pow_le (by omega)
  omega
theorem shl29 {a bits : Int} (hb : 0 ≤ bits ∧ bits ≤ 29) (ha : -2147483648 ≤ a ∧ a ≤ 2147483648) : IntKind.i64.wrap (a * 2 ^ min bits.toNat IntKind.i64.bits) = a * 2 ^ bits.toNat ∧ (-1152921504606846976 ≤ a * 2 ^ bits.toNat ∧ a * 2 ^ bits.toNat ≤ 1152921504606846976) := by
  have h := pow29 hb
  have g := mul_near (p := 2147483648) (q := 536870912) (a := a) (b := 2 ^ bits.toNat) (by decide) (by omega) (by omega)
  refine ⟨?_, by omega⟩
  rw [sh_min (by omega)]
  exact wr (by omega)
theorem times_win {m a b u v : Int} (h : win 2147483648 a b) (g : win m u v) (hp : 1 ≤ m ∧ m ≤ 536870912) : win 2305843009213693952 (a * u - b * v) (a * v + b * u) := by
  unfold win at *
  have g1 := mul_near (p := 2147483648) (q := 536870912) (a := a) (b := u) (by decide) (by omega) (by omega)
  have g2 := mul_near (p := 2147483648) (q := 536870912) (a := b) (b := v) (by decide) (by omega) (by omega)
  have g3 := mul_near (p := 2147483648) (q := 536870912) (a := a) (b := v) (by decide) (by omega) (by omega)
  have g4 := mul_near (p := 2147483648) (q := 536870912) (a := b) (b := u) (by decide) (by omega) (by omega)
  omega
theorem wrap_in {x : Int} : in64 (IntKind.i64.wrap x) := by
  unfold in64
  rw [IntKind.wrap_i64]
  omega
/-- A quad's number q, not shifted. -/
def qRe (x0 y0 x1 y1 x2 y2 x3 y3 : Int) (inv : Bool) (q : Int) : Int := tRe x0 y0 0 + tRe x1 y1 (if inv = true then q else 0 - q) + tRe x2 y2 (2 * q) + tRe x3 y3 (0 - if inv = true then q else 0 - q)
def qIm (x0 y0 x1 y1 x2 y2 x3 y3 : Int) (inv : Bool) (q : Int) : Int := tIm x0 y0 0 + tIm x1 y1 (if inv = true then q else 0 - q) + tIm x2 y2 (2 * q) + tIm x3 y3 (0 - if inv = true then q else 0 - q)
theorem q_re {x0 y0 x1 y1 x2 y2 x3 y3 n0 n1 n2 n3 : Int} (w0 : win 1152921504606846976 x0 y0) (w1 : win 2305843009213693952 x1 y1) (w2 : win 2305843009213693952 x2 y2) (w3 : win 2305843009213693952 x3 y3) : IntKind.i64.wrap (IntKind.i64.wrap (IntKind.i64.wrap (IntKind.i64.wrap (0 + tRe x0 y0 n0) + tRe x1 y1 n1) + tRe x2 y2 n2) + tRe x3 y3 n3) = tRe x0 y0 n0 + tRe x1 y1 n1 + tRe x2 y2 n2 + tRe x3 y3 n3 := by
  have g0 := tRe_near (n := n0) w0 (by decide)
  have g1 := tRe_near (n := n1) w1 (by decide)
  have g2 := tRe_near (n := n2) w2 (by decide)
  have g3 := tRe_near (n := n3) w3 (by decide)
  rw [Int.zero_add, wr (x := tRe x0 y0 n0) (by omega), wr (x := tRe x0 y0 n0 + tRe x1 y1 n1) (by omega), wr (x := tRe x0 y0 n0 + tRe x1 y1 n1 + tRe x2 y2 n2) (by omega), wr (by omega)]
theorem q_im {x0 y0 x1 y1 x2 y2 x3 y3 n0 n1 n2 n3 : Int} (w0 : win 1152921504606846976 x0 y0) (w1 : win 2305843009213693952 x1 y1) (w2 : win 2305843009213693952 x2 y2) (w3 : win 2305843009213693952 x3 y3) : IntKind.i64.wrap (IntKind.i64.wrap (IntKind.i64.wrap (IntKind.i64.wrap (0 + tIm x0 y0 n0) + tIm x1 y1 n1) + tIm x2 y2 n2) + tIm x3 y3 n3) = tIm x0 y0 n0 + tIm x1 y1 n1 + tIm x2 y2 n2 + tIm x3 y3 n3 := by
  have g0 := tIm_near (n := n0) w0 (by decide)
  have g1 := tIm_near (n := n1) w1 (by decide)
  have g2 := tIm_near (n := n2) w2 (by decide)
  have g3 := tIm_near (n := n3) w3 (by decide)
  rw [Int.zero_add, wr (x := tIm x0 y0 n0) (by omega), wr (x := tIm x0 y0 n0 + tIm x1 y1 n1) (by omega), wr (x := tIm x0 y0 n0 + tIm x1 y1 n1 + tIm x2 y2 n2) (by omega), wr (by omega)]
/-- Four numbers' quad. -/
def qV (inv : Bool) (bits s mode a0 b0 a1 b1 a2 b2 a3 b3 u1 v1 u2 v2 u3 v3 : Int) (q : Int) : Int × Int :=
  (rsh (qRe (a0 * 2 ^ bits.toNat) (b0 * 2 ^ bits.toNat) (a1 * u1 - b1 * v1) (a1 * v1 + b1 * u1) (a2 * u2 - b2 * v2) (a2 * v2 + b2 * u2) (a3 * u3 - b3 * v3) (a3 * v3 + b3 * u3) inv q) (bits + s) mode,
   rsh (qIm (a0 * 2 ^ bits.toNat) (b0 * 2 ^ bits.toNat) (a1 * u1 - b1 * v1) (a1 * v1 + b1 * u1) (a2 * u2 - b2 * v2) (a2 * v2 + b2 * u2) (a3 * u3 - b3 * v3) (a3 * v3 + b3 * u3) inv q) (bits + s) mode)
abbrev quadAV (f : Int → Int × Int) : AV := arr4 (f 0).1 (f 0).2 (f 1).1 (f 1).2 (f 2).1 (f 2).2 (f 3).1 (f 3).2
end Go.Proofs.YtnnjjblgilibgaaV

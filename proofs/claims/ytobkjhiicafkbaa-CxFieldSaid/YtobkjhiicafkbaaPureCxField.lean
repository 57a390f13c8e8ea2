/- CxField: a product's norm is the product of the norms, four turns change nothing, a number times its conjugate is its norm, products are spread over sums; the arguments are ints of 64 bits. -/
import Derived.Test.YtobkjhiicafkbaaPx20
import Derived.Test.YtobkjhiicafkbaaPx21
import Derived.Test.YtobkjhiicafkbaaPx22
import Derived.Test.YtobkjhiicafkbaaPx23
import Derived.Test.YtobkjhiicafkbaaLMath
import Derived.Test.YtobkjhiicafkbaaLRound
import Derived.Test.YtobkjhiicafkbaaLCx
namespace Go.Proofs.Ytobkjhiicafkbaa.Pure
open Go.RowKit Go.Proofs.Ytobkjhiicafkbaa.P Go.Proofs.YtobkjhiicafkbaaW.PrintWords Go.Proofs.YtobkjhiicafkbaaW.PrintLast Go.Proofs.YtobkjhiicafkbaaW.PrintMore Go.Proofs.YtobkjhiicafkbaaW.Hand
set_option linter.unusedVariables false
set_option linter.unusedSimpArgs false
theorem l0_zero (x3 x19 x21 x23 : Int) (l : List Int) (hl : l.length ≤ 100) (hz : ∀ x ∈ l, x = 0) (y0 y1 y2 y3 y4 y5 y6 y7 y8 y9 y10 y11 y12 y13 : Int) (d : Nat) : ∀ (k : Nat) (i : Int), 0 ≤ i → (l.length : Int) - i = d →
    headroomlaw03_CxField.l0 (k + d + 1) x3 x19 x21 x23 l (l.length : Int) i y0 y1 y2 y3 y4 y5 y6 y7 y8 y9 y10 y11 y12 y13 = headroomlaw03_CxField.l0 (k + 1) x3 x19 x21 x23 l (l.length : Int) (l.length : Int) y0 y1 y2 y3 y4 y5 y6 y7 y8 y9 y10 y11 y12 y13 := by
  induction d with
  | zero =>
    intro k i hi hd
    obtain rfl : i = l.length := by omega
    rfl
  | succ d ih =>
    intro k i hi hd
    rw [← ih k (i + 1) (by omega) (by omega)]
    rw [show k + (d + 1) + 1 = (k + d + 1) + 1 by omega]
    rw [headroomlaw03_CxField.l0]
    have hlt : i.toNat < l.length := by omega
    have hrd : rd l i = 0 := by
      unfold rd
      rw [List.getD_eq_getElem?_getD, List.getElem?_eq_getElem hlt]
      exact hz _ (List.getElem_mem hlt)
    rw [if_pos (by omega), if_pos hi, if_pos (by omega), if_pos hrd, w64 (by omega)]
theorem sq_nonneg (a : Int) : 0 ≤ a * a := by
  rcases Int.le_total 0 a with h | h
  · exact Int.mul_nonneg h h
  · exact Int.mul_nonneg_of_nonpos_of_nonpos h h
theorem win_small {m a b : Int} (h : 32768 ≤ m) (ha : -32768 < a ∧ a < 32768) (hb : -32768 < b ∧ b < 32768) : win m a b = true := decide_eq_true (by omega)
theorem tmod_small (a : Int) : -32768 < a.tmod 32768 ∧ a.tmod 32768 < 32768 := by
  rw [tmod_if]
  split <;> omega
theorem pb {x y : Int} (h1 : -65536 ≤ x ∧ x ≤ 65536) (h2 : -32768 ≤ y ∧ y ≤ 32768) : -2147483648 ≤ x * y ∧ x * y ≤ 2147483648 := by
  have := mul_bd2 (x := x) (y := y) (m := 65536) (n := 32768) (by omega) (by omega) (by omega) (by omega)
  omega
theorem pb2 {x y : Int} (h1 : -32767 ≤ x ∧ x ≤ 32767) (h2 : -32767 ≤ y ∧ y ≤ 32767) : -1073676289 ≤ x * y ∧ x * y ≤ 1073676289 := by
  have := mul_bd2 (x := x) (y := y) (m := 32767) (n := 32767) (by omega) (by omega) (by omega) (by omega)
  omega
theorem CxField : headroomlaw03_CxField.Pure := by
  intro a0 b0 c0 d0 e0 f0 n ha hb hc hd he hf hn
  refine ⟨100 + 13 + 1, ?_⟩
  unfold headroomlaw03_CxField.f headroomlaw03_small.f
  simp only [Option.bind_some]
  have A := tmod_small a0
  have B := tmod_small b0
  have C := tmod_small c0
  have D := tmod_small d0
  have E := tmod_small e0
  have F := tmod_small f0
  clear ha hb hc hd he hf hn
  generalize a0.tmod 32768 = a at *
  generalize b0.tmod 32768 = b at *
  generalize c0.tmod 32768 = c at *
  generalize d0.tmod 32768 = d at *
  generalize e0.tmod 32768 = e at *
  generalize f0.tmod 32768 = f at *
  have t : ∀ x y u v, -32768 < x ∧ x < 32768 → -32768 < y ∧ y < 32768 → -65536 ≤ u ∧ u ≤ 65536 → -65536 ≤ v ∧ v ≤ 65536 → cx_Times.f x y u v = some (x * u - y * v, x * v + y * u, 0) := by
    intro x y u v hx hy hu hv
    unfold cx_Times.f
    have h1 : win 2147483648 x y = true := win_small (by decide) hx hy
    have h2 : win 1073741824 u v = true := decide_eq_true (by omega)
    rw [h1, h2]
    rfl
  have ac := pb2 (x := a) (y := c) (by omega) (by omega)
  have bd := pb2 (x := b) (y := d) (by omega) (by omega)
  have ad := pb2 (x := a) (y := d) (by omega) (by omega)
  have bc := pb2 (x := b) (y := c) (by omega) (by omega)
  have ae := pb2 (x := a) (y := e) (by omega) (by omega)
  have bf := pb2 (x := b) (y := f) (by omega) (by omega)
  have af := pb2 (x := a) (y := f) (by omega) (by omega)
  have be := pb2 (x := b) (y := e) (by omega) (by omega)
  have s1 : cx_Sum.f c d e f = some (c + e, d + f, 0) := by
    unfold cx_Sum.f
    rw [win_small (by decide) C D, win_small (by decide) E F]
    rfl
  have s2 : cx_Sum.f (a * c - b * d) (a * d + b * c) (a * e - b * f) (a * f + b * e) = some (a * c - b * d + (a * e - b * f), a * d + b * c + (a * f + b * e), 0) := by
    unfold cx_Sum.f
    rw [show win 2305843009213693952 (a * c - b * d) (a * d + b * c) = true from decide_eq_true (by omega), show win 2305843009213693952 (a * e - b * f) (a * f + b * e) = true from decide_eq_true (by omega)]
    rfl
  have n1 : cx_Norm.f a b = some (a * a + b * b, 0) := by
    unfold cx_Norm.f
    rw [win_small (by decide) A B]
    rfl
  have n2 : cx_Norm.f c d = some (c * c + d * d, 0) := by
    unfold cx_Norm.f
    rw [win_small (by decide) C D]
    rfl
  have n3 : cx_Norm.f (a * c - b * d) (a * d + b * c) = some ((a * c - b * d) * (a * c - b * d) + (a * d + b * c) * (a * d + b * c), 0) := by
    unfold cx_Norm.f
    rw [show win 2147483648 (a * c - b * d) (a * d + b * c) = true from decide_eq_true (by omega)]
    rfl
  have cj : cx_Conj.f a b = some (a, -b, 0) := by
    unfold cx_Conj.f
    rw [win_small (by decide) A B]
    rfl
  have tn : ∀ z, cx_Turn.f a b z = some ((qturn a b z).1, (qturn a b z).2, 0) := by
    intro z
    unfold cx_Turn.f
    rw [win_small (by decide) A B]
    rfl
  rw [t a b c d A B (by omega) (by omega), t a b e f A B (by omega) (by omega)]
  simp only [Option.bind_some, s1, s2, n1, n2, n3, cj, tn]
  rw [t a b (c + e) (d + f) A B (by omega) (by omega), t a b a (-b) A B (by omega) (by omega)]
  simp only [Option.bind_some]
  have hl := l0_zero n (a * a + b * b) (c * c + d * d) ((a * c - b * d) * (a * c - b * d) + (a * d + b * c) * (a * d + b * c)) [0, 0, 0, 0, 0, 0, 0, 0, 0, 0, 0, 0, 0] (by decide) (by intro x hx; simpa using hx) a b (a * (c + e) - b * (d + f)) (a * (d + f) + b * (c + e)) (a * c - b * d + (a * e - b * f)) (a * d + b * c + (a * f + b * e)) (a * a - b * -b) (a * -b + b * a) (qturn a b n).1 (qturn a b n).2 (qturn a b (wrap64 (n.tmod 1000 + 4))).1 (qturn a b (wrap64 (n.tmod 1000 + 4))).2 (qturn a b (n.tmod 1000)).1 (qturn a b (n.tmod 1000)).2 13 100 0 (by decide) (by decide)
  rw [hl, headroomlaw03_CxField.l0, if_neg (by decide), alive3, Option.bind_some, if_pos rfl]
  have q1 : (a * (c + e) - b * (d + f)) = a * c - b * d + (a * e - b * f) := by grind
  have q2 : (a * (d + f) + b * (c + e)) = a * d + b * c + (a * f + b * e) := by grind
  have q3 : (a * c - b * d) * (a * c - b * d) + (a * d + b * c) * (a * d + b * c) = (a * a + b * b) * (c * c + d * d) := by grind
  have aa := pb2 (x := a) (y := a) (by omega) (by omega)
  have bb := pb2 (x := b) (y := b) (by omega) (by omega)
  have cc := pb2 (x := c) (y := c) (by omega) (by omega)
  have dd := pb2 (x := d) (y := d) (by omega) (by omega)
  have p1 : 0 ≤ a * a := sq_nonneg a
  have p2 : 0 ≤ b * b := sq_nonneg b
  have p3 : 0 ≤ c * c := sq_nonneg c
  have p4 : 0 ≤ d * d := sq_nonneg d
  have u : ∀ z : Int, 0 ≤ z → z < 18446744073709551616 → IntKind.u64.wrap z = z := by
    intro z z1 z2
    have : IntKind.u64.wrap z = z % 18446744073709551616 := by simp [IntKind.wrap, IntKind.bits, IntKind.signed]
    rw [this]
    omega
  have big := mul_bd2 (x := a * a + b * b) (y := c * c + d * d) (m := 2147352578) (n := 2147352578) (by omega) (by omega) (by omega) (by omega)
  have pos : 0 ≤ (a * a + b * b) * (c * c + d * d) := Int.mul_nonneg (by omega) (by omega)
  have q4 : a * -b + b * a = 0 := by grind
  have q5 : a * a - b * -b = a * a + b * b := by grind
  have hm4 : (wrap64 (n.tmod 1000 + 4)) % 4 = (n.tmod 1000) % 4 := by
    have : -1000 < n.tmod 1000 ∧ n.tmod 1000 < 1000 := by
      rw [tmod_if]
      split <;> omega
    rw [w64 (by omega)]
    omega
  have q6 : qturn a b (wrap64 (n.tmod 1000 + 4)) = qturn a b (n.tmod 1000) := by unfold qturn; rw [hm4]
  rw [q1, q2, q3, q4, q5, q6, u _ pos (by omega), u _ (by omega) (by omega)]
  simp only [beq_self_eq_true, Bool.and_self, if_true]
  by_cases h : n.tmod 4 = 0
  · rw [if_pos h]
    have h4 : n % 4 = 0 := by
      rw [tmod_if] at h
      split at h <;> omega
    have : qturn a b n = (a, b) := by unfold qturn; rw [h4]; rfl
    rw [this]
    simp
  · rw [if_neg h]
end Go.Proofs.Ytobkjhiicafkbaa.Pure

-- Laid by this session's program hyb.py, out of the kit's print and this session's own contracts.
import Derived.Test.YtfemklaeonkidaaPx0
import Derived.Test.YtfemklaeonkidaaPx5
import Derived.Test.YtfemklaeonkidaaPx23
import Derived.Test.YtfemklaeonkidaaPx26
import Derived.Test.YtfemklaeonkidaaPx27
namespace Go.Proofs.Ytfemklaeonkidaa.P
open Go.RowKit Go.Proofs.YtfemklaeonkidaaW.PrintWords Go.Proofs.YtfemklaeonkidaaW.PrintLast Go.Proofs.YtfemklaeonkidaaW.PrintMore Go.Proofs.YtfemklaeonkidaaW.Hand
attribute [local go_sem] max2_int min2_int max_two min_two max_three min_three max_four min_four   -- for this text's walks alone
set_option linter.unusedVariables false
set_option linter.unusedSimpArgs false

-- NOT PRINTED: function 11 (headroomlaw10_TwoPasses)

/-! ### headroomlaw10_TwoSums: function 6 -/
/-- Are a sum and what it must be near, to 2? -/
def nearD (b s m n k : Int) : Int := wrap64 (wrap64 (wrap64 (m + n) * 2 ^ (b + s).toNat) - k)
def nearB (b s m n k : Int) : Bool := decide (mx (nearD b s m n k) (wrap64 (-(nearD b s m n k))) ≤ wrap64 (2 * 2 ^ (b + s).toNat))
set_option maxRecDepth 100000 in
theorem twoSums_near (b s m n k : Int) (A B : Nat) (hb : 0 ≤ b ∧ b ≤ 29) (hs : 0 ≤ s ∧ s ≤ 3) (w : World) (hA : w.cell? ⟨A, 0, none⟩ = some (.int .i64 b)) (hB : w.cell? ⟨B, 0, none⟩ = some (.int .i64 s)) :
    Calls Try.prog 33 #[.int .i64 m, .int .i64 n, .int .i64 k, .pointer (some ⟨A, 0, none⟩), .pointer (some ⟨B, 0, none⟩)] w fun e w' => e = .returned (.bool (nearB b s m n k)) ∧ w' = w := by
  have z1 : wrap64 (b + s) = b + s := by unfold wrap64; omega
  have z2 : 0 ≤ b + s := by omega
  go_enter Try.func33, Try.ntmps33
  go_wp2
  all_goals
    go_ret
    refine ⟨congrArg (fun q => Ending.returned (Value.bool q)) ?_, rfl⟩
    unfold nearB nearD mx
    apply decide_eq_decide.2
    split <;> omega
theorem bs_x {W w : World} {p : Addr} {v : Value} (hb : Below W.heap.size W w) (x : W.cell? p = some v) : w.cell? p = some v := (hb.cell (World.block_lt_of_cell? W _ x)).trans x
theorem bs_at {W : World} {n : Nat} (h : n = W.heap.size) (v : Value) (t : TypeId) : (W.alloc (.cells #[v] t)).cell? ⟨n, 0, none⟩ = some v := by subst h; exact (it_new W v t).1
theorem bs_at2 {W : World} {n : Nat} (h : n = W.heap.size) (u v : Value) (t : TypeId) : (W.alloc (.cells #[u, v] t)).cell? ⟨n, 0, none⟩ = some u ∧ (W.alloc (.cells #[u, v] t)).cell? ⟨n, 1, none⟩ = some v := by
  subst h
  have := cells2 (heap_alloc_new W (.cells #[u, v] t))
  exact ⟨this.1, this.2.1⟩
theorem keep12 {a0 a1 a2 a3 a4 a5 a6 a7 a8 a9 a10 a11 : Addr} {v0 v1 v2 v3 v4 v5 v6 v7 v8 v9 v10 v11 : Value} {W W' : World} (hb : Below W.heap.size W W') (h : W.cell? a0 = some v0 ∧ W.cell? a1 = some v1 ∧ W.cell? a2 = some v2 ∧ W.cell? a3 = some v3 ∧ W.cell? a4 = some v4 ∧ W.cell? a5 = some v5 ∧ W.cell? a6 = some v6 ∧ W.cell? a7 = some v7 ∧ W.cell? a8 = some v8 ∧ W.cell? a9 = some v9 ∧ W.cell? a10 = some v10 ∧ W.cell? a11 = some v11) : W'.cell? a0 = some v0 ∧ W'.cell? a1 = some v1 ∧ W'.cell? a2 = some v2 ∧ W'.cell? a3 = some v3 ∧ W'.cell? a4 = some v4 ∧ W'.cell? a5 = some v5 ∧ W'.cell? a6 = some v6 ∧ W'.cell? a7 = some v7 ∧ W'.cell? a8 = some v8 ∧ W'.cell? a9 = some v9 ∧ W'.cell? a10 = some v10 ∧ W'.cell? a11 = some v11 := ⟨bs_x hb h.1, bs_x hb h.2.1, bs_x hb h.2.2.1, bs_x hb h.2.2.2.1, bs_x hb h.2.2.2.2.1, bs_x hb h.2.2.2.2.2.1, bs_x hb h.2.2.2.2.2.2.1, bs_x hb h.2.2.2.2.2.2.2.1, bs_x hb h.2.2.2.2.2.2.2.2.1, bs_x hb h.2.2.2.2.2.2.2.2.2.1, bs_x hb h.2.2.2.2.2.2.2.2.2.2.1, bs_x hb h.2.2.2.2.2.2.2.2.2.2.2⟩
theorem twoSums_true (b s m n k : Int) (A B : Nat) (hb : 0 ≤ b ∧ b ≤ 29) (hs : 0 ≤ s ∧ s ≤ 3) (hn : nearB b s m n k = true) (w : World) (hA : w.cell? ⟨A, 0, none⟩ = some (.int .i64 b)) (hB : w.cell? ⟨B, 0, none⟩ = some (.int .i64 s)) :
    Calls Try.prog 33 #[.int .i64 m, .int .i64 n, .int .i64 k, .pointer (some ⟨A, 0, none⟩), .pointer (some ⟨B, 0, none⟩)] w fun e w' => e = .returned (.bool true) ∧ w' = w := by
  have := twoSums_near b s m n k A B hb hs w hA hB
  rw [hn] at this
  exact this
def sumsOk (a00 a01 a10 a11 a20 a21 b s x0 x1 y0 y1 : Int) : Prop :=
  0 ≤ b ∧ b ≤ 29 ∧ 0 ≤ s ∧ s ≤ 3 ∧ nearB b s x0 y0 (wrap64 (wrap64 (2 * a00) * 2 ^ b.toNat)) = true ∧ nearB b s x1 y1 (wrap64 (wrap64 (2 * a01) * 2 ^ b.toNat)) = true ∧
    nearB b s x0 (wrap64 (-y0)) (wrap64 (2 * wrap64 (wrap64 (a10 * a20) - wrap64 (a11 * a21)))) = true ∧ nearB b s x1 (wrap64 (-y1)) (wrap64 (2 * wrap64 (wrap64 (a10 * a21) + wrap64 (a11 * a20)))) = true

def headroomlaw10_TwoSums.Pure : Prop := ∀ (a0_0 : Int) (a0_1 : Int) (a1_0 : Int) (a1_1 : Int) (a2_0 : Int) (a2_1 : Int) (a3 : Int) (a4 : Int) (a5 : Int), (Lit.int .i64 a0_0).wf = true → (Lit.int .i64 a0_1).wf = true → (Lit.int .i64 a1_0).wf = true → (Lit.int .i64 a1_1).wf = true → (Lit.int .i64 a2_0).wf = true → (Lit.int .i64 a2_1).wf = true → (Lit.int .i64 a3).wf = true → (Lit.int .i64 a4).wf = true → (Lit.int .i64 a5).wf = true → (headroomlaw10_alive.f = some true ∧ ∃ x0 x1 y0 y1 e, two_Pair.f a0_0 a0_1 a1_0 a1_1 a2_0 a2_1 a3 a4 a5 = some (x0, x1, y0, y1, e) ∧ (e = 0 ∧ sumsOk a0_0 a0_1 a1_0 a1_1 a2_0 a2_1 a3 a4 x0 x1 y0 y1 ∨ e ≠ 0 ∧ x0 = 0 ∧ x1 = 0 ∧ y0 = 0 ∧ y1 = 0))
set_option maxHeartbeats 4000000 in
set_option maxRecDepth 100000 in
theorem headroomlaw10_TwoSums.walk (P : headroomlaw10_TwoSums.Pure) (a0_0 : Int) (a0_1 : Int) (a1_0 : Int) (a1_1 : Int) (a2_0 : Int) (a2_1 : Int) (a3 : Int) (a4 : Int) (a5 : Int) (w : World) (w0_ : (Lit.int .i64 a0_0).wf = true) (w1_ : (Lit.int .i64 a0_1).wf = true) (w2_ : (Lit.int .i64 a1_0).wf = true) (w3_ : (Lit.int .i64 a1_1).wf = true) (w4_ : (Lit.int .i64 a2_0).wf = true) (w5_ : (Lit.int .i64 a2_1).wf = true) (w6_ : (Lit.int .i64 a3).wf = true) (w7_ : (Lit.int .i64 a4).wf = true) (w8_ : (Lit.int .i64 a5).wf = true) :
    Calls Try.prog 6 #[.agg #[.int .i64 a0_0, .int .i64 a0_1], .agg #[.int .i64 a1_0, .int .i64 a1_1], .agg #[.int .i64 a2_0, .int .i64 a2_1], .int .i64 a3, .int .i64 a4, .int .i64 a5] w fun e w' => e = .returned (.bool true) ∧ Below w.heap.size w w' := by
  have h := P a0_0 a0_1 a1_0 a1_1 a2_0 a2_1 a3 a4 a5 w0_ w1_ w2_ w3_ w4_ w5_ w6_ w7_ w8_
  clear P
  obtain ⟨hal, x0, x1, y0, y1, e, hP, hcase⟩ := h
  have HA := Lib.hid hal
  have HP := Lib.hid hP
  clear hal hP
  rcases hcase with ⟨rfl, hok⟩ | ⟨he, rfl, rfl, rfl, rfl⟩
  · obtain ⟨q1, q2, q3, q4, q5, q6, q7, q8⟩ := hok
    replace q5 : nearB a3 a4 x0 y0 (IntKind.i64.wrap (IntKind.i64.wrap (2 * a0_0) * 2 ^ a3.toNat)) = true := by simp only [i64_w]; exact q5
    replace q6 : nearB a3 a4 x1 y1 (IntKind.i64.wrap (IntKind.i64.wrap (2 * a0_1) * 2 ^ a3.toNat)) = true := by simp only [i64_w]; exact q6
    replace q7 : nearB a3 a4 x0 (IntKind.i64.wrap (-y0)) (IntKind.i64.wrap (2 * IntKind.i64.wrap (IntKind.i64.wrap (a1_0 * a2_0) - IntKind.i64.wrap (a1_1 * a2_1)))) = true := by simp only [i64_w]; exact q7
    replace q8 : nearB a3 a4 x1 (IntKind.i64.wrap (-y1)) (IntKind.i64.wrap (2 * IntKind.i64.wrap (IntKind.i64.wrap (a1_0 * a2_1) + IntKind.i64.wrap (a1_1 * a2_0)))) = true := by simp only [i64_w]; exact q8
    obtain ⟨W5, hW5⟩ : ∃ W5, ((((w.alloc (.cells #[.int .i64 a0_0, .int .i64 a0_1] 37)).alloc (.cells #[.int .i64 a1_0, .int .i64 a1_1] 37)).alloc (.cells #[.int .i64 a2_0, .int .i64 a2_1] 37)).alloc (.cells #[.int .i64 a3] 3)).alloc (.cells #[.int .i64 a4] 3) = W5 := ⟨_, rfl⟩
    have X := Lib.hid (show Below w.heap.size w W5 ∧ W5.cell? ⟨w.heap.size + 1 + 1 + 1, 0, none⟩ = some (.int .i64 a3) ∧ W5.cell? ⟨w.heap.size + 1 + 1 + 1 + 1, 0, none⟩ = some (.int .i64 a4) ∧ W5.cell? ⟨w.heap.size, 0, none⟩ = some (.int .i64 a0_0) ∧ W5.cell? ⟨w.heap.size, 1, none⟩ = some (.int .i64 a0_1) ∧ W5.cell? ⟨w.heap.size + 1, 0, none⟩ = some (.int .i64 a1_0) ∧ W5.cell? ⟨w.heap.size + 1, 1, none⟩ = some (.int .i64 a1_1) ∧ W5.cell? ⟨w.heap.size + 1 + 1, 0, none⟩ = some (.int .i64 a2_0) ∧ W5.cell? ⟨w.heap.size + 1 + 1, 1, none⟩ = some (.int .i64 a2_1) by
      rw [← hW5]
      refine ⟨by repeat (first | exact Below.refl _ _ | refine below_alloc ?_ _), ?_, ?_, ?_, ?_, ?_, ?_, ?_, ?_⟩
      all_goals repeat (first | exact bs_at (by simp) _ _ | exact (bs_at2 (by simp) _ _ _).1 | exact (bs_at2 (by simp) _ _ _).2 | refine it_alloc _ ?_))
    obtain ⟨z1, x0_, x1_, x2_, x3_, x4_, x5_, x6_, x7_⟩ := X.out
    go_enter Try.func6, Try.ntmps6
    go_wp2_with (fail)
    refine (two_Pair.calls _ _ _ _ _ _ _ _ _ _ _ _ _ _ _ HP.out).mono ?_
    rintro e w1 ⟨rfl, hb1⟩
    have HB1 := Lib.hid hb1
    clear hb1 hW5 x0_ x1_ x2_ x3_ x4_ x5_ x6_ x7_
    obtain ⟨W9, hW9⟩ : ∃ W9, (w1.alloc (.cells #[.int .i64 x0, .int .i64 x1] 37)).alloc (.cells #[.int .i64 y0, .int .i64 y1] 37) = W9 := ⟨_, rfl⟩
    have hb9 : Below W5.heap.size W5 W9 := by rw [← hW9]; exact below_alloc (below_alloc HB1.out _) _
    have Y := Lib.hid (show W9.cell? ⟨w.heap.size + 1 + 1 + 1, 0, none⟩ = some (.int .i64 a3) ∧ W9.cell? ⟨w.heap.size + 1 + 1 + 1 + 1, 0, none⟩ = some (.int .i64 a4) ∧ W9.cell? ⟨w.heap.size, 0, none⟩ = some (.int .i64 a0_0) ∧ W9.cell? ⟨w.heap.size, 1, none⟩ = some (.int .i64 a0_1) ∧ W9.cell? ⟨w.heap.size + 1, 0, none⟩ = some (.int .i64 a1_0) ∧ W9.cell? ⟨w.heap.size + 1, 1, none⟩ = some (.int .i64 a1_1) ∧ W9.cell? ⟨w.heap.size + 1 + 1, 0, none⟩ = some (.int .i64 a2_0) ∧ W9.cell? ⟨w.heap.size + 1 + 1, 1, none⟩ = some (.int .i64 a2_1) ∧ W9.cell? ⟨w1.heap.size, 0, none⟩ = some (.int .i64 x0) ∧ W9.cell? ⟨w1.heap.size, 1, none⟩ = some (.int .i64 x1) ∧ W9.cell? ⟨w1.heap.size + 1, 0, none⟩ = some (.int .i64 y0) ∧ W9.cell? ⟨w1.heap.size + 1, 1, none⟩ = some (.int .i64 y1) by
      obtain ⟨_, x0_, x1_, x2_, x3_, x4_, x5_, x6_, x7_⟩ := X.out
      refine ⟨bs_x hb9 x0_, bs_x hb9 x1_, bs_x hb9 x2_, bs_x hb9 x3_, bs_x hb9 x4_, bs_x hb9 x5_, bs_x hb9 x6_, bs_x hb9 x7_, ?_⟩
      rw [← hW9]
      refine ⟨?_, ?_, ?_, ?_⟩
      all_goals repeat (first | exact (bs_at2 (by simp) _ _ _).1 | exact (bs_at2 (by simp) _ _ _).2 | refine it_alloc _ ?_))
    have YD := Lib.hid (show W9.drew.cell? ⟨w.heap.size + 1 + 1 + 1, 0, none⟩ = some (.int .i64 a3) ∧ W9.drew.cell? ⟨w.heap.size + 1 + 1 + 1 + 1, 0, none⟩ = some (.int .i64 a4) from ⟨Y.out.1, Y.out.2.1⟩)
    have HB9 := Lib.hid (show Below w.heap.size w W9 from below_then z1 z1.size hb9)
    clear hb9
    go_wp2_with (fail)
    simp only [List.append_eq, List.cons_append, List.nil_append]
    go_region_held3 (fun W => W.cell? ⟨w.heap.size + 1 + 1 + 1, 0, none⟩ = some (.int .i64 a3) ∧ W.cell? ⟨w.heap.size + 1 + 1 + 1 + 1, 0, none⟩ = some (.int .i64 a4) ∧ W.cell? ⟨w.heap.size, 0, none⟩ = some (.int .i64 a0_0) ∧ W.cell? ⟨w.heap.size, 1, none⟩ = some (.int .i64 a0_1) ∧ W.cell? ⟨w.heap.size + 1, 0, none⟩ = some (.int .i64 a1_0) ∧ W.cell? ⟨w.heap.size + 1, 1, none⟩ = some (.int .i64 a1_1) ∧ W.cell? ⟨w.heap.size + 1 + 1, 0, none⟩ = some (.int .i64 a2_0) ∧ W.cell? ⟨w.heap.size + 1 + 1, 1, none⟩ = some (.int .i64 a2_1) ∧ W.cell? ⟨w1.heap.size, 0, none⟩ = some (.int .i64 x0) ∧ W.cell? ⟨w1.heap.size, 1, none⟩ = some (.int .i64 x1) ∧ W.cell? ⟨w1.heap.size + 1, 0, none⟩ = some (.int .i64 y0) ∧ W.cell? ⟨w1.heap.size + 1, 1, none⟩ = some (.int .i64 y1)) (first | exact Y.out | (refine keep12 hb2 ?_; assumption) | assumption) (first
      | (go_at_call 29; refine (headroomlaw10_alive.calls _ _ HA.out).mono ?_; rintro e w2 ⟨rfl, hb2⟩)
      | (go_at_call 33; (first
          | with_reducible refine (twoSums_true a3 a4 _ _ _ _ _ ⟨q1, q2⟩ ⟨q3, q4⟩ q5 w2 (bs_x hb2 YD.out.1) (bs_x hb2 YD.out.2)).mono ?_
          | with_reducible refine (twoSums_true a3 a4 _ _ _ _ _ ⟨q1, q2⟩ ⟨q3, q4⟩ q6 w2 (bs_x hb2 YD.out.1) (bs_x hb2 YD.out.2)).mono ?_
          | with_reducible refine (twoSums_true a3 a4 _ _ _ _ _ ⟨q1, q2⟩ ⟨q3, q4⟩ q7 w2 (bs_x hb2 YD.out.1) (bs_x hb2 YD.out.2)).mono ?_
          | with_reducible refine (twoSums_true a3 a4 _ _ _ _ _ ⟨q1, q2⟩ ⟨q3, q4⟩ q8 w2 (bs_x hb2 YD.out.1) (bs_x hb2 YD.out.2)).mono ?_
          | fail); rintro e w3 ⟨rfl, h3⟩; obtain rfl := h3.symm)
      | fail)
    all_goals
      go_wp2
      go_ret
      exact ⟨rfl, below_then (below_drew1 HB9.out) (by simpa using HB9.out.size) hb2⟩
  · have hbe : (e != 0) = true := by simpa using he
    go_enter Try.func6, Try.ntmps6
    go_wp2_with (fail)
    refine (two_Pair.calls _ _ _ _ _ _ _ _ _ _ _ _ _ _ _ HP.out).mono ?_
    rintro e w1 ⟨rfl, hb1⟩
    have HB1 := Lib.hid hb1
    clear hb1
    go_wp2_with (fail)
    refine (headroomlaw10_alive.calls _ _ HA.out).mono ?_
    rintro e w2 ⟨rfl, hb2⟩
    have c0 := bs_at2 (W := w1) rfl (.int .i64 0) (.int .i64 0) 37
    have c1 := bs_at2 (W := w1.alloc (.cells #[.int .i64 0, .int .i64 0] 37)) (n := w1.heap.size + 1) (by simp) (.int .i64 0) (.int .i64 0) 37
    have e0 := bs_x hb2 (it_alloc _ c0.1)
    have e1 := bs_x hb2 (it_alloc _ c0.2)
    have e2 := bs_x hb2 c1.1
    have e3 := bs_x hb2 c1.2
    have HB2 := Lib.hid (show Below w.heap.size w w2 from below_then (below_alloc (below_alloc (below_then (by repeat (first | exact Below.refl _ _ | refine below_alloc ?_ _)) (by simp; omega) HB1.out) _) _) (by have := HB1.out.size; simp at this ⊢; omega) hb2)
    clear c0 c1 hb2
    go_wp2
    go_ret
    exact ⟨rfl, HB2.out⟩

/-! ### four_settings: function 66 -/
def four_settings.f (a0 : Int) (a1 : Int) (a2 : Int) : Option (Bool) := (round_Shift.f 0 0 a2).bind fun bt387 => (if a0 ≥ 0 then (if a0 ≤ 29 then (if a1 ≥ 0 then (if a1 ≤ 3 then (some (bt387.2 == 0)) else (some false)) else (some false)) else (some false)) else (some false))
set_option maxHeartbeats 8000000 in
set_option maxRecDepth 100000 in
theorem four_settings.calls (a0 : Int) (a1 : Int) (a2 : Int) (r : Bool) (w : World) (h : four_settings.f a0 a1 a2 = some r) :
    Calls Try.prog 66 #[.int .i64 a0, .int .i64 a1, .int .i64 a2] w fun e w' => e = .returned (.bool r) ∧ Below w.heap.size w w' := by
  have HB := Aside0.mk (Below.refl w.heap.size w)
  have H : ((round_Shift.f 0 0 a2).bind fun bt387 => (if a0 ≥ 0 then (if a0 ≤ 29 then (if a1 ≥ 0 then (if a1 ≤ 3 then (some (bt387.2 == 0)) else (some false)) else (some false)) else (some false)) else (some false))) = some r := h
  clear h
  replace H := Option.bind_eq_some_iff.mp H
  obtain ⟨⟨t387, t388⟩, A40, H⟩ := H
  replace H : (if a0 ≥ 0 then (if a0 ≤ 29 then (if a1 ≥ 0 then (if a1 ≤ 3 then (some (t388 == 0)) else (some false)) else (some false)) else (some false)) else (some false)) = some r := H
  have A4 := Aside0.mk A40
  clear A40
  by_cases c5 : a0 ≥ 0
  · rw [if_pos c5] at H
    have c5b0 : decide (0 ≤ a0) = true := decide_eq_true c5
    clear c5
    by_cases c6 : a0 ≤ 29
    · rw [if_pos c6] at H
      have c6b0 : decide (a0 ≤ 29) = true := decide_eq_true c6
      clear c6
      by_cases c7 : a1 ≥ 0
      · rw [if_pos c7] at H
        have c7b0 : decide (0 ≤ a1) = true := decide_eq_true c7
        clear c7
        by_cases c8 : a1 ≤ 3
        · rw [if_pos c8] at H
          have c8b0 : decide (a1 ≤ 3) = true := decide_eq_true c8
          clear c8
          obtain rfl := Option.some.inj H
          go_enter Try.func66, Try.ntmps66
          go_wp2_with (first | ((with_reducible refine gate_callee (f := 62) rfl ?_); refine goesL_ (some 11) rfl rfl Try.func62 (by kernel_rfl) rfl #[.int .i64 0, .int .i64 0, .int .i64 a2] rfl (by (try simp only [List.map_toArray, List.map_cons, List.map_nil]); first | done | rfl | (simp only [List.length_drop, List.length_take]; rfl)) ?_; (with_reducible refine (round_Shift.calls 0 0 a2 t387 t388 _ A4.out).mono ?_); rintro e w9 ⟨rfl, hb⟩; refine ⟨_, rfl, ?_⟩; have n0_ := Aside0.mk (below_step (by repeat (first | (with_reducible first | exact HB.out | apply below_alloc | apply pw_below_drewN | apply below_drew1) | exact HB.out)) hb); clear HB; have HB := n0_; clear n0_; (try clear hb); (try clear hb2); (try clear hk); (try clear hi)))
          go_ret
          exact ⟨by first | rfl | (simp [errW_none, errW_some] <;> rfl) | (simp [*, errW_none, errW_some] <;> rfl), by repeat (first | (with_reducible first | exact HB.out | apply below_alloc | apply pw_below_drewN | apply below_drew1) | exact HB.out)⟩
        · rw [if_neg c8] at H
          have c8b0 : decide (a1 ≤ 3) = false := decide_eq_false c8
          clear c8
          obtain rfl := Option.some.inj H
          go_enter Try.func66, Try.ntmps66
          go_wp2_with (first | ((with_reducible refine gate_callee (f := 62) rfl ?_); refine goesL_ (some 11) rfl rfl Try.func62 (by kernel_rfl) rfl #[.int .i64 0, .int .i64 0, .int .i64 a2] rfl (by (try simp only [List.map_toArray, List.map_cons, List.map_nil]); first | done | rfl | (simp only [List.length_drop, List.length_take]; rfl)) ?_; (with_reducible refine (round_Shift.calls 0 0 a2 t387 t388 _ A4.out).mono ?_); rintro e w10 ⟨rfl, hb⟩; refine ⟨_, rfl, ?_⟩; have n0_ := Aside0.mk (below_step (by repeat (first | (with_reducible first | exact HB.out | apply below_alloc | apply pw_below_drewN | apply below_drew1) | exact HB.out)) hb); clear HB; have HB := n0_; clear n0_; (try clear hb); (try clear hb2); (try clear hk); (try clear hi)))
          go_ret
          exact ⟨by first | rfl | (simp [errW_none, errW_some] <;> rfl) | (simp [*, errW_none, errW_some] <;> rfl), by repeat (first | (with_reducible first | exact HB.out | apply below_alloc | apply pw_below_drewN | apply below_drew1) | exact HB.out)⟩
      · rw [if_neg c7] at H
        have c7b0 : decide (0 ≤ a1) = false := decide_eq_false c7
        clear c7
        obtain rfl := Option.some.inj H
        go_enter Try.func66, Try.ntmps66
        go_wp2_with (first | ((with_reducible refine gate_callee (f := 62) rfl ?_); refine goesL_ (some 11) rfl rfl Try.func62 (by kernel_rfl) rfl #[.int .i64 0, .int .i64 0, .int .i64 a2] rfl (by (try simp only [List.map_toArray, List.map_cons, List.map_nil]); first | done | rfl | (simp only [List.length_drop, List.length_take]; rfl)) ?_; (with_reducible refine (round_Shift.calls 0 0 a2 t387 t388 _ A4.out).mono ?_); rintro e w11 ⟨rfl, hb⟩; refine ⟨_, rfl, ?_⟩; have n0_ := Aside0.mk (below_step (by repeat (first | (with_reducible first | exact HB.out | apply below_alloc | apply pw_below_drewN | apply below_drew1) | exact HB.out)) hb); clear HB; have HB := n0_; clear n0_; (try clear hb); (try clear hb2); (try clear hk); (try clear hi)))
        go_ret
        exact ⟨by first | rfl | (simp [errW_none, errW_some] <;> rfl) | (simp [*, errW_none, errW_some] <;> rfl), by repeat (first | (with_reducible first | exact HB.out | apply below_alloc | apply pw_below_drewN | apply below_drew1) | exact HB.out)⟩
    · rw [if_neg c6] at H
      have c6b0 : decide (a0 ≤ 29) = false := decide_eq_false c6
      clear c6
      obtain rfl := Option.some.inj H
      go_enter Try.func66, Try.ntmps66
      go_wp2_with (first | ((with_reducible refine gate_callee (f := 62) rfl ?_); refine goesL_ (some 11) rfl rfl Try.func62 (by kernel_rfl) rfl #[.int .i64 0, .int .i64 0, .int .i64 a2] rfl (by (try simp only [List.map_toArray, List.map_cons, List.map_nil]); first | done | rfl | (simp only [List.length_drop, List.length_take]; rfl)) ?_; (with_reducible refine (round_Shift.calls 0 0 a2 t387 t388 _ A4.out).mono ?_); rintro e w12 ⟨rfl, hb⟩; refine ⟨_, rfl, ?_⟩; have n0_ := Aside0.mk (below_step (by repeat (first | (with_reducible first | exact HB.out | apply below_alloc | apply pw_below_drewN | apply below_drew1) | exact HB.out)) hb); clear HB; have HB := n0_; clear n0_; (try clear hb); (try clear hb2); (try clear hk); (try clear hi)))
      go_ret
      exact ⟨by first | rfl | (simp [errW_none, errW_some] <;> rfl) | (simp [*, errW_none, errW_some] <;> rfl), by repeat (first | (with_reducible first | exact HB.out | apply below_alloc | apply pw_below_drewN | apply below_drew1) | exact HB.out)⟩
  · rw [if_neg c5] at H
    have c5b0 : decide (0 ≤ a0) = false := decide_eq_false c5
    clear c5
    obtain rfl := Option.some.inj H
    go_enter Try.func66, Try.ntmps66
    go_wp2_with (first | ((with_reducible refine gate_callee (f := 62) rfl ?_); refine goesL_ (some 11) rfl rfl Try.func62 (by kernel_rfl) rfl #[.int .i64 0, .int .i64 0, .int .i64 a2] rfl (by (try simp only [List.map_toArray, List.map_cons, List.map_nil]); first | done | rfl | (simp only [List.length_drop, List.length_take]; rfl)) ?_; (with_reducible refine (round_Shift.calls 0 0 a2 t387 t388 _ A4.out).mono ?_); rintro e w13 ⟨rfl, hb⟩; refine ⟨_, rfl, ?_⟩; have n0_ := Aside0.mk (below_step (by repeat (first | (with_reducible first | exact HB.out | apply below_alloc | apply pw_below_drewN | apply below_drew1) | exact HB.out)) hb); clear HB; have HB := n0_; clear n0_; (try clear hb); (try clear hb2); (try clear hk); (try clear hi)))
    go_ret
    exact ⟨by first | rfl | (simp [errW_none, errW_some] <;> rfl) | (simp [*, errW_none, errW_some] <;> rfl), by repeat (first | (with_reducible first | exact HB.out | apply below_alloc | apply pw_below_drewN | apply below_drew1) | exact HB.out)⟩

-- NOT PRINTED: function 90 (four_turns)

/-! ### cx_Turn: function 91 -/
set_option maxHeartbeats 2000000 in
theorem cx_Turn.make (a0_0 a0_1 n : Int) (w : World) (g g1 : Nat) (hB : w.heap[g]? = some (.cells #[.int .i64 a0_0, .int .i64 a0_1] 37 (0, 0))) (hB1 : w.heap[g1]? = some (.cells #[.int .i64 n] 3 (0, 0))) :
    Calls Try.prog 103 #[.pointer (some ⟨g1, 0, none⟩), .pointer (some ⟨g, 0, none⟩)] w fun e w' => e = .returned (.agg #[.int .i64 (turned a0_0 a0_1 (n % 4).toNat).1, .int .i64 (turned a0_0 a0_1 (n % 4).toNat).2]) ∧ w.grownBy w' (some g) := by
  have hn : 0 ≤ n % 4 ∧ n % 4 < 4 := by omega
  obtain ⟨m, hm⟩ : ∃ m : Nat, (m : Int) = n % 4 := ⟨(n % 4).toNat, by omega⟩
  have hmt : (n % 4).toNat = m := by omega
  rw [hmt]
  have hand := Lib.hid (show bits .and .i64 n 3 = (m : Int) by rw [and3_64, hm])
  have hm4 : m < 4 := by omega
  obtain ⟨c2, _, l2⟩ := cells1 hB1
  have HB := Lib.hid hB
  have hl := lt_of_block hB
  clear hB hB1 hm hmt hn
  go_enter Try.func103, Try.ntmps103
  obtain ⟨c0, c1, _, _, _⟩ := cells2 HB.out
  go_wp2
  rw [hand.out]
  clear c0 c1
  have hd : g ≠ w.heap.size := by omega
  go_loopw [5] (fun i wr => ∃ k : Nat, k ≤ m ∧ i = .int .i64 k ∧ Hid (wr.heap[g]? = some (.cells #[.int .i64 (turned a0_0 a0_1 k).1, .int .i64 (turned a0_0 a0_1 k).2] 37 (0, 0))) ∧ Hid (wr.heap[w.heap.size]? = some (.cells #[.int .i64 0, .int .i64 0] 37 (0, 0))) ∧ Hid (w.grownBy wr (some g))) (fun i _ => m - (intOf i).toNat)
  case atStart => exact ⟨0, Nat.zero_le _, rfl, Lib.hid (blk_alloc HB.out _), Lib.hid (new_at rfl), Lib.hid (only_alloc (World.grownBy.refl _ _) _)⟩
  case round =>
    obtain ⟨k, hk, rfl, H0, H1, HG⟩ := hrel
    obtain ⟨c0, c1, f0, f1, l0⟩ := cells2 H0.out
    by_cases hlt : k < m
    · go_wp2
      go_roundw
      case rel => exact ⟨k + 1, by omega, by go_num, Lib.hid (blk_put (blk_put H0.out 0 _ rfl) 1 _ rfl), Lib.hid (blk_far (blk_far H1.out (by exact hd.symm) _) (by exact hd.symm) _), Lib.hid (only_setCell (only_setCell HG.out (.inl rfl) _) (.inl rfl) _)⟩
      case measure => simp [intOf]; omega
    · obtain rfl : k = m := by omega
      obtain ⟨c2, c3, f2, f3, l2⟩ := cells2 H1.out
      go_wp2
      refine bodyPost_ret (v := .agg #[.int .i64 (turned a0_0 a0_1 k).1, .int .i64 (turned a0_0 a0_1 k).2]) (by simp only [results, Try.results103]; go_simp) rfl ⟨rfl, ?_⟩
      repeat (first | exact HG.out | refine only_setCell ?_ (.inr (by simp)) _)
def cx_Turn.f (a0_0 a0_1 a1 : Int) : Option (Int × Int × Int) := if win 2305843009213693952 a0_0 a0_1 = true then some ((qturn a0_0 a0_1 a1).1, (qturn a0_0 a0_1 a1).2, 0) else some (0, 0, 2)
set_option maxHeartbeats 2000000 in
theorem cx_Turn.way0 (a0_0 a0_1 a1 : Int) (w : World) (h1 : Hid (win 2305843009213693952 a0_0 a0_1 = true)) :
    Calls Try.prog 91 #[.agg #[.int .i64 a0_0, .int .i64 a0_1], .int .i64 a1] w fun e w' => e = .returned (.tuple #[.agg #[.int .i64 (turned a0_0 a0_1 (a1 % 4).toNat).1, .int .i64 (turned a0_0 a0_1 (a1 % 4).toNat).2], .int .i64 0]) ∧ Below w.heap.size w w' := by
  go_enter Try.func91, Try.ntmps91
  go_wp2_with (fail)
  refine (within_one 2305843009213693952 a0_0 a0_1 true _ _ h1 (by omega) (by omega) (new_at (by simp))).mono ?_
  rintro e w1 ⟨rfl, hb1⟩
  have HB1 := Lib.hid (below_then (by repeat (first | exact Below.refl _ _ | refine below_alloc ?_ _ | refine Below.setCell ?_ (by first | omega | (simp; done) | (simp; omega)) _)) (by first | (simp; done) | (simp; omega)) hb1 : Below w.heap.size w w1)
  have Ba_1 := Lib.hid (blk_below (by repeat (first | (refine new_at ?_; simp; done) | refine blk_alloc ?_ _)) hb1 : w1.heap[w.heap.size]? = some (.cells #[.int .i64 a0_0, .int .i64 a0_1] 37 (0, 0)))
  obtain ⟨ca0_1, ca1_1, fa0_1, fa1_1, la_1⟩ := cells2 Ba_1.out
  have Bn_1 := Lib.hid (blk_below (by repeat (first | (refine new_at ?_; simp; done) | refine blk_alloc ?_ _)) hb1 : w1.heap[w.heap.size + 1]? = some (.cells #[.int .i64 a1] 3 (0, 0)))
  obtain ⟨cn0_1, fn0_1, ln_1⟩ := cells1 Bn_1.out
  have Br_1 := Lib.hid (blk_below (by repeat (first | (refine new_at ?_; simp; done) | refine blk_alloc ?_ _)) hb1 : w1.heap[w.heap.size + 1 + 1]? = some (.cells #[.int .i64 0, .int .i64 0] 37 (0, 0)))
  obtain ⟨cr0_1, cr1_1, fr0_1, fr1_1, lr_1⟩ := cells2 Br_1.out
  have hz1 := HB1.out.size
  clear hb1
  go_wp2_with (go_at_call 93; go_in)
  refine (cx_Turn.make a0_0 a0_1 a1 _ _ _ (blk_alloc Ba_1.out _) (blk_alloc Bn_1.out _)).mono ?_
  rintro e w2 ⟨rfl, hg⟩
  have hz2 := hg.size
  simp at hz2
  have Bm := Lib.hid (blk_grown (new_at rfl) hg (by intro h_; injection h_; omega) : w2.heap[w1.heap.size]? = some (.cells #[.int .i64 0, .int .i64 0] 37 (0, 0)))
  have Br_2 := Lib.hid (blk_grown (blk_alloc Br_1.out _) hg (by intro h_; injection h_; omega) : w2.heap[w.heap.size + 1 + 1]? = some (.cells #[.int .i64 0, .int .i64 0] 37 (0, 0)))
  have HB2 := Lib.hid (below_only (below_alloc HB1.out _) (by simp; omega) (Nat.le_refl _) hg)
  clear hg ca0_1 ca1_1 fa0_1 fa1_1 la_1 cn0_1 fn0_1 ln_1 cr0_1 cr1_1 fr0_1 fr1_1
  obtain ⟨cm0, cm1, fm0, fm1, lm⟩ := cells2 Bm.out
  obtain ⟨cr0, cr1, fr0, fr1, lr⟩ := cells2 Br_2.out
  go_wp2
  refine bodyPost_ret (v := .tuple #[.agg #[.int .i64 (turned a0_0 a0_1 (a1 % 4).toNat).1, .int .i64 (turned a0_0 a0_1 (a1 % 4).toNat).2], .int .i64 0]) (by simp only [results, Try.results93]; go_simp) rfl ?_
  go_wp2
  have hne : w.heap.size + 1 + 1 ≠ w1.heap.size := by omega
  refine bodyPost_ret (v := .tuple #[.agg #[.int .i64 (turned a0_0 a0_1 (a1 % 4).toNat).1, .int .i64 (turned a0_0 a0_1 (a1 % 4).toNat).2], .int .i64 0]) (by simp only [results, Try.results91]; go_simp) rfl ?_
  refine ⟨rfl, ?_⟩
  repeat (first | exact HB2.out | refine below_alloc ?_ _ | refine Below.setCell ?_ (by first | omega | (simp; done) | (simp; omega)) _)
set_option maxHeartbeats 2000000 in
theorem cx_Turn.way1 (a0_0 a0_1 a1 : Int) (w : World) (h1 : Hid (win 2305843009213693952 a0_0 a0_1 = false)) :
    Calls Try.prog 91 #[.agg #[.int .i64 a0_0, .int .i64 a0_1], .int .i64 a1] w fun e w' => e = .returned (.tuple #[.agg #[.int .i64 0, .int .i64 0], .int .i64 2]) ∧ Below w.heap.size w w' := by
  go_enter Try.func91, Try.ntmps91
  go_wp2_with (fail)
  refine (within_one 2305843009213693952 a0_0 a0_1 false _ _ h1 (by omega) (by omega) (new_at (by simp))).mono ?_
  rintro e w1 ⟨rfl, hb1⟩
  have HB1 := Lib.hid (below_then (by repeat (first | exact Below.refl _ _ | refine below_alloc ?_ _ | refine Below.setCell ?_ (by first | omega | (simp; done) | (simp; omega)) _)) (by first | (simp; done) | (simp; omega)) hb1 : Below w.heap.size w w1)
  have Ba_1 := Lib.hid (blk_below (by repeat (first | (refine new_at ?_; simp; done) | refine blk_alloc ?_ _)) hb1 : w1.heap[w.heap.size]? = some (.cells #[.int .i64 a0_0, .int .i64 a0_1] 37 (0, 0)))
  obtain ⟨ca0_1, ca1_1, fa0_1, fa1_1, la_1⟩ := cells2 Ba_1.out
  have Bn_1 := Lib.hid (blk_below (by repeat (first | (refine new_at ?_; simp; done) | refine blk_alloc ?_ _)) hb1 : w1.heap[w.heap.size + 1]? = some (.cells #[.int .i64 a1] 3 (0, 0)))
  obtain ⟨cn0_1, fn0_1, ln_1⟩ := cells1 Bn_1.out
  have Br_1 := Lib.hid (blk_below (by repeat (first | (refine new_at ?_; simp; done) | refine blk_alloc ?_ _)) hb1 : w1.heap[w.heap.size + 1 + 1]? = some (.cells #[.int .i64 0, .int .i64 0] 37 (0, 0)))
  obtain ⟨cr0_1, cr1_1, fr0_1, fr1_1, lr_1⟩ := cells2 Br_1.out
  have hz1 := HB1.out.size
  clear hb1
  go_wp2
  refine bodyPost_ret (v := .tuple #[.agg #[.int .i64 0, .int .i64 0], .int .i64 2]) (by simp only [results, Try.results93]; go_simp) rfl ?_
  go_wp2
  refine bodyPost_ret (v := .tuple #[.agg #[.int .i64 0, .int .i64 0], .int .i64 2]) (by simp only [results, Try.results91]; go_simp) rfl ?_
  refine ⟨rfl, ?_⟩
  repeat (first | exact HB1.out | exact Below.refl _ _ | refine below_alloc ?_ _ | refine Below.setCell ?_ (by first | omega | (simp; done) | (simp; omega)) _)
theorem cx_Turn.calls (a0_0 a0_1 a1 : Int) (r1 r2 r3 : Int) (w : World) (h : cx_Turn.f a0_0 a0_1 a1 = some (r1, r2, r3)) :
    Calls Try.prog 91 #[.agg #[.int .i64 a0_0, .int .i64 a0_1], .int .i64 a1] w fun e w' => e = .returned (.tuple #[.agg #[.int .i64 r1, .int .i64 r2], .int .i64 r3]) ∧ Below w.heap.size w w' := by
  unfold cx_Turn.f at h
  cases hb : win 2305843009213693952 a0_0 a0_1 with
  | true =>
    rw [hb, if_pos rfl] at h
    obtain ⟨rfl, rfl, rfl⟩ : (qturn a0_0 a0_1 a1).1 = r1 ∧ (qturn a0_0 a0_1 a1).2 = r2 ∧ 0 = r3 := by simpa using h
    have h1 := win_true hb
    have := cx_Turn.way0 a0_0 a0_1 a1 w (Lib.hid hb)
    rwa [turned_eq (by omega) (by omega)] at this
  | false =>
    rw [hb, if_neg (by decide)] at h
    obtain ⟨rfl, rfl, rfl⟩ : 0 = r1 ∧ 0 = r2 ∧ 2 = r3 := by simpa using h
    exact cx_Turn.way1 a0_0 a0_1 a1 w (Lib.hid hb)

-- NOT PRINTED: function 71 (four_quad)

-- NOT PRINTED: function 39 (four_Quad)

-- NOT PRINTED: function 40 (headroomlaw11_alive)

-- NOT PRINTED: function 84 (four_block)

-- NOT PRINTED: function 47 (four_Pass)

-- NOT PRINTED: function 14 (headroomlaw11_FourGrows)

end Go.Proofs.Ytfemklaeonkidaa.P

-- Laid by this session's program hyb.py, out of the kit's print and this session's own contracts.
import Derived.Test.YtfemklaeonkidaaPx0
import Derived.Test.YtfemklaeonkidaaPx11
import Derived.Test.YtfemklaeonkidaaPx26
import Derived.Test.YtfemklaeonkidaaPx27
import Derived.Test.YtfemklaeonkidaaPx29
import Derived.Test.YtfemklaeonkidaaPx30
import Derived.Test.YtfemklaeonkidaaPx32
namespace Go.Proofs.Ytfemklaeonkidaa.P
open Go.RowKit Go.Proofs.YtfemklaeonkidaaW.PrintWords Go.Proofs.YtfemklaeonkidaaW.PrintLast Go.Proofs.YtfemklaeonkidaaW.PrintMore Go.Proofs.YtfemklaeonkidaaW.Hand
attribute [local go_sem] max2_int min2_int max_two min_two max_three min_three max_four min_four   -- for this text's walks alone
set_option linter.unusedVariables false
set_option linter.unusedSimpArgs false

/-! ### headroomlaw10_TwoPairs: function 5 -/
theorem tp_x {W w : World} {p : Addr} {v : Value} (hb : Below W.heap.size W w) (x : W.cell? p = some v) : w.cell? p = some v := (hb.cell (World.block_lt_of_cell? W _ x)).trans x
theorem tp_at2 {W : World} {n : Nat} (h : n = W.heap.size) (u v : Value) (t : TypeId) : (W.alloc (.cells #[u, v] t)).cell? ⟨n, 0, none⟩ = some u ∧ (W.alloc (.cells #[u, v] t)).cell? ⟨n, 1, none⟩ = some v := by
  subst h
  have := cells2 (heap_alloc_new W (.cells #[u, v] t))
  exact ⟨this.1, this.2.1⟩
theorem keep10 {a0 a1 a2 a3 a4 a5 a6 a7 a8 a9 : Addr} {v0 v1 v2 v3 v4 v5 v6 v7 v8 v9 : Value} {W W' : World} (hb : Below W.heap.size W W') (h : W.cell? a0 = some v0 ∧ W.cell? a1 = some v1 ∧ W.cell? a2 = some v2 ∧ W.cell? a3 = some v3 ∧ W.cell? a4 = some v4 ∧ W.cell? a5 = some v5 ∧ W.cell? a6 = some v6 ∧ W.cell? a7 = some v7 ∧ W.cell? a8 = some v8 ∧ W.cell? a9 = some v9) : W'.cell? a0 = some v0 ∧ W'.cell? a1 = some v1 ∧ W'.cell? a2 = some v2 ∧ W'.cell? a3 = some v3 ∧ W'.cell? a4 = some v4 ∧ W'.cell? a5 = some v5 ∧ W'.cell? a6 = some v6 ∧ W'.cell? a7 = some v7 ∧ W'.cell? a8 = some v8 ∧ W'.cell? a9 = some v9 := ⟨tp_x hb h.1, tp_x hb h.2.1, tp_x hb h.2.2.1, tp_x hb h.2.2.2.1, tp_x hb h.2.2.2.2.1, tp_x hb h.2.2.2.2.2.1, tp_x hb h.2.2.2.2.2.2.1, tp_x hb h.2.2.2.2.2.2.2.1, tp_x hb h.2.2.2.2.2.2.2.2.1, tp_x hb h.2.2.2.2.2.2.2.2.2⟩
theorem pow_b (k : Nat) (a0 r : Int) (w : World) (h : headroomref01_Pow.f k a0 = some r) : Calls Try.prog 27 #[.int .i64 a0] w fun e w' => e = .returned (.int .i64 r) ∧ Below w.heap.size w w' :=
  (headroomref01_Pow.calls k a0 r w h).mono fun e w' ⟨he, ⟨n, hn⟩⟩ => ⟨he, by subst hn; exact pw_below_drewN (Below.refl _ _) n⟩
theorem set_b (a0 a1 a2 : Int) (r : Bool) (w : World) (h : headroomref10_Settings.f a0 a1 a2 = some r) : Calls Try.prog 28 #[.int .i64 a0, .int .i64 a1, .int .i64 a2] w fun e w' => e = .returned (.bool r) ∧ Below w.heap.size w w' :=
  (headroomref10_Settings.calls a0 a1 a2 r w h).mono fun e w' ⟨he, ⟨n, hn⟩⟩ => ⟨he, by subst hn; exact pw_below_drewN (Below.refl _ _) n⟩

def headroomlaw10_TwoPairs.Pure : Prop := ∀ (a0_0 : Int) (a0_1 : Int) (a1_0 : Int) (a1_1 : Int) (a2_0 : Int) (a2_1 : Int) (a3 : Int) (a4 : Int) (a5 : Int), (Lit.int .i64 a0_0).wf = true → (Lit.int .i64 a0_1).wf = true → (Lit.int .i64 a1_0).wf = true → (Lit.int .i64 a1_1).wf = true → (Lit.int .i64 a2_0).wf = true → (Lit.int .i64 a2_1).wf = true → (Lit.int .i64 a3).wf = true → (Lit.int .i64 a4).wf = true → (Lit.int .i64 a5).wf = true → (∃ k x0 x1 y0 y1 e, headroomlaw10_alive.f = some true ∧ headroomref01_Pow.f k 31 = some 2147483648 ∧ two_Pair.f a0_0 a0_1 a1_0 a1_1 a2_0 a2_1 a3 a4 a5 = some (x0, x1, y0, y1, e) ∧
  ((headroomref10_Settings.f a3 a4 a5 = some false ∧ x0 = 0 ∧ x1 = 0 ∧ y0 = 0 ∧ y1 = 0 ∧ e = 1) ∨
   headroomref10_Settings.f a3 a4 a5 = some true ∧ (
    (headroomref03_Within.f a0_0 a0_1 2147483648 = some false ∧ x0 = 0 ∧ x1 = 0 ∧ y0 = 0 ∧ y1 = 0 ∧ e = 2) ∨
    headroomref03_Within.f a0_0 a0_1 2147483648 = some true ∧ (
     (headroomref03_Within.f a1_0 a1_1 2147483648 = some false ∧ x0 = 0 ∧ x1 = 0 ∧ y0 = 0 ∧ y1 = 0 ∧ e = 2) ∨
     headroomref03_Within.f a1_0 a1_1 2147483648 = some true ∧ ∃ M, headroomref01_Pow.f k a3 = some M ∧ (
      (headroomref03_Within.f a2_0 a2_1 M = some false ∧ x0 = 0 ∧ x1 = 0 ∧ y0 = 0 ∧ y1 = 0 ∧ e = 2) ∨
      headroomref03_Within.f a2_0 a2_1 M = some true ∧ e = 0 ∧ headroomref10_Up.f k a0_0 a0_1 a1_0 a1_1 a2_0 a2_1 a3 a4 a5 = some (x0, x1) ∧ headroomref10_Down.f k a0_0 a0_1 a1_0 a1_1 a2_0 a2_1 a3 a4 a5 = some (y0, y1))))))
set_option maxHeartbeats 8000000 in
set_option maxRecDepth 100000 in
theorem headroomlaw10_TwoPairs.walk (P : headroomlaw10_TwoPairs.Pure) (a0_0 : Int) (a0_1 : Int) (a1_0 : Int) (a1_1 : Int) (a2_0 : Int) (a2_1 : Int) (a3 : Int) (a4 : Int) (a5 : Int) (w : World) (w0_ : (Lit.int .i64 a0_0).wf = true) (w1_ : (Lit.int .i64 a0_1).wf = true) (w2_ : (Lit.int .i64 a1_0).wf = true) (w3_ : (Lit.int .i64 a1_1).wf = true) (w4_ : (Lit.int .i64 a2_0).wf = true) (w5_ : (Lit.int .i64 a2_1).wf = true) (w6_ : (Lit.int .i64 a3).wf = true) (w7_ : (Lit.int .i64 a4).wf = true) (w8_ : (Lit.int .i64 a5).wf = true) :
    Calls Try.prog 5 #[.agg #[.int .i64 a0_0, .int .i64 a0_1], .agg #[.int .i64 a1_0, .int .i64 a1_1], .agg #[.int .i64 a2_0, .int .i64 a2_1], .int .i64 a3, .int .i64 a4, .int .i64 a5] w fun e w' => e = .returned (.bool true) ∧ Below w.heap.size w w' := by
  have h := P a0_0 a0_1 a1_0 a1_1 a2_0 a2_1 a3 a4 a5 w0_ w1_ w2_ w3_ w4_ w5_ w6_ w7_ w8_
  clear P
  obtain ⟨k, x0, x1, y0, y1, e, hal, h31, hP, hcase⟩ := h
  have HA := Lib.hid hal
  have H31 := Lib.hid h31
  have HP := Lib.hid hP
  clear hal h31 hP
  rcases hcase with ⟨hs, rfl, rfl, rfl, rfl, rfl⟩ | ⟨hs, hcase⟩
  · have HS := Lib.hid hs
    clear hs
    as_aux_lemma =>
    obtain ⟨W3, hW3⟩ : ∃ W3, ((w.alloc (.cells #[.int .i64 a0_0, .int .i64 a0_1] 37)).alloc (.cells #[.int .i64 a1_0, .int .i64 a1_1] 37)).alloc (.cells #[.int .i64 a2_0, .int .i64 a2_1] 37) = W3 := ⟨_, rfl⟩
    have X := Lib.hid (show Below w.heap.size w W3 ∧ W3.cell? ⟨w.heap.size, 0, none⟩ = some (.int .i64 a0_0) ∧ W3.cell? ⟨w.heap.size, 1, none⟩ = some (.int .i64 a0_1) ∧ W3.cell? ⟨w.heap.size + 1, 0, none⟩ = some (.int .i64 a1_0) ∧ W3.cell? ⟨w.heap.size + 1, 1, none⟩ = some (.int .i64 a1_1) ∧ W3.cell? ⟨w.heap.size + 1 + 1, 0, none⟩ = some (.int .i64 a2_0) ∧ W3.cell? ⟨w.heap.size + 1 + 1, 1, none⟩ = some (.int .i64 a2_1) by
      rw [← hW3]
      refine ⟨by repeat (first | exact Below.refl _ _ | refine below_alloc ?_ _), ?_, ?_, ?_, ?_, ?_, ?_⟩
      all_goals repeat (first | exact (tp_at2 (by simp) _ _ _).1 | exact (tp_at2 (by simp) _ _ _).2 | refine it_alloc _ ?_))
    obtain ⟨z1, x0_, x1_, x2_, x3_, x4_, x5_⟩ := X.out
    go_enter Try.func5, Try.ntmps5
    go_wp2_with (fail)
    refine (two_Pair.calls _ _ _ _ _ _ _ _ _ _ _ _ _ _ _ HP.out).mono ?_
    rintro e w1 ⟨rfl, hb1⟩
    have HB1 := Lib.hid hb1
    clear hb1 hW3 x0_ x1_ x2_ x3_ x4_ x5_
    go_wp2_with (fail)
    refine (pow_b _ _ _ _ H31.out).mono ?_
    rintro e w6 ⟨rfl, hb6⟩
    generalize hW5 : (w1.alloc (.cells #[.int .i64 0, .int .i64 0] 37)).alloc (.cells #[.int .i64 0, .int .i64 0] 37) = W5 at hb6
    have hb5 : Below W3.heap.size W3 W5 := by rw [← hW5]; exact below_alloc (below_alloc HB1.out _) _
    have Y5 := Lib.hid (show W5.cell? ⟨w.heap.size, 0, none⟩ = some (.int .i64 a0_0) ∧ W5.cell? ⟨w.heap.size, 1, none⟩ = some (.int .i64 a0_1) ∧ W5.cell? ⟨w.heap.size + 1, 0, none⟩ = some (.int .i64 a1_0) ∧ W5.cell? ⟨w.heap.size + 1, 1, none⟩ = some (.int .i64 a1_1) ∧ W5.cell? ⟨w.heap.size + 1 + 1, 0, none⟩ = some (.int .i64 a2_0) ∧ W5.cell? ⟨w.heap.size + 1 + 1, 1, none⟩ = some (.int .i64 a2_1) ∧ W5.cell? ⟨w1.heap.size, 0, none⟩ = some (.int .i64 0) ∧ W5.cell? ⟨w1.heap.size, 1, none⟩ = some (.int .i64 0) ∧ W5.cell? ⟨w1.heap.size + 1, 0, none⟩ = some (.int .i64 0) ∧ W5.cell? ⟨w1.heap.size + 1, 1, none⟩ = some (.int .i64 0) by
      obtain ⟨_, x0_, x1_, x2_, x3_, x4_, x5_⟩ := X.out
      refine ⟨tp_x hb5 x0_, tp_x hb5 x1_, tp_x hb5 x2_, tp_x hb5 x3_, tp_x hb5 x4_, tp_x hb5 x5_, ?_⟩
      rw [← hW5]
      exact ⟨it_alloc _ (tp_at2 rfl _ _ _).1, it_alloc _ (tp_at2 rfl _ _ _).2, (tp_at2 (by simp) _ _ _).1, (tp_at2 (by simp) _ _ _).2⟩)
    have HB5 := Lib.hid (show Below w.heap.size w W5 from below_then z1 z1.size hb5)
    clear hb5
    have HB6 := Lib.hid (below_then HB5.out HB5.out.size hb6)
    have Y6 := Lib.hid (keep10 hb6 Y5.out)
    clear hb6 hW5
    go_wp2_with (fail)
    refine (set_b _ _ _ _ _ HS.out).mono ?_
    rintro e w7 ⟨rfl, hb7⟩
    have HB7 := Lib.hid (below_then HB6.out HB6.out.size hb7)
    have Y7 := Lib.hid (keep10 hb7 Y6.out)
    clear hb7
    go_wp2_with (fail)
    refine (headroomlaw10_alive.calls _ _ HA.out).mono ?_
    rintro e w9 ⟨rfl, hb9⟩
    obtain ⟨_, _, _, _, _, _, y6_, y7_, y8_, y9_⟩ := Y7.out
    have HB9 := Lib.hid (below_then HB7.out (HB7.out).size hb9)
    replace y6_ := tp_x hb9 y6_; replace y7_ := tp_x hb9 y7_; replace y8_ := tp_x hb9 y8_; replace y9_ := tp_x hb9 y9_
    clear hb9
    go_wp2
    go_ret
    exact ⟨rfl, HB9.out⟩
  · have HS := Lib.hid hs
    clear hs
    rcases hcase with ⟨hwa, rfl, rfl, rfl, rfl, rfl⟩ | ⟨hwa, hcase⟩
    · have HWa := Lib.hid hwa
      clear hwa
      as_aux_lemma =>
      obtain ⟨W3, hW3⟩ : ∃ W3, ((w.alloc (.cells #[.int .i64 a0_0, .int .i64 a0_1] 37)).alloc (.cells #[.int .i64 a1_0, .int .i64 a1_1] 37)).alloc (.cells #[.int .i64 a2_0, .int .i64 a2_1] 37) = W3 := ⟨_, rfl⟩
      have X := Lib.hid (show Below w.heap.size w W3 ∧ W3.cell? ⟨w.heap.size, 0, none⟩ = some (.int .i64 a0_0) ∧ W3.cell? ⟨w.heap.size, 1, none⟩ = some (.int .i64 a0_1) ∧ W3.cell? ⟨w.heap.size + 1, 0, none⟩ = some (.int .i64 a1_0) ∧ W3.cell? ⟨w.heap.size + 1, 1, none⟩ = some (.int .i64 a1_1) ∧ W3.cell? ⟨w.heap.size + 1 + 1, 0, none⟩ = some (.int .i64 a2_0) ∧ W3.cell? ⟨w.heap.size + 1 + 1, 1, none⟩ = some (.int .i64 a2_1) by
        rw [← hW3]
        refine ⟨by repeat (first | exact Below.refl _ _ | refine below_alloc ?_ _), ?_, ?_, ?_, ?_, ?_, ?_⟩
        all_goals repeat (first | exact (tp_at2 (by simp) _ _ _).1 | exact (tp_at2 (by simp) _ _ _).2 | refine it_alloc _ ?_))
      obtain ⟨z1, x0_, x1_, x2_, x3_, x4_, x5_⟩ := X.out
      go_enter Try.func5, Try.ntmps5
      go_wp2_with (fail)
      refine (two_Pair.calls _ _ _ _ _ _ _ _ _ _ _ _ _ _ _ HP.out).mono ?_
      rintro e w1 ⟨rfl, hb1⟩
      have HB1 := Lib.hid hb1
      clear hb1 hW3 x0_ x1_ x2_ x3_ x4_ x5_
      go_wp2_with (fail)
      refine (pow_b _ _ _ _ H31.out).mono ?_
      rintro e w6 ⟨rfl, hb6⟩
      generalize hW5 : (w1.alloc (.cells #[.int .i64 0, .int .i64 0] 37)).alloc (.cells #[.int .i64 0, .int .i64 0] 37) = W5 at hb6
      have hb5 : Below W3.heap.size W3 W5 := by rw [← hW5]; exact below_alloc (below_alloc HB1.out _) _
      have Y5 := Lib.hid (show W5.cell? ⟨w.heap.size, 0, none⟩ = some (.int .i64 a0_0) ∧ W5.cell? ⟨w.heap.size, 1, none⟩ = some (.int .i64 a0_1) ∧ W5.cell? ⟨w.heap.size + 1, 0, none⟩ = some (.int .i64 a1_0) ∧ W5.cell? ⟨w.heap.size + 1, 1, none⟩ = some (.int .i64 a1_1) ∧ W5.cell? ⟨w.heap.size + 1 + 1, 0, none⟩ = some (.int .i64 a2_0) ∧ W5.cell? ⟨w.heap.size + 1 + 1, 1, none⟩ = some (.int .i64 a2_1) ∧ W5.cell? ⟨w1.heap.size, 0, none⟩ = some (.int .i64 0) ∧ W5.cell? ⟨w1.heap.size, 1, none⟩ = some (.int .i64 0) ∧ W5.cell? ⟨w1.heap.size + 1, 0, none⟩ = some (.int .i64 0) ∧ W5.cell? ⟨w1.heap.size + 1, 1, none⟩ = some (.int .i64 0) by
        obtain ⟨_, x0_, x1_, x2_, x3_, x4_, x5_⟩ := X.out
        refine ⟨tp_x hb5 x0_, tp_x hb5 x1_, tp_x hb5 x2_, tp_x hb5 x3_, tp_x hb5 x4_, tp_x hb5 x5_, ?_⟩
        rw [← hW5]
        exact ⟨it_alloc _ (tp_at2 rfl _ _ _).1, it_alloc _ (tp_at2 rfl _ _ _).2, (tp_at2 (by simp) _ _ _).1, (tp_at2 (by simp) _ _ _).2⟩)
      have HB5 := Lib.hid (show Below w.heap.size w W5 from below_then z1 z1.size hb5)
      clear hb5
      have HB6 := Lib.hid (below_then HB5.out HB5.out.size hb6)
      have Y6 := Lib.hid (keep10 hb6 Y5.out)
      clear hb6 hW5
      go_wp2_with (fail)
      refine (set_b _ _ _ _ _ HS.out).mono ?_
      rintro e w7 ⟨rfl, hb7⟩
      have HB7 := Lib.hid (below_then HB6.out HB6.out.size hb7)
      have Y7 := Lib.hid (keep10 hb7 Y6.out)
      clear hb7
      go_wp2_with (fail)
      refine wp_region_held_drew (S := fun W => W.cell? ⟨w.heap.size, 0, none⟩ = some (.int .i64 a0_0) ∧ W.cell? ⟨w.heap.size, 1, none⟩ = some (.int .i64 a0_1) ∧ W.cell? ⟨w.heap.size + 1, 0, none⟩ = some (.int .i64 a1_0) ∧ W.cell? ⟨w.heap.size + 1, 1, none⟩ = some (.int .i64 a1_1) ∧ W.cell? ⟨w.heap.size + 1 + 1, 0, none⟩ = some (.int .i64 a2_0) ∧ W.cell? ⟨w.heap.size + 1 + 1, 1, none⟩ = some (.int .i64 a2_1) ∧ W.cell? ⟨w1.heap.size, 0, none⟩ = some (.int .i64 0) ∧ W.cell? ⟨w1.heap.size, 1, none⟩ = some (.int .i64 0) ∧ W.cell? ⟨w1.heap.size + 1, 0, none⟩ = some (.int .i64 0) ∧ W.cell? ⟨w1.heap.size + 1, 1, none⟩ = some (.int .i64 0)) (by kernel_rfl) Y7.out (fun hHeld => ?_)
      refine wpAnyH_take (i := 0) (v := ?_) rfl (by kernel_rfl) (by kernel_rfl) (by kernel_rfl) (fun _ _ _ h => h) (Or.inl ⟨by rfl, ?_⟩) hHeld ?_; rotate_left
      · rintro w_ ⟨s0, s1, s2, s3, s4, s5, s6, s7, s8, s9⟩
        go_simp
        try with_reducible rfl
      try simp only [List.getElem_toArray, List.getElem_cons_succ, List.getElem_cons_zero, Act.put, List.setIfInBounds_toArray, List.set_cons_zero, List.set_cons_succ]
      refine wpAnyH_take (i := 1) (v := ?_) rfl (by kernel_rfl) (by kernel_rfl) (by kernel_rfl) (fun _ _ _ h => h) (Or.inl ⟨by rfl, ?_⟩) hHeld ?_; rotate_left
      · rintro w_ ⟨s0, s1, s2, s3, s4, s5, s6, s7, s8, s9⟩
        go_simp
        try with_reducible rfl
      try simp only [List.getElem_toArray, List.getElem_cons_succ, List.getElem_cons_zero, Act.put, List.setIfInBounds_toArray, List.set_cons_zero, List.set_cons_succ]
      refine wpAnyH_ready (rs := [2]) (by kernel_rfl) (by simp) ?_
      refine AllReadyH.cons rfl (fun K hK => ?_) AllReadyH.nil
      go_simp
      refine (headroomref03_Within.calls a0_0 a0_1 2147483648 _ _ HWa.out).mono ?_
      rintro e wa ⟨rfl, hba⟩
      have HBwa := Lib.hid (show Below w.heap.size w wa from below_then (below_drew1 HB7.out) (by first | exact (below_drew1 HB7.out).size | simpa using (below_drew1 HB7.out).size) hba)
      have Ywa := Lib.hid (keep10 hba (show w7.drew.cell? ⟨w.heap.size, 0, none⟩ = some (.int .i64 a0_0) ∧ w7.drew.cell? ⟨w.heap.size, 1, none⟩ = some (.int .i64 a0_1) ∧ w7.drew.cell? ⟨w.heap.size + 1, 0, none⟩ = some (.int .i64 a1_0) ∧ w7.drew.cell? ⟨w.heap.size + 1, 1, none⟩ = some (.int .i64 a1_1) ∧ w7.drew.cell? ⟨w.heap.size + 1 + 1, 0, none⟩ = some (.int .i64 a2_0) ∧ w7.drew.cell? ⟨w.heap.size + 1 + 1, 1, none⟩ = some (.int .i64 a2_1) ∧ w7.drew.cell? ⟨w1.heap.size, 0, none⟩ = some (.int .i64 0) ∧ w7.drew.cell? ⟨w1.heap.size, 1, none⟩ = some (.int .i64 0) ∧ w7.drew.cell? ⟨w1.heap.size + 1, 0, none⟩ = some (.int .i64 0) ∧ w7.drew.cell? ⟨w1.heap.size + 1, 1, none⟩ = some (.int .i64 0) from Y7.out))
      refine hK.out _ _ Ywa.out (fun hHeld => ?_)
      clear hK K hba
      try simp only [List.getElem_toArray, List.getElem_cons_succ, List.getElem_cons_zero, Act.put, List.setIfInBounds_toArray, List.set_cons_zero, List.set_cons_succ]
      refine wpAnyH_take (i := 3) (v := ?_) rfl (by kernel_rfl) (by kernel_rfl) (by kernel_rfl) (fun _ _ _ h => h) (Or.inl ⟨by rfl, ?_⟩) hHeld ?_; rotate_left
      · rintro w_ ⟨s0, s1, s2, s3, s4, s5, s6, s7, s8, s9⟩
        go_simp
        try with_reducible rfl
      try simp only [List.getElem_toArray, List.getElem_cons_succ, List.getElem_cons_zero, Act.put, List.setIfInBounds_toArray, List.set_cons_zero, List.set_cons_succ]
      refine wpAnyH_take (i := 4) (v := ?_) rfl (by kernel_rfl) (by kernel_rfl) (by kernel_rfl) (fun _ _ _ h => h) (Or.inl ⟨by rfl, ?_⟩) hHeld ?_; rotate_left
      · rintro w_ ⟨s0, s1, s2, s3, s4, s5, s6, s7, s8, s9⟩
        go_simp
        try with_reducible rfl
      try simp only [List.getElem_toArray, List.getElem_cons_succ, List.getElem_cons_zero, Act.put, List.setIfInBounds_toArray, List.set_cons_zero, List.set_cons_succ]
      refine wpAnyH_take (i := 5) (v := undef) rfl (by kernel_rfl) (by kernel_rfl) (by kernel_rfl) (fun _ _ _ h => h) (Or.inr ⟨by kernel_rfl, rfl⟩) hHeld ?_
      try simp only [List.getElem_toArray, List.getElem_cons_succ, List.getElem_cons_zero, Act.put, List.setIfInBounds_toArray, List.set_cons_zero, List.set_cons_succ]
      refine wpAnyH_take (i := 6) (v := undef) rfl (by kernel_rfl) (by kernel_rfl) (by kernel_rfl) (fun _ _ _ h => h) (Or.inr ⟨by kernel_rfl, rfl⟩) hHeld ?_
      try simp only [List.getElem_toArray, List.getElem_cons_succ, List.getElem_cons_zero, Act.put, List.setIfInBounds_toArray, List.set_cons_zero, List.set_cons_succ]
      refine wpAnyH_take (i := 7) (v := undef) rfl (by kernel_rfl) (by kernel_rfl) (by kernel_rfl) (fun _ _ _ h => h) (Or.inr ⟨by kernel_rfl, rfl⟩) hHeld ?_
      try simp only [List.getElem_toArray, List.getElem_cons_succ, List.getElem_cons_zero, Act.put, List.setIfInBounds_toArray, List.set_cons_zero, List.set_cons_succ]
      refine wpAnyH_take (i := 8) (v := undef) rfl (by kernel_rfl) (by kernel_rfl) (by kernel_rfl) (fun _ _ _ h => h) (Or.inr ⟨by kernel_rfl, rfl⟩) hHeld ?_
      try simp only [List.getElem_toArray, List.getElem_cons_succ, List.getElem_cons_zero, Act.put, List.setIfInBounds_toArray, List.set_cons_zero, List.set_cons_succ]
      refine wpAnyH_take (i := 9) (v := ?_) rfl (by kernel_rfl) (by kernel_rfl) (by kernel_rfl) (fun _ _ _ h => h) (Or.inl ⟨by rfl, ?_⟩) hHeld ?_; rotate_left
      · rintro w_ ⟨s0, s1, s2, s3, s4, s5, s6, s7, s8, s9⟩
        go_simp
        try with_reducible rfl
      try simp only [List.getElem_toArray, List.getElem_cons_succ, List.getElem_cons_zero, Act.put, List.setIfInBounds_toArray, List.set_cons_zero, List.set_cons_succ]
      refine wpAnyH_take (i := 10) (v := ?_) rfl (by kernel_rfl) (by kernel_rfl) (by kernel_rfl) (fun _ _ _ h => h) (Or.inl ⟨by rfl, ?_⟩) hHeld ?_; rotate_left
      · rintro w_ ⟨s0, s1, s2, s3, s4, s5, s6, s7, s8, s9⟩
        go_simp
        try with_reducible rfl
      try simp only [List.getElem_toArray, List.getElem_cons_succ, List.getElem_cons_zero, Act.put, List.setIfInBounds_toArray, List.set_cons_zero, List.set_cons_succ]
      refine wpAnyH_take (i := 11) (v := undef) rfl (by kernel_rfl) (by kernel_rfl) (by kernel_rfl) (fun _ _ _ h => h) (Or.inr ⟨by kernel_rfl, rfl⟩) hHeld ?_
      try simp only [List.getElem_toArray, List.getElem_cons_succ, List.getElem_cons_zero, Act.put, List.setIfInBounds_toArray, List.set_cons_zero, List.set_cons_succ]
      refine wpAnyH_take (i := 12) (v := undef) rfl (by kernel_rfl) (by kernel_rfl) (by kernel_rfl) (fun _ _ _ h => h) (Or.inr ⟨by kernel_rfl, rfl⟩) hHeld ?_
      try simp only [List.getElem_toArray, List.getElem_cons_succ, List.getElem_cons_zero, Act.put, List.setIfInBounds_toArray, List.set_cons_zero, List.set_cons_succ]
      refine wpAnyH_take (i := 13) (v := undef) rfl (by kernel_rfl) (by kernel_rfl) (by kernel_rfl) (fun _ _ _ h => h) (Or.inr ⟨by kernel_rfl, rfl⟩) hHeld ?_
      try simp only [List.getElem_toArray, List.getElem_cons_succ, List.getElem_cons_zero, Act.put, List.setIfInBounds_toArray, List.set_cons_zero, List.set_cons_succ]
      refine wpAnyH_take (i := 14) (v := undef) rfl (by kernel_rfl) (by kernel_rfl) (by kernel_rfl) (fun _ _ _ h => h) (Or.inr ⟨by kernel_rfl, rfl⟩) hHeld ?_
      try simp only [List.getElem_toArray, List.getElem_cons_succ, List.getElem_cons_zero, Act.put, List.setIfInBounds_toArray, List.set_cons_zero, List.set_cons_succ]
      refine wpAnyH_take (i := 15) (v := undef) rfl (by kernel_rfl) (by kernel_rfl) (by kernel_rfl) (fun _ _ _ h => h) (Or.inr ⟨by kernel_rfl, rfl⟩) hHeld ?_
      try simp only [List.getElem_toArray, List.getElem_cons_succ, List.getElem_cons_zero, Act.put, List.setIfInBounds_toArray, List.set_cons_zero, List.set_cons_succ]
      refine wpAnyH_take (i := 16) (v := ?_) rfl (by kernel_rfl) (by kernel_rfl) (by kernel_rfl) (fun _ _ _ h => h) (Or.inl ⟨by rfl, ?_⟩) hHeld ?_; rotate_left
      · rintro w_ ⟨s0, s1, s2, s3, s4, s5, s6, s7, s8, s9⟩
        go_simp
        try with_reducible rfl
      try simp only [List.getElem_toArray, List.getElem_cons_succ, List.getElem_cons_zero, Act.put, List.setIfInBounds_toArray, List.set_cons_zero, List.set_cons_succ]
      refine wpAnyH_take (i := 17) (v := ?_) rfl (by kernel_rfl) (by kernel_rfl) (by kernel_rfl) (fun _ _ _ h => h) (Or.inl ⟨by rfl, ?_⟩) hHeld ?_; rotate_left
      · rintro w_ ⟨s0, s1, s2, s3, s4, s5, s6, s7, s8, s9⟩
        go_simp
        try with_reducible rfl
      try simp only [List.getElem_toArray, List.getElem_cons_succ, List.getElem_cons_zero, Act.put, List.setIfInBounds_toArray, List.set_cons_zero, List.set_cons_succ]
      refine wpAnyH_done (by kernel_rfl) ?_ _
      all_goals
        go_wp2_with (fail)
        refine (headroomlaw10_alive.calls _ _ HA.out).mono ?_
        rintro e w9 ⟨rfl, hb9⟩
        obtain ⟨_, _, _, _, _, _, y6_, y7_, y8_, y9_⟩ := Ywa.out
        have HB9 := Lib.hid (below_then HBwa.out (HBwa.out).size hb9)
        replace y6_ := tp_x hb9 y6_; replace y7_ := tp_x hb9 y7_; replace y8_ := tp_x hb9 y8_; replace y9_ := tp_x hb9 y9_
        clear hb9
        go_wp2
        go_ret
        exact ⟨rfl, HB9.out⟩
    · have HWa := Lib.hid hwa
      clear hwa
      rcases hcase with ⟨hwb, rfl, rfl, rfl, rfl, rfl⟩ | ⟨hwb, M, hm, hcase⟩
      · have HWb := Lib.hid hwb
        clear hwb
        as_aux_lemma =>
        obtain ⟨W3, hW3⟩ : ∃ W3, ((w.alloc (.cells #[.int .i64 a0_0, .int .i64 a0_1] 37)).alloc (.cells #[.int .i64 a1_0, .int .i64 a1_1] 37)).alloc (.cells #[.int .i64 a2_0, .int .i64 a2_1] 37) = W3 := ⟨_, rfl⟩
        have X := Lib.hid (show Below w.heap.size w W3 ∧ W3.cell? ⟨w.heap.size, 0, none⟩ = some (.int .i64 a0_0) ∧ W3.cell? ⟨w.heap.size, 1, none⟩ = some (.int .i64 a0_1) ∧ W3.cell? ⟨w.heap.size + 1, 0, none⟩ = some (.int .i64 a1_0) ∧ W3.cell? ⟨w.heap.size + 1, 1, none⟩ = some (.int .i64 a1_1) ∧ W3.cell? ⟨w.heap.size + 1 + 1, 0, none⟩ = some (.int .i64 a2_0) ∧ W3.cell? ⟨w.heap.size + 1 + 1, 1, none⟩ = some (.int .i64 a2_1) by
          rw [← hW3]
          refine ⟨by repeat (first | exact Below.refl _ _ | refine below_alloc ?_ _), ?_, ?_, ?_, ?_, ?_, ?_⟩
          all_goals repeat (first | exact (tp_at2 (by simp) _ _ _).1 | exact (tp_at2 (by simp) _ _ _).2 | refine it_alloc _ ?_))
        obtain ⟨z1, x0_, x1_, x2_, x3_, x4_, x5_⟩ := X.out
        go_enter Try.func5, Try.ntmps5
        go_wp2_with (fail)
        refine (two_Pair.calls _ _ _ _ _ _ _ _ _ _ _ _ _ _ _ HP.out).mono ?_
        rintro e w1 ⟨rfl, hb1⟩
        have HB1 := Lib.hid hb1
        clear hb1 hW3 x0_ x1_ x2_ x3_ x4_ x5_
        go_wp2_with (fail)
        refine (pow_b _ _ _ _ H31.out).mono ?_
        rintro e w6 ⟨rfl, hb6⟩
        generalize hW5 : (w1.alloc (.cells #[.int .i64 0, .int .i64 0] 37)).alloc (.cells #[.int .i64 0, .int .i64 0] 37) = W5 at hb6
        have hb5 : Below W3.heap.size W3 W5 := by rw [← hW5]; exact below_alloc (below_alloc HB1.out _) _
        have Y5 := Lib.hid (show W5.cell? ⟨w.heap.size, 0, none⟩ = some (.int .i64 a0_0) ∧ W5.cell? ⟨w.heap.size, 1, none⟩ = some (.int .i64 a0_1) ∧ W5.cell? ⟨w.heap.size + 1, 0, none⟩ = some (.int .i64 a1_0) ∧ W5.cell? ⟨w.heap.size + 1, 1, none⟩ = some (.int .i64 a1_1) ∧ W5.cell? ⟨w.heap.size + 1 + 1, 0, none⟩ = some (.int .i64 a2_0) ∧ W5.cell? ⟨w.heap.size + 1 + 1, 1, none⟩ = some (.int .i64 a2_1) ∧ W5.cell? ⟨w1.heap.size, 0, none⟩ = some (.int .i64 0) ∧ W5.cell? ⟨w1.heap.size, 1, none⟩ = some (.int .i64 0) ∧ W5.cell? ⟨w1.heap.size + 1, 0, none⟩ = some (.int .i64 0) ∧ W5.cell? ⟨w1.heap.size + 1, 1, none⟩ = some (.int .i64 0) by
          obtain ⟨_, x0_, x1_, x2_, x3_, x4_, x5_⟩ := X.out
          refine ⟨tp_x hb5 x0_, tp_x hb5 x1_, tp_x hb5 x2_, tp_x hb5 x3_, tp_x hb5 x4_, tp_x hb5 x5_, ?_⟩
          rw [← hW5]
          exact ⟨it_alloc _ (tp_at2 rfl _ _ _).1, it_alloc _ (tp_at2 rfl _ _ _).2, (tp_at2 (by simp) _ _ _).1, (tp_at2 (by simp) _ _ _).2⟩)
        have HB5 := Lib.hid (show Below w.heap.size w W5 from below_then z1 z1.size hb5)
        clear hb5
        have HB6 := Lib.hid (below_then HB5.out HB5.out.size hb6)
        have Y6 := Lib.hid (keep10 hb6 Y5.out)
        clear hb6 hW5
        go_wp2_with (fail)
        refine (set_b _ _ _ _ _ HS.out).mono ?_
        rintro e w7 ⟨rfl, hb7⟩
        have HB7 := Lib.hid (below_then HB6.out HB6.out.size hb7)
        have Y7 := Lib.hid (keep10 hb7 Y6.out)
        clear hb7
        go_wp2_with (fail)
        refine wp_region_held_drew (S := fun W => W.cell? ⟨w.heap.size, 0, none⟩ = some (.int .i64 a0_0) ∧ W.cell? ⟨w.heap.size, 1, none⟩ = some (.int .i64 a0_1) ∧ W.cell? ⟨w.heap.size + 1, 0, none⟩ = some (.int .i64 a1_0) ∧ W.cell? ⟨w.heap.size + 1, 1, none⟩ = some (.int .i64 a1_1) ∧ W.cell? ⟨w.heap.size + 1 + 1, 0, none⟩ = some (.int .i64 a2_0) ∧ W.cell? ⟨w.heap.size + 1 + 1, 1, none⟩ = some (.int .i64 a2_1) ∧ W.cell? ⟨w1.heap.size, 0, none⟩ = some (.int .i64 0) ∧ W.cell? ⟨w1.heap.size, 1, none⟩ = some (.int .i64 0) ∧ W.cell? ⟨w1.heap.size + 1, 0, none⟩ = some (.int .i64 0) ∧ W.cell? ⟨w1.heap.size + 1, 1, none⟩ = some (.int .i64 0)) (by kernel_rfl) Y7.out (fun hHeld => ?_)
        refine wpAnyH_take (i := 0) (v := ?_) rfl (by kernel_rfl) (by kernel_rfl) (by kernel_rfl) (fun _ _ _ h => h) (Or.inl ⟨by rfl, ?_⟩) hHeld ?_; rotate_left
        · rintro w_ ⟨s0, s1, s2, s3, s4, s5, s6, s7, s8, s9⟩
          go_simp
          try with_reducible rfl
        try simp only [List.getElem_toArray, List.getElem_cons_succ, List.getElem_cons_zero, Act.put, List.setIfInBounds_toArray, List.set_cons_zero, List.set_cons_succ]
        refine wpAnyH_take (i := 1) (v := ?_) rfl (by kernel_rfl) (by kernel_rfl) (by kernel_rfl) (fun _ _ _ h => h) (Or.inl ⟨by rfl, ?_⟩) hHeld ?_; rotate_left
        · rintro w_ ⟨s0, s1, s2, s3, s4, s5, s6, s7, s8, s9⟩
          go_simp
          try with_reducible rfl
        try simp only [List.getElem_toArray, List.getElem_cons_succ, List.getElem_cons_zero, Act.put, List.setIfInBounds_toArray, List.set_cons_zero, List.set_cons_succ]
        refine wpAnyH_ready (rs := [2]) (by kernel_rfl) (by simp) ?_
        refine AllReadyH.cons rfl (fun K hK => ?_) AllReadyH.nil
        go_simp
        refine (headroomref03_Within.calls a0_0 a0_1 2147483648 _ _ HWa.out).mono ?_
        rintro e wa ⟨rfl, hba⟩
        have HBwa := Lib.hid (show Below w.heap.size w wa from below_then (below_drew1 HB7.out) (by first | exact (below_drew1 HB7.out).size | simpa using (below_drew1 HB7.out).size) hba)
        have Ywa := Lib.hid (keep10 hba (show w7.drew.cell? ⟨w.heap.size, 0, none⟩ = some (.int .i64 a0_0) ∧ w7.drew.cell? ⟨w.heap.size, 1, none⟩ = some (.int .i64 a0_1) ∧ w7.drew.cell? ⟨w.heap.size + 1, 0, none⟩ = some (.int .i64 a1_0) ∧ w7.drew.cell? ⟨w.heap.size + 1, 1, none⟩ = some (.int .i64 a1_1) ∧ w7.drew.cell? ⟨w.heap.size + 1 + 1, 0, none⟩ = some (.int .i64 a2_0) ∧ w7.drew.cell? ⟨w.heap.size + 1 + 1, 1, none⟩ = some (.int .i64 a2_1) ∧ w7.drew.cell? ⟨w1.heap.size, 0, none⟩ = some (.int .i64 0) ∧ w7.drew.cell? ⟨w1.heap.size, 1, none⟩ = some (.int .i64 0) ∧ w7.drew.cell? ⟨w1.heap.size + 1, 0, none⟩ = some (.int .i64 0) ∧ w7.drew.cell? ⟨w1.heap.size + 1, 1, none⟩ = some (.int .i64 0) from Y7.out))
        refine hK.out _ _ Ywa.out (fun hHeld => ?_)
        clear hK K hba
        try simp only [List.getElem_toArray, List.getElem_cons_succ, List.getElem_cons_zero, Act.put, List.setIfInBounds_toArray, List.set_cons_zero, List.set_cons_succ]
        refine wpAnyH_take (i := 3) (v := ?_) rfl (by kernel_rfl) (by kernel_rfl) (by kernel_rfl) (fun _ _ _ h => h) (Or.inl ⟨by rfl, ?_⟩) hHeld ?_; rotate_left
        · rintro w_ ⟨s0, s1, s2, s3, s4, s5, s6, s7, s8, s9⟩
          go_simp
          try with_reducible rfl
        try simp only [List.getElem_toArray, List.getElem_cons_succ, List.getElem_cons_zero, Act.put, List.setIfInBounds_toArray, List.set_cons_zero, List.set_cons_succ]
        refine wpAnyH_take (i := 4) (v := ?_) rfl (by kernel_rfl) (by kernel_rfl) (by kernel_rfl) (fun _ _ _ h => h) (Or.inl ⟨by rfl, ?_⟩) hHeld ?_; rotate_left
        · rintro w_ ⟨s0, s1, s2, s3, s4, s5, s6, s7, s8, s9⟩
          go_simp
          try with_reducible rfl
        try simp only [List.getElem_toArray, List.getElem_cons_succ, List.getElem_cons_zero, Act.put, List.setIfInBounds_toArray, List.set_cons_zero, List.set_cons_succ]
        refine wpAnyH_take (i := 5) (v := ?_) rfl (by kernel_rfl) (by kernel_rfl) (by kernel_rfl) (fun _ _ _ h => h) (Or.inl ⟨by rfl, ?_⟩) hHeld ?_; rotate_left
        · rintro w_ ⟨s0, s1, s2, s3, s4, s5, s6, s7, s8, s9⟩
          go_simp
          try with_reducible rfl
        try simp only [List.getElem_toArray, List.getElem_cons_succ, List.getElem_cons_zero, Act.put, List.setIfInBounds_toArray, List.set_cons_zero, List.set_cons_succ]
        refine wpAnyH_take (i := 6) (v := ?_) rfl (by kernel_rfl) (by kernel_rfl) (by kernel_rfl) (fun _ _ _ h => h) (Or.inl ⟨by rfl, ?_⟩) hHeld ?_; rotate_left
        · rintro w_ ⟨s0, s1, s2, s3, s4, s5, s6, s7, s8, s9⟩
          go_simp
          try with_reducible rfl
        try simp only [List.getElem_toArray, List.getElem_cons_succ, List.getElem_cons_zero, Act.put, List.setIfInBounds_toArray, List.set_cons_zero, List.set_cons_succ]
        refine wpAnyH_ready (rs := [7]) (by kernel_rfl) (by simp) ?_
        refine AllReadyH.cons rfl (fun K hK => ?_) AllReadyH.nil
        go_simp
        refine (headroomref03_Within.calls a1_0 a1_1 2147483648 _ _ HWb.out).mono ?_
        rintro e wb ⟨rfl, hbb⟩
        have HBwb := Lib.hid (show Below w.heap.size w wb from below_then (HBwa.out) (by first | exact (HBwa.out).size | simpa using (HBwa.out).size) hbb)
        have Ywb := Lib.hid (keep10 hbb (show wa.cell? ⟨w.heap.size, 0, none⟩ = some (.int .i64 a0_0) ∧ wa.cell? ⟨w.heap.size, 1, none⟩ = some (.int .i64 a0_1) ∧ wa.cell? ⟨w.heap.size + 1, 0, none⟩ = some (.int .i64 a1_0) ∧ wa.cell? ⟨w.heap.size + 1, 1, none⟩ = some (.int .i64 a1_1) ∧ wa.cell? ⟨w.heap.size + 1 + 1, 0, none⟩ = some (.int .i64 a2_0) ∧ wa.cell? ⟨w.heap.size + 1 + 1, 1, none⟩ = some (.int .i64 a2_1) ∧ wa.cell? ⟨w1.heap.size, 0, none⟩ = some (.int .i64 0) ∧ wa.cell? ⟨w1.heap.size, 1, none⟩ = some (.int .i64 0) ∧ wa.cell? ⟨w1.heap.size + 1, 0, none⟩ = some (.int .i64 0) ∧ wa.cell? ⟨w1.heap.size + 1, 1, none⟩ = some (.int .i64 0) from Ywa.out))
        refine hK.out _ _ Ywb.out (fun hHeld => ?_)
        clear hK K hbb
        try simp only [List.getElem_toArray, List.getElem_cons_succ, List.getElem_cons_zero, Act.put, List.setIfInBounds_toArray, List.set_cons_zero, List.set_cons_succ]
        refine wpAnyH_take (i := 8) (v := ?_) rfl (by kernel_rfl) (by kernel_rfl) (by kernel_rfl) (fun _ _ _ h => h) (Or.inl ⟨by rfl, ?_⟩) hHeld ?_; rotate_left
        · rintro w_ ⟨s0, s1, s2, s3, s4, s5, s6, s7, s8, s9⟩
          go_simp
          try with_reducible rfl
        try simp only [List.getElem_toArray, List.getElem_cons_succ, List.getElem_cons_zero, Act.put, List.setIfInBounds_toArray, List.set_cons_zero, List.set_cons_succ]
        refine wpAnyH_take (i := 9) (v := ?_) rfl (by kernel_rfl) (by kernel_rfl) (by kernel_rfl) (fun _ _ _ h => h) (Or.inl ⟨by rfl, ?_⟩) hHeld ?_; rotate_left
        · rintro w_ ⟨s0, s1, s2, s3, s4, s5, s6, s7, s8, s9⟩
          go_simp
          try with_reducible rfl
        try simp only [List.getElem_toArray, List.getElem_cons_succ, List.getElem_cons_zero, Act.put, List.setIfInBounds_toArray, List.set_cons_zero, List.set_cons_succ]
        refine wpAnyH_take (i := 10) (v := ?_) rfl (by kernel_rfl) (by kernel_rfl) (by kernel_rfl) (fun _ _ _ h => h) (Or.inl ⟨by rfl, ?_⟩) hHeld ?_; rotate_left
        · rintro w_ ⟨s0, s1, s2, s3, s4, s5, s6, s7, s8, s9⟩
          go_simp
          try with_reducible rfl
        try simp only [List.getElem_toArray, List.getElem_cons_succ, List.getElem_cons_zero, Act.put, List.setIfInBounds_toArray, List.set_cons_zero, List.set_cons_succ]
        refine wpAnyH_take (i := 11) (v := undef) rfl (by kernel_rfl) (by kernel_rfl) (by kernel_rfl) (fun _ _ _ h => h) (Or.inr ⟨by kernel_rfl, rfl⟩) hHeld ?_
        try simp only [List.getElem_toArray, List.getElem_cons_succ, List.getElem_cons_zero, Act.put, List.setIfInBounds_toArray, List.set_cons_zero, List.set_cons_succ]
        refine wpAnyH_take (i := 12) (v := undef) rfl (by kernel_rfl) (by kernel_rfl) (by kernel_rfl) (fun _ _ _ h => h) (Or.inr ⟨by kernel_rfl, rfl⟩) hHeld ?_
        try simp only [List.getElem_toArray, List.getElem_cons_succ, List.getElem_cons_zero, Act.put, List.setIfInBounds_toArray, List.set_cons_zero, List.set_cons_succ]
        refine wpAnyH_take (i := 13) (v := undef) rfl (by kernel_rfl) (by kernel_rfl) (by kernel_rfl) (fun _ _ _ h => h) (Or.inr ⟨by kernel_rfl, rfl⟩) hHeld ?_
        try simp only [List.getElem_toArray, List.getElem_cons_succ, List.getElem_cons_zero, Act.put, List.setIfInBounds_toArray, List.set_cons_zero, List.set_cons_succ]
        refine wpAnyH_take (i := 14) (v := undef) rfl (by kernel_rfl) (by kernel_rfl) (by kernel_rfl) (fun _ _ _ h => h) (Or.inr ⟨by kernel_rfl, rfl⟩) hHeld ?_
        try simp only [List.getElem_toArray, List.getElem_cons_succ, List.getElem_cons_zero, Act.put, List.setIfInBounds_toArray, List.set_cons_zero, List.set_cons_succ]
        refine wpAnyH_take (i := 15) (v := undef) rfl (by kernel_rfl) (by kernel_rfl) (by kernel_rfl) (fun _ _ _ h => h) (Or.inr ⟨by kernel_rfl, rfl⟩) hHeld ?_
        try simp only [List.getElem_toArray, List.getElem_cons_succ, List.getElem_cons_zero, Act.put, List.setIfInBounds_toArray, List.set_cons_zero, List.set_cons_succ]
        refine wpAnyH_take (i := 16) (v := ?_) rfl (by kernel_rfl) (by kernel_rfl) (by kernel_rfl) (fun _ _ _ h => h) (Or.inl ⟨by rfl, ?_⟩) hHeld ?_; rotate_left
        · rintro w_ ⟨s0, s1, s2, s3, s4, s5, s6, s7, s8, s9⟩
          go_simp
          try with_reducible rfl
        try simp only [List.getElem_toArray, List.getElem_cons_succ, List.getElem_cons_zero, Act.put, List.setIfInBounds_toArray, List.set_cons_zero, List.set_cons_succ]
        refine wpAnyH_take (i := 17) (v := ?_) rfl (by kernel_rfl) (by kernel_rfl) (by kernel_rfl) (fun _ _ _ h => h) (Or.inl ⟨by rfl, ?_⟩) hHeld ?_; rotate_left
        · rintro w_ ⟨s0, s1, s2, s3, s4, s5, s6, s7, s8, s9⟩
          go_simp
          try with_reducible rfl
        try simp only [List.getElem_toArray, List.getElem_cons_succ, List.getElem_cons_zero, Act.put, List.setIfInBounds_toArray, List.set_cons_zero, List.set_cons_succ]
        refine wpAnyH_done (by kernel_rfl) ?_ _
        all_goals
          go_wp2_with (fail)
          refine (headroomlaw10_alive.calls _ _ HA.out).mono ?_
          rintro e w9 ⟨rfl, hb9⟩
          obtain ⟨_, _, _, _, _, _, y6_, y7_, y8_, y9_⟩ := Ywb.out
          have HB9 := Lib.hid (below_then HBwb.out (HBwb.out).size hb9)
          replace y6_ := tp_x hb9 y6_; replace y7_ := tp_x hb9 y7_; replace y8_ := tp_x hb9 y8_; replace y9_ := tp_x hb9 y9_
          clear hb9
          go_wp2
          go_ret
          exact ⟨rfl, HB9.out⟩
      · have HWb := Lib.hid hwb
        have HM := Lib.hid hm
        clear hwb hm
        rcases hcase with ⟨hwc, rfl, rfl, rfl, rfl, rfl⟩ | ⟨hwc, rfl, hu, hd⟩
        · have HWc := Lib.hid hwc
          clear hwc
          as_aux_lemma =>
          obtain ⟨W3, hW3⟩ : ∃ W3, ((w.alloc (.cells #[.int .i64 a0_0, .int .i64 a0_1] 37)).alloc (.cells #[.int .i64 a1_0, .int .i64 a1_1] 37)).alloc (.cells #[.int .i64 a2_0, .int .i64 a2_1] 37) = W3 := ⟨_, rfl⟩
          have X := Lib.hid (show Below w.heap.size w W3 ∧ W3.cell? ⟨w.heap.size, 0, none⟩ = some (.int .i64 a0_0) ∧ W3.cell? ⟨w.heap.size, 1, none⟩ = some (.int .i64 a0_1) ∧ W3.cell? ⟨w.heap.size + 1, 0, none⟩ = some (.int .i64 a1_0) ∧ W3.cell? ⟨w.heap.size + 1, 1, none⟩ = some (.int .i64 a1_1) ∧ W3.cell? ⟨w.heap.size + 1 + 1, 0, none⟩ = some (.int .i64 a2_0) ∧ W3.cell? ⟨w.heap.size + 1 + 1, 1, none⟩ = some (.int .i64 a2_1) by
            rw [← hW3]
            refine ⟨by repeat (first | exact Below.refl _ _ | refine below_alloc ?_ _), ?_, ?_, ?_, ?_, ?_, ?_⟩
            all_goals repeat (first | exact (tp_at2 (by simp) _ _ _).1 | exact (tp_at2 (by simp) _ _ _).2 | refine it_alloc _ ?_))
          obtain ⟨z1, x0_, x1_, x2_, x3_, x4_, x5_⟩ := X.out
          go_enter Try.func5, Try.ntmps5
          go_wp2_with (fail)
          refine (two_Pair.calls _ _ _ _ _ _ _ _ _ _ _ _ _ _ _ HP.out).mono ?_
          rintro e w1 ⟨rfl, hb1⟩
          have HB1 := Lib.hid hb1
          clear hb1 hW3 x0_ x1_ x2_ x3_ x4_ x5_
          go_wp2_with (fail)
          refine (pow_b _ _ _ _ H31.out).mono ?_
          rintro e w6 ⟨rfl, hb6⟩
          generalize hW5 : (w1.alloc (.cells #[.int .i64 0, .int .i64 0] 37)).alloc (.cells #[.int .i64 0, .int .i64 0] 37) = W5 at hb6
          have hb5 : Below W3.heap.size W3 W5 := by rw [← hW5]; exact below_alloc (below_alloc HB1.out _) _
          have Y5 := Lib.hid (show W5.cell? ⟨w.heap.size, 0, none⟩ = some (.int .i64 a0_0) ∧ W5.cell? ⟨w.heap.size, 1, none⟩ = some (.int .i64 a0_1) ∧ W5.cell? ⟨w.heap.size + 1, 0, none⟩ = some (.int .i64 a1_0) ∧ W5.cell? ⟨w.heap.size + 1, 1, none⟩ = some (.int .i64 a1_1) ∧ W5.cell? ⟨w.heap.size + 1 + 1, 0, none⟩ = some (.int .i64 a2_0) ∧ W5.cell? ⟨w.heap.size + 1 + 1, 1, none⟩ = some (.int .i64 a2_1) ∧ W5.cell? ⟨w1.heap.size, 0, none⟩ = some (.int .i64 0) ∧ W5.cell? ⟨w1.heap.size, 1, none⟩ = some (.int .i64 0) ∧ W5.cell? ⟨w1.heap.size + 1, 0, none⟩ = some (.int .i64 0) ∧ W5.cell? ⟨w1.heap.size + 1, 1, none⟩ = some (.int .i64 0) by
            obtain ⟨_, x0_, x1_, x2_, x3_, x4_, x5_⟩ := X.out
            refine ⟨tp_x hb5 x0_, tp_x hb5 x1_, tp_x hb5 x2_, tp_x hb5 x3_, tp_x hb5 x4_, tp_x hb5 x5_, ?_⟩
            rw [← hW5]
            exact ⟨it_alloc _ (tp_at2 rfl _ _ _).1, it_alloc _ (tp_at2 rfl _ _ _).2, (tp_at2 (by simp) _ _ _).1, (tp_at2 (by simp) _ _ _).2⟩)
          have HB5 := Lib.hid (show Below w.heap.size w W5 from below_then z1 z1.size hb5)
          clear hb5
          have HB6 := Lib.hid (below_then HB5.out HB5.out.size hb6)
          have Y6 := Lib.hid (keep10 hb6 Y5.out)
          clear hb6 hW5
          go_wp2_with (fail)
          refine (set_b _ _ _ _ _ HS.out).mono ?_
          rintro e w7 ⟨rfl, hb7⟩
          have HB7 := Lib.hid (below_then HB6.out HB6.out.size hb7)
          have Y7 := Lib.hid (keep10 hb7 Y6.out)
          clear hb7
          go_wp2_with (fail)
          first | (go_region_held3 (fun W => W.cell? ⟨w.heap.size, 0, none⟩ = some (.int .i64 a0_0) ∧ W.cell? ⟨w.heap.size, 1, none⟩ = some (.int .i64 a0_1) ∧ W.cell? ⟨w.heap.size + 1, 0, none⟩ = some (.int .i64 a1_0) ∧ W.cell? ⟨w.heap.size + 1, 1, none⟩ = some (.int .i64 a1_1) ∧ W.cell? ⟨w.heap.size + 1 + 1, 0, none⟩ = some (.int .i64 a2_0) ∧ W.cell? ⟨w.heap.size + 1 + 1, 1, none⟩ = some (.int .i64 a2_1) ∧ W.cell? ⟨w1.heap.size, 0, none⟩ = some (.int .i64 0) ∧ W.cell? ⟨w1.heap.size, 1, none⟩ = some (.int .i64 0) ∧ W.cell? ⟨w1.heap.size + 1, 0, none⟩ = some (.int .i64 0) ∧ W.cell? ⟨w1.heap.size + 1, 1, none⟩ = some (.int .i64 0)) (first | exact Y7.out | (refine keep10 (by assumption) ?_; assumption) | assumption) (first
            | (go_at_call 30; with_reducible refine (headroomref03_Within.calls a0_0 a0_1 2147483648 _ _ HWa.out).mono ?_; rintro e wa ⟨rfl, hba⟩)
            | (go_at_call 30; with_reducible refine (headroomref03_Within.calls a1_0 a1_1 2147483648 _ _ HWb.out).mono ?_; rintro e wb ⟨rfl, hbb⟩)
            | (go_at_call 27; with_reducible refine (pow_b _ _ _ _ HM.out).mono ?_; rintro e wp ⟨rfl, hbp⟩)
            | (go_at_call 30; with_reducible refine (headroomref03_Within.calls a2_0 a2_1 M _ _ HWc.out).mono ?_; rintro e wc ⟨rfl, hbc⟩)
            | fail)) | fail
          all_goals
            have HBwa := Lib.hid (show Below w.heap.size w wa from below_then (below_drew1 HB7.out) (by first | exact (below_drew1 HB7.out).size | simpa using (below_drew1 HB7.out).size) hba)
            have Ywa := Lib.hid (keep10 hba (show w7.drew.cell? ⟨w.heap.size, 0, none⟩ = some (.int .i64 a0_0) ∧ w7.drew.cell? ⟨w.heap.size, 1, none⟩ = some (.int .i64 a0_1) ∧ w7.drew.cell? ⟨w.heap.size + 1, 0, none⟩ = some (.int .i64 a1_0) ∧ w7.drew.cell? ⟨w.heap.size + 1, 1, none⟩ = some (.int .i64 a1_1) ∧ w7.drew.cell? ⟨w.heap.size + 1 + 1, 0, none⟩ = some (.int .i64 a2_0) ∧ w7.drew.cell? ⟨w.heap.size + 1 + 1, 1, none⟩ = some (.int .i64 a2_1) ∧ w7.drew.cell? ⟨w1.heap.size, 0, none⟩ = some (.int .i64 0) ∧ w7.drew.cell? ⟨w1.heap.size, 1, none⟩ = some (.int .i64 0) ∧ w7.drew.cell? ⟨w1.heap.size + 1, 0, none⟩ = some (.int .i64 0) ∧ w7.drew.cell? ⟨w1.heap.size + 1, 1, none⟩ = some (.int .i64 0) from Y7.out))
            have HBwb := Lib.hid (show Below w.heap.size w wb from below_then (HBwa.out) (by first | exact (HBwa.out).size | simpa using (HBwa.out).size) hbb)
            have Ywb := Lib.hid (keep10 hbb Ywa.out)
            have HBwp := Lib.hid (show Below w.heap.size w wp from below_then (HBwb.out) (by first | exact (HBwb.out).size | simpa using (HBwb.out).size) hbp)
            have Ywp := Lib.hid (keep10 hbp Ywb.out)
            have HBwc := Lib.hid (show Below w.heap.size w wc from below_then (HBwp.out) (by first | exact (HBwp.out).size | simpa using (HBwp.out).size) hbc)
            have Ywc := Lib.hid (keep10 hbc Ywp.out)
            clear hba hbb hbp hbc
            go_wp2_with (fail)
            refine (headroomlaw10_alive.calls _ _ HA.out).mono ?_
            rintro e w9 ⟨rfl, hb9⟩
            obtain ⟨_, _, _, _, _, _, y6_, y7_, y8_, y9_⟩ := Ywc.out
            have HB9 := Lib.hid (below_then HBwc.out (HBwc.out).size hb9)
            replace y6_ := tp_x hb9 y6_; replace y7_ := tp_x hb9 y7_; replace y8_ := tp_x hb9 y8_; replace y9_ := tp_x hb9 y9_
            clear hb9
            go_wp2
            go_ret
            exact ⟨rfl, HB9.out⟩
        · have HWc := Lib.hid hwc
          have HU := Lib.hid hu
          have HD := Lib.hid hd
          clear hwc hu hd
          as_aux_lemma =>
          obtain ⟨W3, hW3⟩ : ∃ W3, ((w.alloc (.cells #[.int .i64 a0_0, .int .i64 a0_1] 37)).alloc (.cells #[.int .i64 a1_0, .int .i64 a1_1] 37)).alloc (.cells #[.int .i64 a2_0, .int .i64 a2_1] 37) = W3 := ⟨_, rfl⟩
          have X := Lib.hid (show Below w.heap.size w W3 ∧ W3.cell? ⟨w.heap.size, 0, none⟩ = some (.int .i64 a0_0) ∧ W3.cell? ⟨w.heap.size, 1, none⟩ = some (.int .i64 a0_1) ∧ W3.cell? ⟨w.heap.size + 1, 0, none⟩ = some (.int .i64 a1_0) ∧ W3.cell? ⟨w.heap.size + 1, 1, none⟩ = some (.int .i64 a1_1) ∧ W3.cell? ⟨w.heap.size + 1 + 1, 0, none⟩ = some (.int .i64 a2_0) ∧ W3.cell? ⟨w.heap.size + 1 + 1, 1, none⟩ = some (.int .i64 a2_1) by
            rw [← hW3]
            refine ⟨by repeat (first | exact Below.refl _ _ | refine below_alloc ?_ _), ?_, ?_, ?_, ?_, ?_, ?_⟩
            all_goals repeat (first | exact (tp_at2 (by simp) _ _ _).1 | exact (tp_at2 (by simp) _ _ _).2 | refine it_alloc _ ?_))
          obtain ⟨z1, x0_, x1_, x2_, x3_, x4_, x5_⟩ := X.out
          go_enter Try.func5, Try.ntmps5
          go_wp2_with (fail)
          refine (two_Pair.calls _ _ _ _ _ _ _ _ _ _ _ _ _ _ _ HP.out).mono ?_
          rintro e w1 ⟨rfl, hb1⟩
          have HB1 := Lib.hid hb1
          clear hb1 hW3 x0_ x1_ x2_ x3_ x4_ x5_
          obtain ⟨W5, hW5⟩ : ∃ W5, (w1.alloc (.cells #[.int .i64 x0, .int .i64 x1] 37)).alloc (.cells #[.int .i64 y0, .int .i64 y1] 37) = W5 := ⟨_, rfl⟩
          have hb5 : Below W3.heap.size W3 W5 := by rw [← hW5]; exact below_alloc (below_alloc HB1.out _) _
          have Y5 := Lib.hid (show W5.cell? ⟨w.heap.size, 0, none⟩ = some (.int .i64 a0_0) ∧ W5.cell? ⟨w.heap.size, 1, none⟩ = some (.int .i64 a0_1) ∧ W5.cell? ⟨w.heap.size + 1, 0, none⟩ = some (.int .i64 a1_0) ∧ W5.cell? ⟨w.heap.size + 1, 1, none⟩ = some (.int .i64 a1_1) ∧ W5.cell? ⟨w.heap.size + 1 + 1, 0, none⟩ = some (.int .i64 a2_0) ∧ W5.cell? ⟨w.heap.size + 1 + 1, 1, none⟩ = some (.int .i64 a2_1) ∧ W5.cell? ⟨w1.heap.size, 0, none⟩ = some (.int .i64 x0) ∧ W5.cell? ⟨w1.heap.size, 1, none⟩ = some (.int .i64 x1) ∧ W5.cell? ⟨w1.heap.size + 1, 0, none⟩ = some (.int .i64 y0) ∧ W5.cell? ⟨w1.heap.size + 1, 1, none⟩ = some (.int .i64 y1) by
            obtain ⟨_, x0_, x1_, x2_, x3_, x4_, x5_⟩ := X.out
            refine ⟨tp_x hb5 x0_, tp_x hb5 x1_, tp_x hb5 x2_, tp_x hb5 x3_, tp_x hb5 x4_, tp_x hb5 x5_, ?_⟩
            rw [← hW5]
            exact ⟨it_alloc _ (tp_at2 rfl _ _ _).1, it_alloc _ (tp_at2 rfl _ _ _).2, (tp_at2 (by simp) _ _ _).1, (tp_at2 (by simp) _ _ _).2⟩)
          have HB5 := Lib.hid (show Below w.heap.size w W5 from below_then z1 z1.size hb5)
          clear hb5
          go_wp2_with (fail)
          refine (pow_b _ _ _ _ H31.out).mono ?_
          rintro e w6 ⟨rfl, hb6⟩
          have HB6 := Lib.hid (below_then HB5.out HB5.out.size hb6)
          have Y6 := Lib.hid (keep10 hb6 Y5.out)
          clear hb6 hW5
          go_wp2_with (fail)
          refine (set_b _ _ _ _ _ HS.out).mono ?_
          rintro e w7 ⟨rfl, hb7⟩
          have HB7 := Lib.hid (below_then HB6.out HB6.out.size hb7)
          have Y7 := Lib.hid (keep10 hb7 Y6.out)
          clear hb7
          go_wp2_with (fail)
          first | (go_region_held3 (fun W => W.cell? ⟨w.heap.size, 0, none⟩ = some (.int .i64 a0_0) ∧ W.cell? ⟨w.heap.size, 1, none⟩ = some (.int .i64 a0_1) ∧ W.cell? ⟨w.heap.size + 1, 0, none⟩ = some (.int .i64 a1_0) ∧ W.cell? ⟨w.heap.size + 1, 1, none⟩ = some (.int .i64 a1_1) ∧ W.cell? ⟨w.heap.size + 1 + 1, 0, none⟩ = some (.int .i64 a2_0) ∧ W.cell? ⟨w.heap.size + 1 + 1, 1, none⟩ = some (.int .i64 a2_1) ∧ W.cell? ⟨w1.heap.size, 0, none⟩ = some (.int .i64 x0) ∧ W.cell? ⟨w1.heap.size, 1, none⟩ = some (.int .i64 x1) ∧ W.cell? ⟨w1.heap.size + 1, 0, none⟩ = some (.int .i64 y0) ∧ W.cell? ⟨w1.heap.size + 1, 1, none⟩ = some (.int .i64 y1)) (first | exact Y7.out | (refine keep10 (by assumption) ?_; assumption) | assumption) (first
            | (go_at_call 30; with_reducible refine (headroomref03_Within.calls a0_0 a0_1 2147483648 _ _ HWa.out).mono ?_; rintro e wa ⟨rfl, hba⟩)
            | (go_at_call 30; with_reducible refine (headroomref03_Within.calls a1_0 a1_1 2147483648 _ _ HWb.out).mono ?_; rintro e wb ⟨rfl, hbb⟩)
            | (go_at_call 27; with_reducible refine (pow_b _ _ _ _ HM.out).mono ?_; rintro e wp ⟨rfl, hbp⟩)
            | (go_at_call 30; with_reducible refine (headroomref03_Within.calls a2_0 a2_1 M _ _ HWc.out).mono ?_; rintro e wc ⟨rfl, hbc⟩)
            | fail)) | fail
          all_goals
            have HBwa := Lib.hid (show Below w.heap.size w wa from below_then (below_drew1 HB7.out) (by first | exact (below_drew1 HB7.out).size | simpa using (below_drew1 HB7.out).size) hba)
            have Ywa := Lib.hid (keep10 hba (show w7.drew.cell? ⟨w.heap.size, 0, none⟩ = some (.int .i64 a0_0) ∧ w7.drew.cell? ⟨w.heap.size, 1, none⟩ = some (.int .i64 a0_1) ∧ w7.drew.cell? ⟨w.heap.size + 1, 0, none⟩ = some (.int .i64 a1_0) ∧ w7.drew.cell? ⟨w.heap.size + 1, 1, none⟩ = some (.int .i64 a1_1) ∧ w7.drew.cell? ⟨w.heap.size + 1 + 1, 0, none⟩ = some (.int .i64 a2_0) ∧ w7.drew.cell? ⟨w.heap.size + 1 + 1, 1, none⟩ = some (.int .i64 a2_1) ∧ w7.drew.cell? ⟨w1.heap.size, 0, none⟩ = some (.int .i64 x0) ∧ w7.drew.cell? ⟨w1.heap.size, 1, none⟩ = some (.int .i64 x1) ∧ w7.drew.cell? ⟨w1.heap.size + 1, 0, none⟩ = some (.int .i64 y0) ∧ w7.drew.cell? ⟨w1.heap.size + 1, 1, none⟩ = some (.int .i64 y1) from Y7.out))
            have HBwb := Lib.hid (show Below w.heap.size w wb from below_then (HBwa.out) (by first | exact (HBwa.out).size | simpa using (HBwa.out).size) hbb)
            have Ywb := Lib.hid (keep10 hbb Ywa.out)
            have HBwp := Lib.hid (show Below w.heap.size w wp from below_then (HBwb.out) (by first | exact (HBwb.out).size | simpa using (HBwb.out).size) hbp)
            have Ywp := Lib.hid (keep10 hbp Ywb.out)
            have HBwc := Lib.hid (show Below w.heap.size w wc from below_then (HBwp.out) (by first | exact (HBwp.out).size | simpa using (HBwp.out).size) hbc)
            have Ywc := Lib.hid (keep10 hbc Ywp.out)
            clear hba hbb hbp hbc
            go_wp2_with (fail)
            first | (go_region_held3 (fun W => W.cell? ⟨w.heap.size, 0, none⟩ = some (.int .i64 a0_0) ∧ W.cell? ⟨w.heap.size, 1, none⟩ = some (.int .i64 a0_1) ∧ W.cell? ⟨w.heap.size + 1, 0, none⟩ = some (.int .i64 a1_0) ∧ W.cell? ⟨w.heap.size + 1, 1, none⟩ = some (.int .i64 a1_1) ∧ W.cell? ⟨w.heap.size + 1 + 1, 0, none⟩ = some (.int .i64 a2_0) ∧ W.cell? ⟨w.heap.size + 1 + 1, 1, none⟩ = some (.int .i64 a2_1) ∧ W.cell? ⟨w1.heap.size, 0, none⟩ = some (.int .i64 x0) ∧ W.cell? ⟨w1.heap.size, 1, none⟩ = some (.int .i64 x1) ∧ W.cell? ⟨w1.heap.size + 1, 0, none⟩ = some (.int .i64 y0) ∧ W.cell? ⟨w1.heap.size + 1, 1, none⟩ = some (.int .i64 y1)) (first | exact Ywc.out | (refine keep10 (by assumption) ?_; assumption) | assumption) (first
              | (go_at_call 29; refine (headroomlaw10_alive.calls _ _ HA.out).mono ?_; rintro e v1 ⟨rfl, hv1⟩)
              | (go_at_call 31; refine (headroomref10_Up.calls _ _ _ _ _ _ _ _ _ _ _ _ _ HU.out).mono ?_; rintro e v2 ⟨rfl, hv2⟩)
              | (go_at_call 32; refine (headroomref10_Down.calls _ _ _ _ _ _ _ _ _ _ _ _ _ HD.out).mono ?_; rintro e v3 ⟨rfl, hv3⟩)
              | fail)) | fail
            all_goals
              have HB9 := Lib.hid (show Below w.heap.size w v3 from below_then (below_then (below_then (below_drew1 HBwc.out) (by simpa using HBwc.out.size) hv1) (by have := HBwc.out.size; have := hv1.size; simp at *; omega) hv2) (by have := HBwc.out.size; have := hv1.size; have := hv2.size; simp at *; omega) hv3)
              clear hv1 hv2 hv3
              go_wp2
              go_ret
              exact ⟨rfl, HB9.out⟩

end Go.Proofs.Ytfemklaeonkidaa.P

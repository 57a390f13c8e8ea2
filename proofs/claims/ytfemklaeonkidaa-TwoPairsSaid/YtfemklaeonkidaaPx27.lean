-- Laid by this session's program hyb.py, out of the kit's print and this session's own contracts.
import Derived.Test.YtfemklaeonkidaaPx0
import Derived.Test.YtfemklaeonkidaaPx1
import Derived.Test.YtfemklaeonkidaaPx26
namespace Go.Proofs.Ytfemklaeonkidaa.P
open Go.RowKit Go.Proofs.YtfemklaeonkidaaW.PrintWords Go.Proofs.YtfemklaeonkidaaW.PrintLast Go.Proofs.YtfemklaeonkidaaW.PrintMore Go.Proofs.YtfemklaeonkidaaW.Hand
attribute [local go_sem] max2_int min2_int max_two min_two max_three min_three max_four min_four   -- for this text's walks alone
set_option linter.unusedVariables false
set_option linter.unusedSimpArgs false

attribute [local go_sem high] eqA37
/-! ### headroomlaw10_alive: function 29 -/
def headroomlaw10_alive.f  : Option (Bool) := (two_Pair.f 3 0 1 0 1 0 0 1 0).bind fun bt269 => (if bt269.2.2.2.2 = 0 then (if (bt269.1 == 2 && (bt269.2.1 == 0)) = true then (some (bt269.2.2.1 == 1 && (bt269.2.2.2.1 == 0))) else (some false)) else (some false))
set_option maxHeartbeats 8000000 in
set_option maxRecDepth 100000 in
theorem headroomlaw10_alive.calls  (r : Bool) (w : World) (h : headroomlaw10_alive.f  = some r) :
    Calls Try.prog 29 #[] w fun e w' => e = .returned (.bool r) ∧ Below w.heap.size w w' := by
  have hu37 := Try.underlying37
  have HB := Aside0.mk (Below.refl w.heap.size w)
  have H : ((two_Pair.f 3 0 1 0 1 0 0 1 0).bind fun bt269 => (if bt269.2.2.2.2 = 0 then (if (bt269.1 == 2 && (bt269.2.1 == 0)) = true then (some (bt269.2.2.1 == 1 && (bt269.2.2.2.1 == 0))) else (some false)) else (some false))) = some r := h
  clear h
  replace H := Option.bind_eq_some_iff.mp H
  obtain ⟨⟨t269, t270, t271, t272, t273⟩, A10, H⟩ := H
  replace H : (if t273 = 0 then (if (t269 == 2 && (t270 == 0)) = true then (some (t271 == 1 && (t272 == 0))) else (some false)) else (some false)) = some r := H
  have A1 := Aside0.mk A10
  clear A10
  by_cases c2 : t273 = 0
  · rw [if_pos c2] at H
    have c2b0 : (t273 == 0) = true := beq_iff_eq.mpr c2
    have c2b1 : (t273 != 0) = false := bne_eq_false_iff_eq.mpr c2
    clear c2
    by_cases c3 : (t269 == 2 && (t270 == 0)) = true
    · rw [if_pos c3] at H
      have c3b0 : (t269 == 2 && (t270 == 0)) = true := c3
      (try (have c3b1 : decide (t269 = 2 && (t270 == 0)) = true := by simpa using c3))
      (try (have c3b2 : (t269 == 2 && (t270 == 0)) = true := by simpa using c3))
      clear c3
      obtain rfl := Option.some.inj H
      go_enter Try.func29, Try.ntmps29
      go_wp2_with (first | ((with_reducible refine gate_callee (f := 26) rfl ?_); refine goesL_ (some 8) rfl rfl Try.func26 (by kernel_rfl) rfl #[.agg #[.int .i64 3, .int .i64 0], .agg #[.int .i64 1, .int .i64 0], .agg #[.int .i64 1, .int .i64 0], .int .i64 0, .int .i64 1, .int .i64 0] rfl (by (try simp only [List.map_toArray, List.map_cons, List.map_nil]); first | done | rfl | (simp only [List.length_drop, List.length_take]; rfl)) ?_; (with_reducible refine (two_Pair.calls 3 0 1 0 1 0 0 1 0 t269 t270 t271 t272 t273 _ A1.out).mono ?_); rintro e w4 ⟨rfl, hb⟩; refine ⟨_, rfl, ?_⟩; have n0_ := Aside0.mk (below_step (by repeat (first | (with_reducible first | exact HB.out | apply below_alloc | apply pw_below_drewN | apply below_drew1) | exact HB.out)) hb); clear HB; have HB := n0_; clear n0_; (try clear hb); (try clear hb2); (try clear hk); (try clear hi)) | ((with_reducible refine gate_dst (N := 1) rfl ?_); refine box_event ?hg (N := 1) ?hd (cs := #[.int .i64 0, .int .i64 0]) (t := 37) ?hr ?_; (case hd => rfl); (case hg => rfl); (case hr => first | (go_simp; done) | (go_simp; rfl)); intro gb274 hg w5 hbox hb; have n0_ := Aside0.mk (below_step (by repeat (first | (with_reducible first | exact HB.out | apply below_alloc | apply pw_below_drewN | apply below_drew1) | exact HB.out)) hb); have n1_ := Aside0.mk (hbox); have n2_ := Aside0.mk ((by rw [hg]; exact (below_size (by repeat (first | (with_reducible first | exact HB.out | apply below_alloc | apply pw_below_drewN | apply below_drew1) | exact HB.out))) : w.heap.size ≤ gb274)); have n3_ := Aside0.mk ((by rw [hg]; exact (below_size (by repeat (first | (with_reducible first | exact HB.out | apply below_alloc | apply pw_below_drewN | apply below_drew1) | exact HB.out))) : w.heap.size ≤ gb274)); clear HB; have HB := n0_; have BK274 := n1_; have GW274 := n2_; have GE274 := n3_; clear n0_ n1_ n2_ n3_; clear hb hbox hg) | ((with_reducible refine gate_dst (N := 2) rfl ?_); refine box_event ?hg (N := 2) ?hd (cs := #[.int .i64 0, .int .i64 0]) (t := 37) ?hr ?_; (case hd => rfl); (case hg => rfl); (case hr => first | (go_simp; done) | (go_simp; rfl)); intro gb275 hg w6 hbox hb; have n0_ := Aside0.mk (blk_below (g := gb274) (o := .cells #[.int .i64 0, .int .i64 0] 37 (0, 0)) (by (with_reducible repeat (first | refine blk_drewN ?_ _ | refine blk_drew ?_ | refine blk_alloc ?_ _)); exact BK274.out) hb); have n1_ := Aside0.mk (below_step (by repeat (first | (with_reducible first | exact HB.out | apply below_alloc | apply pw_below_drewN | apply below_drew1 | refine below_set ?_ GE274.out) | exact HB.out)) hb); have n2_ := Aside0.mk (hbox); have n3_ := Aside0.mk ((by rw [hg]; exact (below_size (by repeat (first | (with_reducible first | exact HB.out | apply below_alloc | apply pw_below_drewN | apply below_drew1 | refine below_set ?_ GE274.out) | exact HB.out))) : w.heap.size ≤ gb275)); have n4_ := Aside0.mk ((by rw [hg]; exact (below_size (by repeat (first | (with_reducible first | exact HB.out | apply below_alloc | apply pw_below_drewN | apply below_drew1 | refine below_set ?_ GE274.out) | exact HB.out))) : w.heap.size ≤ gb275)); have n5_ := Aside0.mk ((by rw [hg]; exact Nat.ne_of_lt (blk_lt (g := gb274) (o := .cells #[.int .i64 0, .int .i64 0] 37 (0, 0)) (by (with_reducible repeat (first | refine blk_drewN ?_ _ | refine blk_drew ?_ | refine blk_alloc ?_ _)); exact BK274.out)) : gb274 ≠ gb275)); have n6_ := Aside0.mk ((by rw [hg]; exact Nat.ne_of_gt (blk_lt (g := gb274) (o := .cells #[.int .i64 0, .int .i64 0] 37 (0, 0)) (by (with_reducible repeat (first | refine blk_drewN ?_ _ | refine blk_drew ?_ | refine blk_alloc ?_ _)); exact BK274.out)) : gb275 ≠ gb274)); clear BK274; clear HB; have BK274 := n0_; have HB := n1_; have BK275 := n2_; have GW275 := n3_; have GE275 := n4_; have NB274_275 := n5_; have NB275_274 := n6_; clear n0_ n1_ n2_ n3_ n4_ n5_ n6_; clear hb hbox hg; have hnb7 := NB274_275.out; have hnc7 := NB275_274.out; have hcz8_0 : w6.cell? ⟨gb274, 0, none⟩ = some (.int .i64 0) := (blk_cell BK274.out 0).trans rfl; have hcz8_1 : w6.cell? ⟨gb274, 1, none⟩ = some (.int .i64 0) := (blk_cell BK274.out 1).trans rfl; have hfz8_0 := blk_frozen BK274.out 0; have hfz8_1 := blk_frozen BK274.out 1; have hcz9_0 : w6.cell? ⟨gb275, 0, none⟩ = some (.int .i64 0) := (blk_cell BK275.out 0).trans rfl; have hcz9_1 : w6.cell? ⟨gb275, 1, none⟩ = some (.int .i64 0) := (blk_cell BK275.out 1).trans rfl; have hfz9_0 := blk_frozen BK275.out 0; have hfz9_1 := blk_frozen BK275.out 1))
      go_ret
      exact ⟨by first | rfl | (simp [errW_none, errW_some] <;> rfl) | (simp [*, errW_none, errW_some] <;> rfl), by repeat (first | (with_reducible first | exact HB.out | apply below_alloc | apply pw_below_drewN | apply below_drew1 | refine below_set ?_ GE274.out | refine below_set ?_ GE275.out) | exact HB.out)⟩
    · rw [if_neg c3] at H
      have c3b0 : (t269 == 2 && (t270 == 0)) = false := by simpa using c3
      (try (have c3b1 : decide (t269 = 2 && (t270 == 0)) = false := by simpa using c3))
      (try (have c3b2 : (t269 == 2 && (t270 == 0)) = false := by simpa using c3))
      (try (have c3b3 : ¬ (t269 = 2 && (t270 == 0)) := by simpa using c3))
      clear c3
      obtain rfl := Option.some.inj H
      go_enter Try.func29, Try.ntmps29
      go_wp2_with (first | ((with_reducible refine gate_callee (f := 26) rfl ?_); refine goesL_ (some 8) rfl rfl Try.func26 (by kernel_rfl) rfl #[.agg #[.int .i64 3, .int .i64 0], .agg #[.int .i64 1, .int .i64 0], .agg #[.int .i64 1, .int .i64 0], .int .i64 0, .int .i64 1, .int .i64 0] rfl (by (try simp only [List.map_toArray, List.map_cons, List.map_nil]); first | done | rfl | (simp only [List.length_drop, List.length_take]; rfl)) ?_; (with_reducible refine (two_Pair.calls 3 0 1 0 1 0 0 1 0 t269 t270 t271 t272 t273 _ A1.out).mono ?_); rintro e w10 ⟨rfl, hb⟩; refine ⟨_, rfl, ?_⟩; have n0_ := Aside0.mk (below_step (by repeat (first | (with_reducible first | exact HB.out | apply below_alloc | apply pw_below_drewN | apply below_drew1) | exact HB.out)) hb); clear HB; have HB := n0_; clear n0_; (try clear hb); (try clear hb2); (try clear hk); (try clear hi)) | ((with_reducible refine gate_dst (N := 1) rfl ?_); refine box_event ?hg (N := 1) ?hd (cs := #[.int .i64 0, .int .i64 0]) (t := 37) ?hr ?_; (case hd => rfl); (case hg => rfl); (case hr => first | (go_simp; done) | (go_simp; rfl)); intro gb274 hg w11 hbox hb; have n0_ := Aside0.mk (below_step (by repeat (first | (with_reducible first | exact HB.out | apply below_alloc | apply pw_below_drewN | apply below_drew1) | exact HB.out)) hb); have n1_ := Aside0.mk (hbox); have n2_ := Aside0.mk ((by rw [hg]; exact (below_size (by repeat (first | (with_reducible first | exact HB.out | apply below_alloc | apply pw_below_drewN | apply below_drew1) | exact HB.out))) : w.heap.size ≤ gb274)); have n3_ := Aside0.mk ((by rw [hg]; exact (below_size (by repeat (first | (with_reducible first | exact HB.out | apply below_alloc | apply pw_below_drewN | apply below_drew1) | exact HB.out))) : w.heap.size ≤ gb274)); clear HB; have HB := n0_; have BK274 := n1_; have GW274 := n2_; have GE274 := n3_; clear n0_ n1_ n2_ n3_; clear hb hbox hg) | ((with_reducible refine gate_dst (N := 2) rfl ?_); refine box_event ?hg (N := 2) ?hd (cs := #[.int .i64 0, .int .i64 0]) (t := 37) ?hr ?_; (case hd => rfl); (case hg => rfl); (case hr => first | (go_simp; done) | (go_simp; rfl)); intro gb275 hg w12 hbox hb; have n0_ := Aside0.mk (blk_below (g := gb274) (o := .cells #[.int .i64 0, .int .i64 0] 37 (0, 0)) (by (with_reducible repeat (first | refine blk_drewN ?_ _ | refine blk_drew ?_ | refine blk_alloc ?_ _)); exact BK274.out) hb); have n1_ := Aside0.mk (below_step (by repeat (first | (with_reducible first | exact HB.out | apply below_alloc | apply pw_below_drewN | apply below_drew1 | refine below_set ?_ GE274.out) | exact HB.out)) hb); have n2_ := Aside0.mk (hbox); have n3_ := Aside0.mk ((by rw [hg]; exact (below_size (by repeat (first | (with_reducible first | exact HB.out | apply below_alloc | apply pw_below_drewN | apply below_drew1 | refine below_set ?_ GE274.out) | exact HB.out))) : w.heap.size ≤ gb275)); have n4_ := Aside0.mk ((by rw [hg]; exact (below_size (by repeat (first | (with_reducible first | exact HB.out | apply below_alloc | apply pw_below_drewN | apply below_drew1 | refine below_set ?_ GE274.out) | exact HB.out))) : w.heap.size ≤ gb275)); have n5_ := Aside0.mk ((by rw [hg]; exact Nat.ne_of_lt (blk_lt (g := gb274) (o := .cells #[.int .i64 0, .int .i64 0] 37 (0, 0)) (by (with_reducible repeat (first | refine blk_drewN ?_ _ | refine blk_drew ?_ | refine blk_alloc ?_ _)); exact BK274.out)) : gb274 ≠ gb275)); have n6_ := Aside0.mk ((by rw [hg]; exact Nat.ne_of_gt (blk_lt (g := gb274) (o := .cells #[.int .i64 0, .int .i64 0] 37 (0, 0)) (by (with_reducible repeat (first | refine blk_drewN ?_ _ | refine blk_drew ?_ | refine blk_alloc ?_ _)); exact BK274.out)) : gb275 ≠ gb274)); clear BK274; clear HB; have BK274 := n0_; have HB := n1_; have BK275 := n2_; have GW275 := n3_; have GE275 := n4_; have NB274_275 := n5_; have NB275_274 := n6_; clear n0_ n1_ n2_ n3_ n4_ n5_ n6_; clear hb hbox hg; have hnb13 := NB274_275.out; have hnc13 := NB275_274.out; have hcz14_0 : w12.cell? ⟨gb274, 0, none⟩ = some (.int .i64 0) := (blk_cell BK274.out 0).trans rfl; have hcz14_1 : w12.cell? ⟨gb274, 1, none⟩ = some (.int .i64 0) := (blk_cell BK274.out 1).trans rfl; have hfz14_0 := blk_frozen BK274.out 0; have hfz14_1 := blk_frozen BK274.out 1; have hcz15_0 : w12.cell? ⟨gb275, 0, none⟩ = some (.int .i64 0) := (blk_cell BK275.out 0).trans rfl; have hcz15_1 : w12.cell? ⟨gb275, 1, none⟩ = some (.int .i64 0) := (blk_cell BK275.out 1).trans rfl; have hfz15_0 := blk_frozen BK275.out 0; have hfz15_1 := blk_frozen BK275.out 1))
      go_ret
      exact ⟨by first | rfl | (simp [errW_none, errW_some] <;> rfl) | (simp [*, errW_none, errW_some] <;> rfl), by repeat (first | (with_reducible first | exact HB.out | apply below_alloc | apply pw_below_drewN | apply below_drew1 | refine below_set ?_ GE274.out | refine below_set ?_ GE275.out) | exact HB.out)⟩
  · rw [if_neg c2] at H
    have c2b0 : (t273 == 0) = false := beq_eq_false_iff_ne.mpr c2
    have c2b1 : (t273 != 0) = true := bne_iff_ne.mpr c2
    obtain rfl := Option.some.inj H
    go_enter Try.func29, Try.ntmps29
    go_wp2_with (first | ((with_reducible refine gate_callee (f := 26) rfl ?_); refine goesL_ (some 8) rfl rfl Try.func26 (by kernel_rfl) rfl #[.agg #[.int .i64 3, .int .i64 0], .agg #[.int .i64 1, .int .i64 0], .agg #[.int .i64 1, .int .i64 0], .int .i64 0, .int .i64 1, .int .i64 0] rfl (by (try simp only [List.map_toArray, List.map_cons, List.map_nil]); first | done | rfl | (simp only [List.length_drop, List.length_take]; rfl)) ?_; (with_reducible refine (two_Pair.calls 3 0 1 0 1 0 0 1 0 t269 t270 t271 t272 t273 _ A1.out).mono ?_); rintro e w16 ⟨rfl, hb⟩; refine ⟨_, rfl, ?_⟩; have n0_ := Aside0.mk (below_step (by repeat (first | (with_reducible first | exact HB.out | apply below_alloc | apply pw_below_drewN | apply below_drew1) | exact HB.out)) hb); clear HB; have HB := n0_; clear n0_; (try clear hb); (try clear hb2); (try clear hk); (try clear hi)) | ((with_reducible refine gate_dst (N := 1) rfl ?_); refine box_event ?hg (N := 1) ?hd (cs := #[.int .i64 0, .int .i64 0]) (t := 37) ?hr ?_; (case hd => rfl); (case hg => rfl); (case hr => first | (go_simp; done) | (go_simp; rfl)); intro gb274 hg w17 hbox hb; have n0_ := Aside0.mk (below_step (by repeat (first | (with_reducible first | exact HB.out | apply below_alloc | apply pw_below_drewN | apply below_drew1) | exact HB.out)) hb); have n1_ := Aside0.mk (hbox); have n2_ := Aside0.mk ((by rw [hg]; exact (below_size (by repeat (first | (with_reducible first | exact HB.out | apply below_alloc | apply pw_below_drewN | apply below_drew1) | exact HB.out))) : w.heap.size ≤ gb274)); have n3_ := Aside0.mk ((by rw [hg]; exact (below_size (by repeat (first | (with_reducible first | exact HB.out | apply below_alloc | apply pw_below_drewN | apply below_drew1) | exact HB.out))) : w.heap.size ≤ gb274)); clear HB; have HB := n0_; have BK274 := n1_; have GW274 := n2_; have GE274 := n3_; clear n0_ n1_ n2_ n3_; clear hb hbox hg) | ((with_reducible refine gate_dst (N := 2) rfl ?_); refine box_event ?hg (N := 2) ?hd (cs := #[.int .i64 0, .int .i64 0]) (t := 37) ?hr ?_; (case hd => rfl); (case hg => rfl); (case hr => first | (go_simp; done) | (go_simp; rfl)); intro gb275 hg w18 hbox hb; have n0_ := Aside0.mk (blk_below (g := gb274) (o := .cells #[.int .i64 0, .int .i64 0] 37 (0, 0)) (by (with_reducible repeat (first | refine blk_drewN ?_ _ | refine blk_drew ?_ | refine blk_alloc ?_ _)); exact BK274.out) hb); have n1_ := Aside0.mk (below_step (by repeat (first | (with_reducible first | exact HB.out | apply below_alloc | apply pw_below_drewN | apply below_drew1 | refine below_set ?_ GE274.out) | exact HB.out)) hb); have n2_ := Aside0.mk (hbox); have n3_ := Aside0.mk ((by rw [hg]; exact (below_size (by repeat (first | (with_reducible first | exact HB.out | apply below_alloc | apply pw_below_drewN | apply below_drew1 | refine below_set ?_ GE274.out) | exact HB.out))) : w.heap.size ≤ gb275)); have n4_ := Aside0.mk ((by rw [hg]; exact (below_size (by repeat (first | (with_reducible first | exact HB.out | apply below_alloc | apply pw_below_drewN | apply below_drew1 | refine below_set ?_ GE274.out) | exact HB.out))) : w.heap.size ≤ gb275)); have n5_ := Aside0.mk ((by rw [hg]; exact Nat.ne_of_lt (blk_lt (g := gb274) (o := .cells #[.int .i64 0, .int .i64 0] 37 (0, 0)) (by (with_reducible repeat (first | refine blk_drewN ?_ _ | refine blk_drew ?_ | refine blk_alloc ?_ _)); exact BK274.out)) : gb274 ≠ gb275)); have n6_ := Aside0.mk ((by rw [hg]; exact Nat.ne_of_gt (blk_lt (g := gb274) (o := .cells #[.int .i64 0, .int .i64 0] 37 (0, 0)) (by (with_reducible repeat (first | refine blk_drewN ?_ _ | refine blk_drew ?_ | refine blk_alloc ?_ _)); exact BK274.out)) : gb275 ≠ gb274)); clear BK274; clear HB; have BK274 := n0_; have HB := n1_; have BK275 := n2_; have GW275 := n3_; have GE275 := n4_; have NB274_275 := n5_; have NB275_274 := n6_; clear n0_ n1_ n2_ n3_ n4_ n5_ n6_; clear hb hbox hg; have hnb19 := NB274_275.out; have hnc19 := NB275_274.out; have hcz20_0 : w18.cell? ⟨gb274, 0, none⟩ = some (.int .i64 0) := (blk_cell BK274.out 0).trans rfl; have hcz20_1 : w18.cell? ⟨gb274, 1, none⟩ = some (.int .i64 0) := (blk_cell BK274.out 1).trans rfl; have hfz20_0 := blk_frozen BK274.out 0; have hfz20_1 := blk_frozen BK274.out 1; have hcz21_0 : w18.cell? ⟨gb275, 0, none⟩ = some (.int .i64 0) := (blk_cell BK275.out 0).trans rfl; have hcz21_1 : w18.cell? ⟨gb275, 1, none⟩ = some (.int .i64 0) := (blk_cell BK275.out 1).trans rfl; have hfz21_0 := blk_frozen BK275.out 0; have hfz21_1 := blk_frozen BK275.out 1))
    go_ret
    exact ⟨by first | rfl | (simp [errW_none, errW_some] <;> rfl) | (simp [*, errW_none, errW_some] <;> rfl), by repeat (first | (with_reducible first | exact HB.out | apply below_alloc | apply pw_below_drewN | apply below_drew1 | refine below_set ?_ GE274.out | refine below_set ?_ GE275.out) | exact HB.out)⟩

-- NOT PRINTED: function 89 (api_Cx_89)

/-! ### api_Cx_70: function 70 -/
set_option maxHeartbeats 2000000 in
theorem idx_cxs (F : FuncId) (cap : Array Value) (p : S37 → Bool) (A : Option Addr) (c : Nat) (l : List S37) (w : World) (hr : Kd.C k37 w A l.length l) (hl : l.length ≤ 17592186044416)
    (hE : ∀ (a : Array Value) (w : World), (callFunc F a).run Try.prog w = .ok (.enter F a) w)
    (hF : Hid (∀ x ∈ l, ∀ W, Below w.heap.size w W → Calls Try.prog F (#[.agg #[.int .i64 x.f0, .int .i64 x.f1]] ++ cap) W fun e W' => e = .returned (.bool (p x)) ∧ Below W.heap.size W W')) :
    Calls Try.prog 89 #[.slice A l.length c, .func (.func F) #[] cap] w fun e w' => (∃ i : Int, (decide (0 ≤ i)) = l.any p ∧ e = .returned (.int .i64 i)) ∧ Below w.heap.size w w' := by
  have HR := Lib.hid hr
  clear hr
  go_enter Try.func89, Try.ntmps89
  go_wp2
  go_loopw [8] (fun i wr => ∃ k : Nat, k ≤ l.length ∧ i = .int .i64 k ∧ Hid ((l.take k).any p = false) ∧ Hid (Below w.heap.size w wr)) (fun i _ => l.length - (intOf i).toNat)
  case atStart => exact ⟨0, Nat.zero_le _, rfl, Lib.hid (by simp), Lib.hid (Below.refl _ _)⟩
  case round =>
    obtain ⟨k, hk, rfl, hany, hb⟩ := hrel
    by_cases hlt : k < l.length
    · obtain ⟨ad, rfl, x0, x1⟩ := at_T37 HR.out (k : Int) (by omega) (by omega)
      have hrd : rd_T37 l (k : Int) = l[k] := by simp [rd_T37, List.getD_eq_getElem?_getD, List.getElem?_eq_getElem hlt]
      rw [hrd] at x0 x1
      replace x0 := (hb.out.cell (World.block_lt_of_cell? w _ x0)).trans x0
      replace x1 := (hb.out.cell (World.block_lt_of_cell? w _ x1)).trans x1
      simp only [Int.toNat_natCast] at x0 x1
      clear hrd
      have hs : (l.take (k + 1)).any p = (p l[k] || (l.take k).any p) := by
        rw [List.take_succ_eq_append_getElem hlt, List.any_append, List.any_cons, List.any_nil, Bool.or_false, Bool.or_comm]
      have hl1 : p l[k] = true → l.any p = true := fun h => List.any_eq_true.2 ⟨_, List.getElem_mem hlt, h⟩
      have HS := Lib.hid hs
      have HL := Lib.hid hl1
      clear hs hl1
      go_wp2_with (fail)
      refine (hF.out _ (List.getElem_mem hlt) _ hb.out).mono ?_
      rintro e w1 ⟨rfl, hb1⟩
      have HB1 := Lib.hid (below_then hb.out hb.out.size hb1)
      clear hb1
      cases hp : p l[k] with
      | true =>
        have H1 := Lib.hid (HL.out hp)
        clear hp
        go_wp2
        go_ret
        exact ⟨⟨_, by rw [H1.out]; simp, rfl⟩, HB1.out⟩
      | false =>
        have H1 := Lib.hid (HS.out.trans (by rw [hp, hany.out] <;> rfl))
        clear hp
        go_wp2
        go_roundw
        case rel => exact ⟨k + 1, by omega, by go_num, H1, HB1⟩
        case measure => simp [intOf]; omega
    · have H1 := Lib.hid (show l.any p = false by rw [← hany.out, List.take_of_length_le (by omega)])
      go_wp2
      go_ret
      exact ⟨⟨-1, by rw [H1.out]; rfl, rfl⟩, hb.out⟩
theorem contains_cxs (F : FuncId) (cap : Array Value) (p : S37 → Bool) (A : Option Addr) (c : Nat) (l : List S37) (r : Bool) (w : World) (hr : Kd.C k37 w A l.length l) (hl : l.length ≤ 17592186044416)
    (hE : ∀ (a : Array Value) (w : World), (callFunc F a).run Try.prog w = .ok (.enter F a) w) (hp : l.any p = r)
    (hF : ∀ x ∈ l, ∀ W, Below w.heap.size w W → Calls Try.prog F (#[.agg #[.int .i64 x.f0, .int .i64 x.f1]] ++ cap) W fun e W' => e = .returned (.bool (p x)) ∧ Below W.heap.size W W') :
    Calls Try.prog 70 #[.slice A l.length c, .func (.func F) #[] cap] w fun e w' => e = .returned (.bool r) ∧ Below w.heap.size w w' := by
  have hi := idx_cxs F cap p A c l w hr hl hE (Lib.hid hF)
  have HI := Lib.hid hi
  have HP := Lib.hid hp
  clear hi hr hE hF hp
  go_enter Try.func70, Try.ntmps70
  go_wp2_with (fail)
  refine HI.out.mono ?_
  rintro e w1 ⟨⟨i, hi, rfl⟩, hb⟩
  have HH := Lib.hid hi
  clear hi
  go_wp2
  go_ret
  exact ⟨by rw [← HP.out, ← HH.out]; rfl, hb⟩

/-! ### flip_Log: function 73 -/
def flip_Log.l0 : Nat → Int → Int → Option (Int × Int)
  | 0, _, _ => none
  | k + 1, x0, x4 => if x4 ≤ 6 then (if 0 ≤ x4 then (if x0 = (shl .i64 1 x4) then (some (x4, 0)) else (flip_Log.l0 k x0 (wrap64 (x4 + 1)))) else (none)) else (some (0, 3))
def flip_Log.f (k : Nat) (a0 : Int) : Option (Int × Int) := flip_Log.l0 k a0 2
theorem flip_Log.mono_l : ∀ k, (∀ y0 y1, LeO (flip_Log.l0 k y0 y1) (flip_Log.l0 (k + 1) y0 y1))
  | 0 => fun _ _ r h => by simp [flip_Log.l0] at h
  | k + 1 => by
    have ih0 := flip_Log.mono_l k
    · intro y0 y1
      unfold flip_Log.l0
      repeat' first
      | (with_reducible exact ih0 _ _)
      | (with_reducible exact LeO.refl _)
      | (with_reducible exact LeO.none _)
      | (with_reducible refine LeO.ite ?_ ?_)
      | (with_reducible refine LeO.bind ?_ (fun _ => ?_))
      | exact ih0 _ _
      | exact LeO.none _
      | refine LeO.ite ?_ ?_
      | refine LeO.bind ?_ (fun _ => ?_)
theorem flip_Log.mono : ∀ a0 k, LeO (flip_Log.f k a0) (flip_Log.f (k + 1) a0) := by
  intro a0 k
  have ih0 := flip_Log.mono_l k
  unfold flip_Log.f
  repeat' first
      | (with_reducible exact ih0 _ _)
      | (with_reducible exact LeO.refl _)
      | (with_reducible exact LeO.none _)
      | (with_reducible refine LeO.ite ?_ ?_)
      | (with_reducible refine LeO.bind ?_ (fun _ => ?_))
      | exact ih0 _ _
      | exact LeO.none _
      | refine LeO.ite ?_ ?_
      | refine LeO.bind ?_ (fun _ => ?_)
set_option maxHeartbeats 8000000 in
set_option maxRecDepth 100000 in
theorem flip_Log.calls (k : Nat) (a0 : Int) (r1 : Int) (r2 : Int) (w : World) (h : flip_Log.f k a0 = some (r1, r2)) :
    Calls Try.prog 73 #[.int .i64 a0] w fun e w' => e = .returned (.tuple #[.int .i64 r1, .int .i64 r2]) ∧ Drawn0 w w' := by
  have H : (flip_Log.l0 k a0 2) = some (r1, r2) := h
  clear h
  have H' := Aside0.mk H
  clear H
  go_enter Try.func73, Try.ntmps73
  go_wp2
  go_loopg [4] k (fun kq v4 w' => ∃ (x4_1 : Int), v4 = .int .i64 x4_1 ∧ Aside0 (flip_Log.l0 kq a0 x4_1 = some (r1, r2)) ∧ Aside0 (kq ≤ k) ∧ Drawn0 w w')
  case atStart => exact ⟨(2), (by first | rfl | (simp; done) | (simp [*]; done)), H', ⟨Nat.le_refl _⟩, by repeat (first | exact Drawn0.refl _ | apply Drawn0.step)⟩
  case round =>
    clear H'
    obtain ⟨x4_1, rfl, HA, HK1, ⟨m1, rfl⟩⟩ := hrel
    cases gk with
    | zero => exact absurd HA.out (by simp [flip_Log.l0])
    | succ k1 =>
      have H := HA.out
      clear HA
      simp only [flip_Log.l0] at H
      by_cases c2 : x4_1 ≤ 6
      · rw [if_pos c2] at H
        have c2b0 : decide (x4_1 ≤ 6) = true := decide_eq_true c2
        clear c2
        by_cases c3 : 0 ≤ x4_1
        · rw [if_pos c3] at H
          have c3b0 := eq_true c3
          have c3b1 : decide (0 ≤ x4_1) = true := decide_eq_true c3
          clear c3
          obtain ⟨ji4, hji4⟩ : ∃ j_ : Int, (shl .i64 1 x4_1) = j_ := ⟨_, rfl⟩
          replace H : (if a0 = (ji4) then (some (x4_1, 0)) else (flip_Log.l0 k1 a0 (wrap64 (x4_1 + 1)))) = some (r1, r2) := by first | (rw [hji4] at H; exact H) | (simp only [hji4] at H ⊢; exact H)
          have hji4_ : (IntKind.i64.wrap (1 * 2 ^ min x4_1.toNat 64)) = ji4 := hji4
          have hji4z : x4_1 ≤ 64 → (IntKind.i64.wrap (1 * 2 ^ x4_1.toNat)) = ji4 := shl_small hji4
          have hji4u : (IntKind.i64.wrap (2 ^ min x4_1.toNat 64)) = ji4 := by have h_ := hji4_; rw [Int.one_mul] at h_; exact h_
          have hji4v : x4_1 ≤ 64 → (IntKind.i64.wrap (2 ^ x4_1.toNat)) = ji4 := fun hle_ => by have h_ := hji4z hle_; rw [Int.one_mul] at h_; exact h_
          have hji4y : (wrap64 (1 * 2 ^ min x4_1.toNat 64)) = ji4 := (i64_w _).symm.trans hji4_
          have hji4x : x4_1 ≤ 64 → (wrap64 (1 * 2 ^ x4_1.toNat)) = ji4 := fun h_ => (i64_w _).symm.trans (hji4z h_)
          by_cases c5 : a0 = (ji4)
          · rw [if_pos c5] at H
            have c5b0 : (a0 == (ji4)) = true := beq_iff_eq.mpr c5
            have c5b1 : (a0 != (ji4)) = false := bne_eq_false_iff_eq.mpr c5
            clear c5
            simp only [Option.some.injEq, Prod.mk.injEq] at H
            obtain ⟨rfl, rfl⟩ := H
            go_wp2
            go_ret2
            exact ⟨by first | rfl | (simp; done) | (simp only [← hji4] <;> (first | rfl | simp)) | (simp [*]; done), by repeat (first | exact Drawn0.refl _ | apply Drawn0.step)⟩
          · rw [if_neg c5] at H
            have c5b0 : (a0 == (ji4)) = false := beq_eq_false_iff_ne.mpr c5
            have c5b1 : (a0 != (ji4)) = true := bne_iff_ne.mpr c5
            have H' := Aside0.mk H
            clear H
            go_wp2
            go_roundg k1
            case measure => have := HK1.out; omega
            case rel => exact ⟨(wrap64 (x4_1 + 1)), (by first | rfl | (simp; done) | (simp [*]; done)), H', ⟨by have := HK1.out; omega⟩, by repeat (first | exact Drawn0.refl _ | apply Drawn0.step)⟩
        · rw [if_neg c3] at H
          exact absurd H (by simp)
      · rw [if_neg c2] at H
        have c2b0 : decide (x4_1 ≤ 6) = false := decide_eq_false c2
        clear c2
        simp only [Option.some.injEq, Prod.mk.injEq] at H
        obtain ⟨rfl, rfl⟩ := H
        go_wp2
        go_ret2
        exact ⟨by first | rfl | (simp; done) | (simp [*]; done), by repeat (first | exact Drawn0.refl _ | apply Drawn0.step)⟩

/-! ### api_Cx_76: function 76 -/
def cxcells (l : List S37) : List Value := l.flatMap fun x => [.int .i64 x.f0, .int .i64 x.f1]
theorem cxcells_len (l : List S37) : (cxcells l).length = l.length * 2 := by
  induction l with
  | nil => rfl
  | cons a l ih => rw [cxcells, List.flatMap_cons, List.length_append, ← cxcells, ih, List.length_cons]; simp; omega
theorem cxcells_at (l : List S37) (j : Nat) (u : Value) (h : (cxcells l)[j]? = some u) : ∃ x, l[j / 2]? = some x ∧ (j % 2 = 0 ∧ u = .int .i64 x.f0 ∨ j % 2 = 1 ∧ u = .int .i64 x.f1) := by
  induction l generalizing j with
  | nil => simp [cxcells] at h
  | cons a l ih =>
    rw [cxcells, List.flatMap_cons, ← cxcells] at h
    match j with
    | 0 => exact ⟨a, rfl, .inl ⟨rfl, by simpa using h.symm⟩⟩
    | 1 => exact ⟨a, rfl, .inr ⟨rfl, by simpa using h.symm⟩⟩
    | j + 2 =>
      have h' : (cxcells l)[j]? = some u := by simpa using h
      obtain ⟨x, hx, hu⟩ := ih j h'
      refine ⟨x, by rw [show (j + 2) / 2 = j / 2 + 1 by omega]; simpa using hx, ?_⟩
      rw [show (j + 2) % 2 = j % 2 by omega]
      exact hu
theorem cxcells_get (l : List S37) (i : Nat) (x : S37) (h : l[i]? = some x) : ((cxcells l).drop (i * 2)).take 2 = [.int .i64 x.f0, .int .i64 x.f1] := by
  induction l generalizing i with
  | nil => simp at h
  | cons a l ih =>
    rw [cxcells, List.flatMap_cons, ← cxcells]
    match i with
    | 0 =>
      have : a = x := by simpa using h
      subst this
      rfl
    | i + 1 => rw [show (i + 1) * 2 = i * 2 + 2 by omega]; exact ih i (by simpa using h)
theorem cxcells_reps (w : World) (base : Nat) (ok : Nat → Prop) (l : List S37) : Reps (k37.M w base ok) 2 l (cxcells l) :=
  ⟨cxcells_len l, fun j p hj => by rw [cxcells_get l j p hj]; exact k37_mkM _ _ _ _⟩
theorem cxcells_one (l : List S37) : ∀ u ∈ cxcells l, u.oneCell' = true := by
  intro u hu
  obtain ⟨x, _, hx⟩ := List.mem_flatMap.1 hu
  simp only [List.mem_cons, List.not_mem_nil, or_false] at hx
  rcases hx with rfl | rfl <;> rfl
set_option maxHeartbeats 1000000 in
set_option maxRecDepth 100000 in
theorem clone_cxs (A : Option Addr) (c : Nat) (l : List S37) (w : World) (hr : Kd.C k37 w A l.length l) (hl : 0 < l.length ∧ l.length ≤ 1000) :
    Calls Try.prog 76 #[.slice A l.length c] w fun e w' => ∃ v, e = .returned v ∧ w'.ownsRow w.heap.size 37 2 v l.length (cxcells l) ∧ Below w.heap.size w w' := by
  obtain ⟨ad, rfl, _, _⟩ := at_T37 hr 0 (by omega) (by omega)
  obtain ⟨i0, hi, hzz⟩ := Option.map_eq_some_iff.1 info37
  simp only [Prod.mk.injEq] at hzz
  obtain ⟨hz0, hz1, hz2⟩ := hzz
  have HI := Lib.hid hi
  have HZ0 := Lib.hid hz0
  have HZ1 := Lib.hid hz1
  have HZ2 := Lib.hid hz2
  have HN := Lib.hid (show ∀ j u, (cxcells l)[j]? = some u → w.cell? (ad.add j) = some u from fun j u hu => by
    obtain ⟨x, hx, hj⟩ := cxcells_at l j u hu
    have hlt : j / 2 < l.length := (List.getElem?_eq_some_iff.1 hx).1
    obtain ⟨ad', e, y0, y1⟩ := at_T37 hr ((j / 2 : Nat) : Int) (by omega) (by omega)
    obtain rfl := Option.some.inj e
    have hrd : rd_T37 l ((j / 2 : Nat) : Int) = x := by simp only [rd_T37, List.getD_eq_getElem?_getD, Int.toNat_natCast, hx]; rfl
    rw [hrd, Int.toNat_natCast] at y0 y1
    rcases hj with ⟨hj, rfl⟩ | ⟨hj, rfl⟩
    · rw [show j / 2 * 2 = j by omega] at y0
      exact y0
    · rw [← add_field _ _ 1 (by omega), show j / 2 * 2 + 1 = j by omega] at y1
      exact y1)
  clear hr hi hz0 hz1 hz2
  have he : ∀ (A : Addr) (n c : Nat) (w : World), (binOp .eql 32 (.slice (some A) n c) (.slice none 0 0)).run Try.prog w = .ok (.bool false) w := fun _ _ _ _ => rfl
  go_enter Try.func76, Try.ntmps76
  go_wp2_with (at_builtin; refine wpList_append_own _ rfl (.tmp 5) (.tmp 6) 32 rfl w.heap.size 37 i0 _ 2 16 Try.underlying32 HI.out HZ0.out HZ1.out HZ2.out rfl (by decide) (.slice (some ⟨w.heap.size, 0, none⟩) 0 0) 0 [] rfl (World.ownsRow_made w #[] 0 (Nat.le_refl _) (by decide) rfl) ad l.length c (cxcells l) rfl (cxcells_len l) (fun j u hu => it_alloc _ (HN.out j u hu)) (cxcells_one l) (by unfold maxLen; omega) (by omega) (by simp) ?_; intro v1 w1 hown1 hg1 _)
  go_wp2
  go_ret
  refine ⟨_, rfl, by simpa using hown1, ?_⟩
  exact ((Below.refl w.heap.size w).alloc (Nat.le_refl _) _).grown hg1 (by simp) (by intro k h_; simp [Value.ownBlock] at h_; omega)

end Go.Proofs.Ytfemklaeonkidaa.P

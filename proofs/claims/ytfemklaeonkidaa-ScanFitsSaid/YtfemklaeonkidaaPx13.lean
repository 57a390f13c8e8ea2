-- Laid by this session's program hyb.py, out of the kit's print and this session's own contracts.
import Derived.Test.YtfemklaeonkidaaPx0
namespace Go.Proofs.Ytfemklaeonkidaa.P
open Go.RowKit Go.Proofs.YtfemklaeonkidaaW.PrintWords Go.Proofs.YtfemklaeonkidaaW.PrintLast Go.Proofs.YtfemklaeonkidaaW.PrintMore Go.Proofs.YtfemklaeonkidaaW.Hand
attribute [local go_sem] max2_int min2_int max_two min_two max_three min_three max_four min_four   -- for this text's walks alone
set_option linter.unusedVariables false
set_option linter.unusedSimpArgs false

/-! ### headroomref09_plain: function 53 -/
def headroomref09_plain.f (a0 : Int) : Option (Int) := if a0 < 0 then (some (wrap64 (-a0))) else (some a0)
set_option maxHeartbeats 8000000 in
set_option maxRecDepth 100000 in
theorem headroomref09_plain.calls (a0 : Int) (r : Int) (w : World) (h : headroomref09_plain.f a0 = some r) :
    Calls Try.prog 53 #[.int .i64 a0] w fun e w' => e = .returned (.int .i64 r) ∧ Drawn0 w w' := by
  have H : (if a0 < 0 then (some (wrap64 (-a0))) else (some a0)) = some r := h
  clear h
  by_cases c2 : a0 < 0
  · rw [if_pos c2] at H
    have c2b0 : decide (a0 < 0) = true := decide_eq_true c2
    clear c2
    obtain rfl := Option.some.inj H
    go_enter Try.func53, Try.ntmps53
    go_wp2
    go_ret
    exact ⟨by first | rfl | (simp; done) | (simp [*]; done), by repeat (first | exact Drawn0.refl _ | apply Drawn0.step)⟩
  · rw [if_neg c2] at H
    have c2b0 : decide (a0 < 0) = false := decide_eq_false c2
    clear c2
    obtain rfl := Option.some.inj H
    go_enter Try.func53, Try.ntmps53
    go_wp2
    go_ret
    exact ⟨by first | rfl | (simp; done) | (simp [*]; done), by repeat (first | exact Drawn0.refl _ | apply Drawn0.step)⟩

/-! ### headroomref09_Max: function 25 -/
mutual
def headroomref09_Max.l0 : Nat → Int → List (S37) → Int → Int → Option (Int)
  | 0, _, _, _, _ => none
  | k + 1, x3, x6, x7, x8 => if x8 < x7 then (if 0 ≤ x8 then (if x8 < (x6.length : Int) then ((headroomref09_plain.f ((rd_T37 x6 x8).f0)).bind fun t153 => (if t153 > x3 then ((headroomref09_plain.f ((rd_T37 x6 x8).f0)).bind fun t154 => (headroomref09_Max.j1 k t154 x6 x7 x8 ((rd_T37 x6 x8).f0) ((rd_T37 x6 x8).f1))) else (headroomref09_Max.j1 k x3 x6 x7 x8 ((rd_T37 x6 x8).f0) ((rd_T37 x6 x8).f1)))) else (none)) else (none)) else (some x3)
def headroomref09_Max.j1 : Nat → Int → List (S37) → Int → Int → Int → Int → Option (Int)
  | 0, _, _, _, _, _, _ => none
  | k + 1, x3, x6, x7, x8, x153000, x153001 => (headroomref09_plain.f x153001).bind fun t155 => (if t155 > x3 then ((headroomref09_plain.f x153001).bind fun t156 => (headroomref09_Max.l0 k t156 x6 x7 (wrap64 (x8 + 1)))) else (headroomref09_Max.l0 k x3 x6 x7 (wrap64 (x8 + 1))))
end
def headroomref09_Max.f (k : Nat) (l0 : List (S37)) : Option (Int) := headroomref09_Max.l0 k 0 l0 (l0.length : Int) 0
theorem headroomref09_Max.mono_l : ∀ k, (∀ y0 y1 y2 y3, LeO (headroomref09_Max.l0 k y0 y1 y2 y3) (headroomref09_Max.l0 (k + 1) y0 y1 y2 y3)) ∧ (∀ y0 y1 y2 y3 y4 y5, LeO (headroomref09_Max.j1 k y0 y1 y2 y3 y4 y5) (headroomref09_Max.j1 (k + 1) y0 y1 y2 y3 y4 y5))
  | 0 => ⟨fun _ _ _ _ r h => by simp [headroomref09_Max.l0] at h, fun _ _ _ _ _ _ r h => by simp [headroomref09_Max.j1] at h⟩
  | k + 1 => by
    obtain ⟨ih0, ih1⟩ := headroomref09_Max.mono_l k
    refine ⟨?_, ?_⟩
    · intro y0 y1 y2 y3
      unfold headroomref09_Max.l0
      repeat' first
      | (with_reducible exact ih0 _ _ _ _)
      | (with_reducible exact ih1 _ _ _ _ _ _)
      | (with_reducible exact LeO.refl _)
      | (with_reducible exact LeO.none _)
      | (with_reducible refine LeO.ite ?_ ?_)
      | (with_reducible refine LeO.bind ?_ (fun _ => ?_))
      | exact ih0 _ _ _ _
      | exact ih1 _ _ _ _ _ _
      | exact LeO.none _
      | refine LeO.ite ?_ ?_
      | refine LeO.bind ?_ (fun _ => ?_)
    · intro y0 y1 y2 y3 y4 y5
      unfold headroomref09_Max.j1
      repeat' first
      | (with_reducible exact ih0 _ _ _ _)
      | (with_reducible exact ih1 _ _ _ _ _ _)
      | (with_reducible exact LeO.refl _)
      | (with_reducible exact LeO.none _)
      | (with_reducible refine LeO.ite ?_ ?_)
      | (with_reducible refine LeO.bind ?_ (fun _ => ?_))
      | exact ih0 _ _ _ _
      | exact ih1 _ _ _ _ _ _
      | exact LeO.none _
      | refine LeO.ite ?_ ?_
      | refine LeO.bind ?_ (fun _ => ?_)
theorem headroomref09_Max.mono : ∀ a0 k, LeO (headroomref09_Max.f k a0) (headroomref09_Max.f (k + 1) a0) := by
  intro a0 k
  obtain ⟨ih0, ih1⟩ := headroomref09_Max.mono_l k
  unfold headroomref09_Max.f
  repeat' first
      | (with_reducible exact ih0 _ _ _ _)
      | (with_reducible exact ih1 _ _ _ _ _ _)
      | (with_reducible exact LeO.refl _)
      | (with_reducible exact LeO.none _)
      | (with_reducible refine LeO.ite ?_ ?_)
      | (with_reducible refine LeO.bind ?_ (fun _ => ?_))
      | exact ih0 _ _ _ _
      | exact ih1 _ _ _ _ _ _
      | exact LeO.none _
      | refine LeO.ite ?_ ?_
      | refine LeO.bind ?_ (fun _ => ?_)
set_option maxHeartbeats 8000000 in
set_option maxRecDepth 100000 in
theorem headroomref09_Max.calls (k : Nat) (A0 : Option Addr) (c0 : Nat) (l0 : List (S37)) (r : Int) (w : World) (hr0 : Kd.C k37 w A0 l0.length l0) (hc0 : l0.length ≤ c0) (h : headroomref09_Max.f k l0 = some r) :
    Calls Try.prog 25 #[.slice A0 l0.length c0] w fun e w' => e = .returned (.int .i64 r) ∧ Below w.heap.size w w' := by
  have hu37 := Try.underlying37
  have HR0 := Aside0.mk hr0
  have HC0 := Aside0.mk hc0
  clear hr0 hc0
  have HB := Aside0.mk (Below.refl w.heap.size w)
  have H : (headroomref09_Max.l0 k 0 l0 (l0.length : Int) 0) = some r := h
  clear h
  have H' := Aside0.mk H
  clear H
  go_enter Try.func25, Try.ntmps25
  go_wp2
  go_loopg [3, 8] k (fun kq v3 v8 w' => ∃ (x3_1 : Int) (x8_1 : Int), v3 = .int .i64 x3_1 ∧ v8 = .int .i64 x8_1 ∧ Aside0 (headroomref09_Max.l0 kq x3_1 l0 (l0.length : Int) x8_1 = some r) ∧ Aside0 (kq ≤ k) ∧ Aside0 (Below w.heap.size w w'))
  case atStart => exact ⟨(0), (0), (by first | rfl | (simp; done) | (simp [*]; done)), (by first | rfl | (simp; done) | (simp [*]; done)), H', ⟨Nat.le_refl _⟩, ⟨by repeat (first | (with_reducible first | exact HB.out | apply below_alloc | apply pw_below_drewN | apply below_drew1) | exact HB.out)⟩⟩
  case round =>
    clear H'
    obtain ⟨x3_1, x8_1, rfl, rfl, HA, HK1, HB⟩ := hrel
    cases gk with
    | zero => exact absurd HA.out (by simp [headroomref09_Max.l0])
    | succ k1 =>
      have H := HA.out
      clear HA
      simp only [headroomref09_Max.l0] at H
      by_cases c2 : x8_1 < (l0.length : Int)
      · rw [if_pos c2] at H
        have c2b0 : decide (x8_1 < (l0.length : Int)) = true := decide_eq_true c2
        clear c2
        by_cases c3 : 0 ≤ x8_1
        · rw [if_pos c3] at H
          have c3b0 : decide (0 ≤ x8_1) = true := decide_eq_true c3
          clear c3
          by_cases c4 : x8_1 < (l0.length : Int)
          · rw [if_pos c4] at H
            have c4b0 : decide (x8_1 < (l0.length : Int)) = true := decide_eq_true c4
            clear c4
            replace H := Option.bind_eq_some_iff.mp H
            obtain ⟨t153, A50, H⟩ := H
            replace H : (if t153 > x3_1 then ((headroomref09_plain.f ((rd_T37 l0 x8_1).f0)).bind fun t154 => (headroomref09_Max.j1 k1 t154 l0 (l0.length : Int) x8_1 ((rd_T37 l0 x8_1).f0) ((rd_T37 l0 x8_1).f1))) else (headroomref09_Max.j1 k1 x3_1 l0 (l0.length : Int) x8_1 ((rd_T37 l0 x8_1).f0) ((rd_T37 l0 x8_1).f1))) = some r := H
            have A5 := Aside0.mk A50
            clear A50
            have HC6 := Aside0.mk H
            clear H
            have p151 : 0 ≤ (x8_1 : Int) := of_decide_eq_true (by first | (with_reducible assumption) | assumption)
            have q151 : x8_1 < (l0.length : Int) := of_decide_eq_true (by first | (with_reducible assumption) | assumption)
            obtain ⟨ad151, e151, hx151_0, hx151_1⟩ := at_T37 HR0.out x8_1 p151 q151
            cases e151
            replace hx151_0 := (HB.out.cell (World.block_lt_of_cell? w _ hx151_0)).trans hx151_0
            replace hx151_1 := (HB.out.cell (World.block_lt_of_cell? w _ hx151_1)).trans hx151_1
            replace p151 := eq_true p151
            replace q151 := eq_true q151
            go_upto_if 16 with (first | ((with_reducible refine gate_dst (N := 5) rfl ?_); refine box_event ?hg (N := 5) ?hd (cs := #[.int .i64 0, .int .i64 0]) (t := 37) ?hr ?_; (case hd => rfl); (case hg => rfl); (case hr => first | (go_simp; done) | (go_simp; rfl)); intro gb152 hg w7 hbox hb; have n0_ := Aside0.mk (below_step (by repeat (first | (with_reducible first | exact HB.out | apply below_alloc | apply pw_below_drewN | apply below_drew1) | exact HB.out)) hb); have n1_ := Aside0.mk (hbox); have n2_ := Aside0.mk ((by rw [hg]; exact (below_size (by repeat (first | (with_reducible first | exact HB.out | apply below_alloc | apply pw_below_drewN | apply below_drew1) | exact HB.out))) : w.heap.size ≤ gb152)); have n3_ := Aside0.mk ((by rw [hg]; exact (below_size (by repeat (first | (with_reducible first | exact HB.out | apply below_alloc | apply pw_below_drewN | apply below_drew1) | exact HB.out))) : w.heap.size ≤ gb152)); clear HB; have HB := n0_; have BK152 := n1_; have GW152 := n2_; have GE152 := n3_; clear n0_ n1_ n2_ n3_; clear hb hbox hg; have hcz8_0 : w7.cell? ⟨gb152, 0, none⟩ = some (.int .i64 0) := (blk_cell BK152.out 0).trans rfl; have hcz8_1 : w7.cell? ⟨gb152, 1, none⟩ = some (.int .i64 0) := (blk_cell BK152.out 1).trans rfl; have hfz8_0 := blk_frozen BK152.out 0; have hfz8_1 := blk_frozen BK152.out 1) | ((with_reducible refine gate_callee (f := 53) rfl ?_); refine goesL_ (some 14) rfl rfl Try.func53 (by kernel_rfl) rfl #[.int .i64 ((rd_T37 l0 x8_1).f0)] rfl (by (try simp only [List.map_toArray, List.map_cons, List.map_nil]); first | done | rfl | (simp only [List.length_drop, List.length_take]; rfl)) ?_; (with_reducible refine (headroomref09_plain.calls ((rd_T37 l0 x8_1).f0) t153 _ A5.out).mono ?_); rintro e w' ⟨rfl, ⟨nd, rfl⟩⟩; refine ⟨_, rfl, ?_⟩))
            (try simp only [Act.put, List.setIfInBounds_toArray, List.set_cons_zero, List.set_cons_succ])
            go_cut [3] (fun v3 wc => ∃ (kq : Nat) (x3_5 : Int), v3 = .int .i64 x3_5 ∧ Aside0 (headroomref09_Max.j1 kq x3_5 l0 (l0.length : Int) x8_1 ((rd_T37 l0 x8_1).f0) ((rd_T37 l0 x8_1).f1) = some r) ∧ Aside0 (kq ≤ k1) ∧ Aside0 (wc.heap[gb152]? = some (.cells #[.int .i64 ((rd_T37 l0 x8_1).f0), .int .i64 ((rd_T37 l0 x8_1).f1)] 37 (0, 0))) ∧ Aside0 (Below w.heap.size w wc))
            case first =>
              have H := HC6.out
              clear HC6
              by_cases c9 : t153 > x3_1
              · rw [if_pos c9] at H
                have c9b0 : decide (x3_1 < t153) = true := decide_eq_true c9
                clear c9
                (first | rw [c9b0] | (simp only [i64_w, i32_w]; rw [c9b0]) | skip)
                replace H := Option.bind_eq_some_iff.mp H
                obtain ⟨t154, A100, H⟩ := H
                replace H : (headroomref09_Max.j1 k1 t154 l0 (l0.length : Int) x8_1 ((rd_T37 l0 x8_1).f0) ((rd_T37 l0 x8_1).f1)) = some r := H
                have A10 := Aside0.mk A100
                clear A100
                have H' := Aside0.mk H
                clear H
                have hcz11_0 : w7.cell? ⟨gb152, 0, none⟩ = some (.int .i64 0) := (blk_cell BK152.out 0).trans rfl
                have hcz11_1 : w7.cell? ⟨gb152, 1, none⟩ = some (.int .i64 0) := (blk_cell BK152.out 1).trans rfl
                have hfz11_0 := blk_frozen BK152.out 0
                have hfz11_1 := blk_frozen BK152.out 1
                go_wp2_with (first | ((with_reducible refine gate_callee (f := 53) rfl ?_); refine goesL_ (some 19) rfl rfl Try.func53 (by kernel_rfl) rfl #[.int .i64 ((rd_T37 l0 x8_1).f0)] rfl (by (try simp only [List.map_toArray, List.map_cons, List.map_nil]); first | done | rfl | (simp only [List.length_drop, List.length_take]; rfl)) ?_; (with_reducible refine (headroomref09_plain.calls ((rd_T37 l0 x8_1).f0) t154 _ A10.out).mono ?_); rintro e w' ⟨rfl, ⟨nd, rfl⟩⟩; refine ⟨_, rfl, ?_⟩))
                go_meet
                case rel => exact ⟨_, (t154), (by first | rfl | (simp; done) | (simp [*]; done)), H', ⟨by have := HK1.out; first | omega | exact Nat.le_refl _⟩, ⟨by (with_reducible repeat (first | refine blk_drewN ?_ _ | refine blk_drew ?_ | refine blk_alloc ?_ _)); refine blk_put (cs := #[.int .i64 ((rd_T37 l0 x8_1).f0), .int .i64 0]) ?_ 1 _ rfl; (with_reducible repeat (first | refine blk_drewN ?_ _ | refine blk_drew ?_ | refine blk_alloc ?_ _)); refine blk_put (cs := #[.int .i64 0, .int .i64 0]) ?_ 0 _ rfl; (with_reducible repeat (first | refine blk_drewN ?_ _ | refine blk_drew ?_ | refine blk_alloc ?_ _)); exact BK152.out⟩, ⟨by repeat (first | (with_reducible first | exact HB.out | apply below_alloc | apply pw_below_drewN | apply below_drew1 | refine below_set ?_ GE152.out) | exact HB.out)⟩⟩
              · rw [if_neg c9] at H
                have c9b0 : decide (x3_1 < t153) = false := decide_eq_false c9
                clear c9
                (first | rw [c9b0] | (simp only [i64_w, i32_w]; rw [c9b0]) | skip)
                have H' := Aside0.mk H
                clear H
                go_wp2
                go_meet
                case rel => exact ⟨_, (x3_1), (by first | rfl | (simp; done) | (simp [*]; done)), H', ⟨by have := HK1.out; first | omega | exact Nat.le_refl _⟩, ⟨by (with_reducible repeat (first | refine blk_drewN ?_ _ | refine blk_drew ?_ | refine blk_alloc ?_ _)); refine blk_put (cs := #[.int .i64 ((rd_T37 l0 x8_1).f0), .int .i64 0]) ?_ 1 _ rfl; (with_reducible repeat (first | refine blk_drewN ?_ _ | refine blk_drew ?_ | refine blk_alloc ?_ _)); refine blk_put (cs := #[.int .i64 0, .int .i64 0]) ?_ 0 _ rfl; (with_reducible repeat (first | refine blk_drewN ?_ _ | refine blk_drew ?_ | refine blk_alloc ?_ _)); exact BK152.out⟩, ⟨by repeat (first | (with_reducible first | exact HB.out | apply below_alloc | apply pw_below_drewN | apply below_drew1 | refine below_set ?_ GE152.out) | exact HB.out)⟩⟩
            case rest =>
              clear HC6
              try clear p1
              try clear q1
              try clear hx1
              try clear c2
              try clear c2b0
              try clear p2
              try clear c3
              try clear c3b0
              try clear c4
              try clear c4b0
              try clear c5
              try clear c9
              try clear c9b0
              try clear hcz11_0
              try clear hcz11_1
              try clear hcz8_0
              try clear hcz8_1
              try clear hfz11_0
              try clear hfz11_1
              try clear hfz8_0
              try clear hfz8_1
              try clear hx151_0
              try clear hx151_1
              try clear p151
              try clear q151
              obtain ⟨kq, x3_5, rfl, HA, HJ5, BK152, HB⟩ := hcut
              cases kq with
              | zero => exact absurd HA.out (by simp [headroomref09_Max.j1])
              | succ kj5 =>
                have H := HA.out
                clear HA
                simp only [headroomref09_Max.j1] at H
                replace H := Option.bind_eq_some_iff.mp H
                obtain ⟨t155, A120, H⟩ := H
                replace H : (if t155 > x3_5 then ((headroomref09_plain.f ((rd_T37 l0 x8_1).f1)).bind fun t156 => (headroomref09_Max.l0 kj5 t156 l0 (l0.length : Int) (wrap64 (x8_1 + 1)))) else (headroomref09_Max.l0 kj5 x3_5 l0 (l0.length : Int) (wrap64 (x8_1 + 1)))) = some r := H
                have A12 := Aside0.mk A120
                clear A120
                by_cases c13 : t155 > x3_5
                · rw [if_pos c13] at H
                  have c13b0 : decide (x3_5 < t155) = true := decide_eq_true c13
                  clear c13
                  replace H := Option.bind_eq_some_iff.mp H
                  obtain ⟨t156, A140, H⟩ := H
                  replace H : (headroomref09_Max.l0 kj5 t156 l0 (l0.length : Int) (wrap64 (x8_1 + 1))) = some r := H
                  have A14 := Aside0.mk A140
                  clear A140
                  have H' := Aside0.mk H
                  clear H
                  have hcz15_0 : wc.cell? ⟨gb152, 0, none⟩ = some (.int .i64 ((rd_T37 l0 x8_1).f0)) := (blk_cell BK152.out 0).trans rfl
                  have hcz15_1 : wc.cell? ⟨gb152, 1, none⟩ = some (.int .i64 ((rd_T37 l0 x8_1).f1)) := (blk_cell BK152.out 1).trans rfl
                  have hfz15_0 := blk_frozen BK152.out 0
                  have hfz15_1 := blk_frozen BK152.out 1
                  go_wp2_with (first | ((with_reducible refine gate_callee (f := 53) rfl ?_); refine goesL_ (some 22) rfl rfl Try.func53 (by kernel_rfl) rfl #[.int .i64 ((rd_T37 l0 x8_1).f1)] rfl (by (try simp only [List.map_toArray, List.map_cons, List.map_nil]); first | done | rfl | (simp only [List.length_drop, List.length_take]; rfl)) ?_; (with_reducible refine (headroomref09_plain.calls ((rd_T37 l0 x8_1).f1) t155 _ A12.out).mono ?_); rintro e w' ⟨rfl, ⟨nd, rfl⟩⟩; refine ⟨_, rfl, ?_⟩) | ((with_reducible refine gate_callee (f := 53) rfl ?_); refine goesL_ (some 27) rfl rfl Try.func53 (by kernel_rfl) rfl #[.int .i64 ((rd_T37 l0 x8_1).f1)] rfl (by (try simp only [List.map_toArray, List.map_cons, List.map_nil]); first | done | rfl | (simp only [List.length_drop, List.length_take]; rfl)) ?_; (with_reducible refine (headroomref09_plain.calls ((rd_T37 l0 x8_1).f1) t156 _ A14.out).mono ?_); rintro e w' ⟨rfl, ⟨nd, rfl⟩⟩; refine ⟨_, rfl, ?_⟩))
                  go_roundg kj5
                  case measure => have := HK1.out; have := HJ5.out; omega
                  case rel => exact ⟨(t156), (wrap64 (x8_1 + 1)), (by first | rfl | (simp; done) | (simp [*]; done)), (by first | rfl | (simp; done) | (simp [*]; done)), H', ⟨by have := HK1.out; have := HJ5.out; omega⟩, ⟨by repeat (first | (with_reducible first | exact HB.out | apply below_alloc | apply pw_below_drewN | apply below_drew1 | refine below_set ?_ GE152.out) | exact HB.out)⟩⟩
                · rw [if_neg c13] at H
                  have c13b0 : decide (x3_5 < t155) = false := decide_eq_false c13
                  clear c13
                  have H' := Aside0.mk H
                  clear H
                  have hcz16_0 : wc.cell? ⟨gb152, 0, none⟩ = some (.int .i64 ((rd_T37 l0 x8_1).f0)) := (blk_cell BK152.out 0).trans rfl
                  have hcz16_1 : wc.cell? ⟨gb152, 1, none⟩ = some (.int .i64 ((rd_T37 l0 x8_1).f1)) := (blk_cell BK152.out 1).trans rfl
                  have hfz16_0 := blk_frozen BK152.out 0
                  have hfz16_1 := blk_frozen BK152.out 1
                  go_wp2_with (first | ((with_reducible refine gate_callee (f := 53) rfl ?_); refine goesL_ (some 22) rfl rfl Try.func53 (by kernel_rfl) rfl #[.int .i64 ((rd_T37 l0 x8_1).f1)] rfl (by (try simp only [List.map_toArray, List.map_cons, List.map_nil]); first | done | rfl | (simp only [List.length_drop, List.length_take]; rfl)) ?_; (with_reducible refine (headroomref09_plain.calls ((rd_T37 l0 x8_1).f1) t155 _ A12.out).mono ?_); rintro e w' ⟨rfl, ⟨nd, rfl⟩⟩; refine ⟨_, rfl, ?_⟩))
                  go_roundg kj5
                  case measure => have := HK1.out; have := HJ5.out; omega
                  case rel => exact ⟨(x3_5), (wrap64 (x8_1 + 1)), (by first | rfl | (simp; done) | (simp [*]; done)), (by first | rfl | (simp; done) | (simp [*]; done)), H', ⟨by have := HK1.out; have := HJ5.out; omega⟩, ⟨by repeat (first | (with_reducible first | exact HB.out | apply below_alloc | apply pw_below_drewN | apply below_drew1 | refine below_set ?_ GE152.out) | exact HB.out)⟩⟩
          · rw [if_neg c4] at H
            exact absurd H (by simp)
        · rw [if_neg c3] at H
          exact absurd H (by simp)
      · rw [if_neg c2] at H
        have c2b0 : decide (x8_1 < (l0.length : Int)) = false := decide_eq_false c2
        clear c2
        obtain rfl := Option.some.inj H
        go_wp2
        go_ret
        exact ⟨by first | rfl | (simp [errW_none, errW_some] <;> rfl) | (simp [*, errW_none, errW_some] <;> rfl), by repeat (first | (with_reducible first | exact HB.out | apply below_alloc | apply pw_below_drewN | apply below_drew1) | exact HB.out)⟩

end Go.Proofs.Ytfemklaeonkidaa.P

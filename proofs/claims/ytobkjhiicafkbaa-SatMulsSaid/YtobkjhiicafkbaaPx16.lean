-- Laid by this session's program hyb.py, out of the kit's print and this session's own contracts.
import Derived.Test.YtobkjhiicafkbaaPx0
import Derived.Test.YtobkjhiicafkbaaPx2
import Derived.Test.YtobkjhiicafkbaaPx12
import Derived.Test.YtobkjhiicafkbaaPx15
namespace Go.Proofs.Ytobkjhiicafkbaa.P
open Go.RowKit Go.Proofs.YtobkjhiicafkbaaW.PrintWords Go.Proofs.YtobkjhiicafkbaaW.PrintLast Go.Proofs.YtobkjhiicafkbaaW.PrintMore Go.Proofs.YtobkjhiicafkbaaW.Hand
attribute [local go_sem] max2_int min2_int max_two min_two max_three min_three max_four min_four   -- for this text's walks alone
set_option linter.unusedVariables false
set_option linter.unusedSimpArgs false

/-! ### sat_Mul: function 52 -/
theorem sat_Mul.make0 (a0 a1 a3 : Int) (w : World) (g0 g1 g2 g3 : Nat) (hm : a3 = 0 ∨ a3 = 1 ∨ a3 = 2) (h0 : w.heap[g0]? = some (.cells #[.int .i64 0] 3 (0, 0))) (h1 : w.heap[g1]? = some (.cells #[.int .i64 a0] 3 (0, 0))) (h2 : w.heap[g2]? = some (.cells #[.int .i64 a1] 3 (0, 0))) (h3 : w.heap[g3]? = some (.cells #[.int .i64 a3] 3 (0, 0))) :
    Calls Try.prog 71 #[.pointer (some ⟨g0, 0, none⟩), .pointer (some ⟨g1, 0, none⟩), .pointer (some ⟨g2, 0, none⟩), .pointer (some ⟨g3, 0, none⟩)] w fun e w' => e = .returned (.int .i64 (rmul 0 a3 a0 a1)) ∧ Below w.heap.size w w' := by
  obtain ⟨c0, _, l0⟩ := cells1 h0
  obtain ⟨c1, _, l1⟩ := cells1 h1
  obtain ⟨c2, _, l2⟩ := cells1 h2
  obtain ⟨c3, _, l3⟩ := cells1 h3
  have HM := Lib.hid (show round_Shift.f (wrap64 (a0 * a1)) 15 a3 = some (rmul 0 a3 a0 a1, 0) by
    unfold round_Shift.f rmul
    rw [if_neg (by omega)]
    simp)
  clear h0 h1 h2 h3 hm
  go_enter Try.func71, Try.ntmps71
  go_wp2_with (go_at_call 40; go_in)
  refine (round_Shift.calls _ _ _ _ _ _ HM.out).mono ?_
  rintro e w1 ⟨rfl, hb1⟩
  go_wp2
  go_ret
  exact ⟨rfl, hb1⟩
theorem sat_Mul.make1 (a0 a1 a3 : Int) (w : World) (g0 g1 g2 g3 : Nat) (hm : a3 = 0 ∨ a3 = 1 ∨ a3 = 2) (h0 : w.heap[g0]? = some (.cells #[.int .i64 1] 3 (0, 0))) (h1 : w.heap[g1]? = some (.cells #[.int .i64 a0] 3 (0, 0))) (h2 : w.heap[g2]? = some (.cells #[.int .i64 a1] 3 (0, 0))) (h3 : w.heap[g3]? = some (.cells #[.int .i64 a3] 3 (0, 0))) :
    Calls Try.prog 71 #[.pointer (some ⟨g0, 0, none⟩), .pointer (some ⟨g1, 0, none⟩), .pointer (some ⟨g2, 0, none⟩), .pointer (some ⟨g3, 0, none⟩)] w fun e w' => e = .returned (.int .i64 (rmul 1 a3 a0 a1)) ∧ Below w.heap.size w w' := by
  obtain ⟨c0, _, l0⟩ := cells1 h0
  obtain ⟨c1, _, l1⟩ := cells1 h1
  obtain ⟨c2, _, l2⟩ := cells1 h2
  obtain ⟨c3, _, l3⟩ := cells1 h3
  have HM := Lib.hid (show round_Shift.f (wrap64 (a0 * a1)) 31 a3 = some (rmul 1 a3 a0 a1, 0) by
    unfold round_Shift.f rmul
    rw [if_neg (by omega)]
    simp)
  clear h0 h1 h2 h3 hm
  go_enter Try.func71, Try.ntmps71
  go_wp2_with (go_at_call 40; go_in)
  refine (round_Shift.calls _ _ _ _ _ _ HM.out).mono ?_
  rintro e w1 ⟨rfl, hb1⟩
  go_wp2
  go_ret
  exact ⟨rfl, hb1⟩
def sat_Mul.f (a0 a1 a2 a3 : Int) : Option (Int × Bool × Int) := if a3 < 0 ∨ 2 < a3 then some (0, false, 1) else some (satof a2 [a0, a1] (rmul a2 a3 a0 a1))
set_option maxHeartbeats 1000000 in
theorem sat_Mul.bad (a0 a1 a2 a3 : Int) (w : World) (h : a3 < 0 ∨ 2 < a3) :
    Calls Try.prog 52 #[.int .i64 a0, .int .i64 a1, .int .i64 a2, .int .i64 a3] w fun e w' => e = .returned (.tuple #[.int .i64 0, .bool false, .int .i64 1]) ∧ Below w.heap.size w w' := by
  have HM := Lib.hid (show round_Shift.f 0 0 a3 = some (0, 1) by unfold round_Shift.f; rw [if_pos (by omega)])
  clear h
  go_enter Try.func52, Try.ntmps52
  go_wp2_with (fail)
  refine (round_Shift.calls 0 0 a3 _ _ _ HM.out).mono ?_
  rintro e w1 ⟨rfl, hb1⟩
  have HB1 := Lib.hid (below_then (by repeat (first | exact Below.refl _ _ | refine below_alloc ?_ _ | refine Below.setCell ?_ (by first | omega | (simp; done) | (simp; omega)) _)) (by first | (simp; done) | (simp; omega)) hb1 : Below w.heap.size w w1)
  have Ba_1 := Lib.hid (blk_below (by repeat (first | (refine new_at ?_; simp; done) | refine blk_alloc ?_ _)) hb1 : w1.heap[w.heap.size]? = some (.cells #[.int .i64 a0] 3 (0, 0)))
  obtain ⟨ca0_1, fa0_1, la_1⟩ := cells1 Ba_1.out
  have Bb_1 := Lib.hid (blk_below (by repeat (first | (refine new_at ?_; simp; done) | refine blk_alloc ?_ _)) hb1 : w1.heap[w.heap.size + 1]? = some (.cells #[.int .i64 a1] 3 (0, 0)))
  obtain ⟨cb0_1, fb0_1, lb_1⟩ := cells1 Bb_1.out
  have Bf_1 := Lib.hid (blk_below (by repeat (first | (refine new_at ?_; simp; done) | refine blk_alloc ?_ _)) hb1 : w1.heap[w.heap.size + 1 + 1]? = some (.cells #[.int .i64 a2] 3 (0, 0)))
  obtain ⟨cf0_1, ff0_1, lf_1⟩ := cells1 Bf_1.out
  have Bm_1 := Lib.hid (blk_below (by repeat (first | (refine new_at ?_; simp; done) | refine blk_alloc ?_ _)) hb1 : w1.heap[w.heap.size + 1 + 1 + 1]? = some (.cells #[.int .i64 a3] 3 (0, 0)))
  obtain ⟨cm0_1, fm0_1, lm_1⟩ := cells1 Bm_1.out
  have hz1 := HB1.out.size
  clear hb1
  go_wp2
  go_ret3
  refine ⟨rfl, ?_⟩
  repeat (first | exact HB1.out | exact Below.refl _ _ | refine below_alloc ?_ _ | refine Below.setCell ?_ (by first | omega | (simp; done) | (simp; omega)) _)
set_option maxHeartbeats 1000000 in
theorem sat_Mul.ok (a0 a1 a2 a3 : Int) (w : World) (hm : a3 = 0 ∨ a3 = 1 ∨ a3 = 2) :
    Calls Try.prog 52 #[.int .i64 a0, .int .i64 a1, .int .i64 a2, .int .i64 a3] w fun e w' => e = .returned (.tuple #[.int .i64 (satof a2 [a0, a1] (rmul a2 a3 a0 a1)).1, .bool (satof a2 [a0, a1] (rmul a2 a3 a0 a1)).2.1, .int .i64 (satof a2 [a0, a1] (rmul a2 a3 a0 a1)).2.2]) ∧ Below w.heap.size w w' := by
  have HM := Lib.hid (show round_Shift.f 0 0 a3 = some (0, 0) by unfold round_Shift.f; rw [if_neg (by omega)]; rfl)
  go_enter Try.func52, Try.ntmps52
  go_wp2_with (fail)
  refine (round_Shift.calls 0 0 a3 _ _ _ HM.out).mono ?_
  rintro e w1 ⟨rfl, hb1⟩
  have HB1 := Lib.hid (below_then (by repeat (first | exact Below.refl _ _ | refine below_alloc ?_ _ | refine Below.setCell ?_ (by first | omega | (simp; done) | (simp; omega)) _)) (by first | (simp; done) | (simp; omega)) hb1 : Below w.heap.size w w1)
  have Ba_1 := Lib.hid (blk_below (by repeat (first | (refine new_at ?_; simp; done) | refine blk_alloc ?_ _)) hb1 : w1.heap[w.heap.size]? = some (.cells #[.int .i64 a0] 3 (0, 0)))
  obtain ⟨ca0_1, fa0_1, la_1⟩ := cells1 Ba_1.out
  have Bb_1 := Lib.hid (blk_below (by repeat (first | (refine new_at ?_; simp; done) | refine blk_alloc ?_ _)) hb1 : w1.heap[w.heap.size + 1]? = some (.cells #[.int .i64 a1] 3 (0, 0)))
  obtain ⟨cb0_1, fb0_1, lb_1⟩ := cells1 Bb_1.out
  have Bf_1 := Lib.hid (blk_below (by repeat (first | (refine new_at ?_; simp; done) | refine blk_alloc ?_ _)) hb1 : w1.heap[w.heap.size + 1 + 1]? = some (.cells #[.int .i64 a2] 3 (0, 0)))
  obtain ⟨cf0_1, ff0_1, lf_1⟩ := cells1 Bf_1.out
  have Bm_1 := Lib.hid (blk_below (by repeat (first | (refine new_at ?_; simp; done) | refine blk_alloc ?_ _)) hb1 : w1.heap[w.heap.size + 1 + 1 + 1]? = some (.cells #[.int .i64 a3] 3 (0, 0)))
  obtain ⟨cm0_1, fm0_1, lm_1⟩ := cells1 Bm_1.out
  have hz1 := HB1.out.size
  clear hb1
  go_wp2_with (fail)
  refine (sat_done.calls 71 _ a2 (rmul a2 a3 a0 a1) _ _ [a0, a1] _ _ rfl (C_int2 (new_at rfl)) (by simp) (fun _ _ => rfl) ?_).mono ?_
  · intro hf hall W hW
    have b0 := blk_below (blk_alloc Ba_1.out _) hW
    have b1 := blk_below (blk_alloc Bb_1.out _) hW
    have b2 := blk_below (blk_alloc Bf_1.out _) hW
    have b3 := blk_below (blk_alloc Bm_1.out _) hW
    rcases hf with rfl | rfl
    · exact sat_Mul.make0 a0 a1 a3 W _ _ _ _ hm b2 b0 b1 b3
    · exact sat_Mul.make1 a0 a1 a3 W _ _ _ _ hm b2 b0 b1 b3
  rintro e w2 ⟨rfl, hb2⟩
  have HB2 := Lib.hid (below_then (below_alloc HB1.out _) (by simp; omega) hb2)
  clear hb2
  go_wp2
  go_ret3
  exact ⟨rfl, HB2.out⟩
theorem sat_Mul.calls (a0 a1 a2 a3 : Int) (r1 : Int) (r2 : Bool) (r3 : Int) (w : World) (h : sat_Mul.f a0 a1 a2 a3 = some (r1, r2, r3)) :
    Calls Try.prog 52 #[.int .i64 a0, .int .i64 a1, .int .i64 a2, .int .i64 a3] w fun e w' => e = .returned (.tuple #[.int .i64 r1, .bool r2, .int .i64 r3]) ∧ Below w.heap.size w w' := by
  unfold sat_Mul.f at h
  by_cases hm : a3 < 0 ∨ 2 < a3
  · rw [if_pos hm] at h
    obtain ⟨rfl, rfl, rfl⟩ : 0 = r1 ∧ false = r2 ∧ 1 = r3 := by simpa only [Option.some.injEq, Prod.mk.injEq] using h
    exact sat_Mul.bad a0 a1 a2 a3 w hm
  · rw [if_neg hm] at h
    have h := Option.some.inj h
    have := sat_Mul.ok a0 a1 a2 a3 w (by omega)
    rw [h] at this
    exact this

/-! ### headroomlaw02_SatMuls: function 13 -/
def headroomlaw02_SatMuls.f (k : Nat) (a0 : Int) (a1 : Int) (a2 : Int) (a3 : Int) : Option (Bool) := (sat_Mul.f a0 a1 a2 a3).bind fun bt188 => ((headroomref02_Two.f k a0 a1 a2 a3 2).bind fun bt191 => ((headroomlaw02_alive.f).bind fun t195 => (if t195 = true then (if bt188.1 = bt191.1 then (if (bt188.2.1 == bt191.2.1) = true then (some (bt188.2.2 == bt191.2.2)) else (some false)) else (some false)) else (some false))))
theorem headroomlaw02_SatMuls.mono : ∀ a0 a1 a2 a3 k, LeO (headroomlaw02_SatMuls.f k a0 a1 a2 a3) (headroomlaw02_SatMuls.f (k + 1) a0 a1 a2 a3) := by
  intro a0 a1 a2 a3 k
  unfold headroomlaw02_SatMuls.f
  repeat' first
      | (with_reducible exact headroomref02_Two.mono _ _ _ _ _ _)
      | (with_reducible exact LeO.refl _)
      | (with_reducible exact LeO.none _)
      | (with_reducible refine LeO.ite ?_ ?_)
      | (with_reducible refine LeO.bind ?_ (fun _ => ?_))
      | exact headroomref02_Two.mono _ _ _ _ _ _
      | exact LeO.none _
      | refine LeO.ite ?_ ?_
      | refine LeO.bind ?_ (fun _ => ?_)
set_option maxHeartbeats 8000000 in
set_option maxRecDepth 100000 in
theorem headroomlaw02_SatMuls.calls (k : Nat) (a0 : Int) (a1 : Int) (a2 : Int) (a3 : Int) (r : Bool) (w : World) (h : headroomlaw02_SatMuls.f k a0 a1 a2 a3 = some r) :
    Calls Try.prog 13 #[.int .i64 a0, .int .i64 a1, .int .i64 a2, .int .i64 a3] w fun e w' => e = .returned (.bool r) ∧ Below w.heap.size w w' := by
  have hu58 := Try.underlying58
  have HB := Aside0.mk (Below.refl w.heap.size w)
  have H : ((sat_Mul.f a0 a1 a2 a3).bind fun bt188 => ((headroomref02_Two.f k a0 a1 a2 a3 2).bind fun bt191 => ((headroomlaw02_alive.f).bind fun t195 => (if t195 = true then (if bt188.1 = bt191.1 then (if (bt188.2.1 == bt191.2.1) = true then (some (bt188.2.2 == bt191.2.2)) else (some false)) else (some false)) else (some false))))) = some r := h
  clear h
  replace H := Option.bind_eq_some_iff.mp H
  obtain ⟨⟨t188, t189, t190⟩, A50, H⟩ := H
  replace H : ((headroomref02_Two.f k a0 a1 a2 a3 2).bind fun bt191 => ((headroomlaw02_alive.f).bind fun t195 => (if t195 = true then (if t188 = bt191.1 then (if (t189 == bt191.2.1) = true then (some (t190 == bt191.2.2)) else (some false)) else (some false)) else (some false)))) = some r := H
  have A5 := Aside0.mk A50
  clear A50
  replace H := Option.bind_eq_some_iff.mp H
  obtain ⟨⟨t191, t192, t193⟩, A60, H⟩ := H
  replace H : ((headroomlaw02_alive.f).bind fun t195 => (if t195 = true then (if t188 = t191 then (if (t189 == t192) = true then (some (t190 == t193)) else (some false)) else (some false)) else (some false))) = some r := H
  have A6 := Aside0.mk A60
  clear A60
  replace H := Option.bind_eq_some_iff.mp H
  obtain ⟨t195, A70, H⟩ := H
  replace H : (if t195 = true then (if t188 = t191 then (if (t189 == t192) = true then (some (t190 == t193)) else (some false)) else (some false)) else (some false)) = some r := H
  have A7 := Aside0.mk A70
  clear A70
  by_cases c8 : t195 = true
  · subst c8
    have H1 : (if t188 = t191 then (if (t189 == t192) = true then (some (t190 == t193)) else (some false)) else (some false)) = some r := by rw [if_pos rfl] at H; exact H
    clear H
    have H := H1
    clear H1
    by_cases c9 : t188 = t191
    · rw [if_pos c9] at H
      have c9b0 : (t188 == t191) = true := beq_iff_eq.mpr c9
      have c9b1 : (t188 != t191) = false := bne_eq_false_iff_eq.mpr c9
      clear c9
      by_cases c10 : (t189 == t192) = true
      · rw [if_pos c10] at H
        have c10b0 : (t189 == t192) = true := c10
        (try (have c10b1 : decide (t189 = t192) = true := by simpa using c10))
        (try (have c10b2 : (t189 == t192) = true := by simpa using c10))
        clear c10
        obtain rfl := Option.some.inj H
        go_enter Try.func13, Try.ntmps13
        go_wp2_with (first | ((with_reducible refine gate_callee (f := 52) rfl ?_); refine goesL_ (some 18) rfl rfl Try.func52 (by kernel_rfl) rfl #[.int .i64 a0, .int .i64 a1, .int .i64 a2, .int .i64 a3] rfl (by (try simp only [List.map_toArray, List.map_cons, List.map_nil]); first | done | rfl | (simp only [List.length_drop, List.length_take]; rfl)) ?_; (with_reducible refine (sat_Mul.calls a0 a1 a2 a3 t188 t189 t190 _ A5.out).mono ?_); rintro e w11 ⟨rfl, hb⟩; refine ⟨_, rfl, ?_⟩; have n0_ := Aside0.mk (below_step (by repeat (first | (with_reducible first | exact HB.out | apply below_alloc | apply pw_below_drewN | apply below_drew1) | exact HB.out)) hb); clear HB; have HB := n0_; clear n0_; (try clear hb); (try clear hb2); (try clear hk); (try clear hi)) | ((with_reducible refine gate_callee (f := 49) rfl ?_); refine goesL_ (some 26) rfl rfl Try.func49 (by kernel_rfl) rfl #[.int .i64 a0, .int .i64 a1, .int .i64 a2, .int .i64 a3, .int .i64 2] rfl (by (try simp only [List.map_toArray, List.map_cons, List.map_nil]); first | done | rfl | (simp only [List.length_drop, List.length_take]; rfl)) ?_; (with_reducible refine (headroomref02_Two.calls k a0 a1 a2 a3 2 t191 t192 t193 _ A6.out).mono ?_); rintro e w12 ⟨rfl, hb⟩; refine ⟨_, rfl, ?_⟩; have n0_ := Aside0.mk (below_step (by repeat (first | (with_reducible first | exact HB.out | apply below_alloc | apply pw_below_drewN | apply below_drew1) | exact HB.out)) hb); clear HB; have HB := n0_; clear n0_; (try clear hb); (try clear hb2); (try clear hk); (try clear hi)) | ((with_reducible refine gate_dst (N := 12) rfl ?_); refine box_event ?hg (N := 12) ?hd (cs := #[.int .i64 0, .bool false, .int .i64 0]) (t := 58) ?hr ?_; (case hd => rfl); (case hg => rfl); (case hr => first | (go_simp; done) | (go_simp; rfl)); intro gb194 hg w13 hbox hb; have n0_ := Aside0.mk (below_step (by repeat (first | (with_reducible first | exact HB.out | apply below_alloc | apply pw_below_drewN | apply below_drew1) | exact HB.out)) hb); have n1_ := Aside0.mk (hbox); have n2_ := Aside0.mk ((by rw [hg]; exact (below_size (by repeat (first | (with_reducible first | exact HB.out | apply below_alloc | apply pw_below_drewN | apply below_drew1) | exact HB.out))) : w.heap.size ≤ gb194)); have n3_ := Aside0.mk ((by rw [hg]; exact (below_size (by repeat (first | (with_reducible first | exact HB.out | apply below_alloc | apply pw_below_drewN | apply below_drew1) | exact HB.out))) : w.heap.size ≤ gb194)); clear HB; have HB := n0_; have BK194 := n1_; have GW194 := n2_; have GE194 := n3_; clear n0_ n1_ n2_ n3_; clear hb hbox hg; have hcz14_0 : w13.cell? ⟨gb194, 0, none⟩ = some (.int .i64 0) := (blk_cell BK194.out 0).trans rfl; have hcz14_1 : w13.cell? ⟨gb194, 1, none⟩ = some (.bool false) := (blk_cell BK194.out 1).trans rfl; have hcz14_2 : w13.cell? ⟨gb194, 2, none⟩ = some (.int .i64 0) := (blk_cell BK194.out 2).trans rfl; have hfz14_0 := blk_frozen BK194.out 0; have hfz14_1 := blk_frozen BK194.out 1; have hfz14_2 := blk_frozen BK194.out 2) | ((with_reducible refine gate_callee (f := 43) rfl ?_); refine goesL_ (some 27) rfl rfl Try.func43 (by kernel_rfl) rfl #[] rfl (by (try simp only [List.map_toArray, List.map_cons, List.map_nil]); first | done | rfl | (simp only [List.length_drop, List.length_take]; rfl)) ?_; (with_reducible refine (headroomlaw02_alive.calls  true _ A7.out).mono ?_); rintro e w15 ⟨rfl, hb⟩; refine ⟨_, rfl, ?_⟩; have n0_ := Aside0.mk (blk_below (g := gb194) (o := .cells #[.int .i64 t191, .bool t192, .int .i64 t193] 58 (0, 0)) (by (with_reducible repeat (first | refine blk_drewN ?_ _ | refine blk_drew ?_ | refine blk_alloc ?_ _)); refine blk_put (cs := #[.int .i64 t191, .bool t192, .int .i64 0]) ?_ 2 _ rfl; (with_reducible repeat (first | refine blk_drewN ?_ _ | refine blk_drew ?_ | refine blk_alloc ?_ _)); refine blk_put (cs := #[.int .i64 t191, .bool false, .int .i64 0]) ?_ 1 _ rfl; (with_reducible repeat (first | refine blk_drewN ?_ _ | refine blk_drew ?_ | refine blk_alloc ?_ _)); refine blk_put (cs := #[.int .i64 0, .bool false, .int .i64 0]) ?_ 0 _ rfl; (with_reducible repeat (first | refine blk_drewN ?_ _ | refine blk_drew ?_ | refine blk_alloc ?_ _)); exact BK194.out) hb); have n1_ := Aside0.mk (below_step (by repeat (first | (with_reducible first | exact HB.out | apply below_alloc | apply pw_below_drewN | apply below_drew1 | refine below_set ?_ GE194.out) | exact HB.out)) hb); clear BK194; clear HB; have BK194 := n0_; have HB := n1_; clear n0_ n1_; (try clear hb); (try clear hb2); (try clear hk); (try clear hi); have hcz16_0 : w15.cell? ⟨gb194, 0, none⟩ = some (.int .i64 t191) := (blk_cell BK194.out 0).trans rfl; have hcz16_1 : w15.cell? ⟨gb194, 1, none⟩ = some (.bool t192) := (blk_cell BK194.out 1).trans rfl; have hcz16_2 : w15.cell? ⟨gb194, 2, none⟩ = some (.int .i64 t193) := (blk_cell BK194.out 2).trans rfl; have hfz16_0 := blk_frozen BK194.out 0; have hfz16_1 := blk_frozen BK194.out 1; have hfz16_2 := blk_frozen BK194.out 2))
        go_ret
        exact ⟨by first | rfl | (simp [errW_none, errW_some] <;> rfl) | (simp [*, errW_none, errW_some] <;> rfl), by repeat (first | (with_reducible first | exact HB.out | apply below_alloc | apply pw_below_drewN | apply below_drew1 | refine below_set ?_ GE194.out) | exact HB.out)⟩
      · rw [if_neg c10] at H
        have c10b0 : (t189 == t192) = false := by simpa using c10
        (try (have c10b1 : decide (t189 = t192) = false := by simpa using c10))
        (try (have c10b2 : (t189 == t192) = false := by simpa using c10))
        (try (have c10b3 : ¬ (t189 = t192) := by simpa using c10))
        clear c10
        obtain rfl := Option.some.inj H
        go_enter Try.func13, Try.ntmps13
        go_wp2_with (first | ((with_reducible refine gate_callee (f := 52) rfl ?_); refine goesL_ (some 18) rfl rfl Try.func52 (by kernel_rfl) rfl #[.int .i64 a0, .int .i64 a1, .int .i64 a2, .int .i64 a3] rfl (by (try simp only [List.map_toArray, List.map_cons, List.map_nil]); first | done | rfl | (simp only [List.length_drop, List.length_take]; rfl)) ?_; (with_reducible refine (sat_Mul.calls a0 a1 a2 a3 t188 t189 t190 _ A5.out).mono ?_); rintro e w17 ⟨rfl, hb⟩; refine ⟨_, rfl, ?_⟩; have n0_ := Aside0.mk (below_step (by repeat (first | (with_reducible first | exact HB.out | apply below_alloc | apply pw_below_drewN | apply below_drew1) | exact HB.out)) hb); clear HB; have HB := n0_; clear n0_; (try clear hb); (try clear hb2); (try clear hk); (try clear hi)) | ((with_reducible refine gate_callee (f := 49) rfl ?_); refine goesL_ (some 26) rfl rfl Try.func49 (by kernel_rfl) rfl #[.int .i64 a0, .int .i64 a1, .int .i64 a2, .int .i64 a3, .int .i64 2] rfl (by (try simp only [List.map_toArray, List.map_cons, List.map_nil]); first | done | rfl | (simp only [List.length_drop, List.length_take]; rfl)) ?_; (with_reducible refine (headroomref02_Two.calls k a0 a1 a2 a3 2 t191 t192 t193 _ A6.out).mono ?_); rintro e w18 ⟨rfl, hb⟩; refine ⟨_, rfl, ?_⟩; have n0_ := Aside0.mk (below_step (by repeat (first | (with_reducible first | exact HB.out | apply below_alloc | apply pw_below_drewN | apply below_drew1) | exact HB.out)) hb); clear HB; have HB := n0_; clear n0_; (try clear hb); (try clear hb2); (try clear hk); (try clear hi)) | ((with_reducible refine gate_dst (N := 12) rfl ?_); refine box_event ?hg (N := 12) ?hd (cs := #[.int .i64 0, .bool false, .int .i64 0]) (t := 58) ?hr ?_; (case hd => rfl); (case hg => rfl); (case hr => first | (go_simp; done) | (go_simp; rfl)); intro gb194 hg w19 hbox hb; have n0_ := Aside0.mk (below_step (by repeat (first | (with_reducible first | exact HB.out | apply below_alloc | apply pw_below_drewN | apply below_drew1) | exact HB.out)) hb); have n1_ := Aside0.mk (hbox); have n2_ := Aside0.mk ((by rw [hg]; exact (below_size (by repeat (first | (with_reducible first | exact HB.out | apply below_alloc | apply pw_below_drewN | apply below_drew1) | exact HB.out))) : w.heap.size ≤ gb194)); have n3_ := Aside0.mk ((by rw [hg]; exact (below_size (by repeat (first | (with_reducible first | exact HB.out | apply below_alloc | apply pw_below_drewN | apply below_drew1) | exact HB.out))) : w.heap.size ≤ gb194)); clear HB; have HB := n0_; have BK194 := n1_; have GW194 := n2_; have GE194 := n3_; clear n0_ n1_ n2_ n3_; clear hb hbox hg; have hcz20_0 : w19.cell? ⟨gb194, 0, none⟩ = some (.int .i64 0) := (blk_cell BK194.out 0).trans rfl; have hcz20_1 : w19.cell? ⟨gb194, 1, none⟩ = some (.bool false) := (blk_cell BK194.out 1).trans rfl; have hcz20_2 : w19.cell? ⟨gb194, 2, none⟩ = some (.int .i64 0) := (blk_cell BK194.out 2).trans rfl; have hfz20_0 := blk_frozen BK194.out 0; have hfz20_1 := blk_frozen BK194.out 1; have hfz20_2 := blk_frozen BK194.out 2) | ((with_reducible refine gate_callee (f := 43) rfl ?_); refine goesL_ (some 27) rfl rfl Try.func43 (by kernel_rfl) rfl #[] rfl (by (try simp only [List.map_toArray, List.map_cons, List.map_nil]); first | done | rfl | (simp only [List.length_drop, List.length_take]; rfl)) ?_; (with_reducible refine (headroomlaw02_alive.calls  true _ A7.out).mono ?_); rintro e w21 ⟨rfl, hb⟩; refine ⟨_, rfl, ?_⟩; have n0_ := Aside0.mk (blk_below (g := gb194) (o := .cells #[.int .i64 t191, .bool t192, .int .i64 t193] 58 (0, 0)) (by (with_reducible repeat (first | refine blk_drewN ?_ _ | refine blk_drew ?_ | refine blk_alloc ?_ _)); refine blk_put (cs := #[.int .i64 t191, .bool t192, .int .i64 0]) ?_ 2 _ rfl; (with_reducible repeat (first | refine blk_drewN ?_ _ | refine blk_drew ?_ | refine blk_alloc ?_ _)); refine blk_put (cs := #[.int .i64 t191, .bool false, .int .i64 0]) ?_ 1 _ rfl; (with_reducible repeat (first | refine blk_drewN ?_ _ | refine blk_drew ?_ | refine blk_alloc ?_ _)); refine blk_put (cs := #[.int .i64 0, .bool false, .int .i64 0]) ?_ 0 _ rfl; (with_reducible repeat (first | refine blk_drewN ?_ _ | refine blk_drew ?_ | refine blk_alloc ?_ _)); exact BK194.out) hb); have n1_ := Aside0.mk (below_step (by repeat (first | (with_reducible first | exact HB.out | apply below_alloc | apply pw_below_drewN | apply below_drew1 | refine below_set ?_ GE194.out) | exact HB.out)) hb); clear BK194; clear HB; have BK194 := n0_; have HB := n1_; clear n0_ n1_; (try clear hb); (try clear hb2); (try clear hk); (try clear hi); have hcz22_0 : w21.cell? ⟨gb194, 0, none⟩ = some (.int .i64 t191) := (blk_cell BK194.out 0).trans rfl; have hcz22_1 : w21.cell? ⟨gb194, 1, none⟩ = some (.bool t192) := (blk_cell BK194.out 1).trans rfl; have hcz22_2 : w21.cell? ⟨gb194, 2, none⟩ = some (.int .i64 t193) := (blk_cell BK194.out 2).trans rfl; have hfz22_0 := blk_frozen BK194.out 0; have hfz22_1 := blk_frozen BK194.out 1; have hfz22_2 := blk_frozen BK194.out 2))
        go_ret
        exact ⟨by first | rfl | (simp [errW_none, errW_some] <;> rfl) | (simp [*, errW_none, errW_some] <;> rfl), by repeat (first | (with_reducible first | exact HB.out | apply below_alloc | apply pw_below_drewN | apply below_drew1 | refine below_set ?_ GE194.out) | exact HB.out)⟩
    · rw [if_neg c9] at H
      have c9b0 : (t188 == t191) = false := beq_eq_false_iff_ne.mpr c9
      have c9b1 : (t188 != t191) = true := bne_iff_ne.mpr c9
      obtain rfl := Option.some.inj H
      go_enter Try.func13, Try.ntmps13
      go_wp2_with (first | ((with_reducible refine gate_callee (f := 52) rfl ?_); refine goesL_ (some 18) rfl rfl Try.func52 (by kernel_rfl) rfl #[.int .i64 a0, .int .i64 a1, .int .i64 a2, .int .i64 a3] rfl (by (try simp only [List.map_toArray, List.map_cons, List.map_nil]); first | done | rfl | (simp only [List.length_drop, List.length_take]; rfl)) ?_; (with_reducible refine (sat_Mul.calls a0 a1 a2 a3 t188 t189 t190 _ A5.out).mono ?_); rintro e w23 ⟨rfl, hb⟩; refine ⟨_, rfl, ?_⟩; have n0_ := Aside0.mk (below_step (by repeat (first | (with_reducible first | exact HB.out | apply below_alloc | apply pw_below_drewN | apply below_drew1) | exact HB.out)) hb); clear HB; have HB := n0_; clear n0_; (try clear hb); (try clear hb2); (try clear hk); (try clear hi)) | ((with_reducible refine gate_callee (f := 49) rfl ?_); refine goesL_ (some 26) rfl rfl Try.func49 (by kernel_rfl) rfl #[.int .i64 a0, .int .i64 a1, .int .i64 a2, .int .i64 a3, .int .i64 2] rfl (by (try simp only [List.map_toArray, List.map_cons, List.map_nil]); first | done | rfl | (simp only [List.length_drop, List.length_take]; rfl)) ?_; (with_reducible refine (headroomref02_Two.calls k a0 a1 a2 a3 2 t191 t192 t193 _ A6.out).mono ?_); rintro e w24 ⟨rfl, hb⟩; refine ⟨_, rfl, ?_⟩; have n0_ := Aside0.mk (below_step (by repeat (first | (with_reducible first | exact HB.out | apply below_alloc | apply pw_below_drewN | apply below_drew1) | exact HB.out)) hb); clear HB; have HB := n0_; clear n0_; (try clear hb); (try clear hb2); (try clear hk); (try clear hi)) | ((with_reducible refine gate_dst (N := 12) rfl ?_); refine box_event ?hg (N := 12) ?hd (cs := #[.int .i64 0, .bool false, .int .i64 0]) (t := 58) ?hr ?_; (case hd => rfl); (case hg => rfl); (case hr => first | (go_simp; done) | (go_simp; rfl)); intro gb194 hg w25 hbox hb; have n0_ := Aside0.mk (below_step (by repeat (first | (with_reducible first | exact HB.out | apply below_alloc | apply pw_below_drewN | apply below_drew1) | exact HB.out)) hb); have n1_ := Aside0.mk (hbox); have n2_ := Aside0.mk ((by rw [hg]; exact (below_size (by repeat (first | (with_reducible first | exact HB.out | apply below_alloc | apply pw_below_drewN | apply below_drew1) | exact HB.out))) : w.heap.size ≤ gb194)); have n3_ := Aside0.mk ((by rw [hg]; exact (below_size (by repeat (first | (with_reducible first | exact HB.out | apply below_alloc | apply pw_below_drewN | apply below_drew1) | exact HB.out))) : w.heap.size ≤ gb194)); clear HB; have HB := n0_; have BK194 := n1_; have GW194 := n2_; have GE194 := n3_; clear n0_ n1_ n2_ n3_; clear hb hbox hg; have hcz26_0 : w25.cell? ⟨gb194, 0, none⟩ = some (.int .i64 0) := (blk_cell BK194.out 0).trans rfl; have hcz26_1 : w25.cell? ⟨gb194, 1, none⟩ = some (.bool false) := (blk_cell BK194.out 1).trans rfl; have hcz26_2 : w25.cell? ⟨gb194, 2, none⟩ = some (.int .i64 0) := (blk_cell BK194.out 2).trans rfl; have hfz26_0 := blk_frozen BK194.out 0; have hfz26_1 := blk_frozen BK194.out 1; have hfz26_2 := blk_frozen BK194.out 2) | ((with_reducible refine gate_callee (f := 43) rfl ?_); refine goesL_ (some 27) rfl rfl Try.func43 (by kernel_rfl) rfl #[] rfl (by (try simp only [List.map_toArray, List.map_cons, List.map_nil]); first | done | rfl | (simp only [List.length_drop, List.length_take]; rfl)) ?_; (with_reducible refine (headroomlaw02_alive.calls  true _ A7.out).mono ?_); rintro e w27 ⟨rfl, hb⟩; refine ⟨_, rfl, ?_⟩; have n0_ := Aside0.mk (blk_below (g := gb194) (o := .cells #[.int .i64 t191, .bool t192, .int .i64 t193] 58 (0, 0)) (by (with_reducible repeat (first | refine blk_drewN ?_ _ | refine blk_drew ?_ | refine blk_alloc ?_ _)); refine blk_put (cs := #[.int .i64 t191, .bool t192, .int .i64 0]) ?_ 2 _ rfl; (with_reducible repeat (first | refine blk_drewN ?_ _ | refine blk_drew ?_ | refine blk_alloc ?_ _)); refine blk_put (cs := #[.int .i64 t191, .bool false, .int .i64 0]) ?_ 1 _ rfl; (with_reducible repeat (first | refine blk_drewN ?_ _ | refine blk_drew ?_ | refine blk_alloc ?_ _)); refine blk_put (cs := #[.int .i64 0, .bool false, .int .i64 0]) ?_ 0 _ rfl; (with_reducible repeat (first | refine blk_drewN ?_ _ | refine blk_drew ?_ | refine blk_alloc ?_ _)); exact BK194.out) hb); have n1_ := Aside0.mk (below_step (by repeat (first | (with_reducible first | exact HB.out | apply below_alloc | apply pw_below_drewN | apply below_drew1 | refine below_set ?_ GE194.out) | exact HB.out)) hb); clear BK194; clear HB; have BK194 := n0_; have HB := n1_; clear n0_ n1_; (try clear hb); (try clear hb2); (try clear hk); (try clear hi); have hcz28_0 : w27.cell? ⟨gb194, 0, none⟩ = some (.int .i64 t191) := (blk_cell BK194.out 0).trans rfl; have hcz28_1 : w27.cell? ⟨gb194, 1, none⟩ = some (.bool t192) := (blk_cell BK194.out 1).trans rfl; have hcz28_2 : w27.cell? ⟨gb194, 2, none⟩ = some (.int .i64 t193) := (blk_cell BK194.out 2).trans rfl; have hfz28_0 := blk_frozen BK194.out 0; have hfz28_1 := blk_frozen BK194.out 1; have hfz28_2 := blk_frozen BK194.out 2))
      go_ret
      exact ⟨by first | rfl | (simp [errW_none, errW_some] <;> rfl) | (simp [*, errW_none, errW_some] <;> rfl), by repeat (first | (with_reducible first | exact HB.out | apply below_alloc | apply pw_below_drewN | apply below_drew1 | refine below_set ?_ GE194.out) | exact HB.out)⟩
  · replace c8 := Bool.eq_false_iff.mpr c8
    subst c8
    have H1 : (some false) = some r := by rw [if_neg (show ¬ (false = true) by decide)] at H; exact H
    clear H
    have H := H1
    clear H1
    obtain rfl := Option.some.inj H
    go_enter Try.func13, Try.ntmps13
    go_wp2_with (first | ((with_reducible refine gate_callee (f := 52) rfl ?_); refine goesL_ (some 18) rfl rfl Try.func52 (by kernel_rfl) rfl #[.int .i64 a0, .int .i64 a1, .int .i64 a2, .int .i64 a3] rfl (by (try simp only [List.map_toArray, List.map_cons, List.map_nil]); first | done | rfl | (simp only [List.length_drop, List.length_take]; rfl)) ?_; (with_reducible refine (sat_Mul.calls a0 a1 a2 a3 t188 t189 t190 _ A5.out).mono ?_); rintro e w29 ⟨rfl, hb⟩; refine ⟨_, rfl, ?_⟩; have n0_ := Aside0.mk (below_step (by repeat (first | (with_reducible first | exact HB.out | apply below_alloc | apply pw_below_drewN | apply below_drew1) | exact HB.out)) hb); clear HB; have HB := n0_; clear n0_; (try clear hb); (try clear hb2); (try clear hk); (try clear hi)) | ((with_reducible refine gate_callee (f := 49) rfl ?_); refine goesL_ (some 26) rfl rfl Try.func49 (by kernel_rfl) rfl #[.int .i64 a0, .int .i64 a1, .int .i64 a2, .int .i64 a3, .int .i64 2] rfl (by (try simp only [List.map_toArray, List.map_cons, List.map_nil]); first | done | rfl | (simp only [List.length_drop, List.length_take]; rfl)) ?_; (with_reducible refine (headroomref02_Two.calls k a0 a1 a2 a3 2 t191 t192 t193 _ A6.out).mono ?_); rintro e w30 ⟨rfl, hb⟩; refine ⟨_, rfl, ?_⟩; have n0_ := Aside0.mk (below_step (by repeat (first | (with_reducible first | exact HB.out | apply below_alloc | apply pw_below_drewN | apply below_drew1) | exact HB.out)) hb); clear HB; have HB := n0_; clear n0_; (try clear hb); (try clear hb2); (try clear hk); (try clear hi)) | ((with_reducible refine gate_dst (N := 12) rfl ?_); refine box_event ?hg (N := 12) ?hd (cs := #[.int .i64 0, .bool false, .int .i64 0]) (t := 58) ?hr ?_; (case hd => rfl); (case hg => rfl); (case hr => first | (go_simp; done) | (go_simp; rfl)); intro gb194 hg w31 hbox hb; have n0_ := Aside0.mk (below_step (by repeat (first | (with_reducible first | exact HB.out | apply below_alloc | apply pw_below_drewN | apply below_drew1) | exact HB.out)) hb); have n1_ := Aside0.mk (hbox); have n2_ := Aside0.mk ((by rw [hg]; exact (below_size (by repeat (first | (with_reducible first | exact HB.out | apply below_alloc | apply pw_below_drewN | apply below_drew1) | exact HB.out))) : w.heap.size ≤ gb194)); have n3_ := Aside0.mk ((by rw [hg]; exact (below_size (by repeat (first | (with_reducible first | exact HB.out | apply below_alloc | apply pw_below_drewN | apply below_drew1) | exact HB.out))) : w.heap.size ≤ gb194)); clear HB; have HB := n0_; have BK194 := n1_; have GW194 := n2_; have GE194 := n3_; clear n0_ n1_ n2_ n3_; clear hb hbox hg; have hcz32_0 : w31.cell? ⟨gb194, 0, none⟩ = some (.int .i64 0) := (blk_cell BK194.out 0).trans rfl; have hcz32_1 : w31.cell? ⟨gb194, 1, none⟩ = some (.bool false) := (blk_cell BK194.out 1).trans rfl; have hcz32_2 : w31.cell? ⟨gb194, 2, none⟩ = some (.int .i64 0) := (blk_cell BK194.out 2).trans rfl; have hfz32_0 := blk_frozen BK194.out 0; have hfz32_1 := blk_frozen BK194.out 1; have hfz32_2 := blk_frozen BK194.out 2) | ((with_reducible refine gate_callee (f := 43) rfl ?_); refine goesL_ (some 27) rfl rfl Try.func43 (by kernel_rfl) rfl #[] rfl (by (try simp only [List.map_toArray, List.map_cons, List.map_nil]); first | done | rfl | (simp only [List.length_drop, List.length_take]; rfl)) ?_; (with_reducible refine (headroomlaw02_alive.calls  false _ A7.out).mono ?_); rintro e w33 ⟨rfl, hb⟩; refine ⟨_, rfl, ?_⟩; have n0_ := Aside0.mk (blk_below (g := gb194) (o := .cells #[.int .i64 t191, .bool t192, .int .i64 t193] 58 (0, 0)) (by (with_reducible repeat (first | refine blk_drewN ?_ _ | refine blk_drew ?_ | refine blk_alloc ?_ _)); refine blk_put (cs := #[.int .i64 t191, .bool t192, .int .i64 0]) ?_ 2 _ rfl; (with_reducible repeat (first | refine blk_drewN ?_ _ | refine blk_drew ?_ | refine blk_alloc ?_ _)); refine blk_put (cs := #[.int .i64 t191, .bool false, .int .i64 0]) ?_ 1 _ rfl; (with_reducible repeat (first | refine blk_drewN ?_ _ | refine blk_drew ?_ | refine blk_alloc ?_ _)); refine blk_put (cs := #[.int .i64 0, .bool false, .int .i64 0]) ?_ 0 _ rfl; (with_reducible repeat (first | refine blk_drewN ?_ _ | refine blk_drew ?_ | refine blk_alloc ?_ _)); exact BK194.out) hb); have n1_ := Aside0.mk (below_step (by repeat (first | (with_reducible first | exact HB.out | apply below_alloc | apply pw_below_drewN | apply below_drew1 | refine below_set ?_ GE194.out) | exact HB.out)) hb); clear BK194; clear HB; have BK194 := n0_; have HB := n1_; clear n0_ n1_; (try clear hb); (try clear hb2); (try clear hk); (try clear hi)))
    go_ret
    exact ⟨by first | rfl | (simp [errW_none, errW_some] <;> rfl) | (simp [*, errW_none, errW_some] <;> rfl), by repeat (first | (with_reducible first | exact HB.out | apply below_alloc | apply pw_below_drewN | apply below_drew1 | refine below_set ?_ GE194.out) | exact HB.out)⟩

/-- THE ONE PURE STATEMENT of headroomlaw02_SatMuls. -/
def headroomlaw02_SatMuls.Pure : Prop := ∀ (a0 : Int) (a1 : Int) (a2 : Int) (a3 : Int), (Lit.int .i64 a0).wf = true → (Lit.int .i64 a1).wf = true → (Lit.int .i64 a2).wf = true → (Lit.int .i64 a3).wf = true → ∃ k, headroomlaw02_SatMuls.f k a0 a1 a2 a3 = some true
theorem headroomlaw02_SatMuls.walk (P : headroomlaw02_SatMuls.Pure) (a0 : Int) (a1 : Int) (a2 : Int) (a3 : Int) (w : World) (w0_ : (Lit.int .i64 a0).wf = true) (w1_ : (Lit.int .i64 a1).wf = true) (w2_ : (Lit.int .i64 a2).wf = true) (w3_ : (Lit.int .i64 a3).wf = true) :
    Calls Try.prog 13 #[.int .i64 a0, .int .i64 a1, .int .i64 a2, .int .i64 a3] w fun e w' => e = .returned (.bool true) ∧ Below w.heap.size w w' := by
  obtain ⟨k, h⟩ := P a0 a1 a2 a3 w0_ w1_ w2_ w3_
  refine (headroomlaw02_SatMuls.calls k a0 a1 a2 a3 true w h).mono ?_
  rintro e w' ⟨rfl, hd⟩
  exact ⟨rfl, hd⟩

/-! ### sat_Neg: function 48 -/
theorem sat_Neg.make (a0 : Int) (w : World) (g0 : Nat) (h0 : w.heap[g0]? = some (.cells #[.int .i64 a0] 3 (0, 0))) :
    Calls Try.prog 69 #[.pointer (some ⟨g0, 0, none⟩)] w fun e w' => e = .returned (.int .i64 (wrap64 (-a0))) ∧ Below w.heap.size w w' := by
  obtain ⟨c0, _, l0⟩ := cells1 h0
  clear h0
  go_enter Try.func69, Try.ntmps69
  go_wp2
  go_ret
  exact ⟨rfl, Below.refl _ _⟩
def sat_Neg.f (a0 a1 : Int) : Option (Int × Bool × Int) := some (satof a1 [a0] (-a0))
set_option maxHeartbeats 1000000 in
theorem sat_Neg.calls (a0 a1 : Int) (r1 : Int) (r2 : Bool) (r3 : Int) (w : World) (h : sat_Neg.f a0 a1 = some (r1, r2, r3)) :
    Calls Try.prog 48 #[.int .i64 a0, .int .i64 a1] w fun e w' => e = .returned (.tuple #[.int .i64 r1, .bool r2, .int .i64 r3]) ∧ Below w.heap.size w w' := by
  have HS := Lib.hid (show satof a1 [a0] (-a0) = (r1, r2, r3) from Option.some.inj h)
  clear h
  go_enter Try.func48, Try.ntmps48
  go_wp2_with (fail)
  refine (sat_done.calls 69 _ a1 (-a0) _ _ [a0] _ _ rfl (C_int1 (new_at (by simp))) (by simp) (fun _ _ => rfl) ?_).mono ?_
  · intro hf hall W hW
    have hr : wrap64 (-a0) = -a0 := by
      simp [inm, mag] at hall
      unfold wrap64
      rcases hf with rfl | rfl <;> simp at hall <;> omega
    rw [← hr]
    exact sat_Neg.make a0 _ _ (blk_below (by repeat (first | (refine new_at ?_; simp; done) | refine blk_alloc ?_ _)) hW)
  rintro e w1 ⟨rfl, hb1⟩
  rw [HS.out] at *
  go_wp2
  go_ret3
  exact ⟨rfl, below_then (by repeat (first | exact Below.refl _ _ | refine below_alloc ?_ _)) (by first | (simp; done) | (simp; omega)) hb1⟩

end Go.Proofs.Ytobkjhiicafkbaa.P

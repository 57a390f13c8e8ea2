-- Laid by this session's program hyb.py, out of the kit's print and this session's own contracts.
import Derived.Test.YtfemklaeonkidaaPx0
import Derived.Test.YtfemklaeonkidaaPx23
namespace Go.Proofs.Ytfemklaeonkidaa.P
open Go.RowKit Go.Proofs.YtfemklaeonkidaaW.PrintWords Go.Proofs.YtfemklaeonkidaaW.PrintLast Go.Proofs.YtfemklaeonkidaaW.PrintMore Go.Proofs.YtfemklaeonkidaaW.Hand
attribute [local go_sem] max2_int min2_int max_two min_two max_three min_three max_four min_four   -- for this text's walks alone
set_option linter.unusedVariables false
set_option linter.unusedSimpArgs false

/-! ### cx_Times: function 86 -/
theorem mul_bd {x y m n : Int} (h1 : -m ≤ x) (h2 : x ≤ m) (h3 : -n ≤ y) (h4 : y ≤ n) : -(m * n) ≤ x * y ∧ x * y ≤ m * n := by
  have hm : 0 ≤ m := by omega
  have hx : x.natAbs ≤ m.toNat := by omega
  have hy : y.natAbs ≤ n.toNat := by omega
  have h5 := Nat.mul_le_mul hx hy
  rw [← Int.natAbs_mul] at h5
  have h6 : ((m.toNat * n.toNat : Nat) : Int) = m * n := by
    rw [Int.natCast_mul, Int.toNat_of_nonneg hm, Int.toNat_of_nonneg (by omega)]
  omega
theorem times_bd {x y u v : Int} (h : win 2147483648 x y = true ∧ win 1073741824 u v = true ∨ win 1073741824 x y = true ∧ win 2147483648 u v = true) :
    wrap64 (wrap64 (x * u) - wrap64 (y * v)) = x * u - y * v ∧ wrap64 (wrap64 (x * v) + wrap64 (y * u)) = x * v + y * u := by
  have key : ∀ a b, (a = x ∨ a = y) → (b = u ∨ b = v) → -2305843009213693952 ≤ a * b ∧ a * b ≤ 2305843009213693952 := by
    intro a b ha hb
    rcases h with ⟨h1, h2⟩ | ⟨h1, h2⟩ <;> have h1 := win_true h1 <;> have h2 := win_true h2
    · have := mul_bd (x := a) (y := b) (m := 2147483648) (n := 1073741824) (by omega) (by omega) (by omega) (by omega)
      omega
    · have := mul_bd (x := a) (y := b) (m := 1073741824) (n := 2147483648) (by omega) (by omega) (by omega) (by omega)
      omega
  have k1 := key x u (.inl rfl) (.inl rfl)
  have k2 := key y v (.inr rfl) (.inr rfl)
  have k3 := key x v (.inl rfl) (.inr rfl)
  have k4 := key y u (.inr rfl) (.inl rfl)
  have e : ∀ z, -2305843009213693952 ≤ z ∧ z ≤ 2305843009213693952 → wrap64 z = z := by
    intro z hz
    unfold wrap64
    omega
  rw [e _ k1, e _ k2, e _ k3, e _ k4]
  generalize x * u = p1 at *
  generalize y * v = p2 at *
  generalize x * v = p3 at *
  generalize y * u = p4 at *
  unfold wrap64
  omega
def cx_Times.f (a0_0 a0_1 : Int) (a1_0 a1_1 : Int) : Option (Int × Int × Int) := if ((win 2147483648 a0_0 a0_1 && win 1073741824 a1_0 a1_1) || (win 1073741824 a0_0 a0_1 && win 2147483648 a1_0 a1_1)) = true then some (a0_0 * a1_0 - a0_1 * a1_1, a0_0 * a1_1 + a0_1 * a1_0, 0) else some (0, 0, 2)
set_option maxHeartbeats 2000000 in
theorem cx_Times.way0 (a0_0 a0_1 : Int) (a1_0 a1_1 : Int) (w : World) (hN0 : Hid (win 2147483648 a0_0 a0_1 = true)) (hL1 : Hid (win 1073741824 a1_0 a1_1 = true)) :
    Calls Try.prog 86 #[.agg #[.int .i64 a0_0, .int .i64 a0_1], .agg #[.int .i64 a1_0, .int .i64 a1_1]] w fun e w' => e = .returned (.tuple #[.agg #[.int .i64 (wrap64 (wrap64 (a0_0 * a1_0) - wrap64 (a0_1 * a1_1))), .int .i64 (wrap64 (wrap64 (a0_0 * a1_1) + wrap64 (a0_1 * a1_0)))], .int .i64 0]) ∧ Below w.heap.size w w' := by
  go_enter Try.func86, Try.ntmps86
  go_wp2_with (fail)
  refine (within_one 2147483648 a0_0 a0_1 true _ _ hN0 (by omega) (by omega) (new_at (by simp))).mono ?_
  rintro e w1 ⟨rfl, hb1⟩
  have HB1 := Lib.hid (below_then (by repeat (first | exact Below.refl _ _ | refine below_alloc ?_ _ | refine Below.setCell ?_ (by first | omega | (simp; done) | (simp; omega)) _)) (by first | (simp; done) | (simp; omega)) hb1 : Below w.heap.size w w1)
  have Ba_1 := Lib.hid (blk_below (by repeat (first | (refine new_at ?_; simp; done) | refine blk_alloc ?_ _)) hb1 : w1.heap[w.heap.size]? = some (.cells #[.int .i64 a0_0, .int .i64 a0_1] 37 (0, 0)))
  obtain ⟨ca0_1, ca1_1, fa0_1, fa1_1, la_1⟩ := cells2 Ba_1.out
  have Bb_1 := Lib.hid (blk_below (by repeat (first | (refine new_at ?_; simp; done) | refine blk_alloc ?_ _)) hb1 : w1.heap[w.heap.size + 1]? = some (.cells #[.int .i64 a1_0, .int .i64 a1_1] 37 (0, 0)))
  obtain ⟨cb0_1, cb1_1, fb0_1, fb1_1, lb_1⟩ := cells2 Bb_1.out
  have Br_1 := Lib.hid (blk_below (by repeat (first | (refine new_at ?_; simp; done) | refine blk_alloc ?_ _)) hb1 : w1.heap[w.heap.size + 1 + 1]? = some (.cells #[.int .i64 0, .int .i64 0] 37 (0, 0)))
  obtain ⟨cr0_1, cr1_1, fr0_1, fr1_1, lr_1⟩ := cells2 Br_1.out
  have hz1 := HB1.out.size
  clear hb1
  go_wp2_with (fail)
  refine (within_one 1073741824 a1_0 a1_1 true _ _ hL1 (by omega) (by omega) (new_at (by simp))).mono ?_
  rintro e w2 ⟨rfl, hb2⟩
  have HB2 := Lib.hid (below_then (by repeat (first | exact HB1.out | refine below_alloc ?_ _ | refine Below.setCell ?_ (by first | omega | (simp; done) | (simp; omega)) _)) (by first | (simp; done) | (simp; omega)) hb2 : Below w.heap.size w w2)
  have Ba_2 := Lib.hid (blk_below (by repeat (first | exact Ba_1.out | (refine new_at ?_; simp; done) | refine blk_alloc ?_ _)) hb2 : w2.heap[w.heap.size]? = some (.cells #[.int .i64 a0_0, .int .i64 a0_1] 37 (0, 0)))
  obtain ⟨ca0_2, ca1_2, fa0_2, fa1_2, la_2⟩ := cells2 Ba_2.out
  clear ca0_1 ca1_1 fa0_1 fa1_1 la_1
  have Bb_2 := Lib.hid (blk_below (by repeat (first | exact Bb_1.out | (refine new_at ?_; simp; done) | refine blk_alloc ?_ _)) hb2 : w2.heap[w.heap.size + 1]? = some (.cells #[.int .i64 a1_0, .int .i64 a1_1] 37 (0, 0)))
  obtain ⟨cb0_2, cb1_2, fb0_2, fb1_2, lb_2⟩ := cells2 Bb_2.out
  clear cb0_1 cb1_1 fb0_1 fb1_1 lb_1
  have Br_2 := Lib.hid (blk_below (by repeat (first | exact Br_1.out | (refine new_at ?_; simp; done) | refine blk_alloc ?_ _)) hb2 : w2.heap[w.heap.size + 1 + 1]? = some (.cells #[.int .i64 0, .int .i64 0] 37 (0, 0)))
  obtain ⟨cr0_2, cr1_2, fr0_2, fr1_2, lr_2⟩ := cells2 Br_2.out
  clear cr0_1 cr1_1 fr0_1 fr1_1 lr_1
  have hz2 := HB2.out.size
  clear hb2
  go_wp2
  refine bodyPost_ret (v := .agg #[.int .i64 (wrap64 (wrap64 (a0_0 * a1_0) - wrap64 (a0_1 * a1_1))), .int .i64 (wrap64 (wrap64 (a0_0 * a1_1) + wrap64 (a0_1 * a1_0)))]) (by simp only [results, Try.results97]; go_simp) rfl ?_
  go_wp2
  refine bodyPost_ret (v := .tuple #[.agg #[.int .i64 (wrap64 (wrap64 (a0_0 * a1_0) - wrap64 (a0_1 * a1_1))), .int .i64 (wrap64 (wrap64 (a0_0 * a1_1) + wrap64 (a0_1 * a1_0)))], .int .i64 0]) (by simp only [results, Try.results93]; go_simp) rfl ?_
  go_wp2
  refine bodyPost_ret (v := .tuple #[.agg #[.int .i64 (wrap64 (wrap64 (a0_0 * a1_0) - wrap64 (a0_1 * a1_1))), .int .i64 (wrap64 (wrap64 (a0_0 * a1_1) + wrap64 (a0_1 * a1_0)))], .int .i64 0]) (by simp only [results, Try.results86]; go_simp) rfl ?_
  refine ⟨rfl, ?_⟩
  repeat (first | exact HB2.out | exact Below.refl _ _ | refine below_alloc ?_ _ | refine Below.setCell ?_ (by first | omega | (simp; done) | (simp; omega)) _)
set_option maxHeartbeats 2000000 in
theorem cx_Times.way1 (a0_0 a0_1 : Int) (a1_0 a1_1 : Int) (w : World) (hN0 : Hid (win 2147483648 a0_0 a0_1 = true)) (hL1 : Hid (win 1073741824 a1_0 a1_1 = false)) (hL0 : Hid (win 1073741824 a0_0 a0_1 = true)) (hN1 : Hid (win 2147483648 a1_0 a1_1 = true)) :
    Calls Try.prog 86 #[.agg #[.int .i64 a0_0, .int .i64 a0_1], .agg #[.int .i64 a1_0, .int .i64 a1_1]] w fun e w' => e = .returned (.tuple #[.agg #[.int .i64 (wrap64 (wrap64 (a0_0 * a1_0) - wrap64 (a0_1 * a1_1))), .int .i64 (wrap64 (wrap64 (a0_0 * a1_1) + wrap64 (a0_1 * a1_0)))], .int .i64 0]) ∧ Below w.heap.size w w' := by
  go_enter Try.func86, Try.ntmps86
  go_wp2_with (fail)
  refine (within_one 2147483648 a0_0 a0_1 true _ _ hN0 (by omega) (by omega) (new_at (by simp))).mono ?_
  rintro e w1 ⟨rfl, hb1⟩
  have HB1 := Lib.hid (below_then (by repeat (first | exact Below.refl _ _ | refine below_alloc ?_ _ | refine Below.setCell ?_ (by first | omega | (simp; done) | (simp; omega)) _)) (by first | (simp; done) | (simp; omega)) hb1 : Below w.heap.size w w1)
  have Ba_1 := Lib.hid (blk_below (by repeat (first | (refine new_at ?_; simp; done) | refine blk_alloc ?_ _)) hb1 : w1.heap[w.heap.size]? = some (.cells #[.int .i64 a0_0, .int .i64 a0_1] 37 (0, 0)))
  obtain ⟨ca0_1, ca1_1, fa0_1, fa1_1, la_1⟩ := cells2 Ba_1.out
  have Bb_1 := Lib.hid (blk_below (by repeat (first | (refine new_at ?_; simp; done) | refine blk_alloc ?_ _)) hb1 : w1.heap[w.heap.size + 1]? = some (.cells #[.int .i64 a1_0, .int .i64 a1_1] 37 (0, 0)))
  obtain ⟨cb0_1, cb1_1, fb0_1, fb1_1, lb_1⟩ := cells2 Bb_1.out
  have Br_1 := Lib.hid (blk_below (by repeat (first | (refine new_at ?_; simp; done) | refine blk_alloc ?_ _)) hb1 : w1.heap[w.heap.size + 1 + 1]? = some (.cells #[.int .i64 0, .int .i64 0] 37 (0, 0)))
  obtain ⟨cr0_1, cr1_1, fr0_1, fr1_1, lr_1⟩ := cells2 Br_1.out
  have hz1 := HB1.out.size
  clear hb1
  go_wp2_with (fail)
  refine (within_one 1073741824 a1_0 a1_1 false _ _ hL1 (by omega) (by omega) (new_at (by simp))).mono ?_
  rintro e w2 ⟨rfl, hb2⟩
  have HB2 := Lib.hid (below_then (by repeat (first | exact HB1.out | refine below_alloc ?_ _ | refine Below.setCell ?_ (by first | omega | (simp; done) | (simp; omega)) _)) (by first | (simp; done) | (simp; omega)) hb2 : Below w.heap.size w w2)
  have Ba_2 := Lib.hid (blk_below (by repeat (first | exact Ba_1.out | (refine new_at ?_; simp; done) | refine blk_alloc ?_ _)) hb2 : w2.heap[w.heap.size]? = some (.cells #[.int .i64 a0_0, .int .i64 a0_1] 37 (0, 0)))
  obtain ⟨ca0_2, ca1_2, fa0_2, fa1_2, la_2⟩ := cells2 Ba_2.out
  clear ca0_1 ca1_1 fa0_1 fa1_1 la_1
  have Bb_2 := Lib.hid (blk_below (by repeat (first | exact Bb_1.out | (refine new_at ?_; simp; done) | refine blk_alloc ?_ _)) hb2 : w2.heap[w.heap.size + 1]? = some (.cells #[.int .i64 a1_0, .int .i64 a1_1] 37 (0, 0)))
  obtain ⟨cb0_2, cb1_2, fb0_2, fb1_2, lb_2⟩ := cells2 Bb_2.out
  clear cb0_1 cb1_1 fb0_1 fb1_1 lb_1
  have Br_2 := Lib.hid (blk_below (by repeat (first | exact Br_1.out | (refine new_at ?_; simp; done) | refine blk_alloc ?_ _)) hb2 : w2.heap[w.heap.size + 1 + 1]? = some (.cells #[.int .i64 0, .int .i64 0] 37 (0, 0)))
  obtain ⟨cr0_2, cr1_2, fr0_2, fr1_2, lr_2⟩ := cells2 Br_2.out
  clear cr0_1 cr1_1 fr0_1 fr1_1 lr_1
  have hz2 := HB2.out.size
  clear hb2
  go_wp2_with (fail)
  refine (within_one 1073741824 a0_0 a0_1 true _ _ hL0 (by omega) (by omega) (new_at (by simp))).mono ?_
  rintro e w3 ⟨rfl, hb3⟩
  have HB3 := Lib.hid (below_then (by repeat (first | exact HB2.out | refine below_alloc ?_ _ | refine Below.setCell ?_ (by first | omega | (simp; done) | (simp; omega)) _)) (by first | (simp; done) | (simp; omega)) hb3 : Below w.heap.size w w3)
  have Ba_3 := Lib.hid (blk_below (by repeat (first | exact Ba_2.out | (refine new_at ?_; simp; done) | refine blk_alloc ?_ _)) hb3 : w3.heap[w.heap.size]? = some (.cells #[.int .i64 a0_0, .int .i64 a0_1] 37 (0, 0)))
  obtain ⟨ca0_3, ca1_3, fa0_3, fa1_3, la_3⟩ := cells2 Ba_3.out
  clear ca0_2 ca1_2 fa0_2 fa1_2 la_2
  have Bb_3 := Lib.hid (blk_below (by repeat (first | exact Bb_2.out | (refine new_at ?_; simp; done) | refine blk_alloc ?_ _)) hb3 : w3.heap[w.heap.size + 1]? = some (.cells #[.int .i64 a1_0, .int .i64 a1_1] 37 (0, 0)))
  obtain ⟨cb0_3, cb1_3, fb0_3, fb1_3, lb_3⟩ := cells2 Bb_3.out
  clear cb0_2 cb1_2 fb0_2 fb1_2 lb_2
  have Br_3 := Lib.hid (blk_below (by repeat (first | exact Br_2.out | (refine new_at ?_; simp; done) | refine blk_alloc ?_ _)) hb3 : w3.heap[w.heap.size + 1 + 1]? = some (.cells #[.int .i64 0, .int .i64 0] 37 (0, 0)))
  obtain ⟨cr0_3, cr1_3, fr0_3, fr1_3, lr_3⟩ := cells2 Br_3.out
  clear cr0_2 cr1_2 fr0_2 fr1_2 lr_2
  have hz3 := HB3.out.size
  clear hb3
  go_wp2_with (fail)
  refine (within_one 2147483648 a1_0 a1_1 true _ _ hN1 (by omega) (by omega) (new_at (by simp))).mono ?_
  rintro e w4 ⟨rfl, hb4⟩
  have HB4 := Lib.hid (below_then (by repeat (first | exact HB3.out | refine below_alloc ?_ _ | refine Below.setCell ?_ (by first | omega | (simp; done) | (simp; omega)) _)) (by first | (simp; done) | (simp; omega)) hb4 : Below w.heap.size w w4)
  have Ba_4 := Lib.hid (blk_below (by repeat (first | exact Ba_3.out | (refine new_at ?_; simp; done) | refine blk_alloc ?_ _)) hb4 : w4.heap[w.heap.size]? = some (.cells #[.int .i64 a0_0, .int .i64 a0_1] 37 (0, 0)))
  obtain ⟨ca0_4, ca1_4, fa0_4, fa1_4, la_4⟩ := cells2 Ba_4.out
  clear ca0_3 ca1_3 fa0_3 fa1_3 la_3
  have Bb_4 := Lib.hid (blk_below (by repeat (first | exact Bb_3.out | (refine new_at ?_; simp; done) | refine blk_alloc ?_ _)) hb4 : w4.heap[w.heap.size + 1]? = some (.cells #[.int .i64 a1_0, .int .i64 a1_1] 37 (0, 0)))
  obtain ⟨cb0_4, cb1_4, fb0_4, fb1_4, lb_4⟩ := cells2 Bb_4.out
  clear cb0_3 cb1_3 fb0_3 fb1_3 lb_3
  have Br_4 := Lib.hid (blk_below (by repeat (first | exact Br_3.out | (refine new_at ?_; simp; done) | refine blk_alloc ?_ _)) hb4 : w4.heap[w.heap.size + 1 + 1]? = some (.cells #[.int .i64 0, .int .i64 0] 37 (0, 0)))
  obtain ⟨cr0_4, cr1_4, fr0_4, fr1_4, lr_4⟩ := cells2 Br_4.out
  clear cr0_3 cr1_3 fr0_3 fr1_3 lr_3
  have hz4 := HB4.out.size
  clear hb4
  go_wp2
  refine bodyPost_ret (v := .agg #[.int .i64 (wrap64 (wrap64 (a0_0 * a1_0) - wrap64 (a0_1 * a1_1))), .int .i64 (wrap64 (wrap64 (a0_0 * a1_1) + wrap64 (a0_1 * a1_0)))]) (by simp only [results, Try.results97]; go_simp) rfl ?_
  go_wp2
  refine bodyPost_ret (v := .tuple #[.agg #[.int .i64 (wrap64 (wrap64 (a0_0 * a1_0) - wrap64 (a0_1 * a1_1))), .int .i64 (wrap64 (wrap64 (a0_0 * a1_1) + wrap64 (a0_1 * a1_0)))], .int .i64 0]) (by simp only [results, Try.results93]; go_simp) rfl ?_
  go_wp2
  refine bodyPost_ret (v := .tuple #[.agg #[.int .i64 (wrap64 (wrap64 (a0_0 * a1_0) - wrap64 (a0_1 * a1_1))), .int .i64 (wrap64 (wrap64 (a0_0 * a1_1) + wrap64 (a0_1 * a1_0)))], .int .i64 0]) (by simp only [results, Try.results86]; go_simp) rfl ?_
  refine ⟨rfl, ?_⟩
  repeat (first | exact HB4.out | exact Below.refl _ _ | refine below_alloc ?_ _ | refine Below.setCell ?_ (by first | omega | (simp; done) | (simp; omega)) _)
set_option maxHeartbeats 2000000 in
theorem cx_Times.way2 (a0_0 a0_1 : Int) (a1_0 a1_1 : Int) (w : World) (hN0 : Hid (win 2147483648 a0_0 a0_1 = true)) (hL1 : Hid (win 1073741824 a1_0 a1_1 = false)) (hL0 : Hid (win 1073741824 a0_0 a0_1 = true)) (hN1 : Hid (win 2147483648 a1_0 a1_1 = false)) :
    Calls Try.prog 86 #[.agg #[.int .i64 a0_0, .int .i64 a0_1], .agg #[.int .i64 a1_0, .int .i64 a1_1]] w fun e w' => e = .returned (.tuple #[.agg #[.int .i64 0, .int .i64 0], .int .i64 2]) ∧ Below w.heap.size w w' := by
  go_enter Try.func86, Try.ntmps86
  go_wp2_with (fail)
  refine (within_one 2147483648 a0_0 a0_1 true _ _ hN0 (by omega) (by omega) (new_at (by simp))).mono ?_
  rintro e w1 ⟨rfl, hb1⟩
  have HB1 := Lib.hid (below_then (by repeat (first | exact Below.refl _ _ | refine below_alloc ?_ _ | refine Below.setCell ?_ (by first | omega | (simp; done) | (simp; omega)) _)) (by first | (simp; done) | (simp; omega)) hb1 : Below w.heap.size w w1)
  have Ba_1 := Lib.hid (blk_below (by repeat (first | (refine new_at ?_; simp; done) | refine blk_alloc ?_ _)) hb1 : w1.heap[w.heap.size]? = some (.cells #[.int .i64 a0_0, .int .i64 a0_1] 37 (0, 0)))
  obtain ⟨ca0_1, ca1_1, fa0_1, fa1_1, la_1⟩ := cells2 Ba_1.out
  have Bb_1 := Lib.hid (blk_below (by repeat (first | (refine new_at ?_; simp; done) | refine blk_alloc ?_ _)) hb1 : w1.heap[w.heap.size + 1]? = some (.cells #[.int .i64 a1_0, .int .i64 a1_1] 37 (0, 0)))
  obtain ⟨cb0_1, cb1_1, fb0_1, fb1_1, lb_1⟩ := cells2 Bb_1.out
  have Br_1 := Lib.hid (blk_below (by repeat (first | (refine new_at ?_; simp; done) | refine blk_alloc ?_ _)) hb1 : w1.heap[w.heap.size + 1 + 1]? = some (.cells #[.int .i64 0, .int .i64 0] 37 (0, 0)))
  obtain ⟨cr0_1, cr1_1, fr0_1, fr1_1, lr_1⟩ := cells2 Br_1.out
  have hz1 := HB1.out.size
  clear hb1
  go_wp2_with (fail)
  refine (within_one 1073741824 a1_0 a1_1 false _ _ hL1 (by omega) (by omega) (new_at (by simp))).mono ?_
  rintro e w2 ⟨rfl, hb2⟩
  have HB2 := Lib.hid (below_then (by repeat (first | exact HB1.out | refine below_alloc ?_ _ | refine Below.setCell ?_ (by first | omega | (simp; done) | (simp; omega)) _)) (by first | (simp; done) | (simp; omega)) hb2 : Below w.heap.size w w2)
  have Ba_2 := Lib.hid (blk_below (by repeat (first | exact Ba_1.out | (refine new_at ?_; simp; done) | refine blk_alloc ?_ _)) hb2 : w2.heap[w.heap.size]? = some (.cells #[.int .i64 a0_0, .int .i64 a0_1] 37 (0, 0)))
  obtain ⟨ca0_2, ca1_2, fa0_2, fa1_2, la_2⟩ := cells2 Ba_2.out
  clear ca0_1 ca1_1 fa0_1 fa1_1 la_1
  have Bb_2 := Lib.hid (blk_below (by repeat (first | exact Bb_1.out | (refine new_at ?_; simp; done) | refine blk_alloc ?_ _)) hb2 : w2.heap[w.heap.size + 1]? = some (.cells #[.int .i64 a1_0, .int .i64 a1_1] 37 (0, 0)))
  obtain ⟨cb0_2, cb1_2, fb0_2, fb1_2, lb_2⟩ := cells2 Bb_2.out
  clear cb0_1 cb1_1 fb0_1 fb1_1 lb_1
  have Br_2 := Lib.hid (blk_below (by repeat (first | exact Br_1.out | (refine new_at ?_; simp; done) | refine blk_alloc ?_ _)) hb2 : w2.heap[w.heap.size + 1 + 1]? = some (.cells #[.int .i64 0, .int .i64 0] 37 (0, 0)))
  obtain ⟨cr0_2, cr1_2, fr0_2, fr1_2, lr_2⟩ := cells2 Br_2.out
  clear cr0_1 cr1_1 fr0_1 fr1_1 lr_1
  have hz2 := HB2.out.size
  clear hb2
  go_wp2_with (fail)
  refine (within_one 1073741824 a0_0 a0_1 true _ _ hL0 (by omega) (by omega) (new_at (by simp))).mono ?_
  rintro e w3 ⟨rfl, hb3⟩
  have HB3 := Lib.hid (below_then (by repeat (first | exact HB2.out | refine below_alloc ?_ _ | refine Below.setCell ?_ (by first | omega | (simp; done) | (simp; omega)) _)) (by first | (simp; done) | (simp; omega)) hb3 : Below w.heap.size w w3)
  have Ba_3 := Lib.hid (blk_below (by repeat (first | exact Ba_2.out | (refine new_at ?_; simp; done) | refine blk_alloc ?_ _)) hb3 : w3.heap[w.heap.size]? = some (.cells #[.int .i64 a0_0, .int .i64 a0_1] 37 (0, 0)))
  obtain ⟨ca0_3, ca1_3, fa0_3, fa1_3, la_3⟩ := cells2 Ba_3.out
  clear ca0_2 ca1_2 fa0_2 fa1_2 la_2
  have Bb_3 := Lib.hid (blk_below (by repeat (first | exact Bb_2.out | (refine new_at ?_; simp; done) | refine blk_alloc ?_ _)) hb3 : w3.heap[w.heap.size + 1]? = some (.cells #[.int .i64 a1_0, .int .i64 a1_1] 37 (0, 0)))
  obtain ⟨cb0_3, cb1_3, fb0_3, fb1_3, lb_3⟩ := cells2 Bb_3.out
  clear cb0_2 cb1_2 fb0_2 fb1_2 lb_2
  have Br_3 := Lib.hid (blk_below (by repeat (first | exact Br_2.out | (refine new_at ?_; simp; done) | refine blk_alloc ?_ _)) hb3 : w3.heap[w.heap.size + 1 + 1]? = some (.cells #[.int .i64 0, .int .i64 0] 37 (0, 0)))
  obtain ⟨cr0_3, cr1_3, fr0_3, fr1_3, lr_3⟩ := cells2 Br_3.out
  clear cr0_2 cr1_2 fr0_2 fr1_2 lr_2
  have hz3 := HB3.out.size
  clear hb3
  go_wp2_with (fail)
  refine (within_one 2147483648 a1_0 a1_1 false _ _ hN1 (by omega) (by omega) (new_at (by simp))).mono ?_
  rintro e w4 ⟨rfl, hb4⟩
  have HB4 := Lib.hid (below_then (by repeat (first | exact HB3.out | refine below_alloc ?_ _ | refine Below.setCell ?_ (by first | omega | (simp; done) | (simp; omega)) _)) (by first | (simp; done) | (simp; omega)) hb4 : Below w.heap.size w w4)
  have Ba_4 := Lib.hid (blk_below (by repeat (first | exact Ba_3.out | (refine new_at ?_; simp; done) | refine blk_alloc ?_ _)) hb4 : w4.heap[w.heap.size]? = some (.cells #[.int .i64 a0_0, .int .i64 a0_1] 37 (0, 0)))
  obtain ⟨ca0_4, ca1_4, fa0_4, fa1_4, la_4⟩ := cells2 Ba_4.out
  clear ca0_3 ca1_3 fa0_3 fa1_3 la_3
  have Bb_4 := Lib.hid (blk_below (by repeat (first | exact Bb_3.out | (refine new_at ?_; simp; done) | refine blk_alloc ?_ _)) hb4 : w4.heap[w.heap.size + 1]? = some (.cells #[.int .i64 a1_0, .int .i64 a1_1] 37 (0, 0)))
  obtain ⟨cb0_4, cb1_4, fb0_4, fb1_4, lb_4⟩ := cells2 Bb_4.out
  clear cb0_3 cb1_3 fb0_3 fb1_3 lb_3
  have Br_4 := Lib.hid (blk_below (by repeat (first | exact Br_3.out | (refine new_at ?_; simp; done) | refine blk_alloc ?_ _)) hb4 : w4.heap[w.heap.size + 1 + 1]? = some (.cells #[.int .i64 0, .int .i64 0] 37 (0, 0)))
  obtain ⟨cr0_4, cr1_4, fr0_4, fr1_4, lr_4⟩ := cells2 Br_4.out
  clear cr0_3 cr1_3 fr0_3 fr1_3 lr_3
  have hz4 := HB4.out.size
  clear hb4
  go_wp2
  refine bodyPost_ret (v := .tuple #[.agg #[.int .i64 0, .int .i64 0], .int .i64 2]) (by simp only [results, Try.results93]; go_simp) rfl ?_
  go_wp2
  refine bodyPost_ret (v := .tuple #[.agg #[.int .i64 0, .int .i64 0], .int .i64 2]) (by simp only [results, Try.results86]; go_simp) rfl ?_
  refine ⟨rfl, ?_⟩
  repeat (first | exact HB4.out | exact Below.refl _ _ | refine below_alloc ?_ _ | refine Below.setCell ?_ (by first | omega | (simp; done) | (simp; omega)) _)
set_option maxHeartbeats 2000000 in
theorem cx_Times.way3 (a0_0 a0_1 : Int) (a1_0 a1_1 : Int) (w : World) (hN0 : Hid (win 2147483648 a0_0 a0_1 = true)) (hL1 : Hid (win 1073741824 a1_0 a1_1 = false)) (hL0 : Hid (win 1073741824 a0_0 a0_1 = false)) :
    Calls Try.prog 86 #[.agg #[.int .i64 a0_0, .int .i64 a0_1], .agg #[.int .i64 a1_0, .int .i64 a1_1]] w fun e w' => e = .returned (.tuple #[.agg #[.int .i64 0, .int .i64 0], .int .i64 2]) ∧ Below w.heap.size w w' := by
  go_enter Try.func86, Try.ntmps86
  go_wp2_with (fail)
  refine (within_one 2147483648 a0_0 a0_1 true _ _ hN0 (by omega) (by omega) (new_at (by simp))).mono ?_
  rintro e w1 ⟨rfl, hb1⟩
  have HB1 := Lib.hid (below_then (by repeat (first | exact Below.refl _ _ | refine below_alloc ?_ _ | refine Below.setCell ?_ (by first | omega | (simp; done) | (simp; omega)) _)) (by first | (simp; done) | (simp; omega)) hb1 : Below w.heap.size w w1)
  have Ba_1 := Lib.hid (blk_below (by repeat (first | (refine new_at ?_; simp; done) | refine blk_alloc ?_ _)) hb1 : w1.heap[w.heap.size]? = some (.cells #[.int .i64 a0_0, .int .i64 a0_1] 37 (0, 0)))
  obtain ⟨ca0_1, ca1_1, fa0_1, fa1_1, la_1⟩ := cells2 Ba_1.out
  have Bb_1 := Lib.hid (blk_below (by repeat (first | (refine new_at ?_; simp; done) | refine blk_alloc ?_ _)) hb1 : w1.heap[w.heap.size + 1]? = some (.cells #[.int .i64 a1_0, .int .i64 a1_1] 37 (0, 0)))
  obtain ⟨cb0_1, cb1_1, fb0_1, fb1_1, lb_1⟩ := cells2 Bb_1.out
  have Br_1 := Lib.hid (blk_below (by repeat (first | (refine new_at ?_; simp; done) | refine blk_alloc ?_ _)) hb1 : w1.heap[w.heap.size + 1 + 1]? = some (.cells #[.int .i64 0, .int .i64 0] 37 (0, 0)))
  obtain ⟨cr0_1, cr1_1, fr0_1, fr1_1, lr_1⟩ := cells2 Br_1.out
  have hz1 := HB1.out.size
  clear hb1
  go_wp2_with (fail)
  refine (within_one 1073741824 a1_0 a1_1 false _ _ hL1 (by omega) (by omega) (new_at (by simp))).mono ?_
  rintro e w2 ⟨rfl, hb2⟩
  have HB2 := Lib.hid (below_then (by repeat (first | exact HB1.out | refine below_alloc ?_ _ | refine Below.setCell ?_ (by first | omega | (simp; done) | (simp; omega)) _)) (by first | (simp; done) | (simp; omega)) hb2 : Below w.heap.size w w2)
  have Ba_2 := Lib.hid (blk_below (by repeat (first | exact Ba_1.out | (refine new_at ?_; simp; done) | refine blk_alloc ?_ _)) hb2 : w2.heap[w.heap.size]? = some (.cells #[.int .i64 a0_0, .int .i64 a0_1] 37 (0, 0)))
  obtain ⟨ca0_2, ca1_2, fa0_2, fa1_2, la_2⟩ := cells2 Ba_2.out
  clear ca0_1 ca1_1 fa0_1 fa1_1 la_1
  have Bb_2 := Lib.hid (blk_below (by repeat (first | exact Bb_1.out | (refine new_at ?_; simp; done) | refine blk_alloc ?_ _)) hb2 : w2.heap[w.heap.size + 1]? = some (.cells #[.int .i64 a1_0, .int .i64 a1_1] 37 (0, 0)))
  obtain ⟨cb0_2, cb1_2, fb0_2, fb1_2, lb_2⟩ := cells2 Bb_2.out
  clear cb0_1 cb1_1 fb0_1 fb1_1 lb_1
  have Br_2 := Lib.hid (blk_below (by repeat (first | exact Br_1.out | (refine new_at ?_; simp; done) | refine blk_alloc ?_ _)) hb2 : w2.heap[w.heap.size + 1 + 1]? = some (.cells #[.int .i64 0, .int .i64 0] 37 (0, 0)))
  obtain ⟨cr0_2, cr1_2, fr0_2, fr1_2, lr_2⟩ := cells2 Br_2.out
  clear cr0_1 cr1_1 fr0_1 fr1_1 lr_1
  have hz2 := HB2.out.size
  clear hb2
  go_wp2_with (fail)
  refine (within_one 1073741824 a0_0 a0_1 false _ _ hL0 (by omega) (by omega) (new_at (by simp))).mono ?_
  rintro e w3 ⟨rfl, hb3⟩
  have HB3 := Lib.hid (below_then (by repeat (first | exact HB2.out | refine below_alloc ?_ _ | refine Below.setCell ?_ (by first | omega | (simp; done) | (simp; omega)) _)) (by first | (simp; done) | (simp; omega)) hb3 : Below w.heap.size w w3)
  have Ba_3 := Lib.hid (blk_below (by repeat (first | exact Ba_2.out | (refine new_at ?_; simp; done) | refine blk_alloc ?_ _)) hb3 : w3.heap[w.heap.size]? = some (.cells #[.int .i64 a0_0, .int .i64 a0_1] 37 (0, 0)))
  obtain ⟨ca0_3, ca1_3, fa0_3, fa1_3, la_3⟩ := cells2 Ba_3.out
  clear ca0_2 ca1_2 fa0_2 fa1_2 la_2
  have Bb_3 := Lib.hid (blk_below (by repeat (first | exact Bb_2.out | (refine new_at ?_; simp; done) | refine blk_alloc ?_ _)) hb3 : w3.heap[w.heap.size + 1]? = some (.cells #[.int .i64 a1_0, .int .i64 a1_1] 37 (0, 0)))
  obtain ⟨cb0_3, cb1_3, fb0_3, fb1_3, lb_3⟩ := cells2 Bb_3.out
  clear cb0_2 cb1_2 fb0_2 fb1_2 lb_2
  have Br_3 := Lib.hid (blk_below (by repeat (first | exact Br_2.out | (refine new_at ?_; simp; done) | refine blk_alloc ?_ _)) hb3 : w3.heap[w.heap.size + 1 + 1]? = some (.cells #[.int .i64 0, .int .i64 0] 37 (0, 0)))
  obtain ⟨cr0_3, cr1_3, fr0_3, fr1_3, lr_3⟩ := cells2 Br_3.out
  clear cr0_2 cr1_2 fr0_2 fr1_2 lr_2
  have hz3 := HB3.out.size
  clear hb3
  go_wp2
  refine bodyPost_ret (v := .tuple #[.agg #[.int .i64 0, .int .i64 0], .int .i64 2]) (by simp only [results, Try.results93]; go_simp) rfl ?_
  go_wp2
  refine bodyPost_ret (v := .tuple #[.agg #[.int .i64 0, .int .i64 0], .int .i64 2]) (by simp only [results, Try.results86]; go_simp) rfl ?_
  refine ⟨rfl, ?_⟩
  repeat (first | exact HB3.out | exact Below.refl _ _ | refine below_alloc ?_ _ | refine Below.setCell ?_ (by first | omega | (simp; done) | (simp; omega)) _)
set_option maxHeartbeats 2000000 in
theorem cx_Times.way4 (a0_0 a0_1 : Int) (a1_0 a1_1 : Int) (w : World) (hN0 : Hid (win 2147483648 a0_0 a0_1 = false)) (hL0 : Hid (win 1073741824 a0_0 a0_1 = true)) (hN1 : Hid (win 2147483648 a1_0 a1_1 = true)) :
    Calls Try.prog 86 #[.agg #[.int .i64 a0_0, .int .i64 a0_1], .agg #[.int .i64 a1_0, .int .i64 a1_1]] w fun e w' => e = .returned (.tuple #[.agg #[.int .i64 (wrap64 (wrap64 (a0_0 * a1_0) - wrap64 (a0_1 * a1_1))), .int .i64 (wrap64 (wrap64 (a0_0 * a1_1) + wrap64 (a0_1 * a1_0)))], .int .i64 0]) ∧ Below w.heap.size w w' := by
  go_enter Try.func86, Try.ntmps86
  go_wp2_with (fail)
  refine (within_one 2147483648 a0_0 a0_1 false _ _ hN0 (by omega) (by omega) (new_at (by simp))).mono ?_
  rintro e w1 ⟨rfl, hb1⟩
  have HB1 := Lib.hid (below_then (by repeat (first | exact Below.refl _ _ | refine below_alloc ?_ _ | refine Below.setCell ?_ (by first | omega | (simp; done) | (simp; omega)) _)) (by first | (simp; done) | (simp; omega)) hb1 : Below w.heap.size w w1)
  have Ba_1 := Lib.hid (blk_below (by repeat (first | (refine new_at ?_; simp; done) | refine blk_alloc ?_ _)) hb1 : w1.heap[w.heap.size]? = some (.cells #[.int .i64 a0_0, .int .i64 a0_1] 37 (0, 0)))
  obtain ⟨ca0_1, ca1_1, fa0_1, fa1_1, la_1⟩ := cells2 Ba_1.out
  have Bb_1 := Lib.hid (blk_below (by repeat (first | (refine new_at ?_; simp; done) | refine blk_alloc ?_ _)) hb1 : w1.heap[w.heap.size + 1]? = some (.cells #[.int .i64 a1_0, .int .i64 a1_1] 37 (0, 0)))
  obtain ⟨cb0_1, cb1_1, fb0_1, fb1_1, lb_1⟩ := cells2 Bb_1.out
  have Br_1 := Lib.hid (blk_below (by repeat (first | (refine new_at ?_; simp; done) | refine blk_alloc ?_ _)) hb1 : w1.heap[w.heap.size + 1 + 1]? = some (.cells #[.int .i64 0, .int .i64 0] 37 (0, 0)))
  obtain ⟨cr0_1, cr1_1, fr0_1, fr1_1, lr_1⟩ := cells2 Br_1.out
  have hz1 := HB1.out.size
  clear hb1
  go_wp2_with (fail)
  refine (within_one 1073741824 a0_0 a0_1 true _ _ hL0 (by omega) (by omega) (new_at (by simp))).mono ?_
  rintro e w2 ⟨rfl, hb2⟩
  have HB2 := Lib.hid (below_then (by repeat (first | exact HB1.out | refine below_alloc ?_ _ | refine Below.setCell ?_ (by first | omega | (simp; done) | (simp; omega)) _)) (by first | (simp; done) | (simp; omega)) hb2 : Below w.heap.size w w2)
  have Ba_2 := Lib.hid (blk_below (by repeat (first | exact Ba_1.out | (refine new_at ?_; simp; done) | refine blk_alloc ?_ _)) hb2 : w2.heap[w.heap.size]? = some (.cells #[.int .i64 a0_0, .int .i64 a0_1] 37 (0, 0)))
  obtain ⟨ca0_2, ca1_2, fa0_2, fa1_2, la_2⟩ := cells2 Ba_2.out
  clear ca0_1 ca1_1 fa0_1 fa1_1 la_1
  have Bb_2 := Lib.hid (blk_below (by repeat (first | exact Bb_1.out | (refine new_at ?_; simp; done) | refine blk_alloc ?_ _)) hb2 : w2.heap[w.heap.size + 1]? = some (.cells #[.int .i64 a1_0, .int .i64 a1_1] 37 (0, 0)))
  obtain ⟨cb0_2, cb1_2, fb0_2, fb1_2, lb_2⟩ := cells2 Bb_2.out
  clear cb0_1 cb1_1 fb0_1 fb1_1 lb_1
  have Br_2 := Lib.hid (blk_below (by repeat (first | exact Br_1.out | (refine new_at ?_; simp; done) | refine blk_alloc ?_ _)) hb2 : w2.heap[w.heap.size + 1 + 1]? = some (.cells #[.int .i64 0, .int .i64 0] 37 (0, 0)))
  obtain ⟨cr0_2, cr1_2, fr0_2, fr1_2, lr_2⟩ := cells2 Br_2.out
  clear cr0_1 cr1_1 fr0_1 fr1_1 lr_1
  have hz2 := HB2.out.size
  clear hb2
  go_wp2_with (fail)
  refine (within_one 2147483648 a1_0 a1_1 true _ _ hN1 (by omega) (by omega) (new_at (by simp))).mono ?_
  rintro e w3 ⟨rfl, hb3⟩
  have HB3 := Lib.hid (below_then (by repeat (first | exact HB2.out | refine below_alloc ?_ _ | refine Below.setCell ?_ (by first | omega | (simp; done) | (simp; omega)) _)) (by first | (simp; done) | (simp; omega)) hb3 : Below w.heap.size w w3)
  have Ba_3 := Lib.hid (blk_below (by repeat (first | exact Ba_2.out | (refine new_at ?_; simp; done) | refine blk_alloc ?_ _)) hb3 : w3.heap[w.heap.size]? = some (.cells #[.int .i64 a0_0, .int .i64 a0_1] 37 (0, 0)))
  obtain ⟨ca0_3, ca1_3, fa0_3, fa1_3, la_3⟩ := cells2 Ba_3.out
  clear ca0_2 ca1_2 fa0_2 fa1_2 la_2
  have Bb_3 := Lib.hid (blk_below (by repeat (first | exact Bb_2.out | (refine new_at ?_; simp; done) | refine blk_alloc ?_ _)) hb3 : w3.heap[w.heap.size + 1]? = some (.cells #[.int .i64 a1_0, .int .i64 a1_1] 37 (0, 0)))
  obtain ⟨cb0_3, cb1_3, fb0_3, fb1_3, lb_3⟩ := cells2 Bb_3.out
  clear cb0_2 cb1_2 fb0_2 fb1_2 lb_2
  have Br_3 := Lib.hid (blk_below (by repeat (first | exact Br_2.out | (refine new_at ?_; simp; done) | refine blk_alloc ?_ _)) hb3 : w3.heap[w.heap.size + 1 + 1]? = some (.cells #[.int .i64 0, .int .i64 0] 37 (0, 0)))
  obtain ⟨cr0_3, cr1_3, fr0_3, fr1_3, lr_3⟩ := cells2 Br_3.out
  clear cr0_2 cr1_2 fr0_2 fr1_2 lr_2
  have hz3 := HB3.out.size
  clear hb3
  go_wp2
  refine bodyPost_ret (v := .agg #[.int .i64 (wrap64 (wrap64 (a0_0 * a1_0) - wrap64 (a0_1 * a1_1))), .int .i64 (wrap64 (wrap64 (a0_0 * a1_1) + wrap64 (a0_1 * a1_0)))]) (by simp only [results, Try.results97]; go_simp) rfl ?_
  go_wp2
  refine bodyPost_ret (v := .tuple #[.agg #[.int .i64 (wrap64 (wrap64 (a0_0 * a1_0) - wrap64 (a0_1 * a1_1))), .int .i64 (wrap64 (wrap64 (a0_0 * a1_1) + wrap64 (a0_1 * a1_0)))], .int .i64 0]) (by simp only [results, Try.results93]; go_simp) rfl ?_
  go_wp2
  refine bodyPost_ret (v := .tuple #[.agg #[.int .i64 (wrap64 (wrap64 (a0_0 * a1_0) - wrap64 (a0_1 * a1_1))), .int .i64 (wrap64 (wrap64 (a0_0 * a1_1) + wrap64 (a0_1 * a1_0)))], .int .i64 0]) (by simp only [results, Try.results86]; go_simp) rfl ?_
  refine ⟨rfl, ?_⟩
  repeat (first | exact HB3.out | exact Below.refl _ _ | refine below_alloc ?_ _ | refine Below.setCell ?_ (by first | omega | (simp; done) | (simp; omega)) _)
set_option maxHeartbeats 2000000 in
theorem cx_Times.way5 (a0_0 a0_1 : Int) (a1_0 a1_1 : Int) (w : World) (hN0 : Hid (win 2147483648 a0_0 a0_1 = false)) (hL0 : Hid (win 1073741824 a0_0 a0_1 = true)) (hN1 : Hid (win 2147483648 a1_0 a1_1 = false)) :
    Calls Try.prog 86 #[.agg #[.int .i64 a0_0, .int .i64 a0_1], .agg #[.int .i64 a1_0, .int .i64 a1_1]] w fun e w' => e = .returned (.tuple #[.agg #[.int .i64 0, .int .i64 0], .int .i64 2]) ∧ Below w.heap.size w w' := by
  go_enter Try.func86, Try.ntmps86
  go_wp2_with (fail)
  refine (within_one 2147483648 a0_0 a0_1 false _ _ hN0 (by omega) (by omega) (new_at (by simp))).mono ?_
  rintro e w1 ⟨rfl, hb1⟩
  have HB1 := Lib.hid (below_then (by repeat (first | exact Below.refl _ _ | refine below_alloc ?_ _ | refine Below.setCell ?_ (by first | omega | (simp; done) | (simp; omega)) _)) (by first | (simp; done) | (simp; omega)) hb1 : Below w.heap.size w w1)
  have Ba_1 := Lib.hid (blk_below (by repeat (first | (refine new_at ?_; simp; done) | refine blk_alloc ?_ _)) hb1 : w1.heap[w.heap.size]? = some (.cells #[.int .i64 a0_0, .int .i64 a0_1] 37 (0, 0)))
  obtain ⟨ca0_1, ca1_1, fa0_1, fa1_1, la_1⟩ := cells2 Ba_1.out
  have Bb_1 := Lib.hid (blk_below (by repeat (first | (refine new_at ?_; simp; done) | refine blk_alloc ?_ _)) hb1 : w1.heap[w.heap.size + 1]? = some (.cells #[.int .i64 a1_0, .int .i64 a1_1] 37 (0, 0)))
  obtain ⟨cb0_1, cb1_1, fb0_1, fb1_1, lb_1⟩ := cells2 Bb_1.out
  have Br_1 := Lib.hid (blk_below (by repeat (first | (refine new_at ?_; simp; done) | refine blk_alloc ?_ _)) hb1 : w1.heap[w.heap.size + 1 + 1]? = some (.cells #[.int .i64 0, .int .i64 0] 37 (0, 0)))
  obtain ⟨cr0_1, cr1_1, fr0_1, fr1_1, lr_1⟩ := cells2 Br_1.out
  have hz1 := HB1.out.size
  clear hb1
  go_wp2_with (fail)
  refine (within_one 1073741824 a0_0 a0_1 true _ _ hL0 (by omega) (by omega) (new_at (by simp))).mono ?_
  rintro e w2 ⟨rfl, hb2⟩
  have HB2 := Lib.hid (below_then (by repeat (first | exact HB1.out | refine below_alloc ?_ _ | refine Below.setCell ?_ (by first | omega | (simp; done) | (simp; omega)) _)) (by first | (simp; done) | (simp; omega)) hb2 : Below w.heap.size w w2)
  have Ba_2 := Lib.hid (blk_below (by repeat (first | exact Ba_1.out | (refine new_at ?_; simp; done) | refine blk_alloc ?_ _)) hb2 : w2.heap[w.heap.size]? = some (.cells #[.int .i64 a0_0, .int .i64 a0_1] 37 (0, 0)))
  obtain ⟨ca0_2, ca1_2, fa0_2, fa1_2, la_2⟩ := cells2 Ba_2.out
  clear ca0_1 ca1_1 fa0_1 fa1_1 la_1
  have Bb_2 := Lib.hid (blk_below (by repeat (first | exact Bb_1.out | (refine new_at ?_; simp; done) | refine blk_alloc ?_ _)) hb2 : w2.heap[w.heap.size + 1]? = some (.cells #[.int .i64 a1_0, .int .i64 a1_1] 37 (0, 0)))
  obtain ⟨cb0_2, cb1_2, fb0_2, fb1_2, lb_2⟩ := cells2 Bb_2.out
  clear cb0_1 cb1_1 fb0_1 fb1_1 lb_1
  have Br_2 := Lib.hid (blk_below (by repeat (first | exact Br_1.out | (refine new_at ?_; simp; done) | refine blk_alloc ?_ _)) hb2 : w2.heap[w.heap.size + 1 + 1]? = some (.cells #[.int .i64 0, .int .i64 0] 37 (0, 0)))
  obtain ⟨cr0_2, cr1_2, fr0_2, fr1_2, lr_2⟩ := cells2 Br_2.out
  clear cr0_1 cr1_1 fr0_1 fr1_1 lr_1
  have hz2 := HB2.out.size
  clear hb2
  go_wp2_with (fail)
  refine (within_one 2147483648 a1_0 a1_1 false _ _ hN1 (by omega) (by omega) (new_at (by simp))).mono ?_
  rintro e w3 ⟨rfl, hb3⟩
  have HB3 := Lib.hid (below_then (by repeat (first | exact HB2.out | refine below_alloc ?_ _ | refine Below.setCell ?_ (by first | omega | (simp; done) | (simp; omega)) _)) (by first | (simp; done) | (simp; omega)) hb3 : Below w.heap.size w w3)
  have Ba_3 := Lib.hid (blk_below (by repeat (first | exact Ba_2.out | (refine new_at ?_; simp; done) | refine blk_alloc ?_ _)) hb3 : w3.heap[w.heap.size]? = some (.cells #[.int .i64 a0_0, .int .i64 a0_1] 37 (0, 0)))
  obtain ⟨ca0_3, ca1_3, fa0_3, fa1_3, la_3⟩ := cells2 Ba_3.out
  clear ca0_2 ca1_2 fa0_2 fa1_2 la_2
  have Bb_3 := Lib.hid (blk_below (by repeat (first | exact Bb_2.out | (refine new_at ?_; simp; done) | refine blk_alloc ?_ _)) hb3 : w3.heap[w.heap.size + 1]? = some (.cells #[.int .i64 a1_0, .int .i64 a1_1] 37 (0, 0)))
  obtain ⟨cb0_3, cb1_3, fb0_3, fb1_3, lb_3⟩ := cells2 Bb_3.out
  clear cb0_2 cb1_2 fb0_2 fb1_2 lb_2
  have Br_3 := Lib.hid (blk_below (by repeat (first | exact Br_2.out | (refine new_at ?_; simp; done) | refine blk_alloc ?_ _)) hb3 : w3.heap[w.heap.size + 1 + 1]? = some (.cells #[.int .i64 0, .int .i64 0] 37 (0, 0)))
  obtain ⟨cr0_3, cr1_3, fr0_3, fr1_3, lr_3⟩ := cells2 Br_3.out
  clear cr0_2 cr1_2 fr0_2 fr1_2 lr_2
  have hz3 := HB3.out.size
  clear hb3
  go_wp2
  refine bodyPost_ret (v := .tuple #[.agg #[.int .i64 0, .int .i64 0], .int .i64 2]) (by simp only [results, Try.results93]; go_simp) rfl ?_
  go_wp2
  refine bodyPost_ret (v := .tuple #[.agg #[.int .i64 0, .int .i64 0], .int .i64 2]) (by simp only [results, Try.results86]; go_simp) rfl ?_
  refine ⟨rfl, ?_⟩
  repeat (first | exact HB3.out | exact Below.refl _ _ | refine below_alloc ?_ _ | refine Below.setCell ?_ (by first | omega | (simp; done) | (simp; omega)) _)
set_option maxHeartbeats 2000000 in
theorem cx_Times.way6 (a0_0 a0_1 : Int) (a1_0 a1_1 : Int) (w : World) (hN0 : Hid (win 2147483648 a0_0 a0_1 = false)) (hL0 : Hid (win 1073741824 a0_0 a0_1 = false)) :
    Calls Try.prog 86 #[.agg #[.int .i64 a0_0, .int .i64 a0_1], .agg #[.int .i64 a1_0, .int .i64 a1_1]] w fun e w' => e = .returned (.tuple #[.agg #[.int .i64 0, .int .i64 0], .int .i64 2]) ∧ Below w.heap.size w w' := by
  go_enter Try.func86, Try.ntmps86
  go_wp2_with (fail)
  refine (within_one 2147483648 a0_0 a0_1 false _ _ hN0 (by omega) (by omega) (new_at (by simp))).mono ?_
  rintro e w1 ⟨rfl, hb1⟩
  have HB1 := Lib.hid (below_then (by repeat (first | exact Below.refl _ _ | refine below_alloc ?_ _ | refine Below.setCell ?_ (by first | omega | (simp; done) | (simp; omega)) _)) (by first | (simp; done) | (simp; omega)) hb1 : Below w.heap.size w w1)
  have Ba_1 := Lib.hid (blk_below (by repeat (first | (refine new_at ?_; simp; done) | refine blk_alloc ?_ _)) hb1 : w1.heap[w.heap.size]? = some (.cells #[.int .i64 a0_0, .int .i64 a0_1] 37 (0, 0)))
  obtain ⟨ca0_1, ca1_1, fa0_1, fa1_1, la_1⟩ := cells2 Ba_1.out
  have Bb_1 := Lib.hid (blk_below (by repeat (first | (refine new_at ?_; simp; done) | refine blk_alloc ?_ _)) hb1 : w1.heap[w.heap.size + 1]? = some (.cells #[.int .i64 a1_0, .int .i64 a1_1] 37 (0, 0)))
  obtain ⟨cb0_1, cb1_1, fb0_1, fb1_1, lb_1⟩ := cells2 Bb_1.out
  have Br_1 := Lib.hid (blk_below (by repeat (first | (refine new_at ?_; simp; done) | refine blk_alloc ?_ _)) hb1 : w1.heap[w.heap.size + 1 + 1]? = some (.cells #[.int .i64 0, .int .i64 0] 37 (0, 0)))
  obtain ⟨cr0_1, cr1_1, fr0_1, fr1_1, lr_1⟩ := cells2 Br_1.out
  have hz1 := HB1.out.size
  clear hb1
  go_wp2_with (fail)
  refine (within_one 1073741824 a0_0 a0_1 false _ _ hL0 (by omega) (by omega) (new_at (by simp))).mono ?_
  rintro e w2 ⟨rfl, hb2⟩
  have HB2 := Lib.hid (below_then (by repeat (first | exact HB1.out | refine below_alloc ?_ _ | refine Below.setCell ?_ (by first | omega | (simp; done) | (simp; omega)) _)) (by first | (simp; done) | (simp; omega)) hb2 : Below w.heap.size w w2)
  have Ba_2 := Lib.hid (blk_below (by repeat (first | exact Ba_1.out | (refine new_at ?_; simp; done) | refine blk_alloc ?_ _)) hb2 : w2.heap[w.heap.size]? = some (.cells #[.int .i64 a0_0, .int .i64 a0_1] 37 (0, 0)))
  obtain ⟨ca0_2, ca1_2, fa0_2, fa1_2, la_2⟩ := cells2 Ba_2.out
  clear ca0_1 ca1_1 fa0_1 fa1_1 la_1
  have Bb_2 := Lib.hid (blk_below (by repeat (first | exact Bb_1.out | (refine new_at ?_; simp; done) | refine blk_alloc ?_ _)) hb2 : w2.heap[w.heap.size + 1]? = some (.cells #[.int .i64 a1_0, .int .i64 a1_1] 37 (0, 0)))
  obtain ⟨cb0_2, cb1_2, fb0_2, fb1_2, lb_2⟩ := cells2 Bb_2.out
  clear cb0_1 cb1_1 fb0_1 fb1_1 lb_1
  have Br_2 := Lib.hid (blk_below (by repeat (first | exact Br_1.out | (refine new_at ?_; simp; done) | refine blk_alloc ?_ _)) hb2 : w2.heap[w.heap.size + 1 + 1]? = some (.cells #[.int .i64 0, .int .i64 0] 37 (0, 0)))
  obtain ⟨cr0_2, cr1_2, fr0_2, fr1_2, lr_2⟩ := cells2 Br_2.out
  clear cr0_1 cr1_1 fr0_1 fr1_1 lr_1
  have hz2 := HB2.out.size
  clear hb2
  go_wp2
  refine bodyPost_ret (v := .tuple #[.agg #[.int .i64 0, .int .i64 0], .int .i64 2]) (by simp only [results, Try.results93]; go_simp) rfl ?_
  go_wp2
  refine bodyPost_ret (v := .tuple #[.agg #[.int .i64 0, .int .i64 0], .int .i64 2]) (by simp only [results, Try.results86]; go_simp) rfl ?_
  refine ⟨rfl, ?_⟩
  repeat (first | exact HB2.out | exact Below.refl _ _ | refine below_alloc ?_ _ | refine Below.setCell ?_ (by first | omega | (simp; done) | (simp; omega)) _)
theorem cx_Times.calls (a0_0 a0_1 : Int) (a1_0 a1_1 : Int) (r1 r2 r3 : Int) (w : World) (h : cx_Times.f a0_0 a0_1 a1_0 a1_1 = some (r1, r2, r3)) :
    Calls Try.prog 86 #[.agg #[.int .i64 a0_0, .int .i64 a0_1], .agg #[.int .i64 a1_0, .int .i64 a1_1]] w fun e w' => e = .returned (.tuple #[.agg #[.int .i64 r1, .int .i64 r2], .int .i64 r3]) ∧ Below w.heap.size w w' := by
  unfold cx_Times.f at h
  cases hN0 : win 2147483648 a0_0 a0_1 <;> cases hL1 : win 1073741824 a1_0 a1_1 <;> cases hL0 : win 1073741824 a0_0 a0_1 <;> cases hN1 : win 2147483648 a1_0 a1_1 <;> simp only [hN0, hL1, hL0, hN1, Bool.and_true, Bool.and_false, Bool.or_true, Bool.or_false, if_true, if_false, Bool.false_eq_true, Option.some.injEq, Prod.mk.injEq] at h <;> obtain ⟨rfl, rfl, rfl⟩ := h
  all_goals first
    | exact cx_Times.way6 a0_0 a0_1 a1_0 a1_1 w (Lib.hid hN0) (Lib.hid hL0)
    | exact cx_Times.way3 a0_0 a0_1 a1_0 a1_1 w (Lib.hid hN0) (Lib.hid hL1) (Lib.hid hL0)
    | exact cx_Times.way5 a0_0 a0_1 a1_0 a1_1 w (Lib.hid hN0) (Lib.hid hL0) (Lib.hid hN1)
    | exact cx_Times.way2 a0_0 a0_1 a1_0 a1_1 w (Lib.hid hN0) (Lib.hid hL1) (Lib.hid hL0) (Lib.hid hN1)
    | (have e := times_bd (x := a0_0) (y := a0_1) (u := a1_0) (v := a1_1) (by simp [hN0, hL1, hL0, hN1])
       first
         | (have := cx_Times.way0 a0_0 a0_1 a1_0 a1_1 w (Lib.hid hN0) (Lib.hid hL1); rwa [e.1, e.2] at this)
         | (have := cx_Times.way4 a0_0 a0_1 a1_0 a1_1 w (Lib.hid hN0) (Lib.hid hL0) (Lib.hid hN1); rwa [e.1, e.2] at this)
         | (have := cx_Times.way1 a0_0 a0_1 a1_0 a1_1 w (Lib.hid hN0) (Lib.hid hL1) (Lib.hid hL0) (Lib.hid hN1); rwa [e.1, e.2] at this))

end Go.Proofs.Ytfemklaeonkidaa.P

-- Laid by this session's program hyb.py, out of the kit's print and this session's own contracts.
import Derived.Test.YtobkjhiicafkbaaPx0
import Derived.Test.YtobkjhiicafkbaaPx19
namespace Go.Proofs.Ytobkjhiicafkbaa.P
open Go.RowKit Go.Proofs.YtobkjhiicafkbaaW.PrintWords Go.Proofs.YtobkjhiicafkbaaW.PrintLast Go.Proofs.YtobkjhiicafkbaaW.PrintMore Go.Proofs.YtobkjhiicafkbaaW.Hand
attribute [local go_sem] max2_int min2_int max_two min_two max_three min_three max_four min_four   -- for this text's walks alone
set_option linter.unusedVariables false
set_option linter.unusedSimpArgs false

/-! ### cx_Sum: function 28 -/

theorem cx_within.l0_eq (m : Int) (l : List S31) (h0 : 0 ≤ m) (h1 : m ≤ 4611686018427387904) (hl : l.length ≤ 1000000) (d : Nat) : ∀ (k : Nat) (i : Int), 0 ≤ i → (l.length : Int) - i = d → d < k →
    cx_within.l0 k m l (l.length : Int) i = some ((l.drop i.toNat).all fun a => win m a.f0 a.f1) := by
  induction d with
  | zero =>
    intro k i hi hd hk
    obtain ⟨k, rfl⟩ : ∃ n, k = n + 1 := ⟨k - 1, by omega⟩
    simp only [cx_within.l0]
    rw [if_neg (by omega), List.drop_of_length_le (by omega)]
    rfl
  | succ d ih =>
    intro k i hi hd hk
    obtain ⟨k, rfl⟩ : ∃ n, k = n + 1 := ⟨k - 1, by omega⟩
    have hlt : i.toNat < l.length := by omega
    have hrd : rd_T31 l i = l[i.toNat] := by simp [rd_T31, List.getD_eq_getElem?_getD, List.getElem?_eq_getElem hlt]
    simp only [cx_within.l0]
    rw [if_pos (by omega), if_pos hi, if_pos (by omega), hrd, List.drop_eq_getElem_cons hlt, List.all_cons]
    have hw : wrap64 (-m) = -m := by unfold wrap64; omega
    have hw2 : wrap64 (i + 1) = i + 1 := by unfold wrap64; omega
    rw [hw, hw2]
    by_cases hc : win m l[i.toNat].f0 l[i.toNat].f1 = true
    · have := win_true hc
      rw [hc, Bool.true_and]
      rw [if_neg (by unfold mx; omega), if_neg (by unfold mn; omega), ih k (i + 1) (by omega) (by omega) (by omega)]
      rw [show (i + 1).toNat = i.toNat + 1 by omega]
    · have hc : win m l[i.toNat].f0 l[i.toNat].f1 = false := by simpa using hc
      have := win_false hc
      rw [hc, Bool.false_and]
      by_cases h : mx l[i.toNat].f0 l[i.toNat].f1 > m
      · rw [if_pos h]
      · rw [if_neg h, if_pos (by unfold mx at h; unfold mn; omega)]
theorem within_row (m : Int) (l : List S31) (w : World) (b n : Nat) (cs : Array Value) (h0 : 0 ≤ m) (h1 : m ≤ 4611686018427387904) (hl : l.length ≤ 1000000) (hn : l.length = n) (hc : w.heap[b]? = some (.cells cs 31 (0, 0))) (hr : Reps (k31.K w) 2 l cs.toList) :
    Calls Try.prog 56 #[.int .i64 m, .slice (some ⟨b, 0, none⟩) n n] w fun e w' => e = .returned (.bool (l.all fun a => win m a.f0 a.f1)) ∧ Below w.heap.size w w' := by
  subst hn
  exact cx_within.calls (l.length + 1) m (some ⟨b, 0, none⟩) l.length l _ w (C_block hc hr (by omega)) (Nat.le_refl _) (by unfold cx_within.f; exact cx_within.l0_eq m l h0 h1 hl l.length _ 0 (by omega) (by omega) (by omega))
theorem within_one (m x y : Int) (r : Bool) (w : World) (b : Nat) (hr : Hid (win m x y = r)) (h0 : 0 ≤ m) (h1 : m ≤ 4611686018427387904) (hc : w.heap[b]? = some (.cells #[.int .i64 x, .int .i64 y] 31 (0, 0))) :
    Calls Try.prog 56 #[.int .i64 m, .slice (some ⟨b, 0, none⟩) 1 1] w fun e w' => e = .returned (.bool r) ∧ Below w.heap.size w w' := by
  have := within_row m [⟨x, y⟩] w b 1 _ h0 h1 (by simp) rfl hc (Reps.c2 (k31_mk w ⟨x, y⟩) (Reps.none _ _))
  rw [← hr.out]
  simpa using this
theorem within_two (m x y x' y' : Int) (r : Bool) (w : World) (b : Nat) (hr : Hid ((win m x y && win m x' y') = r)) (h0 : 0 ≤ m) (h1 : m ≤ 4611686018427387904) (hc : w.heap[b]? = some (.cells #[.int .i64 x, .int .i64 y, .int .i64 x', .int .i64 y'] 31 (0, 0))) :
    Calls Try.prog 56 #[.int .i64 m, .slice (some ⟨b, 0, none⟩) 2 2] w fun e w' => e = .returned (.bool r) ∧ Below w.heap.size w w' := by
  have := within_row m [⟨x, y⟩, ⟨x', y'⟩] w b 2 _ h0 h1 (by simp) rfl hc (Reps.c2 (k31_mk w ⟨x, y⟩) (Reps.c2 (k31_mk w ⟨x', y'⟩) (Reps.none _ _)))
  rw [← hr.out]
  simpa using this

def cx_Sum.f (a0_0 a0_1 : Int) (a1_0 a1_1 : Int) : Option (Int × Int × Int) := if (win 2305843009213693952 a0_0 a0_1 && win 2305843009213693952 a1_0 a1_1) = true then some (a0_0 + a1_0, a0_1 + a1_1, 0) else some (0, 0, 2)
set_option maxHeartbeats 2000000 in
theorem cx_Sum.way0 (a0_0 a0_1 : Int) (a1_0 a1_1 : Int) (w : World) (h1 : Hid ((win 2305843009213693952 a0_0 a0_1 && win 2305843009213693952 a1_0 a1_1) = true)) :
    Calls Try.prog 28 #[.agg #[.int .i64 a0_0, .int .i64 a0_1], .agg #[.int .i64 a1_0, .int .i64 a1_1]] w fun e w' => e = .returned (.tuple #[.agg #[.int .i64 (wrap64 (a0_0 + a1_0)), .int .i64 (wrap64 (a0_1 + a1_1))], .int .i64 0]) ∧ Below w.heap.size w w' := by
  go_enter Try.func28, Try.ntmps28
  go_wp2_with (fail)
  refine (within_two 2305843009213693952 a0_0 a0_1 a1_0 a1_1 true _ _ h1 (by omega) (by omega) (new_at (by simp))).mono ?_
  rintro e w1 ⟨rfl, hb1⟩
  have HB1 := Lib.hid (below_then (by repeat (first | exact Below.refl _ _ | refine below_alloc ?_ _ | refine Below.setCell ?_ (by first | omega | (simp; done) | (simp; omega)) _)) (by first | (simp; done) | (simp; omega)) hb1 : Below w.heap.size w w1)
  have Ba_1 := Lib.hid (blk_below (by repeat (first | (refine new_at ?_; simp; done) | refine blk_alloc ?_ _)) hb1 : w1.heap[w.heap.size]? = some (.cells #[.int .i64 a0_0, .int .i64 a0_1] 31 (0, 0)))
  obtain ⟨ca0_1, ca1_1, fa0_1, fa1_1, la_1⟩ := cells2 Ba_1.out
  have Bb_1 := Lib.hid (blk_below (by repeat (first | (refine new_at ?_; simp; done) | refine blk_alloc ?_ _)) hb1 : w1.heap[w.heap.size + 1]? = some (.cells #[.int .i64 a1_0, .int .i64 a1_1] 31 (0, 0)))
  obtain ⟨cb0_1, cb1_1, fb0_1, fb1_1, lb_1⟩ := cells2 Bb_1.out
  have Br_1 := Lib.hid (blk_below (by repeat (first | (refine new_at ?_; simp; done) | refine blk_alloc ?_ _)) hb1 : w1.heap[w.heap.size + 1 + 1]? = some (.cells #[.int .i64 0, .int .i64 0] 31 (0, 0)))
  obtain ⟨cr0_1, cr1_1, fr0_1, fr1_1, lr_1⟩ := cells2 Br_1.out
  have hz1 := HB1.out.size
  clear hb1
  go_wp2
  refine bodyPost_ret (v := .agg #[.int .i64 (wrap64 (a0_0 + a1_0)), .int .i64 (wrap64 (a0_1 + a1_1))]) (by simp only [results, Try.results61]; go_simp) rfl ?_
  go_wp2
  refine bodyPost_ret (v := .tuple #[.agg #[.int .i64 (wrap64 (a0_0 + a1_0)), .int .i64 (wrap64 (a0_1 + a1_1))], .int .i64 0]) (by simp only [results, Try.results57]; go_simp) rfl ?_
  go_wp2
  refine bodyPost_ret (v := .tuple #[.agg #[.int .i64 (wrap64 (a0_0 + a1_0)), .int .i64 (wrap64 (a0_1 + a1_1))], .int .i64 0]) (by simp only [results, Try.results28]; go_simp) rfl ?_
  refine ⟨rfl, ?_⟩
  repeat (first | exact HB1.out | exact Below.refl _ _ | refine below_alloc ?_ _ | refine Below.setCell ?_ (by first | omega | (simp; done) | (simp; omega)) _)
set_option maxHeartbeats 2000000 in
theorem cx_Sum.way1 (a0_0 a0_1 : Int) (a1_0 a1_1 : Int) (w : World) (h1 : Hid ((win 2305843009213693952 a0_0 a0_1 && win 2305843009213693952 a1_0 a1_1) = false)) :
    Calls Try.prog 28 #[.agg #[.int .i64 a0_0, .int .i64 a0_1], .agg #[.int .i64 a1_0, .int .i64 a1_1]] w fun e w' => e = .returned (.tuple #[.agg #[.int .i64 0, .int .i64 0], .int .i64 2]) ∧ Below w.heap.size w w' := by
  go_enter Try.func28, Try.ntmps28
  go_wp2_with (fail)
  refine (within_two 2305843009213693952 a0_0 a0_1 a1_0 a1_1 false _ _ h1 (by omega) (by omega) (new_at (by simp))).mono ?_
  rintro e w1 ⟨rfl, hb1⟩
  have HB1 := Lib.hid (below_then (by repeat (first | exact Below.refl _ _ | refine below_alloc ?_ _ | refine Below.setCell ?_ (by first | omega | (simp; done) | (simp; omega)) _)) (by first | (simp; done) | (simp; omega)) hb1 : Below w.heap.size w w1)
  have Ba_1 := Lib.hid (blk_below (by repeat (first | (refine new_at ?_; simp; done) | refine blk_alloc ?_ _)) hb1 : w1.heap[w.heap.size]? = some (.cells #[.int .i64 a0_0, .int .i64 a0_1] 31 (0, 0)))
  obtain ⟨ca0_1, ca1_1, fa0_1, fa1_1, la_1⟩ := cells2 Ba_1.out
  have Bb_1 := Lib.hid (blk_below (by repeat (first | (refine new_at ?_; simp; done) | refine blk_alloc ?_ _)) hb1 : w1.heap[w.heap.size + 1]? = some (.cells #[.int .i64 a1_0, .int .i64 a1_1] 31 (0, 0)))
  obtain ⟨cb0_1, cb1_1, fb0_1, fb1_1, lb_1⟩ := cells2 Bb_1.out
  have Br_1 := Lib.hid (blk_below (by repeat (first | (refine new_at ?_; simp; done) | refine blk_alloc ?_ _)) hb1 : w1.heap[w.heap.size + 1 + 1]? = some (.cells #[.int .i64 0, .int .i64 0] 31 (0, 0)))
  obtain ⟨cr0_1, cr1_1, fr0_1, fr1_1, lr_1⟩ := cells2 Br_1.out
  have hz1 := HB1.out.size
  clear hb1
  go_wp2
  refine bodyPost_ret (v := .tuple #[.agg #[.int .i64 0, .int .i64 0], .int .i64 2]) (by simp only [results, Try.results57]; go_simp) rfl ?_
  go_wp2
  refine bodyPost_ret (v := .tuple #[.agg #[.int .i64 0, .int .i64 0], .int .i64 2]) (by simp only [results, Try.results28]; go_simp) rfl ?_
  refine ⟨rfl, ?_⟩
  repeat (first | exact HB1.out | exact Below.refl _ _ | refine below_alloc ?_ _ | refine Below.setCell ?_ (by first | omega | (simp; done) | (simp; omega)) _)
theorem cx_Sum.calls (a0_0 a0_1 : Int) (a1_0 a1_1 : Int) (r1 r2 r3 : Int) (w : World) (h : cx_Sum.f a0_0 a0_1 a1_0 a1_1 = some (r1, r2, r3)) :
    Calls Try.prog 28 #[.agg #[.int .i64 a0_0, .int .i64 a0_1], .agg #[.int .i64 a1_0, .int .i64 a1_1]] w fun e w' => e = .returned (.tuple #[.agg #[.int .i64 r1, .int .i64 r2], .int .i64 r3]) ∧ Below w.heap.size w w' := by
  unfold cx_Sum.f at h
  cases hb : (win 2305843009213693952 a0_0 a0_1 && win 2305843009213693952 a1_0 a1_1) with
  | true =>
    rw [hb, if_pos rfl] at h
    obtain ⟨rfl, rfl, rfl⟩ : a0_0 + a1_0 = r1 ∧ a0_1 + a1_1 = r2 ∧ 0 = r3 := by simpa using h
    have hx := hb
    rw [Bool.and_eq_true] at hx
    have h1 := win_true hx.1
    have h2 := win_true hx.2
    have := cx_Sum.way0 a0_0 a0_1 a1_0 a1_1 w (Lib.hid hb)
    rwa [show wrap64 (a0_0 + a1_0) = a0_0 + a1_0 by unfold wrap64; omega, show wrap64 (a0_1 + a1_1) = a0_1 + a1_1 by unfold wrap64; omega] at this
  | false =>
    rw [hb, if_neg (by decide)] at h
    obtain ⟨rfl, rfl, rfl⟩ : 0 = r1 ∧ 0 = r2 ∧ 2 = r3 := by simpa using h
    exact cx_Sum.way1 a0_0 a0_1 a1_0 a1_1 w (Lib.hid hb)

/-! ### cx_Conj: function 30 -/

def cx_Conj.f (a0_0 a0_1 : Int) : Option (Int × Int × Int) := if win 2305843009213693952 a0_0 a0_1 = true then some (a0_0, -a0_1, 0) else some (0, 0, 2)
set_option maxHeartbeats 2000000 in
theorem cx_Conj.way0 (a0_0 a0_1 : Int) (w : World) (h1 : Hid (win 2305843009213693952 a0_0 a0_1 = true)) :
    Calls Try.prog 30 #[.agg #[.int .i64 a0_0, .int .i64 a0_1]] w fun e w' => e = .returned (.tuple #[.agg #[.int .i64 a0_0, .int .i64 (wrap64 (-a0_1))], .int .i64 0]) ∧ Below w.heap.size w w' := by
  go_enter Try.func30, Try.ntmps30
  go_wp2_with (fail)
  refine (within_one 2305843009213693952 a0_0 a0_1 true _ _ h1 (by omega) (by omega) (new_at (by simp))).mono ?_
  rintro e w1 ⟨rfl, hb1⟩
  have HB1 := Lib.hid (below_then (by repeat (first | exact Below.refl _ _ | refine below_alloc ?_ _ | refine Below.setCell ?_ (by first | omega | (simp; done) | (simp; omega)) _)) (by first | (simp; done) | (simp; omega)) hb1 : Below w.heap.size w w1)
  have Ba_1 := Lib.hid (blk_below (by repeat (first | (refine new_at ?_; simp; done) | refine blk_alloc ?_ _)) hb1 : w1.heap[w.heap.size]? = some (.cells #[.int .i64 a0_0, .int .i64 a0_1] 31 (0, 0)))
  obtain ⟨ca0_1, ca1_1, fa0_1, fa1_1, la_1⟩ := cells2 Ba_1.out
  have Br_1 := Lib.hid (blk_below (by repeat (first | (refine new_at ?_; simp; done) | refine blk_alloc ?_ _)) hb1 : w1.heap[w.heap.size + 1]? = some (.cells #[.int .i64 0, .int .i64 0] 31 (0, 0)))
  obtain ⟨cr0_1, cr1_1, fr0_1, fr1_1, lr_1⟩ := cells2 Br_1.out
  have hz1 := HB1.out.size
  clear hb1
  go_wp2
  refine bodyPost_ret (v := .agg #[.int .i64 a0_0, .int .i64 (wrap64 (-a0_1))]) (by simp only [results, Try.results63]; go_simp) rfl ?_
  go_wp2
  refine bodyPost_ret (v := .tuple #[.agg #[.int .i64 a0_0, .int .i64 (wrap64 (-a0_1))], .int .i64 0]) (by simp only [results, Try.results57]; go_simp) rfl ?_
  go_wp2
  refine bodyPost_ret (v := .tuple #[.agg #[.int .i64 a0_0, .int .i64 (wrap64 (-a0_1))], .int .i64 0]) (by simp only [results, Try.results30]; go_simp) rfl ?_
  refine ⟨rfl, ?_⟩
  repeat (first | exact HB1.out | exact Below.refl _ _ | refine below_alloc ?_ _ | refine Below.setCell ?_ (by first | omega | (simp; done) | (simp; omega)) _)
set_option maxHeartbeats 2000000 in
theorem cx_Conj.way1 (a0_0 a0_1 : Int) (w : World) (h1 : Hid (win 2305843009213693952 a0_0 a0_1 = false)) :
    Calls Try.prog 30 #[.agg #[.int .i64 a0_0, .int .i64 a0_1]] w fun e w' => e = .returned (.tuple #[.agg #[.int .i64 0, .int .i64 0], .int .i64 2]) ∧ Below w.heap.size w w' := by
  go_enter Try.func30, Try.ntmps30
  go_wp2_with (fail)
  refine (within_one 2305843009213693952 a0_0 a0_1 false _ _ h1 (by omega) (by omega) (new_at (by simp))).mono ?_
  rintro e w1 ⟨rfl, hb1⟩
  have HB1 := Lib.hid (below_then (by repeat (first | exact Below.refl _ _ | refine below_alloc ?_ _ | refine Below.setCell ?_ (by first | omega | (simp; done) | (simp; omega)) _)) (by first | (simp; done) | (simp; omega)) hb1 : Below w.heap.size w w1)
  have Ba_1 := Lib.hid (blk_below (by repeat (first | (refine new_at ?_; simp; done) | refine blk_alloc ?_ _)) hb1 : w1.heap[w.heap.size]? = some (.cells #[.int .i64 a0_0, .int .i64 a0_1] 31 (0, 0)))
  obtain ⟨ca0_1, ca1_1, fa0_1, fa1_1, la_1⟩ := cells2 Ba_1.out
  have Br_1 := Lib.hid (blk_below (by repeat (first | (refine new_at ?_; simp; done) | refine blk_alloc ?_ _)) hb1 : w1.heap[w.heap.size + 1]? = some (.cells #[.int .i64 0, .int .i64 0] 31 (0, 0)))
  obtain ⟨cr0_1, cr1_1, fr0_1, fr1_1, lr_1⟩ := cells2 Br_1.out
  have hz1 := HB1.out.size
  clear hb1
  go_wp2
  refine bodyPost_ret (v := .tuple #[.agg #[.int .i64 0, .int .i64 0], .int .i64 2]) (by simp only [results, Try.results57]; go_simp) rfl ?_
  go_wp2
  refine bodyPost_ret (v := .tuple #[.agg #[.int .i64 0, .int .i64 0], .int .i64 2]) (by simp only [results, Try.results30]; go_simp) rfl ?_
  refine ⟨rfl, ?_⟩
  repeat (first | exact HB1.out | exact Below.refl _ _ | refine below_alloc ?_ _ | refine Below.setCell ?_ (by first | omega | (simp; done) | (simp; omega)) _)
theorem cx_Conj.calls (a0_0 a0_1 : Int) (r1 r2 r3 : Int) (w : World) (h : cx_Conj.f a0_0 a0_1 = some (r1, r2, r3)) :
    Calls Try.prog 30 #[.agg #[.int .i64 a0_0, .int .i64 a0_1]] w fun e w' => e = .returned (.tuple #[.agg #[.int .i64 r1, .int .i64 r2], .int .i64 r3]) ∧ Below w.heap.size w w' := by
  unfold cx_Conj.f at h
  cases hb : win 2305843009213693952 a0_0 a0_1 with
  | true =>
    rw [hb, if_pos rfl] at h
    obtain ⟨rfl, rfl, rfl⟩ : a0_0 = r1 ∧ -a0_1 = r2 ∧ 0 = r3 := by simpa using h
    have h1 := win_true hb
    have := cx_Conj.way0 a0_0 a0_1 w (Lib.hid hb)
    rwa [show wrap64 (-a0_1) = -a0_1 by unfold wrap64; omega] at this
  | false =>
    rw [hb, if_neg (by decide)] at h
    obtain ⟨rfl, rfl, rfl⟩ : 0 = r1 ∧ 0 = r2 ∧ 2 = r3 := by simpa using h
    exact cx_Conj.way1 a0_0 a0_1 w (Lib.hid hb)

/-! ### headroomlaw03_small: function 37 -/
def headroomlaw03_small.f (a0_0 : Int) (a0_1 : Int) : Option (Int × Int) := some (Int.tmod a0_0 32768, Int.tmod a0_1 32768)
set_option maxHeartbeats 8000000 in
set_option maxRecDepth 100000 in
theorem headroomlaw03_small.calls (a0_0 : Int) (a0_1 : Int) (r1 : Int) (r2 : Int) (w : World) (h : headroomlaw03_small.f a0_0 a0_1 = some (r1, r2)) :
    Calls Try.prog 37 #[.agg #[.int .i64 a0_0, .int .i64 a0_1]] w fun e w' => e = .returned (.agg #[.int .i64 r1, .int .i64 r2]) ∧ Below w.heap.size w w' := by
  have hu31 := Try.underlying31
  have HB := Aside0.mk (Below.refl w.heap.size w)
  have H : (some (Int.tmod a0_0 32768, Int.tmod a0_1 32768)) = some (r1, r2) := h
  clear h
  simp only [Option.some.injEq, Prod.mk.injEq] at H
  obtain ⟨rfl, rfl⟩ := H
  go_enter Try.func37, Try.ntmps37
  go_wp2_with (first | ((with_reducible refine gate_dst (N := 1) rfl ?_); refine box_event ?hg (N := 1) ?hd (cs := #[.int .i64 a0_0, .int .i64 a0_1]) (t := 31) ?hr ?_; (case hd => rfl); (case hg => rfl); (case hr => first | (go_simp; done) | (go_simp; rfl)); intro gb257 hg w2 hbox hb; have n0_ := Aside0.mk (below_step (by repeat (first | (with_reducible first | exact HB.out | apply below_alloc | apply pw_below_drewN | apply below_drew1) | exact HB.out)) hb); have n1_ := Aside0.mk (hbox); have n2_ := Aside0.mk ((by rw [hg]; exact (below_size (by repeat (first | (with_reducible first | exact HB.out | apply below_alloc | apply pw_below_drewN | apply below_drew1) | exact HB.out))) : w.heap.size ≤ gb257)); have n3_ := Aside0.mk ((by rw [hg]; exact (below_size (by repeat (first | (with_reducible first | exact HB.out | apply below_alloc | apply pw_below_drewN | apply below_drew1) | exact HB.out))) : w.heap.size ≤ gb257)); clear HB; have HB := n0_; have BK257 := n1_; have GW257 := n2_; have GE257 := n3_; clear n0_ n1_ n2_ n3_; clear hb hbox hg) | ((with_reducible refine gate_dst (N := 2) rfl ?_); refine box_event ?hg (N := 2) ?hd (cs := #[.int .i64 0, .int .i64 0]) (t := 31) ?hr ?_; (case hd => rfl); (case hg => rfl); (case hr => first | (go_simp; done) | (go_simp; rfl)); intro gb258 hg w3 hbox hb; have n0_ := Aside0.mk (blk_below (g := gb257) (o := .cells #[.int .i64 a0_0, .int .i64 a0_1] 31 (0, 0)) (by (with_reducible repeat (first | refine blk_drewN ?_ _ | refine blk_drew ?_ | refine blk_alloc ?_ _)); exact BK257.out) hb); have n1_ := Aside0.mk (below_step (by repeat (first | (with_reducible first | exact HB.out | apply below_alloc | apply pw_below_drewN | apply below_drew1 | refine below_set ?_ GE257.out) | exact HB.out)) hb); have n2_ := Aside0.mk (hbox); have n3_ := Aside0.mk ((by rw [hg]; exact (below_size (by repeat (first | (with_reducible first | exact HB.out | apply below_alloc | apply pw_below_drewN | apply below_drew1 | refine below_set ?_ GE257.out) | exact HB.out))) : w.heap.size ≤ gb258)); have n4_ := Aside0.mk ((by rw [hg]; exact (below_size (by repeat (first | (with_reducible first | exact HB.out | apply below_alloc | apply pw_below_drewN | apply below_drew1 | refine below_set ?_ GE257.out) | exact HB.out))) : w.heap.size ≤ gb258)); have n5_ := Aside0.mk ((by rw [hg]; exact Nat.ne_of_lt (blk_lt (g := gb257) (o := .cells #[.int .i64 a0_0, .int .i64 a0_1] 31 (0, 0)) (by (with_reducible repeat (first | refine blk_drewN ?_ _ | refine blk_drew ?_ | refine blk_alloc ?_ _)); exact BK257.out)) : gb257 ≠ gb258)); have n6_ := Aside0.mk ((by rw [hg]; exact Nat.ne_of_gt (blk_lt (g := gb257) (o := .cells #[.int .i64 a0_0, .int .i64 a0_1] 31 (0, 0)) (by (with_reducible repeat (first | refine blk_drewN ?_ _ | refine blk_drew ?_ | refine blk_alloc ?_ _)); exact BK257.out)) : gb258 ≠ gb257)); clear BK257; clear HB; have BK257 := n0_; have HB := n1_; have BK258 := n2_; have GW258 := n3_; have GE258 := n4_; have NB257_258 := n5_; have NB258_257 := n6_; clear n0_ n1_ n2_ n3_ n4_ n5_ n6_; clear hb hbox hg; have hnb4 := NB257_258.out; have hnc4 := NB258_257.out; have hcz5_0 : w3.cell? ⟨gb257, 0, none⟩ = some (.int .i64 a0_0) := (blk_cell BK257.out 0).trans rfl; have hcz5_1 : w3.cell? ⟨gb257, 1, none⟩ = some (.int .i64 a0_1) := (blk_cell BK257.out 1).trans rfl; have hfz5_0 := blk_frozen BK257.out 0; have hfz5_1 := blk_frozen BK257.out 1; have hcz6_0 : w3.cell? ⟨gb258, 0, none⟩ = some (.int .i64 0) := (blk_cell BK258.out 0).trans rfl; have hcz6_1 : w3.cell? ⟨gb258, 1, none⟩ = some (.int .i64 0) := (blk_cell BK258.out 1).trans rfl; have hfz6_0 := blk_frozen BK258.out 0; have hfz6_1 := blk_frozen BK258.out 1))
  refine bodyPost_ret (results_cell_row rfl _ _ gb258 31 #[.int .i64 (Int.tmod a0_0 32768), .int .i64 (Int.tmod a0_1 32768)] (0, 0) _ rfl (by (with_reducible repeat (first | refine blk_drewN ?_ _ | refine blk_drew ?_ | refine blk_alloc ?_ _)); refine blk_put (cs := #[.int .i64 (Int.tmod a0_0 32768), .int .i64 0]) ?_ 1 _ rfl; (with_reducible repeat (first | refine blk_drewN ?_ _ | refine blk_drew ?_ | refine blk_alloc ?_ _)); refine blk_put (cs := #[.int .i64 0, .int .i64 0]) ?_ 0 _ rfl; (with_reducible repeat (first | refine blk_drewN ?_ _ | refine blk_drew ?_ | refine blk_alloc ?_ _)); exact BK258.out) Try.underlying31 rfl (by kernel_rfl)) rfl ?_
  exact ⟨by first | rfl | (simp [errW_none, errW_some] <;> rfl) | (simp [*, errW_none, errW_some] <;> rfl), by repeat (first | (with_reducible first | exact HB.out | apply below_alloc | apply pw_below_drewN | apply below_drew1 | refine below_set ?_ GE257.out | refine below_set ?_ GE258.out) | exact HB.out)⟩

end Go.Proofs.Ytobkjhiicafkbaa.P

-- Laid by this session's program hyb.py, out of the kit's print and this session's own contracts.
import Derived.Test.YtobkjhiicafkbaaPx0
import Derived.Test.YtobkjhiicafkbaaPx11
namespace Go.Proofs.Ytobkjhiicafkbaa.P
open Go.RowKit Go.Proofs.YtobkjhiicafkbaaW.PrintWords Go.Proofs.YtobkjhiicafkbaaW.PrintLast Go.Proofs.YtobkjhiicafkbaaW.PrintMore Go.Proofs.YtobkjhiicafkbaaW.Hand
attribute [local go_sem] max2_int min2_int max_two min_two max_three min_three max_four min_four   -- for this text's walks alone
set_option linter.unusedVariables false
set_option linter.unusedSimpArgs false

/-! ### sat_done: function 66 -/
theorem sat_done.odd0 (x : Int) (w : World) (g : Nat) (hB : w.heap[g]? = some (.cells #[.int .i64 15] 3 (0, 0))) :
    Calls Try.prog 76 #[.int .i64 x, .pointer (some ⟨g, 0, none⟩)] w fun e w' => e = .returned (.bool (!inm 32768 x)) ∧ Below w.heap.size w w' := by
  obtain ⟨c0, _, l0⟩ := cells1 hB
  clear hB
  by_cases h1 : x < -32768
  · have hr := Lib.hid (show (!inm 32768 x) = true by simp [inm]; try omega)
    have g0 : decide (x < -32768) = true := by simpa using h1
    clear h1
    go_enter Try.func76, Try.ntmps76
    go_wp2
    go_ret
    exact ⟨by rw [hr.out]; rfl, Below.refl _ _⟩
  · have g0 : decide (x < -32768) = false := by simpa using h1
    have hr := Lib.hid (show (!inm 32768 x) = decide (32768 ≤ x) by
      unfold inm
      by_cases h2 : 32768 ≤ x
      · simp [h2]; try omega
      · simp [h2]; try omega)
    clear h1
    go_enter Try.func76, Try.ntmps76
    go_wp2
    go_ret
    exact ⟨by rw [hr.out]; rfl, Below.refl _ _⟩
theorem sat_done.odd1 (x : Int) (w : World) (g : Nat) (hB : w.heap[g]? = some (.cells #[.int .i64 31] 3 (0, 0))) :
    Calls Try.prog 76 #[.int .i64 x, .pointer (some ⟨g, 0, none⟩)] w fun e w' => e = .returned (.bool (!inm 2147483648 x)) ∧ Below w.heap.size w w' := by
  obtain ⟨c0, _, l0⟩ := cells1 hB
  clear hB
  by_cases h1 : x < -2147483648
  · have hr := Lib.hid (show (!inm 2147483648 x) = true by simp [inm]; try omega)
    have g0 : decide (x < -2147483648) = true := by simpa using h1
    clear h1
    go_enter Try.func76, Try.ntmps76
    go_wp2
    go_ret
    exact ⟨by rw [hr.out]; rfl, Below.refl _ _⟩
  · have g0 : decide (x < -2147483648) = false := by simpa using h1
    have hr := Lib.hid (show (!inm 2147483648 x) = decide (2147483648 ≤ x) by
      unfold inm
      by_cases h2 : 2147483648 ≤ x
      · simp [h2]; try omega
      · simp [h2]; try omega)
    clear h1
    go_enter Try.func76, Try.ntmps76
    go_wp2
    go_ret
    exact ⟨by rw [hr.out]; rfl, Below.refl _ _⟩
theorem sat_done.enters (a : Array Value) (w : World) : (callFunc 76 a).run Try.prog w = .ok (.enter 76 a) w := rfl
theorem sat_done.bad (fmt : Int) (f : Value) (A : Option Addr) (n c : Nat) (w : World) (h : ¬ (fmt = 0 ∨ fmt = 1)) :
    Calls Try.prog 66 #[.int .i64 fmt, f, .slice A n c] w fun e w' => e = .returned (.tuple #[.int .i64 0, .bool false, .int .i64 1]) ∧ Below w.heap.size w w' := by
  have g0 : (fmt == 0) = false := by first | (simp; done) | (simp; omega)
  have g1 : (fmt == 1) = false := by first | (simp; done) | (simp; omega)
  clear h
  go_enter Try.func66, Try.ntmps66
  go_wp2
  go_ret3
  exact ⟨rfl, by repeat (first | exact Below.refl _ _ | refine below_alloc ?_ _ | apply pw_below_drewN | apply below_drew1)⟩
theorem sat_done.out0 (F : FuncId) (cap : Array Value) (A : Option Addr) (c : Nat) (l : List Int) (w : World) (hr : Kd.C (Kd.int .i64) w A l.length l) (hl : l.length ≤ 1000) (hall : l.all (inm 32768) = false) :
    Calls Try.prog 66 #[.int .i64 0, .func (.func F) #[] cap, .slice A l.length c] w fun e w' => e = .returned (.tuple #[.int .i64 0, .bool false, .int .i64 2]) ∧ Below w.heap.size w w' := by
  have HA := Lib.hid (show l.any (fun x => !inm 32768 x) = true by rw [all_any, hall]; rfl)
  have HR := Lib.hid hr
  clear hr hall
  go_enter Try.func66, Try.ntmps66
  go_wp2_with (go_at_call 40; go_in)
  have hb0 : Below w.heap.size w (w.alloc (.cells #[.int .i64 15] 3)) := below_alloc (Below.refl _ _) _
  refine (contains_ints _ _ (fun x => !inm 32768 x) A c l true _ (Kd.C_below HR.out hb0) (by omega) sat_done.enters HA.out ?_).mono ?_
  · intro x _ W hW
    exact sat_done.odd0 x W w.heap.size (blk_below (new_at rfl) hW)
  rintro e w1 ⟨rfl, hb1⟩
  go_wp2
  go_ret3
  exact ⟨rfl, below_then hb0 (by simp) hb1⟩
theorem sat_done.in0 (F : FuncId) (cap : Array Value) (v : Int) (A : Option Addr) (c : Nat) (l : List Int) (w : World) (hr : Kd.C (Kd.int .i64) w A l.length l) (hl : l.length ≤ 1000) (hall : l.all (inm 32768) = true)
    (hE : ∀ (a : Array Value) (w : World), (callFunc F a).run Try.prog w = .ok (.enter F a) w)
    (hF : ∀ W, Below w.heap.size w W → Calls Try.prog F cap W fun e W' => e = .returned (.int .i64 v) ∧ Below W.heap.size W W') :
    Calls Try.prog 66 #[.int .i64 0, .func (.func F) #[] cap, .slice A l.length c] w fun e w' => e = .returned (.tuple #[.int .i64 (sclamp (mag 0) v), .bool (sclamp (mag 0) v != v), .int .i64 0]) ∧ Below w.heap.size w w' := by
  have HA := Lib.hid (show l.any (fun x => !inm 32768 x) = false by rw [all_any, hall]; rfl)
  have HR := Lib.hid hr
  have HF := Lib.hid hF
  clear hr hall hF
  go_enter Try.func66, Try.ntmps66
  go_wp2_with (go_at_call 40; go_in)
  have hb0 : Below w.heap.size w (w.alloc (.cells #[.int .i64 15] 3)) := below_alloc (Below.refl _ _) _
  refine (contains_ints _ _ (fun x => !inm 32768 x) A c l false _ (Kd.C_below HR.out hb0) (by omega) sat_done.enters HA.out ?_).mono ?_
  · intro x _ W hW
    exact sat_done.odd0 x W w.heap.size (blk_below (new_at rfl) hW)
  rintro e w1 ⟨rfl, hb1⟩
  have HB1 := Lib.hid (below_then hb0 (by simp) hb1)
  clear hb0 hb1
  go_wp2_with (fail)
  try simp only [Array.empty_append, Array.append_empty]
  refine (HF.out _ HB1.out).mono ?_
  rintro e w2 ⟨rfl, hb2⟩
  have HB2 := Lib.hid (below_then HB1.out HB1.out.size hb2)
  clear hb2
  go_wp2_with (fail)
  refine (sat_Clamp.calls v 0 _ _ _ _ rfl).mono ?_
  rintro e w3 ⟨rfl, ⟨n3, rfl⟩⟩
  go_wp2
  go_ret3
  exact ⟨rfl, pw_below_drewN HB2.out _⟩
theorem sat_done.out1 (F : FuncId) (cap : Array Value) (A : Option Addr) (c : Nat) (l : List Int) (w : World) (hr : Kd.C (Kd.int .i64) w A l.length l) (hl : l.length ≤ 1000) (hall : l.all (inm 2147483648) = false) :
    Calls Try.prog 66 #[.int .i64 1, .func (.func F) #[] cap, .slice A l.length c] w fun e w' => e = .returned (.tuple #[.int .i64 0, .bool false, .int .i64 2]) ∧ Below w.heap.size w w' := by
  have HA := Lib.hid (show l.any (fun x => !inm 2147483648 x) = true by rw [all_any, hall]; rfl)
  have HR := Lib.hid hr
  clear hr hall
  go_enter Try.func66, Try.ntmps66
  go_wp2_with (go_at_call 40; go_in)
  have hb0 : Below w.heap.size w (w.alloc (.cells #[.int .i64 31] 3)) := below_alloc (Below.refl _ _) _
  refine (contains_ints _ _ (fun x => !inm 2147483648 x) A c l true _ (Kd.C_below HR.out hb0) (by omega) sat_done.enters HA.out ?_).mono ?_
  · intro x _ W hW
    exact sat_done.odd1 x W w.heap.size (blk_below (new_at rfl) hW)
  rintro e w1 ⟨rfl, hb1⟩
  go_wp2
  go_ret3
  exact ⟨rfl, below_then hb0 (by simp) hb1⟩
theorem sat_done.in1 (F : FuncId) (cap : Array Value) (v : Int) (A : Option Addr) (c : Nat) (l : List Int) (w : World) (hr : Kd.C (Kd.int .i64) w A l.length l) (hl : l.length ≤ 1000) (hall : l.all (inm 2147483648) = true)
    (hE : ∀ (a : Array Value) (w : World), (callFunc F a).run Try.prog w = .ok (.enter F a) w)
    (hF : ∀ W, Below w.heap.size w W → Calls Try.prog F cap W fun e W' => e = .returned (.int .i64 v) ∧ Below W.heap.size W W') :
    Calls Try.prog 66 #[.int .i64 1, .func (.func F) #[] cap, .slice A l.length c] w fun e w' => e = .returned (.tuple #[.int .i64 (sclamp (mag 1) v), .bool (sclamp (mag 1) v != v), .int .i64 0]) ∧ Below w.heap.size w w' := by
  have HA := Lib.hid (show l.any (fun x => !inm 2147483648 x) = false by rw [all_any, hall]; rfl)
  have HR := Lib.hid hr
  have HF := Lib.hid hF
  clear hr hall hF
  go_enter Try.func66, Try.ntmps66
  go_wp2_with (go_at_call 40; go_in)
  have hb0 : Below w.heap.size w (w.alloc (.cells #[.int .i64 31] 3)) := below_alloc (Below.refl _ _) _
  refine (contains_ints _ _ (fun x => !inm 2147483648 x) A c l false _ (Kd.C_below HR.out hb0) (by omega) sat_done.enters HA.out ?_).mono ?_
  · intro x _ W hW
    exact sat_done.odd1 x W w.heap.size (blk_below (new_at rfl) hW)
  rintro e w1 ⟨rfl, hb1⟩
  have HB1 := Lib.hid (below_then hb0 (by simp) hb1)
  clear hb0 hb1
  go_wp2_with (fail)
  try simp only [Array.empty_append, Array.append_empty]
  refine (HF.out _ HB1.out).mono ?_
  rintro e w2 ⟨rfl, hb2⟩
  have HB2 := Lib.hid (below_then HB1.out HB1.out.size hb2)
  clear hb2
  go_wp2_with (fail)
  refine (sat_Clamp.calls v 1 _ _ _ _ rfl).mono ?_
  rintro e w3 ⟨rfl, ⟨n3, rfl⟩⟩
  go_wp2
  go_ret3
  exact ⟨rfl, pw_below_drewN HB2.out _⟩
theorem sat_done.calls (F : FuncId) (cap : Array Value) (fmt v : Int) (A : Option Addr) (c : Nat) (l : List Int) (n : Nat) (w : World) (hn : l.length = n) (hr : Kd.C (Kd.int .i64) w A l.length l) (hl : l.length ≤ 1000)
    (hE : ∀ (a : Array Value) (w : World), (callFunc F a).run Try.prog w = .ok (.enter F a) w)
    (hF : (fmt = 0 ∨ fmt = 1) → l.all (inm (mag fmt)) = true → ∀ W, Below w.heap.size w W → Calls Try.prog F cap W fun e W' => e = .returned (.int .i64 v) ∧ Below W.heap.size W W') :
    Calls Try.prog 66 #[.int .i64 fmt, .func (.func F) #[] cap, .slice A n c] w fun e w' => e = .returned (.tuple #[.int .i64 (satof fmt l v).1, .bool (satof fmt l v).2.1, .int .i64 (satof fmt l v).2.2]) ∧ Below w.heap.size w w' := by
  subst hn
  unfold satof
  by_cases hf : fmt = 0 ∨ fmt = 1
  · rw [if_pos hf]
    cases ha : l.all (inm (mag fmt)) with
    | true =>
      rw [if_pos rfl]
      have h1 := hF hf ha
      rcases hf with rfl | rfl
      · exact sat_done.in0 F cap v A c l w hr hl ha hE h1
      · exact sat_done.in1 F cap v A c l w hr hl ha hE h1
    | false =>
      rw [if_neg (by decide)]
      rcases hf with rfl | rfl
      · exact sat_done.out0 F cap A c l w hr hl ha
      · exact sat_done.out1 F cap A c l w hr hl ha
  · rw [if_neg hf]
    exact sat_done.bad fmt _ A l.length c w hf
theorem C_int1 {w : World} {b : Nat} {x : Int} (h : w.heap[b]? = some (.cells #[.int .i64 x] 3 (0, 0))) : Kd.C (Kd.int .i64) w (some ⟨b, 0, none⟩) [x].length [x] :=
  C_block h (Reps.one (show (Kd.int .i64).K w x [.int .i64 x] from rfl) (Reps.none _ _)) (by simp)
theorem C_int2 {w : World} {b : Nat} {x y : Int} (h : w.heap[b]? = some (.cells #[.int .i64 x, .int .i64 y] 3 (0, 0))) : Kd.C (Kd.int .i64) w (some ⟨b, 0, none⟩) [x, y].length [x, y] :=
  C_block h (Reps.one (show (Kd.int .i64).K w x [.int .i64 x] from rfl) (Reps.one (show (Kd.int .i64).K w y [.int .i64 y] from rfl) (Reps.none _ _))) (by simp)

/-! ### sat_Add: function 46 -/
theorem sat_Add.make (a0 a1 : Int) (w : World) (g0 : Nat) (g1 : Nat) (h0 : w.heap[g0]? = some (.cells #[.int .i64 a0] 3 (0, 0))) (h1 : w.heap[g1]? = some (.cells #[.int .i64 a1] 3 (0, 0))) :
    Calls Try.prog 67 #[.pointer (some ⟨g0, 0, none⟩), .pointer (some ⟨g1, 0, none⟩)] w fun e w' => e = .returned (.int .i64 (wrap64 (a0 + a1))) ∧ Below w.heap.size w w' := by
  obtain ⟨c0, _, l0⟩ := cells1 h0
  obtain ⟨c1, _, l1⟩ := cells1 h1
  clear h0 h1
  go_enter Try.func67, Try.ntmps67
  go_wp2
  go_ret
  exact ⟨rfl, Below.refl _ _⟩
def sat_Add.f (a0 a1 a2 : Int) : Option (Int × Bool × Int) := some (satof a2 [a0, a1] (a0 + a1))
set_option maxHeartbeats 1000000 in
theorem sat_Add.calls (a0 a1 a2 : Int) (r1 : Int) (r2 : Bool) (r3 : Int) (w : World) (h : sat_Add.f a0 a1 a2 = some (r1, r2, r3)) :
    Calls Try.prog 46 #[.int .i64 a0, .int .i64 a1, .int .i64 a2] w fun e w' => e = .returned (.tuple #[.int .i64 r1, .bool r2, .int .i64 r3]) ∧ Below w.heap.size w w' := by
  have HS := Lib.hid (show satof a2 [a0, a1] (a0 + a1) = (r1, r2, r3) from Option.some.inj h)
  clear h
  go_enter Try.func46, Try.ntmps46
  go_wp2_with (fail)
  refine (sat_done.calls 67 _ a2 (a0 + a1) _ _ [a0, a1] _ _ rfl (C_int2 (new_at (by simp))) (by simp) (fun _ _ => rfl) ?_).mono ?_
  · intro hf hall W hW
    have hr : wrap64 (a0 + a1) = a0 + a1 := by
      simp [inm, mag] at hall
      unfold wrap64
      rcases hf with rfl | rfl <;> simp at hall <;> omega
    rw [← hr]
    exact sat_Add.make a0 a1 _ _ _ (blk_below (by repeat (first | (refine new_at ?_; simp; done) | refine blk_alloc ?_ _)) hW) (blk_below (by repeat (first | (refine new_at ?_; simp; done) | refine blk_alloc ?_ _)) hW)
  rintro e w1 ⟨rfl, hb1⟩
  rw [HS.out] at *
  go_wp2
  go_ret3
  exact ⟨rfl, below_then (by repeat (first | exact Below.refl _ _ | refine below_alloc ?_ _)) (by first | (simp; done) | (simp; omega)) hb1⟩

/-! ### headroomlaw02_alive: function 43 -/
def headroomlaw02_alive.f  : Option (Bool) := (sat_Add.f 32767 1 0).bind fun bt146 => ((sat_Bits.f 1).bind fun bt149 => (if bt146.2.2 = 0 then (if bt149.2 = 0 then (if bt146.2.1 = true then (if bt146.1 = 32767 then (some (bt149.1 == 31)) else (some false)) else (some false)) else (some false)) else (some false)))
set_option maxHeartbeats 8000000 in
set_option maxRecDepth 100000 in
theorem headroomlaw02_alive.calls  (r : Bool) (w : World) (h : headroomlaw02_alive.f  = some r) :
    Calls Try.prog 43 #[] w fun e w' => e = .returned (.bool r) ∧ Below w.heap.size w w' := by
  have HB := Aside0.mk (Below.refl w.heap.size w)
  have H : ((sat_Add.f 32767 1 0).bind fun bt146 => ((sat_Bits.f 1).bind fun bt149 => (if bt146.2.2 = 0 then (if bt149.2 = 0 then (if bt146.2.1 = true then (if bt146.1 = 32767 then (some (bt149.1 == 31)) else (some false)) else (some false)) else (some false)) else (some false)))) = some r := h
  clear h
  replace H := Option.bind_eq_some_iff.mp H
  obtain ⟨⟨t146, t147, t148⟩, A10, H⟩ := H
  replace H : ((sat_Bits.f 1).bind fun bt149 => (if t148 = 0 then (if bt149.2 = 0 then (if t147 = true then (if t146 = 32767 then (some (bt149.1 == 31)) else (some false)) else (some false)) else (some false)) else (some false))) = some r := H
  have A1 := Aside0.mk A10
  clear A10
  replace H := Option.bind_eq_some_iff.mp H
  obtain ⟨⟨t149, t150⟩, A20, H⟩ := H
  replace H : (if t148 = 0 then (if t150 = 0 then (if t147 = true then (if t146 = 32767 then (some (t149 == 31)) else (some false)) else (some false)) else (some false)) else (some false)) = some r := H
  have A2 := Aside0.mk A20
  clear A20
  by_cases c3 : t148 = 0
  · rw [if_pos c3] at H
    have c3b0 : (t148 == 0) = true := beq_iff_eq.mpr c3
    have c3b1 : (t148 != 0) = false := bne_eq_false_iff_eq.mpr c3
    clear c3
    by_cases c4 : t150 = 0
    · rw [if_pos c4] at H
      have c4b0 : (t150 == 0) = true := beq_iff_eq.mpr c4
      have c4b1 : (t150 != 0) = false := bne_eq_false_iff_eq.mpr c4
      clear c4
      by_cases c5 : t147 = true
      · subst c5
        have H1 : (if t146 = 32767 then (some (t149 == 31)) else (some false)) = some r := by rw [if_pos rfl] at H; exact H
        clear H
        have H := H1
        clear H1
        by_cases c6 : t146 = 32767
        · rw [if_pos c6] at H
          have c6b0 : (t146 == 32767) = true := beq_iff_eq.mpr c6
          have c6b1 : (t146 != 32767) = false := bne_eq_false_iff_eq.mpr c6
          clear c6
          obtain rfl := Option.some.inj H
          go_enter Try.func43, Try.ntmps43
          go_wp2_with (first | ((with_reducible refine gate_callee (f := 46) rfl ?_); refine goesL_ (some 7) rfl rfl Try.func46 (by kernel_rfl) rfl #[.int .i64 32767, .int .i64 1, .int .i64 0] rfl (by (try simp only [List.map_toArray, List.map_cons, List.map_nil]); first | done | rfl | (simp only [List.length_drop, List.length_take]; rfl)) ?_; (with_reducible refine (sat_Add.calls 32767 1 0 t146 true t148 _ A1.out).mono ?_); rintro e w7 ⟨rfl, hb⟩; refine ⟨_, rfl, ?_⟩; have n0_ := Aside0.mk (below_step (by repeat (first | (with_reducible first | exact HB.out | apply below_alloc | apply pw_below_drewN | apply below_drew1) | exact HB.out)) hb); clear HB; have HB := n0_; clear n0_; (try clear hb); (try clear hb2); (try clear hk); (try clear hi)) | ((with_reducible refine gate_callee (f := 40) rfl ?_); refine goesL_ (some 12) rfl rfl Try.func40 (by kernel_rfl) rfl #[.int .i64 1] rfl (by (try simp only [List.map_toArray, List.map_cons, List.map_nil]); first | done | rfl | (simp only [List.length_drop, List.length_take]; rfl)) ?_; (with_reducible refine (sat_Bits.calls 1 t149 t150 _ A2.out).mono ?_); rintro e w' ⟨rfl, ⟨nd, rfl⟩⟩; refine ⟨_, rfl, ?_⟩))
          go_ret
          exact ⟨by first | rfl | (simp [errW_none, errW_some] <;> rfl) | (simp [*, errW_none, errW_some] <;> rfl), by repeat (first | (with_reducible first | exact HB.out | apply below_alloc | apply pw_below_drewN | apply below_drew1) | exact HB.out)⟩
        · rw [if_neg c6] at H
          have c6b0 : (t146 == 32767) = false := beq_eq_false_iff_ne.mpr c6
          have c6b1 : (t146 != 32767) = true := bne_iff_ne.mpr c6
          obtain rfl := Option.some.inj H
          go_enter Try.func43, Try.ntmps43
          go_wp2_with (first | ((with_reducible refine gate_callee (f := 46) rfl ?_); refine goesL_ (some 7) rfl rfl Try.func46 (by kernel_rfl) rfl #[.int .i64 32767, .int .i64 1, .int .i64 0] rfl (by (try simp only [List.map_toArray, List.map_cons, List.map_nil]); first | done | rfl | (simp only [List.length_drop, List.length_take]; rfl)) ?_; (with_reducible refine (sat_Add.calls 32767 1 0 t146 true t148 _ A1.out).mono ?_); rintro e w8 ⟨rfl, hb⟩; refine ⟨_, rfl, ?_⟩; have n0_ := Aside0.mk (below_step (by repeat (first | (with_reducible first | exact HB.out | apply below_alloc | apply pw_below_drewN | apply below_drew1) | exact HB.out)) hb); clear HB; have HB := n0_; clear n0_; (try clear hb); (try clear hb2); (try clear hk); (try clear hi)) | ((with_reducible refine gate_callee (f := 40) rfl ?_); refine goesL_ (some 12) rfl rfl Try.func40 (by kernel_rfl) rfl #[.int .i64 1] rfl (by (try simp only [List.map_toArray, List.map_cons, List.map_nil]); first | done | rfl | (simp only [List.length_drop, List.length_take]; rfl)) ?_; (with_reducible refine (sat_Bits.calls 1 t149 t150 _ A2.out).mono ?_); rintro e w' ⟨rfl, ⟨nd, rfl⟩⟩; refine ⟨_, rfl, ?_⟩))
          go_ret
          exact ⟨by first | rfl | (simp [errW_none, errW_some] <;> rfl) | (simp [*, errW_none, errW_some] <;> rfl), by repeat (first | (with_reducible first | exact HB.out | apply below_alloc | apply pw_below_drewN | apply below_drew1) | exact HB.out)⟩
      · replace c5 := Bool.eq_false_iff.mpr c5
        subst c5
        have H1 : (some false) = some r := by rw [if_neg (show ¬ (false = true) by decide)] at H; exact H
        clear H
        have H := H1
        clear H1
        obtain rfl := Option.some.inj H
        go_enter Try.func43, Try.ntmps43
        go_wp2_with (first | ((with_reducible refine gate_callee (f := 46) rfl ?_); refine goesL_ (some 7) rfl rfl Try.func46 (by kernel_rfl) rfl #[.int .i64 32767, .int .i64 1, .int .i64 0] rfl (by (try simp only [List.map_toArray, List.map_cons, List.map_nil]); first | done | rfl | (simp only [List.length_drop, List.length_take]; rfl)) ?_; (with_reducible refine (sat_Add.calls 32767 1 0 t146 false t148 _ A1.out).mono ?_); rintro e w9 ⟨rfl, hb⟩; refine ⟨_, rfl, ?_⟩; have n0_ := Aside0.mk (below_step (by repeat (first | (with_reducible first | exact HB.out | apply below_alloc | apply pw_below_drewN | apply below_drew1) | exact HB.out)) hb); clear HB; have HB := n0_; clear n0_; (try clear hb); (try clear hb2); (try clear hk); (try clear hi)) | ((with_reducible refine gate_callee (f := 40) rfl ?_); refine goesL_ (some 12) rfl rfl Try.func40 (by kernel_rfl) rfl #[.int .i64 1] rfl (by (try simp only [List.map_toArray, List.map_cons, List.map_nil]); first | done | rfl | (simp only [List.length_drop, List.length_take]; rfl)) ?_; (with_reducible refine (sat_Bits.calls 1 t149 t150 _ A2.out).mono ?_); rintro e w' ⟨rfl, ⟨nd, rfl⟩⟩; refine ⟨_, rfl, ?_⟩))
        go_ret
        exact ⟨by first | rfl | (simp [errW_none, errW_some] <;> rfl) | (simp [*, errW_none, errW_some] <;> rfl), by repeat (first | (with_reducible first | exact HB.out | apply below_alloc | apply pw_below_drewN | apply below_drew1) | exact HB.out)⟩
    · rw [if_neg c4] at H
      have c4b0 : (t150 == 0) = false := beq_eq_false_iff_ne.mpr c4
      have c4b1 : (t150 != 0) = true := bne_iff_ne.mpr c4
      obtain rfl := Option.some.inj H
      go_enter Try.func43, Try.ntmps43
      go_wp2_with (first | ((with_reducible refine gate_callee (f := 46) rfl ?_); refine goesL_ (some 7) rfl rfl Try.func46 (by kernel_rfl) rfl #[.int .i64 32767, .int .i64 1, .int .i64 0] rfl (by (try simp only [List.map_toArray, List.map_cons, List.map_nil]); first | done | rfl | (simp only [List.length_drop, List.length_take]; rfl)) ?_; (with_reducible refine (sat_Add.calls 32767 1 0 t146 t147 t148 _ A1.out).mono ?_); rintro e w10 ⟨rfl, hb⟩; refine ⟨_, rfl, ?_⟩; have n0_ := Aside0.mk (below_step (by repeat (first | (with_reducible first | exact HB.out | apply below_alloc | apply pw_below_drewN | apply below_drew1) | exact HB.out)) hb); clear HB; have HB := n0_; clear n0_; (try clear hb); (try clear hb2); (try clear hk); (try clear hi)) | ((with_reducible refine gate_callee (f := 40) rfl ?_); refine goesL_ (some 12) rfl rfl Try.func40 (by kernel_rfl) rfl #[.int .i64 1] rfl (by (try simp only [List.map_toArray, List.map_cons, List.map_nil]); first | done | rfl | (simp only [List.length_drop, List.length_take]; rfl)) ?_; (with_reducible refine (sat_Bits.calls 1 t149 t150 _ A2.out).mono ?_); rintro e w' ⟨rfl, ⟨nd, rfl⟩⟩; refine ⟨_, rfl, ?_⟩))
      go_ret
      exact ⟨by first | rfl | (simp [errW_none, errW_some] <;> rfl) | (simp [*, errW_none, errW_some] <;> rfl), by repeat (first | (with_reducible first | exact HB.out | apply below_alloc | apply pw_below_drewN | apply below_drew1) | exact HB.out)⟩
  · rw [if_neg c3] at H
    have c3b0 : (t148 == 0) = false := beq_eq_false_iff_ne.mpr c3
    have c3b1 : (t148 != 0) = true := bne_iff_ne.mpr c3
    obtain rfl := Option.some.inj H
    go_enter Try.func43, Try.ntmps43
    go_wp2_with (first | ((with_reducible refine gate_callee (f := 46) rfl ?_); refine goesL_ (some 7) rfl rfl Try.func46 (by kernel_rfl) rfl #[.int .i64 32767, .int .i64 1, .int .i64 0] rfl (by (try simp only [List.map_toArray, List.map_cons, List.map_nil]); first | done | rfl | (simp only [List.length_drop, List.length_take]; rfl)) ?_; (with_reducible refine (sat_Add.calls 32767 1 0 t146 t147 t148 _ A1.out).mono ?_); rintro e w11 ⟨rfl, hb⟩; refine ⟨_, rfl, ?_⟩; have n0_ := Aside0.mk (below_step (by repeat (first | (with_reducible first | exact HB.out | apply below_alloc | apply pw_below_drewN | apply below_drew1) | exact HB.out)) hb); clear HB; have HB := n0_; clear n0_; (try clear hb); (try clear hb2); (try clear hk); (try clear hi)) | ((with_reducible refine gate_callee (f := 40) rfl ?_); refine goesL_ (some 12) rfl rfl Try.func40 (by kernel_rfl) rfl #[.int .i64 1] rfl (by (try simp only [List.map_toArray, List.map_cons, List.map_nil]); first | done | rfl | (simp only [List.length_drop, List.length_take]; rfl)) ?_; (with_reducible refine (sat_Bits.calls 1 t149 t150 _ A2.out).mono ?_); rintro e w' ⟨rfl, ⟨nd, rfl⟩⟩; refine ⟨_, rfl, ?_⟩))
    go_ret
    exact ⟨by first | rfl | (simp [errW_none, errW_some] <;> rfl) | (simp [*, errW_none, errW_some] <;> rfl), by repeat (first | (with_reducible first | exact HB.out | apply below_alloc | apply pw_below_drewN | apply below_drew1) | exact HB.out)⟩

end Go.Proofs.Ytobkjhiicafkbaa.P

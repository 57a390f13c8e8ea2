-- Laid by this session's program hyb.py, out of the kit's print and this session's own contracts.
import Derived.Test.YtfemklaeonkidaaPx0
import Derived.Test.YtfemklaeonkidaaPx3
import Derived.Test.YtfemklaeonkidaaPx4
namespace Go.Proofs.Ytfemklaeonkidaa.P
open Go.RowKit Go.Proofs.YtfemklaeonkidaaW.PrintWords Go.Proofs.YtfemklaeonkidaaW.PrintLast Go.Proofs.YtfemklaeonkidaaW.PrintMore Go.Proofs.YtfemklaeonkidaaW.Hand
attribute [local go_sem] max2_int min2_int max_two min_two max_three min_three max_four min_four   -- for this text's walks alone
set_option linter.unusedVariables false
set_option linter.unusedSimpArgs false

/-! ### headroomlaw09_alive: function 20 -/
def headroomlaw09_alive.f (k : Nat)  : Option (Bool) := (scan_Room.f k 1000 0).bind fun bt105 => ((scan_Pre.f 4 32768 0).bind fun bt107 => (if bt105.2 = 0 then (if bt107.2 = 0 then (if bt105.1 = 4 then (some (bt107.1 == 3)) else (some false)) else (some false)) else (some false)))
theorem headroomlaw09_alive.mono : ∀ k, LeO (headroomlaw09_alive.f k ) (headroomlaw09_alive.f (k + 1) ) := by
  intro  k
  unfold headroomlaw09_alive.f
  repeat' first
      | (with_reducible exact scan_Room.mono _ _ _)
      | (with_reducible exact LeO.refl _)
      | (with_reducible exact LeO.none _)
      | (with_reducible refine LeO.ite ?_ ?_)
      | (with_reducible refine LeO.bind ?_ (fun _ => ?_))
      | exact scan_Room.mono _ _ _
      | exact LeO.none _
      | refine LeO.ite ?_ ?_
      | refine LeO.bind ?_ (fun _ => ?_)
set_option maxHeartbeats 8000000 in
set_option maxRecDepth 100000 in
theorem headroomlaw09_alive.calls (k : Nat)  (r : Bool) (w : World) (h : headroomlaw09_alive.f k  = some r) :
    Calls Try.prog 20 #[] w fun e w' => e = .returned (.bool r) ∧ Below w.heap.size w w' := by
  have HB := Aside0.mk (Below.refl w.heap.size w)
  have H : ((scan_Room.f k 1000 0).bind fun bt105 => ((scan_Pre.f 4 32768 0).bind fun bt107 => (if bt105.2 = 0 then (if bt107.2 = 0 then (if bt105.1 = 4 then (some (bt107.1 == 3)) else (some false)) else (some false)) else (some false)))) = some r := h
  clear h
  replace H := Option.bind_eq_some_iff.mp H
  obtain ⟨⟨t105, t106⟩, A10, H⟩ := H
  replace H : ((scan_Pre.f 4 32768 0).bind fun bt107 => (if t106 = 0 then (if bt107.2 = 0 then (if t105 = 4 then (some (bt107.1 == 3)) else (some false)) else (some false)) else (some false))) = some r := H
  have A1 := Aside0.mk A10
  clear A10
  replace H := Option.bind_eq_some_iff.mp H
  obtain ⟨⟨t107, t108⟩, A20, H⟩ := H
  replace H : (if t106 = 0 then (if t108 = 0 then (if t105 = 4 then (some (t107 == 3)) else (some false)) else (some false)) else (some false)) = some r := H
  have A2 := Aside0.mk A20
  clear A20
  by_cases c3 : t106 = 0
  · rw [if_pos c3] at H
    have c3b0 : (t106 == 0) = true := beq_iff_eq.mpr c3
    have c3b1 : (t106 != 0) = false := bne_eq_false_iff_eq.mpr c3
    clear c3
    by_cases c4 : t108 = 0
    · rw [if_pos c4] at H
      have c4b0 : (t108 == 0) = true := beq_iff_eq.mpr c4
      have c4b1 : (t108 != 0) = false := bne_eq_false_iff_eq.mpr c4
      clear c4
      by_cases c5 : t105 = 4
      · rw [if_pos c5] at H
        have c5b0 : (t105 == 4) = true := beq_iff_eq.mpr c5
        have c5b1 : (t105 != 4) = false := bne_eq_false_iff_eq.mpr c5
        clear c5
        obtain rfl := Option.some.inj H
        go_enter Try.func20, Try.ntmps20
        go_wp2_with (first | ((with_reducible refine gate_callee (f := 16) rfl ?_); refine goesL_ (some 6) rfl rfl Try.func16 (by kernel_rfl) rfl #[.int .i64 1000, .int .i64 0] rfl (by (try simp only [List.map_toArray, List.map_cons, List.map_nil]); first | done | rfl | (simp only [List.length_drop, List.length_take]; rfl)) ?_; (with_reducible refine (scan_Room.calls k 1000 0 t105 t106 _ A1.out).mono ?_); rintro e w' ⟨rfl, ⟨nd, rfl⟩⟩; refine ⟨_, rfl, ?_⟩) | ((with_reducible refine gate_callee (f := 17) rfl ?_); refine goesL_ (some 10) rfl rfl Try.func17 (by kernel_rfl) rfl #[.int .i64 4, .int .i64 32768, .int .i64 0] rfl (by (try simp only [List.map_toArray, List.map_cons, List.map_nil]); first | done | rfl | (simp only [List.length_drop, List.length_take]; rfl)) ?_; (with_reducible refine (scan_Pre.calls 4 32768 0 t107 t108 _ A2.out).mono ?_); rintro e w6 ⟨rfl, hb⟩; refine ⟨_, rfl, ?_⟩; have n0_ := Aside0.mk (below_step (by repeat (first | (with_reducible first | exact HB.out | apply below_alloc | apply pw_below_drewN | apply below_drew1) | exact HB.out)) hb); clear HB; have HB := n0_; clear n0_; (try clear hb); (try clear hb2); (try clear hk); (try clear hi)))
        go_ret
        exact ⟨by first | rfl | (simp [errW_none, errW_some] <;> rfl) | (simp [*, errW_none, errW_some] <;> rfl), by repeat (first | (with_reducible first | exact HB.out | apply below_alloc | apply pw_below_drewN | apply below_drew1) | exact HB.out)⟩
      · rw [if_neg c5] at H
        have c5b0 : (t105 == 4) = false := beq_eq_false_iff_ne.mpr c5
        have c5b1 : (t105 != 4) = true := bne_iff_ne.mpr c5
        obtain rfl := Option.some.inj H
        go_enter Try.func20, Try.ntmps20
        go_wp2_with (first | ((with_reducible refine gate_callee (f := 16) rfl ?_); refine goesL_ (some 6) rfl rfl Try.func16 (by kernel_rfl) rfl #[.int .i64 1000, .int .i64 0] rfl (by (try simp only [List.map_toArray, List.map_cons, List.map_nil]); first | done | rfl | (simp only [List.length_drop, List.length_take]; rfl)) ?_; (with_reducible refine (scan_Room.calls k 1000 0 t105 t106 _ A1.out).mono ?_); rintro e w' ⟨rfl, ⟨nd, rfl⟩⟩; refine ⟨_, rfl, ?_⟩) | ((with_reducible refine gate_callee (f := 17) rfl ?_); refine goesL_ (some 10) rfl rfl Try.func17 (by kernel_rfl) rfl #[.int .i64 4, .int .i64 32768, .int .i64 0] rfl (by (try simp only [List.map_toArray, List.map_cons, List.map_nil]); first | done | rfl | (simp only [List.length_drop, List.length_take]; rfl)) ?_; (with_reducible refine (scan_Pre.calls 4 32768 0 t107 t108 _ A2.out).mono ?_); rintro e w7 ⟨rfl, hb⟩; refine ⟨_, rfl, ?_⟩; have n0_ := Aside0.mk (below_step (by repeat (first | (with_reducible first | exact HB.out | apply below_alloc | apply pw_below_drewN | apply below_drew1) | exact HB.out)) hb); clear HB; have HB := n0_; clear n0_; (try clear hb); (try clear hb2); (try clear hk); (try clear hi)))
        go_ret
        exact ⟨by first | rfl | (simp [errW_none, errW_some] <;> rfl) | (simp [*, errW_none, errW_some] <;> rfl), by repeat (first | (with_reducible first | exact HB.out | apply below_alloc | apply pw_below_drewN | apply below_drew1) | exact HB.out)⟩
    · rw [if_neg c4] at H
      have c4b0 : (t108 == 0) = false := beq_eq_false_iff_ne.mpr c4
      have c4b1 : (t108 != 0) = true := bne_iff_ne.mpr c4
      obtain rfl := Option.some.inj H
      go_enter Try.func20, Try.ntmps20
      go_wp2_with (first | ((with_reducible refine gate_callee (f := 16) rfl ?_); refine goesL_ (some 6) rfl rfl Try.func16 (by kernel_rfl) rfl #[.int .i64 1000, .int .i64 0] rfl (by (try simp only [List.map_toArray, List.map_cons, List.map_nil]); first | done | rfl | (simp only [List.length_drop, List.length_take]; rfl)) ?_; (with_reducible refine (scan_Room.calls k 1000 0 t105 t106 _ A1.out).mono ?_); rintro e w' ⟨rfl, ⟨nd, rfl⟩⟩; refine ⟨_, rfl, ?_⟩) | ((with_reducible refine gate_callee (f := 17) rfl ?_); refine goesL_ (some 10) rfl rfl Try.func17 (by kernel_rfl) rfl #[.int .i64 4, .int .i64 32768, .int .i64 0] rfl (by (try simp only [List.map_toArray, List.map_cons, List.map_nil]); first | done | rfl | (simp only [List.length_drop, List.length_take]; rfl)) ?_; (with_reducible refine (scan_Pre.calls 4 32768 0 t107 t108 _ A2.out).mono ?_); rintro e w8 ⟨rfl, hb⟩; refine ⟨_, rfl, ?_⟩; have n0_ := Aside0.mk (below_step (by repeat (first | (with_reducible first | exact HB.out | apply below_alloc | apply pw_below_drewN | apply below_drew1) | exact HB.out)) hb); clear HB; have HB := n0_; clear n0_; (try clear hb); (try clear hb2); (try clear hk); (try clear hi)))
      go_ret
      exact ⟨by first | rfl | (simp [errW_none, errW_some] <;> rfl) | (simp [*, errW_none, errW_some] <;> rfl), by repeat (first | (with_reducible first | exact HB.out | apply below_alloc | apply pw_below_drewN | apply below_drew1) | exact HB.out)⟩
  · rw [if_neg c3] at H
    have c3b0 : (t106 == 0) = false := beq_eq_false_iff_ne.mpr c3
    have c3b1 : (t106 != 0) = true := bne_iff_ne.mpr c3
    obtain rfl := Option.some.inj H
    go_enter Try.func20, Try.ntmps20
    go_wp2_with (first | ((with_reducible refine gate_callee (f := 16) rfl ?_); refine goesL_ (some 6) rfl rfl Try.func16 (by kernel_rfl) rfl #[.int .i64 1000, .int .i64 0] rfl (by (try simp only [List.map_toArray, List.map_cons, List.map_nil]); first | done | rfl | (simp only [List.length_drop, List.length_take]; rfl)) ?_; (with_reducible refine (scan_Room.calls k 1000 0 t105 t106 _ A1.out).mono ?_); rintro e w' ⟨rfl, ⟨nd, rfl⟩⟩; refine ⟨_, rfl, ?_⟩) | ((with_reducible refine gate_callee (f := 17) rfl ?_); refine goesL_ (some 10) rfl rfl Try.func17 (by kernel_rfl) rfl #[.int .i64 4, .int .i64 32768, .int .i64 0] rfl (by (try simp only [List.map_toArray, List.map_cons, List.map_nil]); first | done | rfl | (simp only [List.length_drop, List.length_take]; rfl)) ?_; (with_reducible refine (scan_Pre.calls 4 32768 0 t107 t108 _ A2.out).mono ?_); rintro e w9 ⟨rfl, hb⟩; refine ⟨_, rfl, ?_⟩; have n0_ := Aside0.mk (below_step (by repeat (first | (with_reducible first | exact HB.out | apply below_alloc | apply pw_below_drewN | apply below_drew1) | exact HB.out)) hb); clear HB; have HB := n0_; clear n0_; (try clear hb); (try clear hb2); (try clear hk); (try clear hi)))
    go_ret
    exact ⟨by first | rfl | (simp [errW_none, errW_some] <;> rfl) | (simp [*, errW_none, errW_some] <;> rfl), by repeat (first | (with_reducible first | exact HB.out | apply below_alloc | apply pw_below_drewN | apply below_drew1) | exact HB.out)⟩

-- NOT PRINTED: function 88 (round_modes)

/-! ### round_Shift: function 62 -/
theorem round_modes.m0 (l h : Int) (b : Bool) (w : World) : Calls Try.prog 100 #[.int .i64 l, .int .i64 h, .bool b] w fun e w' => e = .returned (.bool false) ∧ w' = w := by
  go_enter Try.func100, Try.ntmps100
  go_wp2
  go_ret
  exact ⟨rfl, rfl⟩
theorem round_modes.m1 (l h : Int) (b r : Bool) (hr : Hid (decide (h ≤ l) = r)) (w : World) : Calls Try.prog 101 #[.int .i64 l, .int .i64 h, .bool b] w fun e w' => e = .returned (.bool r) ∧ w' = w := by
  go_enter Try.func101, Try.ntmps101
  go_wp2
  go_ret
  exact ⟨by rw [← hr.out]; rfl, rfl⟩
theorem round_modes.m2 (l h : Int) (b r : Bool) (hr : Hid ((decide (h < l) || (decide (l = h) && b)) = r)) (w : World) : Calls Try.prog 102 #[.int .i64 l, .int .i64 h, .bool b] w fun e w' => e = .returned (.bool r) ∧ w' = w := by
  by_cases h1 : h < l
  · have hd : decide (h < l) = true := by simpa using h1
    have h3 := Lib.hid (show true = r by rw [← hr.out, hd]; rfl)
    go_enter Try.func102, Try.ntmps102
    go_wp2
    go_ret
    exact ⟨by rw [← h3.out]; rfl, rfl⟩
  · have hd : decide (h < l) = false := by simpa using h1
    by_cases h2 : l = h
    · have h3 := Lib.hid (show b = r by rw [← hr.out, hd, decide_eq_true h2]; simp)
      have he : (l == h) = true := by simpa using h2
      clear h2
      go_enter Try.func102, Try.ntmps102
      go_wp2
      go_ret
      exact ⟨by rw [← h3.out]; rfl, rfl⟩
    · have h3 := Lib.hid (show false = r by rw [← hr.out, hd, decide_eq_false h2]; simp)
      have he : (l == h) = false := by simpa using h2
      clear h2
      go_enter Try.func102, Try.ntmps102
      go_wp2
      go_ret
      exact ⟨by rw [← h3.out]; rfl, rfl⟩
def round_Shift.f (a0 a1 a2 : Int) : Option (Int × Int) := if a1 < 0 ∨ 62 < a1 ∨ a2 < 0 ∨ 2 < a2 then some (0, 1) else some (rshift a0 a1 a2, 0)
theorem round_Shift.bad0 (x s how : Int) (w : World) (h : s < 0 ∨ 62 < s ∨ how < 0 ∨ 2 < how) :
    Calls Try.prog 62 #[.int .i64 x, .int .i64 s, .int .i64 how] w fun e w' => e = .returned (.tuple #[.int .i64 0, .int .i64 1]) ∧ Below w.heap.size w w' := by
  by_cases h1 : s < 0
  · have g1 : decide (s < 0) = true := by simpa using h1
    clear h h1
    go_enter Try.func62, Try.ntmps62
    go_wp2
    go_ret2
    exact ⟨rfl, below_alloc (Below.refl _ _) _⟩
  by_cases h2 : 62 < s
  · have g1 : decide (s < 0) = false := by simpa using h1
    have g2 : decide (62 < s) = true := by simpa using h2
    clear h h1 h2
    go_enter Try.func62, Try.ntmps62
    go_wp2
    go_ret2
    exact ⟨rfl, below_alloc (Below.refl _ _) _⟩
  have g1 : decide (s < 0) = false := by simpa using h1
  have g2 : decide (62 < s) = false := by simpa using h2
  by_cases h3 : how < 0
  · have g3 : decide (how < 0) = true := by simpa using h3
    clear h h1 h2 h3
    go_enter Try.func62, Try.ntmps62
    go_wp2
    go_ret2
    exact ⟨rfl, below_alloc (Below.refl _ _) _⟩
  · have g3 : decide (how < 0) = false := by simpa using h3
    have g4 : decide (3 ≤ how) = true := by simp; omega
    clear h h1 h2 h3
    go_enter Try.func62, Try.ntmps62
    go_wp2
    go_ret2
    exact ⟨rfl, below_alloc (Below.refl _ _) _⟩
theorem round_Shift.zero (x how : Int) (w : World) (h : how = 0 ∨ how = 1 ∨ how = 2) :
    Calls Try.prog 62 #[.int .i64 x, .int .i64 0, .int .i64 how] w fun e w' => e = .returned (.tuple #[.int .i64 x, .int .i64 0]) ∧ Below w.heap.size w w' := by
  rcases h with rfl | rfl | rfl
  all_goals
    go_enter Try.func62, Try.ntmps62
    go_wp2
    go_ret2
    exact ⟨rfl, below_alloc (Below.refl _ _) _⟩
set_option maxHeartbeats 2000000 in
theorem round_Shift.way0f (x s : Int) (w : World) (h1 : 1 ≤ s) (h2 : s ≤ 62) :
    Calls Try.prog 62 #[.int .i64 x, .int .i64 s, .int .i64 0] w fun e w' => e = .returned (.tuple #[.int .i64 (x / 2 ^ s.toNat), .int .i64 0]) ∧ Below w.heap.size w w' := by
  have g1 : decide (s < 0) = false := by simp; omega
  have g2 : decide (62 < s) = false := by simp; omega
  have g3 : (s == 0) = false := by simp; omega
  have h5 : s.toNat ≤ 62 := by omega
  have h6 : s.toNat - 1 ≤ 62 := by omega
  go_enter Try.func62, Try.ntmps62
  go_wp2
  go_quiet ((go_at_call 100; exact Calls.quiet_of_same (round_modes.m0 _ _ _ _)))
  go_wp2
  go_ret2
  exact ⟨rfl, pw_below_drewN (below_alloc (Below.refl _ _) _) _⟩
set_option maxHeartbeats 2000000 in
theorem round_Shift.way1t (x s : Int) (w : World) (h1 : 1 ≤ s) (h2 : s ≤ 62) (hu : Hid (goesUp x s 1 = true)) :
    Calls Try.prog 62 #[.int .i64 x, .int .i64 s, .int .i64 1] w fun e w' => e = .returned (.tuple #[.int .i64 (wrap64 (x / 2 ^ s.toNat + 1)), .int .i64 0]) ∧ Below w.heap.size w w' := by
  have g1 : decide (s < 0) = false := by simp; omega
  have g2 : decide (62 < s) = false := by simp; omega
  have g3 : (s == 0) = false := by simp; omega
  have h5 : s.toNat ≤ 62 := by omega
  have h6 : s.toNat - 1 ≤ 62 := by omega
  go_enter Try.func62, Try.ntmps62
  go_wp2
  go_quiet ((go_at_call 101; exact Calls.quiet_of_same (round_modes.m1 _ _ _ true (by rw [mask_wrap h5, pow_wrap h6]; exact hu) _)))
  go_wp2
  go_ret2
  exact ⟨rfl, pw_below_drewN (below_alloc (Below.refl _ _) _) _⟩
set_option maxHeartbeats 2000000 in
theorem round_Shift.way1f (x s : Int) (w : World) (h1 : 1 ≤ s) (h2 : s ≤ 62) (hu : Hid (goesUp x s 1 = false)) :
    Calls Try.prog 62 #[.int .i64 x, .int .i64 s, .int .i64 1] w fun e w' => e = .returned (.tuple #[.int .i64 (x / 2 ^ s.toNat), .int .i64 0]) ∧ Below w.heap.size w w' := by
  have g1 : decide (s < 0) = false := by simp; omega
  have g2 : decide (62 < s) = false := by simp; omega
  have g3 : (s == 0) = false := by simp; omega
  have h5 : s.toNat ≤ 62 := by omega
  have h6 : s.toNat - 1 ≤ 62 := by omega
  go_enter Try.func62, Try.ntmps62
  go_wp2
  go_quiet ((go_at_call 101; exact Calls.quiet_of_same (round_modes.m1 _ _ _ false (by rw [mask_wrap h5, pow_wrap h6]; exact hu) _)))
  go_wp2
  go_ret2
  exact ⟨rfl, pw_below_drewN (below_alloc (Below.refl _ _) _) _⟩
set_option maxHeartbeats 2000000 in
theorem round_Shift.way2t (x s : Int) (w : World) (h1 : 1 ≤ s) (h2 : s ≤ 62) (hu : Hid (goesUp x s 2 = true)) :
    Calls Try.prog 62 #[.int .i64 x, .int .i64 s, .int .i64 2] w fun e w' => e = .returned (.tuple #[.int .i64 (wrap64 (x / 2 ^ s.toNat + 1)), .int .i64 0]) ∧ Below w.heap.size w w' := by
  have g1 : decide (s < 0) = false := by simp; omega
  have g2 : decide (62 < s) = false := by simp; omega
  have g3 : (s == 0) = false := by simp; omega
  have h5 : s.toNat ≤ 62 := by omega
  have h6 : s.toNat - 1 ≤ 62 := by omega
  go_enter Try.func62, Try.ntmps62
  go_wp2
  go_quiet ((go_at_call 102; exact Calls.quiet_of_same (round_modes.m2 _ _ _ true (by rw [mask_wrap h5, pow_wrap h6, and1_64]; exact hu) _)))
  go_wp2
  go_ret2
  exact ⟨rfl, pw_below_drewN (below_alloc (Below.refl _ _) _) _⟩
set_option maxHeartbeats 2000000 in
theorem round_Shift.way2f (x s : Int) (w : World) (h1 : 1 ≤ s) (h2 : s ≤ 62) (hu : Hid (goesUp x s 2 = false)) :
    Calls Try.prog 62 #[.int .i64 x, .int .i64 s, .int .i64 2] w fun e w' => e = .returned (.tuple #[.int .i64 (x / 2 ^ s.toNat), .int .i64 0]) ∧ Below w.heap.size w w' := by
  have g1 : decide (s < 0) = false := by simp; omega
  have g2 : decide (62 < s) = false := by simp; omega
  have g3 : (s == 0) = false := by simp; omega
  have h5 : s.toNat ≤ 62 := by omega
  have h6 : s.toNat - 1 ≤ 62 := by omega
  go_enter Try.func62, Try.ntmps62
  go_wp2
  go_quiet ((go_at_call 102; exact Calls.quiet_of_same (round_modes.m2 _ _ _ false (by rw [mask_wrap h5, pow_wrap h6, and1_64]; exact hu) _)))
  go_wp2
  go_ret2
  exact ⟨rfl, pw_below_drewN (below_alloc (Below.refl _ _) _) _⟩
theorem round_Shift.calls (a0 a1 a2 : Int) (r1 r2 : Int) (w : World) (h : round_Shift.f a0 a1 a2 = some (r1, r2)) :
    Calls Try.prog 62 #[.int .i64 a0, .int .i64 a1, .int .i64 a2] w fun e w' => e = .returned (.tuple #[.int .i64 r1, .int .i64 r2]) ∧ Below w.heap.size w w' := by
  unfold round_Shift.f at h
  by_cases hb : a1 < 0 ∨ 62 < a1 ∨ a2 < 0 ∨ 2 < a2
  · rw [if_pos hb] at h
    obtain ⟨rfl, rfl⟩ : 0 = r1 ∧ 1 = r2 := by simpa using h
    exact round_Shift.bad0 a0 a1 a2 w hb
  · rw [if_neg hb] at h
    obtain ⟨rfl, rfl⟩ : rshift a0 a1 a2 = r1 ∧ 0 = r2 := by simpa using h
    clear h
    have hm : a2 = 0 ∨ a2 = 1 ∨ a2 = 2 := by omega
    unfold rshift
    by_cases hs : a1 = 0
    · subst hs
      rw [if_pos rfl]
      exact round_Shift.zero a0 a2 w hm
    · rw [if_neg hs]
      have h1 : 1 ≤ a1 := by omega
      have h2 : a1 ≤ 62 := by omega
      rcases hm with rfl | rfl | rfl
      · exact round_Shift.way0f a0 a1 w h1 h2
      · cases hu : goesUp a0 a1 1 with
        | true => exact round_Shift.way1t a0 a1 w h1 h2 (Lib.hid hu)
        | false => exact round_Shift.way1f a0 a1 w h1 h2 (Lib.hid hu)
      · cases hu : goesUp a0 a1 2 with
        | true => exact round_Shift.way2t a0 a1 w h1 h2 (Lib.hid hu)
        | false => exact round_Shift.way2f a0 a1 w h1 h2 (Lib.hid hu)

/-! ### cx_Shift: function 63 -/
def cx_Shift.f (a0_0 : Int) (a0_1 : Int) (a1 : Int) (a2 : Int) : Option (Int × Int × Int) := (round_Shift.f a0_0 a1 a2).bind fun bt111 => (if bt111.2 = 0 then ((round_Shift.f a0_1 a1 a2).bind fun bt113 => (some (bt111.1, bt113.1, 0))) else (some (0, 0, bt111.2)))
set_option maxHeartbeats 8000000 in
set_option maxRecDepth 100000 in
theorem cx_Shift.calls (a0_0 : Int) (a0_1 : Int) (a1 : Int) (a2 : Int) (r1 : Int) (r2 : Int) (r3 : Int) (w : World) (h : cx_Shift.f a0_0 a0_1 a1 a2 = some (r1, r2, r3)) :
    Calls Try.prog 63 #[.agg #[.int .i64 a0_0, .int .i64 a0_1], .int .i64 a1, .int .i64 a2] w fun e w' => e = .returned (.tuple #[.agg #[.int .i64 r1, .int .i64 r2], .int .i64 r3]) ∧ Below w.heap.size w w' := by
  have hu37 := Try.underlying37
  have HB := Aside0.mk (Below.refl w.heap.size w)
  have H : ((round_Shift.f a0_0 a1 a2).bind fun bt111 => (if bt111.2 = 0 then ((round_Shift.f a0_1 a1 a2).bind fun bt113 => (some (bt111.1, bt113.1, 0))) else (some (0, 0, bt111.2)))) = some (r1, r2, r3) := h
  clear h
  replace H := Option.bind_eq_some_iff.mp H
  obtain ⟨⟨t111, t112⟩, A40, H⟩ := H
  replace H : (if t112 = 0 then ((round_Shift.f a0_1 a1 a2).bind fun bt113 => (some (t111, bt113.1, 0))) else (some (0, 0, t112))) = some (r1, r2, r3) := H
  have A4 := Aside0.mk A40
  clear A40
  by_cases c5 : t112 = 0
  · rw [if_pos c5] at H
    have c5b0 : (t112 == 0) = true := beq_iff_eq.mpr c5
    have c5b1 : (t112 != 0) = false := bne_eq_false_iff_eq.mpr c5
    clear c5
    replace H := Option.bind_eq_some_iff.mp H
    obtain ⟨⟨t113, t114⟩, A60, H⟩ := H
    replace H : (some (t111, t113, 0)) = some (r1, r2, r3) := H
    have A6 := Aside0.mk A60
    clear A60
    simp only [Option.some.injEq, Prod.mk.injEq] at H
    obtain ⟨rfl, rfl, rfl⟩ := H
    go_enter Try.func63, Try.ntmps63
    go_wp2_with (first | ((with_reducible refine gate_dst (N := 3) rfl ?_); refine box_event ?hg (N := 3) ?hd (cs := #[.int .i64 a0_0, .int .i64 a0_1]) (t := 37) ?hr ?_; (case hd => rfl); (case hg => rfl); (case hr => first | (go_simp; done) | (go_simp; rfl)); intro gb109 hg w7 hbox hb; have n0_ := Aside0.mk (below_step (by repeat (first | (with_reducible first | exact HB.out | apply below_alloc | apply pw_below_drewN | apply below_drew1) | exact HB.out)) hb); have n1_ := Aside0.mk (hbox); have n2_ := Aside0.mk ((by rw [hg]; exact (below_size (by repeat (first | (with_reducible first | exact HB.out | apply below_alloc | apply pw_below_drewN | apply below_drew1) | exact HB.out))) : w.heap.size ≤ gb109)); have n3_ := Aside0.mk ((by rw [hg]; exact (below_size (by repeat (first | (with_reducible first | exact HB.out | apply below_alloc | apply pw_below_drewN | apply below_drew1) | exact HB.out))) : w.heap.size ≤ gb109)); clear HB; have HB := n0_; have BK109 := n1_; have GW109 := n2_; have GE109 := n3_; clear n0_ n1_ n2_ n3_; clear hb hbox hg) | ((with_reducible refine gate_dst (N := 6) rfl ?_); refine box_event ?hg (N := 6) ?hd (cs := #[.int .i64 0, .int .i64 0]) (t := 37) ?hr ?_; (case hd => rfl); (case hg => rfl); (case hr => first | (go_simp; done) | (go_simp; rfl)); intro gb110 hg w8 hbox hb; have n0_ := Aside0.mk (blk_below (g := gb109) (o := .cells #[.int .i64 a0_0, .int .i64 a0_1] 37 (0, 0)) (by (with_reducible repeat (first | refine blk_drewN ?_ _ | refine blk_drew ?_ | refine blk_alloc ?_ _)); exact BK109.out) hb); have n1_ := Aside0.mk (below_step (by repeat (first | (with_reducible first | exact HB.out | apply below_alloc | apply pw_below_drewN | apply below_drew1 | refine below_set ?_ GE109.out) | exact HB.out)) hb); have n2_ := Aside0.mk (hbox); have n3_ := Aside0.mk ((by rw [hg]; exact (below_size (by repeat (first | (with_reducible first | exact HB.out | apply below_alloc | apply pw_below_drewN | apply below_drew1 | refine below_set ?_ GE109.out) | exact HB.out))) : w.heap.size ≤ gb110)); have n4_ := Aside0.mk ((by rw [hg]; exact (below_size (by repeat (first | (with_reducible first | exact HB.out | apply below_alloc | apply pw_below_drewN | apply below_drew1 | refine below_set ?_ GE109.out) | exact HB.out))) : w.heap.size ≤ gb110)); have n5_ := Aside0.mk ((by rw [hg]; exact Nat.ne_of_lt (blk_lt (g := gb109) (o := .cells #[.int .i64 a0_0, .int .i64 a0_1] 37 (0, 0)) (by (with_reducible repeat (first | refine blk_drewN ?_ _ | refine blk_drew ?_ | refine blk_alloc ?_ _)); exact BK109.out)) : gb109 ≠ gb110)); have n6_ := Aside0.mk ((by rw [hg]; exact Nat.ne_of_gt (blk_lt (g := gb109) (o := .cells #[.int .i64 a0_0, .int .i64 a0_1] 37 (0, 0)) (by (with_reducible repeat (first | refine blk_drewN ?_ _ | refine blk_drew ?_ | refine blk_alloc ?_ _)); exact BK109.out)) : gb110 ≠ gb109)); clear BK109; clear HB; have BK109 := n0_; have HB := n1_; have BK110 := n2_; have GW110 := n3_; have GE110 := n4_; have NB109_110 := n5_; have NB110_109 := n6_; clear n0_ n1_ n2_ n3_ n4_ n5_ n6_; clear hb hbox hg; have hnb9 := NB109_110.out; have hnc9 := NB110_109.out; have hcz10_0 : w8.cell? ⟨gb109, 0, none⟩ = some (.int .i64 a0_0) := (blk_cell BK109.out 0).trans rfl; have hcz10_1 : w8.cell? ⟨gb109, 1, none⟩ = some (.int .i64 a0_1) := (blk_cell BK109.out 1).trans rfl; have hfz10_0 := blk_frozen BK109.out 0; have hfz10_1 := blk_frozen BK109.out 1) | ((with_reducible refine gate_callee (f := 62) rfl ?_); refine goesL_ (some 17) rfl rfl Try.func62 (by kernel_rfl) rfl #[.int .i64 a0_0, .int .i64 a1, .int .i64 a2] rfl (by (try simp only [List.map_toArray, List.map_cons, List.map_nil]); first | done | rfl | (simp only [List.length_drop, List.length_take]; rfl)) ?_; (with_reducible refine (round_Shift.calls a0_0 a1 a2 t111 t112 _ A4.out).mono ?_); rintro e w11 ⟨rfl, hb⟩; refine ⟨_, rfl, ?_⟩; have n0_ := Aside0.mk (blk_below (g := gb109) (o := .cells #[.int .i64 a0_0, .int .i64 a0_1] 37 (0, 0)) (by (with_reducible repeat (first | refine blk_drewN ?_ _ | refine blk_drew ?_ | refine blk_alloc ?_ _)); exact BK109.out) hb); have n1_ := Aside0.mk (blk_below (g := gb110) (o := .cells #[.int .i64 0, .int .i64 0] 37 (0, 0)) (by (with_reducible repeat (first | refine blk_drewN ?_ _ | refine blk_drew ?_ | refine blk_alloc ?_ _)); exact BK110.out) hb); have n2_ := Aside0.mk (below_step (by repeat (first | (with_reducible first | exact HB.out | apply below_alloc | apply pw_below_drewN | apply below_drew1 | refine below_set ?_ GE109.out | refine below_set ?_ GE110.out) | exact HB.out)) hb); clear BK109; clear BK110; clear HB; have BK109 := n0_; have BK110 := n1_; have HB := n2_; clear n0_ n1_ n2_; (try clear hb); (try clear hb2); (try clear hk); (try clear hi); have hcz12_0 : w11.cell? ⟨gb109, 0, none⟩ = some (.int .i64 a0_0) := (blk_cell BK109.out 0).trans rfl; have hcz12_1 : w11.cell? ⟨gb109, 1, none⟩ = some (.int .i64 a0_1) := (blk_cell BK109.out 1).trans rfl; have hfz12_0 := blk_frozen BK109.out 0; have hfz12_1 := blk_frozen BK109.out 1) | ((with_reducible refine gate_callee (f := 62) rfl ?_); refine goesL_ (some 29) rfl rfl Try.func62 (by kernel_rfl) rfl #[.int .i64 a0_1, .int .i64 a1, .int .i64 a2] rfl (by (try simp only [List.map_toArray, List.map_cons, List.map_nil]); first | done | rfl | (simp only [List.length_drop, List.length_take]; rfl)) ?_; (with_reducible refine (round_Shift.calls a0_1 a1 a2 t113 t114 _ A6.out).mono ?_); rintro e w13 ⟨rfl, hb⟩; refine ⟨_, rfl, ?_⟩; have n0_ := Aside0.mk (blk_below (g := gb109) (o := .cells #[.int .i64 a0_0, .int .i64 a0_1] 37 (0, 0)) (by (with_reducible repeat (first | refine blk_drewN ?_ _ | refine blk_drew ?_ | refine blk_alloc ?_ _)); exact BK109.out) hb); have n1_ := Aside0.mk (blk_below (g := gb110) (o := .cells #[.int .i64 0, .int .i64 0] 37 (0, 0)) (by (with_reducible repeat (first | refine blk_drewN ?_ _ | refine blk_drew ?_ | refine blk_alloc ?_ _)); exact BK110.out) hb); have n2_ := Aside0.mk (below_step (by repeat (first | (with_reducible first | exact HB.out | apply below_alloc | apply pw_below_drewN | apply below_drew1 | refine below_set ?_ GE109.out | refine below_set ?_ GE110.out) | exact HB.out)) hb); clear BK109; clear BK110; clear HB; have BK109 := n0_; have BK110 := n1_; have HB := n2_; clear n0_ n1_ n2_; (try clear hb); (try clear hb2); (try clear hk); (try clear hi); have hcz14_0 : w13.cell? ⟨gb110, 0, none⟩ = some (.int .i64 0) := (blk_cell BK110.out 0).trans rfl; have hcz14_1 : w13.cell? ⟨gb110, 1, none⟩ = some (.int .i64 0) := (blk_cell BK110.out 1).trans rfl; have hfz14_0 := blk_frozen BK110.out 0; have hfz14_1 := blk_frozen BK110.out 1))
    refine bodyPost_ret (results_ct rfl _ _ gb110 37 #[.int .i64 t111, .int .i64 t113] (0, 0) _ rfl (by (with_reducible repeat (first | refine blk_drewN ?_ _ | refine blk_drew ?_ | refine blk_alloc ?_ _)); refine blk_put (cs := #[.int .i64 t111, .int .i64 0]) ?_ 1 _ rfl; (with_reducible repeat (first | refine blk_drewN ?_ _ | refine blk_drew ?_ | refine blk_alloc ?_ _)); refine blk_put (cs := #[.int .i64 0, .int .i64 0]) ?_ 0 _ rfl; (with_reducible repeat (first | refine blk_drewN ?_ _ | refine blk_drew ?_ | refine blk_alloc ?_ _)); exact BK110.out) Try.underlying37 rfl (by kernel_rfl)) rfl ?_
    exact ⟨by first | rfl | (simp [errW_none, errW_some] <;> rfl) | (simp [*, errW_none, errW_some] <;> rfl), by repeat (first | (with_reducible first | exact HB.out | apply below_alloc | apply pw_below_drewN | apply below_drew1 | refine below_set ?_ GE109.out | refine below_set ?_ GE110.out) | exact HB.out)⟩
  · rw [if_neg c5] at H
    have c5b0 : (t112 == 0) = false := beq_eq_false_iff_ne.mpr c5
    have c5b1 : (t112 != 0) = true := bne_iff_ne.mpr c5
    simp only [Option.some.injEq, Prod.mk.injEq] at H
    obtain ⟨rfl, rfl, rfl⟩ := H
    go_enter Try.func63, Try.ntmps63
    go_wp2_with (first | ((with_reducible refine gate_dst (N := 3) rfl ?_); refine box_event ?hg (N := 3) ?hd (cs := #[.int .i64 a0_0, .int .i64 a0_1]) (t := 37) ?hr ?_; (case hd => rfl); (case hg => rfl); (case hr => first | (go_simp; done) | (go_simp; rfl)); intro gb109 hg w15 hbox hb; have n0_ := Aside0.mk (below_step (by repeat (first | (with_reducible first | exact HB.out | apply below_alloc | apply pw_below_drewN | apply below_drew1) | exact HB.out)) hb); have n1_ := Aside0.mk (hbox); have n2_ := Aside0.mk ((by rw [hg]; exact (below_size (by repeat (first | (with_reducible first | exact HB.out | apply below_alloc | apply pw_below_drewN | apply below_drew1) | exact HB.out))) : w.heap.size ≤ gb109)); have n3_ := Aside0.mk ((by rw [hg]; exact (below_size (by repeat (first | (with_reducible first | exact HB.out | apply below_alloc | apply pw_below_drewN | apply below_drew1) | exact HB.out))) : w.heap.size ≤ gb109)); clear HB; have HB := n0_; have BK109 := n1_; have GW109 := n2_; have GE109 := n3_; clear n0_ n1_ n2_ n3_; clear hb hbox hg) | ((with_reducible refine gate_dst (N := 6) rfl ?_); refine box_event ?hg (N := 6) ?hd (cs := #[.int .i64 0, .int .i64 0]) (t := 37) ?hr ?_; (case hd => rfl); (case hg => rfl); (case hr => first | (go_simp; done) | (go_simp; rfl)); intro gb110 hg w16 hbox hb; have n0_ := Aside0.mk (blk_below (g := gb109) (o := .cells #[.int .i64 a0_0, .int .i64 a0_1] 37 (0, 0)) (by (with_reducible repeat (first | refine blk_drewN ?_ _ | refine blk_drew ?_ | refine blk_alloc ?_ _)); exact BK109.out) hb); have n1_ := Aside0.mk (below_step (by repeat (first | (with_reducible first | exact HB.out | apply below_alloc | apply pw_below_drewN | apply below_drew1 | refine below_set ?_ GE109.out) | exact HB.out)) hb); have n2_ := Aside0.mk (hbox); have n3_ := Aside0.mk ((by rw [hg]; exact (below_size (by repeat (first | (with_reducible first | exact HB.out | apply below_alloc | apply pw_below_drewN | apply below_drew1 | refine below_set ?_ GE109.out) | exact HB.out))) : w.heap.size ≤ gb110)); have n4_ := Aside0.mk ((by rw [hg]; exact (below_size (by repeat (first | (with_reducible first | exact HB.out | apply below_alloc | apply pw_below_drewN | apply below_drew1 | refine below_set ?_ GE109.out) | exact HB.out))) : w.heap.size ≤ gb110)); have n5_ := Aside0.mk ((by rw [hg]; exact Nat.ne_of_lt (blk_lt (g := gb109) (o := .cells #[.int .i64 a0_0, .int .i64 a0_1] 37 (0, 0)) (by (with_reducible repeat (first | refine blk_drewN ?_ _ | refine blk_drew ?_ | refine blk_alloc ?_ _)); exact BK109.out)) : gb109 ≠ gb110)); have n6_ := Aside0.mk ((by rw [hg]; exact Nat.ne_of_gt (blk_lt (g := gb109) (o := .cells #[.int .i64 a0_0, .int .i64 a0_1] 37 (0, 0)) (by (with_reducible repeat (first | refine blk_drewN ?_ _ | refine blk_drew ?_ | refine blk_alloc ?_ _)); exact BK109.out)) : gb110 ≠ gb109)); clear BK109; clear HB; have BK109 := n0_; have HB := n1_; have BK110 := n2_; have GW110 := n3_; have GE110 := n4_; have NB109_110 := n5_; have NB110_109 := n6_; clear n0_ n1_ n2_ n3_ n4_ n5_ n6_; clear hb hbox hg; have hnb17 := NB109_110.out; have hnc17 := NB110_109.out; have hcz18_0 : w16.cell? ⟨gb109, 0, none⟩ = some (.int .i64 a0_0) := (blk_cell BK109.out 0).trans rfl; have hcz18_1 : w16.cell? ⟨gb109, 1, none⟩ = some (.int .i64 a0_1) := (blk_cell BK109.out 1).trans rfl; have hfz18_0 := blk_frozen BK109.out 0; have hfz18_1 := blk_frozen BK109.out 1) | ((with_reducible refine gate_callee (f := 62) rfl ?_); refine goesL_ (some 17) rfl rfl Try.func62 (by kernel_rfl) rfl #[.int .i64 a0_0, .int .i64 a1, .int .i64 a2] rfl (by (try simp only [List.map_toArray, List.map_cons, List.map_nil]); first | done | rfl | (simp only [List.length_drop, List.length_take]; rfl)) ?_; (with_reducible refine (round_Shift.calls a0_0 a1 a2 t111 t112 _ A4.out).mono ?_); rintro e w19 ⟨rfl, hb⟩; refine ⟨_, rfl, ?_⟩; have n0_ := Aside0.mk (blk_below (g := gb109) (o := .cells #[.int .i64 a0_0, .int .i64 a0_1] 37 (0, 0)) (by (with_reducible repeat (first | refine blk_drewN ?_ _ | refine blk_drew ?_ | refine blk_alloc ?_ _)); exact BK109.out) hb); have n1_ := Aside0.mk (blk_below (g := gb110) (o := .cells #[.int .i64 0, .int .i64 0] 37 (0, 0)) (by (with_reducible repeat (first | refine blk_drewN ?_ _ | refine blk_drew ?_ | refine blk_alloc ?_ _)); exact BK110.out) hb); have n2_ := Aside0.mk (below_step (by repeat (first | (with_reducible first | exact HB.out | apply below_alloc | apply pw_below_drewN | apply below_drew1 | refine below_set ?_ GE109.out | refine below_set ?_ GE110.out) | exact HB.out)) hb); clear BK109; clear BK110; clear HB; have BK109 := n0_; have BK110 := n1_; have HB := n2_; clear n0_ n1_ n2_; (try clear hb); (try clear hb2); (try clear hk); (try clear hi); have hcz20_0 : w19.cell? ⟨gb110, 0, none⟩ = some (.int .i64 0) := (blk_cell BK110.out 0).trans rfl; have hcz20_1 : w19.cell? ⟨gb110, 1, none⟩ = some (.int .i64 0) := (blk_cell BK110.out 1).trans rfl; have hfz20_0 := blk_frozen BK110.out 0; have hfz20_1 := blk_frozen BK110.out 1))
    refine bodyPost_ret (results_ct rfl _ _ gb110 37 #[.int .i64 0, .int .i64 0] (0, 0) _ rfl (by (with_reducible repeat (first | refine blk_drewN ?_ _ | refine blk_drew ?_ | refine blk_alloc ?_ _)); refine blk_put (cs := #[.int .i64 0, .int .i64 0]) ?_ 1 _ rfl; (with_reducible repeat (first | refine blk_drewN ?_ _ | refine blk_drew ?_ | refine blk_alloc ?_ _)); refine blk_put (cs := #[.int .i64 0, .int .i64 0]) ?_ 0 _ rfl; (with_reducible repeat (first | refine blk_drewN ?_ _ | refine blk_drew ?_ | refine blk_alloc ?_ _)); exact BK110.out) Try.underlying37 rfl (by kernel_rfl)) rfl ?_
    exact ⟨by first | rfl | (simp [errW_none, errW_some] <;> rfl) | (simp [*, errW_none, errW_some] <;> rfl), by repeat (first | (with_reducible first | exact HB.out | apply below_alloc | apply pw_below_drewN | apply below_drew1 | refine below_set ?_ GE109.out | refine below_set ?_ GE110.out) | exact HB.out)⟩

end Go.Proofs.Ytfemklaeonkidaa.P

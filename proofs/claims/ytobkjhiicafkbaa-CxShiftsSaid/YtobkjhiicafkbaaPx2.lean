-- Laid by this session's program hyb.py, out of the kit's print and this session's own contracts.
import Derived.Test.YtobkjhiicafkbaaPx0
namespace Go.Proofs.Ytobkjhiicafkbaa.P
open Go.RowKit Go.Proofs.YtobkjhiicafkbaaW.PrintWords Go.Proofs.YtobkjhiicafkbaaW.PrintLast Go.Proofs.YtobkjhiicafkbaaW.PrintMore Go.Proofs.YtobkjhiicafkbaaW.Hand
attribute [local go_sem] max2_int min2_int max_two min_two max_three min_three max_four min_four   -- for this text's walks alone
set_option linter.unusedVariables false
set_option linter.unusedSimpArgs false

-- NOT PRINTED: function 53 (round_modes)

/-! ### round_Shift: function 15 -/
theorem round_modes.m0 (l h : Int) (b : Bool) (w : World) : Calls Try.prog 72 #[.int .i64 l, .int .i64 h, .bool b] w fun e w' => e = .returned (.bool false) ∧ w' = w := by
  go_enter Try.func72, Try.ntmps72
  go_wp2
  go_ret
  exact ⟨rfl, rfl⟩
theorem round_modes.m1 (l h : Int) (b r : Bool) (hr : Hid (decide (h ≤ l) = r)) (w : World) : Calls Try.prog 73 #[.int .i64 l, .int .i64 h, .bool b] w fun e w' => e = .returned (.bool r) ∧ w' = w := by
  go_enter Try.func73, Try.ntmps73
  go_wp2
  go_ret
  exact ⟨by rw [← hr.out]; rfl, rfl⟩
theorem round_modes.m2 (l h : Int) (b r : Bool) (hr : Hid ((decide (h < l) || (decide (l = h) && b)) = r)) (w : World) : Calls Try.prog 74 #[.int .i64 l, .int .i64 h, .bool b] w fun e w' => e = .returned (.bool r) ∧ w' = w := by
  by_cases h1 : h < l
  · have hd : decide (h < l) = true := by simpa using h1
    have h3 := Lib.hid (show true = r by rw [← hr.out, hd]; rfl)
    go_enter Try.func74, Try.ntmps74
    go_wp2
    go_ret
    exact ⟨by rw [← h3.out]; rfl, rfl⟩
  · have hd : decide (h < l) = false := by simpa using h1
    by_cases h2 : l = h
    · have h3 := Lib.hid (show b = r by rw [← hr.out, hd, decide_eq_true h2]; simp)
      have he : (l == h) = true := by simpa using h2
      clear h2
      go_enter Try.func74, Try.ntmps74
      go_wp2
      go_ret
      exact ⟨by rw [← h3.out]; rfl, rfl⟩
    · have h3 := Lib.hid (show false = r by rw [← hr.out, hd, decide_eq_false h2]; simp)
      have he : (l == h) = false := by simpa using h2
      clear h2
      go_enter Try.func74, Try.ntmps74
      go_wp2
      go_ret
      exact ⟨by rw [← h3.out]; rfl, rfl⟩
def round_Shift.f (a0 a1 a2 : Int) : Option (Int × Int) := if a1 < 0 ∨ 62 < a1 ∨ a2 < 0 ∨ 2 < a2 then some (0, 1) else some (rshift a0 a1 a2, 0)
theorem round_Shift.bad0 (x s how : Int) (w : World) (h : s < 0 ∨ 62 < s ∨ how < 0 ∨ 2 < how) :
    Calls Try.prog 15 #[.int .i64 x, .int .i64 s, .int .i64 how] w fun e w' => e = .returned (.tuple #[.int .i64 0, .int .i64 1]) ∧ Below w.heap.size w w' := by
  by_cases h1 : s < 0
  · have g1 : decide (s < 0) = true := by simpa using h1
    clear h h1
    go_enter Try.func15, Try.ntmps15
    go_wp2
    go_ret2
    exact ⟨rfl, below_alloc (Below.refl _ _) _⟩
  by_cases h2 : 62 < s
  · have g1 : decide (s < 0) = false := by simpa using h1
    have g2 : decide (62 < s) = true := by simpa using h2
    clear h h1 h2
    go_enter Try.func15, Try.ntmps15
    go_wp2
    go_ret2
    exact ⟨rfl, below_alloc (Below.refl _ _) _⟩
  have g1 : decide (s < 0) = false := by simpa using h1
  have g2 : decide (62 < s) = false := by simpa using h2
  by_cases h3 : how < 0
  · have g3 : decide (how < 0) = true := by simpa using h3
    clear h h1 h2 h3
    go_enter Try.func15, Try.ntmps15
    go_wp2
    go_ret2
    exact ⟨rfl, below_alloc (Below.refl _ _) _⟩
  · have g3 : decide (how < 0) = false := by simpa using h3
    have g4 : decide (3 ≤ how) = true := by simp; omega
    clear h h1 h2 h3
    go_enter Try.func15, Try.ntmps15
    go_wp2
    go_ret2
    exact ⟨rfl, below_alloc (Below.refl _ _) _⟩
theorem round_Shift.zero (x how : Int) (w : World) (h : how = 0 ∨ how = 1 ∨ how = 2) :
    Calls Try.prog 15 #[.int .i64 x, .int .i64 0, .int .i64 how] w fun e w' => e = .returned (.tuple #[.int .i64 x, .int .i64 0]) ∧ Below w.heap.size w w' := by
  rcases h with rfl | rfl | rfl
  all_goals
    go_enter Try.func15, Try.ntmps15
    go_wp2
    go_ret2
    exact ⟨rfl, below_alloc (Below.refl _ _) _⟩
set_option maxHeartbeats 2000000 in
theorem round_Shift.way0f (x s : Int) (w : World) (h1 : 1 ≤ s) (h2 : s ≤ 62) :
    Calls Try.prog 15 #[.int .i64 x, .int .i64 s, .int .i64 0] w fun e w' => e = .returned (.tuple #[.int .i64 (x / 2 ^ s.toNat), .int .i64 0]) ∧ Below w.heap.size w w' := by
  have g1 : decide (s < 0) = false := by simp; omega
  have g2 : decide (62 < s) = false := by simp; omega
  have g3 : (s == 0) = false := by simp; omega
  have h5 : s.toNat ≤ 62 := by omega
  have h6 : s.toNat - 1 ≤ 62 := by omega
  go_enter Try.func15, Try.ntmps15
  go_wp2
  go_quiet ((go_at_call 72; exact Calls.quiet_of_same (round_modes.m0 _ _ _ _)))
  go_wp2
  go_ret2
  exact ⟨rfl, pw_below_drewN (below_alloc (Below.refl _ _) _) _⟩
set_option maxHeartbeats 2000000 in
theorem round_Shift.way1t (x s : Int) (w : World) (h1 : 1 ≤ s) (h2 : s ≤ 62) (hu : Hid (goesUp x s 1 = true)) :
    Calls Try.prog 15 #[.int .i64 x, .int .i64 s, .int .i64 1] w fun e w' => e = .returned (.tuple #[.int .i64 (wrap64 (x / 2 ^ s.toNat + 1)), .int .i64 0]) ∧ Below w.heap.size w w' := by
  have g1 : decide (s < 0) = false := by simp; omega
  have g2 : decide (62 < s) = false := by simp; omega
  have g3 : (s == 0) = false := by simp; omega
  have h5 : s.toNat ≤ 62 := by omega
  have h6 : s.toNat - 1 ≤ 62 := by omega
  go_enter Try.func15, Try.ntmps15
  go_wp2
  go_quiet ((go_at_call 73; exact Calls.quiet_of_same (round_modes.m1 _ _ _ true (by rw [mask_wrap h5, pow_wrap h6]; exact hu) _)))
  go_wp2
  go_ret2
  exact ⟨rfl, pw_below_drewN (below_alloc (Below.refl _ _) _) _⟩
set_option maxHeartbeats 2000000 in
theorem round_Shift.way1f (x s : Int) (w : World) (h1 : 1 ≤ s) (h2 : s ≤ 62) (hu : Hid (goesUp x s 1 = false)) :
    Calls Try.prog 15 #[.int .i64 x, .int .i64 s, .int .i64 1] w fun e w' => e = .returned (.tuple #[.int .i64 (x / 2 ^ s.toNat), .int .i64 0]) ∧ Below w.heap.size w w' := by
  have g1 : decide (s < 0) = false := by simp; omega
  have g2 : decide (62 < s) = false := by simp; omega
  have g3 : (s == 0) = false := by simp; omega
  have h5 : s.toNat ≤ 62 := by omega
  have h6 : s.toNat - 1 ≤ 62 := by omega
  go_enter Try.func15, Try.ntmps15
  go_wp2
  go_quiet ((go_at_call 73; exact Calls.quiet_of_same (round_modes.m1 _ _ _ false (by rw [mask_wrap h5, pow_wrap h6]; exact hu) _)))
  go_wp2
  go_ret2
  exact ⟨rfl, pw_below_drewN (below_alloc (Below.refl _ _) _) _⟩
set_option maxHeartbeats 2000000 in
theorem round_Shift.way2t (x s : Int) (w : World) (h1 : 1 ≤ s) (h2 : s ≤ 62) (hu : Hid (goesUp x s 2 = true)) :
    Calls Try.prog 15 #[.int .i64 x, .int .i64 s, .int .i64 2] w fun e w' => e = .returned (.tuple #[.int .i64 (wrap64 (x / 2 ^ s.toNat + 1)), .int .i64 0]) ∧ Below w.heap.size w w' := by
  have g1 : decide (s < 0) = false := by simp; omega
  have g2 : decide (62 < s) = false := by simp; omega
  have g3 : (s == 0) = false := by simp; omega
  have h5 : s.toNat ≤ 62 := by omega
  have h6 : s.toNat - 1 ≤ 62 := by omega
  go_enter Try.func15, Try.ntmps15
  go_wp2
  go_quiet ((go_at_call 74; exact Calls.quiet_of_same (round_modes.m2 _ _ _ true (by rw [mask_wrap h5, pow_wrap h6, and1_64]; exact hu) _)))
  go_wp2
  go_ret2
  exact ⟨rfl, pw_below_drewN (below_alloc (Below.refl _ _) _) _⟩
set_option maxHeartbeats 2000000 in
theorem round_Shift.way2f (x s : Int) (w : World) (h1 : 1 ≤ s) (h2 : s ≤ 62) (hu : Hid (goesUp x s 2 = false)) :
    Calls Try.prog 15 #[.int .i64 x, .int .i64 s, .int .i64 2] w fun e w' => e = .returned (.tuple #[.int .i64 (x / 2 ^ s.toNat), .int .i64 0]) ∧ Below w.heap.size w w' := by
  have g1 : decide (s < 0) = false := by simp; omega
  have g2 : decide (62 < s) = false := by simp; omega
  have g3 : (s == 0) = false := by simp; omega
  have h5 : s.toNat ≤ 62 := by omega
  have h6 : s.toNat - 1 ≤ 62 := by omega
  go_enter Try.func15, Try.ntmps15
  go_wp2
  go_quiet ((go_at_call 74; exact Calls.quiet_of_same (round_modes.m2 _ _ _ false (by rw [mask_wrap h5, pow_wrap h6, and1_64]; exact hu) _)))
  go_wp2
  go_ret2
  exact ⟨rfl, pw_below_drewN (below_alloc (Below.refl _ _) _) _⟩
theorem round_Shift.calls (a0 a1 a2 : Int) (r1 r2 : Int) (w : World) (h : round_Shift.f a0 a1 a2 = some (r1, r2)) :
    Calls Try.prog 15 #[.int .i64 a0, .int .i64 a1, .int .i64 a2] w fun e w' => e = .returned (.tuple #[.int .i64 r1, .int .i64 r2]) ∧ Below w.heap.size w w' := by
  unfold round_Shift.f at h
  by_cases hb : a1 < 0 ∨ 62 < a1 ∨ a2 < 0 ∨ 2 < a2
  · rw [if_pos hb] at h
    obtain ⟨rfl, rfl⟩ : 0 = r1 ∧ 1 = r2 := by simpa using h
    exact round_Shift.bad0 a0 a1 a2 w hb
  · rw [if_neg hb] at h
    obtain ⟨rfl, rfl⟩ : rshift a0 a1 a2 = r1 ∧ 0 = r2 := by simpa using h
    clear h
    have hm : a2 = 0 ∨ a2 = 1 ∨ a2 = 2 := by omega
    unfold rshift
    by_cases hs : a1 = 0
    · subst hs
      rw [if_pos rfl]
      exact round_Shift.zero a0 a2 w hm
    · rw [if_neg hs]
      have h1 : 1 ≤ a1 := by omega
      have h2 : a1 ≤ 62 := by omega
      rcases hm with rfl | rfl | rfl
      · exact round_Shift.way0f a0 a1 w h1 h2
      · cases hu : goesUp a0 a1 1 with
        | true => exact round_Shift.way1t a0 a1 w h1 h2 (Lib.hid hu)
        | false => exact round_Shift.way1f a0 a1 w h1 h2 (Lib.hid hu)
      · cases hu : goesUp a0 a1 2 with
        | true => exact round_Shift.way2t a0 a1 w h1 h2 (Lib.hid hu)
        | false => exact round_Shift.way2f a0 a1 w h1 h2 (Lib.hid hu)

/-! ### headroomlaw01_alive: function 16 -/
def headroomlaw01_alive.f  : Option (Bool) := (round_Shift.f (-3) 1 1).bind fun bt101 => ((round_Shift.f (-3) 1 0).bind fun bt103 => (if bt101.2 = 0 then (if bt103.2 = 0 then (if bt101.1 = (-1) then (some (bt103.1 == (-2))) else (some false)) else (some false)) else (some false)))
set_option maxHeartbeats 8000000 in
set_option maxRecDepth 100000 in
theorem headroomlaw01_alive.calls  (r : Bool) (w : World) (h : headroomlaw01_alive.f  = some r) :
    Calls Try.prog 16 #[] w fun e w' => e = .returned (.bool r) ∧ Below w.heap.size w w' := by
  have HB := Aside0.mk (Below.refl w.heap.size w)
  have H : ((round_Shift.f (-3) 1 1).bind fun bt101 => ((round_Shift.f (-3) 1 0).bind fun bt103 => (if bt101.2 = 0 then (if bt103.2 = 0 then (if bt101.1 = (-1) then (some (bt103.1 == (-2))) else (some false)) else (some false)) else (some false)))) = some r := h
  clear h
  replace H := Option.bind_eq_some_iff.mp H
  obtain ⟨⟨t101, t102⟩, A10, H⟩ := H
  replace H : ((round_Shift.f (-3) 1 0).bind fun bt103 => (if t102 = 0 then (if bt103.2 = 0 then (if t101 = (-1) then (some (bt103.1 == (-2))) else (some false)) else (some false)) else (some false))) = some r := H
  have A1 := Aside0.mk A10
  clear A10
  replace H := Option.bind_eq_some_iff.mp H
  obtain ⟨⟨t103, t104⟩, A20, H⟩ := H
  replace H : (if t102 = 0 then (if t104 = 0 then (if t101 = (-1) then (some (t103 == (-2))) else (some false)) else (some false)) else (some false)) = some r := H
  have A2 := Aside0.mk A20
  clear A20
  by_cases c3 : t102 = 0
  · rw [if_pos c3] at H
    have c3b0 : (t102 == 0) = true := beq_iff_eq.mpr c3
    have c3b1 : (t102 != 0) = false := bne_eq_false_iff_eq.mpr c3
    clear c3
    by_cases c4 : t104 = 0
    · rw [if_pos c4] at H
      have c4b0 : (t104 == 0) = true := beq_iff_eq.mpr c4
      have c4b1 : (t104 != 0) = false := bne_eq_false_iff_eq.mpr c4
      clear c4
      by_cases c5 : t101 = (-1)
      · rw [if_pos c5] at H
        have c5b0 : (t101 == (-1)) = true := beq_iff_eq.mpr c5
        have c5b1 : (t101 != (-1)) = false := bne_eq_false_iff_eq.mpr c5
        clear c5
        obtain rfl := Option.some.inj H
        go_enter Try.func16, Try.ntmps16
        go_wp2_with (first | ((with_reducible refine gate_callee (f := 15) rfl ?_); refine goesL_ (some 6) rfl rfl Try.func15 (by kernel_rfl) rfl #[.int .i64 (-3), .int .i64 1, .int .i64 1] rfl (by (try simp only [List.map_toArray, List.map_cons, List.map_nil]); first | done | rfl | (simp only [List.length_drop, List.length_take]; rfl)) ?_; (with_reducible refine (round_Shift.calls (-3) 1 1 t101 t102 _ A1.out).mono ?_); rintro e w6 ⟨rfl, hb⟩; refine ⟨_, rfl, ?_⟩; have n0_ := Aside0.mk (below_step (by repeat (first | (with_reducible first | exact HB.out | apply below_alloc | apply pw_below_drewN | apply below_drew1) | exact HB.out)) hb); clear HB; have HB := n0_; clear n0_; (try clear hb); (try clear hb2); (try clear hk); (try clear hi)) | ((with_reducible refine gate_callee (f := 15) rfl ?_); refine goesL_ (some 10) rfl rfl Try.func15 (by kernel_rfl) rfl #[.int .i64 (-3), .int .i64 1, .int .i64 0] rfl (by (try simp only [List.map_toArray, List.map_cons, List.map_nil]); first | done | rfl | (simp only [List.length_drop, List.length_take]; rfl)) ?_; (with_reducible refine (round_Shift.calls (-3) 1 0 t103 t104 _ A2.out).mono ?_); rintro e w7 ⟨rfl, hb⟩; refine ⟨_, rfl, ?_⟩; have n0_ := Aside0.mk (below_step (by repeat (first | (with_reducible first | exact HB.out | apply below_alloc | apply pw_below_drewN | apply below_drew1) | exact HB.out)) hb); clear HB; have HB := n0_; clear n0_; (try clear hb); (try clear hb2); (try clear hk); (try clear hi)))
        go_ret
        exact ⟨by first | rfl | (simp [errW_none, errW_some] <;> rfl) | (simp [*, errW_none, errW_some] <;> rfl), by repeat (first | (with_reducible first | exact HB.out | apply below_alloc | apply pw_below_drewN | apply below_drew1) | exact HB.out)⟩
      · rw [if_neg c5] at H
        have c5b0 : (t101 == (-1)) = false := beq_eq_false_iff_ne.mpr c5
        have c5b1 : (t101 != (-1)) = true := bne_iff_ne.mpr c5
        obtain rfl := Option.some.inj H
        go_enter Try.func16, Try.ntmps16
        go_wp2_with (first | ((with_reducible refine gate_callee (f := 15) rfl ?_); refine goesL_ (some 6) rfl rfl Try.func15 (by kernel_rfl) rfl #[.int .i64 (-3), .int .i64 1, .int .i64 1] rfl (by (try simp only [List.map_toArray, List.map_cons, List.map_nil]); first | done | rfl | (simp only [List.length_drop, List.length_take]; rfl)) ?_; (with_reducible refine (round_Shift.calls (-3) 1 1 t101 t102 _ A1.out).mono ?_); rintro e w8 ⟨rfl, hb⟩; refine ⟨_, rfl, ?_⟩; have n0_ := Aside0.mk (below_step (by repeat (first | (with_reducible first | exact HB.out | apply below_alloc | apply pw_below_drewN | apply below_drew1) | exact HB.out)) hb); clear HB; have HB := n0_; clear n0_; (try clear hb); (try clear hb2); (try clear hk); (try clear hi)) | ((with_reducible refine gate_callee (f := 15) rfl ?_); refine goesL_ (some 10) rfl rfl Try.func15 (by kernel_rfl) rfl #[.int .i64 (-3), .int .i64 1, .int .i64 0] rfl (by (try simp only [List.map_toArray, List.map_cons, List.map_nil]); first | done | rfl | (simp only [List.length_drop, List.length_take]; rfl)) ?_; (with_reducible refine (round_Shift.calls (-3) 1 0 t103 t104 _ A2.out).mono ?_); rintro e w9 ⟨rfl, hb⟩; refine ⟨_, rfl, ?_⟩; have n0_ := Aside0.mk (below_step (by repeat (first | (with_reducible first | exact HB.out | apply below_alloc | apply pw_below_drewN | apply below_drew1) | exact HB.out)) hb); clear HB; have HB := n0_; clear n0_; (try clear hb); (try clear hb2); (try clear hk); (try clear hi)))
        go_ret
        exact ⟨by first | rfl | (simp [errW_none, errW_some] <;> rfl) | (simp [*, errW_none, errW_some] <;> rfl), by repeat (first | (with_reducible first | exact HB.out | apply below_alloc | apply pw_below_drewN | apply below_drew1) | exact HB.out)⟩
    · rw [if_neg c4] at H
      have c4b0 : (t104 == 0) = false := beq_eq_false_iff_ne.mpr c4
      have c4b1 : (t104 != 0) = true := bne_iff_ne.mpr c4
      obtain rfl := Option.some.inj H
      go_enter Try.func16, Try.ntmps16
      go_wp2_with (first | ((with_reducible refine gate_callee (f := 15) rfl ?_); refine goesL_ (some 6) rfl rfl Try.func15 (by kernel_rfl) rfl #[.int .i64 (-3), .int .i64 1, .int .i64 1] rfl (by (try simp only [List.map_toArray, List.map_cons, List.map_nil]); first | done | rfl | (simp only [List.length_drop, List.length_take]; rfl)) ?_; (with_reducible refine (round_Shift.calls (-3) 1 1 t101 t102 _ A1.out).mono ?_); rintro e w10 ⟨rfl, hb⟩; refine ⟨_, rfl, ?_⟩; have n0_ := Aside0.mk (below_step (by repeat (first | (with_reducible first | exact HB.out | apply below_alloc | apply pw_below_drewN | apply below_drew1) | exact HB.out)) hb); clear HB; have HB := n0_; clear n0_; (try clear hb); (try clear hb2); (try clear hk); (try clear hi)) | ((with_reducible refine gate_callee (f := 15) rfl ?_); refine goesL_ (some 10) rfl rfl Try.func15 (by kernel_rfl) rfl #[.int .i64 (-3), .int .i64 1, .int .i64 0] rfl (by (try simp only [List.map_toArray, List.map_cons, List.map_nil]); first | done | rfl | (simp only [List.length_drop, List.length_take]; rfl)) ?_; (with_reducible refine (round_Shift.calls (-3) 1 0 t103 t104 _ A2.out).mono ?_); rintro e w11 ⟨rfl, hb⟩; refine ⟨_, rfl, ?_⟩; have n0_ := Aside0.mk (below_step (by repeat (first | (with_reducible first | exact HB.out | apply below_alloc | apply pw_below_drewN | apply below_drew1) | exact HB.out)) hb); clear HB; have HB := n0_; clear n0_; (try clear hb); (try clear hb2); (try clear hk); (try clear hi)))
      go_ret
      exact ⟨by first | rfl | (simp [errW_none, errW_some] <;> rfl) | (simp [*, errW_none, errW_some] <;> rfl), by repeat (first | (with_reducible first | exact HB.out | apply below_alloc | apply pw_below_drewN | apply below_drew1) | exact HB.out)⟩
  · rw [if_neg c3] at H
    have c3b0 : (t102 == 0) = false := beq_eq_false_iff_ne.mpr c3
    have c3b1 : (t102 != 0) = true := bne_iff_ne.mpr c3
    obtain rfl := Option.some.inj H
    go_enter Try.func16, Try.ntmps16
    go_wp2_with (first | ((with_reducible refine gate_callee (f := 15) rfl ?_); refine goesL_ (some 6) rfl rfl Try.func15 (by kernel_rfl) rfl #[.int .i64 (-3), .int .i64 1, .int .i64 1] rfl (by (try simp only [List.map_toArray, List.map_cons, List.map_nil]); first | done | rfl | (simp only [List.length_drop, List.length_take]; rfl)) ?_; (with_reducible refine (round_Shift.calls (-3) 1 1 t101 t102 _ A1.out).mono ?_); rintro e w12 ⟨rfl, hb⟩; refine ⟨_, rfl, ?_⟩; have n0_ := Aside0.mk (below_step (by repeat (first | (with_reducible first | exact HB.out | apply below_alloc | apply pw_below_drewN | apply below_drew1) | exact HB.out)) hb); clear HB; have HB := n0_; clear n0_; (try clear hb); (try clear hb2); (try clear hk); (try clear hi)) | ((with_reducible refine gate_callee (f := 15) rfl ?_); refine goesL_ (some 10) rfl rfl Try.func15 (by kernel_rfl) rfl #[.int .i64 (-3), .int .i64 1, .int .i64 0] rfl (by (try simp only [List.map_toArray, List.map_cons, List.map_nil]); first | done | rfl | (simp only [List.length_drop, List.length_take]; rfl)) ?_; (with_reducible refine (round_Shift.calls (-3) 1 0 t103 t104 _ A2.out).mono ?_); rintro e w13 ⟨rfl, hb⟩; refine ⟨_, rfl, ?_⟩; have n0_ := Aside0.mk (below_step (by repeat (first | (with_reducible first | exact HB.out | apply below_alloc | apply pw_below_drewN | apply below_drew1) | exact HB.out)) hb); clear HB; have HB := n0_; clear n0_; (try clear hb); (try clear hb2); (try clear hk); (try clear hi)))
    go_ret
    exact ⟨by first | rfl | (simp [errW_none, errW_some] <;> rfl) | (simp [*, errW_none, errW_some] <;> rfl), by repeat (first | (with_reducible first | exact HB.out | apply below_alloc | apply pw_below_drewN | apply below_drew1) | exact HB.out)⟩

end Go.Proofs.Ytobkjhiicafkbaa.P

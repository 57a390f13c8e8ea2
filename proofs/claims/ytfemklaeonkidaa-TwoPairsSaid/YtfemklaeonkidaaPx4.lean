-- Laid by this session's program hyb.py, out of the kit's print and this session's own contracts.
import Derived.Test.YtfemklaeonkidaaPx0
import Derived.Test.YtfemklaeonkidaaPx2
namespace Go.Proofs.Ytfemklaeonkidaa.P
open Go.RowKit Go.Proofs.YtfemklaeonkidaaW.PrintWords Go.Proofs.YtfemklaeonkidaaW.PrintLast Go.Proofs.YtfemklaeonkidaaW.PrintMore Go.Proofs.YtfemklaeonkidaaW.Hand
attribute [local go_sem] max2_int min2_int max_two min_two max_three min_three max_four min_four   -- for this text's walks alone
set_option linter.unusedVariables false
set_option linter.unusedSimpArgs false

/-! ### scan_Pre: function 17 -/
theorem scan_Pre.zero (w : World) : (zeroValue 3).run Try.prog w = .ok (.int .i64 0) w := by kernel_rfl
theorem scan_Pre.put1 (W : World) : (Instr.mapUpdate 65 (.map (some W.heap.size)) (.int .i64 2) (.int .i64 2)).run Try.prog (W.alloc (.map #[] 0)) = .ok () (W.alloc (.map #[⟨.int .i64 2, .int .i64 2, 0⟩] 1)) := map_put W #[] 0 2 2 Try.underlying65 Try.underlying3 rfl
theorem scan_Pre.put2 (W : World) : (Instr.mapUpdate 65 (.map (some W.heap.size)) (.int .i64 4) (.int .i64 3)).run Try.prog (W.alloc (.map #[⟨.int .i64 2, .int .i64 2, 0⟩] 1)) = .ok () (W.alloc (.map #[⟨.int .i64 2, .int .i64 2, 0⟩, ⟨.int .i64 4, .int .i64 3, 1⟩] 2)) := map_put W #[⟨.int .i64 2, .int .i64 2, 0⟩] 1 4 3 Try.underlying65 Try.underlying3 rfl
theorem scan_Pre.get2 (W : World) : (Instr.lookup 65 (.map (some W.heap.size)) (.int .i64 2) false).run Try.prog (W.alloc (.map #[⟨.int .i64 2, .int .i64 2, 0⟩, ⟨.int .i64 4, .int .i64 3, 1⟩] 2)) = .ok (.int .i64 2) (W.alloc (.map #[⟨.int .i64 2, .int .i64 2, 0⟩, ⟨.int .i64 4, .int .i64 3, 1⟩] 2)) := map_get W _ 2 2 2 0 Try.underlying65 Try.underlying3 rfl
theorem scan_Pre.get4 (W : World) : (Instr.lookup 65 (.map (some W.heap.size)) (.int .i64 4) false).run Try.prog (W.alloc (.map #[⟨.int .i64 2, .int .i64 2, 0⟩, ⟨.int .i64 4, .int .i64 3, 1⟩] 2)) = .ok (.int .i64 3) (W.alloc (.map #[⟨.int .i64 2, .int .i64 2, 0⟩, ⟨.int .i64 4, .int .i64 3, 1⟩] 2)) := map_get W _ 2 4 3 1 Try.underlying65 Try.underlying3 rfl
theorem scan_Pre.miss (k : Int) (h2 : k ≠ 2) (h4 : k ≠ 4) (W : World) : (Instr.lookup 65 (.map (some W.heap.size)) (.int .i64 k) false).run Try.prog (W.alloc (.map #[⟨.int .i64 2, .int .i64 2, 0⟩, ⟨.int .i64 4, .int .i64 3, 1⟩] 2)) = .ok (.int .i64 0) (W.alloc (.map #[⟨.int .i64 2, .int .i64 2, 0⟩, ⟨.int .i64 4, .int .i64 3, 1⟩] 2)) :=
  map_miss W _ 2 k Try.underlying65 Try.underlying3 scan_Pre.zero (by
    have e2 : (k == 2) = false := by simpa using h2
    have e4 : (k == 4) = false := by simpa using h4
    simp [Instr.findNow, Instr.sameNow, e2, e4])
theorem scan_may.some_ (m fmt : Int) : ∃ r1 r2, scan_may.f m fmt = some (r1, r2) := by
  unfold scan_may.f sat_Bits.f
  by_cases h0 : fmt = 0
  · rw [if_pos h0]
    simp only [Option.bind_some, if_true]
    split
    · exact ⟨_, _, rfl⟩
    · rw [if_pos (by decide)]
      split <;> exact ⟨_, _, rfl⟩
  · rw [if_neg h0]
    by_cases h1 : fmt = 1
    · rw [if_pos h1]
      simp only [Option.bind_some, if_true]
      split
      · exact ⟨_, _, rfl⟩
      · rw [if_pos (by decide)]
        split <;> exact ⟨_, _, rfl⟩
    · rw [if_neg h1]
      exact ⟨_, _, rfl⟩
theorem shl15 : shl .i64 1 15 = 32768 := by decide
theorem shl31 : shl .i64 1 31 = 2147483648 := by decide
def mayf (m fmt : Int) : Int × Int := if fmt = 0 ∨ fmt = 1 then (if m < 0 ∨ mag fmt < m then (0, 2) else (if fmt = 1 then 31 else 15, 0)) else (0, 1)
theorem scan_may.eq (m fmt : Int) : scan_may.f m fmt = some (mayf m fmt) := by
  unfold scan_may.f sat_Bits.f mayf mag
  by_cases h0 : fmt = 0
  · subst h0
    simp only [Option.bind_some, if_true, true_or, Int.reduceEq, if_false, shl15]
    by_cases h1 : m < 0
    · rw [if_pos h1, if_pos (.inl h1)]
    · rw [if_neg h1, if_pos (by decide)]
      by_cases h2 : m > 32768
      · rw [if_pos h2, if_pos (.inr h2)]
      · rw [if_neg h2, if_neg (by omega)]
  · rw [if_neg h0]
    by_cases h1 : fmt = 1
    · subst h1
      simp only [Option.bind_some, if_true, or_true, shl31]
      by_cases h1 : m < 0
      · rw [if_pos h1, if_pos (.inl h1)]
      · rw [if_neg h1, if_pos (by decide)]
        by_cases h2 : m > 2147483648
        · rw [if_pos h2, if_pos (.inr h2)]
        · rw [if_neg h2, if_neg (by omega)]
    · rw [if_neg h1, if_neg (by omega)]
      rfl
def scan_Pre.f (a0 a1 a2 : Int) : Option (Int × Int) := some (if (a2 = 0 ∨ a2 = 1) ∧ (a0 = 2 ∨ a0 = 4) then (if a1 < 0 ∨ mag a2 < a1 then (0, 2) else (pre a0 a2 a1, 0)) else (0, 1))
set_option maxHeartbeats 1000000 in
theorem scan_Pre.other (k m fmt : Int) (w : World) (h2 : k ≠ 2) (h4 : k ≠ 4) :
    Calls Try.prog 17 #[.int .i64 k, .int .i64 m, .int .i64 fmt] w fun e w' => e = .returned (.tuple #[.int .i64 0, .int .i64 1]) ∧ Below w.heap.size w w' := by
  have hl := scan_Pre.miss k h2 h4
  obtain ⟨r1, r2, hr⟩ := scan_may.some_ m fmt
  have HR := Lib.hid hr
  clear hr h2 h4
  have hmk := @run_makeMap Try.prog
  have hp1 := scan_Pre.put1
  have hp2 := scan_Pre.put2
  by_cases h : r2 = 1
  all_goals
    first
      | have g : (r2 == 1) = true := by simpa using h
      | have g : (r2 == 1) = false := by simpa using h
    clear h
    go_enter Try.func17, Try.ntmps17
    go_wp2_with (fail)
    refine (scan_may.calls _ _ _ _ _ HR.out).mono ?_
    rintro e w1 ⟨rfl, ⟨n1, rfl⟩⟩
    go_wp2
    go_ret2
    exact ⟨rfl, (by repeat (first | exact Below.refl _ _ | refine below_alloc ?_ _ | apply pw_below_drewN | apply below_drew1))⟩
set_option maxHeartbeats 1000000 in
theorem scan_Pre.nofmt2 (m fmt : Int) (w : World) (h : ¬ (fmt = 0 ∨ fmt = 1)) :
    Calls Try.prog 17 #[.int .i64 2, .int .i64 m, .int .i64 fmt] w fun e w' => e = .returned (.tuple #[.int .i64 0, .int .i64 1]) ∧ Below w.heap.size w w' := by
  have hl := scan_Pre.get2
  have HR := Lib.hid (show scan_may.f m fmt = some (0, 1) by rw [scan_may.eq, mayf, if_neg h])
  clear h
  have hmk := @run_makeMap Try.prog
  have hp1 := scan_Pre.put1
  have hp2 := scan_Pre.put2
  go_enter Try.func17, Try.ntmps17
  go_wp2_with (fail)
  refine (scan_may.calls _ _ _ _ _ HR.out).mono ?_
  rintro e w1 ⟨rfl, ⟨n1, rfl⟩⟩
  go_wp2
  go_ret2
  exact ⟨rfl, (by repeat (first | exact Below.refl _ _ | refine below_alloc ?_ _ | apply pw_below_drewN | apply below_drew1))⟩
set_option maxHeartbeats 1000000 in
theorem scan_Pre.far20 (m : Int) (w : World) (h : m < 0 ∨ 32768 < m) :
    Calls Try.prog 17 #[.int .i64 2, .int .i64 m, .int .i64 0] w fun e w' => e = .returned (.tuple #[.int .i64 0, .int .i64 2]) ∧ Below w.heap.size w w' := by
  have hl := scan_Pre.get2
  have HR := Lib.hid (show scan_may.f m 0 = some (0, 2) by rw [scan_may.eq, mayf, if_pos (by decide), if_pos (show m < 0 ∨ mag 0 < m from h)])
  clear h
  have hmk := @run_makeMap Try.prog
  have hp1 := scan_Pre.put1
  have hp2 := scan_Pre.put2
  go_enter Try.func17, Try.ntmps17
  go_wp2_with (fail)
  refine (scan_may.calls _ _ _ _ _ HR.out).mono ?_
  rintro e w1 ⟨rfl, ⟨n1, rfl⟩⟩
  go_wp2
  go_ret2
  exact ⟨rfl, (by repeat (first | exact Below.refl _ _ | refine below_alloc ?_ _ | apply pw_below_drewN | apply below_drew1))⟩
set_option maxHeartbeats 2000000 in
theorem scan_Pre.ok200 (m : Int) (w : World) (h0 : 0 ≤ m) (h1 : m ≤ 8192) :
    Calls Try.prog 17 #[.int .i64 2, .int .i64 m, .int .i64 0] w fun e w' => e = .returned (.tuple #[.int .i64 0, .int .i64 0]) ∧ Below w.heap.size w w' := by
  have hl := scan_Pre.get2
  have HR := Lib.hid (show scan_may.f m 0 = some (15, 0) by rw [scan_may.eq, mayf, if_pos (by decide), if_neg (by show ¬ (m < 0 ∨ 32768 < m); omega)]; rfl)
  have g0 : decide (8192 < m) = false := by first | exact decide_eq_true (by omega) | exact decide_eq_false (by omega)
  clear h0 h1
  have hmk := @run_makeMap Try.prog
  have hp1 := scan_Pre.put1
  have hp2 := scan_Pre.put2
  go_enter Try.func17, Try.ntmps17
  go_wp2_with (fail)
  refine (scan_may.calls _ _ _ _ _ HR.out).mono ?_
  rintro e w1 ⟨rfl, ⟨n1, rfl⟩⟩
  go_wp2
  refine wp_loop_rounds 1 ?_
  rw [rounds_succ]
  go_wp2
  go_ret2
  exact ⟨rfl, (by repeat (first | exact Below.refl _ _ | refine below_alloc ?_ _ | apply pw_below_drewN | apply below_drew1))⟩
set_option maxHeartbeats 2000000 in
theorem scan_Pre.ok201 (m : Int) (w : World) (h0 : 8192 < m) (h1 : m ≤ 16384) :
    Calls Try.prog 17 #[.int .i64 2, .int .i64 m, .int .i64 0] w fun e w' => e = .returned (.tuple #[.int .i64 1, .int .i64 0]) ∧ Below w.heap.size w w' := by
  have hl := scan_Pre.get2
  have HR := Lib.hid (show scan_may.f m 0 = some (15, 0) by rw [scan_may.eq, mayf, if_pos (by decide), if_neg (by show ¬ (m < 0 ∨ 32768 < m); omega)]; rfl)
  have g0 : decide (8192 < m) = true := by first | exact decide_eq_true (by omega) | exact decide_eq_false (by omega)
  have g1 : decide (16384 < m) = false := by first | exact decide_eq_true (by omega) | exact decide_eq_false (by omega)
  clear h0 h1
  have hmk := @run_makeMap Try.prog
  have hp1 := scan_Pre.put1
  have hp2 := scan_Pre.put2
  go_enter Try.func17, Try.ntmps17
  go_wp2_with (fail)
  refine (scan_may.calls _ _ _ _ _ HR.out).mono ?_
  rintro e w1 ⟨rfl, ⟨n1, rfl⟩⟩
  go_wp2
  refine wp_loop_rounds 2 ?_
  rw [rounds_succ]
  go_wp2
  rw [rounds_succ]
  go_wp2
  go_ret2
  exact ⟨rfl, (by repeat (first | exact Below.refl _ _ | refine below_alloc ?_ _ | apply pw_below_drewN | apply below_drew1))⟩
set_option maxHeartbeats 2000000 in
theorem scan_Pre.ok202 (m : Int) (w : World) (h0 : 16384 < m) (h1 : m ≤ 32768) :
    Calls Try.prog 17 #[.int .i64 2, .int .i64 m, .int .i64 0] w fun e w' => e = .returned (.tuple #[.int .i64 2, .int .i64 0]) ∧ Below w.heap.size w w' := by
  have hl := scan_Pre.get2
  have HR := Lib.hid (show scan_may.f m 0 = some (15, 0) by rw [scan_may.eq, mayf, if_pos (by decide), if_neg (by show ¬ (m < 0 ∨ 32768 < m); omega)]; rfl)
  have g0 : decide (8192 < m) = true := by first | exact decide_eq_true (by omega) | exact decide_eq_false (by omega)
  have g1 : decide (16384 < m) = true := by first | exact decide_eq_true (by omega) | exact decide_eq_false (by omega)
  clear h0 h1
  have hmk := @run_makeMap Try.prog
  have hp1 := scan_Pre.put1
  have hp2 := scan_Pre.put2
  go_enter Try.func17, Try.ntmps17
  go_wp2_with (fail)
  refine (scan_may.calls _ _ _ _ _ HR.out).mono ?_
  rintro e w1 ⟨rfl, ⟨n1, rfl⟩⟩
  go_wp2
  refine wp_loop_rounds 3 ?_
  rw [rounds_succ]
  go_wp2
  rw [rounds_succ]
  go_wp2
  rw [rounds_succ]
  go_wp2
  go_ret2
  exact ⟨rfl, (by repeat (first | exact Below.refl _ _ | refine below_alloc ?_ _ | apply pw_below_drewN | apply below_drew1))⟩
set_option maxHeartbeats 1000000 in
theorem scan_Pre.far21 (m : Int) (w : World) (h : m < 0 ∨ 2147483648 < m) :
    Calls Try.prog 17 #[.int .i64 2, .int .i64 m, .int .i64 1] w fun e w' => e = .returned (.tuple #[.int .i64 0, .int .i64 2]) ∧ Below w.heap.size w w' := by
  have hl := scan_Pre.get2
  have HR := Lib.hid (show scan_may.f m 1 = some (0, 2) by rw [scan_may.eq, mayf, if_pos (by decide), if_pos (show m < 0 ∨ mag 1 < m from h)])
  clear h
  have hmk := @run_makeMap Try.prog
  have hp1 := scan_Pre.put1
  have hp2 := scan_Pre.put2
  go_enter Try.func17, Try.ntmps17
  go_wp2_with (fail)
  refine (scan_may.calls _ _ _ _ _ HR.out).mono ?_
  rintro e w1 ⟨rfl, ⟨n1, rfl⟩⟩
  go_wp2
  go_ret2
  exact ⟨rfl, (by repeat (first | exact Below.refl _ _ | refine below_alloc ?_ _ | apply pw_below_drewN | apply below_drew1))⟩
set_option maxHeartbeats 2000000 in
theorem scan_Pre.ok210 (m : Int) (w : World) (h0 : 0 ≤ m) (h1 : m ≤ 536870912) :
    Calls Try.prog 17 #[.int .i64 2, .int .i64 m, .int .i64 1] w fun e w' => e = .returned (.tuple #[.int .i64 0, .int .i64 0]) ∧ Below w.heap.size w w' := by
  have hl := scan_Pre.get2
  have HR := Lib.hid (show scan_may.f m 1 = some (31, 0) by rw [scan_may.eq, mayf, if_pos (by decide), if_neg (by show ¬ (m < 0 ∨ 2147483648 < m); omega)]; rfl)
  have g0 : decide (536870912 < m) = false := by first | exact decide_eq_true (by omega) | exact decide_eq_false (by omega)
  clear h0 h1
  have hmk := @run_makeMap Try.prog
  have hp1 := scan_Pre.put1
  have hp2 := scan_Pre.put2
  go_enter Try.func17, Try.ntmps17
  go_wp2_with (fail)
  refine (scan_may.calls _ _ _ _ _ HR.out).mono ?_
  rintro e w1 ⟨rfl, ⟨n1, rfl⟩⟩
  go_wp2
  refine wp_loop_rounds 1 ?_
  rw [rounds_succ]
  go_wp2
  go_ret2
  exact ⟨rfl, (by repeat (first | exact Below.refl _ _ | refine below_alloc ?_ _ | apply pw_below_drewN | apply below_drew1))⟩
set_option maxHeartbeats 2000000 in
theorem scan_Pre.ok211 (m : Int) (w : World) (h0 : 536870912 < m) (h1 : m ≤ 1073741824) :
    Calls Try.prog 17 #[.int .i64 2, .int .i64 m, .int .i64 1] w fun e w' => e = .returned (.tuple #[.int .i64 1, .int .i64 0]) ∧ Below w.heap.size w w' := by
  have hl := scan_Pre.get2
  have HR := Lib.hid (show scan_may.f m 1 = some (31, 0) by rw [scan_may.eq, mayf, if_pos (by decide), if_neg (by show ¬ (m < 0 ∨ 2147483648 < m); omega)]; rfl)
  have g0 : decide (536870912 < m) = true := by first | exact decide_eq_true (by omega) | exact decide_eq_false (by omega)
  have g1 : decide (1073741824 < m) = false := by first | exact decide_eq_true (by omega) | exact decide_eq_false (by omega)
  clear h0 h1
  have hmk := @run_makeMap Try.prog
  have hp1 := scan_Pre.put1
  have hp2 := scan_Pre.put2
  go_enter Try.func17, Try.ntmps17
  go_wp2_with (fail)
  refine (scan_may.calls _ _ _ _ _ HR.out).mono ?_
  rintro e w1 ⟨rfl, ⟨n1, rfl⟩⟩
  go_wp2
  refine wp_loop_rounds 2 ?_
  rw [rounds_succ]
  go_wp2
  rw [rounds_succ]
  go_wp2
  go_ret2
  exact ⟨rfl, (by repeat (first | exact Below.refl _ _ | refine below_alloc ?_ _ | apply pw_below_drewN | apply below_drew1))⟩
set_option maxHeartbeats 2000000 in
theorem scan_Pre.ok212 (m : Int) (w : World) (h0 : 1073741824 < m) (h1 : m ≤ 2147483648) :
    Calls Try.prog 17 #[.int .i64 2, .int .i64 m, .int .i64 1] w fun e w' => e = .returned (.tuple #[.int .i64 2, .int .i64 0]) ∧ Below w.heap.size w w' := by
  have hl := scan_Pre.get2
  have HR := Lib.hid (show scan_may.f m 1 = some (31, 0) by rw [scan_may.eq, mayf, if_pos (by decide), if_neg (by show ¬ (m < 0 ∨ 2147483648 < m); omega)]; rfl)
  have g0 : decide (536870912 < m) = true := by first | exact decide_eq_true (by omega) | exact decide_eq_false (by omega)
  have g1 : decide (1073741824 < m) = true := by first | exact decide_eq_true (by omega) | exact decide_eq_false (by omega)
  clear h0 h1
  have hmk := @run_makeMap Try.prog
  have hp1 := scan_Pre.put1
  have hp2 := scan_Pre.put2
  go_enter Try.func17, Try.ntmps17
  go_wp2_with (fail)
  refine (scan_may.calls _ _ _ _ _ HR.out).mono ?_
  rintro e w1 ⟨rfl, ⟨n1, rfl⟩⟩
  go_wp2
  refine wp_loop_rounds 3 ?_
  rw [rounds_succ]
  go_wp2
  rw [rounds_succ]
  go_wp2
  rw [rounds_succ]
  go_wp2
  go_ret2
  exact ⟨rfl, (by repeat (first | exact Below.refl _ _ | refine below_alloc ?_ _ | apply pw_below_drewN | apply below_drew1))⟩
set_option maxHeartbeats 1000000 in
theorem scan_Pre.nofmt4 (m fmt : Int) (w : World) (h : ¬ (fmt = 0 ∨ fmt = 1)) :
    Calls Try.prog 17 #[.int .i64 4, .int .i64 m, .int .i64 fmt] w fun e w' => e = .returned (.tuple #[.int .i64 0, .int .i64 1]) ∧ Below w.heap.size w w' := by
  have hl := scan_Pre.get4
  have HR := Lib.hid (show scan_may.f m fmt = some (0, 1) by rw [scan_may.eq, mayf, if_neg h])
  clear h
  have hmk := @run_makeMap Try.prog
  have hp1 := scan_Pre.put1
  have hp2 := scan_Pre.put2
  go_enter Try.func17, Try.ntmps17
  go_wp2_with (fail)
  refine (scan_may.calls _ _ _ _ _ HR.out).mono ?_
  rintro e w1 ⟨rfl, ⟨n1, rfl⟩⟩
  go_wp2
  go_ret2
  exact ⟨rfl, (by repeat (first | exact Below.refl _ _ | refine below_alloc ?_ _ | apply pw_below_drewN | apply below_drew1))⟩
set_option maxHeartbeats 1000000 in
theorem scan_Pre.far40 (m : Int) (w : World) (h : m < 0 ∨ 32768 < m) :
    Calls Try.prog 17 #[.int .i64 4, .int .i64 m, .int .i64 0] w fun e w' => e = .returned (.tuple #[.int .i64 0, .int .i64 2]) ∧ Below w.heap.size w w' := by
  have hl := scan_Pre.get4
  have HR := Lib.hid (show scan_may.f m 0 = some (0, 2) by rw [scan_may.eq, mayf, if_pos (by decide), if_pos (show m < 0 ∨ mag 0 < m from h)])
  clear h
  have hmk := @run_makeMap Try.prog
  have hp1 := scan_Pre.put1
  have hp2 := scan_Pre.put2
  go_enter Try.func17, Try.ntmps17
  go_wp2_with (fail)
  refine (scan_may.calls _ _ _ _ _ HR.out).mono ?_
  rintro e w1 ⟨rfl, ⟨n1, rfl⟩⟩
  go_wp2
  go_ret2
  exact ⟨rfl, (by repeat (first | exact Below.refl _ _ | refine below_alloc ?_ _ | apply pw_below_drewN | apply below_drew1))⟩
set_option maxHeartbeats 2000000 in
theorem scan_Pre.ok400 (m : Int) (w : World) (h0 : 0 ≤ m) (h1 : m ≤ 4096) :
    Calls Try.prog 17 #[.int .i64 4, .int .i64 m, .int .i64 0] w fun e w' => e = .returned (.tuple #[.int .i64 0, .int .i64 0]) ∧ Below w.heap.size w w' := by
  have hl := scan_Pre.get4
  have HR := Lib.hid (show scan_may.f m 0 = some (15, 0) by rw [scan_may.eq, mayf, if_pos (by decide), if_neg (by show ¬ (m < 0 ∨ 32768 < m); omega)]; rfl)
  have g0 : decide (4096 < m) = false := by first | exact decide_eq_true (by omega) | exact decide_eq_false (by omega)
  clear h0 h1
  have hmk := @run_makeMap Try.prog
  have hp1 := scan_Pre.put1
  have hp2 := scan_Pre.put2
  go_enter Try.func17, Try.ntmps17
  go_wp2_with (fail)
  refine (scan_may.calls _ _ _ _ _ HR.out).mono ?_
  rintro e w1 ⟨rfl, ⟨n1, rfl⟩⟩
  go_wp2
  refine wp_loop_rounds 1 ?_
  rw [rounds_succ]
  go_wp2
  go_ret2
  exact ⟨rfl, (by repeat (first | exact Below.refl _ _ | refine below_alloc ?_ _ | apply pw_below_drewN | apply below_drew1))⟩
set_option maxHeartbeats 2000000 in
theorem scan_Pre.ok401 (m : Int) (w : World) (h0 : 4096 < m) (h1 : m ≤ 8192) :
    Calls Try.prog 17 #[.int .i64 4, .int .i64 m, .int .i64 0] w fun e w' => e = .returned (.tuple #[.int .i64 1, .int .i64 0]) ∧ Below w.heap.size w w' := by
  have hl := scan_Pre.get4
  have HR := Lib.hid (show scan_may.f m 0 = some (15, 0) by rw [scan_may.eq, mayf, if_pos (by decide), if_neg (by show ¬ (m < 0 ∨ 32768 < m); omega)]; rfl)
  have g0 : decide (4096 < m) = true := by first | exact decide_eq_true (by omega) | exact decide_eq_false (by omega)
  have g1 : decide (8192 < m) = false := by first | exact decide_eq_true (by omega) | exact decide_eq_false (by omega)
  clear h0 h1
  have hmk := @run_makeMap Try.prog
  have hp1 := scan_Pre.put1
  have hp2 := scan_Pre.put2
  go_enter Try.func17, Try.ntmps17
  go_wp2_with (fail)
  refine (scan_may.calls _ _ _ _ _ HR.out).mono ?_
  rintro e w1 ⟨rfl, ⟨n1, rfl⟩⟩
  go_wp2
  refine wp_loop_rounds 2 ?_
  rw [rounds_succ]
  go_wp2
  rw [rounds_succ]
  go_wp2
  go_ret2
  exact ⟨rfl, (by repeat (first | exact Below.refl _ _ | refine below_alloc ?_ _ | apply pw_below_drewN | apply below_drew1))⟩
set_option maxHeartbeats 2000000 in
theorem scan_Pre.ok402 (m : Int) (w : World) (h0 : 8192 < m) (h1 : m ≤ 16384) :
    Calls Try.prog 17 #[.int .i64 4, .int .i64 m, .int .i64 0] w fun e w' => e = .returned (.tuple #[.int .i64 2, .int .i64 0]) ∧ Below w.heap.size w w' := by
  have hl := scan_Pre.get4
  have HR := Lib.hid (show scan_may.f m 0 = some (15, 0) by rw [scan_may.eq, mayf, if_pos (by decide), if_neg (by show ¬ (m < 0 ∨ 32768 < m); omega)]; rfl)
  have g0 : decide (4096 < m) = true := by first | exact decide_eq_true (by omega) | exact decide_eq_false (by omega)
  have g1 : decide (8192 < m) = true := by first | exact decide_eq_true (by omega) | exact decide_eq_false (by omega)
  have g2 : decide (16384 < m) = false := by first | exact decide_eq_true (by omega) | exact decide_eq_false (by omega)
  clear h0 h1
  have hmk := @run_makeMap Try.prog
  have hp1 := scan_Pre.put1
  have hp2 := scan_Pre.put2
  go_enter Try.func17, Try.ntmps17
  go_wp2_with (fail)
  refine (scan_may.calls _ _ _ _ _ HR.out).mono ?_
  rintro e w1 ⟨rfl, ⟨n1, rfl⟩⟩
  go_wp2
  refine wp_loop_rounds 3 ?_
  rw [rounds_succ]
  go_wp2
  rw [rounds_succ]
  go_wp2
  rw [rounds_succ]
  go_wp2
  go_ret2
  exact ⟨rfl, (by repeat (first | exact Below.refl _ _ | refine below_alloc ?_ _ | apply pw_below_drewN | apply below_drew1))⟩
set_option maxHeartbeats 2000000 in
theorem scan_Pre.ok403 (m : Int) (w : World) (h0 : 16384 < m) (h1 : m ≤ 32768) :
    Calls Try.prog 17 #[.int .i64 4, .int .i64 m, .int .i64 0] w fun e w' => e = .returned (.tuple #[.int .i64 3, .int .i64 0]) ∧ Below w.heap.size w w' := by
  have hl := scan_Pre.get4
  have HR := Lib.hid (show scan_may.f m 0 = some (15, 0) by rw [scan_may.eq, mayf, if_pos (by decide), if_neg (by show ¬ (m < 0 ∨ 32768 < m); omega)]; rfl)
  have g0 : decide (4096 < m) = true := by first | exact decide_eq_true (by omega) | exact decide_eq_false (by omega)
  have g1 : decide (8192 < m) = true := by first | exact decide_eq_true (by omega) | exact decide_eq_false (by omega)
  have g2 : decide (16384 < m) = true := by first | exact decide_eq_true (by omega) | exact decide_eq_false (by omega)
  clear h0 h1
  have hmk := @run_makeMap Try.prog
  have hp1 := scan_Pre.put1
  have hp2 := scan_Pre.put2
  go_enter Try.func17, Try.ntmps17
  go_wp2_with (fail)
  refine (scan_may.calls _ _ _ _ _ HR.out).mono ?_
  rintro e w1 ⟨rfl, ⟨n1, rfl⟩⟩
  go_wp2
  refine wp_loop_rounds 4 ?_
  rw [rounds_succ]
  go_wp2
  rw [rounds_succ]
  go_wp2
  rw [rounds_succ]
  go_wp2
  rw [rounds_succ]
  go_wp2
  go_ret2
  exact ⟨rfl, (by repeat (first | exact Below.refl _ _ | refine below_alloc ?_ _ | apply pw_below_drewN | apply below_drew1))⟩
set_option maxHeartbeats 1000000 in
theorem scan_Pre.far41 (m : Int) (w : World) (h : m < 0 ∨ 2147483648 < m) :
    Calls Try.prog 17 #[.int .i64 4, .int .i64 m, .int .i64 1] w fun e w' => e = .returned (.tuple #[.int .i64 0, .int .i64 2]) ∧ Below w.heap.size w w' := by
  have hl := scan_Pre.get4
  have HR := Lib.hid (show scan_may.f m 1 = some (0, 2) by rw [scan_may.eq, mayf, if_pos (by decide), if_pos (show m < 0 ∨ mag 1 < m from h)])
  clear h
  have hmk := @run_makeMap Try.prog
  have hp1 := scan_Pre.put1
  have hp2 := scan_Pre.put2
  go_enter Try.func17, Try.ntmps17
  go_wp2_with (fail)
  refine (scan_may.calls _ _ _ _ _ HR.out).mono ?_
  rintro e w1 ⟨rfl, ⟨n1, rfl⟩⟩
  go_wp2
  go_ret2
  exact ⟨rfl, (by repeat (first | exact Below.refl _ _ | refine below_alloc ?_ _ | apply pw_below_drewN | apply below_drew1))⟩
set_option maxHeartbeats 2000000 in
theorem scan_Pre.ok410 (m : Int) (w : World) (h0 : 0 ≤ m) (h1 : m ≤ 268435456) :
    Calls Try.prog 17 #[.int .i64 4, .int .i64 m, .int .i64 1] w fun e w' => e = .returned (.tuple #[.int .i64 0, .int .i64 0]) ∧ Below w.heap.size w w' := by
  have hl := scan_Pre.get4
  have HR := Lib.hid (show scan_may.f m 1 = some (31, 0) by rw [scan_may.eq, mayf, if_pos (by decide), if_neg (by show ¬ (m < 0 ∨ 2147483648 < m); omega)]; rfl)
  have g0 : decide (268435456 < m) = false := by first | exact decide_eq_true (by omega) | exact decide_eq_false (by omega)
  clear h0 h1
  have hmk := @run_makeMap Try.prog
  have hp1 := scan_Pre.put1
  have hp2 := scan_Pre.put2
  go_enter Try.func17, Try.ntmps17
  go_wp2_with (fail)
  refine (scan_may.calls _ _ _ _ _ HR.out).mono ?_
  rintro e w1 ⟨rfl, ⟨n1, rfl⟩⟩
  go_wp2
  refine wp_loop_rounds 1 ?_
  rw [rounds_succ]
  go_wp2
  go_ret2
  exact ⟨rfl, (by repeat (first | exact Below.refl _ _ | refine below_alloc ?_ _ | apply pw_below_drewN | apply below_drew1))⟩
set_option maxHeartbeats 2000000 in
theorem scan_Pre.ok411 (m : Int) (w : World) (h0 : 268435456 < m) (h1 : m ≤ 536870912) :
    Calls Try.prog 17 #[.int .i64 4, .int .i64 m, .int .i64 1] w fun e w' => e = .returned (.tuple #[.int .i64 1, .int .i64 0]) ∧ Below w.heap.size w w' := by
  have hl := scan_Pre.get4
  have HR := Lib.hid (show scan_may.f m 1 = some (31, 0) by rw [scan_may.eq, mayf, if_pos (by decide), if_neg (by show ¬ (m < 0 ∨ 2147483648 < m); omega)]; rfl)
  have g0 : decide (268435456 < m) = true := by first | exact decide_eq_true (by omega) | exact decide_eq_false (by omega)
  have g1 : decide (536870912 < m) = false := by first | exact decide_eq_true (by omega) | exact decide_eq_false (by omega)
  clear h0 h1
  have hmk := @run_makeMap Try.prog
  have hp1 := scan_Pre.put1
  have hp2 := scan_Pre.put2
  go_enter Try.func17, Try.ntmps17
  go_wp2_with (fail)
  refine (scan_may.calls _ _ _ _ _ HR.out).mono ?_
  rintro e w1 ⟨rfl, ⟨n1, rfl⟩⟩
  go_wp2
  refine wp_loop_rounds 2 ?_
  rw [rounds_succ]
  go_wp2
  rw [rounds_succ]
  go_wp2
  go_ret2
  exact ⟨rfl, (by repeat (first | exact Below.refl _ _ | refine below_alloc ?_ _ | apply pw_below_drewN | apply below_drew1))⟩
set_option maxHeartbeats 2000000 in
theorem scan_Pre.ok412 (m : Int) (w : World) (h0 : 536870912 < m) (h1 : m ≤ 1073741824) :
    Calls Try.prog 17 #[.int .i64 4, .int .i64 m, .int .i64 1] w fun e w' => e = .returned (.tuple #[.int .i64 2, .int .i64 0]) ∧ Below w.heap.size w w' := by
  have hl := scan_Pre.get4
  have HR := Lib.hid (show scan_may.f m 1 = some (31, 0) by rw [scan_may.eq, mayf, if_pos (by decide), if_neg (by show ¬ (m < 0 ∨ 2147483648 < m); omega)]; rfl)
  have g0 : decide (268435456 < m) = true := by first | exact decide_eq_true (by omega) | exact decide_eq_false (by omega)
  have g1 : decide (536870912 < m) = true := by first | exact decide_eq_true (by omega) | exact decide_eq_false (by omega)
  have g2 : decide (1073741824 < m) = false := by first | exact decide_eq_true (by omega) | exact decide_eq_false (by omega)
  clear h0 h1
  have hmk := @run_makeMap Try.prog
  have hp1 := scan_Pre.put1
  have hp2 := scan_Pre.put2
  go_enter Try.func17, Try.ntmps17
  go_wp2_with (fail)
  refine (scan_may.calls _ _ _ _ _ HR.out).mono ?_
  rintro e w1 ⟨rfl, ⟨n1, rfl⟩⟩
  go_wp2
  refine wp_loop_rounds 3 ?_
  rw [rounds_succ]
  go_wp2
  rw [rounds_succ]
  go_wp2
  rw [rounds_succ]
  go_wp2
  go_ret2
  exact ⟨rfl, (by repeat (first | exact Below.refl _ _ | refine below_alloc ?_ _ | apply pw_below_drewN | apply below_drew1))⟩
set_option maxHeartbeats 2000000 in
theorem scan_Pre.ok413 (m : Int) (w : World) (h0 : 1073741824 < m) (h1 : m ≤ 2147483648) :
    Calls Try.prog 17 #[.int .i64 4, .int .i64 m, .int .i64 1] w fun e w' => e = .returned (.tuple #[.int .i64 3, .int .i64 0]) ∧ Below w.heap.size w w' := by
  have hl := scan_Pre.get4
  have HR := Lib.hid (show scan_may.f m 1 = some (31, 0) by rw [scan_may.eq, mayf, if_pos (by decide), if_neg (by show ¬ (m < 0 ∨ 2147483648 < m); omega)]; rfl)
  have g0 : decide (268435456 < m) = true := by first | exact decide_eq_true (by omega) | exact decide_eq_false (by omega)
  have g1 : decide (536870912 < m) = true := by first | exact decide_eq_true (by omega) | exact decide_eq_false (by omega)
  have g2 : decide (1073741824 < m) = true := by first | exact decide_eq_true (by omega) | exact decide_eq_false (by omega)
  clear h0 h1
  have hmk := @run_makeMap Try.prog
  have hp1 := scan_Pre.put1
  have hp2 := scan_Pre.put2
  go_enter Try.func17, Try.ntmps17
  go_wp2_with (fail)
  refine (scan_may.calls _ _ _ _ _ HR.out).mono ?_
  rintro e w1 ⟨rfl, ⟨n1, rfl⟩⟩
  go_wp2
  refine wp_loop_rounds 4 ?_
  rw [rounds_succ]
  go_wp2
  rw [rounds_succ]
  go_wp2
  rw [rounds_succ]
  go_wp2
  rw [rounds_succ]
  go_wp2
  go_ret2
  exact ⟨rfl, (by repeat (first | exact Below.refl _ _ | refine below_alloc ?_ _ | apply pw_below_drewN | apply below_drew1))⟩
theorem scan_Pre.in2 (m fmt : Int) (w : World) (hf : fmt = 0 ∨ fmt = 1) (h0 : 0 ≤ m) (h1 : m ≤ mag fmt) :
    Calls Try.prog 17 #[.int .i64 2, .int .i64 m, .int .i64 fmt] w fun e w' => e = .returned (.tuple #[.int .i64 (pre 2 fmt m), .int .i64 0]) ∧ Below w.heap.size w w' := by
  unfold pre
  rcases hf with rfl | rfl
  · have hm : mag 0 = 32768 := rfl
    rw [hm] at h1 ⊢
    simp only [reduceIte, Int.reduceEq, Int.reduceDiv]
    by_cases g0 : m ≤ 8192
    · rw [if_pos g0]
      exact scan_Pre.ok200 m w (by omega) (by omega)
    rw [if_neg g0]
    by_cases g1 : m ≤ 16384
    · rw [if_pos g1]
      exact scan_Pre.ok201 m w (by omega) (by omega)
    rw [if_neg g1]
    exact scan_Pre.ok202 m w (by omega) (by omega)
  · have hm : mag 1 = 2147483648 := rfl
    rw [hm] at h1 ⊢
    simp only [reduceIte, Int.reduceEq, Int.reduceDiv]
    by_cases g0 : m ≤ 536870912
    · rw [if_pos g0]
      exact scan_Pre.ok210 m w (by omega) (by omega)
    rw [if_neg g0]
    by_cases g1 : m ≤ 1073741824
    · rw [if_pos g1]
      exact scan_Pre.ok211 m w (by omega) (by omega)
    rw [if_neg g1]
    exact scan_Pre.ok212 m w (by omega) (by omega)
theorem scan_Pre.in4 (m fmt : Int) (w : World) (hf : fmt = 0 ∨ fmt = 1) (h0 : 0 ≤ m) (h1 : m ≤ mag fmt) :
    Calls Try.prog 17 #[.int .i64 4, .int .i64 m, .int .i64 fmt] w fun e w' => e = .returned (.tuple #[.int .i64 (pre 4 fmt m), .int .i64 0]) ∧ Below w.heap.size w w' := by
  unfold pre
  rcases hf with rfl | rfl
  · have hm : mag 0 = 32768 := rfl
    rw [hm] at h1 ⊢
    simp only [reduceIte, Int.reduceEq, Int.reduceDiv]
    by_cases g0 : m ≤ 4096
    · rw [if_pos g0]
      exact scan_Pre.ok400 m w (by omega) (by omega)
    rw [if_neg g0]
    by_cases g1 : m ≤ 8192
    · rw [if_pos g1]
      exact scan_Pre.ok401 m w (by omega) (by omega)
    rw [if_neg g1]
    by_cases g2 : m ≤ 16384
    · rw [if_pos g2]
      exact scan_Pre.ok402 m w (by omega) (by omega)
    rw [if_neg g2]
    exact scan_Pre.ok403 m w (by omega) (by omega)
  · have hm : mag 1 = 2147483648 := rfl
    rw [hm] at h1 ⊢
    simp only [reduceIte, Int.reduceEq, Int.reduceDiv]
    by_cases g0 : m ≤ 268435456
    · rw [if_pos g0]
      exact scan_Pre.ok410 m w (by omega) (by omega)
    rw [if_neg g0]
    by_cases g1 : m ≤ 536870912
    · rw [if_pos g1]
      exact scan_Pre.ok411 m w (by omega) (by omega)
    rw [if_neg g1]
    by_cases g2 : m ≤ 1073741824
    · rw [if_pos g2]
      exact scan_Pre.ok412 m w (by omega) (by omega)
    rw [if_neg g2]
    exact scan_Pre.ok413 m w (by omega) (by omega)
theorem scan_Pre.calls (a0 a1 a2 r1 r2 : Int) (w : World) (h : scan_Pre.f a0 a1 a2 = some (r1, r2)) :
    Calls Try.prog 17 #[.int .i64 a0, .int .i64 a1, .int .i64 a2] w fun e w' => e = .returned (.tuple #[.int .i64 r1, .int .i64 r2]) ∧ Below w.heap.size w w' := by
  unfold scan_Pre.f at h
  have h := Option.some.inj h
  by_cases hk : a0 = 2 ∨ a0 = 4
  · by_cases hf : a2 = 0 ∨ a2 = 1
    · rw [if_pos ⟨hf, hk⟩] at h
      by_cases hm : a1 < 0 ∨ mag a2 < a1
      · rw [if_pos hm] at h
        cases h
        rcases hk with rfl | rfl <;> rcases hf with rfl | rfl
        · exact scan_Pre.far20 a1 w hm
        · exact scan_Pre.far21 a1 w hm
        · exact scan_Pre.far40 a1 w hm
        · exact scan_Pre.far41 a1 w hm
      · rw [if_neg hm] at h
        cases h
        rcases hk with rfl | rfl
        · exact scan_Pre.in2 a1 a2 w hf (by omega) (by omega)
        · exact scan_Pre.in4 a1 a2 w hf (by omega) (by omega)
    · rw [if_neg (fun z => hf z.1)] at h
      cases h
      rcases hk with rfl | rfl
      · exact scan_Pre.nofmt2 a1 a2 w hf
      · exact scan_Pre.nofmt4 a1 a2 w hf
  · rw [if_neg (fun z => hk z.2)] at h
    cases h
    exact scan_Pre.other a0 a1 a2 w (by omega) (by omega)

end Go.Proofs.Ytfemklaeonkidaa.P

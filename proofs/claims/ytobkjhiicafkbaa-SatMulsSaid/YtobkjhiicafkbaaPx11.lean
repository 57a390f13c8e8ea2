-- Laid by this session's program hyb.py, out of the kit's print and this session's own contracts.
import Derived.Test.YtobkjhiicafkbaaPx0
namespace Go.Proofs.Ytobkjhiicafkbaa.P
open Go.RowKit Go.Proofs.YtobkjhiicafkbaaW.PrintWords Go.Proofs.YtobkjhiicafkbaaW.PrintLast Go.Proofs.YtobkjhiicafkbaaW.PrintMore Go.Proofs.YtobkjhiicafkbaaW.Hand
attribute [local go_sem] max2_int min2_int max_two min_two max_three min_three max_four min_four   -- for this text's walks alone
set_option linter.unusedVariables false
set_option linter.unusedSimpArgs false

/-! ### sat_Bits: function 40 -/
def sat_Bits.f (a0 : Int) : Option (Int × Int) := if a0 = 0 then (some (15, 0)) else (if a0 = 1 then (some (31, 0)) else (some (0, 1)))
set_option maxHeartbeats 8000000 in
set_option maxRecDepth 100000 in
theorem sat_Bits.calls (a0 : Int) (r1 : Int) (r2 : Int) (w : World) (h : sat_Bits.f a0 = some (r1, r2)) :
    Calls Try.prog 40 #[.int .i64 a0] w fun e w' => e = .returned (.tuple #[.int .i64 r1, .int .i64 r2]) ∧ Drawn0 w w' := by
  have H : (if a0 = 0 then (some (15, 0)) else (if a0 = 1 then (some (31, 0)) else (some (0, 1)))) = some (r1, r2) := h
  clear h
  by_cases c2 : a0 = 0
  · rw [if_pos c2] at H
    have c2b0 : (a0 == 0) = true := beq_iff_eq.mpr c2
    have c2b1 : (a0 != 0) = false := bne_eq_false_iff_eq.mpr c2
    clear c2
    simp only [Option.some.injEq, Prod.mk.injEq] at H
    obtain ⟨rfl, rfl⟩ := H
    go_enter Try.func40, Try.ntmps40
    go_wp2
    go_ret2
    exact ⟨by first | rfl | (simp; done) | (simp [*]; done), by repeat (first | exact Drawn0.refl _ | apply Drawn0.step)⟩
  · rw [if_neg c2] at H
    have c2b0 : (a0 == 0) = false := beq_eq_false_iff_ne.mpr c2
    have c2b1 : (a0 != 0) = true := bne_iff_ne.mpr c2
    by_cases c3 : a0 = 1
    · rw [if_pos c3] at H
      have c3b0 : (a0 == 1) = true := beq_iff_eq.mpr c3
      have c3b1 : (a0 != 1) = false := bne_eq_false_iff_eq.mpr c3
      clear c3
      simp only [Option.some.injEq, Prod.mk.injEq] at H
      obtain ⟨rfl, rfl⟩ := H
      go_enter Try.func40, Try.ntmps40
      go_wp2
      go_ret2
      exact ⟨by first | rfl | (simp; done) | (simp [*]; done), by repeat (first | exact Drawn0.refl _ | apply Drawn0.step)⟩
    · rw [if_neg c3] at H
      have c3b0 : (a0 == 1) = false := beq_eq_false_iff_ne.mpr c3
      have c3b1 : (a0 != 1) = true := bne_iff_ne.mpr c3
      simp only [Option.some.injEq, Prod.mk.injEq] at H
      obtain ⟨rfl, rfl⟩ := H
      go_enter Try.func40, Try.ntmps40
      go_wp2
      go_ret2
      exact ⟨by first | rfl | (simp; done) | (simp [*]; done), by repeat (first | exact Drawn0.refl _ | apply Drawn0.step)⟩

/-! ### sat_Clamp: function 41 -/
def sat_Clamp.f (a0 a1 : Int) : Option (Int × Bool × Int) := if a1 = 0 ∨ a1 = 1 then some (sclamp (mag a1) a0, sclamp (mag a1) a0 != a0, 0) else some (0, false, 1)
theorem sat_Clamp.bad (x fmt : Int) (w : World) (h : ¬ (fmt = 0 ∨ fmt = 1)) :
    Calls Try.prog 41 #[.int .i64 x, .int .i64 fmt] w fun e w' => e = .returned (.tuple #[.int .i64 0, .bool false, .int .i64 1]) ∧ Drawn0 w w' := by
  have g0 : (fmt == 0) = false := by first | (simp; done) | (simp; omega)
  have g1 : (fmt == 1) = false := by first | (simp; done) | (simp; omega)
  clear h
  go_enter Try.func41, Try.ntmps41
  go_wp2
  go_ret3
  exact ⟨rfl, Drawn0.refl _⟩
theorem sat_Clamp.way00 (x : Int) (w : World) (h : x < -32768) :
    Calls Try.prog 41 #[.int .i64 x, .int .i64 0] w fun e w' => e = .returned (.tuple #[.int .i64 (sclamp (mag 0) x), .bool (sclamp (mag 0) x != x), .int .i64 0]) ∧ Drawn0 w w' := by
  have hs := Lib.hid (show sclamp (mag 0) x = -32768 by unfold sclamp mag; simp only [reduceIte, Int.reduceEq]; omega)
  have g0 : decide (x < -32768) = true := by first | (simp; done) | (simp; omega)
  go_enter Try.func41, Try.ntmps41
  go_wp2
  go_quiet (fail)
  go_wp2
  go_ret3
  exact ⟨ret3 hs.out.symm (by rw [hs.out] <;> simp) rfl, (Drawn0.refl _).step _⟩
theorem sat_Clamp.way01 (x : Int) (w : World) (h : 32767 < x) :
    Calls Try.prog 41 #[.int .i64 x, .int .i64 0] w fun e w' => e = .returned (.tuple #[.int .i64 (sclamp (mag 0) x), .bool (sclamp (mag 0) x != x), .int .i64 0]) ∧ Drawn0 w w' := by
  have hs := Lib.hid (show sclamp (mag 0) x = 32767 by unfold sclamp mag; simp only [reduceIte, Int.reduceEq]; omega)
  have g0 : decide (x < -32768) = false := by first | (simp; done) | (simp; omega)
  have g1 : decide (32767 < x) = true := by first | (simp; done) | (simp; omega)
  go_enter Try.func41, Try.ntmps41
  go_wp2
  go_quiet (fail)
  go_wp2
  go_ret3
  exact ⟨ret3 hs.out.symm (by rw [hs.out] <;> simp) rfl, (Drawn0.refl _).step _⟩
theorem sat_Clamp.way02 (x : Int) (w : World) (h : -32768 ≤ x ∧ x ≤ 32767) :
    Calls Try.prog 41 #[.int .i64 x, .int .i64 0] w fun e w' => e = .returned (.tuple #[.int .i64 (sclamp (mag 0) x), .bool (sclamp (mag 0) x != x), .int .i64 0]) ∧ Drawn0 w w' := by
  have hs := Lib.hid (show sclamp (mag 0) x = x by unfold sclamp mag; simp only [reduceIte, Int.reduceEq]; omega)
  have g0 : decide (x < -32768) = false := by first | (simp; done) | (simp; omega)
  have g1 : decide (32767 < x) = false := by first | (simp; done) | (simp; omega)
  go_enter Try.func41, Try.ntmps41
  go_wp2
  go_quiet (fail)
  go_wp2
  go_ret3
  exact ⟨ret3 hs.out.symm (by rw [hs.out] <;> simp) rfl, (Drawn0.refl _).step _⟩
theorem sat_Clamp.way10 (x : Int) (w : World) (h : x < -2147483648) :
    Calls Try.prog 41 #[.int .i64 x, .int .i64 1] w fun e w' => e = .returned (.tuple #[.int .i64 (sclamp (mag 1) x), .bool (sclamp (mag 1) x != x), .int .i64 0]) ∧ Drawn0 w w' := by
  have hs := Lib.hid (show sclamp (mag 1) x = -2147483648 by unfold sclamp mag; simp only [reduceIte, Int.reduceEq]; omega)
  have g0 : decide (x < -2147483648) = true := by first | (simp; done) | (simp; omega)
  go_enter Try.func41, Try.ntmps41
  go_wp2
  go_quiet (fail)
  go_wp2
  go_ret3
  exact ⟨ret3 hs.out.symm (by rw [hs.out] <;> simp) rfl, (Drawn0.refl _).step _⟩
theorem sat_Clamp.way11 (x : Int) (w : World) (h : 2147483647 < x) :
    Calls Try.prog 41 #[.int .i64 x, .int .i64 1] w fun e w' => e = .returned (.tuple #[.int .i64 (sclamp (mag 1) x), .bool (sclamp (mag 1) x != x), .int .i64 0]) ∧ Drawn0 w w' := by
  have hs := Lib.hid (show sclamp (mag 1) x = 2147483647 by unfold sclamp mag; simp only [reduceIte, Int.reduceEq]; omega)
  have g0 : decide (x < -2147483648) = false := by first | (simp; done) | (simp; omega)
  have g1 : decide (2147483647 < x) = true := by first | (simp; done) | (simp; omega)
  go_enter Try.func41, Try.ntmps41
  go_wp2
  go_quiet (fail)
  go_wp2
  go_ret3
  exact ⟨ret3 hs.out.symm (by rw [hs.out] <;> simp) rfl, (Drawn0.refl _).step _⟩
theorem sat_Clamp.way12 (x : Int) (w : World) (h : -2147483648 ≤ x ∧ x ≤ 2147483647) :
    Calls Try.prog 41 #[.int .i64 x, .int .i64 1] w fun e w' => e = .returned (.tuple #[.int .i64 (sclamp (mag 1) x), .bool (sclamp (mag 1) x != x), .int .i64 0]) ∧ Drawn0 w w' := by
  have hs := Lib.hid (show sclamp (mag 1) x = x by unfold sclamp mag; simp only [reduceIte, Int.reduceEq]; omega)
  have g0 : decide (x < -2147483648) = false := by first | (simp; done) | (simp; omega)
  have g1 : decide (2147483647 < x) = false := by first | (simp; done) | (simp; omega)
  go_enter Try.func41, Try.ntmps41
  go_wp2
  go_quiet (fail)
  go_wp2
  go_ret3
  exact ⟨ret3 hs.out.symm (by rw [hs.out] <;> simp) rfl, (Drawn0.refl _).step _⟩
theorem sat_Clamp.calls (a0 a1 : Int) (r1 : Int) (r2 : Bool) (r3 : Int) (w : World) (h : sat_Clamp.f a0 a1 = some (r1, r2, r3)) :
    Calls Try.prog 41 #[.int .i64 a0, .int .i64 a1] w fun e w' => e = .returned (.tuple #[.int .i64 r1, .bool r2, .int .i64 r3]) ∧ Drawn0 w w' := by
  unfold sat_Clamp.f at h
  by_cases hf : a1 = 0 ∨ a1 = 1
  · rw [if_pos hf] at h
    obtain ⟨rfl, rfl, rfl⟩ : sclamp (mag a1) a0 = r1 ∧ (sclamp (mag a1) a0 != a0) = r2 ∧ 0 = r3 := by simpa only [Option.some.injEq, Prod.mk.injEq] using h
    rcases hf with rfl | rfl
    · by_cases h1 : a0 < -32768
      · exact sat_Clamp.way00 a0 w h1
      · by_cases h2 : 32767 < a0
        · exact sat_Clamp.way01 a0 w h2
        · exact sat_Clamp.way02 a0 w (by omega)
    · by_cases h1 : a0 < -2147483648
      · exact sat_Clamp.way10 a0 w h1
      · by_cases h2 : 2147483647 < a0
        · exact sat_Clamp.way11 a0 w h2
        · exact sat_Clamp.way12 a0 w (by omega)
  · rw [if_neg hf] at h
    obtain ⟨rfl, rfl, rfl⟩ : 0 = r1 ∧ false = r2 ∧ 1 = r3 := by simpa only [Option.some.injEq, Prod.mk.injEq] using h
    exact sat_Clamp.bad a0 a1 w hf

/-! ### headroomref02_Format: function 42 -/
def headroomref02_Format.f (a0 : Int) : Option (Bool) := if a0 = 0 then (some true) else (some (a0 == 1))
set_option maxHeartbeats 8000000 in
set_option maxRecDepth 100000 in
theorem headroomref02_Format.calls (a0 : Int) (r : Bool) (w : World) (h : headroomref02_Format.f a0 = some r) :
    Calls Try.prog 42 #[.int .i64 a0] w fun e w' => e = .returned (.bool r) ∧ Drawn0 w w' := by
  have H : (if a0 = 0 then (some true) else (some (a0 == 1))) = some r := h
  clear h
  by_cases c2 : a0 = 0
  · rw [if_pos c2] at H
    have c2b0 : (a0 == 0) = true := beq_iff_eq.mpr c2
    have c2b1 : (a0 != 0) = false := bne_eq_false_iff_eq.mpr c2
    clear c2
    obtain rfl := Option.some.inj H
    go_enter Try.func42, Try.ntmps42
    go_wp2
    go_ret
    exact ⟨by first | rfl | (simp; done) | (simp [*]; done), by repeat (first | exact Drawn0.refl _ | apply Drawn0.step)⟩
  · rw [if_neg c2] at H
    have c2b0 : (a0 == 0) = false := beq_eq_false_iff_ne.mpr c2
    have c2b1 : (a0 != 0) = true := bne_iff_ne.mpr c2
    obtain rfl := Option.some.inj H
    go_enter Try.func42, Try.ntmps42
    go_wp2
    go_ret
    exact ⟨by first | rfl | (simp; done) | (simp [*]; done), by repeat (first | exact Drawn0.refl _ | apply Drawn0.step)⟩

-- NOT PRINTED: function 78 (slices_IndexFunc_int_int)

/-! ### slices_ContainsFunc_int_int: function 77 -/
set_option maxHeartbeats 2000000 in
theorem idx_ints (F : FuncId) (cap : Array Value) (p : Int → Bool) (A : Option Addr) (c : Nat) (l : List Int) (w : World) (hr : Kd.C (Kd.int .i64) w A l.length l) (hl : l.length ≤ 17592186044416)
    (hE : ∀ (a : Array Value) (w : World), (callFunc F a).run Try.prog w = .ok (.enter F a) w)
    (hF : Hid (∀ x ∈ l, ∀ W, Below w.heap.size w W → Calls Try.prog F (#[.int .i64 x] ++ cap) W fun e W' => e = .returned (.bool (p x)) ∧ Below W.heap.size W W')) :
    Calls Try.prog 78 #[.slice A l.length c, .func (.func F) #[] cap] w fun e w' => (∃ i : Int, (decide (0 ≤ i)) = l.any p ∧ e = .returned (.int .i64 i)) ∧ Below w.heap.size w w' := by
  have HR := Lib.hid hr
  clear hr
  go_enter Try.func78, Try.ntmps78
  go_wp2
  go_loopw [8] (fun i wr => ∃ k : Nat, k ≤ l.length ∧ i = .int .i64 k ∧ Hid ((l.take k).any p = false) ∧ Hid (Below w.heap.size w wr)) (fun i _ => l.length - (intOf i).toNat)
  case atStart => exact ⟨0, Nat.zero_le _, rfl, Lib.hid (by simp), Lib.hid (Below.refl _ _)⟩
  case round =>
    obtain ⟨k, hk, rfl, hany, hb⟩ := hrel
    by_cases hlt : k < l.length
    · obtain ⟨ad, rfl, h0⟩ := Kd.at_int HR.out (k : Int) (by omega) (by omega)
      have h1 : wr.cell? (ad.add k) = some (.int .i64 l[k]) := by
        have h2 := (hb.out.cell (World.block_lt_of_cell? w _ h0)).trans h0
        simpa [rd, List.getD_eq_getElem?_getD, List.getElem?_eq_getElem hlt] using h2
      clear h0
      have hs : (l.take (k + 1)).any p = (p l[k] || (l.take k).any p) := by
        rw [List.take_succ_eq_append_getElem hlt, List.any_append, List.any_cons, List.any_nil, Bool.or_false, Bool.or_comm]
      have hl1 : p l[k] = true → l.any p = true := fun h => List.any_eq_true.2 ⟨_, List.getElem_mem hlt, h⟩
      have HS := Lib.hid hs
      have HL := Lib.hid hl1
      clear hs hl1
      go_wp2_with (fail)
      refine (hF.out _ (List.getElem_mem hlt) _ hb.out).mono ?_
      rintro e w1 ⟨rfl, hb1⟩
      have HB1 := Lib.hid (below_then hb.out hb.out.size hb1)
      clear hb1
      cases hp : p l[k] with
      | true =>
        have H1 := Lib.hid (HL.out hp)
        clear hp
        go_wp2
        go_ret
        exact ⟨⟨_, by rw [H1.out]; simp, rfl⟩, HB1.out⟩
      | false =>
        have H1 := Lib.hid (HS.out.trans (by rw [hp, hany.out] <;> rfl))
        clear hp
        go_wp2
        go_roundw
        case rel => exact ⟨k + 1, by omega, by go_num, H1, HB1⟩
        case measure => simp [intOf]; omega
    · have H1 := Lib.hid (show l.any p = false by rw [← hany.out, List.take_of_length_le (by omega)])
      go_wp2
      go_ret
      exact ⟨⟨-1, by rw [H1.out]; rfl, rfl⟩, hb.out⟩
theorem contains_ints (F : FuncId) (cap : Array Value) (p : Int → Bool) (A : Option Addr) (c : Nat) (l : List Int) (r : Bool) (w : World) (hr : Kd.C (Kd.int .i64) w A l.length l) (hl : l.length ≤ 17592186044416)
    (hE : ∀ (a : Array Value) (w : World), (callFunc F a).run Try.prog w = .ok (.enter F a) w) (hp : l.any p = r)
    (hF : ∀ x ∈ l, ∀ W, Below w.heap.size w W → Calls Try.prog F (#[.int .i64 x] ++ cap) W fun e W' => e = .returned (.bool (p x)) ∧ Below W.heap.size W W') :
    Calls Try.prog 77 #[.slice A l.length c, .func (.func F) #[] cap] w fun e w' => e = .returned (.bool r) ∧ Below w.heap.size w w' := by
  have hi := idx_ints F cap p A c l w hr hl hE (Lib.hid hF)
  have HI := Lib.hid hi
  have HP := Lib.hid hp
  clear hi hr hE hF hp
  go_enter Try.func77, Try.ntmps77
  go_wp2_with (fail)
  refine HI.out.mono ?_
  rintro e w1 ⟨⟨i, hi, rfl⟩, hb⟩
  have HH := Lib.hid hi
  clear hi
  go_wp2
  go_ret
  exact ⟨by rw [← HP.out, ← HH.out]; rfl, hb⟩

end Go.Proofs.Ytobkjhiicafkbaa.P

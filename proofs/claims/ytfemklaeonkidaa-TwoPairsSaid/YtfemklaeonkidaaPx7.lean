-- Laid by this session's program hyb.py, out of the kit's print and this session's own contracts.
import Derived.Test.YtfemklaeonkidaaPx0
import Derived.Test.YtfemklaeonkidaaPx5
import Derived.Test.YtfemklaeonkidaaPx6
namespace Go.Proofs.Ytfemklaeonkidaa.P
open Go.RowKit Go.Proofs.YtfemklaeonkidaaW.PrintWords Go.Proofs.YtfemklaeonkidaaW.PrintLast Go.Proofs.YtfemklaeonkidaaW.PrintMore Go.Proofs.YtfemklaeonkidaaW.Hand
attribute [local go_sem] max2_int min2_int max_two min_two max_three min_three max_four min_four   -- for this text's walks alone
set_option linter.unusedVariables false
set_option linter.unusedSimpArgs false

/-! ### scan_Shifted: function 34 -/
def shifted (l : List S37) (s m : Int) : List S37 := l.map fun a => ⟨rshift a.f0 s m, rshift a.f1 s m⟩
def upped (l : List S37) (s : Int) : List S37 := l.map fun a => ⟨a.f0 * 2 ^ s.toNat, a.f1 * 2 ^ s.toNat⟩
def canUp (s x : Int) : Bool := decide (-2 ^ (62 - s).toNat ≤ x ∧ x ≤ 2 ^ (62 - s).toNat)
def scan_Shifted.f (l0 : List S37) (a1 a2 : Int) : Option (List S37 × Int) :=
  if l0.length ≤ 1000 ∧ -9223372036854775808 ≤ a1 ∧ a1 ≤ 9223372036854775807 then
    (if a2 < 0 ∨ 2 < a2 ∨ a1 < -62 ∨ 62 < a1 then some ([], 1) else if 0 ≤ a1 then some (shifted l0 a1 a2, 0)
      else if l0.all (fun a => canUp (-a1) a.f0 && canUp (-a1) a.f1) = true then some (upped l0 (-a1), 0) else some ([], 2)) else none
theorem cx_Shift.eq {s m : Int} (hs : 0 ≤ s ∧ s ≤ 62) (hm : m = 0 ∨ m = 1 ∨ m = 2) (a b : Int) : cx_Shift.f a b s m = some (rshift a s m, rshift b s m, 0) := by
  have e : ∀ x, round_Shift.f x s m = some (rshift x s m, 0) := fun x => if_neg (by omega)
  unfold cx_Shift.f
  rw [e, e]
  rfl
set_option maxHeartbeats 1000000 in
theorem scan_Shifted.bad (A : Option Addr) (n c : Nat) (s m : Int) (w : World) (hr : -9223372036854775808 ≤ s ∧ s ≤ 9223372036854775807) (hb : m < 0 ∨ 2 < m ∨ s < -62 ∨ 62 < s) :
    Calls Try.prog 34 #[.slice A n c, .int .i64 s, .int .i64 m] w fun e w' => e = .returned (.tuple #[.slice none 0 0, .int .i64 1]) ∧ Below w.heap.size w w' := by
  by_cases h0 : 0 ≤ s
  · have HS := Lib.hid (show round_Shift.f 0 s m = some (0, 1) from if_pos (by omega))
    clear hb
    go_enter Try.func34, Try.ntmps34
    go_wp2_with (fail)
    refine (round_Shift.calls _ _ _ _ _ _ HS.out).mono ?_
    rintro e w1 ⟨rfl, hb1⟩
    go_wp2
    go_ret2
    exact ⟨rfl, hb1⟩
  · have HS1 := Lib.hid (show round_Shift.f 0 s m = some (0, 1) from if_pos (by omega))
    have HS2 := Lib.hid (show round_Shift.f 0 (wrap64 (-s)) m = some (0, 1) from if_pos (by unfold wrap64; omega))
    clear hb h0 hr
    go_enter Try.func34, Try.ntmps34
    go_wp2_with (fail)
    all_goals
      first
        | ((with_reducible refine (round_Shift.calls _ _ _ _ _ _ HS1.out).mono ?_); rintro e w1 ⟨rfl, hb1⟩)
        | ((with_reducible refine (round_Shift.calls _ _ _ _ _ _ HS2.out).mono ?_); rintro e w1 ⟨rfl, hb1⟩)
      go_wp2
      go_ret2
      exact ⟨rfl, hb1⟩
set_option maxHeartbeats 2000000 in
set_option maxRecDepth 100000 in
theorem scan_Shifted.down (A : Option Addr) (c : Nat) (l0 : List S37) (s m : Int) (w : World) (hr : Kd.C k37 w A l0.length l0) (hl : l0.length ≤ 1000) (hs : 0 ≤ s ∧ s ≤ 62) (hm : m = 0 ∨ m = 1 ∨ m = 2) :
    Calls Try.prog 34 #[.slice A l0.length c, .int .i64 s, .int .i64 m] w fun e w' => (∃ v : Value, e = .returned (.tuple #[v, .int .i64 0]) ∧ Kd.R k37 37 w' w.heap.size (fun _ => True) v (shifted l0 s m)) ∧ Below w.heap.size w w' := by
  have HR := Lib.hid hr
  have HS := Lib.hid (show round_Shift.f 0 s m = some (0, 0) by
    unfold round_Shift.f rshift
    rw [if_neg (by omega)]
    by_cases h : s = 0
    · rw [if_pos h]
    · rw [if_neg h]
      have hz : goesUp 0 s m = false := by
        have := pow_pos (s.toNat - 1)
        unfold goesUp
        rw [Int.zero_emod]
        split
        · rfl
        · split
          · exact decide_eq_false (by omega)
          · rw [decide_eq_false (by omega), decide_eq_false (by omega)]; rfl
      rw [hz, if_neg (by decide), Int.zero_ediv])
  have HX := Lib.hid (cx_Shift.eq hs hm)
  obtain ⟨i0, hi, hzz⟩ := Option.map_eq_some_iff.1 info37
  simp only [Prod.mk.injEq] at hzz
  obtain ⟨hz0, hz1, hz2⟩ := hzz
  have HI := Lib.hid hi
  have HZ0 := Lib.hid hz0
  have HZ1 := Lib.hid hz1
  have HZ2 := Lib.hid hz2
  clear hr hm hi hz0 hz1 hz2
  go_enter Try.func34, Try.ntmps34
  go_wp2_with (fail)
  refine (round_Shift.calls _ _ _ _ _ _ HS.out).mono ?_
  rintro e w1 ⟨rfl, hb1⟩
  have HB1 := Lib.hid hb1
  clear hb1
  go_wp2_with (at_make; refine wpList_make_own _ rfl _ _ 32 rfl w.heap.size 37 i0 _ 2 Try.underlying32 HI.out HZ0.out HZ1.out .i64 .i64 (l0.length : Int) l0.length rfl rfl rfl (by rw [HZ2.out]; omega) (by unfold maxLen; omega) HB1.out.size ?_; intro w2 hown2 hg2)
  have HB2 := Lib.hid (HB1.out.grown hg2 HB1.out.size (by intro k h_; cases h_))
  have HO2 := Lib.hid (show Kd.R k37 37 w2 w.heap.size (fun _ => True) (.slice (some ⟨w1.heap.size, 0, none⟩) 0 l0.length) [] from ⟨fun _ _ => trivial, [], hown2, Reps.none _ _⟩)
  clear hown2 hg2
  go_loopw [10, 34] (fun v i wr => ∃ k : Nat, k ≤ l0.length ∧ i = .int .i64 k ∧ Hid (Kd.R k37 37 wr w.heap.size (fun _ => True) v (shifted (l0.take k) s m)) ∧ Hid (Below w.heap.size w wr)) (fun _ i _ => l0.length - (intOf i).toNat)
  case atStart => exact ⟨0, Nat.zero_le _, rfl, HO2, HB2⟩
  case round =>
    clear HO2 HB2 HB1
    obtain ⟨k, hk, rfl, HO, HB⟩ := hrel
    by_cases hlt : k < l0.length
    · obtain ⟨ad, rfl, x0, x1⟩ := at_T37 HR.out (k : Int) (by omega) (by omega)
      have hrd : rd_T37 l0 (k : Int) = l0[k] := by simp [rd_T37, List.getD_eq_getElem?_getD, List.getElem?_eq_getElem hlt]
      rw [hrd] at x0 x1
      replace x0 := (HB.out.cell (World.block_lt_of_cell? w _ x0)).trans x0
      replace x1 := (HB.out.cell (World.block_lt_of_cell? w _ x1)).trans x1
      simp only [Int.toNat_natCast] at x0 x1
      have HT := Lib.hid (show shifted (l0.take (k + 1)) s m = shifted (l0.take k) s m ++ [⟨rshift l0[k].f0 s m, rshift l0[k].f1 s m⟩] by
        unfold shifted
        rw [List.take_succ_eq_append_getElem hlt, List.map_append]; rfl)
      clear hrd
      go_wp2_with (fail)
      refine (cx_Shift.calls _ _ _ _ _ _ _ _ (HX.out _ _)).mono ?_
      rintro e w3 ⟨rfl, hb3⟩
      have HBK := Lib.hid (blk_below (new_at rfl) hb3)
      obtain ⟨c0, c1, f0, f1, lt3⟩ := cells2 HBK.out
      have HB3 := Lib.hid (below_then (below_alloc HB.out _) (by have := HB.out.size; simp; omega) hb3)
      have HO3 := Lib.hid (Kd.R_below (Kd.R_alloc (Kd.R_elderB HO.out wr.heap.size (Nat.le_refl _)) _) hb3)
      have hge := HB.out.size
      clear hb3 x0 x1 HO HB
      go_wp2_with (at_builtin; refine Kd.R_append k37 (w0 := w) w.heap.size rfl (.tmp 47) (.tmp 49) 32 37 (.agg #[(.int .i64 0), (.int .i64 0)]) 16 rfl Try.underlying32 info37 rfl (by decide) (by omega) _ (shifted (l0.take k) s m) (⟨rshift l0[k].f0 s m, rshift l0[k].f1 s m⟩ : S37) [.int .i64 (rshift l0[k].f0 s m), .int .i64 (rshift l0[k].f1 s m)] (fun k_ => True ∧ k_ ≠ wr.heap.size) (fun _ => False) rfl (by go_simp) (k37_mkM _ _ _ _) (fun _ hk => hk.elim) (fun k_ hk_ => ⟨trivial, by simp at hk_; omega⟩) (Kd.R_far (Kd.R_far HO3.out (fun _ hk_ => hk_.2) _) (fun _ hk_ => hk_.2) _) (Below.setCell (Below.setCell HB3.out (by exact hge) _) (by exact hge) _) (by simp; omega) (by simp [shifted]; omega) ?_; intro v4 w4 ho4 hb4 hg4 hat4)
      have HO4 := Lib.hid (show Kd.R k37 37 w4 w.heap.size (fun _ => True) v4 (shifted (l0.take (k + 1)) s m) by rw [HT.out]; exact Kd.R_mono ho4 (fun _ _ => trivial))
      have HB4 := Lib.hid hb4
      clear ho4 hb4 hg4 hat4 c0 c1 f0 f1 lt3
      go_wp2
      go_roundw
      case rel => exact ⟨k + 1, by omega, by go_num, HO4, HB4⟩
      case measure => simp [intOf]; omega
    · have HT := Lib.hid (show shifted (l0.take k) s m = shifted l0 s m by rw [List.take_of_length_le (by omega)])
      go_wp2
      go_ret2
      exact ⟨⟨_, rfl, by rw [← HT.out]; exact HO.out⟩, HB.out⟩
theorem round_Up.yes {s x : Int} (hs : 0 ≤ s ∧ s ≤ 62) (h : canUp s x = true) : round_Up.f x s = some (x * 2 ^ s.toNat, 0) := by
  have h := of_decide_eq_true h
  unfold round_Up.f upf
  rw [if_neg (by omega), if_neg (by omega)]
theorem round_Up.no {s x : Int} (hs : 0 ≤ s ∧ s ≤ 62) (h : canUp s x = false) : round_Up.f x s = some (0, 2) := by
  have h := of_decide_eq_false h
  unfold round_Up.f upf
  rw [if_neg (by omega), if_pos (by omega)]
def upAll (l : List S37) (s : Int) : List S37 × Int := if l.all (fun a => canUp s a.f0 && canUp s a.f1) = true then (upped l s, 0) else ([], 2)
set_option maxHeartbeats 4000000 in
set_option maxRecDepth 100000 in
theorem scan_Shifted.up (A : Option Addr) (c : Nat) (l0 : List S37) (s m : Int) (w : World) (hr : Kd.C k37 w A l0.length l0) (hl : l0.length ≤ 1000) (hs : -62 ≤ s ∧ s < 0) (hm : m = 0 ∨ m = 1 ∨ m = 2) :
    Calls Try.prog 34 #[.slice A l0.length c, .int .i64 s, .int .i64 m] w fun e w' => (∃ v : Value, e = .returned (.tuple #[v, .int .i64 (upAll l0 (-s)).2]) ∧ Kd.R k37 37 w' w.heap.size (fun _ => True) v (upAll l0 (-s)).1) ∧ Below w.heap.size w w' := by
  have HR := Lib.hid hr
  have HS := Lib.hid (show round_Shift.f 0 (-s) m = some (0, 0) by
    unfold round_Shift.f rshift
    rw [if_neg (by omega), if_neg (by omega)]
    have hz : goesUp 0 (-s) m = false := by
      have := pow_pos ((-s).toNat - 1)
      unfold goesUp
      rw [Int.zero_emod]
      split
      · rfl
      · split
        · exact decide_eq_false (by omega)
        · rw [decide_eq_false (by omega), decide_eq_false (by omega)]; rfl
    rw [hz, if_neg (by decide), Int.zero_ediv])
  have HU1 := Lib.hid (fun (x : Int) (h : canUp (-s) x = true) => round_Up.yes (s := -s) (by omega) h)
  have HU0 := Lib.hid (fun (x : Int) (h : canUp (-s) x = false) => round_Up.no (s := -s) (by omega) h)
  obtain ⟨i0, hi, hzz⟩ := Option.map_eq_some_iff.1 info37
  simp only [Prod.mk.injEq] at hzz
  obtain ⟨hz0, hz1, hz2⟩ := hzz
  have HI := Lib.hid hi
  have HZ0 := Lib.hid hz0
  have HZ1 := Lib.hid hz1
  have HZ2 := Lib.hid hz2
  clear hr hm hi hz0 hz1 hz2
  go_enter Try.func34, Try.ntmps34
  go_wp2_with (fail)
  refine (round_Shift.calls _ _ _ _ _ _ HS.out).mono ?_
  rintro e w1 ⟨rfl, hb1⟩
  have HB1 := Lib.hid hb1
  clear hb1
  go_wp2_with (at_make; refine wpList_make_own _ rfl _ _ 32 rfl w.heap.size 37 i0 _ 2 Try.underlying32 HI.out HZ0.out HZ1.out .i64 .i64 (l0.length : Int) l0.length rfl rfl rfl (by rw [HZ2.out]; omega) (by unfold maxLen; omega) HB1.out.size ?_; intro w2 hown2 hg2)
  have HB2 := Lib.hid (HB1.out.grown hg2 HB1.out.size (by intro k h_; cases h_))
  have HO2 := Lib.hid (show Kd.R k37 37 w2 w.heap.size (fun _ => True) (.slice (some ⟨w1.heap.size, 0, none⟩) 0 l0.length) [] from ⟨fun _ _ => trivial, [], hown2, Reps.none _ _⟩)
  clear hown2 hg2
  go_loopw [10, 34] (fun v i wr => ∃ k : Nat, k ≤ l0.length ∧ i = .int .i64 k ∧ Hid ((l0.take k).all (fun a => canUp (-s) a.f0 && canUp (-s) a.f1) = true) ∧ Hid (Kd.R k37 37 wr w.heap.size (fun _ => True) v (upped (l0.take k) (-s))) ∧ Hid (Below w.heap.size w wr)) (fun _ i _ => l0.length - (intOf i).toNat)
  case atStart => exact ⟨0, Nat.zero_le _, rfl, Lib.hid rfl, HO2, HB2⟩
  case round =>
    clear HO2 HB2 HB1
    obtain ⟨k, hk, rfl, HA, HO, HB⟩ := hrel
    by_cases hlt : k < l0.length
    · obtain ⟨ad, rfl, x0, x1⟩ := at_T37 HR.out (k : Int) (by omega) (by omega)
      have hrd : rd_T37 l0 (k : Int) = l0[k] := by simp [rd_T37, List.getD_eq_getElem?_getD, List.getElem?_eq_getElem hlt]
      rw [hrd] at x0 x1
      replace x0 := (HB.out.cell (World.block_lt_of_cell? w _ x0)).trans x0
      replace x1 := (HB.out.cell (World.block_lt_of_cell? w _ x1)).trans x1
      simp only [Int.toNat_natCast] at x0 x1
      have HT := Lib.hid (show upped (l0.take (k + 1)) (-s) = upped (l0.take k) (-s) ++ [⟨l0[k].f0 * 2 ^ (-s).toNat, l0[k].f1 * 2 ^ (-s).toNat⟩] by
        unfold upped
        rw [List.take_succ_eq_append_getElem hlt, List.map_append]; rfl)
      have HAk := Lib.hid (show (l0.take (k + 1)).all (fun a => canUp (-s) a.f0 && canUp (-s) a.f1) = (canUp (-s) l0[k].f0 && canUp (-s) l0[k].f1) by
        rw [List.take_succ_eq_append_getElem hlt, List.all_append, HA.out]; simp)
      have HN := Lib.hid (fun (h : (canUp (-s) l0[k].f0 && canUp (-s) l0[k].f1) = false) => show upAll l0 (-s) = ([], 2) by
        unfold upAll
        rw [if_neg]
        intro hx
        have := List.all_eq_true.1 hx _ (List.getElem_mem hlt)
        rw [h] at this
        cases this)
      clear hrd
      cases h0 : canUp (-s) l0[k].f0 with
      | false =>
        have H2 := Lib.hid (HN.out (by rw [h0, Bool.false_and]))
        have HC0 := Lib.hid (HU0.out _ h0)
        have HC1 := Lib.hid (show ∃ v1 v2, round_Up.f l0[k].f1 (-s) = some (v1, v2) from ⟨_, _, rfl⟩)
        clear h0 HA
        obtain ⟨v1, v2, hC1⟩ := HC1.out
        have HC1' := Lib.hid hC1
        clear hC1 HC1
        go_wp2_with (fail)
        refine (round_Up.calls _ _ _ _ _ HC0.out).mono ?_
        rintro e w3 ⟨rfl, ⟨n3, rfl⟩⟩
        go_wp2_with (fail)
        refine (round_Up.calls _ _ _ _ _ HC1'.out).mono ?_
        rintro e w4 ⟨rfl, ⟨n4, rfl⟩⟩
        go_wp2
        go_ret2
        exact ⟨⟨_, by rw [H2.out] <;> rfl, by rw [H2.out]; exact Kd.R_nil _ _ _ _ _⟩, by repeat (first | exact HB.out | refine below_alloc ?_ _ | apply pw_below_drewN | apply below_drew1)⟩
      | true =>
        have HC0 := Lib.hid (HU1.out _ h0)
        cases h1 : canUp (-s) l0[k].f1 with
        | false =>
          have H2 := Lib.hid (HN.out (by rw [h0, h1, Bool.and_false]))
          have HC1 := Lib.hid (HU0.out _ h1)
          clear h0 h1 HA
          go_wp2_with (fail)
          refine (round_Up.calls _ _ _ _ _ HC0.out).mono ?_
          rintro e w3 ⟨rfl, ⟨n3, rfl⟩⟩
          go_wp2_with (fail)
          refine (round_Up.calls _ _ _ _ _ HC1.out).mono ?_
          rintro e w4 ⟨rfl, ⟨n4, rfl⟩⟩
          go_wp2
          go_ret2
          exact ⟨⟨_, by rw [H2.out] <;> rfl, by rw [H2.out]; exact Kd.R_nil _ _ _ _ _⟩, by repeat (first | exact HB.out | refine below_alloc ?_ _ | apply pw_below_drewN | apply below_drew1)⟩
        | true =>
          have HC1 := Lib.hid (HU1.out _ h1)
          have HA2 := Lib.hid (HAk.out.trans (by rw [h0, h1, Bool.and_true]))
          clear h0 h1 HA HAk
          have hge := HB.out.size
          go_wp2_with (fail)
          refine (round_Up.calls _ _ _ _ _ HC0.out).mono ?_
          rintro e w3 ⟨rfl, ⟨n3, rfl⟩⟩
          go_wp2_with (fail)
          refine (round_Up.calls _ _ _ _ _ HC1.out).mono ?_
          rintro e w4 ⟨rfl, ⟨n4, rfl⟩⟩
          go_wp2_with (at_builtin; refine Kd.R_append k37 (w0 := w) w.heap.size rfl (.tmp 73) (.tmp 77) 32 37 (.agg #[(.int .i64 0), (.int .i64 0)]) 16 rfl Try.underlying32 info37 rfl (by decide) (by omega) _ (upped (l0.take k) (-s)) (⟨l0[k].f0 * 2 ^ (-s).toNat, l0[k].f1 * 2 ^ (-s).toNat⟩ : S37) [.int .i64 (l0[k].f0 * 2 ^ (-s).toNat), .int .i64 (l0[k].f1 * 2 ^ (-s).toNat)] (fun _ => True) (fun _ => False) rfl (by go_simp) (k37_mkM _ _ _ _) (fun _ hk => hk.elim) (fun _ _ => trivial) (by repeat (first | exact HO.out | apply Kd.R_alloc | apply Kd.R_drewN | apply Kd.R_drew)) (by repeat (first | exact HB.out | refine below_alloc ?_ _ | apply pw_below_drewN | apply below_drew1)) (by simp; omega) (by simp [upped]; omega) ?_; intro v5 w5 ho5 hb5 hg5 hat5)
          have HO5 := Lib.hid (show Kd.R k37 37 w5 w.heap.size (fun _ => True) v5 (upped (l0.take (k + 1)) (-s)) by rw [HT.out]; exact ho5)
          have HB5 := Lib.hid hb5
          clear ho5 hb5 hg5 hat5 HO HB
          go_wp2
          go_roundw
          case rel => exact ⟨k + 1, by omega, by go_num, HA2, HO5, HB5⟩
          case measure => simp [intOf]; omega
    · have HT := Lib.hid (show upped (l0.take k) (-s) = (upAll l0 (-s)).1 ∧ (upAll l0 (-s)).2 = 0 by
        have ha := HA.out
        rw [List.take_of_length_le (by omega)] at ha ⊢
        unfold upAll
        rw [if_pos ha]
        exact ⟨rfl, rfl⟩)
      go_wp2
      go_ret2
      exact ⟨⟨_, by rw [HT.out.2] <;> rfl, by rw [← HT.out.1]; exact HO.out⟩, HB.out⟩
theorem scan_Shifted.calls (A0 : Option Addr) (c0 : Nat) (l0 : List S37) (a1 a2 : Int) (r1 : List S37) (r2 : Int) (w : World) (hr0 : Kd.C k37 w A0 l0.length l0) (hc0 : l0.length ≤ c0) (h : scan_Shifted.f l0 a1 a2 = some (r1, r2)) :
    Calls Try.prog 34 #[.slice A0 l0.length c0, .int .i64 a1, .int .i64 a2] w fun e w' => ∃ v0_ : Value, e = .returned (.tuple #[v0_, .int .i64 r2]) ∧ Kd.R k37 37 w' w.heap.size (fun _ => True) v0_ r1 ∧ Below w.heap.size w w' := by
  unfold scan_Shifted.f at h
  by_cases hg : l0.length ≤ 1000 ∧ -9223372036854775808 ≤ a1 ∧ a1 ≤ 9223372036854775807
  · rw [if_pos hg] at h
    by_cases hb : a2 < 0 ∨ 2 < a2 ∨ a1 < -62 ∨ 62 < a1
    · rw [if_pos hb] at h
      cases h
      exact (scan_Shifted.bad A0 l0.length c0 a1 a2 w hg.2 hb).mono fun e w' ⟨he, hw⟩ => ⟨_, he, Kd.R_nil _ _ _ _ _, hw⟩
    rw [if_neg hb] at h
    by_cases h0 : 0 ≤ a1
    · rw [if_pos h0] at h
      cases h
      exact (scan_Shifted.down A0 c0 l0 a1 a2 w hr0 hg.1 (by omega) (by omega)).mono fun e w' ⟨⟨v, he, hv⟩, hw⟩ => ⟨v, he, hv, hw⟩
    · rw [if_neg h0] at h
      have e : upAll l0 (-a1) = (r1, r2) := by
        unfold upAll
        split <;> rename_i hx
        · rw [if_pos hx] at h; exact Option.some.inj h
        · rw [if_neg hx] at h; exact Option.some.inj h
      have := scan_Shifted.up A0 c0 l0 a1 a2 w hr0 hg.1 (by omega) (by omega)
      rw [e] at this
      exact this.mono fun e w' ⟨⟨v, he, hv⟩, hw⟩ => ⟨v, he, hv, hw⟩
  · rw [if_neg hg] at h
    cases h

end Go.Proofs.Ytfemklaeonkidaa.P

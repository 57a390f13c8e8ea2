-- Laid by this session's program hyb.py, out of the kit's print and this session's own contracts.
import Derived.Test.YtfemklaeonkidaaPx0
import Derived.Test.YtfemklaeonkidaaPx2
import Derived.Test.YtfemklaeonkidaaPx3
import Derived.Test.YtfemklaeonkidaaPx4
import Derived.Test.YtfemklaeonkidaaPx5
import Derived.Test.YtfemklaeonkidaaPx7
import Derived.Test.YtfemklaeonkidaaPx8
namespace Go.Proofs.Ytfemklaeonkidaa.P
open Go.RowKit Go.Proofs.YtfemklaeonkidaaW.PrintWords Go.Proofs.YtfemklaeonkidaaW.PrintLast Go.Proofs.YtfemklaeonkidaaW.PrintMore Go.Proofs.YtfemklaeonkidaaW.Hand
attribute [local go_sem] max2_int min2_int max_two min_two max_three min_three max_four min_four   -- for this text's walks alone
set_option linter.unusedVariables false
set_option linter.unusedSimpArgs false

/-! ### headroomlaw09_ScanFits: function 8 -/
mutual
def headroomlaw09_ScanFits.j0 : Nat → List (S37) → Int → Int → Int → Int → Bool → Option (Bool)
  | 0, _, _, _, _, _, _ => none
  | k + 1, x0, x1, x2, x3, x9, x44 => if x44 = true then (some false) else (if 0 ≤ x9 then (if (wrap64 ((shl .i64 1 x9) + 1)) = 0 then (none) else ((scan_Room.f k (Int.tmod (wrap64 ((wrap64 ((Int.tmod x1 (wrap64 ((shl .i64 1 x9) + 1))) + (shl .i64 1 x9))) + 1)) (wrap64 ((shl .i64 1 x9) + 1))) x2).bind fun bt123 => ((scan_Pre.f 2 (Int.tmod (wrap64 ((wrap64 ((Int.tmod x1 (wrap64 ((shl .i64 1 x9) + 1))) + (shl .i64 1 x9))) + 1)) (wrap64 ((shl .i64 1 x9) + 1))) x2).bind fun bt125 => ((scan_Pre.f 4 (Int.tmod (wrap64 ((wrap64 ((Int.tmod x1 (wrap64 ((shl .i64 1 x9) + 1))) + (shl .i64 1 x9))) + 1)) (wrap64 ((shl .i64 1 x9) + 1))) x2).bind fun bt127 => (if bt123.2 = 0 then (if bt125.2 = 0 then (if bt127.2 = 0 then ((headroomlaw09_alive.f k).bind fun t129 => (headroomlaw09_ScanFits.j1 k x0 (Int.tmod (wrap64 ((wrap64 ((Int.tmod x1 (wrap64 ((shl .i64 1 x9) + 1))) + (shl .i64 1 x9))) + 1)) (wrap64 ((shl .i64 1 x9) + 1))) x3 x9 bt123.1 bt125.1 bt127.1 (!t129))) else (headroomlaw09_ScanFits.j1 k x0 (Int.tmod (wrap64 ((wrap64 ((Int.tmod x1 (wrap64 ((shl .i64 1 x9) + 1))) + (shl .i64 1 x9))) + 1)) (wrap64 ((shl .i64 1 x9) + 1))) x3 x9 bt123.1 bt125.1 bt127.1 true)) else (headroomlaw09_ScanFits.j1 k x0 (Int.tmod (wrap64 ((wrap64 ((Int.tmod x1 (wrap64 ((shl .i64 1 x9) + 1))) + (shl .i64 1 x9))) + 1)) (wrap64 ((shl .i64 1 x9) + 1))) x3 x9 bt123.1 bt125.1 bt127.1 true)) else (headroomlaw09_ScanFits.j1 k x0 (Int.tmod (wrap64 ((wrap64 ((Int.tmod x1 (wrap64 ((shl .i64 1 x9) + 1))) + (shl .i64 1 x9))) + 1)) (wrap64 ((shl .i64 1 x9) + 1))) x3 x9 bt123.1 bt125.1 bt127.1 true)))))) else (none))
def headroomlaw09_ScanFits.j1 : Nat → List (S37) → Int → Int → Int → Int → Int → Int → Bool → Option (Bool)
  | 0, _, _, _, _, _, _, _, _ => none
  | k + 1, x0, x1, x3, x9, x11, x13, x15, x89 => if x89 = true then (some false) else (if x1 > 0 then (if 0 ≤ x11 then (if 0 ≤ (wrap64 (x9 - 2)) then (if (shl .i64 x1 x11) ≤ (shl .i64 1 (wrap64 (x9 - 2))) then (headroomlaw09_ScanFits.j2 k x0 x3 x11 true) else (if x11 > 0 then (if 0 ≤ (wrap64 (x9 - 1)) then (if (shl .i64 x1 x11) > (shl .i64 1 (wrap64 (x9 - 1))) then (headroomlaw09_ScanFits.j2 k x0 x3 x11 true) else (if 0 ≤ (wrap64 ((wrap64 (x9 - 2)) + x13)) then (if x1 > (shl .i64 1 (wrap64 ((wrap64 (x9 - 2)) + x13))) then (headroomlaw09_ScanFits.j2 k x0 x3 x11 true) else (if 0 ≤ (wrap64 ((wrap64 (x9 - 3)) + x15)) then (if x1 > (shl .i64 1 (wrap64 ((wrap64 (x9 - 3)) + x15))) then (headroomlaw09_ScanFits.j2 k x0 x3 x11 true) else (if x13 > 2 then (headroomlaw09_ScanFits.j2 k x0 x3 x11 true) else (headroomlaw09_ScanFits.j2 k x0 x3 x11 (decide (x15 > 3))))) else (none))) else (none))) else (none)) else (if 0 ≤ (wrap64 ((wrap64 (x9 - 2)) + x13)) then (if x1 > (shl .i64 1 (wrap64 ((wrap64 (x9 - 2)) + x13))) then (headroomlaw09_ScanFits.j2 k x0 x3 x11 true) else (if 0 ≤ (wrap64 ((wrap64 (x9 - 3)) + x15)) then (if x1 > (shl .i64 1 (wrap64 ((wrap64 (x9 - 3)) + x15))) then (headroomlaw09_ScanFits.j2 k x0 x3 x11 true) else (if x13 > 2 then (headroomlaw09_ScanFits.j2 k x0 x3 x11 true) else (headroomlaw09_ScanFits.j2 k x0 x3 x11 (decide (x15 > 3))))) else (none))) else (none)))) else (none)) else (none)) else (if x11 > 0 then (if 0 ≤ x11 then (if 0 ≤ (wrap64 (x9 - 1)) then (if (shl .i64 x1 x11) > (shl .i64 1 (wrap64 (x9 - 1))) then (headroomlaw09_ScanFits.j2 k x0 x3 x11 true) else (if 0 ≤ (wrap64 ((wrap64 (x9 - 2)) + x13)) then (if x1 > (shl .i64 1 (wrap64 ((wrap64 (x9 - 2)) + x13))) then (headroomlaw09_ScanFits.j2 k x0 x3 x11 true) else (if 0 ≤ (wrap64 ((wrap64 (x9 - 3)) + x15)) then (if x1 > (shl .i64 1 (wrap64 ((wrap64 (x9 - 3)) + x15))) then (headroomlaw09_ScanFits.j2 k x0 x3 x11 true) else (if x13 > 2 then (headroomlaw09_ScanFits.j2 k x0 x3 x11 true) else (headroomlaw09_ScanFits.j2 k x0 x3 x11 (decide (x15 > 3))))) else (none))) else (none))) else (none)) else (none)) else (if 0 ≤ (wrap64 ((wrap64 (x9 - 2)) + x13)) then (if x1 > (shl .i64 1 (wrap64 ((wrap64 (x9 - 2)) + x13))) then (headroomlaw09_ScanFits.j2 k x0 x3 x11 true) else (if 0 ≤ (wrap64 ((wrap64 (x9 - 3)) + x15)) then (if x1 > (shl .i64 1 (wrap64 ((wrap64 (x9 - 3)) + x15))) then (headroomlaw09_ScanFits.j2 k x0 x3 x11 true) else (if x13 > 2 then (headroomlaw09_ScanFits.j2 k x0 x3 x11 true) else (headroomlaw09_ScanFits.j2 k x0 x3 x11 (decide (x15 > 3))))) else (none))) else (none))))
def headroomlaw09_ScanFits.j2 : Nat → List (S37) → Int → Int → Bool → Option (Bool)
  | 0, _, _, _, _ => none
  | k + 1, x0, x3, x11, x139 => if x139 = true then (some false) else ((scan_Shifted.f x0 (wrap64 (-x11)) x3).bind fun bt130 => (if bt130.2 = 0 then ((scan_Shifted.f bt130.1 x11 x3).bind fun bt134 => (if bt134.2 = 0 then ((headroomref03_Same.f k bt134.1 x0).bind fun t138 => (some t138)) else (some false))) else (if bt130.2 = 2 then (some ((bt130.1.length : Int) == 0)) else (some false))))
end
def headroomlaw09_ScanFits.f (k : Nat) (l0 : List (S37)) (a1 : Int) (a2 : Int) (a3 : Int) : Option (Bool) := if 0 ≤ (mn (l0.length : Int) 70) then (if (mn (l0.length : Int) 70) ≤ (l0.length : Int) then ((some (l0.take ((mn (l0.length : Int) 70) : Int).toNat : List (S37))).bind fun y117 => ((sat_Bits.f (Int.tmod (wrap64 ((Int.tmod a2 2) + 2)) 2)).bind fun bt121 => (if bt121.2 = 0 then (headroomlaw09_ScanFits.j0 k y117 a1 (Int.tmod (wrap64 ((Int.tmod a2 2) + 2)) 2) (Int.tmod (wrap64 ((Int.tmod a3 3) + 3)) 3) bt121.1 (decide (bt121.1 < 4))) else (headroomlaw09_ScanFits.j0 k y117 a1 (Int.tmod (wrap64 ((Int.tmod a2 2) + 2)) 2) (Int.tmod (wrap64 ((Int.tmod a3 3) + 3)) 3) bt121.1 true)))) else (none)) else (none)
theorem headroomlaw09_ScanFits.mono_l : ∀ k, (∀ y0 y1 y2 y3 y4 y5, LeO (headroomlaw09_ScanFits.j0 k y0 y1 y2 y3 y4 y5) (headroomlaw09_ScanFits.j0 (k + 1) y0 y1 y2 y3 y4 y5)) ∧ (∀ y0 y1 y2 y3 y4 y5 y6 y7, LeO (headroomlaw09_ScanFits.j1 k y0 y1 y2 y3 y4 y5 y6 y7) (headroomlaw09_ScanFits.j1 (k + 1) y0 y1 y2 y3 y4 y5 y6 y7)) ∧ (∀ y0 y1 y2 y3, LeO (headroomlaw09_ScanFits.j2 k y0 y1 y2 y3) (headroomlaw09_ScanFits.j2 (k + 1) y0 y1 y2 y3))
  | 0 => ⟨fun _ _ _ _ _ _ r h => by simp [headroomlaw09_ScanFits.j0] at h, fun _ _ _ _ _ _ _ _ r h => by simp [headroomlaw09_ScanFits.j1] at h, fun _ _ _ _ r h => by simp [headroomlaw09_ScanFits.j2] at h⟩
  | k + 1 => by
    obtain ⟨ih0, ih1, ih2⟩ := headroomlaw09_ScanFits.mono_l k
    refine ⟨?_, ?_, ?_⟩
    · intro y0 y1 y2 y3 y4 y5
      unfold headroomlaw09_ScanFits.j0
      repeat' first
      | (with_reducible exact ih0 _ _ _ _ _ _)
      | (with_reducible exact ih1 _ _ _ _ _ _ _ _)
      | (with_reducible exact ih2 _ _ _ _)
      | (with_reducible exact headroomlaw09_alive.mono _)
      | (with_reducible exact headroomref03_Same.mono _ _ _)
      | (with_reducible exact scan_Room.mono _ _ _)
      | (with_reducible exact LeO.refl _)
      | (with_reducible exact LeO.none _)
      | (with_reducible refine LeO.ite ?_ ?_)
      | (with_reducible refine LeO.bind ?_ (fun _ => ?_))
      | exact ih0 _ _ _ _ _ _
      | exact ih1 _ _ _ _ _ _ _ _
      | exact ih2 _ _ _ _
      | exact headroomlaw09_alive.mono _
      | exact headroomref03_Same.mono _ _ _
      | exact scan_Room.mono _ _ _
      | exact LeO.none _
      | refine LeO.ite ?_ ?_
      | refine LeO.bind ?_ (fun _ => ?_)
    · intro y0 y1 y2 y3 y4 y5 y6 y7
      unfold headroomlaw09_ScanFits.j1
      repeat' first
      | (with_reducible exact ih0 _ _ _ _ _ _)
      | (with_reducible exact ih1 _ _ _ _ _ _ _ _)
      | (with_reducible exact ih2 _ _ _ _)
      | (with_reducible exact headroomlaw09_alive.mono _)
      | (with_reducible exact headroomref03_Same.mono _ _ _)
      | (with_reducible exact scan_Room.mono _ _ _)
      | (with_reducible exact LeO.refl _)
      | (with_reducible exact LeO.none _)
      | (with_reducible refine LeO.ite ?_ ?_)
      | (with_reducible refine LeO.bind ?_ (fun _ => ?_))
      | exact ih0 _ _ _ _ _ _
      | exact ih1 _ _ _ _ _ _ _ _
      | exact ih2 _ _ _ _
      | exact headroomlaw09_alive.mono _
      | exact headroomref03_Same.mono _ _ _
      | exact scan_Room.mono _ _ _
      | exact LeO.none _
      | refine LeO.ite ?_ ?_
      | refine LeO.bind ?_ (fun _ => ?_)
    · intro y0 y1 y2 y3
      unfold headroomlaw09_ScanFits.j2
      repeat' first
      | (with_reducible exact ih0 _ _ _ _ _ _)
      | (with_reducible exact ih1 _ _ _ _ _ _ _ _)
      | (with_reducible exact ih2 _ _ _ _)
      | (with_reducible exact headroomlaw09_alive.mono _)
      | (with_reducible exact headroomref03_Same.mono _ _ _)
      | (with_reducible exact scan_Room.mono _ _ _)
      | (with_reducible exact LeO.refl _)
      | (with_reducible exact LeO.none _)
      | (with_reducible refine LeO.ite ?_ ?_)
      | (with_reducible refine LeO.bind ?_ (fun _ => ?_))
      | exact ih0 _ _ _ _ _ _
      | exact ih1 _ _ _ _ _ _ _ _
      | exact ih2 _ _ _ _
      | exact headroomlaw09_alive.mono _
      | exact headroomref03_Same.mono _ _ _
      | exact scan_Room.mono _ _ _
      | exact LeO.none _
      | refine LeO.ite ?_ ?_
      | refine LeO.bind ?_ (fun _ => ?_)
theorem headroomlaw09_ScanFits.mono : ∀ a0 a1 a2 a3 k, LeO (headroomlaw09_ScanFits.f k a0 a1 a2 a3) (headroomlaw09_ScanFits.f (k + 1) a0 a1 a2 a3) := by
  intro a0 a1 a2 a3 k
  obtain ⟨ih0, ih1, ih2⟩ := headroomlaw09_ScanFits.mono_l k
  unfold headroomlaw09_ScanFits.f
  repeat' first
      | (with_reducible exact ih0 _ _ _ _ _ _)
      | (with_reducible exact ih1 _ _ _ _ _ _ _ _)
      | (with_reducible exact ih2 _ _ _ _)
      | (with_reducible exact headroomlaw09_alive.mono _)
      | (with_reducible exact headroomref03_Same.mono _ _ _)
      | (with_reducible exact scan_Room.mono _ _ _)
      | (with_reducible exact LeO.refl _)
      | (with_reducible exact LeO.none _)
      | (with_reducible refine LeO.ite ?_ ?_)
      | (with_reducible refine LeO.bind ?_ (fun _ => ?_))
      | exact ih0 _ _ _ _ _ _
      | exact ih1 _ _ _ _ _ _ _ _
      | exact ih2 _ _ _ _
      | exact headroomlaw09_alive.mono _
      | exact headroomref03_Same.mono _ _ _
      | exact scan_Room.mono _ _ _
      | exact LeO.none _
      | refine LeO.ite ?_ ?_
      | refine LeO.bind ?_ (fun _ => ?_)
set_option maxHeartbeats 8000000 in
set_option maxRecDepth 100000 in
theorem headroomlaw09_ScanFits.calls (k : Nat) (A0 : Option Addr) (c0 : Nat) (l0 : List (S37)) (a1 : Int) (a2 : Int) (a3 : Int) (r : Bool) (w : World) (hr0 : Kd.C k37 w A0 l0.length l0) (hc0 : l0.length ≤ c0) (h : headroomlaw09_ScanFits.f k l0 a1 a2 a3 = some r) :
    Calls Try.prog 8 #[.slice A0 l0.length c0, .int .i64 a1, .int .i64 a2, .int .i64 a3] w fun e w' => e = .returned (.bool r) ∧ Below w.heap.size w w' := by
  have HR0 := Aside0.mk hr0
  have HC0 := Aside0.mk hc0
  clear hr0 hc0
  have HB := Aside0.mk (Below.refl w.heap.size w)
  have H : (if 0 ≤ (mn (l0.length : Int) 70) then (if (mn (l0.length : Int) 70) ≤ (l0.length : Int) then ((some (l0.take ((mn (l0.length : Int) 70) : Int).toNat : List (S37))).bind fun y117 => ((sat_Bits.f (Int.tmod (wrap64 ((Int.tmod a2 2) + 2)) 2)).bind fun bt121 => (if bt121.2 = 0 then (headroomlaw09_ScanFits.j0 k y117 a1 (Int.tmod (wrap64 ((Int.tmod a2 2) + 2)) 2) (Int.tmod (wrap64 ((Int.tmod a3 3) + 3)) 3) bt121.1 (decide (bt121.1 < 4))) else (headroomlaw09_ScanFits.j0 k y117 a1 (Int.tmod (wrap64 ((Int.tmod a2 2) + 2)) 2) (Int.tmod (wrap64 ((Int.tmod a3 3) + 3)) 3) bt121.1 true)))) else (none)) else (none)) = some r := h
  clear h
  obtain ⟨ji5, hji5⟩ : ∃ j_ : Int, (mn (l0.length : Int) 70) = j_ := ⟨_, rfl⟩
  replace H : (if 0 ≤ (ji5) then (if (ji5) ≤ (l0.length : Int) then ((some (l0.take ((ji5) : Int).toNat : List (S37))).bind fun y117 => ((sat_Bits.f (Int.tmod (wrap64 ((Int.tmod a2 2) + 2)) 2)).bind fun bt121 => (if bt121.2 = 0 then (headroomlaw09_ScanFits.j0 k y117 a1 (Int.tmod (wrap64 ((Int.tmod a2 2) + 2)) 2) (Int.tmod (wrap64 ((Int.tmod a3 3) + 3)) 3) bt121.1 (decide (bt121.1 < 4))) else (headroomlaw09_ScanFits.j0 k y117 a1 (Int.tmod (wrap64 ((Int.tmod a2 2) + 2)) 2) (Int.tmod (wrap64 ((Int.tmod a3 3) + 3)) 3) bt121.1 true)))) else (none)) else (none)) = some r := by first | (rw [hji5] at H; exact H) | (simp only [hji5] at H ⊢; exact H)
  (try (have hji5h : ji5 ≤ 70 := by (rw [← hji5]; unfold mn; (repeat' split) <;> omega)))
  (try (have hji5g : ji5 ≤ 64 := by omega))
  (try (have hji5l : 0 ≤ ji5 := by (rw [← hji5]; unfold mn; (repeat' split) <;> omega)))
  (try (have hji5m : 0 ≤ ji5 := by omega))
  have hji5_ : (if 70 < (l0.length : Int) then 70 else (l0.length : Int)) = ji5 := hji5
  by_cases c6 : 0 ≤ (ji5)
  · rw [if_pos c6] at H
    have c6b0 := eq_true c6
    have c6b1 : decide (0 ≤ (ji5)) = true := decide_eq_true c6
    clear c6
    by_cases c7 : (ji5) ≤ (l0.length : Int)
    · rw [if_pos c7] at H
      have c7b0 := eq_true c7
      have c7b1 : decide ((ji5) ≤ (l0.length : Int)) = true := decide_eq_true c7
      clear c7
      obtain ⟨y117, hy117⟩ : ∃ y_ : List (S37), y_ = (l0.take ((ji5) : Int).toNat) := ⟨_, rfl⟩
      replace H : ((sat_Bits.f (Int.tmod (wrap64 ((Int.tmod a2 2) + 2)) 2)).bind fun bt121 => (if bt121.2 = 0 then (headroomlaw09_ScanFits.j0 k y117 a1 (Int.tmod (wrap64 ((Int.tmod a2 2) + 2)) 2) (Int.tmod (wrap64 ((Int.tmod a3 3) + 3)) 3) bt121.1 (decide (bt121.1 < 4))) else (headroomlaw09_ScanFits.j0 k y117 a1 (Int.tmod (wrap64 ((Int.tmod a2 2) + 2)) 2) (Int.tmod (wrap64 ((Int.tmod a3 3) + 3)) 3) bt121.1 true))) = some r := by first | (rw [hy117]; with_reducible exact H) | (have H2_ := (Option.bind_some _ _).symm.trans H; rw [hy117]; with_reducible exact H2_) | (have H2_ := (Option.bind_some _ _).symm.trans H; with_reducible exact H2_) | with_reducible exact H | (rw [hy117]; exact H) | exact H
      have Ny117 := Aside0.mk hy117
      clear hy117
      replace H := Option.bind_eq_some_iff.mp H
      obtain ⟨⟨t121, t122⟩, A80, H⟩ := H
      replace H : (if t122 = 0 then (headroomlaw09_ScanFits.j0 k y117 a1 (Int.tmod (wrap64 ((Int.tmod a2 2) + 2)) 2) (Int.tmod (wrap64 ((Int.tmod a3 3) + 3)) 3) t121 (decide (t121 < 4))) else (headroomlaw09_ScanFits.j0 k y117 a1 (Int.tmod (wrap64 ((Int.tmod a2 2) + 2)) 2) (Int.tmod (wrap64 ((Int.tmod a3 3) + 3)) 3) t121 true)) = some r := H
      have A8 := Aside0.mk A80
      clear A80
      have HC9 := Aside0.mk H
      clear H
      have q10 : ((ji5) : Int) ≤ ((l0.length : Int) : Int) := of_decide_eq_true (by first | (with_reducible assumption) | assumption)
      obtain ⟨i010, hi010, _, hsz10, _⟩ := info_parts info37
      have hroom10 : l0.length ≤ c0 := HC0.out
      have hC10 : Kd.C k37 _ A0 l0.length l0 := HR0.out
      have hcut10 := cut_to (P := Try.prog) 32 37 .i64 Try.underlying32 hi010 A0 l0.length c0 (ji5) (of_decide_eq_true (by first | (with_reducible assumption) | assumption)) q10 hroom10
      have hr10 := Kd.C_take (m := ((ji5) : Int).toNat) hC10 (by omega)
      have hy10 : y117.length = ((ji5) : Int).toNat := (by rw [Ny117.out, List.length_take]; omega)
      rw [← Ny117.out] at hr10
      rw [← hy10] at hcut10
      have HR120 := Aside0.mk hr10
      have HC120 := Aside0.mk (show y117.length ≤ c0 from by omega)
      clear hr10 hC10 hroom10 hi010 hsz10
      have KY10 := Aside0.mk hy10
      clear hy10
      replace q10 := eq_true q10
      go_enter Try.func8, Try.ntmps8
      go_upto_region 3 with (first | (go_at_call 38; (with_reducible refine (sat_Bits.calls (Int.tmod (wrap64 ((Int.tmod a2 2) + 2)) 2) t121 t122 _ A8.out).mono ?_); rintro e w' ⟨rfl, ⟨nd, rfl⟩⟩; (try first | exact ⟨rfl, _, World.drewN_drewN _ _ _⟩ | exact ⟨rfl, _, Eq.trans (World.drewN_drewN _ _ _) (congrArg (World.drewN _) (Nat.add_assoc _ _ _))⟩)))
      repeat (go_quiet (first | (go_at_call 38; (with_reducible refine (sat_Bits.calls (Int.tmod (wrap64 ((Int.tmod a2 2) + 2)) 2) t121 t122 _ A8.out).mono ?_); rintro e w' ⟨rfl, ⟨nd, rfl⟩⟩; (try first | exact ⟨rfl, _, World.drewN_drewN _ _ _⟩ | exact ⟨rfl, _, Eq.trans (World.drewN_drewN _ _ _) (congrArg (World.drewN _) (Nat.add_assoc _ _ _))⟩))); go_upto_region 3 with (first | (go_at_call 38; (with_reducible refine (sat_Bits.calls (Int.tmod (wrap64 ((Int.tmod a2 2) + 2)) 2) t121 t122 _ A8.out).mono ?_); rintro e w' ⟨rfl, ⟨nd, rfl⟩⟩; (try first | exact ⟨rfl, _, World.drewN_drewN _ _ _⟩ | exact ⟨rfl, _, Eq.trans (World.drewN_drewN _ _ _) (congrArg (World.drewN _) (Nat.add_assoc _ _ _))⟩))))
      (try simp only [Act.put, List.setIfInBounds_toArray, List.set_cons_zero, List.set_cons_succ])
      go_cut [44] (fun v44 wc => ∃ (kq : Nat) (x44_8 : Bool), v44 = .bool x44_8 ∧ Aside0 (headroomlaw09_ScanFits.j0 kq y117 a1 (Int.tmod (wrap64 ((Int.tmod a2 2) + 2)) 2) (Int.tmod (wrap64 ((Int.tmod a3 3) + 3)) 3) t121 x44_8 = some r) ∧ Aside0 (kq ≤ k) ∧ Aside0 (Below w.heap.size w wc))
      case first =>
        as_aux_lemma =>
        have H := HC9.out
        clear HC9
        by_cases c11 : t122 = 0
        · rw [if_pos c11] at H
          have c11b0 : (t122 == 0) = true := beq_iff_eq.mpr c11
          have c11b1 : (t122 != 0) = false := bne_eq_false_iff_eq.mpr c11
          clear c11
          (first | rw [c11b0] | (simp only [i64_w, i32_w]; rw [c11b0]) | skip)
          have H' := Aside0.mk H
          clear H
          go_wp2
          repeat (go_quiet (fail); try go_wp2)
          go_meet
          case rel => exact ⟨_, (decide (t121 < 4)), (by first | rfl | (simp; done) | (simp [*]; done)), H', ⟨by first | omega | exact Nat.le_refl _⟩, ⟨by repeat (first | (with_reducible first | exact HB.out | apply below_alloc | apply pw_below_drewN | apply below_drew1) | exact HB.out)⟩⟩
        · rw [if_neg c11] at H
          have c11b0 : (t122 == 0) = false := beq_eq_false_iff_ne.mpr c11
          have c11b1 : (t122 != 0) = true := bne_iff_ne.mpr c11
          (first | rw [c11b0] | (simp only [i64_w, i32_w]; rw [c11b0]) | skip)
          have H' := Aside0.mk H
          clear H
          go_wp2
          repeat (go_quiet (fail); try go_wp2)
          go_meet
          case rel => exact ⟨_, (true), (by first | rfl | (simp; done) | (simp [*]; done)), H', ⟨by first | omega | exact Nat.le_refl _⟩, ⟨by repeat (first | (with_reducible first | exact HB.out | apply below_alloc | apply pw_below_drewN | apply below_drew1) | exact HB.out)⟩⟩
      case rest =>
        as_aux_lemma =>
        clear HC9
        try clear c1
        try clear q1
        try clear p2
        try clear c6
        try clear c6b0
        try clear c6b1
        try clear p6
        try clear c7
        try clear c7b0
        try clear c7b1
        try clear c8
        try clear q10
        try clear c11
        try clear c11b0
        try clear c11b1
        try clear q10
        obtain ⟨kq, x44_8, rfl, HA, HJ8, HB⟩ := hcut
        cases kq with
        | zero => exact absurd HA.out (by simp [headroomlaw09_ScanFits.j0])
        | succ kj8 =>
          have H := HA.out
          clear HA
          simp only [headroomlaw09_ScanFits.j0] at H
          by_cases c12 : x44_8 = true
          · subst c12
            have H1 : (some false) = some r := by rw [if_pos rfl] at H; exact H
            clear H
            have H := H1
            clear H1
            obtain rfl := Option.some.inj H
            go_wp2
            repeat (go_quiet (fail); try go_wp2)
            go_ret
            exact ⟨by first | rfl | (simp [errW_none, errW_some] <;> rfl) | (simp only [← hji5]; first | rfl | (simp [errW_none, errW_some] <;> rfl)) | (simp [*, errW_none, errW_some] <;> rfl), by repeat (first | (with_reducible first | exact HB.out | apply below_alloc | apply pw_below_drewN | apply below_drew1) | exact HB.out)⟩
          · replace c12 := Bool.eq_false_iff.mpr c12
            subst c12
            have H1 : (if 0 ≤ t121 then (if (wrap64 ((shl .i64 1 t121) + 1)) = 0 then (none) else ((scan_Room.f kj8 (Int.tmod (wrap64 ((wrap64 ((Int.tmod a1 (wrap64 ((shl .i64 1 t121) + 1))) + (shl .i64 1 t121))) + 1)) (wrap64 ((shl .i64 1 t121) + 1))) (Int.tmod (wrap64 ((Int.tmod a2 2) + 2)) 2)).bind fun bt123 => ((scan_Pre.f 2 (Int.tmod (wrap64 ((wrap64 ((Int.tmod a1 (wrap64 ((shl .i64 1 t121) + 1))) + (shl .i64 1 t121))) + 1)) (wrap64 ((shl .i64 1 t121) + 1))) (Int.tmod (wrap64 ((Int.tmod a2 2) + 2)) 2)).bind fun bt125 => ((scan_Pre.f 4 (Int.tmod (wrap64 ((wrap64 ((Int.tmod a1 (wrap64 ((shl .i64 1 t121) + 1))) + (shl .i64 1 t121))) + 1)) (wrap64 ((shl .i64 1 t121) + 1))) (Int.tmod (wrap64 ((Int.tmod a2 2) + 2)) 2)).bind fun bt127 => (if bt123.2 = 0 then (if bt125.2 = 0 then (if bt127.2 = 0 then ((headroomlaw09_alive.f kj8).bind fun t129 => (headroomlaw09_ScanFits.j1 kj8 y117 (Int.tmod (wrap64 ((wrap64 ((Int.tmod a1 (wrap64 ((shl .i64 1 t121) + 1))) + (shl .i64 1 t121))) + 1)) (wrap64 ((shl .i64 1 t121) + 1))) (Int.tmod (wrap64 ((Int.tmod a3 3) + 3)) 3) t121 bt123.1 bt125.1 bt127.1 (!t129))) else (headroomlaw09_ScanFits.j1 kj8 y117 (Int.tmod (wrap64 ((wrap64 ((Int.tmod a1 (wrap64 ((shl .i64 1 t121) + 1))) + (shl .i64 1 t121))) + 1)) (wrap64 ((shl .i64 1 t121) + 1))) (Int.tmod (wrap64 ((Int.tmod a3 3) + 3)) 3) t121 bt123.1 bt125.1 bt127.1 true)) else (headroomlaw09_ScanFits.j1 kj8 y117 (Int.tmod (wrap64 ((wrap64 ((Int.tmod a1 (wrap64 ((shl .i64 1 t121) + 1))) + (shl .i64 1 t121))) + 1)) (wrap64 ((shl .i64 1 t121) + 1))) (Int.tmod (wrap64 ((Int.tmod a3 3) + 3)) 3) t121 bt123.1 bt125.1 bt127.1 true)) else (headroomlaw09_ScanFits.j1 kj8 y117 (Int.tmod (wrap64 ((wrap64 ((Int.tmod a1 (wrap64 ((shl .i64 1 t121) + 1))) + (shl .i64 1 t121))) + 1)) (wrap64 ((shl .i64 1 t121) + 1))) (Int.tmod (wrap64 ((Int.tmod a3 3) + 3)) 3) t121 bt123.1 bt125.1 bt127.1 true)))))) else (none)) = some r := by rw [if_neg (show ¬ (false = true) by decide)] at H; exact H
            clear H
            have H := H1
            clear H1
            by_cases c13 : 0 ≤ t121
            · rw [if_pos c13] at H
              have c13b0 := eq_true c13
              have c13b1 : decide (0 ≤ t121) = true := decide_eq_true c13
              clear c13
              obtain ⟨ji14, hji14⟩ : ∃ j_ : Int, (shl .i64 1 t121) = j_ := ⟨_, rfl⟩
              replace H : (if (wrap64 ((ji14) + 1)) = 0 then (none) else ((scan_Room.f kj8 (Int.tmod (wrap64 ((wrap64 ((Int.tmod a1 (wrap64 ((ji14) + 1))) + (ji14))) + 1)) (wrap64 ((ji14) + 1))) (Int.tmod (wrap64 ((Int.tmod a2 2) + 2)) 2)).bind fun bt123 => ((scan_Pre.f 2 (Int.tmod (wrap64 ((wrap64 ((Int.tmod a1 (wrap64 ((ji14) + 1))) + (ji14))) + 1)) (wrap64 ((ji14) + 1))) (Int.tmod (wrap64 ((Int.tmod a2 2) + 2)) 2)).bind fun bt125 => ((scan_Pre.f 4 (Int.tmod (wrap64 ((wrap64 ((Int.tmod a1 (wrap64 ((ji14) + 1))) + (ji14))) + 1)) (wrap64 ((ji14) + 1))) (Int.tmod (wrap64 ((Int.tmod a2 2) + 2)) 2)).bind fun bt127 => (if bt123.2 = 0 then (if bt125.2 = 0 then (if bt127.2 = 0 then ((headroomlaw09_alive.f kj8).bind fun t129 => (headroomlaw09_ScanFits.j1 kj8 y117 (Int.tmod (wrap64 ((wrap64 ((Int.tmod a1 (wrap64 ((ji14) + 1))) + (ji14))) + 1)) (wrap64 ((ji14) + 1))) (Int.tmod (wrap64 ((Int.tmod a3 3) + 3)) 3) t121 bt123.1 bt125.1 bt127.1 (!t129))) else (headroomlaw09_ScanFits.j1 kj8 y117 (Int.tmod (wrap64 ((wrap64 ((Int.tmod a1 (wrap64 ((ji14) + 1))) + (ji14))) + 1)) (wrap64 ((ji14) + 1))) (Int.tmod (wrap64 ((Int.tmod a3 3) + 3)) 3) t121 bt123.1 bt125.1 bt127.1 true)) else (headroomlaw09_ScanFits.j1 kj8 y117 (Int.tmod (wrap64 ((wrap64 ((Int.tmod a1 (wrap64 ((ji14) + 1))) + (ji14))) + 1)) (wrap64 ((ji14) + 1))) (Int.tmod (wrap64 ((Int.tmod a3 3) + 3)) 3) t121 bt123.1 bt125.1 bt127.1 true)) else (headroomlaw09_ScanFits.j1 kj8 y117 (Int.tmod (wrap64 ((wrap64 ((Int.tmod a1 (wrap64 ((ji14) + 1))) + (ji14))) + 1)) (wrap64 ((ji14) + 1))) (Int.tmod (wrap64 ((Int.tmod a3 3) + 3)) 3) t121 bt123.1 bt125.1 bt127.1 true)))))) = some r := by first | (rw [hji14] at H; exact H) | (simp only [hji14] at H ⊢; exact H)
              have hji14_ : (IntKind.i64.wrap (1 * 2 ^ min t121.toNat 64)) = ji14 := hji14
              have hji14z : t121 ≤ 64 → (IntKind.i64.wrap (1 * 2 ^ t121.toNat)) = ji14 := shl_small hji14
              have hji14u : (IntKind.i64.wrap (2 ^ min t121.toNat 64)) = ji14 := by have h_ := hji14_; rw [Int.one_mul] at h_; exact h_
              have hji14v : t121 ≤ 64 → (IntKind.i64.wrap (2 ^ t121.toNat)) = ji14 := fun hle_ => by have h_ := hji14z hle_; rw [Int.one_mul] at h_; exact h_
              have hji14y : (wrap64 (1 * 2 ^ min t121.toNat 64)) = ji14 := (i64_w _).symm.trans hji14_
              have hji14x : t121 ≤ 64 → (wrap64 (1 * 2 ^ t121.toNat)) = ji14 := fun h_ => (i64_w _).symm.trans (hji14z h_)
              by_cases c15 : (wrap64 ((ji14) + 1)) = 0
              · rw [if_pos c15] at H
                exact absurd H (by simp)
              · rw [if_neg c15] at H
                have c15b0 : ((wrap64 ((ji14) + 1)) == 0) = false := beq_eq_false_iff_ne.mpr c15
                have c15b1 : ((wrap64 ((ji14) + 1)) != 0) = true := bne_iff_ne.mpr c15
                have c16b0 := eq_true (of_decide_eq_true (by first | (with_reducible assumption) | assumption) : 0 ≤ t121)
                have c18b0 := eq_true (of_decide_eq_true (by first | (with_reducible assumption) | assumption) : 0 ≤ t121)
                replace H := Option.bind_eq_some_iff.mp H
                obtain ⟨⟨t123, t124⟩, A200, H⟩ := H
                replace H : ((scan_Pre.f 2 (Int.tmod (wrap64 ((wrap64 ((Int.tmod a1 (wrap64 ((ji14) + 1))) + (ji14))) + 1)) (wrap64 ((ji14) + 1))) (Int.tmod (wrap64 ((Int.tmod a2 2) + 2)) 2)).bind fun bt125 => ((scan_Pre.f 4 (Int.tmod (wrap64 ((wrap64 ((Int.tmod a1 (wrap64 ((ji14) + 1))) + (ji14))) + 1)) (wrap64 ((ji14) + 1))) (Int.tmod (wrap64 ((Int.tmod a2 2) + 2)) 2)).bind fun bt127 => (if t124 = 0 then (if bt125.2 = 0 then (if bt127.2 = 0 then ((headroomlaw09_alive.f kj8).bind fun t129 => (headroomlaw09_ScanFits.j1 kj8 y117 (Int.tmod (wrap64 ((wrap64 ((Int.tmod a1 (wrap64 ((ji14) + 1))) + (ji14))) + 1)) (wrap64 ((ji14) + 1))) (Int.tmod (wrap64 ((Int.tmod a3 3) + 3)) 3) t121 t123 bt125.1 bt127.1 (!t129))) else (headroomlaw09_ScanFits.j1 kj8 y117 (Int.tmod (wrap64 ((wrap64 ((Int.tmod a1 (wrap64 ((ji14) + 1))) + (ji14))) + 1)) (wrap64 ((ji14) + 1))) (Int.tmod (wrap64 ((Int.tmod a3 3) + 3)) 3) t121 t123 bt125.1 bt127.1 true)) else (headroomlaw09_ScanFits.j1 kj8 y117 (Int.tmod (wrap64 ((wrap64 ((Int.tmod a1 (wrap64 ((ji14) + 1))) + (ji14))) + 1)) (wrap64 ((ji14) + 1))) (Int.tmod (wrap64 ((Int.tmod a3 3) + 3)) 3) t121 t123 bt125.1 bt127.1 true)) else (headroomlaw09_ScanFits.j1 kj8 y117 (Int.tmod (wrap64 ((wrap64 ((Int.tmod a1 (wrap64 ((ji14) + 1))) + (ji14))) + 1)) (wrap64 ((ji14) + 1))) (Int.tmod (wrap64 ((Int.tmod a3 3) + 3)) 3) t121 t123 bt125.1 bt127.1 true)))) = some r := H
                have A20 := Aside0.mk A200
                clear A200
                replace H := Option.bind_eq_some_iff.mp H
                obtain ⟨⟨t125, t126⟩, A210, H⟩ := H
                replace H : ((scan_Pre.f 4 (Int.tmod (wrap64 ((wrap64 ((Int.tmod a1 (wrap64 ((ji14) + 1))) + (ji14))) + 1)) (wrap64 ((ji14) + 1))) (Int.tmod (wrap64 ((Int.tmod a2 2) + 2)) 2)).bind fun bt127 => (if t124 = 0 then (if t126 = 0 then (if bt127.2 = 0 then ((headroomlaw09_alive.f kj8).bind fun t129 => (headroomlaw09_ScanFits.j1 kj8 y117 (Int.tmod (wrap64 ((wrap64 ((Int.tmod a1 (wrap64 ((ji14) + 1))) + (ji14))) + 1)) (wrap64 ((ji14) + 1))) (Int.tmod (wrap64 ((Int.tmod a3 3) + 3)) 3) t121 t123 t125 bt127.1 (!t129))) else (headroomlaw09_ScanFits.j1 kj8 y117 (Int.tmod (wrap64 ((wrap64 ((Int.tmod a1 (wrap64 ((ji14) + 1))) + (ji14))) + 1)) (wrap64 ((ji14) + 1))) (Int.tmod (wrap64 ((Int.tmod a3 3) + 3)) 3) t121 t123 t125 bt127.1 true)) else (headroomlaw09_ScanFits.j1 kj8 y117 (Int.tmod (wrap64 ((wrap64 ((Int.tmod a1 (wrap64 ((ji14) + 1))) + (ji14))) + 1)) (wrap64 ((ji14) + 1))) (Int.tmod (wrap64 ((Int.tmod a3 3) + 3)) 3) t121 t123 t125 bt127.1 true)) else (headroomlaw09_ScanFits.j1 kj8 y117 (Int.tmod (wrap64 ((wrap64 ((Int.tmod a1 (wrap64 ((ji14) + 1))) + (ji14))) + 1)) (wrap64 ((ji14) + 1))) (Int.tmod (wrap64 ((Int.tmod a3 3) + 3)) 3) t121 t123 t125 bt127.1 true))) = some r := H
                have A21 := Aside0.mk A210
                clear A210
                replace H := Option.bind_eq_some_iff.mp H
                obtain ⟨⟨t127, t128⟩, A220, H⟩ := H
                replace H : (if t124 = 0 then (if t126 = 0 then (if t128 = 0 then ((headroomlaw09_alive.f kj8).bind fun t129 => (headroomlaw09_ScanFits.j1 kj8 y117 (Int.tmod (wrap64 ((wrap64 ((Int.tmod a1 (wrap64 ((ji14) + 1))) + (ji14))) + 1)) (wrap64 ((ji14) + 1))) (Int.tmod (wrap64 ((Int.tmod a3 3) + 3)) 3) t121 t123 t125 t127 (!t129))) else (headroomlaw09_ScanFits.j1 kj8 y117 (Int.tmod (wrap64 ((wrap64 ((Int.tmod a1 (wrap64 ((ji14) + 1))) + (ji14))) + 1)) (wrap64 ((ji14) + 1))) (Int.tmod (wrap64 ((Int.tmod a3 3) + 3)) 3) t121 t123 t125 t127 true)) else (headroomlaw09_ScanFits.j1 kj8 y117 (Int.tmod (wrap64 ((wrap64 ((Int.tmod a1 (wrap64 ((ji14) + 1))) + (ji14))) + 1)) (wrap64 ((ji14) + 1))) (Int.tmod (wrap64 ((Int.tmod a3 3) + 3)) 3) t121 t123 t125 t127 true)) else (headroomlaw09_ScanFits.j1 kj8 y117 (Int.tmod (wrap64 ((wrap64 ((Int.tmod a1 (wrap64 ((ji14) + 1))) + (ji14))) + 1)) (wrap64 ((ji14) + 1))) (Int.tmod (wrap64 ((Int.tmod a3 3) + 3)) 3) t121 t123 t125 t127 true)) = some r := H
                have A22 := Aside0.mk A220
                clear A220
                have HC23 := Aside0.mk H
                clear H
                go_upto_region 9 with (first | (go_at_call 16; (with_reducible refine (scan_Room.calls kj8 (Int.tmod (wrap64 ((wrap64 ((Int.tmod a1 (wrap64 ((ji14) + 1))) + (ji14))) + 1)) (wrap64 ((ji14) + 1))) (Int.tmod (wrap64 ((Int.tmod a2 2) + 2)) 2) t123 t124 _ A20.out).mono ?_); rintro e w' ⟨rfl, ⟨nd, rfl⟩⟩; (try first | exact ⟨rfl, _, World.drewN_drewN _ _ _⟩ | exact ⟨rfl, _, Eq.trans (World.drewN_drewN _ _ _) (congrArg (World.drewN _) (Nat.add_assoc _ _ _))⟩)) | (go_at_call 17; (with_reducible refine (scan_Pre.calls 2 (Int.tmod (wrap64 ((wrap64 ((Int.tmod a1 (wrap64 ((ji14) + 1))) + (ji14))) + 1)) (wrap64 ((ji14) + 1))) (Int.tmod (wrap64 ((Int.tmod a2 2) + 2)) 2) t125 t126 _ A21.out).mono ?_); rintro e w24 ⟨rfl, hb⟩; have n0_ := Aside0.mk (below_step (by repeat (first | (with_reducible first | exact HB.out | apply below_alloc | apply pw_below_drewN | apply below_drew1) | exact HB.out)) hb); clear HB; have HB := n0_; clear n0_; (try clear hb); (try clear hb2); (try clear hk); (try clear hi)) | (go_at_call 17; (with_reducible refine (scan_Pre.calls 4 (Int.tmod (wrap64 ((wrap64 ((Int.tmod a1 (wrap64 ((ji14) + 1))) + (ji14))) + 1)) (wrap64 ((ji14) + 1))) (Int.tmod (wrap64 ((Int.tmod a2 2) + 2)) 2) t127 t128 _ A22.out).mono ?_); rintro e w25 ⟨rfl, hb⟩; have n0_ := Aside0.mk (below_step (by repeat (first | (with_reducible first | exact HB.out | apply below_alloc | apply pw_below_drewN | apply below_drew1) | exact HB.out)) hb); clear HB; have HB := n0_; clear n0_; (try clear hb); (try clear hb2); (try clear hk); (try clear hi)))
                repeat (go_quiet (first | (go_at_call 16; (with_reducible refine (scan_Room.calls kj8 (Int.tmod (wrap64 ((wrap64 ((Int.tmod a1 (wrap64 ((ji14) + 1))) + (ji14))) + 1)) (wrap64 ((ji14) + 1))) (Int.tmod (wrap64 ((Int.tmod a2 2) + 2)) 2) t123 t124 _ A20.out).mono ?_); rintro e w' ⟨rfl, ⟨nd, rfl⟩⟩; (try first | exact ⟨rfl, _, World.drewN_drewN _ _ _⟩ | exact ⟨rfl, _, Eq.trans (World.drewN_drewN _ _ _) (congrArg (World.drewN _) (Nat.add_assoc _ _ _))⟩)) | (go_at_call 17; (with_reducible refine (scan_Pre.calls 2 (Int.tmod (wrap64 ((wrap64 ((Int.tmod a1 (wrap64 ((ji14) + 1))) + (ji14))) + 1)) (wrap64 ((ji14) + 1))) (Int.tmod (wrap64 ((Int.tmod a2 2) + 2)) 2) t125 t126 _ A21.out).mono ?_); rintro e w24 ⟨rfl, hb⟩; have n0_ := Aside0.mk (below_step (by repeat (first | (with_reducible first | exact HB.out | apply below_alloc | apply pw_below_drewN | apply below_drew1) | exact HB.out)) hb); clear HB; have HB := n0_; clear n0_; (try clear hb); (try clear hb2); (try clear hk); (try clear hi)) | (go_at_call 17; (with_reducible refine (scan_Pre.calls 4 (Int.tmod (wrap64 ((wrap64 ((Int.tmod a1 (wrap64 ((ji14) + 1))) + (ji14))) + 1)) (wrap64 ((ji14) + 1))) (Int.tmod (wrap64 ((Int.tmod a2 2) + 2)) 2) t127 t128 _ A22.out).mono ?_); rintro e w25 ⟨rfl, hb⟩; have n0_ := Aside0.mk (below_step (by repeat (first | (with_reducible first | exact HB.out | apply below_alloc | apply pw_below_drewN | apply below_drew1) | exact HB.out)) hb); clear HB; have HB := n0_; clear n0_; (try clear hb); (try clear hb2); (try clear hk); (try clear hi))); go_upto_region 9 with (first | (go_at_call 16; (with_reducible refine (scan_Room.calls kj8 (Int.tmod (wrap64 ((wrap64 ((Int.tmod a1 (wrap64 ((ji14) + 1))) + (ji14))) + 1)) (wrap64 ((ji14) + 1))) (Int.tmod (wrap64 ((Int.tmod a2 2) + 2)) 2) t123 t124 _ A20.out).mono ?_); rintro e w' ⟨rfl, ⟨nd, rfl⟩⟩; (try first | exact ⟨rfl, _, World.drewN_drewN _ _ _⟩ | exact ⟨rfl, _, Eq.trans (World.drewN_drewN _ _ _) (congrArg (World.drewN _) (Nat.add_assoc _ _ _))⟩)) | (go_at_call 17; (with_reducible refine (scan_Pre.calls 2 (Int.tmod (wrap64 ((wrap64 ((Int.tmod a1 (wrap64 ((ji14) + 1))) + (ji14))) + 1)) (wrap64 ((ji14) + 1))) (Int.tmod (wrap64 ((Int.tmod a2 2) + 2)) 2) t125 t126 _ A21.out).mono ?_); rintro e w24 ⟨rfl, hb⟩; have n0_ := Aside0.mk (below_step (by repeat (first | (with_reducible first | exact HB.out | apply below_alloc | apply pw_below_drewN | apply below_drew1) | exact HB.out)) hb); clear HB; have HB := n0_; clear n0_; (try clear hb); (try clear hb2); (try clear hk); (try clear hi)) | (go_at_call 17; (with_reducible refine (scan_Pre.calls 4 (Int.tmod (wrap64 ((wrap64 ((Int.tmod a1 (wrap64 ((ji14) + 1))) + (ji14))) + 1)) (wrap64 ((ji14) + 1))) (Int.tmod (wrap64 ((Int.tmod a2 2) + 2)) 2) t127 t128 _ A22.out).mono ?_); rintro e w25 ⟨rfl, hb⟩; have n0_ := Aside0.mk (below_step (by repeat (first | (with_reducible first | exact HB.out | apply below_alloc | apply pw_below_drewN | apply below_drew1) | exact HB.out)) hb); clear HB; have HB := n0_; clear n0_; (try clear hb); (try clear hb2); (try clear hk); (try clear hi))))
                (try simp only [Act.put, List.setIfInBounds_toArray, List.set_cons_zero, List.set_cons_succ])
                go_cut [89] (fun v89 wc => ∃ (kq : Nat) (x89_22 : Bool), v89 = .bool x89_22 ∧ Aside0 (headroomlaw09_ScanFits.j1 kq y117 (Int.tmod (wrap64 ((wrap64 ((Int.tmod a1 (wrap64 ((ji14) + 1))) + (ji14))) + 1)) (wrap64 ((ji14) + 1))) (Int.tmod (wrap64 ((Int.tmod a3 3) + 3)) 3) t121 t123 t125 t127 x89_22 = some r) ∧ Aside0 (kq ≤ kj8) ∧ Aside0 (Below w.heap.size w wc))
                case first =>
                  as_aux_lemma =>
                  have H := HC23.out
                  clear HC23
                  by_cases c26 : t124 = 0
                  · rw [if_pos c26] at H
                    have c26b0 : (t124 == 0) = true := beq_iff_eq.mpr c26
                    have c26b1 : (t124 != 0) = false := bne_eq_false_iff_eq.mpr c26
                    clear c26
                    (first | rw [c26b0] | (simp only [i64_w, i32_w]; rw [c26b0]) | skip)
                    by_cases c27 : t126 = 0
                    · rw [if_pos c27] at H
                      have c27b0 : (t126 == 0) = true := beq_iff_eq.mpr c27
                      have c27b1 : (t126 != 0) = false := bne_eq_false_iff_eq.mpr c27
                      clear c27
                      by_cases c28 : t128 = 0
                      · rw [if_pos c28] at H
                        have c28b0 : (t128 == 0) = true := beq_iff_eq.mpr c28
                        have c28b1 : (t128 != 0) = false := bne_eq_false_iff_eq.mpr c28
                        clear c28
                        replace H := Option.bind_eq_some_iff.mp H
                        obtain ⟨t129, A290, H⟩ := H
                        replace H : (headroomlaw09_ScanFits.j1 kj8 y117 (Int.tmod (wrap64 ((wrap64 ((Int.tmod a1 (wrap64 ((ji14) + 1))) + (ji14))) + 1)) (wrap64 ((ji14) + 1))) (Int.tmod (wrap64 ((Int.tmod a3 3) + 3)) 3) t121 t123 t125 t127 (!t129)) = some r := H
                        have A29 := Aside0.mk A290
                        clear A290
                        have H' := Aside0.mk H
                        clear H
                        go_wp2_with (first | (go_at_call 20; (with_reducible refine (headroomlaw09_alive.calls kj8  t129 _ A29.out).mono ?_); rintro e w30 ⟨rfl, hb⟩; have n0_ := Aside0.mk (below_step (by repeat (first | (with_reducible first | exact HB.out | apply below_alloc | apply pw_below_drewN | apply below_drew1) | exact HB.out)) hb); clear HB; have HB := n0_; clear n0_; (try clear hb); (try clear hb2); (try clear hk); (try clear hi)))
                        repeat (go_quiet (first | (go_at_call 20; (with_reducible refine (headroomlaw09_alive.calls kj8  t129 _ A29.out).mono ?_); rintro e w30 ⟨rfl, hb⟩; have n0_ := Aside0.mk (below_step (by repeat (first | (with_reducible first | exact HB.out | apply below_alloc | apply pw_below_drewN | apply below_drew1) | exact HB.out)) hb); clear HB; have HB := n0_; clear n0_; (try clear hb); (try clear hb2); (try clear hk); (try clear hi))); try go_wp2_with (first | (go_at_call 20; (with_reducible refine (headroomlaw09_alive.calls kj8  t129 _ A29.out).mono ?_); rintro e w30 ⟨rfl, hb⟩; have n0_ := Aside0.mk (below_step (by repeat (first | (with_reducible first | exact HB.out | apply below_alloc | apply pw_below_drewN | apply below_drew1) | exact HB.out)) hb); clear HB; have HB := n0_; clear n0_; (try clear hb); (try clear hb2); (try clear hk); (try clear hi))))
                        go_meet
                        case rel => exact ⟨_, (!t129), (by first | rfl | (simp; done) | (simp [*]; done)), H', ⟨by have := HJ8.out; first | omega | exact Nat.le_refl _⟩, ⟨by repeat (first | (with_reducible first | exact HB.out | apply below_alloc | apply pw_below_drewN | apply below_drew1) | exact HB.out)⟩⟩
                      · rw [if_neg c28] at H
                        have c28b0 : (t128 == 0) = false := beq_eq_false_iff_ne.mpr c28
                        have c28b1 : (t128 != 0) = true := bne_iff_ne.mpr c28
                        have H' := Aside0.mk H
                        clear H
                        go_wp2
                        repeat (go_quiet (fail); try go_wp2)
                        go_meet
                        case rel => exact ⟨_, (true), (by first | rfl | (simp; done) | (simp [*]; done)), H', ⟨by have := HJ8.out; first | omega | exact Nat.le_refl _⟩, ⟨by repeat (first | (with_reducible first | exact HB.out | apply below_alloc | apply pw_below_drewN | apply below_drew1) | exact HB.out)⟩⟩
                    · rw [if_neg c27] at H
                      have c27b0 : (t126 == 0) = false := beq_eq_false_iff_ne.mpr c27
                      have c27b1 : (t126 != 0) = true := bne_iff_ne.mpr c27
                      have H' := Aside0.mk H
                      clear H
                      go_wp2
                      repeat (go_quiet (fail); try go_wp2)
                      go_meet
                      case rel => exact ⟨_, (true), (by first | rfl | (simp; done) | (simp [*]; done)), H', ⟨by have := HJ8.out; first | omega | exact Nat.le_refl _⟩, ⟨by repeat (first | (with_reducible first | exact HB.out | apply below_alloc | apply pw_below_drewN | apply below_drew1) | exact HB.out)⟩⟩
                  · rw [if_neg c26] at H
                    have c26b0 : (t124 == 0) = false := beq_eq_false_iff_ne.mpr c26
                    have c26b1 : (t124 != 0) = true := bne_iff_ne.mpr c26
                    (first | rw [c26b0] | (simp only [i64_w, i32_w]; rw [c26b0]) | skip)
                    have H' := Aside0.mk H
                    clear H
                    go_wp2
                    repeat (go_quiet (fail); try go_wp2)
                    go_meet
                    case rel => exact ⟨_, (true), (by first | rfl | (simp; done) | (simp [*]; done)), H', ⟨by have := HJ8.out; first | omega | exact Nat.le_refl _⟩, ⟨by repeat (first | (with_reducible first | exact HB.out | apply below_alloc | apply pw_below_drewN | apply below_drew1) | exact HB.out)⟩⟩
                case rest =>
                  as_aux_lemma =>
                  clear HC23
                  try clear c1
                  try clear q1
                  try clear c2
                  try clear p2
                  try clear c6
                  try clear c6b0
                  try clear c6b1
                  try clear p6
                  try clear c7
                  try clear c7b0
                  try clear c7b1
                  try clear c8
                  try clear q10
                  try clear c11
                  try clear c11b0
                  try clear c11b1
                  try clear c12
                  try clear c13
                  try clear c13b0
                  try clear c13b1
                  try clear c15
                  try clear c15b0
                  try clear c15b1
                  try clear c16
                  try clear c16b0
                  try clear c17
                  try clear c17b0
                  try clear c18
                  try clear c18b0
                  try clear c19
                  try clear c19b0
                  try clear c26
                  try clear c26b0
                  try clear c26b1
                  try clear c27
                  try clear c27b0
                  try clear c27b1
                  try clear c28
                  try clear c28b0
                  try clear c28b1
                  try clear p2
                  try clear p6
                  try clear q1
                  try clear q10
                  obtain ⟨kq, x89_22, rfl, HA, HJ22, HB⟩ := hcut
                  cases kq with
                  | zero => exact absurd HA.out (by simp [headroomlaw09_ScanFits.j1])
                  | succ kj22 =>
                    have H := HA.out
                    clear HA
                    simp only [headroomlaw09_ScanFits.j1] at H
                    by_cases c31 : x89_22 = true
                    · subst c31
                      have H1 : (some false) = some r := by rw [if_pos rfl] at H; exact H
                      clear H
                      have H := H1
                      clear H1
                      obtain rfl := Option.some.inj H
                      go_wp2
                      repeat (go_quiet (fail); try go_wp2)
                      go_ret
                      exact ⟨by first | rfl | (simp [errW_none, errW_some] <;> rfl) | (simp only [← hji5, ← hji14]; first | rfl | (simp [errW_none, errW_some] <;> rfl)) | (simp [*, errW_none, errW_some] <;> rfl), by repeat (first | (with_reducible first | exact HB.out | apply below_alloc | apply pw_below_drewN | apply below_drew1) | exact HB.out)⟩
                    · replace c31 := Bool.eq_false_iff.mpr c31
                      subst c31
                      have H1 : (if (Int.tmod (wrap64 ((wrap64 ((Int.tmod a1 (wrap64 ((ji14) + 1))) + (ji14))) + 1)) (wrap64 ((ji14) + 1))) > 0 then (if 0 ≤ t123 then (if 0 ≤ (wrap64 (t121 - 2)) then (if (shl .i64 (Int.tmod (wrap64 ((wrap64 ((Int.tmod a1 (wrap64 ((ji14) + 1))) + (ji14))) + 1)) (wrap64 ((ji14) + 1))) t123) ≤ (shl .i64 1 (wrap64 (t121 - 2))) then (headroomlaw09_ScanFits.j2 kj22 y117 (Int.tmod (wrap64 ((Int.tmod a3 3) + 3)) 3) t123 true) else (if t123 > 0 then (if 0 ≤ (wrap64 (t121 - 1)) then (if (shl .i64 (Int.tmod (wrap64 ((wrap64 ((Int.tmod a1 (wrap64 ((ji14) + 1))) + (ji14))) + 1)) (wrap64 ((ji14) + 1))) t123) > (shl .i64 1 (wrap64 (t121 - 1))) then (headroomlaw09_ScanFits.j2 kj22 y117 (Int.tmod (wrap64 ((Int.tmod a3 3) + 3)) 3) t123 true) else (if 0 ≤ (wrap64 ((wrap64 (t121 - 2)) + t125)) then (if (Int.tmod (wrap64 ((wrap64 ((Int.tmod a1 (wrap64 ((ji14) + 1))) + (ji14))) + 1)) (wrap64 ((ji14) + 1))) > (shl .i64 1 (wrap64 ((wrap64 (t121 - 2)) + t125))) then (headroomlaw09_ScanFits.j2 kj22 y117 (Int.tmod (wrap64 ((Int.tmod a3 3) + 3)) 3) t123 true) else (if 0 ≤ (wrap64 ((wrap64 (t121 - 3)) + t127)) then (if (Int.tmod (wrap64 ((wrap64 ((Int.tmod a1 (wrap64 ((ji14) + 1))) + (ji14))) + 1)) (wrap64 ((ji14) + 1))) > (shl .i64 1 (wrap64 ((wrap64 (t121 - 3)) + t127))) then (headroomlaw09_ScanFits.j2 kj22 y117 (Int.tmod (wrap64 ((Int.tmod a3 3) + 3)) 3) t123 true) else (if t125 > 2 then (headroomlaw09_ScanFits.j2 kj22 y117 (Int.tmod (wrap64 ((Int.tmod a3 3) + 3)) 3) t123 true) else (headroomlaw09_ScanFits.j2 kj22 y117 (Int.tmod (wrap64 ((Int.tmod a3 3) + 3)) 3) t123 (decide (t127 > 3))))) else (none))) else (none))) else (none)) else (if 0 ≤ (wrap64 ((wrap64 (t121 - 2)) + t125)) then (if (Int.tmod (wrap64 ((wrap64 ((Int.tmod a1 (wrap64 ((ji14) + 1))) + (ji14))) + 1)) (wrap64 ((ji14) + 1))) > (shl .i64 1 (wrap64 ((wrap64 (t121 - 2)) + t125))) then (headroomlaw09_ScanFits.j2 kj22 y117 (Int.tmod (wrap64 ((Int.tmod a3 3) + 3)) 3) t123 true) else (if 0 ≤ (wrap64 ((wrap64 (t121 - 3)) + t127)) then (if (Int.tmod (wrap64 ((wrap64 ((Int.tmod a1 (wrap64 ((ji14) + 1))) + (ji14))) + 1)) (wrap64 ((ji14) + 1))) > (shl .i64 1 (wrap64 ((wrap64 (t121 - 3)) + t127))) then (headroomlaw09_ScanFits.j2 kj22 y117 (Int.tmod (wrap64 ((Int.tmod a3 3) + 3)) 3) t123 true) else (if t125 > 2 then (headroomlaw09_ScanFits.j2 kj22 y117 (Int.tmod (wrap64 ((Int.tmod a3 3) + 3)) 3) t123 true) else (headroomlaw09_ScanFits.j2 kj22 y117 (Int.tmod (wrap64 ((Int.tmod a3 3) + 3)) 3) t123 (decide (t127 > 3))))) else (none))) else (none)))) else (none)) else (none)) else (if t123 > 0 then (if 0 ≤ t123 then (if 0 ≤ (wrap64 (t121 - 1)) then (if (shl .i64 (Int.tmod (wrap64 ((wrap64 ((Int.tmod a1 (wrap64 ((ji14) + 1))) + (ji14))) + 1)) (wrap64 ((ji14) + 1))) t123) > (shl .i64 1 (wrap64 (t121 - 1))) then (headroomlaw09_ScanFits.j2 kj22 y117 (Int.tmod (wrap64 ((Int.tmod a3 3) + 3)) 3) t123 true) else (if 0 ≤ (wrap64 ((wrap64 (t121 - 2)) + t125)) then (if (Int.tmod (wrap64 ((wrap64 ((Int.tmod a1 (wrap64 ((ji14) + 1))) + (ji14))) + 1)) (wrap64 ((ji14) + 1))) > (shl .i64 1 (wrap64 ((wrap64 (t121 - 2)) + t125))) then (headroomlaw09_ScanFits.j2 kj22 y117 (Int.tmod (wrap64 ((Int.tmod a3 3) + 3)) 3) t123 true) else (if 0 ≤ (wrap64 ((wrap64 (t121 - 3)) + t127)) then (if (Int.tmod (wrap64 ((wrap64 ((Int.tmod a1 (wrap64 ((ji14) + 1))) + (ji14))) + 1)) (wrap64 ((ji14) + 1))) > (shl .i64 1 (wrap64 ((wrap64 (t121 - 3)) + t127))) then (headroomlaw09_ScanFits.j2 kj22 y117 (Int.tmod (wrap64 ((Int.tmod a3 3) + 3)) 3) t123 true) else (if t125 > 2 then (headroomlaw09_ScanFits.j2 kj22 y117 (Int.tmod (wrap64 ((Int.tmod a3 3) + 3)) 3) t123 true) else (headroomlaw09_ScanFits.j2 kj22 y117 (Int.tmod (wrap64 ((Int.tmod a3 3) + 3)) 3) t123 (decide (t127 > 3))))) else (none))) else (none))) else (none)) else (none)) else (if 0 ≤ (wrap64 ((wrap64 (t121 - 2)) + t125)) then (if (Int.tmod (wrap64 ((wrap64 ((Int.tmod a1 (wrap64 ((ji14) + 1))) + (ji14))) + 1)) (wrap64 ((ji14) + 1))) > (shl .i64 1 (wrap64 ((wrap64 (t121 - 2)) + t125))) then (headroomlaw09_ScanFits.j2 kj22 y117 (Int.tmod (wrap64 ((Int.tmod a3 3) + 3)) 3) t123 true) else (if 0 ≤ (wrap64 ((wrap64 (t121 - 3)) + t127)) then (if (Int.tmod (wrap64 ((wrap64 ((Int.tmod a1 (wrap64 ((ji14) + 1))) + (ji14))) + 1)) (wrap64 ((ji14) + 1))) > (shl .i64 1 (wrap64 ((wrap64 (t121 - 3)) + t127))) then (headroomlaw09_ScanFits.j2 kj22 y117 (Int.tmod (wrap64 ((Int.tmod a3 3) + 3)) 3) t123 true) else (if t125 > 2 then (headroomlaw09_ScanFits.j2 kj22 y117 (Int.tmod (wrap64 ((Int.tmod a3 3) + 3)) 3) t123 true) else (headroomlaw09_ScanFits.j2 kj22 y117 (Int.tmod (wrap64 ((Int.tmod a3 3) + 3)) 3) t123 (decide (t127 > 3))))) else (none))) else (none)))) = some r := by rw [if_neg (show ¬ (false = true) by decide)] at H; exact H
                      clear H
                      have H := H1
                      clear H1
                      have HC32 := Aside0.mk H
                      clear H
                      go_upto_region 11 with (fail)
                      repeat (go_quiet (fail); go_upto_region 11 with (fail))
                      go_cut [139] (fun v139 wc => ∃ (kq : Nat) (x139_31 : Bool), v139 = .bool x139_31 ∧ Aside0 (headroomlaw09_ScanFits.j2 kq y117 (Int.tmod (wrap64 ((Int.tmod a3 3) + 3)) 3) t123 x139_31 = some r) ∧ Aside0 (kq ≤ kj22) ∧ Aside0 (Below w.heap.size w wc))
                      case first =>
                        as_aux_lemma =>
                        have H := HC32.out
                        clear HC32
                        by_cases c33 : (Int.tmod (wrap64 ((wrap64 ((Int.tmod a1 (wrap64 ((ji14) + 1))) + (ji14))) + 1)) (wrap64 ((ji14) + 1))) > 0
                        · rw [if_pos c33] at H
                          have c33b0 : decide (0 < (Int.tmod (wrap64 ((wrap64 ((Int.tmod a1 (wrap64 ((ji14) + 1))) + (ji14))) + 1)) (wrap64 ((ji14) + 1)))) = true := decide_eq_true c33
                          clear c33
                          (first | rw [c33b0] | (simp only [i64_w, i32_w]; rw [c33b0]) | skip)
                          by_cases c34 : 0 ≤ t123
                          · rw [if_pos c34] at H
                            have c34b0 := eq_true c34
                            have c34b1 : decide (0 ≤ t123) = true := decide_eq_true c34
                            clear c34
                            obtain ⟨ji35, hji35⟩ : ∃ j_ : Int, (shl .i64 (Int.tmod (wrap64 ((wrap64 ((Int.tmod a1 (wrap64 ((ji14) + 1))) + (ji14))) + 1)) (wrap64 ((ji14) + 1))) t123) = j_ := ⟨_, rfl⟩
                            replace H : (if 0 ≤ (wrap64 (t121 - 2)) then (if (ji35) ≤ (shl .i64 1 (wrap64 (t121 - 2))) then (headroomlaw09_ScanFits.j2 kj22 y117 (Int.tmod (wrap64 ((Int.tmod a3 3) + 3)) 3) t123 true) else (if t123 > 0 then (if 0 ≤ (wrap64 (t121 - 1)) then (if (ji35) > (shl .i64 1 (wrap64 (t121 - 1))) then (headroomlaw09_ScanFits.j2 kj22 y117 (Int.tmod (wrap64 ((Int.tmod a3 3) + 3)) 3) t123 true) else (if 0 ≤ (wrap64 ((wrap64 (t121 - 2)) + t125)) then (if (Int.tmod (wrap64 ((wrap64 ((Int.tmod a1 (wrap64 ((ji14) + 1))) + (ji14))) + 1)) (wrap64 ((ji14) + 1))) > (shl .i64 1 (wrap64 ((wrap64 (t121 - 2)) + t125))) then (headroomlaw09_ScanFits.j2 kj22 y117 (Int.tmod (wrap64 ((Int.tmod a3 3) + 3)) 3) t123 true) else (if 0 ≤ (wrap64 ((wrap64 (t121 - 3)) + t127)) then (if (Int.tmod (wrap64 ((wrap64 ((Int.tmod a1 (wrap64 ((ji14) + 1))) + (ji14))) + 1)) (wrap64 ((ji14) + 1))) > (shl .i64 1 (wrap64 ((wrap64 (t121 - 3)) + t127))) then (headroomlaw09_ScanFits.j2 kj22 y117 (Int.tmod (wrap64 ((Int.tmod a3 3) + 3)) 3) t123 true) else (if t125 > 2 then (headroomlaw09_ScanFits.j2 kj22 y117 (Int.tmod (wrap64 ((Int.tmod a3 3) + 3)) 3) t123 true) else (headroomlaw09_ScanFits.j2 kj22 y117 (Int.tmod (wrap64 ((Int.tmod a3 3) + 3)) 3) t123 (decide (t127 > 3))))) else (none))) else (none))) else (none)) else (if 0 ≤ (wrap64 ((wrap64 (t121 - 2)) + t125)) then (if (Int.tmod (wrap64 ((wrap64 ((Int.tmod a1 (wrap64 ((ji14) + 1))) + (ji14))) + 1)) (wrap64 ((ji14) + 1))) > (shl .i64 1 (wrap64 ((wrap64 (t121 - 2)) + t125))) then (headroomlaw09_ScanFits.j2 kj22 y117 (Int.tmod (wrap64 ((Int.tmod a3 3) + 3)) 3) t123 true) else (if 0 ≤ (wrap64 ((wrap64 (t121 - 3)) + t127)) then (if (Int.tmod (wrap64 ((wrap64 ((Int.tmod a1 (wrap64 ((ji14) + 1))) + (ji14))) + 1)) (wrap64 ((ji14) + 1))) > (shl .i64 1 (wrap64 ((wrap64 (t121 - 3)) + t127))) then (headroomlaw09_ScanFits.j2 kj22 y117 (Int.tmod (wrap64 ((Int.tmod a3 3) + 3)) 3) t123 true) else (if t125 > 2 then (headroomlaw09_ScanFits.j2 kj22 y117 (Int.tmod (wrap64 ((Int.tmod a3 3) + 3)) 3) t123 true) else (headroomlaw09_ScanFits.j2 kj22 y117 (Int.tmod (wrap64 ((Int.tmod a3 3) + 3)) 3) t123 (decide (t127 > 3))))) else (none))) else (none)))) else (none)) = some r := by first | (rw [hji35] at H; exact H) | (simp only [hji35] at H ⊢; exact H)
                            have hji35_ : (IntKind.i64.wrap ((Int.tmod (wrap64 ((wrap64 ((Int.tmod a1 (wrap64 ((ji14) + 1))) + (ji14))) + 1)) (wrap64 ((ji14) + 1))) * 2 ^ min t123.toNat 64)) = ji35 := hji35
                            have hji35z : t123 ≤ 64 → (IntKind.i64.wrap ((Int.tmod (wrap64 ((wrap64 ((Int.tmod a1 (wrap64 ((ji14) + 1))) + (ji14))) + 1)) (wrap64 ((ji14) + 1))) * 2 ^ t123.toNat)) = ji35 := shl_small hji35
                            have hji35y : (wrap64 ((Int.tmod (wrap64 ((wrap64 ((Int.tmod a1 (wrap64 ((ji14) + 1))) + (ji14))) + 1)) (wrap64 ((ji14) + 1))) * 2 ^ min t123.toNat 64)) = ji35 := (i64_w _).symm.trans hji35_
                            have hji35x : t123 ≤ 64 → (wrap64 ((Int.tmod (wrap64 ((wrap64 ((Int.tmod a1 (wrap64 ((ji14) + 1))) + (ji14))) + 1)) (wrap64 ((ji14) + 1))) * 2 ^ t123.toNat)) = ji35 := fun h_ => (i64_w _).symm.trans (hji35z h_)
                            obtain ⟨ji36, hji36⟩ : ∃ j_ : Int, (wrap64 (t121 - 2)) = j_ := ⟨_, rfl⟩
                            replace H : (if 0 ≤ (ji36) then (if (ji35) ≤ (shl .i64 1 (ji36)) then (headroomlaw09_ScanFits.j2 kj22 y117 (Int.tmod (wrap64 ((Int.tmod a3 3) + 3)) 3) t123 true) else (if t123 > 0 then (if 0 ≤ (wrap64 (t121 - 1)) then (if (ji35) > (shl .i64 1 (wrap64 (t121 - 1))) then (headroomlaw09_ScanFits.j2 kj22 y117 (Int.tmod (wrap64 ((Int.tmod a3 3) + 3)) 3) t123 true) else (if 0 ≤ (wrap64 ((ji36) + t125)) then (if (Int.tmod (wrap64 ((wrap64 ((Int.tmod a1 (wrap64 ((ji14) + 1))) + (ji14))) + 1)) (wrap64 ((ji14) + 1))) > (shl .i64 1 (wrap64 ((ji36) + t125))) then (headroomlaw09_ScanFits.j2 kj22 y117 (Int.tmod (wrap64 ((Int.tmod a3 3) + 3)) 3) t123 true) else (if 0 ≤ (wrap64 ((wrap64 (t121 - 3)) + t127)) then (if (Int.tmod (wrap64 ((wrap64 ((Int.tmod a1 (wrap64 ((ji14) + 1))) + (ji14))) + 1)) (wrap64 ((ji14) + 1))) > (shl .i64 1 (wrap64 ((wrap64 (t121 - 3)) + t127))) then (headroomlaw09_ScanFits.j2 kj22 y117 (Int.tmod (wrap64 ((Int.tmod a3 3) + 3)) 3) t123 true) else (if t125 > 2 then (headroomlaw09_ScanFits.j2 kj22 y117 (Int.tmod (wrap64 ((Int.tmod a3 3) + 3)) 3) t123 true) else (headroomlaw09_ScanFits.j2 kj22 y117 (Int.tmod (wrap64 ((Int.tmod a3 3) + 3)) 3) t123 (decide (t127 > 3))))) else (none))) else (none))) else (none)) else (if 0 ≤ (wrap64 ((ji36) + t125)) then (if (Int.tmod (wrap64 ((wrap64 ((Int.tmod a1 (wrap64 ((ji14) + 1))) + (ji14))) + 1)) (wrap64 ((ji14) + 1))) > (shl .i64 1 (wrap64 ((ji36) + t125))) then (headroomlaw09_ScanFits.j2 kj22 y117 (Int.tmod (wrap64 ((Int.tmod a3 3) + 3)) 3) t123 true) else (if 0 ≤ (wrap64 ((wrap64 (t121 - 3)) + t127)) then (if (Int.tmod (wrap64 ((wrap64 ((Int.tmod a1 (wrap64 ((ji14) + 1))) + (ji14))) + 1)) (wrap64 ((ji14) + 1))) > (shl .i64 1 (wrap64 ((wrap64 (t121 - 3)) + t127))) then (headroomlaw09_ScanFits.j2 kj22 y117 (Int.tmod (wrap64 ((Int.tmod a3 3) + 3)) 3) t123 true) else (if t125 > 2 then (headroomlaw09_ScanFits.j2 kj22 y117 (Int.tmod (wrap64 ((Int.tmod a3 3) + 3)) 3) t123 true) else (headroomlaw09_ScanFits.j2 kj22 y117 (Int.tmod (wrap64 ((Int.tmod a3 3) + 3)) 3) t123 (decide (t127 > 3))))) else (none))) else (none)))) else (none)) = some r := by first | (rw [hji36] at H; exact H) | (simp only [hji36] at H ⊢; exact H)
                            have hji36w : (IntKind.i64.wrap (t121 - 2)) = ji36 := (i64_w _).trans hji36
                            by_cases c37 : 0 ≤ (ji36)
                            · rw [if_pos c37] at H
                              have c37b0 := eq_true c37
                              have c37b1 : decide (0 ≤ (ji36)) = true := decide_eq_true c37
                              clear c37
                              obtain ⟨ji38, hji38⟩ : ∃ j_ : Int, (shl .i64 1 (ji36)) = j_ := ⟨_, rfl⟩
                              replace H : (if (ji35) ≤ (ji38) then (headroomlaw09_ScanFits.j2 kj22 y117 (Int.tmod (wrap64 ((Int.tmod a3 3) + 3)) 3) t123 true) else (if t123 > 0 then (if 0 ≤ (wrap64 (t121 - 1)) then (if (ji35) > (shl .i64 1 (wrap64 (t121 - 1))) then (headroomlaw09_ScanFits.j2 kj22 y117 (Int.tmod (wrap64 ((Int.tmod a3 3) + 3)) 3) t123 true) else (if 0 ≤ (wrap64 ((ji36) + t125)) then (if (Int.tmod (wrap64 ((wrap64 ((Int.tmod a1 (wrap64 ((ji14) + 1))) + (ji14))) + 1)) (wrap64 ((ji14) + 1))) > (shl .i64 1 (wrap64 ((ji36) + t125))) then (headroomlaw09_ScanFits.j2 kj22 y117 (Int.tmod (wrap64 ((Int.tmod a3 3) + 3)) 3) t123 true) else (if 0 ≤ (wrap64 ((wrap64 (t121 - 3)) + t127)) then (if (Int.tmod (wrap64 ((wrap64 ((Int.tmod a1 (wrap64 ((ji14) + 1))) + (ji14))) + 1)) (wrap64 ((ji14) + 1))) > (shl .i64 1 (wrap64 ((wrap64 (t121 - 3)) + t127))) then (headroomlaw09_ScanFits.j2 kj22 y117 (Int.tmod (wrap64 ((Int.tmod a3 3) + 3)) 3) t123 true) else (if t125 > 2 then (headroomlaw09_ScanFits.j2 kj22 y117 (Int.tmod (wrap64 ((Int.tmod a3 3) + 3)) 3) t123 true) else (headroomlaw09_ScanFits.j2 kj22 y117 (Int.tmod (wrap64 ((Int.tmod a3 3) + 3)) 3) t123 (decide (t127 > 3))))) else (none))) else (none))) else (none)) else (if 0 ≤ (wrap64 ((ji36) + t125)) then (if (Int.tmod (wrap64 ((wrap64 ((Int.tmod a1 (wrap64 ((ji14) + 1))) + (ji14))) + 1)) (wrap64 ((ji14) + 1))) > (shl .i64 1 (wrap64 ((ji36) + t125))) then (headroomlaw09_ScanFits.j2 kj22 y117 (Int.tmod (wrap64 ((Int.tmod a3 3) + 3)) 3) t123 true) else (if 0 ≤ (wrap64 ((wrap64 (t121 - 3)) + t127)) then (if (Int.tmod (wrap64 ((wrap64 ((Int.tmod a1 (wrap64 ((ji14) + 1))) + (ji14))) + 1)) (wrap64 ((ji14) + 1))) > (shl .i64 1 (wrap64 ((wrap64 (t121 - 3)) + t127))) then (headroomlaw09_ScanFits.j2 kj22 y117 (Int.tmod (wrap64 ((Int.tmod a3 3) + 3)) 3) t123 true) else (if t125 > 2 then (headroomlaw09_ScanFits.j2 kj22 y117 (Int.tmod (wrap64 ((Int.tmod a3 3) + 3)) 3) t123 true) else (headroomlaw09_ScanFits.j2 kj22 y117 (Int.tmod (wrap64 ((Int.tmod a3 3) + 3)) 3) t123 (decide (t127 > 3))))) else (none))) else (none)))) = some r := by first | (rw [hji38] at H; exact H) | (simp only [hji38] at H ⊢; exact H)
                              have hji38_ : (IntKind.i64.wrap (1 * 2 ^ min (ji36).toNat 64)) = ji38 := hji38
                              have hji38z : (ji36) ≤ 64 → (IntKind.i64.wrap (1 * 2 ^ (ji36).toNat)) = ji38 := shl_small hji38
                              have hji38u : (IntKind.i64.wrap (2 ^ min (ji36).toNat 64)) = ji38 := by have h_ := hji38_; rw [Int.one_mul] at h_; exact h_
                              have hji38v : (ji36) ≤ 64 → (IntKind.i64.wrap (2 ^ (ji36).toNat)) = ji38 := fun hle_ => by have h_ := hji38z hle_; rw [Int.one_mul] at h_; exact h_
                              have hji38y : (wrap64 (1 * 2 ^ min (ji36).toNat 64)) = ji38 := (i64_w _).symm.trans hji38_
                              have hji38x : (ji36) ≤ 64 → (wrap64 (1 * 2 ^ (ji36).toNat)) = ji38 := fun h_ => (i64_w _).symm.trans (hji38z h_)
                              by_cases c39 : (ji35) ≤ (ji38)
                              · rw [if_pos c39] at H
                                have c39b0 : decide ((ji35) ≤ (ji38)) = true := decide_eq_true c39
                                clear c39
                                have H' := Aside0.mk H
                                clear H
                                go_wp2
                                repeat (go_quiet (fail); try go_wp2)
                                go_meet
                                case rel => exact ⟨_, (true), (by first | rfl | (simp; done) | (simp [*]; done)), H', ⟨by have := HJ8.out; have := HJ22.out; first | omega | exact Nat.le_refl _⟩, ⟨by repeat (first | (with_reducible first | exact HB.out | apply below_alloc | apply pw_below_drewN | apply below_drew1) | exact HB.out)⟩⟩
                              · rw [if_neg c39] at H
                                have c39b0 : decide ((ji35) ≤ (ji38)) = false := decide_eq_false c39
                                clear c39
                                by_cases c40 : t123 > 0
                                · rw [if_pos c40] at H
                                  have c40b0 : decide (0 < t123) = true := decide_eq_true c40
                                  clear c40
                                  have c41b0 := eq_true (of_decide_eq_true (by first | (with_reducible assumption) | assumption) : 0 ≤ t123)
                                  obtain ⟨ji43, hji43⟩ : ∃ j_ : Int, (wrap64 (t121 - 1)) = j_ := ⟨_, rfl⟩
                                  replace H : (if 0 ≤ (ji43) then (if (ji35) > (shl .i64 1 (ji43)) then (headroomlaw09_ScanFits.j2 kj22 y117 (Int.tmod (wrap64 ((Int.tmod a3 3) + 3)) 3) t123 true) else (if 0 ≤ (wrap64 ((ji36) + t125)) then (if (Int.tmod (wrap64 ((wrap64 ((Int.tmod a1 (wrap64 ((ji14) + 1))) + (ji14))) + 1)) (wrap64 ((ji14) + 1))) > (shl .i64 1 (wrap64 ((ji36) + t125))) then (headroomlaw09_ScanFits.j2 kj22 y117 (Int.tmod (wrap64 ((Int.tmod a3 3) + 3)) 3) t123 true) else (if 0 ≤ (wrap64 ((wrap64 (t121 - 3)) + t127)) then (if (Int.tmod (wrap64 ((wrap64 ((Int.tmod a1 (wrap64 ((ji14) + 1))) + (ji14))) + 1)) (wrap64 ((ji14) + 1))) > (shl .i64 1 (wrap64 ((wrap64 (t121 - 3)) + t127))) then (headroomlaw09_ScanFits.j2 kj22 y117 (Int.tmod (wrap64 ((Int.tmod a3 3) + 3)) 3) t123 true) else (if t125 > 2 then (headroomlaw09_ScanFits.j2 kj22 y117 (Int.tmod (wrap64 ((Int.tmod a3 3) + 3)) 3) t123 true) else (headroomlaw09_ScanFits.j2 kj22 y117 (Int.tmod (wrap64 ((Int.tmod a3 3) + 3)) 3) t123 (decide (t127 > 3))))) else (none))) else (none))) else (none)) = some r := by first | (rw [hji43] at H; exact H) | (simp only [hji43] at H ⊢; exact H)
                                  have hji43w : (IntKind.i64.wrap (t121 - 1)) = ji43 := (i64_w _).trans hji43
                                  by_cases c44 : 0 ≤ (ji43)
                                  · rw [if_pos c44] at H
                                    have c44b0 := eq_true c44
                                    have c44b1 : decide (0 ≤ (ji43)) = true := decide_eq_true c44
                                    clear c44
                                    obtain ⟨ji45, hji45⟩ : ∃ j_ : Int, (shl .i64 1 (ji43)) = j_ := ⟨_, rfl⟩
                                    replace H : (if (ji35) > (ji45) then (headroomlaw09_ScanFits.j2 kj22 y117 (Int.tmod (wrap64 ((Int.tmod a3 3) + 3)) 3) t123 true) else (if 0 ≤ (wrap64 ((ji36) + t125)) then (if (Int.tmod (wrap64 ((wrap64 ((Int.tmod a1 (wrap64 ((ji14) + 1))) + (ji14))) + 1)) (wrap64 ((ji14) + 1))) > (shl .i64 1 (wrap64 ((ji36) + t125))) then (headroomlaw09_ScanFits.j2 kj22 y117 (Int.tmod (wrap64 ((Int.tmod a3 3) + 3)) 3) t123 true) else (if 0 ≤ (wrap64 ((wrap64 (t121 - 3)) + t127)) then (if (Int.tmod (wrap64 ((wrap64 ((Int.tmod a1 (wrap64 ((ji14) + 1))) + (ji14))) + 1)) (wrap64 ((ji14) + 1))) > (shl .i64 1 (wrap64 ((wrap64 (t121 - 3)) + t127))) then (headroomlaw09_ScanFits.j2 kj22 y117 (Int.tmod (wrap64 ((Int.tmod a3 3) + 3)) 3) t123 true) else (if t125 > 2 then (headroomlaw09_ScanFits.j2 kj22 y117 (Int.tmod (wrap64 ((Int.tmod a3 3) + 3)) 3) t123 true) else (headroomlaw09_ScanFits.j2 kj22 y117 (Int.tmod (wrap64 ((Int.tmod a3 3) + 3)) 3) t123 (decide (t127 > 3))))) else (none))) else (none))) = some r := by first | (rw [hji45] at H; exact H) | (simp only [hji45] at H ⊢; exact H)
                                    have hji45_ : (IntKind.i64.wrap (1 * 2 ^ min (ji43).toNat 64)) = ji45 := hji45
                                    have hji45z : (ji43) ≤ 64 → (IntKind.i64.wrap (1 * 2 ^ (ji43).toNat)) = ji45 := shl_small hji45
                                    have hji45u : (IntKind.i64.wrap (2 ^ min (ji43).toNat 64)) = ji45 := by have h_ := hji45_; rw [Int.one_mul] at h_; exact h_
                                    have hji45v : (ji43) ≤ 64 → (IntKind.i64.wrap (2 ^ (ji43).toNat)) = ji45 := fun hle_ => by have h_ := hji45z hle_; rw [Int.one_mul] at h_; exact h_
                                    have hji45y : (wrap64 (1 * 2 ^ min (ji43).toNat 64)) = ji45 := (i64_w _).symm.trans hji45_
                                    have hji45x : (ji43) ≤ 64 → (wrap64 (1 * 2 ^ (ji43).toNat)) = ji45 := fun h_ => (i64_w _).symm.trans (hji45z h_)
                                    by_cases c46 : (ji35) > (ji45)
                                    · rw [if_pos c46] at H
                                      have c46b0 : decide ((ji45) < (ji35)) = true := decide_eq_true c46
                                      clear c46
                                      have H' := Aside0.mk H
                                      clear H
                                      go_wp2
                                      repeat (go_quiet (fail); try go_wp2)
                                      go_meet
                                      case rel => exact ⟨_, (true), (by first | rfl | (simp; done) | (simp [*]; done)), H', ⟨by have := HJ8.out; have := HJ22.out; first | omega | exact Nat.le_refl _⟩, ⟨by repeat (first | (with_reducible first | exact HB.out | apply below_alloc | apply pw_below_drewN | apply below_drew1) | exact HB.out)⟩⟩
                                    · rw [if_neg c46] at H
                                      have c46b0 : decide ((ji45) < (ji35)) = false := decide_eq_false c46
                                      clear c46
                                      obtain ⟨ji47, hji47⟩ : ∃ j_ : Int, (wrap64 ((ji36) + t125)) = j_ := ⟨_, rfl⟩
                                      replace H : (if 0 ≤ (ji47) then (if (Int.tmod (wrap64 ((wrap64 ((Int.tmod a1 (wrap64 ((ji14) + 1))) + (ji14))) + 1)) (wrap64 ((ji14) + 1))) > (shl .i64 1 (ji47)) then (headroomlaw09_ScanFits.j2 kj22 y117 (Int.tmod (wrap64 ((Int.tmod a3 3) + 3)) 3) t123 true) else (if 0 ≤ (wrap64 ((wrap64 (t121 - 3)) + t127)) then (if (Int.tmod (wrap64 ((wrap64 ((Int.tmod a1 (wrap64 ((ji14) + 1))) + (ji14))) + 1)) (wrap64 ((ji14) + 1))) > (shl .i64 1 (wrap64 ((wrap64 (t121 - 3)) + t127))) then (headroomlaw09_ScanFits.j2 kj22 y117 (Int.tmod (wrap64 ((Int.tmod a3 3) + 3)) 3) t123 true) else (if t125 > 2 then (headroomlaw09_ScanFits.j2 kj22 y117 (Int.tmod (wrap64 ((Int.tmod a3 3) + 3)) 3) t123 true) else (headroomlaw09_ScanFits.j2 kj22 y117 (Int.tmod (wrap64 ((Int.tmod a3 3) + 3)) 3) t123 (decide (t127 > 3))))) else (none))) else (none)) = some r := by first | (rw [hji47] at H; exact H) | (simp only [hji47] at H ⊢; exact H)
                                      have hji47w : (IntKind.i64.wrap ((ji36) + t125)) = ji47 := (i64_w _).trans hji47
                                      by_cases c48 : 0 ≤ (ji47)
                                      · rw [if_pos c48] at H
                                        have c48b0 := eq_true c48
                                        have c48b1 : decide (0 ≤ (ji47)) = true := decide_eq_true c48
                                        clear c48
                                        obtain ⟨ji49, hji49⟩ : ∃ j_ : Int, (shl .i64 1 (ji47)) = j_ := ⟨_, rfl⟩
                                        replace H : (if (Int.tmod (wrap64 ((wrap64 ((Int.tmod a1 (wrap64 ((ji14) + 1))) + (ji14))) + 1)) (wrap64 ((ji14) + 1))) > (ji49) then (headroomlaw09_ScanFits.j2 kj22 y117 (Int.tmod (wrap64 ((Int.tmod a3 3) + 3)) 3) t123 true) else (if 0 ≤ (wrap64 ((wrap64 (t121 - 3)) + t127)) then (if (Int.tmod (wrap64 ((wrap64 ((Int.tmod a1 (wrap64 ((ji14) + 1))) + (ji14))) + 1)) (wrap64 ((ji14) + 1))) > (shl .i64 1 (wrap64 ((wrap64 (t121 - 3)) + t127))) then (headroomlaw09_ScanFits.j2 kj22 y117 (Int.tmod (wrap64 ((Int.tmod a3 3) + 3)) 3) t123 true) else (if t125 > 2 then (headroomlaw09_ScanFits.j2 kj22 y117 (Int.tmod (wrap64 ((Int.tmod a3 3) + 3)) 3) t123 true) else (headroomlaw09_ScanFits.j2 kj22 y117 (Int.tmod (wrap64 ((Int.tmod a3 3) + 3)) 3) t123 (decide (t127 > 3))))) else (none))) = some r := by first | (rw [hji49] at H; exact H) | (simp only [hji49] at H ⊢; exact H)
                                        have hji49_ : (IntKind.i64.wrap (1 * 2 ^ min (ji47).toNat 64)) = ji49 := hji49
                                        have hji49z : (ji47) ≤ 64 → (IntKind.i64.wrap (1 * 2 ^ (ji47).toNat)) = ji49 := shl_small hji49
                                        have hji49u : (IntKind.i64.wrap (2 ^ min (ji47).toNat 64)) = ji49 := by have h_ := hji49_; rw [Int.one_mul] at h_; exact h_
                                        have hji49v : (ji47) ≤ 64 → (IntKind.i64.wrap (2 ^ (ji47).toNat)) = ji49 := fun hle_ => by have h_ := hji49z hle_; rw [Int.one_mul] at h_; exact h_
                                        have hji49y : (wrap64 (1 * 2 ^ min (ji47).toNat 64)) = ji49 := (i64_w _).symm.trans hji49_
                                        have hji49x : (ji47) ≤ 64 → (wrap64 (1 * 2 ^ (ji47).toNat)) = ji49 := fun h_ => (i64_w _).symm.trans (hji49z h_)
                                        by_cases c50 : (Int.tmod (wrap64 ((wrap64 ((Int.tmod a1 (wrap64 ((ji14) + 1))) + (ji14))) + 1)) (wrap64 ((ji14) + 1))) > (ji49)
                                        · rw [if_pos c50] at H
                                          have c50b0 : decide ((ji49) < (Int.tmod (wrap64 ((wrap64 ((Int.tmod a1 (wrap64 ((ji14) + 1))) + (ji14))) + 1)) (wrap64 ((ji14) + 1)))) = true := decide_eq_true c50
                                          clear c50
                                          have H' := Aside0.mk H
                                          clear H
                                          go_wp2
                                          repeat (go_quiet (fail); try go_wp2)
                                          go_meet
                                          case rel => exact ⟨_, (true), (by first | rfl | (simp; done) | (simp [*]; done)), H', ⟨by have := HJ8.out; have := HJ22.out; first | omega | exact Nat.le_refl _⟩, ⟨by repeat (first | (with_reducible first | exact HB.out | apply below_alloc | apply pw_below_drewN | apply below_drew1) | exact HB.out)⟩⟩
                                        · rw [if_neg c50] at H
                                          have c50b0 : decide ((ji49) < (Int.tmod (wrap64 ((wrap64 ((Int.tmod a1 (wrap64 ((ji14) + 1))) + (ji14))) + 1)) (wrap64 ((ji14) + 1)))) = false := decide_eq_false c50
                                          clear c50
                                          obtain ⟨ji51, hji51⟩ : ∃ j_ : Int, (wrap64 ((wrap64 (t121 - 3)) + t127)) = j_ := ⟨_, rfl⟩
                                          replace H : (if 0 ≤ (ji51) then (if (Int.tmod (wrap64 ((wrap64 ((Int.tmod a1 (wrap64 ((ji14) + 1))) + (ji14))) + 1)) (wrap64 ((ji14) + 1))) > (shl .i64 1 (ji51)) then (headroomlaw09_ScanFits.j2 kj22 y117 (Int.tmod (wrap64 ((Int.tmod a3 3) + 3)) 3) t123 true) else (if t125 > 2 then (headroomlaw09_ScanFits.j2 kj22 y117 (Int.tmod (wrap64 ((Int.tmod a3 3) + 3)) 3) t123 true) else (headroomlaw09_ScanFits.j2 kj22 y117 (Int.tmod (wrap64 ((Int.tmod a3 3) + 3)) 3) t123 (decide (t127 > 3))))) else (none)) = some r := by first | (rw [hji51] at H; exact H) | (simp only [hji51] at H ⊢; exact H)
                                          have hji51w : (IntKind.i64.wrap ((wrap64 (t121 - 3)) + t127)) = ji51 := (i64_w _).trans hji51
                                          by_cases c52 : 0 ≤ (ji51)
                                          · rw [if_pos c52] at H
                                            have c52b0 := eq_true c52
                                            have c52b1 : decide (0 ≤ (ji51)) = true := decide_eq_true c52
                                            clear c52
                                            obtain ⟨ji53, hji53⟩ : ∃ j_ : Int, (shl .i64 1 (ji51)) = j_ := ⟨_, rfl⟩
                                            replace H : (if (Int.tmod (wrap64 ((wrap64 ((Int.tmod a1 (wrap64 ((ji14) + 1))) + (ji14))) + 1)) (wrap64 ((ji14) + 1))) > (ji53) then (headroomlaw09_ScanFits.j2 kj22 y117 (Int.tmod (wrap64 ((Int.tmod a3 3) + 3)) 3) t123 true) else (if t125 > 2 then (headroomlaw09_ScanFits.j2 kj22 y117 (Int.tmod (wrap64 ((Int.tmod a3 3) + 3)) 3) t123 true) else (headroomlaw09_ScanFits.j2 kj22 y117 (Int.tmod (wrap64 ((Int.tmod a3 3) + 3)) 3) t123 (decide (t127 > 3))))) = some r := by first | (rw [hji53] at H; exact H) | (simp only [hji53] at H ⊢; exact H)
                                            have hji53_ : (IntKind.i64.wrap (1 * 2 ^ min (ji51).toNat 64)) = ji53 := hji53
                                            have hji53z : (ji51) ≤ 64 → (IntKind.i64.wrap (1 * 2 ^ (ji51).toNat)) = ji53 := shl_small hji53
                                            have hji53u : (IntKind.i64.wrap (2 ^ min (ji51).toNat 64)) = ji53 := by have h_ := hji53_; rw [Int.one_mul] at h_; exact h_
                                            have hji53v : (ji51) ≤ 64 → (IntKind.i64.wrap (2 ^ (ji51).toNat)) = ji53 := fun hle_ => by have h_ := hji53z hle_; rw [Int.one_mul] at h_; exact h_
                                            have hji53y : (wrap64 (1 * 2 ^ min (ji51).toNat 64)) = ji53 := (i64_w _).symm.trans hji53_
                                            have hji53x : (ji51) ≤ 64 → (wrap64 (1 * 2 ^ (ji51).toNat)) = ji53 := fun h_ => (i64_w _).symm.trans (hji53z h_)
                                            by_cases c54 : (Int.tmod (wrap64 ((wrap64 ((Int.tmod a1 (wrap64 ((ji14) + 1))) + (ji14))) + 1)) (wrap64 ((ji14) + 1))) > (ji53)
                                            · rw [if_pos c54] at H
                                              have c54b0 : decide ((ji53) < (Int.tmod (wrap64 ((wrap64 ((Int.tmod a1 (wrap64 ((ji14) + 1))) + (ji14))) + 1)) (wrap64 ((ji14) + 1)))) = true := decide_eq_true c54
                                              clear c54
                                              have H' := Aside0.mk H
                                              clear H
                                              go_wp2
                                              repeat (go_quiet (fail); try go_wp2)
                                              go_meet
                                              case rel => exact ⟨_, (true), (by first | rfl | (simp; done) | (simp [*]; done)), H', ⟨by have := HJ8.out; have := HJ22.out; first | omega | exact Nat.le_refl _⟩, ⟨by repeat (first | (with_reducible first | exact HB.out | apply below_alloc | apply pw_below_drewN | apply below_drew1) | exact HB.out)⟩⟩
                                            · rw [if_neg c54] at H
                                              have c54b0 : decide ((ji53) < (Int.tmod (wrap64 ((wrap64 ((Int.tmod a1 (wrap64 ((ji14) + 1))) + (ji14))) + 1)) (wrap64 ((ji14) + 1)))) = false := decide_eq_false c54
                                              clear c54
                                              by_cases c55 : t125 > 2
                                              · rw [if_pos c55] at H
                                                have c55b0 : decide (2 < t125) = true := decide_eq_true c55
                                                clear c55
                                                have H' := Aside0.mk H
                                                clear H
                                                go_wp2
                                                repeat (go_quiet (fail); try go_wp2)
                                                go_meet
                                                case rel => exact ⟨_, (true), (by first | rfl | (simp; done) | (simp [*]; done)), H', ⟨by have := HJ8.out; have := HJ22.out; first | omega | exact Nat.le_refl _⟩, ⟨by repeat (first | (with_reducible first | exact HB.out | apply below_alloc | apply pw_below_drewN | apply below_drew1) | exact HB.out)⟩⟩
                                              · rw [if_neg c55] at H
                                                have c55b0 : decide (2 < t125) = false := decide_eq_false c55
                                                clear c55
                                                have H' := Aside0.mk H
                                                clear H
                                                go_wp2
                                                repeat (go_quiet (fail); try go_wp2)
                                                go_meet
                                                case rel => exact ⟨_, (decide (t127 > 3)), (by first | rfl | (simp; done) | (simp [*]; done)), H', ⟨by have := HJ8.out; have := HJ22.out; first | omega | exact Nat.le_refl _⟩, ⟨by repeat (first | (with_reducible first | exact HB.out | apply below_alloc | apply pw_below_drewN | apply below_drew1) | exact HB.out)⟩⟩
                                          · rw [if_neg c52] at H
                                            exact absurd H (by simp)
                                      · rw [if_neg c48] at H
                                        exact absurd H (by simp)
                                  · rw [if_neg c44] at H
                                    exact absurd H (by simp)
                                · rw [if_neg c40] at H
                                  have c40b0 : decide (0 < t123) = false := decide_eq_false c40
                                  clear c40
                                  obtain ⟨ji56, hji56⟩ : ∃ j_ : Int, (wrap64 ((ji36) + t125)) = j_ := ⟨_, rfl⟩
                                  replace H : (if 0 ≤ (ji56) then (if (Int.tmod (wrap64 ((wrap64 ((Int.tmod a1 (wrap64 ((ji14) + 1))) + (ji14))) + 1)) (wrap64 ((ji14) + 1))) > (shl .i64 1 (ji56)) then (headroomlaw09_ScanFits.j2 kj22 y117 (Int.tmod (wrap64 ((Int.tmod a3 3) + 3)) 3) t123 true) else (if 0 ≤ (wrap64 ((wrap64 (t121 - 3)) + t127)) then (if (Int.tmod (wrap64 ((wrap64 ((Int.tmod a1 (wrap64 ((ji14) + 1))) + (ji14))) + 1)) (wrap64 ((ji14) + 1))) > (shl .i64 1 (wrap64 ((wrap64 (t121 - 3)) + t127))) then (headroomlaw09_ScanFits.j2 kj22 y117 (Int.tmod (wrap64 ((Int.tmod a3 3) + 3)) 3) t123 true) else (if t125 > 2 then (headroomlaw09_ScanFits.j2 kj22 y117 (Int.tmod (wrap64 ((Int.tmod a3 3) + 3)) 3) t123 true) else (headroomlaw09_ScanFits.j2 kj22 y117 (Int.tmod (wrap64 ((Int.tmod a3 3) + 3)) 3) t123 (decide (t127 > 3))))) else (none))) else (none)) = some r := by first | (rw [hji56] at H; exact H) | (simp only [hji56] at H ⊢; exact H)
                                  have hji56w : (IntKind.i64.wrap ((ji36) + t125)) = ji56 := (i64_w _).trans hji56
                                  by_cases c57 : 0 ≤ (ji56)
                                  · rw [if_pos c57] at H
                                    have c57b0 := eq_true c57
                                    have c57b1 : decide (0 ≤ (ji56)) = true := decide_eq_true c57
                                    clear c57
                                    obtain ⟨ji58, hji58⟩ : ∃ j_ : Int, (shl .i64 1 (ji56)) = j_ := ⟨_, rfl⟩
                                    replace H : (if (Int.tmod (wrap64 ((wrap64 ((Int.tmod a1 (wrap64 ((ji14) + 1))) + (ji14))) + 1)) (wrap64 ((ji14) + 1))) > (ji58) then (headroomlaw09_ScanFits.j2 kj22 y117 (Int.tmod (wrap64 ((Int.tmod a3 3) + 3)) 3) t123 true) else (if 0 ≤ (wrap64 ((wrap64 (t121 - 3)) + t127)) then (if (Int.tmod (wrap64 ((wrap64 ((Int.tmod a1 (wrap64 ((ji14) + 1))) + (ji14))) + 1)) (wrap64 ((ji14) + 1))) > (shl .i64 1 (wrap64 ((wrap64 (t121 - 3)) + t127))) then (headroomlaw09_ScanFits.j2 kj22 y117 (Int.tmod (wrap64 ((Int.tmod a3 3) + 3)) 3) t123 true) else (if t125 > 2 then (headroomlaw09_ScanFits.j2 kj22 y117 (Int.tmod (wrap64 ((Int.tmod a3 3) + 3)) 3) t123 true) else (headroomlaw09_ScanFits.j2 kj22 y117 (Int.tmod (wrap64 ((Int.tmod a3 3) + 3)) 3) t123 (decide (t127 > 3))))) else (none))) = some r := by first | (rw [hji58] at H; exact H) | (simp only [hji58] at H ⊢; exact H)
                                    have hji58_ : (IntKind.i64.wrap (1 * 2 ^ min (ji56).toNat 64)) = ji58 := hji58
                                    have hji58z : (ji56) ≤ 64 → (IntKind.i64.wrap (1 * 2 ^ (ji56).toNat)) = ji58 := shl_small hji58
                                    have hji58u : (IntKind.i64.wrap (2 ^ min (ji56).toNat 64)) = ji58 := by have h_ := hji58_; rw [Int.one_mul] at h_; exact h_
                                    have hji58v : (ji56) ≤ 64 → (IntKind.i64.wrap (2 ^ (ji56).toNat)) = ji58 := fun hle_ => by have h_ := hji58z hle_; rw [Int.one_mul] at h_; exact h_
                                    have hji58y : (wrap64 (1 * 2 ^ min (ji56).toNat 64)) = ji58 := (i64_w _).symm.trans hji58_
                                    have hji58x : (ji56) ≤ 64 → (wrap64 (1 * 2 ^ (ji56).toNat)) = ji58 := fun h_ => (i64_w _).symm.trans (hji58z h_)
                                    by_cases c59 : (Int.tmod (wrap64 ((wrap64 ((Int.tmod a1 (wrap64 ((ji14) + 1))) + (ji14))) + 1)) (wrap64 ((ji14) + 1))) > (ji58)
                                    · rw [if_pos c59] at H
                                      have c59b0 : decide ((ji58) < (Int.tmod (wrap64 ((wrap64 ((Int.tmod a1 (wrap64 ((ji14) + 1))) + (ji14))) + 1)) (wrap64 ((ji14) + 1)))) = true := decide_eq_true c59
                                      clear c59
                                      have H' := Aside0.mk H
                                      clear H
                                      go_wp2
                                      repeat (go_quiet (fail); try go_wp2)
                                      go_meet
                                      case rel => exact ⟨_, (true), (by first | rfl | (simp; done) | (simp [*]; done)), H', ⟨by have := HJ8.out; have := HJ22.out; first | omega | exact Nat.le_refl _⟩, ⟨by repeat (first | (with_reducible first | exact HB.out | apply below_alloc | apply pw_below_drewN | apply below_drew1) | exact HB.out)⟩⟩
                                    · rw [if_neg c59] at H
                                      have c59b0 : decide ((ji58) < (Int.tmod (wrap64 ((wrap64 ((Int.tmod a1 (wrap64 ((ji14) + 1))) + (ji14))) + 1)) (wrap64 ((ji14) + 1)))) = false := decide_eq_false c59
                                      clear c59
                                      obtain ⟨ji60, hji60⟩ : ∃ j_ : Int, (wrap64 ((wrap64 (t121 - 3)) + t127)) = j_ := ⟨_, rfl⟩
                                      replace H : (if 0 ≤ (ji60) then (if (Int.tmod (wrap64 ((wrap64 ((Int.tmod a1 (wrap64 ((ji14) + 1))) + (ji14))) + 1)) (wrap64 ((ji14) + 1))) > (shl .i64 1 (ji60)) then (headroomlaw09_ScanFits.j2 kj22 y117 (Int.tmod (wrap64 ((Int.tmod a3 3) + 3)) 3) t123 true) else (if t125 > 2 then (headroomlaw09_ScanFits.j2 kj22 y117 (Int.tmod (wrap64 ((Int.tmod a3 3) + 3)) 3) t123 true) else (headroomlaw09_ScanFits.j2 kj22 y117 (Int.tmod (wrap64 ((Int.tmod a3 3) + 3)) 3) t123 (decide (t127 > 3))))) else (none)) = some r := by first | (rw [hji60] at H; exact H) | (simp only [hji60] at H ⊢; exact H)
                                      have hji60w : (IntKind.i64.wrap ((wrap64 (t121 - 3)) + t127)) = ji60 := (i64_w _).trans hji60
                                      by_cases c61 : 0 ≤ (ji60)
                                      · rw [if_pos c61] at H
                                        have c61b0 := eq_true c61
                                        have c61b1 : decide (0 ≤ (ji60)) = true := decide_eq_true c61
                                        clear c61
                                        obtain ⟨ji62, hji62⟩ : ∃ j_ : Int, (shl .i64 1 (ji60)) = j_ := ⟨_, rfl⟩
                                        replace H : (if (Int.tmod (wrap64 ((wrap64 ((Int.tmod a1 (wrap64 ((ji14) + 1))) + (ji14))) + 1)) (wrap64 ((ji14) + 1))) > (ji62) then (headroomlaw09_ScanFits.j2 kj22 y117 (Int.tmod (wrap64 ((Int.tmod a3 3) + 3)) 3) t123 true) else (if t125 > 2 then (headroomlaw09_ScanFits.j2 kj22 y117 (Int.tmod (wrap64 ((Int.tmod a3 3) + 3)) 3) t123 true) else (headroomlaw09_ScanFits.j2 kj22 y117 (Int.tmod (wrap64 ((Int.tmod a3 3) + 3)) 3) t123 (decide (t127 > 3))))) = some r := by first | (rw [hji62] at H; exact H) | (simp only [hji62] at H ⊢; exact H)
                                        have hji62_ : (IntKind.i64.wrap (1 * 2 ^ min (ji60).toNat 64)) = ji62 := hji62
                                        have hji62z : (ji60) ≤ 64 → (IntKind.i64.wrap (1 * 2 ^ (ji60).toNat)) = ji62 := shl_small hji62
                                        have hji62u : (IntKind.i64.wrap (2 ^ min (ji60).toNat 64)) = ji62 := by have h_ := hji62_; rw [Int.one_mul] at h_; exact h_
                                        have hji62v : (ji60) ≤ 64 → (IntKind.i64.wrap (2 ^ (ji60).toNat)) = ji62 := fun hle_ => by have h_ := hji62z hle_; rw [Int.one_mul] at h_; exact h_
                                        have hji62y : (wrap64 (1 * 2 ^ min (ji60).toNat 64)) = ji62 := (i64_w _).symm.trans hji62_
                                        have hji62x : (ji60) ≤ 64 → (wrap64 (1 * 2 ^ (ji60).toNat)) = ji62 := fun h_ => (i64_w _).symm.trans (hji62z h_)
                                        by_cases c63 : (Int.tmod (wrap64 ((wrap64 ((Int.tmod a1 (wrap64 ((ji14) + 1))) + (ji14))) + 1)) (wrap64 ((ji14) + 1))) > (ji62)
                                        · rw [if_pos c63] at H
                                          have c63b0 : decide ((ji62) < (Int.tmod (wrap64 ((wrap64 ((Int.tmod a1 (wrap64 ((ji14) + 1))) + (ji14))) + 1)) (wrap64 ((ji14) + 1)))) = true := decide_eq_true c63
                                          clear c63
                                          have H' := Aside0.mk H
                                          clear H
                                          go_wp2
                                          repeat (go_quiet (fail); try go_wp2)
                                          go_meet
                                          case rel => exact ⟨_, (true), (by first | rfl | (simp; done) | (simp [*]; done)), H', ⟨by have := HJ8.out; have := HJ22.out; first | omega | exact Nat.le_refl _⟩, ⟨by repeat (first | (with_reducible first | exact HB.out | apply below_alloc | apply pw_below_drewN | apply below_drew1) | exact HB.out)⟩⟩
                                        · rw [if_neg c63] at H
                                          have c63b0 : decide ((ji62) < (Int.tmod (wrap64 ((wrap64 ((Int.tmod a1 (wrap64 ((ji14) + 1))) + (ji14))) + 1)) (wrap64 ((ji14) + 1)))) = false := decide_eq_false c63
                                          clear c63
                                          by_cases c64 : t125 > 2
                                          · rw [if_pos c64] at H
                                            have c64b0 : decide (2 < t125) = true := decide_eq_true c64
                                            clear c64
                                            have H' := Aside0.mk H
                                            clear H
                                            go_wp2
                                            repeat (go_quiet (fail); try go_wp2)
                                            go_meet
                                            case rel => exact ⟨_, (true), (by first | rfl | (simp; done) | (simp [*]; done)), H', ⟨by have := HJ8.out; have := HJ22.out; first | omega | exact Nat.le_refl _⟩, ⟨by repeat (first | (with_reducible first | exact HB.out | apply below_alloc | apply pw_below_drewN | apply below_drew1) | exact HB.out)⟩⟩
                                          · rw [if_neg c64] at H
                                            have c64b0 : decide (2 < t125) = false := decide_eq_false c64
                                            clear c64
                                            have H' := Aside0.mk H
                                            clear H
                                            go_wp2
                                            repeat (go_quiet (fail); try go_wp2)
                                            go_meet
                                            case rel => exact ⟨_, (decide (t127 > 3)), (by first | rfl | (simp; done) | (simp [*]; done)), H', ⟨by have := HJ8.out; have := HJ22.out; first | omega | exact Nat.le_refl _⟩, ⟨by repeat (first | (with_reducible first | exact HB.out | apply below_alloc | apply pw_below_drewN | apply below_drew1) | exact HB.out)⟩⟩
                                      · rw [if_neg c61] at H
                                        exact absurd H (by simp)
                                  · rw [if_neg c57] at H
                                    exact absurd H (by simp)
                            · rw [if_neg c37] at H
                              exact absurd H (by simp)
                          · rw [if_neg c34] at H
                            exact absurd H (by simp)
                        · rw [if_neg c33] at H
                          have c33b0 : decide (0 < (Int.tmod (wrap64 ((wrap64 ((Int.tmod a1 (wrap64 ((ji14) + 1))) + (ji14))) + 1)) (wrap64 ((ji14) + 1)))) = false := decide_eq_false c33
                          clear c33
                          (first | rw [c33b0] | (simp only [i64_w, i32_w]; rw [c33b0]) | skip)
                          by_cases c65 : t123 > 0
                          · rw [if_pos c65] at H
                            have c65b0 : decide (0 < t123) = true := decide_eq_true c65
                            clear c65
                            by_cases c66 : 0 ≤ t123
                            · rw [if_pos c66] at H
                              have c66b0 := eq_true c66
                              have c66b1 : decide (0 ≤ t123) = true := decide_eq_true c66
                              clear c66
                              obtain ⟨ji67, hji67⟩ : ∃ j_ : Int, (shl .i64 (Int.tmod (wrap64 ((wrap64 ((Int.tmod a1 (wrap64 ((ji14) + 1))) + (ji14))) + 1)) (wrap64 ((ji14) + 1))) t123) = j_ := ⟨_, rfl⟩
                              replace H : (if 0 ≤ (wrap64 (t121 - 1)) then (if (ji67) > (shl .i64 1 (wrap64 (t121 - 1))) then (headroomlaw09_ScanFits.j2 kj22 y117 (Int.tmod (wrap64 ((Int.tmod a3 3) + 3)) 3) t123 true) else (if 0 ≤ (wrap64 ((wrap64 (t121 - 2)) + t125)) then (if (Int.tmod (wrap64 ((wrap64 ((Int.tmod a1 (wrap64 ((ji14) + 1))) + (ji14))) + 1)) (wrap64 ((ji14) + 1))) > (shl .i64 1 (wrap64 ((wrap64 (t121 - 2)) + t125))) then (headroomlaw09_ScanFits.j2 kj22 y117 (Int.tmod (wrap64 ((Int.tmod a3 3) + 3)) 3) t123 true) else (if 0 ≤ (wrap64 ((wrap64 (t121 - 3)) + t127)) then (if (Int.tmod (wrap64 ((wrap64 ((Int.tmod a1 (wrap64 ((ji14) + 1))) + (ji14))) + 1)) (wrap64 ((ji14) + 1))) > (shl .i64 1 (wrap64 ((wrap64 (t121 - 3)) + t127))) then (headroomlaw09_ScanFits.j2 kj22 y117 (Int.tmod (wrap64 ((Int.tmod a3 3) + 3)) 3) t123 true) else (if t125 > 2 then (headroomlaw09_ScanFits.j2 kj22 y117 (Int.tmod (wrap64 ((Int.tmod a3 3) + 3)) 3) t123 true) else (headroomlaw09_ScanFits.j2 kj22 y117 (Int.tmod (wrap64 ((Int.tmod a3 3) + 3)) 3) t123 (decide (t127 > 3))))) else (none))) else (none))) else (none)) = some r := by first | (rw [hji67] at H; exact H) | (simp only [hji67] at H ⊢; exact H)
                              have hji67_ : (IntKind.i64.wrap ((Int.tmod (wrap64 ((wrap64 ((Int.tmod a1 (wrap64 ((ji14) + 1))) + (ji14))) + 1)) (wrap64 ((ji14) + 1))) * 2 ^ min t123.toNat 64)) = ji67 := hji67
                              have hji67z : t123 ≤ 64 → (IntKind.i64.wrap ((Int.tmod (wrap64 ((wrap64 ((Int.tmod a1 (wrap64 ((ji14) + 1))) + (ji14))) + 1)) (wrap64 ((ji14) + 1))) * 2 ^ t123.toNat)) = ji67 := shl_small hji67
                              have hji67y : (wrap64 ((Int.tmod (wrap64 ((wrap64 ((Int.tmod a1 (wrap64 ((ji14) + 1))) + (ji14))) + 1)) (wrap64 ((ji14) + 1))) * 2 ^ min t123.toNat 64)) = ji67 := (i64_w _).symm.trans hji67_
                              have hji67x : t123 ≤ 64 → (wrap64 ((Int.tmod (wrap64 ((wrap64 ((Int.tmod a1 (wrap64 ((ji14) + 1))) + (ji14))) + 1)) (wrap64 ((ji14) + 1))) * 2 ^ t123.toNat)) = ji67 := fun h_ => (i64_w _).symm.trans (hji67z h_)
                              obtain ⟨ji68, hji68⟩ : ∃ j_ : Int, (wrap64 (t121 - 1)) = j_ := ⟨_, rfl⟩
                              replace H : (if 0 ≤ (ji68) then (if (ji67) > (shl .i64 1 (ji68)) then (headroomlaw09_ScanFits.j2 kj22 y117 (Int.tmod (wrap64 ((Int.tmod a3 3) + 3)) 3) t123 true) else (if 0 ≤ (wrap64 ((wrap64 (t121 - 2)) + t125)) then (if (Int.tmod (wrap64 ((wrap64 ((Int.tmod a1 (wrap64 ((ji14) + 1))) + (ji14))) + 1)) (wrap64 ((ji14) + 1))) > (shl .i64 1 (wrap64 ((wrap64 (t121 - 2)) + t125))) then (headroomlaw09_ScanFits.j2 kj22 y117 (Int.tmod (wrap64 ((Int.tmod a3 3) + 3)) 3) t123 true) else (if 0 ≤ (wrap64 ((wrap64 (t121 - 3)) + t127)) then (if (Int.tmod (wrap64 ((wrap64 ((Int.tmod a1 (wrap64 ((ji14) + 1))) + (ji14))) + 1)) (wrap64 ((ji14) + 1))) > (shl .i64 1 (wrap64 ((wrap64 (t121 - 3)) + t127))) then (headroomlaw09_ScanFits.j2 kj22 y117 (Int.tmod (wrap64 ((Int.tmod a3 3) + 3)) 3) t123 true) else (if t125 > 2 then (headroomlaw09_ScanFits.j2 kj22 y117 (Int.tmod (wrap64 ((Int.tmod a3 3) + 3)) 3) t123 true) else (headroomlaw09_ScanFits.j2 kj22 y117 (Int.tmod (wrap64 ((Int.tmod a3 3) + 3)) 3) t123 (decide (t127 > 3))))) else (none))) else (none))) else (none)) = some r := by first | (rw [hji68] at H; exact H) | (simp only [hji68] at H ⊢; exact H)
                              have hji68w : (IntKind.i64.wrap (t121 - 1)) = ji68 := (i64_w _).trans hji68
                              by_cases c69 : 0 ≤ (ji68)
                              · rw [if_pos c69] at H
                                have c69b0 := eq_true c69
                                have c69b1 : decide (0 ≤ (ji68)) = true := decide_eq_true c69
                                clear c69
                                obtain ⟨ji70, hji70⟩ : ∃ j_ : Int, (shl .i64 1 (ji68)) = j_ := ⟨_, rfl⟩
                                replace H : (if (ji67) > (ji70) then (headroomlaw09_ScanFits.j2 kj22 y117 (Int.tmod (wrap64 ((Int.tmod a3 3) + 3)) 3) t123 true) else (if 0 ≤ (wrap64 ((wrap64 (t121 - 2)) + t125)) then (if (Int.tmod (wrap64 ((wrap64 ((Int.tmod a1 (wrap64 ((ji14) + 1))) + (ji14))) + 1)) (wrap64 ((ji14) + 1))) > (shl .i64 1 (wrap64 ((wrap64 (t121 - 2)) + t125))) then (headroomlaw09_ScanFits.j2 kj22 y117 (Int.tmod (wrap64 ((Int.tmod a3 3) + 3)) 3) t123 true) else (if 0 ≤ (wrap64 ((wrap64 (t121 - 3)) + t127)) then (if (Int.tmod (wrap64 ((wrap64 ((Int.tmod a1 (wrap64 ((ji14) + 1))) + (ji14))) + 1)) (wrap64 ((ji14) + 1))) > (shl .i64 1 (wrap64 ((wrap64 (t121 - 3)) + t127))) then (headroomlaw09_ScanFits.j2 kj22 y117 (Int.tmod (wrap64 ((Int.tmod a3 3) + 3)) 3) t123 true) else (if t125 > 2 then (headroomlaw09_ScanFits.j2 kj22 y117 (Int.tmod (wrap64 ((Int.tmod a3 3) + 3)) 3) t123 true) else (headroomlaw09_ScanFits.j2 kj22 y117 (Int.tmod (wrap64 ((Int.tmod a3 3) + 3)) 3) t123 (decide (t127 > 3))))) else (none))) else (none))) = some r := by first | (rw [hji70] at H; exact H) | (simp only [hji70] at H ⊢; exact H)
                                have hji70_ : (IntKind.i64.wrap (1 * 2 ^ min (ji68).toNat 64)) = ji70 := hji70
                                have hji70z : (ji68) ≤ 64 → (IntKind.i64.wrap (1 * 2 ^ (ji68).toNat)) = ji70 := shl_small hji70
                                have hji70u : (IntKind.i64.wrap (2 ^ min (ji68).toNat 64)) = ji70 := by have h_ := hji70_; rw [Int.one_mul] at h_; exact h_
                                have hji70v : (ji68) ≤ 64 → (IntKind.i64.wrap (2 ^ (ji68).toNat)) = ji70 := fun hle_ => by have h_ := hji70z hle_; rw [Int.one_mul] at h_; exact h_
                                have hji70y : (wrap64 (1 * 2 ^ min (ji68).toNat 64)) = ji70 := (i64_w _).symm.trans hji70_
                                have hji70x : (ji68) ≤ 64 → (wrap64 (1 * 2 ^ (ji68).toNat)) = ji70 := fun h_ => (i64_w _).symm.trans (hji70z h_)
                                by_cases c71 : (ji67) > (ji70)
                                · rw [if_pos c71] at H
                                  have c71b0 : decide ((ji70) < (ji67)) = true := decide_eq_true c71
                                  clear c71
                                  have H' := Aside0.mk H
                                  clear H
                                  go_wp2
                                  repeat (go_quiet (fail); try go_wp2)
                                  go_meet
                                  case rel => exact ⟨_, (true), (by first | rfl | (simp; done) | (simp [*]; done)), H', ⟨by have := HJ8.out; have := HJ22.out; first | omega | exact Nat.le_refl _⟩, ⟨by repeat (first | (with_reducible first | exact HB.out | apply below_alloc | apply pw_below_drewN | apply below_drew1) | exact HB.out)⟩⟩
                                · rw [if_neg c71] at H
                                  have c71b0 : decide ((ji70) < (ji67)) = false := decide_eq_false c71
                                  clear c71
                                  obtain ⟨ji72, hji72⟩ : ∃ j_ : Int, (wrap64 ((wrap64 (t121 - 2)) + t125)) = j_ := ⟨_, rfl⟩
                                  replace H : (if 0 ≤ (ji72) then (if (Int.tmod (wrap64 ((wrap64 ((Int.tmod a1 (wrap64 ((ji14) + 1))) + (ji14))) + 1)) (wrap64 ((ji14) + 1))) > (shl .i64 1 (ji72)) then (headroomlaw09_ScanFits.j2 kj22 y117 (Int.tmod (wrap64 ((Int.tmod a3 3) + 3)) 3) t123 true) else (if 0 ≤ (wrap64 ((wrap64 (t121 - 3)) + t127)) then (if (Int.tmod (wrap64 ((wrap64 ((Int.tmod a1 (wrap64 ((ji14) + 1))) + (ji14))) + 1)) (wrap64 ((ji14) + 1))) > (shl .i64 1 (wrap64 ((wrap64 (t121 - 3)) + t127))) then (headroomlaw09_ScanFits.j2 kj22 y117 (Int.tmod (wrap64 ((Int.tmod a3 3) + 3)) 3) t123 true) else (if t125 > 2 then (headroomlaw09_ScanFits.j2 kj22 y117 (Int.tmod (wrap64 ((Int.tmod a3 3) + 3)) 3) t123 true) else (headroomlaw09_ScanFits.j2 kj22 y117 (Int.tmod (wrap64 ((Int.tmod a3 3) + 3)) 3) t123 (decide (t127 > 3))))) else (none))) else (none)) = some r := by first | (rw [hji72] at H; exact H) | (simp only [hji72] at H ⊢; exact H)
                                  have hji72w : (IntKind.i64.wrap ((wrap64 (t121 - 2)) + t125)) = ji72 := (i64_w _).trans hji72
                                  by_cases c73 : 0 ≤ (ji72)
                                  · rw [if_pos c73] at H
                                    have c73b0 := eq_true c73
                                    have c73b1 : decide (0 ≤ (ji72)) = true := decide_eq_true c73
                                    clear c73
                                    obtain ⟨ji74, hji74⟩ : ∃ j_ : Int, (shl .i64 1 (ji72)) = j_ := ⟨_, rfl⟩
                                    replace H : (if (Int.tmod (wrap64 ((wrap64 ((Int.tmod a1 (wrap64 ((ji14) + 1))) + (ji14))) + 1)) (wrap64 ((ji14) + 1))) > (ji74) then (headroomlaw09_ScanFits.j2 kj22 y117 (Int.tmod (wrap64 ((Int.tmod a3 3) + 3)) 3) t123 true) else (if 0 ≤ (wrap64 ((wrap64 (t121 - 3)) + t127)) then (if (Int.tmod (wrap64 ((wrap64 ((Int.tmod a1 (wrap64 ((ji14) + 1))) + (ji14))) + 1)) (wrap64 ((ji14) + 1))) > (shl .i64 1 (wrap64 ((wrap64 (t121 - 3)) + t127))) then (headroomlaw09_ScanFits.j2 kj22 y117 (Int.tmod (wrap64 ((Int.tmod a3 3) + 3)) 3) t123 true) else (if t125 > 2 then (headroomlaw09_ScanFits.j2 kj22 y117 (Int.tmod (wrap64 ((Int.tmod a3 3) + 3)) 3) t123 true) else (headroomlaw09_ScanFits.j2 kj22 y117 (Int.tmod (wrap64 ((Int.tmod a3 3) + 3)) 3) t123 (decide (t127 > 3))))) else (none))) = some r := by first | (rw [hji74] at H; exact H) | (simp only [hji74] at H ⊢; exact H)
                                    have hji74_ : (IntKind.i64.wrap (1 * 2 ^ min (ji72).toNat 64)) = ji74 := hji74
                                    have hji74z : (ji72) ≤ 64 → (IntKind.i64.wrap (1 * 2 ^ (ji72).toNat)) = ji74 := shl_small hji74
                                    have hji74u : (IntKind.i64.wrap (2 ^ min (ji72).toNat 64)) = ji74 := by have h_ := hji74_; rw [Int.one_mul] at h_; exact h_
                                    have hji74v : (ji72) ≤ 64 → (IntKind.i64.wrap (2 ^ (ji72).toNat)) = ji74 := fun hle_ => by have h_ := hji74z hle_; rw [Int.one_mul] at h_; exact h_
                                    have hji74y : (wrap64 (1 * 2 ^ min (ji72).toNat 64)) = ji74 := (i64_w _).symm.trans hji74_
                                    have hji74x : (ji72) ≤ 64 → (wrap64 (1 * 2 ^ (ji72).toNat)) = ji74 := fun h_ => (i64_w _).symm.trans (hji74z h_)
                                    by_cases c75 : (Int.tmod (wrap64 ((wrap64 ((Int.tmod a1 (wrap64 ((ji14) + 1))) + (ji14))) + 1)) (wrap64 ((ji14) + 1))) > (ji74)
                                    · rw [if_pos c75] at H
                                      have c75b0 : decide ((ji74) < (Int.tmod (wrap64 ((wrap64 ((Int.tmod a1 (wrap64 ((ji14) + 1))) + (ji14))) + 1)) (wrap64 ((ji14) + 1)))) = true := decide_eq_true c75
                                      clear c75
                                      have H' := Aside0.mk H
                                      clear H
                                      go_wp2
                                      repeat (go_quiet (fail); try go_wp2)
                                      go_meet
                                      case rel => exact ⟨_, (true), (by first | rfl | (simp; done) | (simp [*]; done)), H', ⟨by have := HJ8.out; have := HJ22.out; first | omega | exact Nat.le_refl _⟩, ⟨by repeat (first | (with_reducible first | exact HB.out | apply below_alloc | apply pw_below_drewN | apply below_drew1) | exact HB.out)⟩⟩
                                    · rw [if_neg c75] at H
                                      have c75b0 : decide ((ji74) < (Int.tmod (wrap64 ((wrap64 ((Int.tmod a1 (wrap64 ((ji14) + 1))) + (ji14))) + 1)) (wrap64 ((ji14) + 1)))) = false := decide_eq_false c75
                                      clear c75
                                      obtain ⟨ji76, hji76⟩ : ∃ j_ : Int, (wrap64 ((wrap64 (t121 - 3)) + t127)) = j_ := ⟨_, rfl⟩
                                      replace H : (if 0 ≤ (ji76) then (if (Int.tmod (wrap64 ((wrap64 ((Int.tmod a1 (wrap64 ((ji14) + 1))) + (ji14))) + 1)) (wrap64 ((ji14) + 1))) > (shl .i64 1 (ji76)) then (headroomlaw09_ScanFits.j2 kj22 y117 (Int.tmod (wrap64 ((Int.tmod a3 3) + 3)) 3) t123 true) else (if t125 > 2 then (headroomlaw09_ScanFits.j2 kj22 y117 (Int.tmod (wrap64 ((Int.tmod a3 3) + 3)) 3) t123 true) else (headroomlaw09_ScanFits.j2 kj22 y117 (Int.tmod (wrap64 ((Int.tmod a3 3) + 3)) 3) t123 (decide (t127 > 3))))) else (none)) = some r := by first | (rw [hji76] at H; exact H) | (simp only [hji76] at H ⊢; exact H)
                                      have hji76w : (IntKind.i64.wrap ((wrap64 (t121 - 3)) + t127)) = ji76 := (i64_w _).trans hji76
                                      by_cases c77 : 0 ≤ (ji76)
                                      · rw [if_pos c77] at H
                                        have c77b0 := eq_true c77
                                        have c77b1 : decide (0 ≤ (ji76)) = true := decide_eq_true c77
                                        clear c77
                                        obtain ⟨ji78, hji78⟩ : ∃ j_ : Int, (shl .i64 1 (ji76)) = j_ := ⟨_, rfl⟩
                                        replace H : (if (Int.tmod (wrap64 ((wrap64 ((Int.tmod a1 (wrap64 ((ji14) + 1))) + (ji14))) + 1)) (wrap64 ((ji14) + 1))) > (ji78) then (headroomlaw09_ScanFits.j2 kj22 y117 (Int.tmod (wrap64 ((Int.tmod a3 3) + 3)) 3) t123 true) else (if t125 > 2 then (headroomlaw09_ScanFits.j2 kj22 y117 (Int.tmod (wrap64 ((Int.tmod a3 3) + 3)) 3) t123 true) else (headroomlaw09_ScanFits.j2 kj22 y117 (Int.tmod (wrap64 ((Int.tmod a3 3) + 3)) 3) t123 (decide (t127 > 3))))) = some r := by first | (rw [hji78] at H; exact H) | (simp only [hji78] at H ⊢; exact H)
                                        have hji78_ : (IntKind.i64.wrap (1 * 2 ^ min (ji76).toNat 64)) = ji78 := hji78
                                        have hji78z : (ji76) ≤ 64 → (IntKind.i64.wrap (1 * 2 ^ (ji76).toNat)) = ji78 := shl_small hji78
                                        have hji78u : (IntKind.i64.wrap (2 ^ min (ji76).toNat 64)) = ji78 := by have h_ := hji78_; rw [Int.one_mul] at h_; exact h_
                                        have hji78v : (ji76) ≤ 64 → (IntKind.i64.wrap (2 ^ (ji76).toNat)) = ji78 := fun hle_ => by have h_ := hji78z hle_; rw [Int.one_mul] at h_; exact h_
                                        have hji78y : (wrap64 (1 * 2 ^ min (ji76).toNat 64)) = ji78 := (i64_w _).symm.trans hji78_
                                        have hji78x : (ji76) ≤ 64 → (wrap64 (1 * 2 ^ (ji76).toNat)) = ji78 := fun h_ => (i64_w _).symm.trans (hji78z h_)
                                        by_cases c79 : (Int.tmod (wrap64 ((wrap64 ((Int.tmod a1 (wrap64 ((ji14) + 1))) + (ji14))) + 1)) (wrap64 ((ji14) + 1))) > (ji78)
                                        · rw [if_pos c79] at H
                                          have c79b0 : decide ((ji78) < (Int.tmod (wrap64 ((wrap64 ((Int.tmod a1 (wrap64 ((ji14) + 1))) + (ji14))) + 1)) (wrap64 ((ji14) + 1)))) = true := decide_eq_true c79
                                          clear c79
                                          have H' := Aside0.mk H
                                          clear H
                                          go_wp2
                                          repeat (go_quiet (fail); try go_wp2)
                                          go_meet
                                          case rel => exact ⟨_, (true), (by first | rfl | (simp; done) | (simp [*]; done)), H', ⟨by have := HJ8.out; have := HJ22.out; first | omega | exact Nat.le_refl _⟩, ⟨by repeat (first | (with_reducible first | exact HB.out | apply below_alloc | apply pw_below_drewN | apply below_drew1) | exact HB.out)⟩⟩
                                        · rw [if_neg c79] at H
                                          have c79b0 : decide ((ji78) < (Int.tmod (wrap64 ((wrap64 ((Int.tmod a1 (wrap64 ((ji14) + 1))) + (ji14))) + 1)) (wrap64 ((ji14) + 1)))) = false := decide_eq_false c79
                                          clear c79
                                          by_cases c80 : t125 > 2
                                          · rw [if_pos c80] at H
                                            have c80b0 : decide (2 < t125) = true := decide_eq_true c80
                                            clear c80
                                            have H' := Aside0.mk H
                                            clear H
                                            go_wp2
                                            repeat (go_quiet (fail); try go_wp2)
                                            go_meet
                                            case rel => exact ⟨_, (true), (by first | rfl | (simp; done) | (simp [*]; done)), H', ⟨by have := HJ8.out; have := HJ22.out; first | omega | exact Nat.le_refl _⟩, ⟨by repeat (first | (with_reducible first | exact HB.out | apply below_alloc | apply pw_below_drewN | apply below_drew1) | exact HB.out)⟩⟩
                                          · rw [if_neg c80] at H
                                            have c80b0 : decide (2 < t125) = false := decide_eq_false c80
                                            clear c80
                                            have H' := Aside0.mk H
                                            clear H
                                            go_wp2
                                            repeat (go_quiet (fail); try go_wp2)
                                            go_meet
                                            case rel => exact ⟨_, (decide (t127 > 3)), (by first | rfl | (simp; done) | (simp [*]; done)), H', ⟨by have := HJ8.out; have := HJ22.out; first | omega | exact Nat.le_refl _⟩, ⟨by repeat (first | (with_reducible first | exact HB.out | apply below_alloc | apply pw_below_drewN | apply below_drew1) | exact HB.out)⟩⟩
                                      · rw [if_neg c77] at H
                                        exact absurd H (by simp)
                                  · rw [if_neg c73] at H
                                    exact absurd H (by simp)
                              · rw [if_neg c69] at H
                                exact absurd H (by simp)
                            · rw [if_neg c66] at H
                              exact absurd H (by simp)
                          · rw [if_neg c65] at H
                            have c65b0 : decide (0 < t123) = false := decide_eq_false c65
                            clear c65
                            obtain ⟨ji81, hji81⟩ : ∃ j_ : Int, (wrap64 ((wrap64 (t121 - 2)) + t125)) = j_ := ⟨_, rfl⟩
                            replace H : (if 0 ≤ (ji81) then (if (Int.tmod (wrap64 ((wrap64 ((Int.tmod a1 (wrap64 ((ji14) + 1))) + (ji14))) + 1)) (wrap64 ((ji14) + 1))) > (shl .i64 1 (ji81)) then (headroomlaw09_ScanFits.j2 kj22 y117 (Int.tmod (wrap64 ((Int.tmod a3 3) + 3)) 3) t123 true) else (if 0 ≤ (wrap64 ((wrap64 (t121 - 3)) + t127)) then (if (Int.tmod (wrap64 ((wrap64 ((Int.tmod a1 (wrap64 ((ji14) + 1))) + (ji14))) + 1)) (wrap64 ((ji14) + 1))) > (shl .i64 1 (wrap64 ((wrap64 (t121 - 3)) + t127))) then (headroomlaw09_ScanFits.j2 kj22 y117 (Int.tmod (wrap64 ((Int.tmod a3 3) + 3)) 3) t123 true) else (if t125 > 2 then (headroomlaw09_ScanFits.j2 kj22 y117 (Int.tmod (wrap64 ((Int.tmod a3 3) + 3)) 3) t123 true) else (headroomlaw09_ScanFits.j2 kj22 y117 (Int.tmod (wrap64 ((Int.tmod a3 3) + 3)) 3) t123 (decide (t127 > 3))))) else (none))) else (none)) = some r := by first | (rw [hji81] at H; exact H) | (simp only [hji81] at H ⊢; exact H)
                            have hji81w : (IntKind.i64.wrap ((wrap64 (t121 - 2)) + t125)) = ji81 := (i64_w _).trans hji81
                            by_cases c82 : 0 ≤ (ji81)
                            · rw [if_pos c82] at H
                              have c82b0 := eq_true c82
                              have c82b1 : decide (0 ≤ (ji81)) = true := decide_eq_true c82
                              clear c82
                              obtain ⟨ji83, hji83⟩ : ∃ j_ : Int, (shl .i64 1 (ji81)) = j_ := ⟨_, rfl⟩
                              replace H : (if (Int.tmod (wrap64 ((wrap64 ((Int.tmod a1 (wrap64 ((ji14) + 1))) + (ji14))) + 1)) (wrap64 ((ji14) + 1))) > (ji83) then (headroomlaw09_ScanFits.j2 kj22 y117 (Int.tmod (wrap64 ((Int.tmod a3 3) + 3)) 3) t123 true) else (if 0 ≤ (wrap64 ((wrap64 (t121 - 3)) + t127)) then (if (Int.tmod (wrap64 ((wrap64 ((Int.tmod a1 (wrap64 ((ji14) + 1))) + (ji14))) + 1)) (wrap64 ((ji14) + 1))) > (shl .i64 1 (wrap64 ((wrap64 (t121 - 3)) + t127))) then (headroomlaw09_ScanFits.j2 kj22 y117 (Int.tmod (wrap64 ((Int.tmod a3 3) + 3)) 3) t123 true) else (if t125 > 2 then (headroomlaw09_ScanFits.j2 kj22 y117 (Int.tmod (wrap64 ((Int.tmod a3 3) + 3)) 3) t123 true) else (headroomlaw09_ScanFits.j2 kj22 y117 (Int.tmod (wrap64 ((Int.tmod a3 3) + 3)) 3) t123 (decide (t127 > 3))))) else (none))) = some r := by first | (rw [hji83] at H; exact H) | (simp only [hji83] at H ⊢; exact H)
                              have hji83_ : (IntKind.i64.wrap (1 * 2 ^ min (ji81).toNat 64)) = ji83 := hji83
                              have hji83z : (ji81) ≤ 64 → (IntKind.i64.wrap (1 * 2 ^ (ji81).toNat)) = ji83 := shl_small hji83
                              have hji83u : (IntKind.i64.wrap (2 ^ min (ji81).toNat 64)) = ji83 := by have h_ := hji83_; rw [Int.one_mul] at h_; exact h_
                              have hji83v : (ji81) ≤ 64 → (IntKind.i64.wrap (2 ^ (ji81).toNat)) = ji83 := fun hle_ => by have h_ := hji83z hle_; rw [Int.one_mul] at h_; exact h_
                              have hji83y : (wrap64 (1 * 2 ^ min (ji81).toNat 64)) = ji83 := (i64_w _).symm.trans hji83_
                              have hji83x : (ji81) ≤ 64 → (wrap64 (1 * 2 ^ (ji81).toNat)) = ji83 := fun h_ => (i64_w _).symm.trans (hji83z h_)
                              by_cases c84 : (Int.tmod (wrap64 ((wrap64 ((Int.tmod a1 (wrap64 ((ji14) + 1))) + (ji14))) + 1)) (wrap64 ((ji14) + 1))) > (ji83)
                              · rw [if_pos c84] at H
                                have c84b0 : decide ((ji83) < (Int.tmod (wrap64 ((wrap64 ((Int.tmod a1 (wrap64 ((ji14) + 1))) + (ji14))) + 1)) (wrap64 ((ji14) + 1)))) = true := decide_eq_true c84
                                clear c84
                                have H' := Aside0.mk H
                                clear H
                                go_wp2
                                repeat (go_quiet (fail); try go_wp2)
                                go_meet
                                case rel => exact ⟨_, (true), (by first | rfl | (simp; done) | (simp [*]; done)), H', ⟨by have := HJ8.out; have := HJ22.out; first | omega | exact Nat.le_refl _⟩, ⟨by repeat (first | (with_reducible first | exact HB.out | apply below_alloc | apply pw_below_drewN | apply below_drew1) | exact HB.out)⟩⟩
                              · rw [if_neg c84] at H
                                have c84b0 : decide ((ji83) < (Int.tmod (wrap64 ((wrap64 ((Int.tmod a1 (wrap64 ((ji14) + 1))) + (ji14))) + 1)) (wrap64 ((ji14) + 1)))) = false := decide_eq_false c84
                                clear c84
                                obtain ⟨ji85, hji85⟩ : ∃ j_ : Int, (wrap64 ((wrap64 (t121 - 3)) + t127)) = j_ := ⟨_, rfl⟩
                                replace H : (if 0 ≤ (ji85) then (if (Int.tmod (wrap64 ((wrap64 ((Int.tmod a1 (wrap64 ((ji14) + 1))) + (ji14))) + 1)) (wrap64 ((ji14) + 1))) > (shl .i64 1 (ji85)) then (headroomlaw09_ScanFits.j2 kj22 y117 (Int.tmod (wrap64 ((Int.tmod a3 3) + 3)) 3) t123 true) else (if t125 > 2 then (headroomlaw09_ScanFits.j2 kj22 y117 (Int.tmod (wrap64 ((Int.tmod a3 3) + 3)) 3) t123 true) else (headroomlaw09_ScanFits.j2 kj22 y117 (Int.tmod (wrap64 ((Int.tmod a3 3) + 3)) 3) t123 (decide (t127 > 3))))) else (none)) = some r := by first | (rw [hji85] at H; exact H) | (simp only [hji85] at H ⊢; exact H)
                                have hji85w : (IntKind.i64.wrap ((wrap64 (t121 - 3)) + t127)) = ji85 := (i64_w _).trans hji85
                                by_cases c86 : 0 ≤ (ji85)
                                · rw [if_pos c86] at H
                                  have c86b0 := eq_true c86
                                  have c86b1 : decide (0 ≤ (ji85)) = true := decide_eq_true c86
                                  clear c86
                                  obtain ⟨ji87, hji87⟩ : ∃ j_ : Int, (shl .i64 1 (ji85)) = j_ := ⟨_, rfl⟩
                                  replace H : (if (Int.tmod (wrap64 ((wrap64 ((Int.tmod a1 (wrap64 ((ji14) + 1))) + (ji14))) + 1)) (wrap64 ((ji14) + 1))) > (ji87) then (headroomlaw09_ScanFits.j2 kj22 y117 (Int.tmod (wrap64 ((Int.tmod a3 3) + 3)) 3) t123 true) else (if t125 > 2 then (headroomlaw09_ScanFits.j2 kj22 y117 (Int.tmod (wrap64 ((Int.tmod a3 3) + 3)) 3) t123 true) else (headroomlaw09_ScanFits.j2 kj22 y117 (Int.tmod (wrap64 ((Int.tmod a3 3) + 3)) 3) t123 (decide (t127 > 3))))) = some r := by first | (rw [hji87] at H; exact H) | (simp only [hji87] at H ⊢; exact H)
                                  have hji87_ : (IntKind.i64.wrap (1 * 2 ^ min (ji85).toNat 64)) = ji87 := hji87
                                  have hji87z : (ji85) ≤ 64 → (IntKind.i64.wrap (1 * 2 ^ (ji85).toNat)) = ji87 := shl_small hji87
                                  have hji87u : (IntKind.i64.wrap (2 ^ min (ji85).toNat 64)) = ji87 := by have h_ := hji87_; rw [Int.one_mul] at h_; exact h_
                                  have hji87v : (ji85) ≤ 64 → (IntKind.i64.wrap (2 ^ (ji85).toNat)) = ji87 := fun hle_ => by have h_ := hji87z hle_; rw [Int.one_mul] at h_; exact h_
                                  have hji87y : (wrap64 (1 * 2 ^ min (ji85).toNat 64)) = ji87 := (i64_w _).symm.trans hji87_
                                  have hji87x : (ji85) ≤ 64 → (wrap64 (1 * 2 ^ (ji85).toNat)) = ji87 := fun h_ => (i64_w _).symm.trans (hji87z h_)
                                  by_cases c88 : (Int.tmod (wrap64 ((wrap64 ((Int.tmod a1 (wrap64 ((ji14) + 1))) + (ji14))) + 1)) (wrap64 ((ji14) + 1))) > (ji87)
                                  · rw [if_pos c88] at H
                                    have c88b0 : decide ((ji87) < (Int.tmod (wrap64 ((wrap64 ((Int.tmod a1 (wrap64 ((ji14) + 1))) + (ji14))) + 1)) (wrap64 ((ji14) + 1)))) = true := decide_eq_true c88
                                    clear c88
                                    have H' := Aside0.mk H
                                    clear H
                                    go_wp2
                                    repeat (go_quiet (fail); try go_wp2)
                                    go_meet
                                    case rel => exact ⟨_, (true), (by first | rfl | (simp; done) | (simp [*]; done)), H', ⟨by have := HJ8.out; have := HJ22.out; first | omega | exact Nat.le_refl _⟩, ⟨by repeat (first | (with_reducible first | exact HB.out | apply below_alloc | apply pw_below_drewN | apply below_drew1) | exact HB.out)⟩⟩
                                  · rw [if_neg c88] at H
                                    have c88b0 : decide ((ji87) < (Int.tmod (wrap64 ((wrap64 ((Int.tmod a1 (wrap64 ((ji14) + 1))) + (ji14))) + 1)) (wrap64 ((ji14) + 1)))) = false := decide_eq_false c88
                                    clear c88
                                    by_cases c89 : t125 > 2
                                    · rw [if_pos c89] at H
                                      have c89b0 : decide (2 < t125) = true := decide_eq_true c89
                                      clear c89
                                      have H' := Aside0.mk H
                                      clear H
                                      go_wp2
                                      repeat (go_quiet (fail); try go_wp2)
                                      go_meet
                                      case rel => exact ⟨_, (true), (by first | rfl | (simp; done) | (simp [*]; done)), H', ⟨by have := HJ8.out; have := HJ22.out; first | omega | exact Nat.le_refl _⟩, ⟨by repeat (first | (with_reducible first | exact HB.out | apply below_alloc | apply pw_below_drewN | apply below_drew1) | exact HB.out)⟩⟩
                                    · rw [if_neg c89] at H
                                      have c89b0 : decide (2 < t125) = false := decide_eq_false c89
                                      clear c89
                                      have H' := Aside0.mk H
                                      clear H
                                      go_wp2
                                      repeat (go_quiet (fail); try go_wp2)
                                      go_meet
                                      case rel => exact ⟨_, (decide (t127 > 3)), (by first | rfl | (simp; done) | (simp [*]; done)), H', ⟨by have := HJ8.out; have := HJ22.out; first | omega | exact Nat.le_refl _⟩, ⟨by repeat (first | (with_reducible first | exact HB.out | apply below_alloc | apply pw_below_drewN | apply below_drew1) | exact HB.out)⟩⟩
                                · rw [if_neg c86] at H
                                  exact absurd H (by simp)
                            · rw [if_neg c82] at H
                              exact absurd H (by simp)
                      case rest =>
                        as_aux_lemma =>
                        clear HC32
                        try clear c1
                        try clear q1
                        try clear c2
                        try clear p2
                        try clear c3
                        try clear c4
                        try clear c5
                        try clear c6
                        try clear c6b0
                        try clear c6b1
                        try clear p6
                        try clear c7
                        try clear c7b0
                        try clear c7b1
                        try clear c8
                        try clear q10
                        try clear c11
                        try clear c11b0
                        try clear c11b1
                        try clear c12
                        try clear c13
                        try clear c13b0
                        try clear c13b1
                        try clear c15
                        try clear c15b0
                        try clear c15b1
                        try clear c16
                        try clear c16b0
                        try clear c17
                        try clear c17b0
                        try clear c18
                        try clear c18b0
                        try clear c19
                        try clear c19b0
                        try clear c26
                        try clear c26b0
                        try clear c26b1
                        try clear c27
                        try clear c27b0
                        try clear c27b1
                        try clear c28
                        try clear c28b0
                        try clear c28b1
                        try clear c31
                        try clear c33
                        try clear c33b0
                        try clear c34
                        try clear c34b0
                        try clear c34b1
                        try clear c37
                        try clear c37b0
                        try clear c37b1
                        try clear c39
                        try clear c39b0
                        try clear c40
                        try clear c40b0
                        try clear c41
                        try clear c41b0
                        try clear c42
                        try clear c42b0
                        try clear c44
                        try clear c44b0
                        try clear c44b1
                        try clear c46
                        try clear c46b0
                        try clear c48
                        try clear c48b0
                        try clear c48b1
                        try clear c50
                        try clear c50b0
                        try clear c52
                        try clear c52b0
                        try clear c52b1
                        try clear c54
                        try clear c54b0
                        try clear c55
                        try clear c55b0
                        try clear c57
                        try clear c57b0
                        try clear c57b1
                        try clear c59
                        try clear c59b0
                        try clear c61
                        try clear c61b0
                        try clear c61b1
                        try clear c63
                        try clear c63b0
                        try clear c64
                        try clear c64b0
                        try clear p64
                        try clear c65
                        try clear c65b0
                        try clear c66
                        try clear c66b0
                        try clear c66b1
                        try clear c69
                        try clear c69b0
                        try clear c69b1
                        try clear c71
                        try clear c71b0
                        try clear c73
                        try clear c73b0
                        try clear c73b1
                        try clear c75
                        try clear c75b0
                        try clear c77
                        try clear c77b0
                        try clear c77b1
                        try clear c79
                        try clear c79b0
                        try clear c80
                        try clear c80b0
                        try clear c82
                        try clear c82b0
                        try clear c82b1
                        try clear c84
                        try clear c84b0
                        try clear c86
                        try clear c86b0
                        try clear c86b1
                        try clear c88
                        try clear c88b0
                        try clear c89
                        try clear c89b0
                        try clear p2
                        try clear p6
                        try clear q1
                        try clear q10
                        obtain ⟨kq, x139_31, rfl, HA, HJ31, HB⟩ := hcut
                        cases kq with
                        | zero => exact absurd HA.out (by simp [headroomlaw09_ScanFits.j2])
                        | succ kj31 =>
                          have H := HA.out
                          clear HA
                          simp only [headroomlaw09_ScanFits.j2] at H
                          by_cases c90 : x139_31 = true
                          · subst c90
                            have H1 : (some false) = some r := by rw [if_pos rfl] at H; exact H
                            clear H
                            have H := H1
                            clear H1
                            obtain rfl := Option.some.inj H
                            go_wp2
                            repeat (go_quiet (fail); try go_wp2)
                            go_ret
                            exact ⟨by first | rfl | (simp [errW_none, errW_some] <;> rfl) | (simp only [← hji5, ← hji14]; first | rfl | (simp [errW_none, errW_some] <;> rfl)) | (simp [*, errW_none, errW_some] <;> rfl), by repeat (first | (with_reducible first | exact HB.out | apply below_alloc | apply pw_below_drewN | apply below_drew1) | exact HB.out)⟩
                          · replace c90 := Bool.eq_false_iff.mpr c90
                            subst c90
                            have H1 : ((scan_Shifted.f y117 (wrap64 (-t123)) (Int.tmod (wrap64 ((Int.tmod a3 3) + 3)) 3)).bind fun bt130 => (if bt130.2 = 0 then ((scan_Shifted.f bt130.1 t123 (Int.tmod (wrap64 ((Int.tmod a3 3) + 3)) 3)).bind fun bt134 => (if bt134.2 = 0 then ((headroomref03_Same.f kj31 bt134.1 y117).bind fun t138 => (some t138)) else (some false))) else (if bt130.2 = 2 then (some ((bt130.1.length : Int) == 0)) else (some false)))) = some r := by rw [if_neg (show ¬ (false = true) by decide)] at H; exact H
                            clear H
                            have H := H1
                            clear H1
                            replace H := Option.bind_eq_some_iff.mp H
                            obtain ⟨⟨t130, t131⟩, A910, H⟩ := H
                            replace H : (if t131 = 0 then ((scan_Shifted.f t130 t123 (Int.tmod (wrap64 ((Int.tmod a3 3) + 3)) 3)).bind fun bt134 => (if bt134.2 = 0 then ((headroomref03_Same.f kj31 bt134.1 y117).bind fun t138 => (some t138)) else (some false))) else (if t131 = 2 then (some ((t130.length : Int) == 0)) else (some false))) = some r := H
                            have A91 := Aside0.mk A910
                            clear A910
                            by_cases c92 : t131 = 0
                            · rw [if_pos c92] at H
                              have c92b0 : (t131 == 0) = true := beq_iff_eq.mpr c92
                              have c92b1 : (t131 != 0) = false := bne_eq_false_iff_eq.mpr c92
                              clear c92
                              replace H := Option.bind_eq_some_iff.mp H
                              obtain ⟨⟨t134, t135⟩, A930, H⟩ := H
                              replace H : (if t135 = 0 then ((headroomref03_Same.f kj31 t134 y117).bind fun t138 => (some t138)) else (some false)) = some r := H
                              have A93 := Aside0.mk A930
                              clear A930
                              by_cases c94 : t135 = 0
                              · rw [if_pos c94] at H
                                have c94b0 : (t135 == 0) = true := beq_iff_eq.mpr c94
                                have c94b1 : (t135 != 0) = false := bne_eq_false_iff_eq.mpr c94
                                clear c94
                                replace H := Option.bind_eq_some_iff.mp H
                                obtain ⟨t138, A950, H⟩ := H
                                replace H : (some t138) = some r := H
                                have A95 := Aside0.mk A950
                                clear A950
                                obtain rfl := Option.some.inj H
                                go_wp2_with (first | (go_at_call 34; (with_reducible refine (scan_Shifted.calls _ _ y117 (wrap64 (-t123)) (Int.tmod (wrap64 ((Int.tmod a3 3) + 3)) 3) t130 t131 _ ?side1 ?side2 A91.out).mono ?_); (case side1 => repeat (first | exact (Kd.C_below HR120.out HB.out) | (with_reducible refine Kd.C_alloc ?_ _) | (with_reducible refine Kd.C_drewN ?_ _) | (with_reducible refine Kd.C_drew ?_))); (case side2 => exact HC120.out); rintro e w96 ⟨v132, rfl, ho0, hb⟩; have n0_ := Aside0.mk (Kd.R_lower ho0 (below_size (by repeat (first | (with_reducible first | exact HB.out | apply below_alloc | apply pw_below_drewN | apply below_drew1) | exact HB.out)))); have n1_ := Aside0.mk (below_step (by repeat (first | (with_reducible first | exact HB.out | apply below_alloc | apply pw_below_drewN | apply below_drew1) | exact HB.out)) hb); clear HB; have HO133 := n0_; have HB := n1_; clear n0_ n1_; (try clear hb); (try clear hb2); (try clear hk); (try clear hi); (try clear ho0); obtain ⟨Ao97, co97, eo97⟩ := Kd.R_slice HO133.out; subst eo97) | (go_at_call 34; (with_reducible refine (scan_Shifted.calls _ _ t130 t123 (Int.tmod (wrap64 ((Int.tmod a3 3) + 3)) 3) t134 t135 _ ?side1 ?side2 A93.out).mono ?_); (case side1 => repeat (first | exact (Kd.R_reads' HO133.out).2.2 | (with_reducible refine Kd.C_alloc ?_ _) | (with_reducible refine Kd.C_drewN ?_ _) | (with_reducible refine Kd.C_drew ?_))); (case side2 => exact (Kd.R_reads' HO133.out).2.1); rintro e w98 ⟨v136, rfl, ho0, hb⟩; have n0_ := Aside0.mk (Kd.R_elder' (by (with_reducible repeat (first | apply Kd.R_alloc | apply Kd.R_drewN | apply Kd.R_drew)); exact HO133.out) (Kd.R_base ho0) hb); have n1_ := Aside0.mk (Kd.R_lower (Kd.R_new' ho0 (Kd.R_lt (by (with_reducible repeat (first | apply Kd.R_alloc | apply Kd.R_drewN | apply Kd.R_drew)); exact HO133.out))) (below_size (by repeat (first | (with_reducible first | exact HB.out | apply below_alloc | apply pw_below_drewN | apply below_drew1) | exact HB.out)))); have n2_ := Aside0.mk (below_step (by repeat (first | (with_reducible first | exact HB.out | apply below_alloc | apply pw_below_drewN | apply below_drew1) | exact HB.out)) hb); clear HO133; clear HB; have HO133 := n0_; have HO137 := n1_; have HB := n2_; clear n0_ n1_ n2_; (try clear hb); (try clear hb2); (try clear hk); (try clear hi); (try clear ho0); obtain ⟨Ao99, co99, eo99⟩ := Kd.R_slice HO137.out; subst eo99) | (go_at_call 36; (with_reducible refine (headroomref03_Same.calls kj31 _ _ t134 _ _ y117 t138 _ ?side1 ?side2 ?side3 ?side4 A95.out).mono ?_); (case side1 => repeat (first | exact (Kd.R_reads' HO137.out).2.2 | (with_reducible refine Kd.C_alloc ?_ _) | (with_reducible refine Kd.C_drewN ?_ _) | (with_reducible refine Kd.C_drew ?_))); (case side2 => exact (Kd.R_reads' HO137.out).2.1); (case side3 => repeat (first | exact (Kd.C_below HR120.out HB.out) | (with_reducible refine Kd.C_alloc ?_ _) | (with_reducible refine Kd.C_drewN ?_ _) | (with_reducible refine Kd.C_drew ?_))); (case side4 => exact HC120.out); rintro e w' ⟨rfl, ⟨nd, rfl⟩⟩; (try first | exact ⟨rfl, _, World.drewN_drewN _ _ _⟩ | exact ⟨rfl, _, Eq.trans (World.drewN_drewN _ _ _) (congrArg (World.drewN _) (Nat.add_assoc _ _ _))⟩)))
                                repeat (go_quiet (first | (go_at_call 34; (with_reducible refine (scan_Shifted.calls _ _ y117 (wrap64 (-t123)) (Int.tmod (wrap64 ((Int.tmod a3 3) + 3)) 3) t130 t131 _ ?side1 ?side2 A91.out).mono ?_); (case side1 => repeat (first | exact (Kd.C_below HR120.out HB.out) | (with_reducible refine Kd.C_alloc ?_ _) | (with_reducible refine Kd.C_drewN ?_ _) | (with_reducible refine Kd.C_drew ?_))); (case side2 => exact HC120.out); rintro e w96 ⟨v132, rfl, ho0, hb⟩; have n0_ := Aside0.mk (Kd.R_lower ho0 (below_size (by repeat (first | (with_reducible first | exact HB.out | apply below_alloc | apply pw_below_drewN | apply below_drew1) | exact HB.out)))); have n1_ := Aside0.mk (below_step (by repeat (first | (with_reducible first | exact HB.out | apply below_alloc | apply pw_below_drewN | apply below_drew1) | exact HB.out)) hb); clear HB; have HO133 := n0_; have HB := n1_; clear n0_ n1_; (try clear hb); (try clear hb2); (try clear hk); (try clear hi); (try clear ho0); obtain ⟨Ao97, co97, eo97⟩ := Kd.R_slice HO133.out; subst eo97) | (go_at_call 34; (with_reducible refine (scan_Shifted.calls _ _ t130 t123 (Int.tmod (wrap64 ((Int.tmod a3 3) + 3)) 3) t134 t135 _ ?side1 ?side2 A93.out).mono ?_); (case side1 => repeat (first | exact (Kd.R_reads' HO133.out).2.2 | (with_reducible refine Kd.C_alloc ?_ _) | (with_reducible refine Kd.C_drewN ?_ _) | (with_reducible refine Kd.C_drew ?_))); (case side2 => exact (Kd.R_reads' HO133.out).2.1); rintro e w98 ⟨v136, rfl, ho0, hb⟩; have n0_ := Aside0.mk (Kd.R_elder' (by (with_reducible repeat (first | apply Kd.R_alloc | apply Kd.R_drewN | apply Kd.R_drew)); exact HO133.out) (Kd.R_base ho0) hb); have n1_ := Aside0.mk (Kd.R_lower (Kd.R_new' ho0 (Kd.R_lt (by (with_reducible repeat (first | apply Kd.R_alloc | apply Kd.R_drewN | apply Kd.R_drew)); exact HO133.out))) (below_size (by repeat (first | (with_reducible first | exact HB.out | apply below_alloc | apply pw_below_drewN | apply below_drew1) | exact HB.out)))); have n2_ := Aside0.mk (below_step (by repeat (first | (with_reducible first | exact HB.out | apply below_alloc | apply pw_below_drewN | apply below_drew1) | exact HB.out)) hb); clear HO133; clear HB; have HO133 := n0_; have HO137 := n1_; have HB := n2_; clear n0_ n1_ n2_; (try clear hb); (try clear hb2); (try clear hk); (try clear hi); (try clear ho0); obtain ⟨Ao99, co99, eo99⟩ := Kd.R_slice HO137.out; subst eo99) | (go_at_call 36; (with_reducible refine (headroomref03_Same.calls kj31 _ _ t134 _ _ y117 t138 _ ?side1 ?side2 ?side3 ?side4 A95.out).mono ?_); (case side1 => repeat (first | exact (Kd.R_reads' HO137.out).2.2 | (with_reducible refine Kd.C_alloc ?_ _) | (with_reducible refine Kd.C_drewN ?_ _) | (with_reducible refine Kd.C_drew ?_))); (case side2 => exact (Kd.R_reads' HO137.out).2.1); (case side3 => repeat (first | exact (Kd.C_below HR120.out HB.out) | (with_reducible refine Kd.C_alloc ?_ _) | (with_reducible refine Kd.C_drewN ?_ _) | (with_reducible refine Kd.C_drew ?_))); (case side4 => exact HC120.out); rintro e w' ⟨rfl, ⟨nd, rfl⟩⟩; (try first | exact ⟨rfl, _, World.drewN_drewN _ _ _⟩ | exact ⟨rfl, _, Eq.trans (World.drewN_drewN _ _ _) (congrArg (World.drewN _) (Nat.add_assoc _ _ _))⟩))); try go_wp2_with (first | (go_at_call 34; (with_reducible refine (scan_Shifted.calls _ _ y117 (wrap64 (-t123)) (Int.tmod (wrap64 ((Int.tmod a3 3) + 3)) 3) t130 t131 _ ?side1 ?side2 A91.out).mono ?_); (case side1 => repeat (first | exact (Kd.C_below HR120.out HB.out) | (with_reducible refine Kd.C_alloc ?_ _) | (with_reducible refine Kd.C_drewN ?_ _) | (with_reducible refine Kd.C_drew ?_))); (case side2 => exact HC120.out); rintro e w96 ⟨v132, rfl, ho0, hb⟩; have n0_ := Aside0.mk (Kd.R_lower ho0 (below_size (by repeat (first | (with_reducible first | exact HB.out | apply below_alloc | apply pw_below_drewN | apply below_drew1) | exact HB.out)))); have n1_ := Aside0.mk (below_step (by repeat (first | (with_reducible first | exact HB.out | apply below_alloc | apply pw_below_drewN | apply below_drew1) | exact HB.out)) hb); clear HB; have HO133 := n0_; have HB := n1_; clear n0_ n1_; (try clear hb); (try clear hb2); (try clear hk); (try clear hi); (try clear ho0); obtain ⟨Ao97, co97, eo97⟩ := Kd.R_slice HO133.out; subst eo97) | (go_at_call 34; (with_reducible refine (scan_Shifted.calls _ _ t130 t123 (Int.tmod (wrap64 ((Int.tmod a3 3) + 3)) 3) t134 t135 _ ?side1 ?side2 A93.out).mono ?_); (case side1 => repeat (first | exact (Kd.R_reads' HO133.out).2.2 | (with_reducible refine Kd.C_alloc ?_ _) | (with_reducible refine Kd.C_drewN ?_ _) | (with_reducible refine Kd.C_drew ?_))); (case side2 => exact (Kd.R_reads' HO133.out).2.1); rintro e w98 ⟨v136, rfl, ho0, hb⟩; have n0_ := Aside0.mk (Kd.R_elder' (by (with_reducible repeat (first | apply Kd.R_alloc | apply Kd.R_drewN | apply Kd.R_drew)); exact HO133.out) (Kd.R_base ho0) hb); have n1_ := Aside0.mk (Kd.R_lower (Kd.R_new' ho0 (Kd.R_lt (by (with_reducible repeat (first | apply Kd.R_alloc | apply Kd.R_drewN | apply Kd.R_drew)); exact HO133.out))) (below_size (by repeat (first | (with_reducible first | exact HB.out | apply below_alloc | apply pw_below_drewN | apply below_drew1) | exact HB.out)))); have n2_ := Aside0.mk (below_step (by repeat (first | (with_reducible first | exact HB.out | apply below_alloc | apply pw_below_drewN | apply below_drew1) | exact HB.out)) hb); clear HO133; clear HB; have HO133 := n0_; have HO137 := n1_; have HB := n2_; clear n0_ n1_ n2_; (try clear hb); (try clear hb2); (try clear hk); (try clear hi); (try clear ho0); obtain ⟨Ao99, co99, eo99⟩ := Kd.R_slice HO137.out; subst eo99) | (go_at_call 36; (with_reducible refine (headroomref03_Same.calls kj31 _ _ t134 _ _ y117 t138 _ ?side1 ?side2 ?side3 ?side4 A95.out).mono ?_); (case side1 => repeat (first | exact (Kd.R_reads' HO137.out).2.2 | (with_reducible refine Kd.C_alloc ?_ _) | (with_reducible refine Kd.C_drewN ?_ _) | (with_reducible refine Kd.C_drew ?_))); (case side2 => exact (Kd.R_reads' HO137.out).2.1); (case side3 => repeat (first | exact (Kd.C_below HR120.out HB.out) | (with_reducible refine Kd.C_alloc ?_ _) | (with_reducible refine Kd.C_drewN ?_ _) | (with_reducible refine Kd.C_drew ?_))); (case side4 => exact HC120.out); rintro e w' ⟨rfl, ⟨nd, rfl⟩⟩; (try first | exact ⟨rfl, _, World.drewN_drewN _ _ _⟩ | exact ⟨rfl, _, Eq.trans (World.drewN_drewN _ _ _) (congrArg (World.drewN _) (Nat.add_assoc _ _ _))⟩))))
                                go_ret
                                exact ⟨by first | rfl | (simp [errW_none, errW_some] <;> rfl) | (simp only [← hji5, ← hji14]; first | rfl | (simp [errW_none, errW_some] <;> rfl)) | (simp [*, errW_none, errW_some] <;> rfl), by repeat (first | (with_reducible first | exact HB.out | apply below_alloc | apply pw_below_drewN | apply below_drew1) | exact HB.out)⟩
                              · rw [if_neg c94] at H
                                have c94b0 : (t135 == 0) = false := beq_eq_false_iff_ne.mpr c94
                                have c94b1 : (t135 != 0) = true := bne_iff_ne.mpr c94
                                obtain rfl := Option.some.inj H
                                go_wp2_with (first | (go_at_call 34; (with_reducible refine (scan_Shifted.calls _ _ y117 (wrap64 (-t123)) (Int.tmod (wrap64 ((Int.tmod a3 3) + 3)) 3) t130 t131 _ ?side1 ?side2 A91.out).mono ?_); (case side1 => repeat (first | exact (Kd.C_below HR120.out HB.out) | (with_reducible refine Kd.C_alloc ?_ _) | (with_reducible refine Kd.C_drewN ?_ _) | (with_reducible refine Kd.C_drew ?_))); (case side2 => exact HC120.out); rintro e w100 ⟨v132, rfl, ho0, hb⟩; have n0_ := Aside0.mk (Kd.R_lower ho0 (below_size (by repeat (first | (with_reducible first | exact HB.out | apply below_alloc | apply pw_below_drewN | apply below_drew1) | exact HB.out)))); have n1_ := Aside0.mk (below_step (by repeat (first | (with_reducible first | exact HB.out | apply below_alloc | apply pw_below_drewN | apply below_drew1) | exact HB.out)) hb); clear HB; have HO133 := n0_; have HB := n1_; clear n0_ n1_; (try clear hb); (try clear hb2); (try clear hk); (try clear hi); (try clear ho0); obtain ⟨Ao101, co101, eo101⟩ := Kd.R_slice HO133.out; subst eo101) | (go_at_call 34; (with_reducible refine (scan_Shifted.calls _ _ t130 t123 (Int.tmod (wrap64 ((Int.tmod a3 3) + 3)) 3) t134 t135 _ ?side1 ?side2 A93.out).mono ?_); (case side1 => repeat (first | exact (Kd.R_reads' HO133.out).2.2 | (with_reducible refine Kd.C_alloc ?_ _) | (with_reducible refine Kd.C_drewN ?_ _) | (with_reducible refine Kd.C_drew ?_))); (case side2 => exact (Kd.R_reads' HO133.out).2.1); rintro e w102 ⟨v136, rfl, ho0, hb⟩; have n0_ := Aside0.mk (Kd.R_elder' (by (with_reducible repeat (first | apply Kd.R_alloc | apply Kd.R_drewN | apply Kd.R_drew)); exact HO133.out) (Kd.R_base ho0) hb); have n1_ := Aside0.mk (Kd.R_lower (Kd.R_new' ho0 (Kd.R_lt (by (with_reducible repeat (first | apply Kd.R_alloc | apply Kd.R_drewN | apply Kd.R_drew)); exact HO133.out))) (below_size (by repeat (first | (with_reducible first | exact HB.out | apply below_alloc | apply pw_below_drewN | apply below_drew1) | exact HB.out)))); have n2_ := Aside0.mk (below_step (by repeat (first | (with_reducible first | exact HB.out | apply below_alloc | apply pw_below_drewN | apply below_drew1) | exact HB.out)) hb); clear HO133; clear HB; have HO133 := n0_; have HO137 := n1_; have HB := n2_; clear n0_ n1_ n2_; (try clear hb); (try clear hb2); (try clear hk); (try clear hi); (try clear ho0)))
                                repeat (go_quiet (first | (go_at_call 34; (with_reducible refine (scan_Shifted.calls _ _ y117 (wrap64 (-t123)) (Int.tmod (wrap64 ((Int.tmod a3 3) + 3)) 3) t130 t131 _ ?side1 ?side2 A91.out).mono ?_); (case side1 => repeat (first | exact (Kd.C_below HR120.out HB.out) | (with_reducible refine Kd.C_alloc ?_ _) | (with_reducible refine Kd.C_drewN ?_ _) | (with_reducible refine Kd.C_drew ?_))); (case side2 => exact HC120.out); rintro e w100 ⟨v132, rfl, ho0, hb⟩; have n0_ := Aside0.mk (Kd.R_lower ho0 (below_size (by repeat (first | (with_reducible first | exact HB.out | apply below_alloc | apply pw_below_drewN | apply below_drew1) | exact HB.out)))); have n1_ := Aside0.mk (below_step (by repeat (first | (with_reducible first | exact HB.out | apply below_alloc | apply pw_below_drewN | apply below_drew1) | exact HB.out)) hb); clear HB; have HO133 := n0_; have HB := n1_; clear n0_ n1_; (try clear hb); (try clear hb2); (try clear hk); (try clear hi); (try clear ho0); obtain ⟨Ao101, co101, eo101⟩ := Kd.R_slice HO133.out; subst eo101) | (go_at_call 34; (with_reducible refine (scan_Shifted.calls _ _ t130 t123 (Int.tmod (wrap64 ((Int.tmod a3 3) + 3)) 3) t134 t135 _ ?side1 ?side2 A93.out).mono ?_); (case side1 => repeat (first | exact (Kd.R_reads' HO133.out).2.2 | (with_reducible refine Kd.C_alloc ?_ _) | (with_reducible refine Kd.C_drewN ?_ _) | (with_reducible refine Kd.C_drew ?_))); (case side2 => exact (Kd.R_reads' HO133.out).2.1); rintro e w102 ⟨v136, rfl, ho0, hb⟩; have n0_ := Aside0.mk (Kd.R_elder' (by (with_reducible repeat (first | apply Kd.R_alloc | apply Kd.R_drewN | apply Kd.R_drew)); exact HO133.out) (Kd.R_base ho0) hb); have n1_ := Aside0.mk (Kd.R_lower (Kd.R_new' ho0 (Kd.R_lt (by (with_reducible repeat (first | apply Kd.R_alloc | apply Kd.R_drewN | apply Kd.R_drew)); exact HO133.out))) (below_size (by repeat (first | (with_reducible first | exact HB.out | apply below_alloc | apply pw_below_drewN | apply below_drew1) | exact HB.out)))); have n2_ := Aside0.mk (below_step (by repeat (first | (with_reducible first | exact HB.out | apply below_alloc | apply pw_below_drewN | apply below_drew1) | exact HB.out)) hb); clear HO133; clear HB; have HO133 := n0_; have HO137 := n1_; have HB := n2_; clear n0_ n1_ n2_; (try clear hb); (try clear hb2); (try clear hk); (try clear hi); (try clear ho0))); try go_wp2_with (first | (go_at_call 34; (with_reducible refine (scan_Shifted.calls _ _ y117 (wrap64 (-t123)) (Int.tmod (wrap64 ((Int.tmod a3 3) + 3)) 3) t130 t131 _ ?side1 ?side2 A91.out).mono ?_); (case side1 => repeat (first | exact (Kd.C_below HR120.out HB.out) | (with_reducible refine Kd.C_alloc ?_ _) | (with_reducible refine Kd.C_drewN ?_ _) | (with_reducible refine Kd.C_drew ?_))); (case side2 => exact HC120.out); rintro e w100 ⟨v132, rfl, ho0, hb⟩; have n0_ := Aside0.mk (Kd.R_lower ho0 (below_size (by repeat (first | (with_reducible first | exact HB.out | apply below_alloc | apply pw_below_drewN | apply below_drew1) | exact HB.out)))); have n1_ := Aside0.mk (below_step (by repeat (first | (with_reducible first | exact HB.out | apply below_alloc | apply pw_below_drewN | apply below_drew1) | exact HB.out)) hb); clear HB; have HO133 := n0_; have HB := n1_; clear n0_ n1_; (try clear hb); (try clear hb2); (try clear hk); (try clear hi); (try clear ho0); obtain ⟨Ao101, co101, eo101⟩ := Kd.R_slice HO133.out; subst eo101) | (go_at_call 34; (with_reducible refine (scan_Shifted.calls _ _ t130 t123 (Int.tmod (wrap64 ((Int.tmod a3 3) + 3)) 3) t134 t135 _ ?side1 ?side2 A93.out).mono ?_); (case side1 => repeat (first | exact (Kd.R_reads' HO133.out).2.2 | (with_reducible refine Kd.C_alloc ?_ _) | (with_reducible refine Kd.C_drewN ?_ _) | (with_reducible refine Kd.C_drew ?_))); (case side2 => exact (Kd.R_reads' HO133.out).2.1); rintro e w102 ⟨v136, rfl, ho0, hb⟩; have n0_ := Aside0.mk (Kd.R_elder' (by (with_reducible repeat (first | apply Kd.R_alloc | apply Kd.R_drewN | apply Kd.R_drew)); exact HO133.out) (Kd.R_base ho0) hb); have n1_ := Aside0.mk (Kd.R_lower (Kd.R_new' ho0 (Kd.R_lt (by (with_reducible repeat (first | apply Kd.R_alloc | apply Kd.R_drewN | apply Kd.R_drew)); exact HO133.out))) (below_size (by repeat (first | (with_reducible first | exact HB.out | apply below_alloc | apply pw_below_drewN | apply below_drew1) | exact HB.out)))); have n2_ := Aside0.mk (below_step (by repeat (first | (with_reducible first | exact HB.out | apply below_alloc | apply pw_below_drewN | apply below_drew1) | exact HB.out)) hb); clear HO133; clear HB; have HO133 := n0_; have HO137 := n1_; have HB := n2_; clear n0_ n1_ n2_; (try clear hb); (try clear hb2); (try clear hk); (try clear hi); (try clear ho0))))
                                go_ret
                                exact ⟨by first | rfl | (simp [errW_none, errW_some] <;> rfl) | (simp only [← hji5, ← hji14]; first | rfl | (simp [errW_none, errW_some] <;> rfl)) | (simp [*, errW_none, errW_some] <;> rfl), by repeat (first | (with_reducible first | exact HB.out | apply below_alloc | apply pw_below_drewN | apply below_drew1) | exact HB.out)⟩
                            · rw [if_neg c92] at H
                              have c92b0 : (t131 == 0) = false := beq_eq_false_iff_ne.mpr c92
                              have c92b1 : (t131 != 0) = true := bne_iff_ne.mpr c92
                              by_cases c103 : t131 = 2
                              · rw [if_pos c103] at H
                                have c103b0 : (t131 == 2) = true := beq_iff_eq.mpr c103
                                have c103b1 : (t131 != 2) = false := bne_eq_false_iff_eq.mpr c103
                                clear c103
                                obtain rfl := Option.some.inj H
                                go_wp2_with (first | (go_at_call 34; (with_reducible refine (scan_Shifted.calls _ _ y117 (wrap64 (-t123)) (Int.tmod (wrap64 ((Int.tmod a3 3) + 3)) 3) t130 t131 _ ?side1 ?side2 A91.out).mono ?_); (case side1 => repeat (first | exact (Kd.C_below HR120.out HB.out) | (with_reducible refine Kd.C_alloc ?_ _) | (with_reducible refine Kd.C_drewN ?_ _) | (with_reducible refine Kd.C_drew ?_))); (case side2 => exact HC120.out); rintro e w104 ⟨v132, rfl, ho0, hb⟩; have n0_ := Aside0.mk (Kd.R_lower ho0 (below_size (by repeat (first | (with_reducible first | exact HB.out | apply below_alloc | apply pw_below_drewN | apply below_drew1) | exact HB.out)))); have n1_ := Aside0.mk (below_step (by repeat (first | (with_reducible first | exact HB.out | apply below_alloc | apply pw_below_drewN | apply below_drew1) | exact HB.out)) hb); clear HB; have HO133 := n0_; have HB := n1_; clear n0_ n1_; (try clear hb); (try clear hb2); (try clear hk); (try clear hi); (try clear ho0); obtain ⟨Ao105, co105, eo105⟩ := Kd.R_slice HO133.out; subst eo105))
                                repeat (go_quiet (first | (go_at_call 34; (with_reducible refine (scan_Shifted.calls _ _ y117 (wrap64 (-t123)) (Int.tmod (wrap64 ((Int.tmod a3 3) + 3)) 3) t130 t131 _ ?side1 ?side2 A91.out).mono ?_); (case side1 => repeat (first | exact (Kd.C_below HR120.out HB.out) | (with_reducible refine Kd.C_alloc ?_ _) | (with_reducible refine Kd.C_drewN ?_ _) | (with_reducible refine Kd.C_drew ?_))); (case side2 => exact HC120.out); rintro e w104 ⟨v132, rfl, ho0, hb⟩; have n0_ := Aside0.mk (Kd.R_lower ho0 (below_size (by repeat (first | (with_reducible first | exact HB.out | apply below_alloc | apply pw_below_drewN | apply below_drew1) | exact HB.out)))); have n1_ := Aside0.mk (below_step (by repeat (first | (with_reducible first | exact HB.out | apply below_alloc | apply pw_below_drewN | apply below_drew1) | exact HB.out)) hb); clear HB; have HO133 := n0_; have HB := n1_; clear n0_ n1_; (try clear hb); (try clear hb2); (try clear hk); (try clear hi); (try clear ho0); obtain ⟨Ao105, co105, eo105⟩ := Kd.R_slice HO133.out; subst eo105)); try go_wp2_with (first | (go_at_call 34; (with_reducible refine (scan_Shifted.calls _ _ y117 (wrap64 (-t123)) (Int.tmod (wrap64 ((Int.tmod a3 3) + 3)) 3) t130 t131 _ ?side1 ?side2 A91.out).mono ?_); (case side1 => repeat (first | exact (Kd.C_below HR120.out HB.out) | (with_reducible refine Kd.C_alloc ?_ _) | (with_reducible refine Kd.C_drewN ?_ _) | (with_reducible refine Kd.C_drew ?_))); (case side2 => exact HC120.out); rintro e w104 ⟨v132, rfl, ho0, hb⟩; have n0_ := Aside0.mk (Kd.R_lower ho0 (below_size (by repeat (first | (with_reducible first | exact HB.out | apply below_alloc | apply pw_below_drewN | apply below_drew1) | exact HB.out)))); have n1_ := Aside0.mk (below_step (by repeat (first | (with_reducible first | exact HB.out | apply below_alloc | apply pw_below_drewN | apply below_drew1) | exact HB.out)) hb); clear HB; have HO133 := n0_; have HB := n1_; clear n0_ n1_; (try clear hb); (try clear hb2); (try clear hk); (try clear hi); (try clear ho0); obtain ⟨Ao105, co105, eo105⟩ := Kd.R_slice HO133.out; subst eo105)))
                                go_ret
                                exact ⟨by first | rfl | (simp [errW_none, errW_some] <;> rfl) | (simp only [← hji5, ← hji14]; first | rfl | (simp [errW_none, errW_some] <;> rfl)) | (simp [*, errW_none, errW_some] <;> rfl), by repeat (first | (with_reducible first | exact HB.out | apply below_alloc | apply pw_below_drewN | apply below_drew1) | exact HB.out)⟩
                              · rw [if_neg c103] at H
                                have c103b0 : (t131 == 2) = false := beq_eq_false_iff_ne.mpr c103
                                have c103b1 : (t131 != 2) = true := bne_iff_ne.mpr c103
                                obtain rfl := Option.some.inj H
                                go_wp2_with (first | (go_at_call 34; (with_reducible refine (scan_Shifted.calls _ _ y117 (wrap64 (-t123)) (Int.tmod (wrap64 ((Int.tmod a3 3) + 3)) 3) t130 t131 _ ?side1 ?side2 A91.out).mono ?_); (case side1 => repeat (first | exact (Kd.C_below HR120.out HB.out) | (with_reducible refine Kd.C_alloc ?_ _) | (with_reducible refine Kd.C_drewN ?_ _) | (with_reducible refine Kd.C_drew ?_))); (case side2 => exact HC120.out); rintro e w106 ⟨v132, rfl, ho0, hb⟩; have n0_ := Aside0.mk (Kd.R_lower ho0 (below_size (by repeat (first | (with_reducible first | exact HB.out | apply below_alloc | apply pw_below_drewN | apply below_drew1) | exact HB.out)))); have n1_ := Aside0.mk (below_step (by repeat (first | (with_reducible first | exact HB.out | apply below_alloc | apply pw_below_drewN | apply below_drew1) | exact HB.out)) hb); clear HB; have HO133 := n0_; have HB := n1_; clear n0_ n1_; (try clear hb); (try clear hb2); (try clear hk); (try clear hi); (try clear ho0)))
                                repeat (go_quiet (first | (go_at_call 34; (with_reducible refine (scan_Shifted.calls _ _ y117 (wrap64 (-t123)) (Int.tmod (wrap64 ((Int.tmod a3 3) + 3)) 3) t130 t131 _ ?side1 ?side2 A91.out).mono ?_); (case side1 => repeat (first | exact (Kd.C_below HR120.out HB.out) | (with_reducible refine Kd.C_alloc ?_ _) | (with_reducible refine Kd.C_drewN ?_ _) | (with_reducible refine Kd.C_drew ?_))); (case side2 => exact HC120.out); rintro e w106 ⟨v132, rfl, ho0, hb⟩; have n0_ := Aside0.mk (Kd.R_lower ho0 (below_size (by repeat (first | (with_reducible first | exact HB.out | apply below_alloc | apply pw_below_drewN | apply below_drew1) | exact HB.out)))); have n1_ := Aside0.mk (below_step (by repeat (first | (with_reducible first | exact HB.out | apply below_alloc | apply pw_below_drewN | apply below_drew1) | exact HB.out)) hb); clear HB; have HO133 := n0_; have HB := n1_; clear n0_ n1_; (try clear hb); (try clear hb2); (try clear hk); (try clear hi); (try clear ho0))); try go_wp2_with (first | (go_at_call 34; (with_reducible refine (scan_Shifted.calls _ _ y117 (wrap64 (-t123)) (Int.tmod (wrap64 ((Int.tmod a3 3) + 3)) 3) t130 t131 _ ?side1 ?side2 A91.out).mono ?_); (case side1 => repeat (first | exact (Kd.C_below HR120.out HB.out) | (with_reducible refine Kd.C_alloc ?_ _) | (with_reducible refine Kd.C_drewN ?_ _) | (with_reducible refine Kd.C_drew ?_))); (case side2 => exact HC120.out); rintro e w106 ⟨v132, rfl, ho0, hb⟩; have n0_ := Aside0.mk (Kd.R_lower ho0 (below_size (by repeat (first | (with_reducible first | exact HB.out | apply below_alloc | apply pw_below_drewN | apply below_drew1) | exact HB.out)))); have n1_ := Aside0.mk (below_step (by repeat (first | (with_reducible first | exact HB.out | apply below_alloc | apply pw_below_drewN | apply below_drew1) | exact HB.out)) hb); clear HB; have HO133 := n0_; have HB := n1_; clear n0_ n1_; (try clear hb); (try clear hb2); (try clear hk); (try clear hi); (try clear ho0))))
                                go_ret
                                exact ⟨by first | rfl | (simp [errW_none, errW_some] <;> rfl) | (simp only [← hji5, ← hji14]; first | rfl | (simp [errW_none, errW_some] <;> rfl)) | (simp [*, errW_none, errW_some] <;> rfl), by repeat (first | (with_reducible first | exact HB.out | apply below_alloc | apply pw_below_drewN | apply below_drew1) | exact HB.out)⟩
            · rw [if_neg c13] at H
              exact absurd H (by simp)
    · rw [if_neg c7] at H
      exact absurd H (by simp)
  · rw [if_neg c6] at H
    exact absurd H (by simp)

/-- THE ONE PURE STATEMENT of headroomlaw09_ScanFits. -/
def headroomlaw09_ScanFits.Pure : Prop := ∀ (l0 : List (S37)) (a1 : Int) (a2 : Int) (a3 : Int), l0.length ≤ maxLen → l0.length * 16 ≤ 140737488351232 → (∀ x ∈ l0, (Lit.int .i64 x.f0).wf = true ∧ (Lit.int .i64 x.f1).wf = true) → (Lit.int .i64 a1).wf = true → (Lit.int .i64 a2).wf = true → (Lit.int .i64 a3).wf = true → ∃ k, headroomlaw09_ScanFits.f k l0 a1 a2 a3 = some true
theorem headroomlaw09_ScanFits.walk (P : headroomlaw09_ScanFits.Pure) (A0 : Option Addr) (c0 : Nat) (l0 : List (S37)) (a1 : Int) (a2 : Int) (a3 : Int) (w : World) (hr0 : Kd.C k37 w A0 l0.length l0) (hc0 : l0.length ≤ c0) (w0_ : l0.length ≤ maxLen) (w1_ : l0.length * 16 ≤ 140737488351232) (w2_ : (∀ x ∈ l0, (Lit.int .i64 x.f0).wf = true ∧ (Lit.int .i64 x.f1).wf = true)) (w3_ : (Lit.int .i64 a1).wf = true) (w4_ : (Lit.int .i64 a2).wf = true) (w5_ : (Lit.int .i64 a3).wf = true) :
    Calls Try.prog 8 #[.slice A0 l0.length c0, .int .i64 a1, .int .i64 a2, .int .i64 a3] w fun e w' => e = .returned (.bool true) ∧ Below w.heap.size w w' := by
  obtain ⟨k, h⟩ := P l0 a1 a2 a3 w0_ w1_ w2_ w3_ w4_ w5_
  refine (headroomlaw09_ScanFits.calls k A0 c0 l0 a1 a2 a3 true w hr0 hc0 h).mono ?_
  rintro e w' ⟨rfl, hd⟩
  exact ⟨rfl, hd⟩

end Go.Proofs.Ytfemklaeonkidaa.P

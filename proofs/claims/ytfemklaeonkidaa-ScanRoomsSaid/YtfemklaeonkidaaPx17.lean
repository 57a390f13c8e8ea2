-- Laid by this session's program hyb.py, out of the kit's print and this session's own contracts.
import Derived.Test.YtfemklaeonkidaaPx0
import Derived.Test.YtfemklaeonkidaaPx3
import Derived.Test.YtfemklaeonkidaaPx4
import Derived.Test.YtfemklaeonkidaaPx5
import Derived.Test.YtfemklaeonkidaaPx15
import Derived.Test.YtfemklaeonkidaaPx16
namespace Go.Proofs.Ytfemklaeonkidaa.P
open Go.RowKit Go.Proofs.YtfemklaeonkidaaW.PrintWords Go.Proofs.YtfemklaeonkidaaW.PrintLast Go.Proofs.YtfemklaeonkidaaW.PrintMore Go.Proofs.YtfemklaeonkidaaW.Hand
attribute [local go_sem] max2_int min2_int max_two min_two max_three min_three max_four min_four   -- for this text's walks alone
set_option linter.unusedVariables false
set_option linter.unusedSimpArgs false

/-! ### headroomlaw09_ScanRooms: function 3 -/
mutual
def headroomlaw09_ScanRooms.j0 : Nat → Int → Int → Int → Int → Int → Int → Int → Int → Int → Option (Bool)
  | 0, _, _, _, _, _, _, _, _, _ => none
  | k + 1, x0, x1, x2, x7, x8, x9, x10, x11, x12 => (headroomref02_Format.f x2).bind fun t179 => (if t179 = true then (headroomlaw09_ScanRooms.j1 k x0 x1 x2 x7 x8 x9 x10 x11 x12) else (headroomlaw09_ScanRooms.j1 k x0 x1 x2 x7 x8 x9 x10 1 1))
def headroomlaw09_ScanRooms.j1 : Nat → Int → Int → Int → Int → Int → Int → Int → Int → Int → Option (Bool)
  | 0, _, _, _, _, _, _, _, _, _ => none
  | k + 1, x0, x1, x2, x7, x8, x9, x10, x11, x12 => if x0 = 2 then (headroomlaw09_ScanRooms.j2 k x0 x1 x2 x7 x8 x9 x10 x11 x12 false) else (headroomlaw09_ScanRooms.j2 k x0 x1 x2 x7 x8 x9 x10 x11 x12 (x0 != 4))
def headroomlaw09_ScanRooms.j2 : Nat → Int → Int → Int → Int → Int → Int → Int → Int → Int → Bool → Option (Bool)
  | 0, _, _, _, _, _, _, _, _, _, _ => none
  | k + 1, x0, x1, x2, x7, x8, x9, x10, x11, x12, x38 => if x38 = true then (headroomlaw09_ScanRooms.j3 k x0 x1 x2 x7 x8 x9 x10 x11 1) else (headroomlaw09_ScanRooms.j3 k x0 x1 x2 x7 x8 x9 x10 x11 x12)
def headroomlaw09_ScanRooms.j3 : Nat → Int → Int → Int → Int → Int → Int → Int → Int → Int → Option (Bool)
  | 0, _, _, _, _, _, _, _, _, _ => none
  | k + 1, x0, x1, x2, x7, x8, x9, x10, x11, x12 => if x8 = x11 then (if x10 = x12 then (if x11 = 0 then (if x12 = 0 then ((headroomlaw09_alive.f k).bind fun t180 => (headroomlaw09_ScanRooms.j4 k x0 x1 x2 x7 x9 x11 x12 (!t180))) else (if x9 = 0 then ((headroomlaw09_alive.f k).bind fun t181 => (headroomlaw09_ScanRooms.j4 k x0 x1 x2 x7 x9 x11 x12 (!t181))) else (headroomlaw09_ScanRooms.j4 k x0 x1 x2 x7 x9 x11 x12 true))) else (if x7 = 0 then (if x12 = 0 then ((headroomlaw09_alive.f k).bind fun t182 => (headroomlaw09_ScanRooms.j4 k x0 x1 x2 x7 x9 x11 x12 (!t182))) else (if x9 = 0 then ((headroomlaw09_alive.f k).bind fun t183 => (headroomlaw09_ScanRooms.j4 k x0 x1 x2 x7 x9 x11 x12 (!t183))) else (headroomlaw09_ScanRooms.j4 k x0 x1 x2 x7 x9 x11 x12 true))) else (headroomlaw09_ScanRooms.j4 k x0 x1 x2 x7 x9 x11 x12 true))) else (headroomlaw09_ScanRooms.j4 k x0 x1 x2 x7 x9 x11 x12 true)) else (headroomlaw09_ScanRooms.j4 k x0 x1 x2 x7 x9 x11 x12 true)
def headroomlaw09_ScanRooms.j4 : Nat → Int → Int → Int → Int → Int → Int → Int → Bool → Option (Bool)
  | 0, _, _, _, _, _, _, _, _ => none
  | k + 1, x0, x1, x2, x7, x9, x11, x12, x66 => if x66 = true then (some false) else (if x11 = 0 then ((headroomref09_Room.f k x1 x2).bind fun t184 => (if x7 = t184 then (if x12 = 0 then ((headroomref09_Pre.f k x0 x1 x2).bind fun t185 => (some (x9 == t185))) else (some true)) else (some false))) else (if x12 = 0 then ((headroomref09_Pre.f k x0 x1 x2).bind fun t186 => (some (x9 == t186))) else (some true)))
end
def headroomlaw09_ScanRooms.f (k : Nat) (a0 : Int) (a1 : Int) (a2 : Int) : Option (Bool) := (scan_Room.f k a1 a2).bind fun bt174 => ((scan_Pre.f a0 a1 a2).bind fun bt176 => ((headroomref09_May.f k a1 a2).bind fun t178 => (if t178 = true then (headroomlaw09_ScanRooms.j0 k a0 a1 a2 bt174.1 bt174.2 bt176.1 bt176.2 0 0) else (headroomlaw09_ScanRooms.j0 k a0 a1 a2 bt174.1 bt174.2 bt176.1 bt176.2 2 2))))
theorem headroomlaw09_ScanRooms.mono_l : ∀ k, (∀ y0 y1 y2 y3 y4 y5 y6 y7 y8, LeO (headroomlaw09_ScanRooms.j0 k y0 y1 y2 y3 y4 y5 y6 y7 y8) (headroomlaw09_ScanRooms.j0 (k + 1) y0 y1 y2 y3 y4 y5 y6 y7 y8)) ∧ (∀ y0 y1 y2 y3 y4 y5 y6 y7 y8, LeO (headroomlaw09_ScanRooms.j1 k y0 y1 y2 y3 y4 y5 y6 y7 y8) (headroomlaw09_ScanRooms.j1 (k + 1) y0 y1 y2 y3 y4 y5 y6 y7 y8)) ∧ (∀ y0 y1 y2 y3 y4 y5 y6 y7 y8 y9, LeO (headroomlaw09_ScanRooms.j2 k y0 y1 y2 y3 y4 y5 y6 y7 y8 y9) (headroomlaw09_ScanRooms.j2 (k + 1) y0 y1 y2 y3 y4 y5 y6 y7 y8 y9)) ∧ (∀ y0 y1 y2 y3 y4 y5 y6 y7 y8, LeO (headroomlaw09_ScanRooms.j3 k y0 y1 y2 y3 y4 y5 y6 y7 y8) (headroomlaw09_ScanRooms.j3 (k + 1) y0 y1 y2 y3 y4 y5 y6 y7 y8)) ∧ (∀ y0 y1 y2 y3 y4 y5 y6 y7, LeO (headroomlaw09_ScanRooms.j4 k y0 y1 y2 y3 y4 y5 y6 y7) (headroomlaw09_ScanRooms.j4 (k + 1) y0 y1 y2 y3 y4 y5 y6 y7))
  | 0 => ⟨fun _ _ _ _ _ _ _ _ _ r h => by simp [headroomlaw09_ScanRooms.j0] at h, fun _ _ _ _ _ _ _ _ _ r h => by simp [headroomlaw09_ScanRooms.j1] at h, fun _ _ _ _ _ _ _ _ _ _ r h => by simp [headroomlaw09_ScanRooms.j2] at h, fun _ _ _ _ _ _ _ _ _ r h => by simp [headroomlaw09_ScanRooms.j3] at h, fun _ _ _ _ _ _ _ _ r h => by simp [headroomlaw09_ScanRooms.j4] at h⟩
  | k + 1 => by
    obtain ⟨ih0, ih1, ih2, ih3, ih4⟩ := headroomlaw09_ScanRooms.mono_l k
    refine ⟨?_, ?_, ?_, ?_, ?_⟩
    · intro y0 y1 y2 y3 y4 y5 y6 y7 y8
      unfold headroomlaw09_ScanRooms.j0
      repeat' first
      | (with_reducible exact ih0 _ _ _ _ _ _ _ _ _)
      | (with_reducible exact ih1 _ _ _ _ _ _ _ _ _)
      | (with_reducible exact ih2 _ _ _ _ _ _ _ _ _ _)
      | (with_reducible exact ih3 _ _ _ _ _ _ _ _ _)
      | (with_reducible exact ih4 _ _ _ _ _ _ _ _)
      | (with_reducible exact headroomlaw09_alive.mono _)
      | (with_reducible exact headroomref09_May.mono _ _ _)
      | (with_reducible exact headroomref09_Pre.mono _ _ _ _)
      | (with_reducible exact headroomref09_Room.mono _ _ _)
      | (with_reducible exact scan_Room.mono _ _ _)
      | (with_reducible exact LeO.refl _)
      | (with_reducible exact LeO.none _)
      | (with_reducible refine LeO.ite ?_ ?_)
      | (with_reducible refine LeO.bind ?_ (fun _ => ?_))
      | exact ih0 _ _ _ _ _ _ _ _ _
      | exact ih1 _ _ _ _ _ _ _ _ _
      | exact ih2 _ _ _ _ _ _ _ _ _ _
      | exact ih3 _ _ _ _ _ _ _ _ _
      | exact ih4 _ _ _ _ _ _ _ _
      | exact headroomlaw09_alive.mono _
      | exact headroomref09_May.mono _ _ _
      | exact headroomref09_Pre.mono _ _ _ _
      | exact headroomref09_Room.mono _ _ _
      | exact scan_Room.mono _ _ _
      | exact LeO.none _
      | refine LeO.ite ?_ ?_
      | refine LeO.bind ?_ (fun _ => ?_)
    · intro y0 y1 y2 y3 y4 y5 y6 y7 y8
      unfold headroomlaw09_ScanRooms.j1
      repeat' first
      | (with_reducible exact ih0 _ _ _ _ _ _ _ _ _)
      | (with_reducible exact ih1 _ _ _ _ _ _ _ _ _)
      | (with_reducible exact ih2 _ _ _ _ _ _ _ _ _ _)
      | (with_reducible exact ih3 _ _ _ _ _ _ _ _ _)
      | (with_reducible exact ih4 _ _ _ _ _ _ _ _)
      | (with_reducible exact headroomlaw09_alive.mono _)
      | (with_reducible exact headroomref09_May.mono _ _ _)
      | (with_reducible exact headroomref09_Pre.mono _ _ _ _)
      | (with_reducible exact headroomref09_Room.mono _ _ _)
      | (with_reducible exact scan_Room.mono _ _ _)
      | (with_reducible exact LeO.refl _)
      | (with_reducible exact LeO.none _)
      | (with_reducible refine LeO.ite ?_ ?_)
      | (with_reducible refine LeO.bind ?_ (fun _ => ?_))
      | exact ih0 _ _ _ _ _ _ _ _ _
      | exact ih1 _ _ _ _ _ _ _ _ _
      | exact ih2 _ _ _ _ _ _ _ _ _ _
      | exact ih3 _ _ _ _ _ _ _ _ _
      | exact ih4 _ _ _ _ _ _ _ _
      | exact headroomlaw09_alive.mono _
      | exact headroomref09_May.mono _ _ _
      | exact headroomref09_Pre.mono _ _ _ _
      | exact headroomref09_Room.mono _ _ _
      | exact scan_Room.mono _ _ _
      | exact LeO.none _
      | refine LeO.ite ?_ ?_
      | refine LeO.bind ?_ (fun _ => ?_)
    · intro y0 y1 y2 y3 y4 y5 y6 y7 y8 y9
      unfold headroomlaw09_ScanRooms.j2
      repeat' first
      | (with_reducible exact ih0 _ _ _ _ _ _ _ _ _)
      | (with_reducible exact ih1 _ _ _ _ _ _ _ _ _)
      | (with_reducible exact ih2 _ _ _ _ _ _ _ _ _ _)
      | (with_reducible exact ih3 _ _ _ _ _ _ _ _ _)
      | (with_reducible exact ih4 _ _ _ _ _ _ _ _)
      | (with_reducible exact headroomlaw09_alive.mono _)
      | (with_reducible exact headroomref09_May.mono _ _ _)
      | (with_reducible exact headroomref09_Pre.mono _ _ _ _)
      | (with_reducible exact headroomref09_Room.mono _ _ _)
      | (with_reducible exact scan_Room.mono _ _ _)
      | (with_reducible exact LeO.refl _)
      | (with_reducible exact LeO.none _)
      | (with_reducible refine LeO.ite ?_ ?_)
      | (with_reducible refine LeO.bind ?_ (fun _ => ?_))
      | exact ih0 _ _ _ _ _ _ _ _ _
      | exact ih1 _ _ _ _ _ _ _ _ _
      | exact ih2 _ _ _ _ _ _ _ _ _ _
      | exact ih3 _ _ _ _ _ _ _ _ _
      | exact ih4 _ _ _ _ _ _ _ _
      | exact headroomlaw09_alive.mono _
      | exact headroomref09_May.mono _ _ _
      | exact headroomref09_Pre.mono _ _ _ _
      | exact headroomref09_Room.mono _ _ _
      | exact scan_Room.mono _ _ _
      | exact LeO.none _
      | refine LeO.ite ?_ ?_
      | refine LeO.bind ?_ (fun _ => ?_)
    · intro y0 y1 y2 y3 y4 y5 y6 y7 y8
      unfold headroomlaw09_ScanRooms.j3
      repeat' first
      | (with_reducible exact ih0 _ _ _ _ _ _ _ _ _)
      | (with_reducible exact ih1 _ _ _ _ _ _ _ _ _)
      | (with_reducible exact ih2 _ _ _ _ _ _ _ _ _ _)
      | (with_reducible exact ih3 _ _ _ _ _ _ _ _ _)
      | (with_reducible exact ih4 _ _ _ _ _ _ _ _)
      | (with_reducible exact headroomlaw09_alive.mono _)
      | (with_reducible exact headroomref09_May.mono _ _ _)
      | (with_reducible exact headroomref09_Pre.mono _ _ _ _)
      | (with_reducible exact headroomref09_Room.mono _ _ _)
      | (with_reducible exact scan_Room.mono _ _ _)
      | (with_reducible exact LeO.refl _)
      | (with_reducible exact LeO.none _)
      | (with_reducible refine LeO.ite ?_ ?_)
      | (with_reducible refine LeO.bind ?_ (fun _ => ?_))
      | exact ih0 _ _ _ _ _ _ _ _ _
      | exact ih1 _ _ _ _ _ _ _ _ _
      | exact ih2 _ _ _ _ _ _ _ _ _ _
      | exact ih3 _ _ _ _ _ _ _ _ _
      | exact ih4 _ _ _ _ _ _ _ _
      | exact headroomlaw09_alive.mono _
      | exact headroomref09_May.mono _ _ _
      | exact headroomref09_Pre.mono _ _ _ _
      | exact headroomref09_Room.mono _ _ _
      | exact scan_Room.mono _ _ _
      | exact LeO.none _
      | refine LeO.ite ?_ ?_
      | refine LeO.bind ?_ (fun _ => ?_)
    · intro y0 y1 y2 y3 y4 y5 y6 y7
      unfold headroomlaw09_ScanRooms.j4
      repeat' first
      | (with_reducible exact ih0 _ _ _ _ _ _ _ _ _)
      | (with_reducible exact ih1 _ _ _ _ _ _ _ _ _)
      | (with_reducible exact ih2 _ _ _ _ _ _ _ _ _ _)
      | (with_reducible exact ih3 _ _ _ _ _ _ _ _ _)
      | (with_reducible exact ih4 _ _ _ _ _ _ _ _)
      | (with_reducible exact headroomlaw09_alive.mono _)
      | (with_reducible exact headroomref09_May.mono _ _ _)
      | (with_reducible exact headroomref09_Pre.mono _ _ _ _)
      | (with_reducible exact headroomref09_Room.mono _ _ _)
      | (with_reducible exact scan_Room.mono _ _ _)
      | (with_reducible exact LeO.refl _)
      | (with_reducible exact LeO.none _)
      | (with_reducible refine LeO.ite ?_ ?_)
      | (with_reducible refine LeO.bind ?_ (fun _ => ?_))
      | exact ih0 _ _ _ _ _ _ _ _ _
      | exact ih1 _ _ _ _ _ _ _ _ _
      | exact ih2 _ _ _ _ _ _ _ _ _ _
      | exact ih3 _ _ _ _ _ _ _ _ _
      | exact ih4 _ _ _ _ _ _ _ _
      | exact headroomlaw09_alive.mono _
      | exact headroomref09_May.mono _ _ _
      | exact headroomref09_Pre.mono _ _ _ _
      | exact headroomref09_Room.mono _ _ _
      | exact scan_Room.mono _ _ _
      | exact LeO.none _
      | refine LeO.ite ?_ ?_
      | refine LeO.bind ?_ (fun _ => ?_)
theorem headroomlaw09_ScanRooms.mono : ∀ a0 a1 a2 k, LeO (headroomlaw09_ScanRooms.f k a0 a1 a2) (headroomlaw09_ScanRooms.f (k + 1) a0 a1 a2) := by
  intro a0 a1 a2 k
  obtain ⟨ih0, ih1, ih2, ih3, ih4⟩ := headroomlaw09_ScanRooms.mono_l k
  unfold headroomlaw09_ScanRooms.f
  repeat' first
      | (with_reducible exact ih0 _ _ _ _ _ _ _ _ _)
      | (with_reducible exact ih1 _ _ _ _ _ _ _ _ _)
      | (with_reducible exact ih2 _ _ _ _ _ _ _ _ _ _)
      | (with_reducible exact ih3 _ _ _ _ _ _ _ _ _)
      | (with_reducible exact ih4 _ _ _ _ _ _ _ _)
      | (with_reducible exact headroomlaw09_alive.mono _)
      | (with_reducible exact headroomref09_May.mono _ _ _)
      | (with_reducible exact headroomref09_Pre.mono _ _ _ _)
      | (with_reducible exact headroomref09_Room.mono _ _ _)
      | (with_reducible exact scan_Room.mono _ _ _)
      | (with_reducible exact LeO.refl _)
      | (with_reducible exact LeO.none _)
      | (with_reducible refine LeO.ite ?_ ?_)
      | (with_reducible refine LeO.bind ?_ (fun _ => ?_))
      | exact ih0 _ _ _ _ _ _ _ _ _
      | exact ih1 _ _ _ _ _ _ _ _ _
      | exact ih2 _ _ _ _ _ _ _ _ _ _
      | exact ih3 _ _ _ _ _ _ _ _ _
      | exact ih4 _ _ _ _ _ _ _ _
      | exact headroomlaw09_alive.mono _
      | exact headroomref09_May.mono _ _ _
      | exact headroomref09_Pre.mono _ _ _ _
      | exact headroomref09_Room.mono _ _ _
      | exact scan_Room.mono _ _ _
      | exact LeO.none _
      | refine LeO.ite ?_ ?_
      | refine LeO.bind ?_ (fun _ => ?_)
set_option maxHeartbeats 8000000 in
set_option maxRecDepth 100000 in
theorem headroomlaw09_ScanRooms.calls (k : Nat) (a0 : Int) (a1 : Int) (a2 : Int) (r : Bool) (w : World) (h : headroomlaw09_ScanRooms.f k a0 a1 a2 = some r) :
    Calls Try.prog 3 #[.int .i64 a0, .int .i64 a1, .int .i64 a2] w fun e w' => e = .returned (.bool r) ∧ Below w.heap.size w w' := by
  have HB := Aside0.mk (Below.refl w.heap.size w)
  have H : ((scan_Room.f k a1 a2).bind fun bt174 => ((scan_Pre.f a0 a1 a2).bind fun bt176 => ((headroomref09_May.f k a1 a2).bind fun t178 => (if t178 = true then (headroomlaw09_ScanRooms.j0 k a0 a1 a2 bt174.1 bt174.2 bt176.1 bt176.2 0 0) else (headroomlaw09_ScanRooms.j0 k a0 a1 a2 bt174.1 bt174.2 bt176.1 bt176.2 2 2))))) = some r := h
  clear h
  replace H := Option.bind_eq_some_iff.mp H
  obtain ⟨⟨t174, t175⟩, A40, H⟩ := H
  replace H : ((scan_Pre.f a0 a1 a2).bind fun bt176 => ((headroomref09_May.f k a1 a2).bind fun t178 => (if t178 = true then (headroomlaw09_ScanRooms.j0 k a0 a1 a2 t174 t175 bt176.1 bt176.2 0 0) else (headroomlaw09_ScanRooms.j0 k a0 a1 a2 t174 t175 bt176.1 bt176.2 2 2)))) = some r := H
  have A4 := Aside0.mk A40
  clear A40
  replace H := Option.bind_eq_some_iff.mp H
  obtain ⟨⟨t176, t177⟩, A50, H⟩ := H
  replace H : ((headroomref09_May.f k a1 a2).bind fun t178 => (if t178 = true then (headroomlaw09_ScanRooms.j0 k a0 a1 a2 t174 t175 t176 t177 0 0) else (headroomlaw09_ScanRooms.j0 k a0 a1 a2 t174 t175 t176 t177 2 2))) = some r := H
  have A5 := Aside0.mk A50
  clear A50
  replace H := Option.bind_eq_some_iff.mp H
  obtain ⟨t178, A60, H⟩ := H
  replace H : (if t178 = true then (headroomlaw09_ScanRooms.j0 k a0 a1 a2 t174 t175 t176 t177 0 0) else (headroomlaw09_ScanRooms.j0 k a0 a1 a2 t174 t175 t176 t177 2 2)) = some r := H
  have A6 := Aside0.mk A60
  clear A60
  have HC7 := Aside0.mk H
  clear H
  go_enter Try.func3, Try.ntmps3
  go_upto_if 29 with (first | ((with_reducible refine gate_callee (f := 16) rfl ?_); refine goesL_ (some 16) rfl rfl Try.func16 (by kernel_rfl) rfl #[.int .i64 a1, .int .i64 a2] rfl (by (try simp only [List.map_toArray, List.map_cons, List.map_nil]); first | done | rfl | (simp only [List.length_drop, List.length_take]; rfl)) ?_; (with_reducible refine (scan_Room.calls k a1 a2 t174 t175 _ A4.out).mono ?_); rintro e w' ⟨rfl, ⟨nd, rfl⟩⟩; refine ⟨_, rfl, ?_⟩) | ((with_reducible refine gate_callee (f := 17) rfl ?_); refine goesL_ (some 23) rfl rfl Try.func17 (by kernel_rfl) rfl #[.int .i64 a0, .int .i64 a1, .int .i64 a2] rfl (by (try simp only [List.map_toArray, List.map_cons, List.map_nil]); first | done | rfl | (simp only [List.length_drop, List.length_take]; rfl)) ?_; (with_reducible refine (scan_Pre.calls a0 a1 a2 t176 t177 _ A5.out).mono ?_); rintro e w8 ⟨rfl, hb⟩; refine ⟨_, rfl, ?_⟩; have n0_ := Aside0.mk (below_step (by repeat (first | (with_reducible first | exact HB.out | apply below_alloc | apply pw_below_drewN | apply below_drew1) | exact HB.out)) hb); clear HB; have HB := n0_; clear n0_; (try clear hb); (try clear hb2); (try clear hk); (try clear hi)) | ((with_reducible refine gate_callee (f := 18) rfl ?_); refine goesL_ (some 28) rfl rfl Try.func18 (by kernel_rfl) rfl #[.int .i64 a1, .int .i64 a2] rfl (by (try simp only [List.map_toArray, List.map_cons, List.map_nil]); first | done | rfl | (simp only [List.length_drop, List.length_take]; rfl)) ?_; (with_reducible refine (headroomref09_May.calls k a1 a2 t178 _ A6.out).mono ?_); rintro e w' ⟨rfl, ⟨nd, rfl⟩⟩; refine ⟨_, rfl, ?_⟩))
  (try simp only [Act.put, List.setIfInBounds_toArray, List.set_cons_zero, List.set_cons_succ])
  go_cut [11, 12] (fun v11 v12 wc => ∃ (kq : Nat) (x11_6 : Int) (x12_6 : Int), v11 = .int .i64 x11_6 ∧ v12 = .int .i64 x12_6 ∧ Aside0 (headroomlaw09_ScanRooms.j0 kq a0 a1 a2 t174 t175 t176 t177 x11_6 x12_6 = some r) ∧ Aside0 (kq ≤ k) ∧ Aside0 (Below w.heap.size w wc))
  case first =>
    have H := HC7.out
    clear HC7
    by_cases c9 : t178 = true
    · subst c9
      have H1 : (headroomlaw09_ScanRooms.j0 k a0 a1 a2 t174 t175 t176 t177 0 0) = some r := by rw [if_pos rfl] at H; exact H
      clear H
      have H := H1
      clear H1
      have H' := Aside0.mk H
      clear H
      go_wp2
      go_meet
      case rel => exact ⟨_, (0), (0), (by first | rfl | (simp; done) | (simp [*]; done)), (by first | rfl | (simp; done) | (simp [*]; done)), H', ⟨by first | omega | exact Nat.le_refl _⟩, ⟨by repeat (first | (with_reducible first | exact HB.out | apply below_alloc | apply pw_below_drewN | apply below_drew1) | exact HB.out)⟩⟩
    · replace c9 := Bool.eq_false_iff.mpr c9
      subst c9
      have H1 : (headroomlaw09_ScanRooms.j0 k a0 a1 a2 t174 t175 t176 t177 2 2) = some r := by rw [if_neg (show ¬ (false = true) by decide)] at H; exact H
      clear H
      have H := H1
      clear H1
      have H' := Aside0.mk H
      clear H
      go_wp2
      go_meet
      case rel => exact ⟨_, (2), (2), (by first | rfl | (simp; done) | (simp [*]; done)), (by first | rfl | (simp; done) | (simp [*]; done)), H', ⟨by first | omega | exact Nat.le_refl _⟩, ⟨by repeat (first | (with_reducible first | exact HB.out | apply below_alloc | apply pw_below_drewN | apply below_drew1) | exact HB.out)⟩⟩
  case rest =>
    clear HC7
    try clear c1
    try clear p2
    try clear c3
    try clear c9
    obtain ⟨kq, x11_6, x12_6, rfl, rfl, HA, HJ6, HB⟩ := hcut
    cases kq with
    | zero => exact absurd HA.out (by simp [headroomlaw09_ScanRooms.j0])
    | succ kj6 =>
      have H := HA.out
      clear HA
      simp only [headroomlaw09_ScanRooms.j0] at H
      replace H := Option.bind_eq_some_iff.mp H
      obtain ⟨t179, A100, H⟩ := H
      replace H : (if t179 = true then (headroomlaw09_ScanRooms.j1 kj6 a0 a1 a2 t174 t175 t176 t177 x11_6 x12_6) else (headroomlaw09_ScanRooms.j1 kj6 a0 a1 a2 t174 t175 t176 t177 1 1)) = some r := H
      have A10 := Aside0.mk A100
      clear A100
      have HC11 := Aside0.mk H
      clear H
      go_upto_if 32 with (first | ((with_reducible refine gate_callee (f := 19) rfl ?_); refine goesL_ (some 31) rfl rfl Try.func19 (by kernel_rfl) rfl #[.int .i64 a2] rfl (by (try simp only [List.map_toArray, List.map_cons, List.map_nil]); first | done | rfl | (simp only [List.length_drop, List.length_take]; rfl)) ?_; (with_reducible refine (headroomref02_Format.calls a2 t179 _ A10.out).mono ?_); rintro e w' ⟨rfl, ⟨nd, rfl⟩⟩; refine ⟨_, rfl, ?_⟩))
      (try simp only [Act.put, List.setIfInBounds_toArray, List.set_cons_zero, List.set_cons_succ])
      go_cut [11, 12] (fun v11 v12 wc => ∃ (kq : Nat) (x11_10 : Int) (x12_10 : Int), v11 = .int .i64 x11_10 ∧ v12 = .int .i64 x12_10 ∧ Aside0 (headroomlaw09_ScanRooms.j1 kq a0 a1 a2 t174 t175 t176 t177 x11_10 x12_10 = some r) ∧ Aside0 (kq ≤ kj6) ∧ Aside0 (Below w.heap.size w wc))
      case first =>
        have H := HC11.out
        clear HC11
        by_cases c12 : t179 = true
        · subst c12
          have H1 : (headroomlaw09_ScanRooms.j1 kj6 a0 a1 a2 t174 t175 t176 t177 x11_6 x12_6) = some r := by rw [if_pos rfl] at H; exact H
          clear H
          have H := H1
          clear H1
          have H' := Aside0.mk H
          clear H
          go_wp2
          go_meet
          case rel => exact ⟨_, (x11_6), (x12_6), (by first | rfl | (simp; done) | (simp [*]; done)), (by first | rfl | (simp; done) | (simp [*]; done)), H', ⟨by have := HJ6.out; first | omega | exact Nat.le_refl _⟩, ⟨by repeat (first | (with_reducible first | exact HB.out | apply below_alloc | apply pw_below_drewN | apply below_drew1) | exact HB.out)⟩⟩
        · replace c12 := Bool.eq_false_iff.mpr c12
          subst c12
          have H1 : (headroomlaw09_ScanRooms.j1 kj6 a0 a1 a2 t174 t175 t176 t177 1 1) = some r := by rw [if_neg (show ¬ (false = true) by decide)] at H; exact H
          clear H
          have H := H1
          clear H1
          have H' := Aside0.mk H
          clear H
          go_wp2
          go_meet
          case rel => exact ⟨_, (1), (1), (by first | rfl | (simp; done) | (simp [*]; done)), (by first | rfl | (simp; done) | (simp [*]; done)), H', ⟨by have := HJ6.out; first | omega | exact Nat.le_refl _⟩, ⟨by repeat (first | (with_reducible first | exact HB.out | apply below_alloc | apply pw_below_drewN | apply below_drew1) | exact HB.out)⟩⟩
      case rest =>
        clear HC11
        try clear c1
        try clear p2
        try clear c3
        try clear c9
        try clear c12
        try clear p2
        obtain ⟨kq, x11_10, x12_10, rfl, rfl, HA, HJ10, HB⟩ := hcut
        cases kq with
        | zero => exact absurd HA.out (by simp [headroomlaw09_ScanRooms.j1])
        | succ kj10 =>
          have H := HA.out
          clear HA
          simp only [headroomlaw09_ScanRooms.j1] at H
          have HC13 := Aside0.mk H
          clear H
          go_upto_region 8 with (fail)
          go_cut [38] (fun v38 wc => ∃ (kq : Nat) (x38_12 : Bool), v38 = .bool x38_12 ∧ Aside0 (headroomlaw09_ScanRooms.j2 kq a0 a1 a2 t174 t175 t176 t177 x11_10 x12_10 x38_12 = some r) ∧ Aside0 (kq ≤ kj10) ∧ Aside0 (Below w.heap.size w wc))
          case first =>
            have H := HC13.out
            clear HC13
            by_cases c14 : a0 = 2
            · rw [if_pos c14] at H
              have c14b0 : (a0 == 2) = true := beq_iff_eq.mpr c14
              have c14b1 : (a0 != 2) = false := bne_eq_false_iff_eq.mpr c14
              clear c14
              (first | rw [c14b0] | (simp only [i64_w, i32_w]; rw [c14b0]) | skip)
              have H' := Aside0.mk H
              clear H
              go_wp2
              go_meet
              case rel => exact ⟨_, (false), (by first | rfl | (simp; done) | (simp [*]; done)), H', ⟨by have := HJ6.out; have := HJ10.out; first | omega | exact Nat.le_refl _⟩, ⟨by repeat (first | (with_reducible first | exact HB.out | apply below_alloc | apply pw_below_drewN | apply below_drew1) | exact HB.out)⟩⟩
            · rw [if_neg c14] at H
              have c14b0 : (a0 == 2) = false := beq_eq_false_iff_ne.mpr c14
              have c14b1 : (a0 != 2) = true := bne_iff_ne.mpr c14
              (first | rw [c14b0] | (simp only [i64_w, i32_w]; rw [c14b0]) | skip)
              have H' := Aside0.mk H
              clear H
              go_wp2
              go_meet
              case rel => exact ⟨_, ((a0 != 4)), (by first | rfl | (simp; done) | (simp [*]; done)), H', ⟨by have := HJ6.out; have := HJ10.out; first | omega | exact Nat.le_refl _⟩, ⟨by repeat (first | (with_reducible first | exact HB.out | apply below_alloc | apply pw_below_drewN | apply below_drew1) | exact HB.out)⟩⟩
          case rest =>
            clear HC13
            try clear c1
            try clear p2
            try clear c3
            try clear c9
            try clear c12
            try clear c14
            try clear c14b0
            try clear c14b1
            try clear p2
            obtain ⟨kq, x38_12, rfl, HA, HJ12, HB⟩ := hcut
            cases kq with
            | zero => exact absurd HA.out (by simp [headroomlaw09_ScanRooms.j2])
            | succ kj12 =>
              have H := HA.out
              clear HA
              simp only [headroomlaw09_ScanRooms.j2] at H
              have HC15 := Aside0.mk H
              clear H
              go_upto_if 38 with (fail)
              go_cut [12] (fun v12 wc => ∃ (kq : Nat) (x12_14 : Int), v12 = .int .i64 x12_14 ∧ Aside0 (headroomlaw09_ScanRooms.j3 kq a0 a1 a2 t174 t175 t176 t177 x11_10 x12_14 = some r) ∧ Aside0 (kq ≤ kj12) ∧ Aside0 (Below w.heap.size w wc))
              case first =>
                have H := HC15.out
                clear HC15
                by_cases c16 : x38_12 = true
                · subst c16
                  have H1 : (headroomlaw09_ScanRooms.j3 kj12 a0 a1 a2 t174 t175 t176 t177 x11_10 1) = some r := by rw [if_pos rfl] at H; exact H
                  clear H
                  have H := H1
                  clear H1
                  have H' := Aside0.mk H
                  clear H
                  go_wp2
                  go_meet
                  case rel => exact ⟨_, (1), (by first | rfl | (simp; done) | (simp [*]; done)), H', ⟨by have := HJ6.out; have := HJ10.out; have := HJ12.out; first | omega | exact Nat.le_refl _⟩, ⟨by repeat (first | (with_reducible first | exact HB.out | apply below_alloc | apply pw_below_drewN | apply below_drew1) | exact HB.out)⟩⟩
                · replace c16 := Bool.eq_false_iff.mpr c16
                  subst c16
                  have H1 : (headroomlaw09_ScanRooms.j3 kj12 a0 a1 a2 t174 t175 t176 t177 x11_10 x12_10) = some r := by rw [if_neg (show ¬ (false = true) by decide)] at H; exact H
                  clear H
                  have H := H1
                  clear H1
                  have H' := Aside0.mk H
                  clear H
                  go_wp2
                  go_meet
                  case rel => exact ⟨_, (x12_10), (by first | rfl | (simp; done) | (simp [*]; done)), H', ⟨by have := HJ6.out; have := HJ10.out; have := HJ12.out; first | omega | exact Nat.le_refl _⟩, ⟨by repeat (first | (with_reducible first | exact HB.out | apply below_alloc | apply pw_below_drewN | apply below_drew1) | exact HB.out)⟩⟩
              case rest =>
                clear HC15
                try clear c1
                try clear p2
                try clear c3
                try clear c9
                try clear c12
                try clear c14
                try clear c14b0
                try clear c14b1
                try clear c16
                try clear p2
                obtain ⟨kq, x12_14, rfl, HA, HJ14, HB⟩ := hcut
                cases kq with
                | zero => exact absurd HA.out (by simp [headroomlaw09_ScanRooms.j3])
                | succ kj14 =>
                  have H := HA.out
                  clear HA
                  simp only [headroomlaw09_ScanRooms.j3] at H
                  have HC17 := Aside0.mk H
                  clear H
                  go_upto_region 10 with (fail)
                  go_cut [66] (fun v66 wc => ∃ (kq : Nat) (x66_16 : Bool), v66 = .bool x66_16 ∧ Aside0 (headroomlaw09_ScanRooms.j4 kq a0 a1 a2 t174 t176 x11_10 x12_14 x66_16 = some r) ∧ Aside0 (kq ≤ kj14) ∧ Aside0 (Below w.heap.size w wc))
                  case first =>
                    have H := HC17.out
                    clear HC17
                    by_cases c18 : t175 = x11_10
                    · rw [if_pos c18] at H
                      have c18b0 : (t175 == x11_10) = true := beq_iff_eq.mpr c18
                      have c18b1 : (t175 != x11_10) = false := bne_eq_false_iff_eq.mpr c18
                      clear c18
                      (first | rw [c18b0] | (simp only [i64_w, i32_w]; rw [c18b0]) | skip)
                      by_cases c19 : t177 = x12_14
                      · rw [if_pos c19] at H
                        have c19b0 : (t177 == x12_14) = true := beq_iff_eq.mpr c19
                        have c19b1 : (t177 != x12_14) = false := bne_eq_false_iff_eq.mpr c19
                        clear c19
                        by_cases c20 : x11_10 = 0
                        · rw [if_pos c20] at H
                          have c20b0 : (x11_10 == 0) = true := beq_iff_eq.mpr c20
                          have c20b1 : (x11_10 != 0) = false := bne_eq_false_iff_eq.mpr c20
                          clear c20
                          by_cases c21 : x12_14 = 0
                          · rw [if_pos c21] at H
                            have c21b0 : (x12_14 == 0) = true := beq_iff_eq.mpr c21
                            have c21b1 : (x12_14 != 0) = false := bne_eq_false_iff_eq.mpr c21
                            clear c21
                            replace H := Option.bind_eq_some_iff.mp H
                            obtain ⟨t180, A220, H⟩ := H
                            replace H : (headroomlaw09_ScanRooms.j4 kj14 a0 a1 a2 t174 t176 x11_10 x12_14 (!t180)) = some r := H
                            have A22 := Aside0.mk A220
                            clear A220
                            have H' := Aside0.mk H
                            clear H
                            go_wp2_with (first | (go_at_call 20; (with_reducible refine (headroomlaw09_alive.calls kj14  t180 _ A22.out).mono ?_); rintro e w23 ⟨rfl, hb⟩; have n0_ := Aside0.mk (below_step (by repeat (first | (with_reducible first | exact HB.out | apply below_alloc | apply pw_below_drewN | apply below_drew1) | exact HB.out)) hb); clear HB; have HB := n0_; clear n0_; (try clear hb); (try clear hb2); (try clear hk); (try clear hi)))
                            go_meet
                            case rel => exact ⟨_, (!t180), (by first | rfl | (simp; done) | (simp [*]; done)), H', ⟨by have := HJ6.out; have := HJ10.out; have := HJ12.out; have := HJ14.out; first | omega | exact Nat.le_refl _⟩, ⟨by repeat (first | (with_reducible first | exact HB.out | apply below_alloc | apply pw_below_drewN | apply below_drew1) | exact HB.out)⟩⟩
                          · rw [if_neg c21] at H
                            have c21b0 : (x12_14 == 0) = false := beq_eq_false_iff_ne.mpr c21
                            have c21b1 : (x12_14 != 0) = true := bne_iff_ne.mpr c21
                            by_cases c24 : t176 = 0
                            · rw [if_pos c24] at H
                              have c24b0 : (t176 == 0) = true := beq_iff_eq.mpr c24
                              have c24b1 : (t176 != 0) = false := bne_eq_false_iff_eq.mpr c24
                              clear c24
                              replace H := Option.bind_eq_some_iff.mp H
                              obtain ⟨t181, A250, H⟩ := H
                              replace H : (headroomlaw09_ScanRooms.j4 kj14 a0 a1 a2 t174 t176 x11_10 x12_14 (!t181)) = some r := H
                              have A25 := Aside0.mk A250
                              clear A250
                              have H' := Aside0.mk H
                              clear H
                              go_wp2_with (first | (go_at_call 20; (with_reducible refine (headroomlaw09_alive.calls kj14  t181 _ A25.out).mono ?_); rintro e w26 ⟨rfl, hb⟩; have n0_ := Aside0.mk (below_step (by repeat (first | (with_reducible first | exact HB.out | apply below_alloc | apply pw_below_drewN | apply below_drew1) | exact HB.out)) hb); clear HB; have HB := n0_; clear n0_; (try clear hb); (try clear hb2); (try clear hk); (try clear hi)))
                              go_meet
                              case rel => exact ⟨_, (!t181), (by first | rfl | (simp; done) | (simp [*]; done)), H', ⟨by have := HJ6.out; have := HJ10.out; have := HJ12.out; have := HJ14.out; first | omega | exact Nat.le_refl _⟩, ⟨by repeat (first | (with_reducible first | exact HB.out | apply below_alloc | apply pw_below_drewN | apply below_drew1) | exact HB.out)⟩⟩
                            · rw [if_neg c24] at H
                              have c24b0 : (t176 == 0) = false := beq_eq_false_iff_ne.mpr c24
                              have c24b1 : (t176 != 0) = true := bne_iff_ne.mpr c24
                              have H' := Aside0.mk H
                              clear H
                              go_wp2
                              go_meet
                              case rel => exact ⟨_, (true), (by first | rfl | (simp; done) | (simp [*]; done)), H', ⟨by have := HJ6.out; have := HJ10.out; have := HJ12.out; have := HJ14.out; first | omega | exact Nat.le_refl _⟩, ⟨by repeat (first | (with_reducible first | exact HB.out | apply below_alloc | apply pw_below_drewN | apply below_drew1) | exact HB.out)⟩⟩
                        · rw [if_neg c20] at H
                          have c20b0 : (x11_10 == 0) = false := beq_eq_false_iff_ne.mpr c20
                          have c20b1 : (x11_10 != 0) = true := bne_iff_ne.mpr c20
                          by_cases c27 : t174 = 0
                          · rw [if_pos c27] at H
                            have c27b0 : (t174 == 0) = true := beq_iff_eq.mpr c27
                            have c27b1 : (t174 != 0) = false := bne_eq_false_iff_eq.mpr c27
                            clear c27
                            by_cases c28 : x12_14 = 0
                            · rw [if_pos c28] at H
                              have c28b0 : (x12_14 == 0) = true := beq_iff_eq.mpr c28
                              have c28b1 : (x12_14 != 0) = false := bne_eq_false_iff_eq.mpr c28
                              clear c28
                              replace H := Option.bind_eq_some_iff.mp H
                              obtain ⟨t182, A290, H⟩ := H
                              replace H : (headroomlaw09_ScanRooms.j4 kj14 a0 a1 a2 t174 t176 x11_10 x12_14 (!t182)) = some r := H
                              have A29 := Aside0.mk A290
                              clear A290
                              have H' := Aside0.mk H
                              clear H
                              go_wp2_with (first | (go_at_call 20; (with_reducible refine (headroomlaw09_alive.calls kj14  t182 _ A29.out).mono ?_); rintro e w30 ⟨rfl, hb⟩; have n0_ := Aside0.mk (below_step (by repeat (first | (with_reducible first | exact HB.out | apply below_alloc | apply pw_below_drewN | apply below_drew1) | exact HB.out)) hb); clear HB; have HB := n0_; clear n0_; (try clear hb); (try clear hb2); (try clear hk); (try clear hi)))
                              go_meet
                              case rel => exact ⟨_, (!t182), (by first | rfl | (simp; done) | (simp [*]; done)), H', ⟨by have := HJ6.out; have := HJ10.out; have := HJ12.out; have := HJ14.out; first | omega | exact Nat.le_refl _⟩, ⟨by repeat (first | (with_reducible first | exact HB.out | apply below_alloc | apply pw_below_drewN | apply below_drew1) | exact HB.out)⟩⟩
                            · rw [if_neg c28] at H
                              have c28b0 : (x12_14 == 0) = false := beq_eq_false_iff_ne.mpr c28
                              have c28b1 : (x12_14 != 0) = true := bne_iff_ne.mpr c28
                              by_cases c31 : t176 = 0
                              · rw [if_pos c31] at H
                                have c31b0 : (t176 == 0) = true := beq_iff_eq.mpr c31
                                have c31b1 : (t176 != 0) = false := bne_eq_false_iff_eq.mpr c31
                                clear c31
                                replace H := Option.bind_eq_some_iff.mp H
                                obtain ⟨t183, A320, H⟩ := H
                                replace H : (headroomlaw09_ScanRooms.j4 kj14 a0 a1 a2 t174 t176 x11_10 x12_14 (!t183)) = some r := H
                                have A32 := Aside0.mk A320
                                clear A320
                                have H' := Aside0.mk H
                                clear H
                                go_wp2_with (first | (go_at_call 20; (with_reducible refine (headroomlaw09_alive.calls kj14  t183 _ A32.out).mono ?_); rintro e w33 ⟨rfl, hb⟩; have n0_ := Aside0.mk (below_step (by repeat (first | (with_reducible first | exact HB.out | apply below_alloc | apply pw_below_drewN | apply below_drew1) | exact HB.out)) hb); clear HB; have HB := n0_; clear n0_; (try clear hb); (try clear hb2); (try clear hk); (try clear hi)))
                                go_meet
                                case rel => exact ⟨_, (!t183), (by first | rfl | (simp; done) | (simp [*]; done)), H', ⟨by have := HJ6.out; have := HJ10.out; have := HJ12.out; have := HJ14.out; first | omega | exact Nat.le_refl _⟩, ⟨by repeat (first | (with_reducible first | exact HB.out | apply below_alloc | apply pw_below_drewN | apply below_drew1) | exact HB.out)⟩⟩
                              · rw [if_neg c31] at H
                                have c31b0 : (t176 == 0) = false := beq_eq_false_iff_ne.mpr c31
                                have c31b1 : (t176 != 0) = true := bne_iff_ne.mpr c31
                                have H' := Aside0.mk H
                                clear H
                                go_wp2
                                go_meet
                                case rel => exact ⟨_, (true), (by first | rfl | (simp; done) | (simp [*]; done)), H', ⟨by have := HJ6.out; have := HJ10.out; have := HJ12.out; have := HJ14.out; first | omega | exact Nat.le_refl _⟩, ⟨by repeat (first | (with_reducible first | exact HB.out | apply below_alloc | apply pw_below_drewN | apply below_drew1) | exact HB.out)⟩⟩
                          · rw [if_neg c27] at H
                            have c27b0 : (t174 == 0) = false := beq_eq_false_iff_ne.mpr c27
                            have c27b1 : (t174 != 0) = true := bne_iff_ne.mpr c27
                            have H' := Aside0.mk H
                            clear H
                            go_wp2
                            go_meet
                            case rel => exact ⟨_, (true), (by first | rfl | (simp; done) | (simp [*]; done)), H', ⟨by have := HJ6.out; have := HJ10.out; have := HJ12.out; have := HJ14.out; first | omega | exact Nat.le_refl _⟩, ⟨by repeat (first | (with_reducible first | exact HB.out | apply below_alloc | apply pw_below_drewN | apply below_drew1) | exact HB.out)⟩⟩
                      · rw [if_neg c19] at H
                        have c19b0 : (t177 == x12_14) = false := beq_eq_false_iff_ne.mpr c19
                        have c19b1 : (t177 != x12_14) = true := bne_iff_ne.mpr c19
                        have H' := Aside0.mk H
                        clear H
                        go_wp2
                        go_meet
                        case rel => exact ⟨_, (true), (by first | rfl | (simp; done) | (simp [*]; done)), H', ⟨by have := HJ6.out; have := HJ10.out; have := HJ12.out; have := HJ14.out; first | omega | exact Nat.le_refl _⟩, ⟨by repeat (first | (with_reducible first | exact HB.out | apply below_alloc | apply pw_below_drewN | apply below_drew1) | exact HB.out)⟩⟩
                    · rw [if_neg c18] at H
                      have c18b0 : (t175 == x11_10) = false := beq_eq_false_iff_ne.mpr c18
                      have c18b1 : (t175 != x11_10) = true := bne_iff_ne.mpr c18
                      (first | rw [c18b0] | (simp only [i64_w, i32_w]; rw [c18b0]) | skip)
                      have H' := Aside0.mk H
                      clear H
                      go_wp2
                      go_meet
                      case rel => exact ⟨_, (true), (by first | rfl | (simp; done) | (simp [*]; done)), H', ⟨by have := HJ6.out; have := HJ10.out; have := HJ12.out; have := HJ14.out; first | omega | exact Nat.le_refl _⟩, ⟨by repeat (first | (with_reducible first | exact HB.out | apply below_alloc | apply pw_below_drewN | apply below_drew1) | exact HB.out)⟩⟩
                  case rest =>
                    clear HC17
                    try clear c1
                    try clear c2
                    try clear p2
                    try clear c3
                    try clear c9
                    try clear c12
                    try clear c14
                    try clear c14b0
                    try clear c14b1
                    try clear c16
                    try clear c17
                    try clear c18
                    try clear c18b0
                    try clear c18b1
                    try clear c19
                    try clear c19b0
                    try clear c19b1
                    try clear c20
                    try clear c20b0
                    try clear c20b1
                    try clear c21
                    try clear c21b0
                    try clear c21b1
                    try clear c24
                    try clear c24b0
                    try clear c24b1
                    try clear c27
                    try clear c27b0
                    try clear c27b1
                    try clear c28
                    try clear c28b0
                    try clear c28b1
                    try clear c31
                    try clear c31b0
                    try clear c31b1
                    try clear p2
                    obtain ⟨kq, x66_16, rfl, HA, HJ16, HB⟩ := hcut
                    cases kq with
                    | zero => exact absurd HA.out (by simp [headroomlaw09_ScanRooms.j4])
                    | succ kj16 =>
                      have H := HA.out
                      clear HA
                      simp only [headroomlaw09_ScanRooms.j4] at H
                      by_cases c34 : x66_16 = true
                      · subst c34
                        have H1 : (some false) = some r := by rw [if_pos rfl] at H; exact H
                        clear H
                        have H := H1
                        clear H1
                        obtain rfl := Option.some.inj H
                        go_wp2
                        go_ret
                        exact ⟨by first | rfl | (simp [errW_none, errW_some] <;> rfl) | (simp [*, errW_none, errW_some] <;> rfl), by repeat (first | (with_reducible first | exact HB.out | apply below_alloc | apply pw_below_drewN | apply below_drew1) | exact HB.out)⟩
                      · replace c34 := Bool.eq_false_iff.mpr c34
                        subst c34
                        have H1 : (if x11_10 = 0 then ((headroomref09_Room.f kj16 a1 a2).bind fun t184 => (if t174 = t184 then (if x12_14 = 0 then ((headroomref09_Pre.f kj16 a0 a1 a2).bind fun t185 => (some (t176 == t185))) else (some true)) else (some false))) else (if x12_14 = 0 then ((headroomref09_Pre.f kj16 a0 a1 a2).bind fun t186 => (some (t176 == t186))) else (some true))) = some r := by rw [if_neg (show ¬ (false = true) by decide)] at H; exact H
                        clear H
                        have H := H1
                        clear H1
                        by_cases c35 : x11_10 = 0
                        · rw [if_pos c35] at H
                          have c35b0 : (x11_10 == 0) = true := beq_iff_eq.mpr c35
                          have c35b1 : (x11_10 != 0) = false := bne_eq_false_iff_eq.mpr c35
                          clear c35
                          replace H := Option.bind_eq_some_iff.mp H
                          obtain ⟨t184, A360, H⟩ := H
                          replace H : (if t174 = t184 then (if x12_14 = 0 then ((headroomref09_Pre.f kj16 a0 a1 a2).bind fun t185 => (some (t176 == t185))) else (some true)) else (some false)) = some r := H
                          have A36 := Aside0.mk A360
                          clear A360
                          by_cases c37 : t174 = t184
                          · rw [if_pos c37] at H
                            have c37b0 : (t174 == t184) = true := beq_iff_eq.mpr c37
                            have c37b1 : (t174 != t184) = false := bne_eq_false_iff_eq.mpr c37
                            clear c37
                            by_cases c38 : x12_14 = 0
                            · rw [if_pos c38] at H
                              have c38b0 : (x12_14 == 0) = true := beq_iff_eq.mpr c38
                              have c38b1 : (x12_14 != 0) = false := bne_eq_false_iff_eq.mpr c38
                              clear c38
                              replace H := Option.bind_eq_some_iff.mp H
                              obtain ⟨t185, A390, H⟩ := H
                              replace H : (some (t176 == t185)) = some r := H
                              have A39 := Aside0.mk A390
                              clear A390
                              obtain rfl := Option.some.inj H
                              go_wp2_with (first | (go_at_call 21; (with_reducible refine (headroomref09_Room.calls kj16 a1 a2 t184 _ A36.out).mono ?_); rintro e w' ⟨rfl, ⟨nd, rfl⟩⟩) | (go_at_call 22; (with_reducible refine (headroomref09_Pre.calls kj16 a0 a1 a2 t185 _ A39.out).mono ?_); rintro e w' ⟨rfl, ⟨nd, rfl⟩⟩))
                              go_ret
                              exact ⟨by first | rfl | (simp [errW_none, errW_some] <;> rfl) | (simp [*, errW_none, errW_some] <;> rfl), by repeat (first | (with_reducible first | exact HB.out | apply below_alloc | apply pw_below_drewN | apply below_drew1) | exact HB.out)⟩
                            · rw [if_neg c38] at H
                              have c38b0 : (x12_14 == 0) = false := beq_eq_false_iff_ne.mpr c38
                              have c38b1 : (x12_14 != 0) = true := bne_iff_ne.mpr c38
                              obtain rfl := Option.some.inj H
                              go_wp2_with (first | (go_at_call 21; (with_reducible refine (headroomref09_Room.calls kj16 a1 a2 t184 _ A36.out).mono ?_); rintro e w' ⟨rfl, ⟨nd, rfl⟩⟩))
                              go_ret
                              exact ⟨by first | rfl | (simp [errW_none, errW_some] <;> rfl) | (simp [*, errW_none, errW_some] <;> rfl), by repeat (first | (with_reducible first | exact HB.out | apply below_alloc | apply pw_below_drewN | apply below_drew1) | exact HB.out)⟩
                          · rw [if_neg c37] at H
                            have c37b0 : (t174 == t184) = false := beq_eq_false_iff_ne.mpr c37
                            have c37b1 : (t174 != t184) = true := bne_iff_ne.mpr c37
                            obtain rfl := Option.some.inj H
                            go_wp2_with (first | (go_at_call 21; (with_reducible refine (headroomref09_Room.calls kj16 a1 a2 t184 _ A36.out).mono ?_); rintro e w' ⟨rfl, ⟨nd, rfl⟩⟩))
                            go_ret
                            exact ⟨by first | rfl | (simp [errW_none, errW_some] <;> rfl) | (simp [*, errW_none, errW_some] <;> rfl), by repeat (first | (with_reducible first | exact HB.out | apply below_alloc | apply pw_below_drewN | apply below_drew1) | exact HB.out)⟩
                        · rw [if_neg c35] at H
                          have c35b0 : (x11_10 == 0) = false := beq_eq_false_iff_ne.mpr c35
                          have c35b1 : (x11_10 != 0) = true := bne_iff_ne.mpr c35
                          by_cases c40 : x12_14 = 0
                          · rw [if_pos c40] at H
                            have c40b0 : (x12_14 == 0) = true := beq_iff_eq.mpr c40
                            have c40b1 : (x12_14 != 0) = false := bne_eq_false_iff_eq.mpr c40
                            clear c40
                            replace H := Option.bind_eq_some_iff.mp H
                            obtain ⟨t186, A410, H⟩ := H
                            replace H : (some (t176 == t186)) = some r := H
                            have A41 := Aside0.mk A410
                            clear A410
                            obtain rfl := Option.some.inj H
                            go_wp2_with (first | (go_at_call 22; (with_reducible refine (headroomref09_Pre.calls kj16 a0 a1 a2 t186 _ A41.out).mono ?_); rintro e w' ⟨rfl, ⟨nd, rfl⟩⟩))
                            go_ret
                            exact ⟨by first | rfl | (simp [errW_none, errW_some] <;> rfl) | (simp [*, errW_none, errW_some] <;> rfl), by repeat (first | (with_reducible first | exact HB.out | apply below_alloc | apply pw_below_drewN | apply below_drew1) | exact HB.out)⟩
                          · rw [if_neg c40] at H
                            have c40b0 : (x12_14 == 0) = false := beq_eq_false_iff_ne.mpr c40
                            have c40b1 : (x12_14 != 0) = true := bne_iff_ne.mpr c40
                            obtain rfl := Option.some.inj H
                            go_wp2
                            go_ret
                            exact ⟨by first | rfl | (simp [errW_none, errW_some] <;> rfl) | (simp [*, errW_none, errW_some] <;> rfl), by repeat (first | (with_reducible first | exact HB.out | apply below_alloc | apply pw_below_drewN | apply below_drew1) | exact HB.out)⟩

/-- THE ONE PURE STATEMENT of headroomlaw09_ScanRooms. -/
def headroomlaw09_ScanRooms.Pure : Prop := ∀ (a0 : Int) (a1 : Int) (a2 : Int), (Lit.int .i64 a0).wf = true → (Lit.int .i64 a1).wf = true → (Lit.int .i64 a2).wf = true → ∃ k, headroomlaw09_ScanRooms.f k a0 a1 a2 = some true
theorem headroomlaw09_ScanRooms.walk (P : headroomlaw09_ScanRooms.Pure) (a0 : Int) (a1 : Int) (a2 : Int) (w : World) (w0_ : (Lit.int .i64 a0).wf = true) (w1_ : (Lit.int .i64 a1).wf = true) (w2_ : (Lit.int .i64 a2).wf = true) :
    Calls Try.prog 3 #[.int .i64 a0, .int .i64 a1, .int .i64 a2] w fun e w' => e = .returned (.bool true) ∧ Below w.heap.size w w' := by
  obtain ⟨k, h⟩ := P a0 a1 a2 w0_ w1_ w2_
  refine (headroomlaw09_ScanRooms.calls k a0 a1 a2 true w h).mono ?_
  rintro e w' ⟨rfl, hd⟩
  exact ⟨rfl, hd⟩

end Go.Proofs.Ytfemklaeonkidaa.P

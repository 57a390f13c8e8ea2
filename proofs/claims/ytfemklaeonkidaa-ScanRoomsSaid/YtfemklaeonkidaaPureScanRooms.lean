/- ScanRooms: the plain law. -/
import Derived.Test.YtfemklaeonkidaaPx14
import Derived.Test.YtfemklaeonkidaaPx15
import Derived.Test.YtfemklaeonkidaaPx17
import Derived.Test.YtfemklaeonkidaaPx4
import Derived.Test.YtfemklaeonkidaaPx5
import Derived.Test.YtfemklaeonkidaaLScan
import Derived.Test.YtfemklaeonkidaaLScanR
namespace Go.Proofs.Ytfemklaeonkidaa.Pure
open Go.RowKit Go.Proofs.Ytfemklaeonkidaa.P Go.Proofs.YtfemklaeonkidaaW.PrintWords Go.Proofs.YtfemklaeonkidaaW.PrintLast Go.Proofs.YtfemklaeonkidaaW.PrintMore Go.Proofs.YtfemklaeonkidaaW.Hand
set_option linter.unusedVariables false
set_option linter.unusedSimpArgs false
theorem j4_ok {k : Nat} {a0 a1 a2 r : Int} (hk : 300 ≤ k) (hf : a2 = 0 ∨ a2 = 1) (hr : headroomref09_Room.f (k - 1) a1 a2 = some r) : headroomlaw09_ScanRooms.j4 k a0 a1 a2 r (pre a0 a2 a1) 0 0 false = some true ∨ ¬ (a0 = 2 ∨ a0 = 4) := by
  obtain ⟨k, rfl⟩ : ∃ n, k = n + 1 := ⟨k - 1, by omega⟩
  by_cases hn : a0 = 2 ∨ a0 = 4
  · left
    rw [headroomlaw09_ScanRooms.j4, if_neg (by decide), if_pos rfl]
    rw [show k + 1 - 1 = k from rfl] at hr
    rw [hr, Option.bind_some, if_pos rfl, if_pos rfl, ref_Pre (by omega) hf hn, Option.bind_some, beq_self_eq_true]
  · exact .inr hn
theorem ScanRooms : headroomlaw09_ScanRooms.Pure := by
  intro a0 a1 a2 _ _ _
  refine ⟨1000, ?_⟩
  have hmg := mag_bd (fmt := a2)
  have hmay : headroomref09_May.f 1000 a1 a2 = some (decide (0 ≤ a1 ∧ a1 ≤ if a2 = 0 then 32768 else 2147483648)) := by
    unfold headroomref09_May.f
    have e : headroomref02_One.f 1000 a2 = some (if a2 = 0 then 32768 else 2147483648) := by
      by_cases h : a2 = 0
      · subst h
        exact ref_One (by decide) (.inl rfl)
      · unfold headroomref02_One.f headroomref02_Bits.f
        rw [if_neg h, if_neg h, Option.bind_some, ref_Pow (by decide) (by decide)]
        rfl
    by_cases h : a1 ≥ 0
    · rw [if_pos h, e, Option.bind_some]
      congr 1
      rw [decide_eq_decide]
      omega
    · rw [if_neg h, decide_eq_false (by omega)]
  unfold headroomlaw09_ScanRooms.f
  unfold scan_Pre.f
  rw [hmay]
  have al : ∀ n, headroomlaw09_alive.f (n + 200) = some true := fun n => scan_alive (by omega)
  have J0 : ∀ (k : Nat) a b c d e f, headroomlaw09_ScanRooms.j0 (k + 4 + 200) a0 a1 a2 a b c d e f = if a2 = 0 ∨ a2 = 1 then (if a0 = 2 ∨ a0 = 4 then headroomlaw09_ScanRooms.j3 (k + 1 + 200) a0 a1 a2 a b c d e f else headroomlaw09_ScanRooms.j3 (k + 1 + 200) a0 a1 a2 a b c d e 1) else (if a0 = 2 ∨ a0 = 4 then headroomlaw09_ScanRooms.j3 (k + 1 + 200) a0 a1 a2 a b c d 1 1 else headroomlaw09_ScanRooms.j3 (k + 1 + 200) a0 a1 a2 a b c d 1 1) := by
    intro k a b c d e f
    have J1 : ∀ e f, headroomlaw09_ScanRooms.j1 (k + 3 + 200) a0 a1 a2 a b c d e f = if a0 = 2 ∨ a0 = 4 then headroomlaw09_ScanRooms.j3 (k + 1 + 200) a0 a1 a2 a b c d e f else headroomlaw09_ScanRooms.j3 (k + 1 + 200) a0 a1 a2 a b c d e 1 := by
      intro e f
      rw [show k + 3 + 200 = k + 1 + 200 + 1 + 1 by omega, headroomlaw09_ScanRooms.j1]
      by_cases h2 : a0 = 2
      · rw [if_pos h2, if_pos (.inl h2), headroomlaw09_ScanRooms.j2, if_neg (by decide)]
      · rw [if_neg h2, headroomlaw09_ScanRooms.j2]
        by_cases h4 : a0 = 4
        · rw [if_pos (show a0 = 2 ∨ a0 = 4 from .inr h4), if_neg (by simp [h4])]
        · rw [if_neg (show ¬ (a0 = 2 ∨ a0 = 4) by omega), if_pos (by simp [h4])]
    rw [show k + 4 + 200 = k + 3 + 200 + 1 by omega, headroomlaw09_ScanRooms.j0, ref_Format, Option.bind_some]
    by_cases hf : a2 = 0 ∨ a2 = 1
    · rw [if_pos hf, if_pos (decide_eq_true hf), J1]
    · rw [if_neg hf, if_neg (by simp [hf]), J1]
  rw [show (1000 : Nat) = 796 + 4 + 200 from rfl]
  simp only [Option.bind_some, J0]
  have A := al 796
  by_cases hf : a2 = 0 ∨ a2 = 1
  · have hm2 : (if a2 = 0 then (32768 : Int) else 2147483648) = mag a2 := by
      unfold mag
      rcases hf with rfl | rfl <;> rfl
    rw [hm2]
    by_cases hr : 0 ≤ a1 ∧ a1 ≤ mag a2
    · obtain ⟨r, _, _, _, _, e⟩ := room_both hf hr.1 hr.2
      rw [(e _ (by decide)).1]
      simp only [Option.bind_some, if_pos hf, decide_eq_true hr, if_true, reduceIte]
      have hb : ¬ (a1 < 0 ∨ mag a2 < a1) := by omega
      by_cases hn : a0 = 2 ∨ a0 = 4
      · simp only [if_pos hn, if_pos (show (a2 = 0 ∨ a2 = 1) ∧ (a0 = 2 ∨ a0 = 4) from ⟨hf, hn⟩), if_neg hb]
        rw [show 796 + 1 + 200 = 996 + 1 from rfl, headroomlaw09_ScanRooms.j3]
        simp only [reduceIte, al 796, Option.bind_some, Bool.not_true]
        exact (j4_ok (by decide) hf (e _ (by decide)).2).resolve_right (fun h => h hn)
      · simp only [if_neg hn, if_neg (show ¬ ((a2 = 0 ∨ a2 = 1) ∧ (a0 = 2 ∨ a0 = 4)) from fun h => hn h.2)]
        rw [show 796 + 1 + 200 = 996 + 1 from rfl, headroomlaw09_ScanRooms.j3]
        simp only [reduceIte, al 796, Option.bind_some, Bool.not_true, Int.reduceEq]
        rw [show 996 = 995 + 1 from rfl, headroomlaw09_ScanRooms.j4, (e _ (by decide)).2]
        simp
    · rw [scan_Room_bad (by decide) (by omega)]
      have hb : a1 < 0 ∨ mag a2 < a1 := by omega
      simp only [Option.bind_some, if_pos hf, decide_eq_false hr, if_false, reduceIte, Bool.false_eq_true]
      by_cases hn : a0 = 2 ∨ a0 = 4
      · simp only [if_pos hn, if_pos (show (a2 = 0 ∨ a2 = 1) ∧ (a0 = 2 ∨ a0 = 4) from ⟨hf, hn⟩), if_pos hb]
        rw [show 796 + 1 + 200 = 996 + 1 from rfl, headroomlaw09_ScanRooms.j3]
        simp only [reduceIte, al 796, Option.bind_some, Bool.not_true, Int.reduceEq]
        rw [show 996 = 995 + 1 from rfl, headroomlaw09_ScanRooms.j4]
        simp
      · simp only [if_neg hn, if_neg (show ¬ ((a2 = 0 ∨ a2 = 1) ∧ (a0 = 2 ∨ a0 = 4)) from fun h => hn h.2)]
        rw [show 796 + 1 + 200 = 996 + 1 from rfl, headroomlaw09_ScanRooms.j3]
        simp only [reduceIte, al 796, Option.bind_some, Bool.not_true, Int.reduceEq]
        rw [show 996 = 995 + 1 from rfl, headroomlaw09_ScanRooms.j4]
        simp
  · rw [scan_Room_bad (by decide) (fun h => hf h.1)]
    simp only [Option.bind_some, if_neg hf, if_neg (show ¬ ((a2 = 0 ∨ a2 = 1) ∧ (a0 = 2 ∨ a0 = 4)) from fun h => hf h.1), ite_self]
    rw [show 796 + 1 + 200 = 996 + 1 from rfl, headroomlaw09_ScanRooms.j3]
    simp only [reduceIte, al 796, Option.bind_some, Bool.not_true, Int.reduceEq]
    rw [show 996 = 995 + 1 from rfl, headroomlaw09_ScanRooms.j4]
    simp
end Go.Proofs.Ytfemklaeonkidaa.Pure

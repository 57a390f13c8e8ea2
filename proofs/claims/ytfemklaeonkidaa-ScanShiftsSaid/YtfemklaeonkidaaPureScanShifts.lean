/- ScanShifts: the plain law. -/
import Derived.Test.YtfemklaeonkidaaPx0
import Derived.Test.YtfemklaeonkidaaPx22
import Derived.Test.YtfemklaeonkidaaPx5
import Derived.Test.YtfemklaeonkidaaPx7
import Derived.Test.YtfemklaeonkidaaLScan
import Derived.Test.YtfemklaeonkidaaLScanR
import Derived.Test.YtfemklaeonkidaaLScanS
namespace Go.Proofs.Ytfemklaeonkidaa.Pure
open Go.RowKit Go.Proofs.Ytfemklaeonkidaa.P Go.Proofs.YtfemklaeonkidaaW.PrintWords Go.Proofs.YtfemklaeonkidaaW.PrintLast Go.Proofs.YtfemklaeonkidaaW.PrintMore Go.Proofs.YtfemklaeonkidaaW.Hand
set_option linter.unusedVariables false
set_option linter.unusedSimpArgs false
theorem ScanShifts : headroomlaw09_ScanShifts.Pure := by
  intro l0 a1 a2 _ _ hw h1 h2
  have h1 := wf64 h1
  refine ⟨3000, ?_⟩
  obtain ⟨c0, c1, c2⟩ := cut_eq l0
  have hw := wide_take (n := (mn (l0.length : Int) 70).toNat) hw
  unfold headroomlaw09_ScanShifts.f
  rw [if_pos c0, if_pos c1, Option.bind_some]
  generalize l0.take (mn (l0.length : Int) 70).toNat = l at *
  have al : ∀ n, headroomlaw09_alive.f (n + 200) = some true := fun n => scan_alive (by omega)
  unfold scan_Shifted.f
  rw [if_pos ⟨by omega, h1.1, h1.2⟩]
  by_cases hb : a2 < 0 ∨ 2 < a2 ∨ a1 < -62 ∨ 62 < a1
  · rw [if_pos hb, Option.bind_some]
    have J : headroomlaw09_ScanShifts.j0 3000 l a1 a2 [] 1 true = some true := by
      rw [show (3000 : Nat) = 2799 + 200 + 1 from rfl, headroomlaw09_ScanShifts.j0, if_pos rfl, al, Option.bind_some]
      rfl
    split
    · exact J
    · split
      · exact J
      · split
        · exact J
        · rw [decide_eq_true (by omega)]
          exact J
  · rw [if_neg hb]
    have hm : a2 = 0 ∨ a2 = 1 ∨ a2 = 2 := by omega
    by_cases hs : 0 ≤ a1
    · rw [if_pos hs, Option.bind_some, if_neg (by omega), if_neg (by omega), if_neg (by omega), decide_eq_false (by omega), show (3000 : Nat) = 2998 + 1 + 1 from rfl, headroomlaw09_ScanShifts.j0, if_neg (by decide), if_neg (by omega), headroomlaw09_ScanShifts.j1, if_neg (by decide)]
      rw [scan_alive (by decide), Option.bind_some, if_pos rfl, if_pos rfl, ref_Shifted_down (by omega) hw (by decide) (by omega) hm, Option.bind_some, same_self (by unfold shifted; rw [List.length_map]; omega) (by decide), Option.bind_some]
    · rw [if_neg hs]
      have e : (fun a : S37 => canUp (-a1) a.f0 && canUp (-a1) a.f1) = ups (-a1) := rfl
      rw [e]
      have hneg : wrap64 (-a1) = -a1 := w64 (by omega)
      cases hu : l.all (ups (-a1)) with
      | true =>
        rw [if_pos rfl, Option.bind_some, if_neg (by omega), if_neg (by omega), if_neg (by omega), decide_eq_false (by omega), show (3000 : Nat) = 2998 + 1 + 1 from rfl, headroomlaw09_ScanShifts.j0, if_neg (by decide), if_pos (by omega), hneg, ref_Ups (by omega) (by decide) (by omega), hu, Option.bind_some, headroomlaw09_ScanShifts.j1, if_neg (by decide)]
        have e2 := ref_Shifted_up (k := 2998) (m := a2) (s := -a1) (l := l) (by omega) (by decide) (by omega) hu
        rw [Int.neg_neg] at e2
        rw [scan_alive (by decide), Option.bind_some, if_pos rfl, if_pos rfl, e2, Option.bind_some, same_self (by unfold upped; rw [List.length_map]; omega) (by decide), Option.bind_some]
      | false =>
        rw [if_neg (by decide), Option.bind_some, if_neg (by omega), if_neg (by omega), if_neg (by omega), decide_eq_false (by omega), show (3000 : Nat) = 2998 + 1 + 1 from rfl, headroomlaw09_ScanShifts.j0, if_neg (by decide), if_pos (by omega), hneg, ref_Ups (by omega) (by decide) (by omega), hu, Option.bind_some, headroomlaw09_ScanShifts.j1, if_pos (by decide)]
        rw [scan_alive (by decide), Option.bind_some, if_pos rfl, if_pos rfl]
        rfl
end Go.Proofs.Ytfemklaeonkidaa.Pure

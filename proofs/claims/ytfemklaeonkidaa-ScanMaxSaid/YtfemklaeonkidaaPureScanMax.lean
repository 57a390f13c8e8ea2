/- ScanMax: the plain law. -/
import Derived.Test.YtfemklaeonkidaaPx14
import Derived.Test.YtfemklaeonkidaaLScan
import Derived.Test.YtfemklaeonkidaaLScanR
namespace Go.Proofs.Ytfemklaeonkidaa.Pure
open Go.RowKit Go.Proofs.Ytfemklaeonkidaa.P Go.Proofs.YtfemklaeonkidaaW.PrintWords Go.Proofs.YtfemklaeonkidaaW.PrintLast Go.Proofs.YtfemklaeonkidaaW.PrintMore Go.Proofs.YtfemklaeonkidaaW.Hand
set_option linter.unusedVariables false
set_option linter.unusedSimpArgs false
theorem ScanMax : headroomlaw09_ScanMax.Pure := by
  intro l0 _ _ _
  refine ⟨3000, ?_⟩
  obtain ⟨h0, h1, h2⟩ := cut_eq l0
  unfold headroomlaw09_ScanMax.f
  rw [if_pos h0, if_pos h1, Option.bind_some]
  generalize l0.take (mn (l0.length : Int) 70).toNat = l at *
  rw [scan_Max_eq (by omega) (by decide), Option.bind_some, ref_Narrow (by omega) (by decide), Option.bind_some, scan_alive (by decide)]
  unfold maxf
  cases h : l.all nar with
  | true =>
    rw [ref_Max (by omega) h (by decide)]
    simp
  | false => simp
end Go.Proofs.Ytfemklaeonkidaa.Pure

import Derived.Test.YtnnjjblgilibgaaGreatVqB
import Derived.Tactics
import Derived.Tactics2
import Derived.Defers
import Derived.Recover
import Derived.Laws.Pointers
/- Contract: why a call may not be, told by a panic that is recovered. -/
namespace Go.Proofs.YtnnjjblgilibgaaGreatV
open Go Go.RowKit
set_option linter.unusedVariables false
set_option linter.unusedSimpArgs false
set_option maxRecDepth 100000
set_option maxHeartbeats 40000000
theorem catch_stop (p : Addr) (x e : Int) (older : List PanicEntry) (w : World) (hc : w.cell? p = some (.int .i64 x)) (hz : w.frozen? p = false) :
    CallsD Tryz.prog 68 #[.pointer (some p)] (.panicking ({ v := .iface 102 (.int .i64 e), recovered := false } :: older)) w fun e' u' w' =>
      e' = .returned (.tuple #[]) ∧ u' = .panicking ({ v := .iface 102 (.int .i64 e), recovered := true } :: older) ∧ w' = w.setCell p (.int .i64 e) := by
  refine callsD_of_wpS Tryz.func68 rfl fun c₀ cs hu => ?_
  apply wpS_seq
  apply wpS_region
  simp [wpOpsS, go_sem, recoverD, hu, Tryz.ntmps68, Exit.thenS]
  have hta : (Instr.typeAssert (.iface 102 (.int .i64 e)) 20 102 true).run Tryz.prog w = .ok (.tuple #[.int .i64 e, .bool true]) w := by
    simp [Instr.typeAssert, run_underlying Tryz.underlying102]
  refine wpS_of_wp ?_
  go_wp2
  simp [bodyPostS, results, Tryz.results68]
theorem catch_idle (p : Addr) (w : World) :
    CallsD Tryz.prog 68 #[.pointer (some p)] .returning w fun e' u' w' => e' = .returned (.tuple #[]) ∧ u' = .returning ∧ w' = w := by
  refine callsD_of_wpS Tryz.func68 rfl fun c₀ cs hu => ?_
  apply wpS_seq
  apply wpS_region
  simp [wpOpsS, go_sem, recoverD, hu, Tryz.ntmps68, Exit.thenS]
  refine wpS_of_wp ?_
  go_wp2
  cases c₀
  simp_all [bodyPostS, results, Tryz.results68]
end Go.Proofs.YtnnjjblgilibgaaGreatV

import Derived.Test.YtnnjjblgilibgaaGreatVtL
import Derived.Test.YtnnjjblgilibgaaGreatVgA
/- Contract: the law's own call. -/
namespace Go.Proofs.YtnnjjblgilibgaaGreatV
open Go Go.RowKit
set_option linter.unusedVariables false
set_option linter.unusedSimpArgs false
set_option maxRecDepth 100000
set_option maxHeartbeats 40000000
theorem fine15 : Fine Tryz.prog 15 := fun _ _ => by kernel_rfl
theorem a_all : (rnB 0 2 0 2 0 Bool.false [(1, 0), (2, 0), (3, 0), (4, 0)]).xs = [(10, 0), (-2, 2), (-2, 0), (-2, -2)] ∧ (rnB 0 2 0 2 0 Bool.false [(1, 0), (2, 0), (3, 0), (4, 0)]).sat = Bool.false := by decide +kernel
theorem alive15.ok : Ok Tryz.prog 15 [] (.bool true) := by
  have hR := fRun.ok 0 0 2 0 Bool.false 2 (by decide) [(1, 0), (2, 0), (3, 0), (4, 0)] rfl (by unfold mants; decide)
  unfold blkV at hR
  rw [a_all.1, a_all.2] at hR
  have hR' : Ok Tryz.prog 13 [.sl 2 [[.int 1, .int 0], [.int 2, .int 0], [.int 3, .int 0], [.int 4, .int 0]], .agg [.int 0, .int 2, .int 0, .int 2, .int 0, .bool Bool.false]]
      (.tup [.agg [.sl 2 [[.int 10, .int 0], [.int (-2), .int 2], [.int (-2), .int 0], [.int (-2), .int (-2)]], .int (rnB 0 2 0 2 0 Bool.false [(1, 0), (2, 0), (3, 0), (4, 0)]).e, .bool Bool.false, .sl 1 (intRows (rnB 0 2 0 2 0 Bool.false [(1, 0), (2, 0), (3, 0), (4, 0)]).sh)], .int 0]) := hR
  generalize (rnB 0 2 0 2 0 Bool.false [(1, 0), (2, 0), (3, 0), (4, 0)]).e = e at hR'
  generalize (rnB 0 2 0 2 0 Bool.false [(1, 0), (2, 0), (3, 0), (4, 0)]).sh = sh at hR'
  clear hR
  refine ok_of (X := fun _ => []) (Z := fun r => Nat.beq r 1) (res := [ResultVar.tmp 0]) tok follows Tryz.func15 rfl rfl fine15 (by kernel_rfl) (by kernel_rfl) ?_
  simp only [evA, evB, evT, evD, seval]
  refine two_of tok (List.take 6 _) (List.drop 6 _) (List.take_append_drop 6 _).symm ?_
  simp only [evA, evB, evT, evD, seval, List.toList_toArray]
  refine ⟨⟨[(9, .agg [.int 0, .int 2, .int 0, .int 2, .int 0, .bool Bool.false]), (8, .sl 2 [[.int 1, .int 0], [.int 2, .int 0], [.int 3, .int 0], [.int 4, .int 0]])], [], 0⟩, weak_of (fun l => l) rfl ?_ ?_, ?_⟩
  · simp only [evA, evB, evT, evD, seval]
  · simp only [evA, evB, evT, evD, seval]
  simp only [evA, evB, evT, evD, seval]
  refine call_ok hR' (by simp only [evA, evB, evT, evD, seval, in_free]) ?_
  simp only [evA, evB, evT, evD, seval, in_free]
end Go.Proofs.YtnnjjblgilibgaaGreatV

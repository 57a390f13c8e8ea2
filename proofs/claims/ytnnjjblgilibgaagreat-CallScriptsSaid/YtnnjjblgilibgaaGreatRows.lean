/-
  No cell of these rows narrows 'for every input' (looked for: loops, veiled, ifaces, maps, wideKeys, modest, calm, conditions, laid).
  DERIVED. THE GIVEN ROWS OF THIS SEAT. 10 by the template 'for every input the law returns true; each argument reads behind the call as it read before'; 0 by the template 'total and deterministic' (their statements: YtnnjjblgilibgaaGreatTotals.lean).
  GIVEN WITH THE SEED: the statements are not yours to turn. If you find one false, say at which input.
  Laid BY PROGRAM, IN A SANDBOX (cutbox-rows.mjs): the forced cells as the released guide's own fill.sh prints them over the translation 5c59066135f53734… (all of the seat's roots in one cut). By AI agents, Wed Nov 11 2026. No macro, syntax, notation, axiom, sorry.
-/
import Derived.Test.YtnnjjblgilibgaaGreatChecked
import GoSem.Claim
import GoSem.ClaimJoined
import GoSem.ClaimMapViews
import Derived.JoinedTies
import Derived.KernelRfl
namespace Go.Proofs.YtnnjjblgilibgaaGreat
/- THE CELL 'sum', in the pinned program and in every row, IS THE sha256 OF THE DUMP (.gsa) THAT YtnnjjblgilibgaaGreatProg.lean LOADS. Nothing in Lean hashes anything: it is a label: what it is worth is what the hold of that sum in a sandbox is worth. -/
noncomputable def Tryz.pinned : Pinned := { name := "ytnnjjblgilibgaagreat", sum := "5c59066135f53734d75660769b7a60e94f87a5877e66661fa356858330976485", checked := Tryz.checked }
namespace Rows
def none {H : Type} : Left H := { results := [], args := [] }

/-- 'headroomlaw15.FftRuns': WHATEVER THE INPUT: true; the input reads as it did. -/
def fftRunsSpec : ChangeSpec := { name := "fftRuns", fn := fun _ => fun
  | [d1, d2] => { results := [.lit (.bool true)], args := [d1, d2] }
  | _ => none }
def fftRunsRow : OpenClaim := { program := "ytnnjjblgilibgaagreat", sum := "5c59066135f53734d75660769b7a60e94f87a5877e66661fa356858330976485", func := "headroom/headroomlaw15.FftRuns", spec := "fftRuns", unfollowed := true, recurses := true, apart := false }
def FftRunsSaid : Prop := fftRunsRow.holds Tryz.pinned (OpenSpec.ofChange fftRunsSpec)

/-- ITS FALSE NEIGHBOUR: 'it returns false'. Refute it at one input. -/
def fftRunsWrong : ChangeSpec := { name := "fftRuns", fn := fun _ => fun
  | [d1, d2] => { results := [.lit (.bool false)], args := [d1, d2] }
  | _ => none }
def FftRunsWrongFalsely : Prop := fftRunsRow.holds Tryz.pinned (OpenSpec.ofChange fftRunsWrong)

/-- 'headroomlaw15.FftReady': WHATEVER THE INPUT: true; the input reads as it did. -/
def fftReadySpec : ChangeSpec := { name := "fftReady", fn := fun _ => fun
  | [d1, d2] => { results := [.lit (.bool true)], args := [d1, d2] }
  | _ => none }
def fftReadyRow : OpenClaim := { program := "ytnnjjblgilibgaagreat", sum := "5c59066135f53734d75660769b7a60e94f87a5877e66661fa356858330976485", func := "headroom/headroomlaw15.FftReady", spec := "fftReady", unfollowed := true, recurses := true, apart := false }
def FftReadySaid : Prop := fftReadyRow.holds Tryz.pinned (OpenSpec.ofChange fftReadySpec)

/-- ITS FALSE NEIGHBOUR: 'it returns false'. Refute it at one input. -/
def fftReadyWrong : ChangeSpec := { name := "fftReady", fn := fun _ => fun
  | [d1, d2] => { results := [.lit (.bool false)], args := [d1, d2] }
  | _ => none }
def FftReadyWrongFalsely : Prop := fftReadyRow.holds Tryz.pinned (OpenSpec.ofChange fftReadyWrong)

/-- 'headroomlaw15.FftScales': WHATEVER THE INPUT: true; the input reads as it did. -/
def fftScalesSpec : ChangeSpec := { name := "fftScales", fn := fun _ => fun
  | [d1, d2, d3] => { results := [.lit (.bool true)], args := [d1, d2, d3] }
  | _ => none }
def fftScalesRow : OpenClaim := { program := "ytnnjjblgilibgaagreat", sum := "5c59066135f53734d75660769b7a60e94f87a5877e66661fa356858330976485", func := "headroom/headroomlaw15.FftScales", spec := "fftScales", unfollowed := true, recurses := true, apart := false }
def FftScalesSaid : Prop := fftScalesRow.holds Tryz.pinned (OpenSpec.ofChange fftScalesSpec)

/-- ITS FALSE NEIGHBOUR: 'it returns false'. Refute it at one input. -/
def fftScalesWrong : ChangeSpec := { name := "fftScales", fn := fun _ => fun
  | [d1, d2, d3] => { results := [.lit (.bool false)], args := [d1, d2, d3] }
  | _ => none }
def FftScalesWrongFalsely : Prop := fftScalesRow.holds Tryz.pinned (OpenSpec.ofChange fftScalesWrong)

/-- 'headroomlaw15.FftImpulse': WHATEVER THE INPUT: true; the input reads as it did. -/
def fftImpulseSpec : ChangeSpec := { name := "fftImpulse", fn := fun _ => fun
  | [d1, d2] => { results := [.lit (.bool true)], args := [d1, d2] }
  | _ => none }
def fftImpulseRow : OpenClaim := { program := "ytnnjjblgilibgaagreat", sum := "5c59066135f53734d75660769b7a60e94f87a5877e66661fa356858330976485", func := "headroom/headroomlaw15.FftImpulse", spec := "fftImpulse", unfollowed := true, recurses := true, apart := false }
def FftImpulseSaid : Prop := fftImpulseRow.holds Tryz.pinned (OpenSpec.ofChange fftImpulseSpec)

/-- ITS FALSE NEIGHBOUR: 'it returns false'. Refute it at one input. -/
def fftImpulseWrong : ChangeSpec := { name := "fftImpulse", fn := fun _ => fun
  | [d1, d2] => { results := [.lit (.bool false)], args := [d1, d2] }
  | _ => none }
def FftImpulseWrongFalsely : Prop := fftImpulseRow.holds Tryz.pinned (OpenSpec.ofChange fftImpulseWrong)

/-- 'headroomlaw15.FftPasses': WHATEVER THE INPUT: true; the input reads as it did. -/
def fftPassesSpec : ChangeSpec := { name := "fftPasses", fn := fun _ => fun
  | [d1, d2, d3] => { results := [.lit (.bool true)], args := [d1, d2, d3] }
  | _ => none }
def fftPassesRow : OpenClaim := { program := "ytnnjjblgilibgaagreat", sum := "5c59066135f53734d75660769b7a60e94f87a5877e66661fa356858330976485", func := "headroom/headroomlaw15.FftPasses", spec := "fftPasses", unfollowed := true, recurses := true, apart := false }
def FftPassesSaid : Prop := fftPassesRow.holds Tryz.pinned (OpenSpec.ofChange fftPassesSpec)

/-- ITS FALSE NEIGHBOUR: 'it returns false'. Refute it at one input. -/
def fftPassesWrong : ChangeSpec := { name := "fftPasses", fn := fun _ => fun
  | [d1, d2, d3] => { results := [.lit (.bool false)], args := [d1, d2, d3] }
  | _ => none }
def FftPassesWrongFalsely : Prop := fftPassesRow.holds Tryz.pinned (OpenSpec.ofChange fftPassesWrong)

/-- 'headroomlaw15.FftHolds': WHATEVER THE INPUT: true; the input reads as it did. -/
def fftHoldsSpec : ChangeSpec := { name := "fftHolds", fn := fun _ => fun
  | [d1, d2] => { results := [.lit (.bool true)], args := [d1, d2] }
  | _ => none }
def fftHoldsRow : OpenClaim := { program := "ytnnjjblgilibgaagreat", sum := "5c59066135f53734d75660769b7a60e94f87a5877e66661fa356858330976485", func := "headroom/headroomlaw15.FftHolds", spec := "fftHolds", unfollowed := true, recurses := true, apart := false }
def FftHoldsSaid : Prop := fftHoldsRow.holds Tryz.pinned (OpenSpec.ofChange fftHoldsSpec)

/-- ITS FALSE NEIGHBOUR: 'it returns false'. Refute it at one input. -/
def fftHoldsWrong : ChangeSpec := { name := "fftHolds", fn := fun _ => fun
  | [d1, d2] => { results := [.lit (.bool false)], args := [d1, d2] }
  | _ => none }
def FftHoldsWrongFalsely : Prop := fftHoldsRow.holds Tryz.pinned (OpenSpec.ofChange fftHoldsWrong)

/-- 'headroomlaw23.CallShapes': WHATEVER THE INPUT: true; the input reads as it did. -/
def callShapesSpec : ChangeSpec := { name := "callShapes", fn := fun _ => fun
  | [d1, d2, d3, d4] => { results := [.lit (.bool true)], args := [d1, d2, d3, d4] }
  | _ => none }
def callShapesRow : OpenClaim := { program := "ytnnjjblgilibgaagreat", sum := "5c59066135f53734d75660769b7a60e94f87a5877e66661fa356858330976485", func := "headroom/headroomlaw23.CallShapes", spec := "callShapes", unfollowed := true, recurses := true, apart := false }
def CallShapesSaid : Prop := callShapesRow.holds Tryz.pinned (OpenSpec.ofChange callShapesSpec)

/-- ITS FALSE NEIGHBOUR: 'it returns false'. Refute it at one input. -/
def callShapesWrong : ChangeSpec := { name := "callShapes", fn := fun _ => fun
  | [d1, d2, d3, d4] => { results := [.lit (.bool false)], args := [d1, d2, d3, d4] }
  | _ => none }
def CallShapesWrongFalsely : Prop := callShapesRow.holds Tryz.pinned (OpenSpec.ofChange callShapesWrong)

/-- 'headroomlaw23.CallLeaves': WHATEVER THE INPUT: true; the input reads as it did. -/
def callLeavesSpec : ChangeSpec := { name := "callLeaves", fn := fun _ => fun
  | [d1, d2, d3, d4] => { results := [.lit (.bool true)], args := [d1, d2, d3, d4] }
  | _ => none }
def callLeavesRow : OpenClaim := { program := "ytnnjjblgilibgaagreat", sum := "5c59066135f53734d75660769b7a60e94f87a5877e66661fa356858330976485", func := "headroom/headroomlaw23.CallLeaves", spec := "callLeaves", unfollowed := true, recurses := true, apart := false }
def CallLeavesSaid : Prop := callLeavesRow.holds Tryz.pinned (OpenSpec.ofChange callLeavesSpec)

/-- ITS FALSE NEIGHBOUR: 'it returns false'. Refute it at one input. -/
def callLeavesWrong : ChangeSpec := { name := "callLeaves", fn := fun _ => fun
  | [d1, d2, d3, d4] => { results := [.lit (.bool false)], args := [d1, d2, d3, d4] }
  | _ => none }
def CallLeavesWrongFalsely : Prop := callLeavesRow.holds Tryz.pinned (OpenSpec.ofChange callLeavesWrong)

/-- 'headroomlaw23.CallScripts': WHATEVER THE INPUT: true; the input reads as it did. -/
def callScriptsSpec : ChangeSpec := { name := "callScripts", fn := fun _ => fun
  | [d1, d2] => { results := [.lit (.bool true)], args := [d1, d2] }
  | _ => none }
def callScriptsRow : OpenClaim := { program := "ytnnjjblgilibgaagreat", sum := "5c59066135f53734d75660769b7a60e94f87a5877e66661fa356858330976485", func := "headroom/headroomlaw23.CallScripts", spec := "callScripts", unfollowed := true, recurses := true, apart := false }
def CallScriptsSaid : Prop := callScriptsRow.holds Tryz.pinned (OpenSpec.ofChange callScriptsSpec)

/-- ITS FALSE NEIGHBOUR: 'it returns false'. Refute it at one input. -/
def callScriptsWrong : ChangeSpec := { name := "callScripts", fn := fun _ => fun
  | [d1, d2] => { results := [.lit (.bool false)], args := [d1, d2] }
  | _ => none }
def CallScriptsWrongFalsely : Prop := callScriptsRow.holds Tryz.pinned (OpenSpec.ofChange callScriptsWrong)

/-- 'headroomlaw23.CallSplit': WHATEVER THE INPUT: true; the input reads as it did. -/
def callSplitSpec : ChangeSpec := { name := "callSplit", fn := fun _ => fun
  | [d1, d2, d3] => { results := [.lit (.bool true)], args := [d1, d2, d3] }
  | _ => none }
def callSplitRow : OpenClaim := { program := "ytnnjjblgilibgaagreat", sum := "5c59066135f53734d75660769b7a60e94f87a5877e66661fa356858330976485", func := "headroom/headroomlaw23.CallSplit", spec := "callSplit", unfollowed := true, recurses := true, apart := false }
def CallSplitSaid : Prop := callSplitRow.holds Tryz.pinned (OpenSpec.ofChange callSplitSpec)

/-- ITS FALSE NEIGHBOUR: 'it returns false'. Refute it at one input. -/
def callSplitWrong : ChangeSpec := { name := "callSplit", fn := fun _ => fun
  | [d1, d2, d3] => { results := [.lit (.bool false)], args := [d1, d2, d3] }
  | _ => none }
def CallSplitWrongFalsely : Prop := callSplitRow.holds Tryz.pinned (OpenSpec.ofChange callSplitWrong)

/- THE SECOND FORM. 'bulk': how many values and letters a reading holds, each counted each time it is reached (what is shared counts as often as it is met; a slice's spare places count too). A statement '..UptoSaid' is the law's where the arguments, and the package variables that the reading takes, are together of bulk at most 1048576: NARROWER than '..Said'. Prove '..Said' where nothing that the law and all that it calls make is longer than what came in: it says more and counts as full. Else prove '..UptoSaid'. A law counts once. -/
mutual
def uptoBulk {H : Type} : DataW H → Nat
  | .lit (.string bytes) => bytes.length + 1
  | .lit _ => 1
  | .nil => 1
  | .ptr d => uptoBulk d + 1
  | .slice elems spare => uptoBulkAll elems + uptoBulkAll spare + 1
  | .agg parts => uptoBulkAll parts + 1
  | .iface _ d => uptoBulk d + 1
  | .map entries => uptoBulkEntries entries + 1
  | .held _ => 1
def uptoBulkAll {H : Type} : List (DataW H) → Nat
  | [] => 0
  | d :: r => uptoBulk d + uptoBulkAll r
def uptoBulkEntries {H : Type} : List (Lit × DataW H) → Nat
  | [] => 0
  | x :: r => uptoBulkEntry x + uptoBulkEntries r
def uptoBulkEntry {H : Type} : Lit × DataW H → Nat
  | (.string bytes, d) => bytes.length + uptoBulk d + 1
  | (_, d) => uptoBulk d + 1
 end
def uptoSmall : (H : Type) → List (DataW H) → Bool := fun _ ds => decide (uptoBulkAll ds ≤ 1048576)
def OpenSpec.upto (s : _root_.Go.ChangeSpec) : _root_.Go.OpenSpec := { _root_.Go.OpenSpec.ofChange s with cond := some uptoSmall }

/-- 'headroomlaw15.FftRuns', WHERE WHAT IT READS IS OF BULK AT MOST 1048576: true; the input reads as it did. -/
def fftRunsUptoRow : OpenClaim := { program := "ytnnjjblgilibgaagreat", sum := "5c59066135f53734d75660769b7a60e94f87a5877e66661fa356858330976485", func := "headroom/headroomlaw15.FftRuns", spec := "fftRuns", unfollowed := true, recurses := true, apart := false, narrowed := true }
def FftRunsUptoSaid : Prop := fftRunsUptoRow.holds Tryz.pinned (OpenSpec.upto fftRunsSpec)

/-- 'headroomlaw15.FftReady', WHERE WHAT IT READS IS OF BULK AT MOST 1048576: true; the input reads as it did. -/
def fftReadyUptoRow : OpenClaim := { program := "ytnnjjblgilibgaagreat", sum := "5c59066135f53734d75660769b7a60e94f87a5877e66661fa356858330976485", func := "headroom/headroomlaw15.FftReady", spec := "fftReady", unfollowed := true, recurses := true, apart := false, narrowed := true }
def FftReadyUptoSaid : Prop := fftReadyUptoRow.holds Tryz.pinned (OpenSpec.upto fftReadySpec)

/-- 'headroomlaw15.FftScales', WHERE WHAT IT READS IS OF BULK AT MOST 1048576: true; the input reads as it did. -/
def fftScalesUptoRow : OpenClaim := { program := "ytnnjjblgilibgaagreat", sum := "5c59066135f53734d75660769b7a60e94f87a5877e66661fa356858330976485", func := "headroom/headroomlaw15.FftScales", spec := "fftScales", unfollowed := true, recurses := true, apart := false, narrowed := true }
def FftScalesUptoSaid : Prop := fftScalesUptoRow.holds Tryz.pinned (OpenSpec.upto fftScalesSpec)

/-- 'headroomlaw15.FftImpulse', WHERE WHAT IT READS IS OF BULK AT MOST 1048576: true; the input reads as it did. -/
def fftImpulseUptoRow : OpenClaim := { program := "ytnnjjblgilibgaagreat", sum := "5c59066135f53734d75660769b7a60e94f87a5877e66661fa356858330976485", func := "headroom/headroomlaw15.FftImpulse", spec := "fftImpulse", unfollowed := true, recurses := true, apart := false, narrowed := true }
def FftImpulseUptoSaid : Prop := fftImpulseUptoRow.holds Tryz.pinned (OpenSpec.upto fftImpulseSpec)

/-- 'headroomlaw15.FftPasses', WHERE WHAT IT READS IS OF BULK AT MOST 1048576: true; the input reads as it did. -/
def fftPassesUptoRow : OpenClaim := { program := "ytnnjjblgilibgaagreat", sum := "5c59066135f53734d75660769b7a60e94f87a5877e66661fa356858330976485", func := "headroom/headroomlaw15.FftPasses", spec := "fftPasses", unfollowed := true, recurses := true, apart := false, narrowed := true }
def FftPassesUptoSaid : Prop := fftPassesUptoRow.holds Tryz.pinned (OpenSpec.upto fftPassesSpec)

/-- 'headroomlaw15.FftHolds', WHERE WHAT IT READS IS OF BULK AT MOST 1048576: true; the input reads as it did. -/
def fftHoldsUptoRow : OpenClaim := { program := "ytnnjjblgilibgaagreat", sum := "5c59066135f53734d75660769b7a60e94f87a5877e66661fa356858330976485", func := "headroom/headroomlaw15.FftHolds", spec := "fftHolds", unfollowed := true, recurses := true, apart := false, narrowed := true }
def FftHoldsUptoSaid : Prop := fftHoldsUptoRow.holds Tryz.pinned (OpenSpec.upto fftHoldsSpec)

/-- 'headroomlaw23.CallShapes', WHERE WHAT IT READS IS OF BULK AT MOST 1048576: true; the input reads as it did. -/
def callShapesUptoRow : OpenClaim := { program := "ytnnjjblgilibgaagreat", sum := "5c59066135f53734d75660769b7a60e94f87a5877e66661fa356858330976485", func := "headroom/headroomlaw23.CallShapes", spec := "callShapes", unfollowed := true, recurses := true, apart := false, narrowed := true }
def CallShapesUptoSaid : Prop := callShapesUptoRow.holds Tryz.pinned (OpenSpec.upto callShapesSpec)

/-- 'headroomlaw23.CallLeaves', WHERE WHAT IT READS IS OF BULK AT MOST 1048576: true; the input reads as it did. -/
def callLeavesUptoRow : OpenClaim := { program := "ytnnjjblgilibgaagreat", sum := "5c59066135f53734d75660769b7a60e94f87a5877e66661fa356858330976485", func := "headroom/headroomlaw23.CallLeaves", spec := "callLeaves", unfollowed := true, recurses := true, apart := false, narrowed := true }
def CallLeavesUptoSaid : Prop := callLeavesUptoRow.holds Tryz.pinned (OpenSpec.upto callLeavesSpec)

/-- 'headroomlaw23.CallScripts', WHERE WHAT IT READS IS OF BULK AT MOST 1048576: true; the input reads as it did. -/
def callScriptsUptoRow : OpenClaim := { program := "ytnnjjblgilibgaagreat", sum := "5c59066135f53734d75660769b7a60e94f87a5877e66661fa356858330976485", func := "headroom/headroomlaw23.CallScripts", spec := "callScripts", unfollowed := true, recurses := true, apart := false, narrowed := true }
def CallScriptsUptoSaid : Prop := callScriptsUptoRow.holds Tryz.pinned (OpenSpec.upto callScriptsSpec)

/-- 'headroomlaw23.CallSplit', WHERE WHAT IT READS IS OF BULK AT MOST 1048576: true; the input reads as it did. -/
def callSplitUptoRow : OpenClaim := { program := "ytnnjjblgilibgaagreat", sum := "5c59066135f53734d75660769b7a60e94f87a5877e66661fa356858330976485", func := "headroom/headroomlaw23.CallSplit", spec := "callSplit", unfollowed := true, recurses := true, apart := false, narrowed := true }
def CallSplitUptoSaid : Prop := callSplitUptoRow.holds Tryz.pinned (OpenSpec.upto callSplitSpec)

end Rows
end Go.Proofs.YtnnjjblgilibgaaGreat

/-
  No cell of these rows narrows 'for every input' (looked for: loops, veiled, ifaces, maps, wideKeys, modest, calm, conditions, laid).
  DERIVED. THE GIVEN ROWS OF THIS SEAT. 4 by the template 'for every input the law returns true; each argument reads behind the call as it read before'; 0 by the template 'total and deterministic' (their statements: YtnnjjblgilibgaaTotals.lean).
  GIVEN WITH THE SEED: the statements are not yours to turn. If you find one false, say at which input.
  Laid BY PROGRAM, IN A SANDBOX (cutbox-rows.mjs): the forced cells as the released guide's own fill.sh prints them over the translation d40b4e2ffbab9843… (all of the seat's roots in one cut). By AI agents, Wed Nov 11 2026. No macro, syntax, notation, axiom, sorry.
-/
import Derived.Test.YtnnjjblgilibgaaChecked
import GoSem.Claim
import GoSem.ClaimJoined
import GoSem.ClaimMapViews
import Derived.JoinedTies
import Derived.KernelRfl
namespace Go.Proofs.Ytnnjjblgilibgaa
/- THE CELL 'sum', in the pinned program and in every row, IS THE sha256 OF THE DUMP (.gsa) THAT YtnnjjblgilibgaaProg.lean LOADS. Nothing in Lean hashes anything: it is a label: what it is worth is what the hold of that sum in a sandbox is worth. -/
noncomputable def Try.pinned : Pinned := { name := "ytnnjjblgilibgaa", sum := "d40b4e2ffbab9843f9f5536b2c11df36ecd68117bc90f231a98bb4d7bfc7bbe0", checked := Try.checked }
namespace Rows
def none {H : Type} : Left H := { results := [], args := [] }

/-- 'headroomlaw12.SplitRuns': WHATEVER THE INPUT: true; the input reads as it did. -/
def splitRunsSpec : ChangeSpec := { name := "splitRuns", fn := fun _ => fun
  | [d1, d2, d3, d4] => { results := [.lit (.bool true)], args := [d1, d2, d3, d4] }
  | _ => none }
def splitRunsRow : OpenClaim := { program := "ytnnjjblgilibgaa", sum := "d40b4e2ffbab9843f9f5536b2c11df36ecd68117bc90f231a98bb4d7bfc7bbe0", func := "headroom/headroomlaw12.SplitRuns", spec := "splitRuns", unfollowed := true, recurses := true, apart := false }
def SplitRunsSaid : Prop := splitRunsRow.holds Try.pinned (OpenSpec.ofChange splitRunsSpec)

/-- ITS FALSE NEIGHBOUR: 'it returns false'. Refute it at one input. -/
def splitRunsWrong : ChangeSpec := { name := "splitRuns", fn := fun _ => fun
  | [d1, d2, d3, d4] => { results := [.lit (.bool false)], args := [d1, d2, d3, d4] }
  | _ => none }
def SplitRunsWrongFalsely : Prop := splitRunsRow.holds Try.pinned (OpenSpec.ofChange splitRunsWrong)

/-- 'headroomlaw12.SplitSame': WHATEVER THE INPUT: true; the input reads as it did. -/
def splitSameSpec : ChangeSpec := { name := "splitSame", fn := fun _ => fun
  | [d1, d2, d3, d4, d5] => { results := [.lit (.bool true)], args := [d1, d2, d3, d4, d5] }
  | _ => none }
def splitSameRow : OpenClaim := { program := "ytnnjjblgilibgaa", sum := "d40b4e2ffbab9843f9f5536b2c11df36ecd68117bc90f231a98bb4d7bfc7bbe0", func := "headroom/headroomlaw12.SplitSame", spec := "splitSame", unfollowed := true, recurses := true, apart := false }
def SplitSameSaid : Prop := splitSameRow.holds Try.pinned (OpenSpec.ofChange splitSameSpec)

/-- ITS FALSE NEIGHBOUR: 'it returns false'. Refute it at one input. -/
def splitSameWrong : ChangeSpec := { name := "splitSame", fn := fun _ => fun
  | [d1, d2, d3, d4, d5] => { results := [.lit (.bool false)], args := [d1, d2, d3, d4, d5] }
  | _ => none }
def SplitSameWrongFalsely : Prop := splitSameRow.holds Try.pinned (OpenSpec.ofChange splitSameWrong)

/-- 'headroomlaw12.SplitWithin': WHATEVER THE INPUT: true; the input reads as it did. -/
def splitWithinSpec : ChangeSpec := { name := "splitWithin", fn := fun _ => fun
  | [d1, d2, d3, d4] => { results := [.lit (.bool true)], args := [d1, d2, d3, d4] }
  | _ => none }
def splitWithinRow : OpenClaim := { program := "ytnnjjblgilibgaa", sum := "d40b4e2ffbab9843f9f5536b2c11df36ecd68117bc90f231a98bb4d7bfc7bbe0", func := "headroom/headroomlaw12.SplitWithin", spec := "splitWithin", unfollowed := true, recurses := true, apart := false }
def SplitWithinSaid : Prop := splitWithinRow.holds Try.pinned (OpenSpec.ofChange splitWithinSpec)

/-- ITS FALSE NEIGHBOUR: 'it returns false'. Refute it at one input. -/
def splitWithinWrong : ChangeSpec := { name := "splitWithin", fn := fun _ => fun
  | [d1, d2, d3, d4] => { results := [.lit (.bool false)], args := [d1, d2, d3, d4] }
  | _ => none }
def SplitWithinWrongFalsely : Prop := splitWithinRow.holds Try.pinned (OpenSpec.ofChange splitWithinWrong)

/-- 'headroomlaw12.SplitJoins': WHATEVER THE INPUT: true; the input reads as it did. -/
def splitJoinsSpec : ChangeSpec := { name := "splitJoins", fn := fun _ => fun
  | [d1, d2, d3, d4, d5, d6, d7, d8, d9] => { results := [.lit (.bool true)], args := [d1, d2, d3, d4, d5, d6, d7, d8, d9] }
  | _ => none }
def splitJoinsRow : OpenClaim := { program := "ytnnjjblgilibgaa", sum := "d40b4e2ffbab9843f9f5536b2c11df36ecd68117bc90f231a98bb4d7bfc7bbe0", func := "headroom/headroomlaw12.SplitJoins", spec := "splitJoins", unfollowed := true, recurses := true, apart := false }
def SplitJoinsSaid : Prop := splitJoinsRow.holds Try.pinned (OpenSpec.ofChange splitJoinsSpec)

/-- ITS FALSE NEIGHBOUR: 'it returns false'. Refute it at one input. -/
def splitJoinsWrong : ChangeSpec := { name := "splitJoins", fn := fun _ => fun
  | [d1, d2, d3, d4, d5, d6, d7, d8, d9] => { results := [.lit (.bool false)], args := [d1, d2, d3, d4, d5, d6, d7, d8, d9] }
  | _ => none }
def SplitJoinsWrongFalsely : Prop := splitJoinsRow.holds Try.pinned (OpenSpec.ofChange splitJoinsWrong)

/- THE SECOND FORM. 'bulk': how many values and letters a reading holds, each counted each time it is reached (what is shared counts as often as it is met; a slice's spare places count too). A statement '..UptoSaid' is the law's where the arguments, and the package variables that the reading takes, are together of bulk at most 1048576: NARROWER than '..Said'. Prove '..Said' where nothing that the law and all that it calls make is longer than what came in: it says more and counts as full. Else prove '..UptoSaid'. A law counts once. -/
mutual
def uptoBulk {H : Type} : DataW H → Nat
  | .lit (.string bytes) => bytes.length + 1
  | .lit _ => 1
  | .nil => 1
  | .ptr d => uptoBulk d + 1
  | .slice elems spare => uptoBulkAll elems + uptoBulkAll spare + 1
  | .agg parts => uptoBulkAll parts + 1
  | .iface _ d => uptoBulk d + 1
  | .map entries => uptoBulkEntries entries + 1
  | .held _ => 1
def uptoBulkAll {H : Type} : List (DataW H) → Nat
  | [] => 0
  | d :: r => uptoBulk d + uptoBulkAll r
def uptoBulkEntries {H : Type} : List (Lit × DataW H) → Nat
  | [] => 0
  | x :: r => uptoBulkEntry x + uptoBulkEntries r
def uptoBulkEntry {H : Type} : Lit × DataW H → Nat
  | (.string bytes, d) => bytes.length + uptoBulk d + 1
  | (_, d) => uptoBulk d + 1
 end
def uptoSmall : (H : Type) → List (DataW H) → Bool := fun _ ds => decide (uptoBulkAll ds ≤ 1048576)
def OpenSpec.upto (s : _root_.Go.ChangeSpec) : _root_.Go.OpenSpec := { _root_.Go.OpenSpec.ofChange s with cond := some uptoSmall }

/-- 'headroomlaw12.SplitRuns', WHERE WHAT IT READS IS OF BULK AT MOST 1048576: true; the input reads as it did. -/
def splitRunsUptoRow : OpenClaim := { program := "ytnnjjblgilibgaa", sum := "d40b4e2ffbab9843f9f5536b2c11df36ecd68117bc90f231a98bb4d7bfc7bbe0", func := "headroom/headroomlaw12.SplitRuns", spec := "splitRuns", unfollowed := true, recurses := true, apart := false, narrowed := true }
def SplitRunsUptoSaid : Prop := splitRunsUptoRow.holds Try.pinned (OpenSpec.upto splitRunsSpec)

/-- 'headroomlaw12.SplitSame', WHERE WHAT IT READS IS OF BULK AT MOST 1048576: true; the input reads as it did. -/
def splitSameUptoRow : OpenClaim := { program := "ytnnjjblgilibgaa", sum := "d40b4e2ffbab9843f9f5536b2c11df36ecd68117bc90f231a98bb4d7bfc7bbe0", func := "headroom/headroomlaw12.SplitSame", spec := "splitSame", unfollowed := true, recurses := true, apart := false, narrowed := true }
def SplitSameUptoSaid : Prop := splitSameUptoRow.holds Try.pinned (OpenSpec.upto splitSameSpec)

/-- 'headroomlaw12.SplitWithin', WHERE WHAT IT READS IS OF BULK AT MOST 1048576: true; the input reads as it did. -/
def splitWithinUptoRow : OpenClaim := { program := "ytnnjjblgilibgaa", sum := "d40b4e2ffbab9843f9f5536b2c11df36ecd68117bc90f231a98bb4d7bfc7bbe0", func := "headroom/headroomlaw12.SplitWithin", spec := "splitWithin", unfollowed := true, recurses := true, apart := false, narrowed := true }
def SplitWithinUptoSaid : Prop := splitWithinUptoRow.holds Try.pinned (OpenSpec.upto splitWithinSpec)

/-- 'headroomlaw12.SplitJoins', WHERE WHAT IT READS IS OF BULK AT MOST 1048576: true; the input reads as it did. -/
def splitJoinsUptoRow : OpenClaim := { program := "ytnnjjblgilibgaa", sum := "d40b4e2ffbab9843f9f5536b2c11df36ecd68117bc90f231a98bb4d7bfc7bbe0", func := "headroom/headroomlaw12.SplitJoins", spec := "splitJoins", unfollowed := true, recurses := true, apart := false, narrowed := true }
def SplitJoinsUptoSaid : Prop := splitJoinsUptoRow.holds Try.pinned (OpenSpec.upto splitJoinsSpec)

end Rows
end Go.Proofs.Ytnnjjblgilibgaa

/-
  No cell of these rows narrows 'for every input' (looked for: loops, veiled, ifaces, maps, wideKeys, modest, calm, conditions, laid).
  DERIVED. THE GIVEN ROWS OF THIS SEAT. 15 by the template 'for every input the law returns true; each argument reads behind the call as it read before'; 0 by the template 'total and deterministic' (their statements: YtfmhdfaelgkmcaaTotals.lean).
  GIVEN WITH THE SEED: the statements are not yours to turn. If you find one false, say at which input.
  Laid BY PROGRAM, IN A SANDBOX (cutbox-rows.mjs): the forced cells as the released guide's own fill.sh prints them over the translation 96bd8de59af3fb03… (all of the seat's roots in one cut). By AI agents, Wed Nov 11 2026. No macro, syntax, notation, axiom, sorry.
-/
import Derived.Test.YtfmhdfaelgkmcaaChecked
import GoSem.Claim
import GoSem.ClaimJoined
import GoSem.ClaimMapViews
import Derived.JoinedTies
import Derived.KernelRfl
namespace Go.Proofs.Ytfmhdfaelgkmcaa
/- THE CELL 'sum', in the pinned program and in every row, IS THE sha256 OF THE DUMP (.gsa) THAT YtfmhdfaelgkmcaaProg.lean LOADS. Nothing in Lean hashes anything: it is a label: what it is worth is what the hold of that sum in a sandbox is worth. -/
noncomputable def Try.pinned : Pinned := { name := "ytfmhdfaelgkmcaa", sum := "96bd8de59af3fb03411c1c3b78d66274eff594b1c1f1c5d1f1f5a12c7a6d130c", checked := Try.checked }
namespace Rows
def none {H : Type} : Left H := { results := [], args := [] }

/-- 'headroomlaw07.RootsTells': WHATEVER THE INPUT: true; the input reads as it did. -/
def rootsTellsSpec : ChangeSpec := { name := "rootsTells", fn := fun _ => fun
  | [d1, d2, d3] => { results := [.lit (.bool true)], args := [d1, d2, d3] }
  | _ => none }
def rootsTellsRow : OpenClaim := { program := "ytfmhdfaelgkmcaa", sum := "96bd8de59af3fb03411c1c3b78d66274eff594b1c1f1c5d1f1f5a12c7a6d130c", func := "headroom/headroomlaw07.RootsTells", spec := "rootsTells", unfollowed := true, recurses := true, apart := false }
def RootsTellsSaid : Prop := rootsTellsRow.holds Try.pinned (OpenSpec.ofChange rootsTellsSpec)

/-- ITS FALSE NEIGHBOUR: 'it returns false'. Refute it at one input. -/
def rootsTellsWrong : ChangeSpec := { name := "rootsTells", fn := fun _ => fun
  | [d1, d2, d3] => { results := [.lit (.bool false)], args := [d1, d2, d3] }
  | _ => none }
def RootsTellsWrongFalsely : Prop := rootsTellsRow.holds Try.pinned (OpenSpec.ofChange rootsTellsWrong)

/-- 'headroomlaw07.RootsTurn': WHATEVER THE INPUT: true; the input reads as it did. -/
def rootsTurnSpec : ChangeSpec := { name := "rootsTurn", fn := fun _ => fun
  | [d1, d2, d3] => { results := [.lit (.bool true)], args := [d1, d2, d3] }
  | _ => none }
def rootsTurnRow : OpenClaim := { program := "ytfmhdfaelgkmcaa", sum := "96bd8de59af3fb03411c1c3b78d66274eff594b1c1f1c5d1f1f5a12c7a6d130c", func := "headroom/headroomlaw07.RootsTurn", spec := "rootsTurn", unfollowed := true, recurses := true, apart := false }
def RootsTurnSaid : Prop := rootsTurnRow.holds Try.pinned (OpenSpec.ofChange rootsTurnSpec)

/-- ITS FALSE NEIGHBOUR: 'it returns false'. Refute it at one input. -/
def rootsTurnWrong : ChangeSpec := { name := "rootsTurn", fn := fun _ => fun
  | [d1, d2, d3] => { results := [.lit (.bool false)], args := [d1, d2, d3] }
  | _ => none }
def RootsTurnWrongFalsely : Prop := rootsTurnRow.holds Try.pinned (OpenSpec.ofChange rootsTurnWrong)

/-- 'headroomlaw07.RootsProduct': WHATEVER THE INPUT: true; the input reads as it did. -/
def rootsProductSpec : ChangeSpec := { name := "rootsProduct", fn := fun _ => fun
  | [d1, d2, d3, d4] => { results := [.lit (.bool true)], args := [d1, d2, d3, d4] }
  | _ => none }
def rootsProductRow : OpenClaim := { program := "ytfmhdfaelgkmcaa", sum := "96bd8de59af3fb03411c1c3b78d66274eff594b1c1f1c5d1f1f5a12c7a6d130c", func := "headroom/headroomlaw07.RootsProduct", spec := "rootsProduct", unfollowed := true, recurses := true, apart := false }
def RootsProductSaid : Prop := rootsProductRow.holds Try.pinned (OpenSpec.ofChange rootsProductSpec)

/-- ITS FALSE NEIGHBOUR: 'it returns false'. Refute it at one input. -/
def rootsProductWrong : ChangeSpec := { name := "rootsProduct", fn := fun _ => fun
  | [d1, d2, d3, d4] => { results := [.lit (.bool false)], args := [d1, d2, d3, d4] }
  | _ => none }
def RootsProductWrongFalsely : Prop := rootsProductRow.holds Try.pinned (OpenSpec.ofChange rootsProductWrong)

/-- 'headroomlaw07.RootsTables': WHATEVER THE INPUT: true; the input reads as it did. -/
def rootsTablesSpec : ChangeSpec := { name := "rootsTables", fn := fun _ => fun
  | [d1, d2, d3] => { results := [.lit (.bool true)], args := [d1, d2, d3] }
  | _ => none }
def rootsTablesRow : OpenClaim := { program := "ytfmhdfaelgkmcaa", sum := "96bd8de59af3fb03411c1c3b78d66274eff594b1c1f1c5d1f1f5a12c7a6d130c", func := "headroom/headroomlaw07.RootsTables", spec := "rootsTables", unfollowed := true, recurses := true, apart := false }
def RootsTablesSaid : Prop := rootsTablesRow.holds Try.pinned (OpenSpec.ofChange rootsTablesSpec)

/-- ITS FALSE NEIGHBOUR: 'it returns false'. Refute it at one input. -/
def rootsTablesWrong : ChangeSpec := { name := "rootsTables", fn := fun _ => fun
  | [d1, d2, d3] => { results := [.lit (.bool false)], args := [d1, d2, d3] }
  | _ => none }
def RootsTablesWrongFalsely : Prop := rootsTablesRow.holds Try.pinned (OpenSpec.ofChange rootsTablesWrong)

/-- 'headroomlaw19.WindowMirrors': WHATEVER THE INPUT: true; the input reads as it did. -/
def windowMirrorsSpec : ChangeSpec := { name := "windowMirrors", fn := fun _ => fun
  | [d1, d2, d3] => { results := [.lit (.bool true)], args := [d1, d2, d3] }
  | _ => none }
def windowMirrorsRow : OpenClaim := { program := "ytfmhdfaelgkmcaa", sum := "96bd8de59af3fb03411c1c3b78d66274eff594b1c1f1c5d1f1f5a12c7a6d130c", func := "headroom/headroomlaw19.WindowMirrors", spec := "windowMirrors", unfollowed := true, recurses := true, apart := false }
def WindowMirrorsSaid : Prop := windowMirrorsRow.holds Try.pinned (OpenSpec.ofChange windowMirrorsSpec)

/-- ITS FALSE NEIGHBOUR: 'it returns false'. Refute it at one input. -/
def windowMirrorsWrong : ChangeSpec := { name := "windowMirrors", fn := fun _ => fun
  | [d1, d2, d3] => { results := [.lit (.bool false)], args := [d1, d2, d3] }
  | _ => none }
def WindowMirrorsWrongFalsely : Prop := windowMirrorsRow.holds Try.pinned (OpenSpec.ofChange windowMirrorsWrong)

/-- 'headroomlaw19.WindowTables': WHATEVER THE INPUT: true; the input reads as it did. -/
def windowTablesSpec : ChangeSpec := { name := "windowTables", fn := fun _ => fun
  | [d1, d2, d3] => { results := [.lit (.bool true)], args := [d1, d2, d3] }
  | _ => none }
def windowTablesRow : OpenClaim := { program := "ytfmhdfaelgkmcaa", sum := "96bd8de59af3fb03411c1c3b78d66274eff594b1c1f1c5d1f1f5a12c7a6d130c", func := "headroom/headroomlaw19.WindowTables", spec := "windowTables", unfollowed := true, recurses := true, apart := false }
def WindowTablesSaid : Prop := windowTablesRow.holds Try.pinned (OpenSpec.ofChange windowTablesSpec)

/-- ITS FALSE NEIGHBOUR: 'it returns false'. Refute it at one input. -/
def windowTablesWrong : ChangeSpec := { name := "windowTables", fn := fun _ => fun
  | [d1, d2, d3] => { results := [.lit (.bool false)], args := [d1, d2, d3] }
  | _ => none }
def WindowTablesWrongFalsely : Prop := windowTablesRow.holds Try.pinned (OpenSpec.ofChange windowTablesWrong)

/-- 'headroomlaw21.SingleQuarters': WHATEVER THE INPUT: true; the input reads as it did. -/
def singleQuartersSpec : ChangeSpec := { name := "singleQuarters", fn := fun _ => fun
  | [d1, d2] => { results := [.lit (.bool true)], args := [d1, d2] }
  | _ => none }
def singleQuartersRow : OpenClaim := { program := "ytfmhdfaelgkmcaa", sum := "96bd8de59af3fb03411c1c3b78d66274eff594b1c1f1c5d1f1f5a12c7a6d130c", func := "headroom/headroomlaw21.SingleQuarters", spec := "singleQuarters", unfollowed := true, recurses := true, apart := false }
def SingleQuartersSaid : Prop := singleQuartersRow.holds Try.pinned (OpenSpec.ofChange singleQuartersSpec)

/-- ITS FALSE NEIGHBOUR: 'it returns false'. Refute it at one input. -/
def singleQuartersWrong : ChangeSpec := { name := "singleQuarters", fn := fun _ => fun
  | [d1, d2] => { results := [.lit (.bool false)], args := [d1, d2] }
  | _ => none }
def SingleQuartersWrongFalsely : Prop := singleQuartersRow.holds Try.pinned (OpenSpec.ofChange singleQuartersWrong)

/-- 'headroomlaw21.SingleBins': WHATEVER THE INPUT: true; the input reads as it did. -/
def singleBinsSpec : ChangeSpec := { name := "singleBins", fn := fun _ => fun
  | [d1, d2] => { results := [.lit (.bool true)], args := [d1, d2] }
  | _ => none }
def singleBinsRow : OpenClaim := { program := "ytfmhdfaelgkmcaa", sum := "96bd8de59af3fb03411c1c3b78d66274eff594b1c1f1c5d1f1f5a12c7a6d130c", func := "headroom/headroomlaw21.SingleBins", spec := "singleBins", unfollowed := true, recurses := true, apart := false }
def SingleBinsSaid : Prop := singleBinsRow.holds Try.pinned (OpenSpec.ofChange singleBinsSpec)

/-- ITS FALSE NEIGHBOUR: 'it returns false'. Refute it at one input. -/
def singleBinsWrong : ChangeSpec := { name := "singleBins", fn := fun _ => fun
  | [d1, d2] => { results := [.lit (.bool false)], args := [d1, d2] }
  | _ => none }
def SingleBinsWrongFalsely : Prop := singleBinsRow.holds Try.pinned (OpenSpec.ofChange singleBinsWrong)

/-- 'headroomlaw21.SingleMirrors': WHATEVER THE INPUT: true; the input reads as it did. -/
def singleMirrorsSpec : ChangeSpec := { name := "singleMirrors", fn := fun _ => fun
  | [d1, d2] => { results := [.lit (.bool true)], args := [d1, d2] }
  | _ => none }
def singleMirrorsRow : OpenClaim := { program := "ytfmhdfaelgkmcaa", sum := "96bd8de59af3fb03411c1c3b78d66274eff594b1c1f1c5d1f1f5a12c7a6d130c", func := "headroom/headroomlaw21.SingleMirrors", spec := "singleMirrors", unfollowed := true, recurses := true, apart := false }
def SingleMirrorsSaid : Prop := singleMirrorsRow.holds Try.pinned (OpenSpec.ofChange singleMirrorsSpec)

/-- ITS FALSE NEIGHBOUR: 'it returns false'. Refute it at one input. -/
def singleMirrorsWrong : ChangeSpec := { name := "singleMirrors", fn := fun _ => fun
  | [d1, d2] => { results := [.lit (.bool false)], args := [d1, d2] }
  | _ => none }
def SingleMirrorsWrongFalsely : Prop := singleMirrorsRow.holds Try.pinned (OpenSpec.ofChange singleMirrorsWrong)

/-- 'headroomlaw16.DftTurns': WHATEVER THE INPUT: true; the input reads as it did. -/
def dftTurnsSpec : ChangeSpec := { name := "dftTurns", fn := fun _ => fun
  | [d1, d2] => { results := [.lit (.bool true)], args := [d1, d2] }
  | _ => none }
def dftTurnsRow : OpenClaim := { program := "ytfmhdfaelgkmcaa", sum := "96bd8de59af3fb03411c1c3b78d66274eff594b1c1f1c5d1f1f5a12c7a6d130c", func := "headroom/headroomlaw16.DftTurns", spec := "dftTurns", unfollowed := true, recurses := true, apart := false }
def DftTurnsSaid : Prop := dftTurnsRow.holds Try.pinned (OpenSpec.ofChange dftTurnsSpec)

/-- ITS FALSE NEIGHBOUR: 'it returns false'. Refute it at one input. -/
def dftTurnsWrong : ChangeSpec := { name := "dftTurns", fn := fun _ => fun
  | [d1, d2] => { results := [.lit (.bool false)], args := [d1, d2] }
  | _ => none }
def DftTurnsWrongFalsely : Prop := dftTurnsRow.holds Try.pinned (OpenSpec.ofChange dftTurnsWrong)

/-- 'headroomlaw16.DftBins': WHATEVER THE INPUT: true; the input reads as it did. -/
def dftBinsSpec : ChangeSpec := { name := "dftBins", fn := fun _ => fun
  | [d1, d2, d3] => { results := [.lit (.bool true)], args := [d1, d2, d3] }
  | _ => none }
def dftBinsRow : OpenClaim := { program := "ytfmhdfaelgkmcaa", sum := "96bd8de59af3fb03411c1c3b78d66274eff594b1c1f1c5d1f1f5a12c7a6d130c", func := "headroom/headroomlaw16.DftBins", spec := "dftBins", unfollowed := true, recurses := true, apart := false }
def DftBinsSaid : Prop := dftBinsRow.holds Try.pinned (OpenSpec.ofChange dftBinsSpec)

/-- ITS FALSE NEIGHBOUR: 'it returns false'. Refute it at one input. -/
def dftBinsWrong : ChangeSpec := { name := "dftBins", fn := fun _ => fun
  | [d1, d2, d3] => { results := [.lit (.bool false)], args := [d1, d2, d3] }
  | _ => none }
def DftBinsWrongFalsely : Prop := dftBinsRow.holds Try.pinned (OpenSpec.ofChange dftBinsWrong)

/-- 'headroomlaw16.DftAll': WHATEVER THE INPUT: true; the input reads as it did. -/
def dftAllSpec : ChangeSpec := { name := "dftAll", fn := fun _ => fun
  | [d1, d2] => { results := [.lit (.bool true)], args := [d1, d2] }
  | _ => none }
def dftAllRow : OpenClaim := { program := "ytfmhdfaelgkmcaa", sum := "96bd8de59af3fb03411c1c3b78d66274eff594b1c1f1c5d1f1f5a12c7a6d130c", func := "headroom/headroomlaw16.DftAll", spec := "dftAll", unfollowed := true, recurses := true, apart := false }
def DftAllSaid : Prop := dftAllRow.holds Try.pinned (OpenSpec.ofChange dftAllSpec)

/-- ITS FALSE NEIGHBOUR: 'it returns false'. Refute it at one input. -/
def dftAllWrong : ChangeSpec := { name := "dftAll", fn := fun _ => fun
  | [d1, d2] => { results := [.lit (.bool false)], args := [d1, d2] }
  | _ => none }
def DftAllWrongFalsely : Prop := dftAllRow.holds Try.pinned (OpenSpec.ofChange dftAllWrong)

/-- 'headroomlaw19.WindowWeighs': WHATEVER THE INPUT: true; the input reads as it did. -/
def windowWeighsSpec : ChangeSpec := { name := "windowWeighs", fn := fun _ => fun
  | [d1, d2, d3, d4] => { results := [.lit (.bool true)], args := [d1, d2, d3, d4] }
  | _ => none }
def windowWeighsRow : OpenClaim := { program := "ytfmhdfaelgkmcaa", sum := "96bd8de59af3fb03411c1c3b78d66274eff594b1c1f1c5d1f1f5a12c7a6d130c", func := "headroom/headroomlaw19.WindowWeighs", spec := "windowWeighs", unfollowed := true, recurses := true, apart := false }
def WindowWeighsSaid : Prop := windowWeighsRow.holds Try.pinned (OpenSpec.ofChange windowWeighsSpec)

/-- ITS FALSE NEIGHBOUR: 'it returns false'. Refute it at one input. -/
def windowWeighsWrong : ChangeSpec := { name := "windowWeighs", fn := fun _ => fun
  | [d1, d2, d3, d4] => { results := [.lit (.bool false)], args := [d1, d2, d3, d4] }
  | _ => none }
def WindowWeighsWrongFalsely : Prop := windowWeighsRow.holds Try.pinned (OpenSpec.ofChange windowWeighsWrong)

/-- 'headroomlaw19.WindowLess': WHATEVER THE INPUT: true; the input reads as it did. -/
def windowLessSpec : ChangeSpec := { name := "windowLess", fn := fun _ => fun
  | [d1, d2, d3, d4] => { results := [.lit (.bool true)], args := [d1, d2, d3, d4] }
  | _ => none }
def windowLessRow : OpenClaim := { program := "ytfmhdfaelgkmcaa", sum := "96bd8de59af3fb03411c1c3b78d66274eff594b1c1f1c5d1f1f5a12c7a6d130c", func := "headroom/headroomlaw19.WindowLess", spec := "windowLess", unfollowed := true, recurses := true, apart := false }
def WindowLessSaid : Prop := windowLessRow.holds Try.pinned (OpenSpec.ofChange windowLessSpec)

/-- ITS FALSE NEIGHBOUR: 'it returns false'. Refute it at one input. -/
def windowLessWrong : ChangeSpec := { name := "windowLess", fn := fun _ => fun
  | [d1, d2, d3, d4] => { results := [.lit (.bool false)], args := [d1, d2, d3, d4] }
  | _ => none }
def WindowLessWrongFalsely : Prop := windowLessRow.holds Try.pinned (OpenSpec.ofChange windowLessWrong)

/-- 'headroomlaw16.DftSum': WHATEVER THE INPUT: true; the input reads as it did. -/
def dftSumSpec : ChangeSpec := { name := "dftSum", fn := fun _ => fun
  | [d1, d2] => { results := [.lit (.bool true)], args := [d1, d2] }
  | _ => none }
def dftSumRow : OpenClaim := { program := "ytfmhdfaelgkmcaa", sum := "96bd8de59af3fb03411c1c3b78d66274eff594b1c1f1c5d1f1f5a12c7a6d130c", func := "headroom/headroomlaw16.DftSum", spec := "dftSum", unfollowed := true, recurses := true, apart := false }
def DftSumSaid : Prop := dftSumRow.holds Try.pinned (OpenSpec.ofChange dftSumSpec)

/-- ITS FALSE NEIGHBOUR: 'it returns false'. Refute it at one input. -/
def dftSumWrong : ChangeSpec := { name := "dftSum", fn := fun _ => fun
  | [d1, d2] => { results := [.lit (.bool false)], args := [d1, d2] }
  | _ => none }
def DftSumWrongFalsely : Prop := dftSumRow.holds Try.pinned (OpenSpec.ofChange dftSumWrong)

/- THE SECOND FORM. 'bulk': how many values and letters a reading holds, each counted each time it is reached (what is shared counts as often as it is met; a slice's spare places count too). A statement '..UptoSaid' is the law's where the arguments, and the package variables that the reading takes, are together of bulk at most 1048576: NARROWER than '..Said'. Prove '..Said' where nothing that the law and all that it calls make is longer than what came in: it says more and counts as full. Else prove '..UptoSaid'. A law counts once. -/
mutual
def uptoBulk {H : Type} : DataW H → Nat
  | .lit (.string bytes) => bytes.length + 1
  | .lit _ => 1
  | .nil => 1
  | .ptr d => uptoBulk d + 1
  | .slice elems spare => uptoBulkAll elems + uptoBulkAll spare + 1
  | .agg parts => uptoBulkAll parts + 1
  | .iface _ d => uptoBulk d + 1
  | .map entries => uptoBulkEntries entries + 1
  | .held _ => 1
def uptoBulkAll {H : Type} : List (DataW H) → Nat
  | [] => 0
  | d :: r => uptoBulk d + uptoBulkAll r
def uptoBulkEntries {H : Type} : List (Lit × DataW H) → Nat
  | [] => 0
  | x :: r => uptoBulkEntry x + uptoBulkEntries r
def uptoBulkEntry {H : Type} : Lit × DataW H → Nat
  | (.string bytes, d) => bytes.length + uptoBulk d + 1
  | (_, d) => uptoBulk d + 1
 end
def uptoSmall : (H : Type) → List (DataW H) → Bool := fun _ ds => decide (uptoBulkAll ds ≤ 1048576)
def OpenSpec.upto (s : _root_.Go.ChangeSpec) : _root_.Go.OpenSpec := { _root_.Go.OpenSpec.ofChange s with cond := some uptoSmall }

/-- 'headroomlaw07.RootsTells', WHERE WHAT IT READS IS OF BULK AT MOST 1048576: true; the input reads as it did. -/
def rootsTellsUptoRow : OpenClaim := { program := "ytfmhdfaelgkmcaa", sum := "96bd8de59af3fb03411c1c3b78d66274eff594b1c1f1c5d1f1f5a12c7a6d130c", func := "headroom/headroomlaw07.RootsTells", spec := "rootsTells", unfollowed := true, recurses := true, apart := false, narrowed := true }
def RootsTellsUptoSaid : Prop := rootsTellsUptoRow.holds Try.pinned (OpenSpec.upto rootsTellsSpec)

/-- 'headroomlaw07.RootsTurn', WHERE WHAT IT READS IS OF BULK AT MOST 1048576: true; the input reads as it did. -/
def rootsTurnUptoRow : OpenClaim := { program := "ytfmhdfaelgkmcaa", sum := "96bd8de59af3fb03411c1c3b78d66274eff594b1c1f1c5d1f1f5a12c7a6d130c", func := "headroom/headroomlaw07.RootsTurn", spec := "rootsTurn", unfollowed := true, recurses := true, apart := false, narrowed := true }
def RootsTurnUptoSaid : Prop := rootsTurnUptoRow.holds Try.pinned (OpenSpec.upto rootsTurnSpec)

/-- 'headroomlaw07.RootsProduct', WHERE WHAT IT READS IS OF BULK AT MOST 1048576: true; the input reads as it did. -/
def rootsProductUptoRow : OpenClaim := { program := "ytfmhdfaelgkmcaa", sum := "96bd8de59af3fb03411c1c3b78d66274eff594b1c1f1c5d1f1f5a12c7a6d130c", func := "headroom/headroomlaw07.RootsProduct", spec := "rootsProduct", unfollowed := true, recurses := true, apart := false, narrowed := true }
def RootsProductUptoSaid : Prop := rootsProductUptoRow.holds Try.pinned (OpenSpec.upto rootsProductSpec)

/-- 'headroomlaw07.RootsTables', WHERE WHAT IT READS IS OF BULK AT MOST 1048576: true; the input reads as it did. -/
def rootsTablesUptoRow : OpenClaim := { program := "ytfmhdfaelgkmcaa", sum := "96bd8de59af3fb03411c1c3b78d66274eff594b1c1f1c5d1f1f5a12c7a6d130c", func := "headroom/headroomlaw07.RootsTables", spec := "rootsTables", unfollowed := true, recurses := true, apart := false, narrowed := true }
def RootsTablesUptoSaid : Prop := rootsTablesUptoRow.holds Try.pinned (OpenSpec.upto rootsTablesSpec)

/-- 'headroomlaw19.WindowMirrors', WHERE WHAT IT READS IS OF BULK AT MOST 1048576: true; the input reads as it did. -/
def windowMirrorsUptoRow : OpenClaim := { program := "ytfmhdfaelgkmcaa", sum := "96bd8de59af3fb03411c1c3b78d66274eff594b1c1f1c5d1f1f5a12c7a6d130c", func := "headroom/headroomlaw19.WindowMirrors", spec := "windowMirrors", unfollowed := true, recurses := true, apart := false, narrowed := true }
def WindowMirrorsUptoSaid : Prop := windowMirrorsUptoRow.holds Try.pinned (OpenSpec.upto windowMirrorsSpec)

/-- 'headroomlaw19.WindowTables', WHERE WHAT IT READS IS OF BULK AT MOST 1048576: true; the input reads as it did. -/
def windowTablesUptoRow : OpenClaim := { program := "ytfmhdfaelgkmcaa", sum := "96bd8de59af3fb03411c1c3b78d66274eff594b1c1f1c5d1f1f5a12c7a6d130c", func := "headroom/headroomlaw19.WindowTables", spec := "windowTables", unfollowed := true, recurses := true, apart := false, narrowed := true }
def WindowTablesUptoSaid : Prop := windowTablesUptoRow.holds Try.pinned (OpenSpec.upto windowTablesSpec)

/-- 'headroomlaw21.SingleQuarters', WHERE WHAT IT READS IS OF BULK AT MOST 1048576: true; the input reads as it did. -/
def singleQuartersUptoRow : OpenClaim := { program := "ytfmhdfaelgkmcaa", sum := "96bd8de59af3fb03411c1c3b78d66274eff594b1c1f1c5d1f1f5a12c7a6d130c", func := "headroom/headroomlaw21.SingleQuarters", spec := "singleQuarters", unfollowed := true, recurses := true, apart := false, narrowed := true }
def SingleQuartersUptoSaid : Prop := singleQuartersUptoRow.holds Try.pinned (OpenSpec.upto singleQuartersSpec)

/-- 'headroomlaw21.SingleBins', WHERE WHAT IT READS IS OF BULK AT MOST 1048576: true; the input reads as it did. -/
def singleBinsUptoRow : OpenClaim := { program := "ytfmhdfaelgkmcaa", sum := "96bd8de59af3fb03411c1c3b78d66274eff594b1c1f1c5d1f1f5a12c7a6d130c", func := "headroom/headroomlaw21.SingleBins", spec := "singleBins", unfollowed := true, recurses := true, apart := false, narrowed := true }
def SingleBinsUptoSaid : Prop := singleBinsUptoRow.holds Try.pinned (OpenSpec.upto singleBinsSpec)

/-- 'headroomlaw21.SingleMirrors', WHERE WHAT IT READS IS OF BULK AT MOST 1048576: true; the input reads as it did. -/
def singleMirrorsUptoRow : OpenClaim := { program := "ytfmhdfaelgkmcaa", sum := "96bd8de59af3fb03411c1c3b78d66274eff594b1c1f1c5d1f1f5a12c7a6d130c", func := "headroom/headroomlaw21.SingleMirrors", spec := "singleMirrors", unfollowed := true, recurses := true, apart := false, narrowed := true }
def SingleMirrorsUptoSaid : Prop := singleMirrorsUptoRow.holds Try.pinned (OpenSpec.upto singleMirrorsSpec)

/-- 'headroomlaw16.DftTurns', WHERE WHAT IT READS IS OF BULK AT MOST 1048576: true; the input reads as it did. -/
def dftTurnsUptoRow : OpenClaim := { program := "ytfmhdfaelgkmcaa", sum := "96bd8de59af3fb03411c1c3b78d66274eff594b1c1f1c5d1f1f5a12c7a6d130c", func := "headroom/headroomlaw16.DftTurns", spec := "dftTurns", unfollowed := true, recurses := true, apart := false, narrowed := true }
def DftTurnsUptoSaid : Prop := dftTurnsUptoRow.holds Try.pinned (OpenSpec.upto dftTurnsSpec)

/-- 'headroomlaw16.DftBins', WHERE WHAT IT READS IS OF BULK AT MOST 1048576: true; the input reads as it did. -/
def dftBinsUptoRow : OpenClaim := { program := "ytfmhdfaelgkmcaa", sum := "96bd8de59af3fb03411c1c3b78d66274eff594b1c1f1c5d1f1f5a12c7a6d130c", func := "headroom/headroomlaw16.DftBins", spec := "dftBins", unfollowed := true, recurses := true, apart := false, narrowed := true }
def DftBinsUptoSaid : Prop := dftBinsUptoRow.holds Try.pinned (OpenSpec.upto dftBinsSpec)

/-- 'headroomlaw16.DftAll', WHERE WHAT IT READS IS OF BULK AT MOST 1048576: true; the input reads as it did. -/
def dftAllUptoRow : OpenClaim := { program := "ytfmhdfaelgkmcaa", sum := "96bd8de59af3fb03411c1c3b78d66274eff594b1c1f1c5d1f1f5a12c7a6d130c", func := "headroom/headroomlaw16.DftAll", spec := "dftAll", unfollowed := true, recurses := true, apart := false, narrowed := true }
def DftAllUptoSaid : Prop := dftAllUptoRow.holds Try.pinned (OpenSpec.upto dftAllSpec)

/-- 'headroomlaw19.WindowWeighs', WHERE WHAT IT READS IS OF BULK AT MOST 1048576: true; the input reads as it did. -/
def windowWeighsUptoRow : OpenClaim := { program := "ytfmhdfaelgkmcaa", sum := "96bd8de59af3fb03411c1c3b78d66274eff594b1c1f1c5d1f1f5a12c7a6d130c", func := "headroom/headroomlaw19.WindowWeighs", spec := "windowWeighs", unfollowed := true, recurses := true, apart := false, narrowed := true }
def WindowWeighsUptoSaid : Prop := windowWeighsUptoRow.holds Try.pinned (OpenSpec.upto windowWeighsSpec)

/-- 'headroomlaw19.WindowLess', WHERE WHAT IT READS IS OF BULK AT MOST 1048576: true; the input reads as it did. -/
def windowLessUptoRow : OpenClaim := { program := "ytfmhdfaelgkmcaa", sum := "96bd8de59af3fb03411c1c3b78d66274eff594b1c1f1c5d1f1f5a12c7a6d130c", func := "headroom/headroomlaw19.WindowLess", spec := "windowLess", unfollowed := true, recurses := true, apart := false, narrowed := true }
def WindowLessUptoSaid : Prop := windowLessUptoRow.holds Try.pinned (OpenSpec.upto windowLessSpec)

/-- 'headroomlaw16.DftSum', WHERE WHAT IT READS IS OF BULK AT MOST 1048576: true; the input reads as it did. -/
def dftSumUptoRow : OpenClaim := { program := "ytfmhdfaelgkmcaa", sum := "96bd8de59af3fb03411c1c3b78d66274eff594b1c1f1c5d1f1f5a12c7a6d130c", func := "headroom/headroomlaw16.DftSum", spec := "dftSum", unfollowed := true, recurses := true, apart := false, narrowed := true }
def DftSumUptoSaid : Prop := dftSumUptoRow.holds Try.pinned (OpenSpec.upto dftSumSpec)

end Rows
end Go.Proofs.Ytfmhdfaelgkmcaa

/-
  No cell of these rows narrows 'for every input' (looked for: loops, veiled, ifaces, maps, wideKeys, modest, calm, conditions, laid).
  DERIVED. THE GIVEN ROWS OF THIS SEAT. 13 by the template 'for every input the law returns true; each argument reads behind the call as it read before'; 0 by the template 'total and deterministic' (their statements: YtfemklaeonkidaaTotals.lean).
  GIVEN WITH THE SEED: the statements are not yours to turn. If you find one false, say at which input.
  Laid BY PROGRAM, IN A SANDBOX (cutbox-rows.mjs): the forced cells as the released guide's own fill.sh prints them over the translation 247bc3d2ce0dd12d… (all of the seat's roots in one cut). By AI agents, Wed Nov 11 2026. No macro, syntax, notation, axiom, sorry.
-/
import Derived.Test.YtfemklaeonkidaaChecked
import GoSem.Claim
import GoSem.ClaimJoined
import GoSem.ClaimMapViews
import Derived.JoinedTies
import Derived.KernelRfl
namespace Go.Proofs.Ytfemklaeonkidaa
/- THE CELL 'sum', in the pinned program and in every row, IS THE sha256 OF THE DUMP (.gsa) THAT YtfemklaeonkidaaProg.lean LOADS. Nothing in Lean hashes anything: it is a label: what it is worth is what the hold of that sum in a sandbox is worth. -/
noncomputable def Try.pinned : Pinned := { name := "ytfemklaeonkidaa", sum := "247bc3d2ce0dd12d0994b8a1b8a9e08c84d5459769e9f988437f834687d8a37a", checked := Try.checked }
namespace Rows
def none {H : Type} : Left H := { results := [], args := [] }

/-- 'headroomlaw09.ScanRooms': WHATEVER THE INPUT: true; the input reads as it did. -/
def scanRoomsSpec : ChangeSpec := { name := "scanRooms", fn := fun _ => fun
  | [d1, d2, d3] => { results := [.lit (.bool true)], args := [d1, d2, d3] }
  | _ => none }
def scanRoomsRow : OpenClaim := { program := "ytfemklaeonkidaa", sum := "247bc3d2ce0dd12d0994b8a1b8a9e08c84d5459769e9f988437f834687d8a37a", func := "headroom/headroomlaw09.ScanRooms", spec := "scanRooms", recurses := true, apart := false }
def ScanRoomsSaid : Prop := scanRoomsRow.holds Try.pinned (OpenSpec.ofChange scanRoomsSpec)

/-- ITS FALSE NEIGHBOUR: 'it returns false'. Refute it at one input. -/
def scanRoomsWrong : ChangeSpec := { name := "scanRooms", fn := fun _ => fun
  | [d1, d2, d3] => { results := [.lit (.bool false)], args := [d1, d2, d3] }
  | _ => none }
def ScanRoomsWrongFalsely : Prop := scanRoomsRow.holds Try.pinned (OpenSpec.ofChange scanRoomsWrong)

/-- 'headroomlaw09.ScanMax': WHATEVER THE INPUT: true; the input reads as it did. -/
def scanMaxSpec : ChangeSpec := { name := "scanMax", fn := fun _ => fun
  | [d] => { results := [.lit (.bool true)], args := [d] }
  | _ => none }
def scanMaxRow : OpenClaim := { program := "ytfemklaeonkidaa", sum := "247bc3d2ce0dd12d0994b8a1b8a9e08c84d5459769e9f988437f834687d8a37a", func := "headroom/headroomlaw09.ScanMax", spec := "scanMax", apart := false }
def ScanMaxSaid : Prop := scanMaxRow.holds Try.pinned (OpenSpec.ofChange scanMaxSpec)

/-- ITS FALSE NEIGHBOUR: 'it returns false'. Refute it at one input. -/
def scanMaxWrong : ChangeSpec := { name := "scanMax", fn := fun _ => fun
  | [d] => { results := [.lit (.bool false)], args := [d] }
  | _ => none }
def ScanMaxWrongFalsely : Prop := scanMaxRow.holds Try.pinned (OpenSpec.ofChange scanMaxWrong)

/-- 'headroomlaw10.TwoPairs': WHATEVER THE INPUT: true; the input reads as it did. -/
def twoPairsSpec : ChangeSpec := { name := "twoPairs", fn := fun _ => fun
  | [d1, d2, d3, d4, d5, d6] => { results := [.lit (.bool true)], args := [d1, d2, d3, d4, d5, d6] }
  | _ => none }
def twoPairsRow : OpenClaim := { program := "ytfemklaeonkidaa", sum := "247bc3d2ce0dd12d0994b8a1b8a9e08c84d5459769e9f988437f834687d8a37a", func := "headroom/headroomlaw10.TwoPairs", spec := "twoPairs", unfollowed := true, recurses := true, apart := false }
def TwoPairsSaid : Prop := twoPairsRow.holds Try.pinned (OpenSpec.ofChange twoPairsSpec)

/-- ITS FALSE NEIGHBOUR: 'it returns false'. Refute it at one input. -/
def twoPairsWrong : ChangeSpec := { name := "twoPairs", fn := fun _ => fun
  | [d1, d2, d3, d4, d5, d6] => { results := [.lit (.bool false)], args := [d1, d2, d3, d4, d5, d6] }
  | _ => none }
def TwoPairsWrongFalsely : Prop := twoPairsRow.holds Try.pinned (OpenSpec.ofChange twoPairsWrong)

/-- 'headroomlaw10.TwoSums': WHATEVER THE INPUT: true; the input reads as it did. -/
def twoSumsSpec : ChangeSpec := { name := "twoSums", fn := fun _ => fun
  | [d1, d2, d3, d4, d5, d6] => { results := [.lit (.bool true)], args := [d1, d2, d3, d4, d5, d6] }
  | _ => none }
def twoSumsRow : OpenClaim := { program := "ytfemklaeonkidaa", sum := "247bc3d2ce0dd12d0994b8a1b8a9e08c84d5459769e9f988437f834687d8a37a", func := "headroom/headroomlaw10.TwoSums", spec := "twoSums", unfollowed := true, recurses := true, apart := false }
def TwoSumsSaid : Prop := twoSumsRow.holds Try.pinned (OpenSpec.ofChange twoSumsSpec)

/-- ITS FALSE NEIGHBOUR: 'it returns false'. Refute it at one input. -/
def twoSumsWrong : ChangeSpec := { name := "twoSums", fn := fun _ => fun
  | [d1, d2, d3, d4, d5, d6] => { results := [.lit (.bool false)], args := [d1, d2, d3, d4, d5, d6] }
  | _ => none }
def TwoSumsWrongFalsely : Prop := twoSumsRow.holds Try.pinned (OpenSpec.ofChange twoSumsWrong)

/-- 'headroomlaw09.ScanShifts': WHATEVER THE INPUT: true; the input reads as it did. -/
def scanShiftsSpec : ChangeSpec := { name := "scanShifts", fn := fun _ => fun
  | [d1, d2, d3] => { results := [.lit (.bool true)], args := [d1, d2, d3] }
  | _ => none }
def scanShiftsRow : OpenClaim := { program := "ytfemklaeonkidaa", sum := "247bc3d2ce0dd12d0994b8a1b8a9e08c84d5459769e9f988437f834687d8a37a", func := "headroom/headroomlaw09.ScanShifts", spec := "scanShifts", unfollowed := true, recurses := true, apart := false }
def ScanShiftsSaid : Prop := scanShiftsRow.holds Try.pinned (OpenSpec.ofChange scanShiftsSpec)

/-- ITS FALSE NEIGHBOUR: 'it returns false'. Refute it at one input. -/
def scanShiftsWrong : ChangeSpec := { name := "scanShifts", fn := fun _ => fun
  | [d1, d2, d3] => { results := [.lit (.bool false)], args := [d1, d2, d3] }
  | _ => none }
def ScanShiftsWrongFalsely : Prop := scanShiftsRow.holds Try.pinned (OpenSpec.ofChange scanShiftsWrong)

/-- 'headroomlaw09.ScanFits': WHATEVER THE INPUT: true; the input reads as it did. -/
def scanFitsSpec : ChangeSpec := { name := "scanFits", fn := fun _ => fun
  | [d1, d2, d3, d4] => { results := [.lit (.bool true)], args := [d1, d2, d3, d4] }
  | _ => none }
def scanFitsRow : OpenClaim := { program := "ytfemklaeonkidaa", sum := "247bc3d2ce0dd12d0994b8a1b8a9e08c84d5459769e9f988437f834687d8a37a", func := "headroom/headroomlaw09.ScanFits", spec := "scanFits", unfollowed := true, recurses := true, apart := false }
def ScanFitsSaid : Prop := scanFitsRow.holds Try.pinned (OpenSpec.ofChange scanFitsSpec)

/-- ITS FALSE NEIGHBOUR: 'it returns false'. Refute it at one input. -/
def scanFitsWrong : ChangeSpec := { name := "scanFits", fn := fun _ => fun
  | [d1, d2, d3, d4] => { results := [.lit (.bool false)], args := [d1, d2, d3, d4] }
  | _ => none }
def ScanFitsWrongFalsely : Prop := scanFitsRow.holds Try.pinned (OpenSpec.ofChange scanFitsWrong)

/-- 'headroomlaw11.FourQuads': WHATEVER THE INPUT: true; the input reads as it did. -/
def fourQuadsSpec : ChangeSpec := { name := "fourQuads", fn := fun _ => fun
  | [d1, d2, d3, d4, d5, d6] => { results := [.lit (.bool true)], args := [d1, d2, d3, d4, d5, d6] }
  | _ => none }
def fourQuadsRow : OpenClaim := { program := "ytfemklaeonkidaa", sum := "247bc3d2ce0dd12d0994b8a1b8a9e08c84d5459769e9f988437f834687d8a37a", func := "headroom/headroomlaw11.FourQuads", spec := "fourQuads", unfollowed := true, recurses := true, apart := false }
def FourQuadsSaid : Prop := fourQuadsRow.holds Try.pinned (OpenSpec.ofChange fourQuadsSpec)

/-- ITS FALSE NEIGHBOUR: 'it returns false'. Refute it at one input. -/
def fourQuadsWrong : ChangeSpec := { name := "fourQuads", fn := fun _ => fun
  | [d1, d2, d3, d4, d5, d6] => { results := [.lit (.bool false)], args := [d1, d2, d3, d4, d5, d6] }
  | _ => none }
def FourQuadsWrongFalsely : Prop := fourQuadsRow.holds Try.pinned (OpenSpec.ofChange fourQuadsWrong)

/-- 'headroomlaw11.FourSums': WHATEVER THE INPUT: true; the input reads as it did. -/
def fourSumsSpec : ChangeSpec := { name := "fourSums", fn := fun _ => fun
  | [d1, d2, d3, d4, d5, d6] => { results := [.lit (.bool true)], args := [d1, d2, d3, d4, d5, d6] }
  | _ => none }
def fourSumsRow : OpenClaim := { program := "ytfemklaeonkidaa", sum := "247bc3d2ce0dd12d0994b8a1b8a9e08c84d5459769e9f988437f834687d8a37a", func := "headroom/headroomlaw11.FourSums", spec := "fourSums", unfollowed := true, recurses := true, apart := false }
def FourSumsSaid : Prop := fourSumsRow.holds Try.pinned (OpenSpec.ofChange fourSumsSpec)

/-- ITS FALSE NEIGHBOUR: 'it returns false'. Refute it at one input. -/
def fourSumsWrong : ChangeSpec := { name := "fourSums", fn := fun _ => fun
  | [d1, d2, d3, d4, d5, d6] => { results := [.lit (.bool false)], args := [d1, d2, d3, d4, d5, d6] }
  | _ => none }
def FourSumsWrongFalsely : Prop := fourSumsRow.holds Try.pinned (OpenSpec.ofChange fourSumsWrong)

/-- 'headroomlaw10.TwoPasses': WHATEVER THE INPUT: true; the input reads as it did. -/
def twoPassesSpec : ChangeSpec := { name := "twoPasses", fn := fun _ => fun
  | [d1, d2, d3, d4, d5, d6, d7] => { results := [.lit (.bool true)], args := [d1, d2, d3, d4, d5, d6, d7] }
  | _ => none }
def twoPassesRow : OpenClaim := { program := "ytfemklaeonkidaa", sum := "247bc3d2ce0dd12d0994b8a1b8a9e08c84d5459769e9f988437f834687d8a37a", func := "headroom/headroomlaw10.TwoPasses", spec := "twoPasses", unfollowed := true, recurses := true, apart := false }
def TwoPassesSaid : Prop := twoPassesRow.holds Try.pinned (OpenSpec.ofChange twoPassesSpec)

/-- ITS FALSE NEIGHBOUR: 'it returns false'. Refute it at one input. -/
def twoPassesWrong : ChangeSpec := { name := "twoPasses", fn := fun _ => fun
  | [d1, d2, d3, d4, d5, d6, d7] => { results := [.lit (.bool false)], args := [d1, d2, d3, d4, d5, d6, d7] }
  | _ => none }
def TwoPassesWrongFalsely : Prop := twoPassesRow.holds Try.pinned (OpenSpec.ofChange twoPassesWrong)

/-- 'headroomlaw10.TwoGrows': WHATEVER THE INPUT: true; the input reads as it did. -/
def twoGrowsSpec : ChangeSpec := { name := "twoGrows", fn := fun _ => fun
  | [d1, d2, d3, d4, d5, d6, d7] => { results := [.lit (.bool true)], args := [d1, d2, d3, d4, d5, d6, d7] }
  | _ => none }
def twoGrowsRow : OpenClaim := { program := "ytfemklaeonkidaa", sum := "247bc3d2ce0dd12d0994b8a1b8a9e08c84d5459769e9f988437f834687d8a37a", func := "headroom/headroomlaw10.TwoGrows", spec := "twoGrows", unfollowed := true, recurses := true, apart := false }
def TwoGrowsSaid : Prop := twoGrowsRow.holds Try.pinned (OpenSpec.ofChange twoGrowsSpec)

/-- ITS FALSE NEIGHBOUR: 'it returns false'. Refute it at one input. -/
def twoGrowsWrong : ChangeSpec := { name := "twoGrows", fn := fun _ => fun
  | [d1, d2, d3, d4, d5, d6, d7] => { results := [.lit (.bool false)], args := [d1, d2, d3, d4, d5, d6, d7] }
  | _ => none }
def TwoGrowsWrongFalsely : Prop := twoGrowsRow.holds Try.pinned (OpenSpec.ofChange twoGrowsWrong)

/-- 'headroomlaw11.FourPasses': WHATEVER THE INPUT: true; the input reads as it did. -/
def fourPassesSpec : ChangeSpec := { name := "fourPasses", fn := fun _ => fun
  | [d1, d2, d3, d4, d5, d6, d7] => { results := [.lit (.bool true)], args := [d1, d2, d3, d4, d5, d6, d7] }
  | _ => none }
def fourPassesRow : OpenClaim := { program := "ytfemklaeonkidaa", sum := "247bc3d2ce0dd12d0994b8a1b8a9e08c84d5459769e9f988437f834687d8a37a", func := "headroom/headroomlaw11.FourPasses", spec := "fourPasses", unfollowed := true, recurses := true, apart := false }
def FourPassesSaid : Prop := fourPassesRow.holds Try.pinned (OpenSpec.ofChange fourPassesSpec)

/-- ITS FALSE NEIGHBOUR: 'it returns false'. Refute it at one input. -/
def fourPassesWrong : ChangeSpec := { name := "fourPasses", fn := fun _ => fun
  | [d1, d2, d3, d4, d5, d6, d7] => { results := [.lit (.bool false)], args := [d1, d2, d3, d4, d5, d6, d7] }
  | _ => none }
def FourPassesWrongFalsely : Prop := fourPassesRow.holds Try.pinned (OpenSpec.ofChange fourPassesWrong)

/-- 'headroomlaw11.FourGrows': WHATEVER THE INPUT: true; the input reads as it did. -/
def fourGrowsSpec : ChangeSpec := { name := "fourGrows", fn := fun _ => fun
  | [d1, d2, d3, d4, d5, d6, d7] => { results := [.lit (.bool true)], args := [d1, d2, d3, d4, d5, d6, d7] }
  | _ => none }
def fourGrowsRow : OpenClaim := { program := "ytfemklaeonkidaa", sum := "247bc3d2ce0dd12d0994b8a1b8a9e08c84d5459769e9f988437f834687d8a37a", func := "headroom/headroomlaw11.FourGrows", spec := "fourGrows", unfollowed := true, recurses := true, apart := false }
def FourGrowsSaid : Prop := fourGrowsRow.holds Try.pinned (OpenSpec.ofChange fourGrowsSpec)

/-- ITS FALSE NEIGHBOUR: 'it returns false'. Refute it at one input. -/
def fourGrowsWrong : ChangeSpec := { name := "fourGrows", fn := fun _ => fun
  | [d1, d2, d3, d4, d5, d6, d7] => { results := [.lit (.bool false)], args := [d1, d2, d3, d4, d5, d6, d7] }
  | _ => none }
def FourGrowsWrongFalsely : Prop := fourGrowsRow.holds Try.pinned (OpenSpec.ofChange fourGrowsWrong)

/-- 'headroomlaw11.FourTwos': WHATEVER THE INPUT: true; the input reads as it did. -/
def fourTwosSpec : ChangeSpec := { name := "fourTwos", fn := fun _ => fun
  | [d1, d2] => { results := [.lit (.bool true)], args := [d1, d2] }
  | _ => none }
def fourTwosRow : OpenClaim := { program := "ytfemklaeonkidaa", sum := "247bc3d2ce0dd12d0994b8a1b8a9e08c84d5459769e9f988437f834687d8a37a", func := "headroom/headroomlaw11.FourTwos", spec := "fourTwos", unfollowed := true, recurses := true, apart := false }
def FourTwosSaid : Prop := fourTwosRow.holds Try.pinned (OpenSpec.ofChange fourTwosSpec)

/-- ITS FALSE NEIGHBOUR: 'it returns false'. Refute it at one input. -/
def fourTwosWrong : ChangeSpec := { name := "fourTwos", fn := fun _ => fun
  | [d1, d2] => { results := [.lit (.bool false)], args := [d1, d2] }
  | _ => none }
def FourTwosWrongFalsely : Prop := fourTwosRow.holds Try.pinned (OpenSpec.ofChange fourTwosWrong)

/- THE SECOND FORM. 'bulk': how many values and letters a reading holds, each counted each time it is reached (what is shared counts as often as it is met; a slice's spare places count too). A statement '..UptoSaid' is the law's where the arguments, and the package variables that the reading takes, are together of bulk at most 1048576: NARROWER than '..Said'. Prove '..Said' where nothing that the law and all that it calls make is longer than what came in: it says more and counts as full. Else prove '..UptoSaid'. A law counts once. -/
mutual
def uptoBulk {H : Type} : DataW H → Nat
  | .lit (.string bytes) => bytes.length + 1
  | .lit _ => 1
  | .nil => 1
  | .ptr d => uptoBulk d + 1
  | .slice elems spare => uptoBulkAll elems + uptoBulkAll spare + 1
  | .agg parts => uptoBulkAll parts + 1
  | .iface _ d => uptoBulk d + 1
  | .map entries => uptoBulkEntries entries + 1
  | .held _ => 1
def uptoBulkAll {H : Type} : List (DataW H) → Nat
  | [] => 0
  | d :: r => uptoBulk d + uptoBulkAll r
def uptoBulkEntries {H : Type} : List (Lit × DataW H) → Nat
  | [] => 0
  | x :: r => uptoBulkEntry x + uptoBulkEntries r
def uptoBulkEntry {H : Type} : Lit × DataW H → Nat
  | (.string bytes, d) => bytes.length + uptoBulk d + 1
  | (_, d) => uptoBulk d + 1
 end
def uptoSmall : (H : Type) → List (DataW H) → Bool := fun _ ds => decide (uptoBulkAll ds ≤ 1048576)
def OpenSpec.upto (s : _root_.Go.ChangeSpec) : _root_.Go.OpenSpec := { _root_.Go.OpenSpec.ofChange s with cond := some uptoSmall }

/-- 'headroomlaw09.ScanRooms', WHERE WHAT IT READS IS OF BULK AT MOST 1048576: true; the input reads as it did. -/
def scanRoomsUptoRow : OpenClaim := { program := "ytfemklaeonkidaa", sum := "247bc3d2ce0dd12d0994b8a1b8a9e08c84d5459769e9f988437f834687d8a37a", func := "headroom/headroomlaw09.ScanRooms", spec := "scanRooms", recurses := true, apart := false, narrowed := true }
def ScanRoomsUptoSaid : Prop := scanRoomsUptoRow.holds Try.pinned (OpenSpec.upto scanRoomsSpec)

/-- 'headroomlaw09.ScanMax', WHERE WHAT IT READS IS OF BULK AT MOST 1048576: true; the input reads as it did. -/
def scanMaxUptoRow : OpenClaim := { program := "ytfemklaeonkidaa", sum := "247bc3d2ce0dd12d0994b8a1b8a9e08c84d5459769e9f988437f834687d8a37a", func := "headroom/headroomlaw09.ScanMax", spec := "scanMax", apart := false, narrowed := true }
def ScanMaxUptoSaid : Prop := scanMaxUptoRow.holds Try.pinned (OpenSpec.upto scanMaxSpec)

/-- 'headroomlaw10.TwoPairs', WHERE WHAT IT READS IS OF BULK AT MOST 1048576: true; the input reads as it did. -/
def twoPairsUptoRow : OpenClaim := { program := "ytfemklaeonkidaa", sum := "247bc3d2ce0dd12d0994b8a1b8a9e08c84d5459769e9f988437f834687d8a37a", func := "headroom/headroomlaw10.TwoPairs", spec := "twoPairs", unfollowed := true, recurses := true, apart := false, narrowed := true }
def TwoPairsUptoSaid : Prop := twoPairsUptoRow.holds Try.pinned (OpenSpec.upto twoPairsSpec)

/-- 'headroomlaw10.TwoSums', WHERE WHAT IT READS IS OF BULK AT MOST 1048576: true; the input reads as it did. -/
def twoSumsUptoRow : OpenClaim := { program := "ytfemklaeonkidaa", sum := "247bc3d2ce0dd12d0994b8a1b8a9e08c84d5459769e9f988437f834687d8a37a", func := "headroom/headroomlaw10.TwoSums", spec := "twoSums", unfollowed := true, recurses := true, apart := false, narrowed := true }
def TwoSumsUptoSaid : Prop := twoSumsUptoRow.holds Try.pinned (OpenSpec.upto twoSumsSpec)

/-- 'headroomlaw09.ScanShifts', WHERE WHAT IT READS IS OF BULK AT MOST 1048576: true; the input reads as it did. -/
def scanShiftsUptoRow : OpenClaim := { program := "ytfemklaeonkidaa", sum := "247bc3d2ce0dd12d0994b8a1b8a9e08c84d5459769e9f988437f834687d8a37a", func := "headroom/headroomlaw09.ScanShifts", spec := "scanShifts", unfollowed := true, recurses := true, apart := false, narrowed := true }
def ScanShiftsUptoSaid : Prop := scanShiftsUptoRow.holds Try.pinned (OpenSpec.upto scanShiftsSpec)

/-- 'headroomlaw09.ScanFits', WHERE WHAT IT READS IS OF BULK AT MOST 1048576: true; the input reads as it did. -/
def scanFitsUptoRow : OpenClaim := { program := "ytfemklaeonkidaa", sum := "247bc3d2ce0dd12d0994b8a1b8a9e08c84d5459769e9f988437f834687d8a37a", func := "headroom/headroomlaw09.ScanFits", spec := "scanFits", unfollowed := true, recurses := true, apart := false, narrowed := true }
def ScanFitsUptoSaid : Prop := scanFitsUptoRow.holds Try.pinned (OpenSpec.upto scanFitsSpec)

/-- 'headroomlaw11.FourQuads', WHERE WHAT IT READS IS OF BULK AT MOST 1048576: true; the input reads as it did. -/
def fourQuadsUptoRow : OpenClaim := { program := "ytfemklaeonkidaa", sum := "247bc3d2ce0dd12d0994b8a1b8a9e08c84d5459769e9f988437f834687d8a37a", func := "headroom/headroomlaw11.FourQuads", spec := "fourQuads", unfollowed := true, recurses := true, apart := false, narrowed := true }
def FourQuadsUptoSaid : Prop := fourQuadsUptoRow.holds Try.pinned (OpenSpec.upto fourQuadsSpec)

/-- 'headroomlaw11.FourSums', WHERE WHAT IT READS IS OF BULK AT MOST 1048576: true; the input reads as it did. -/
def fourSumsUptoRow : OpenClaim := { program := "ytfemklaeonkidaa", sum := "247bc3d2ce0dd12d0994b8a1b8a9e08c84d5459769e9f988437f834687d8a37a", func := "headroom/headroomlaw11.FourSums", spec := "fourSums", unfollowed := true, recurses := true, apart := false, narrowed := true }
def FourSumsUptoSaid : Prop := fourSumsUptoRow.holds Try.pinned (OpenSpec.upto fourSumsSpec)

/-- 'headroomlaw10.TwoPasses', WHERE WHAT IT READS IS OF BULK AT MOST 1048576: true; the input reads as it did. -/
def twoPassesUptoRow : OpenClaim := { program := "ytfemklaeonkidaa", sum := "247bc3d2ce0dd12d0994b8a1b8a9e08c84d5459769e9f988437f834687d8a37a", func := "headroom/headroomlaw10.TwoPasses", spec := "twoPasses", unfollowed := true, recurses := true, apart := false, narrowed := true }
def TwoPassesUptoSaid : Prop := twoPassesUptoRow.holds Try.pinned (OpenSpec.upto twoPassesSpec)

/-- 'headroomlaw10.TwoGrows', WHERE WHAT IT READS IS OF BULK AT MOST 1048576: true; the input reads as it did. -/
def twoGrowsUptoRow : OpenClaim := { program := "ytfemklaeonkidaa", sum := "247bc3d2ce0dd12d0994b8a1b8a9e08c84d5459769e9f988437f834687d8a37a", func := "headroom/headroomlaw10.TwoGrows", spec := "twoGrows", unfollowed := true, recurses := true, apart := false, narrowed := true }
def TwoGrowsUptoSaid : Prop := twoGrowsUptoRow.holds Try.pinned (OpenSpec.upto twoGrowsSpec)

/-- 'headroomlaw11.FourPasses', WHERE WHAT IT READS IS OF BULK AT MOST 1048576: true; the input reads as it did. -/
def fourPassesUptoRow : OpenClaim := { program := "ytfemklaeonkidaa", sum := "247bc3d2ce0dd12d0994b8a1b8a9e08c84d5459769e9f988437f834687d8a37a", func := "headroom/headroomlaw11.FourPasses", spec := "fourPasses", unfollowed := true, recurses := true, apart := false, narrowed := true }
def FourPassesUptoSaid : Prop := fourPassesUptoRow.holds Try.pinned (OpenSpec.upto fourPassesSpec)

/-- 'headroomlaw11.FourGrows', WHERE WHAT IT READS IS OF BULK AT MOST 1048576: true; the input reads as it did. -/
def fourGrowsUptoRow : OpenClaim := { program := "ytfemklaeonkidaa", sum := "247bc3d2ce0dd12d0994b8a1b8a9e08c84d5459769e9f988437f834687d8a37a", func := "headroom/headroomlaw11.FourGrows", spec := "fourGrows", unfollowed := true, recurses := true, apart := false, narrowed := true }
def FourGrowsUptoSaid : Prop := fourGrowsUptoRow.holds Try.pinned (OpenSpec.upto fourGrowsSpec)

/-- 'headroomlaw11.FourTwos', WHERE WHAT IT READS IS OF BULK AT MOST 1048576: true; the input reads as it did. -/
def fourTwosUptoRow : OpenClaim := { program := "ytfemklaeonkidaa", sum := "247bc3d2ce0dd12d0994b8a1b8a9e08c84d5459769e9f988437f834687d8a37a", func := "headroom/headroomlaw11.FourTwos", spec := "fourTwos", unfollowed := true, recurses := true, apart := false, narrowed := true }
def FourTwosUptoSaid : Prop := fourTwosUptoRow.holds Try.pinned (OpenSpec.upto fourTwosSpec)

end Rows
end Go.Proofs.Ytfemklaeonkidaa

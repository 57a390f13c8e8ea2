/-
  No cell of these rows narrows 'for every input' (looked for: loops, veiled, ifaces, maps, wideKeys, modest, calm, conditions, laid).
  DERIVED. THE GIVEN ROWS OF THIS SEAT. 12 by the template 'for every input the law returns true; each argument reads behind the call as it read before'; 0 by the template 'total and deterministic' (their statements: YtobkjhiicafkbaaTotals.lean).
  GIVEN WITH THE SEED: the statements are not yours to turn. If you find one false, say at which input.
  Laid BY PROGRAM, IN A SANDBOX (cutbox-rows.mjs): the forced cells as the released guide's own fill.sh prints them over the translation ceb1626db549db88… (all of the seat's roots in one cut). By AI agents, Wed Nov 11 2026. No macro, syntax, notation, axiom, sorry.
-/
import Derived.Test.YtobkjhiicafkbaaChecked
import GoSem.Claim
import GoSem.ClaimJoined
import GoSem.ClaimMapViews
import Derived.JoinedTies
import Derived.KernelRfl
namespace Go.Proofs.Ytobkjhiicafkbaa
/- THE CELL 'sum', in the pinned program and in every row, IS THE sha256 OF THE DUMP (.gsa) THAT YtobkjhiicafkbaaProg.lean LOADS. Nothing in Lean hashes anything: it is a label: what it is worth is what the hold of that sum in a sandbox is worth. -/
noncomputable def Try.pinned : Pinned := { name := "ytobkjhiicafkbaa", sum := "ceb1626db549db8804a5fe7a52dfb805a322aa53bcd4003a9553f9064cf08709", checked := Try.checked }
namespace Rows
def none {H : Type} : Left H := { results := [], args := [] }

/-- 'headroomlaw01.RoundShifts': WHATEVER THE INPUT: true; the input reads as it did. -/
def roundShiftsSpec : ChangeSpec := { name := "roundShifts", fn := fun _ => fun
  | [d1, d2, d3] => { results := [.lit (.bool true)], args := [d1, d2, d3] }
  | _ => none }
def roundShiftsRow : OpenClaim := { program := "ytobkjhiicafkbaa", sum := "ceb1626db549db8804a5fe7a52dfb805a322aa53bcd4003a9553f9064cf08709", func := "headroom/headroomlaw01.RoundShifts", spec := "roundShifts", unfollowed := true, recurses := true, apart := false }
def RoundShiftsSaid : Prop := roundShiftsRow.holds Try.pinned (OpenSpec.ofChange roundShiftsSpec)

/-- ITS FALSE NEIGHBOUR: 'it returns false'. Refute it at one input. -/
def roundShiftsWrong : ChangeSpec := { name := "roundShifts", fn := fun _ => fun
  | [d1, d2, d3] => { results := [.lit (.bool false)], args := [d1, d2, d3] }
  | _ => none }
def RoundShiftsWrongFalsely : Prop := roundShiftsRow.holds Try.pinned (OpenSpec.ofChange roundShiftsWrong)

/-- 'headroomlaw01.RoundNear': WHATEVER THE INPUT: true; the input reads as it did. -/
def roundNearSpec : ChangeSpec := { name := "roundNear", fn := fun _ => fun
  | [d1, d2, d3, d4] => { results := [.lit (.bool true)], args := [d1, d2, d3, d4] }
  | _ => none }
def roundNearRow : OpenClaim := { program := "ytobkjhiicafkbaa", sum := "ceb1626db549db8804a5fe7a52dfb805a322aa53bcd4003a9553f9064cf08709", func := "headroom/headroomlaw01.RoundNear", spec := "roundNear", unfollowed := true, recurses := true, apart := false }
def RoundNearSaid : Prop := roundNearRow.holds Try.pinned (OpenSpec.ofChange roundNearSpec)

/-- ITS FALSE NEIGHBOUR: 'it returns false'. Refute it at one input. -/
def roundNearWrong : ChangeSpec := { name := "roundNear", fn := fun _ => fun
  | [d1, d2, d3, d4] => { results := [.lit (.bool false)], args := [d1, d2, d3, d4] }
  | _ => none }
def RoundNearWrongFalsely : Prop := roundNearRow.holds Try.pinned (OpenSpec.ofChange roundNearWrong)

/-- 'headroomlaw03.CxTimes': WHATEVER THE INPUT: true; the input reads as it did. -/
def cxTimesSpec : ChangeSpec := { name := "cxTimes", fn := fun _ => fun
  | [d1, d2] => { results := [.lit (.bool true)], args := [d1, d2] }
  | _ => none }
def cxTimesRow : OpenClaim := { program := "ytobkjhiicafkbaa", sum := "ceb1626db549db8804a5fe7a52dfb805a322aa53bcd4003a9553f9064cf08709", func := "headroom/headroomlaw03.CxTimes", spec := "cxTimes", unfollowed := true, recurses := true, apart := false }
def CxTimesSaid : Prop := cxTimesRow.holds Try.pinned (OpenSpec.ofChange cxTimesSpec)

/-- ITS FALSE NEIGHBOUR: 'it returns false'. Refute it at one input. -/
def cxTimesWrong : ChangeSpec := { name := "cxTimes", fn := fun _ => fun
  | [d1, d2] => { results := [.lit (.bool false)], args := [d1, d2] }
  | _ => none }
def CxTimesWrongFalsely : Prop := cxTimesRow.holds Try.pinned (OpenSpec.ofChange cxTimesWrong)

/-- 'headroomlaw01.RoundBack': WHATEVER THE INPUT: true; the input reads as it did. -/
def roundBackSpec : ChangeSpec := { name := "roundBack", fn := fun _ => fun
  | [d1, d2, d3, d4] => { results := [.lit (.bool true)], args := [d1, d2, d3, d4] }
  | _ => none }
def roundBackRow : OpenClaim := { program := "ytobkjhiicafkbaa", sum := "ceb1626db549db8804a5fe7a52dfb805a322aa53bcd4003a9553f9064cf08709", func := "headroom/headroomlaw01.RoundBack", spec := "roundBack", unfollowed := true, recurses := true, apart := false }
def RoundBackSaid : Prop := roundBackRow.holds Try.pinned (OpenSpec.ofChange roundBackSpec)

/-- ITS FALSE NEIGHBOUR: 'it returns false'. Refute it at one input. -/
def roundBackWrong : ChangeSpec := { name := "roundBack", fn := fun _ => fun
  | [d1, d2, d3, d4] => { results := [.lit (.bool false)], args := [d1, d2, d3, d4] }
  | _ => none }
def RoundBackWrongFalsely : Prop := roundBackRow.holds Try.pinned (OpenSpec.ofChange roundBackWrong)

/-- 'headroomlaw03.CxSums': WHATEVER THE INPUT: true; the input reads as it did. -/
def cxSumsSpec : ChangeSpec := { name := "cxSums", fn := fun _ => fun
  | [d1, d2, d3] => { results := [.lit (.bool true)], args := [d1, d2, d3] }
  | _ => none }
def cxSumsRow : OpenClaim := { program := "ytobkjhiicafkbaa", sum := "ceb1626db549db8804a5fe7a52dfb805a322aa53bcd4003a9553f9064cf08709", func := "headroom/headroomlaw03.CxSums", spec := "cxSums", unfollowed := true, recurses := true, apart := false }
def CxSumsSaid : Prop := cxSumsRow.holds Try.pinned (OpenSpec.ofChange cxSumsSpec)

/-- ITS FALSE NEIGHBOUR: 'it returns false'. Refute it at one input. -/
def cxSumsWrong : ChangeSpec := { name := "cxSums", fn := fun _ => fun
  | [d1, d2, d3] => { results := [.lit (.bool false)], args := [d1, d2, d3] }
  | _ => none }
def CxSumsWrongFalsely : Prop := cxSumsRow.holds Try.pinned (OpenSpec.ofChange cxSumsWrong)

/-- 'headroomlaw03.CxField': WHATEVER THE INPUT: true; the input reads as it did. -/
def cxFieldSpec : ChangeSpec := { name := "cxField", fn := fun _ => fun
  | [d1, d2, d3, d4] => { results := [.lit (.bool true)], args := [d1, d2, d3, d4] }
  | _ => none }
def cxFieldRow : OpenClaim := { program := "ytobkjhiicafkbaa", sum := "ceb1626db549db8804a5fe7a52dfb805a322aa53bcd4003a9553f9064cf08709", func := "headroom/headroomlaw03.CxField", spec := "cxField", unfollowed := true, recurses := true, apart := false }
def CxFieldSaid : Prop := cxFieldRow.holds Try.pinned (OpenSpec.ofChange cxFieldSpec)

/-- ITS FALSE NEIGHBOUR: 'it returns false'. Refute it at one input. -/
def cxFieldWrong : ChangeSpec := { name := "cxField", fn := fun _ => fun
  | [d1, d2, d3, d4] => { results := [.lit (.bool false)], args := [d1, d2, d3, d4] }
  | _ => none }
def CxFieldWrongFalsely : Prop := cxFieldRow.holds Try.pinned (OpenSpec.ofChange cxFieldWrong)

/-- 'headroomlaw01.RoundUps': WHATEVER THE INPUT: true; the input reads as it did. -/
def roundUpsSpec : ChangeSpec := { name := "roundUps", fn := fun _ => fun
  | [d1, d2, d3] => { results := [.lit (.bool true)], args := [d1, d2, d3] }
  | _ => none }
def roundUpsRow : OpenClaim := { program := "ytobkjhiicafkbaa", sum := "ceb1626db549db8804a5fe7a52dfb805a322aa53bcd4003a9553f9064cf08709", func := "headroom/headroomlaw01.RoundUps", spec := "roundUps", unfollowed := true, recurses := true, apart := false }
def RoundUpsSaid : Prop := roundUpsRow.holds Try.pinned (OpenSpec.ofChange roundUpsSpec)

/-- ITS FALSE NEIGHBOUR: 'it returns false'. Refute it at one input. -/
def roundUpsWrong : ChangeSpec := { name := "roundUps", fn := fun _ => fun
  | [d1, d2, d3] => { results := [.lit (.bool false)], args := [d1, d2, d3] }
  | _ => none }
def RoundUpsWrongFalsely : Prop := roundUpsRow.holds Try.pinned (OpenSpec.ofChange roundUpsWrong)

/-- 'headroomlaw02.SatClamps': WHATEVER THE INPUT: true; the input reads as it did. -/
def satClampsSpec : ChangeSpec := { name := "satClamps", fn := fun _ => fun
  | [d1, d2] => { results := [.lit (.bool true)], args := [d1, d2] }
  | _ => none }
def satClampsRow : OpenClaim := { program := "ytobkjhiicafkbaa", sum := "ceb1626db549db8804a5fe7a52dfb805a322aa53bcd4003a9553f9064cf08709", func := "headroom/headroomlaw02.SatClamps", spec := "satClamps", unfollowed := true, recurses := true, apart := false }
def SatClampsSaid : Prop := satClampsRow.holds Try.pinned (OpenSpec.ofChange satClampsSpec)

/-- ITS FALSE NEIGHBOUR: 'it returns false'. Refute it at one input. -/
def satClampsWrong : ChangeSpec := { name := "satClamps", fn := fun _ => fun
  | [d1, d2] => { results := [.lit (.bool false)], args := [d1, d2] }
  | _ => none }
def SatClampsWrongFalsely : Prop := satClampsRow.holds Try.pinned (OpenSpec.ofChange satClampsWrong)

/-- 'headroomlaw02.SatSums': WHATEVER THE INPUT: true; the input reads as it did. -/
def satSumsSpec : ChangeSpec := { name := "satSums", fn := fun _ => fun
  | [d1, d2, d3] => { results := [.lit (.bool true)], args := [d1, d2, d3] }
  | _ => none }
def satSumsRow : OpenClaim := { program := "ytobkjhiicafkbaa", sum := "ceb1626db549db8804a5fe7a52dfb805a322aa53bcd4003a9553f9064cf08709", func := "headroom/headroomlaw02.SatSums", spec := "satSums", unfollowed := true, recurses := true, apart := false }
def SatSumsSaid : Prop := satSumsRow.holds Try.pinned (OpenSpec.ofChange satSumsSpec)

/-- ITS FALSE NEIGHBOUR: 'it returns false'. Refute it at one input. -/
def satSumsWrong : ChangeSpec := { name := "satSums", fn := fun _ => fun
  | [d1, d2, d3] => { results := [.lit (.bool false)], args := [d1, d2, d3] }
  | _ => none }
def SatSumsWrongFalsely : Prop := satSumsRow.holds Try.pinned (OpenSpec.ofChange satSumsWrong)

/-- 'headroomlaw03.CxShifts': WHATEVER THE INPUT: true; the input reads as it did. -/
def cxShiftsSpec : ChangeSpec := { name := "cxShifts", fn := fun _ => fun
  | [d1, d2, d3] => { results := [.lit (.bool true)], args := [d1, d2, d3] }
  | _ => none }
def cxShiftsRow : OpenClaim := { program := "ytobkjhiicafkbaa", sum := "ceb1626db549db8804a5fe7a52dfb805a322aa53bcd4003a9553f9064cf08709", func := "headroom/headroomlaw03.CxShifts", spec := "cxShifts", unfollowed := true, recurses := true, apart := false }
def CxShiftsSaid : Prop := cxShiftsRow.holds Try.pinned (OpenSpec.ofChange cxShiftsSpec)

/-- ITS FALSE NEIGHBOUR: 'it returns false'. Refute it at one input. -/
def cxShiftsWrong : ChangeSpec := { name := "cxShifts", fn := fun _ => fun
  | [d1, d2, d3] => { results := [.lit (.bool false)], args := [d1, d2, d3] }
  | _ => none }
def CxShiftsWrongFalsely : Prop := cxShiftsRow.holds Try.pinned (OpenSpec.ofChange cxShiftsWrong)

/-- 'headroomlaw02.SatMuls': WHATEVER THE INPUT: true; the input reads as it did. -/
def satMulsSpec : ChangeSpec := { name := "satMuls", fn := fun _ => fun
  | [d1, d2, d3, d4] => { results := [.lit (.bool true)], args := [d1, d2, d3, d4] }
  | _ => none }
def satMulsRow : OpenClaim := { program := "ytobkjhiicafkbaa", sum := "ceb1626db549db8804a5fe7a52dfb805a322aa53bcd4003a9553f9064cf08709", func := "headroom/headroomlaw02.SatMuls", spec := "satMuls", unfollowed := true, recurses := true, apart := false }
def SatMulsSaid : Prop := satMulsRow.holds Try.pinned (OpenSpec.ofChange satMulsSpec)

/-- ITS FALSE NEIGHBOUR: 'it returns false'. Refute it at one input. -/
def satMulsWrong : ChangeSpec := { name := "satMuls", fn := fun _ => fun
  | [d1, d2, d3, d4] => { results := [.lit (.bool false)], args := [d1, d2, d3, d4] }
  | _ => none }
def SatMulsWrongFalsely : Prop := satMulsRow.holds Try.pinned (OpenSpec.ofChange satMulsWrong)

/-- 'headroomlaw02.SatOnly': WHATEVER THE INPUT: true; the input reads as it did. -/
def satOnlySpec : ChangeSpec := { name := "satOnly", fn := fun _ => fun
  | [d1, d2, d3, d4, d5] => { results := [.lit (.bool true)], args := [d1, d2, d3, d4, d5] }
  | _ => none }
def satOnlyRow : OpenClaim := { program := "ytobkjhiicafkbaa", sum := "ceb1626db549db8804a5fe7a52dfb805a322aa53bcd4003a9553f9064cf08709", func := "headroom/headroomlaw02.SatOnly", spec := "satOnly", unfollowed := true, recurses := true, apart := false }
def SatOnlySaid : Prop := satOnlyRow.holds Try.pinned (OpenSpec.ofChange satOnlySpec)

/-- ITS FALSE NEIGHBOUR: 'it returns false'. Refute it at one input. -/
def satOnlyWrong : ChangeSpec := { name := "satOnly", fn := fun _ => fun
  | [d1, d2, d3, d4, d5] => { results := [.lit (.bool false)], args := [d1, d2, d3, d4, d5] }
  | _ => none }
def SatOnlyWrongFalsely : Prop := satOnlyRow.holds Try.pinned (OpenSpec.ofChange satOnlyWrong)

/- THE SECOND FORM. 'bulk': how many values and letters a reading holds, each counted each time it is reached (what is shared counts as often as it is met; a slice's spare places count too). A statement '..UptoSaid' is the law's where the arguments, and the package variables that the reading takes, are together of bulk at most 1048576: NARROWER than '..Said'. Prove '..Said' where nothing that the law and all that it calls make is longer than what came in: it says more and counts as full. Else prove '..UptoSaid'. A law counts once. -/
mutual
def uptoBulk {H : Type} : DataW H → Nat
  | .lit (.string bytes) => bytes.length + 1
  | .lit _ => 1
  | .nil => 1
  | .ptr d => uptoBulk d + 1
  | .slice elems spare => uptoBulkAll elems + uptoBulkAll spare + 1
  | .agg parts => uptoBulkAll parts + 1
  | .iface _ d => uptoBulk d + 1
  | .map entries => uptoBulkEntries entries + 1
  | .held _ => 1
def uptoBulkAll {H : Type} : List (DataW H) → Nat
  | [] => 0
  | d :: r => uptoBulk d + uptoBulkAll r
def uptoBulkEntries {H : Type} : List (Lit × DataW H) → Nat
  | [] => 0
  | x :: r => uptoBulkEntry x + uptoBulkEntries r
def uptoBulkEntry {H : Type} : Lit × DataW H → Nat
  | (.string bytes, d) => bytes.length + uptoBulk d + 1
  | (_, d) => uptoBulk d + 1
 end
def uptoSmall : (H : Type) → List (DataW H) → Bool := fun _ ds => decide (uptoBulkAll ds ≤ 1048576)
def OpenSpec.upto (s : _root_.Go.ChangeSpec) : _root_.Go.OpenSpec := { _root_.Go.OpenSpec.ofChange s with cond := some uptoSmall }

/-- 'headroomlaw01.RoundShifts', WHERE WHAT IT READS IS OF BULK AT MOST 1048576: true; the input reads as it did. -/
def roundShiftsUptoRow : OpenClaim := { program := "ytobkjhiicafkbaa", sum := "ceb1626db549db8804a5fe7a52dfb805a322aa53bcd4003a9553f9064cf08709", func := "headroom/headroomlaw01.RoundShifts", spec := "roundShifts", unfollowed := true, recurses := true, apart := false, narrowed := true }
def RoundShiftsUptoSaid : Prop := roundShiftsUptoRow.holds Try.pinned (OpenSpec.upto roundShiftsSpec)

/-- 'headroomlaw01.RoundNear', WHERE WHAT IT READS IS OF BULK AT MOST 1048576: true; the input reads as it did. -/
def roundNearUptoRow : OpenClaim := { program := "ytobkjhiicafkbaa", sum := "ceb1626db549db8804a5fe7a52dfb805a322aa53bcd4003a9553f9064cf08709", func := "headroom/headroomlaw01.RoundNear", spec := "roundNear", unfollowed := true, recurses := true, apart := false, narrowed := true }
def RoundNearUptoSaid : Prop := roundNearUptoRow.holds Try.pinned (OpenSpec.upto roundNearSpec)

/-- 'headroomlaw03.CxTimes', WHERE WHAT IT READS IS OF BULK AT MOST 1048576: true; the input reads as it did. -/
def cxTimesUptoRow : OpenClaim := { program := "ytobkjhiicafkbaa", sum := "ceb1626db549db8804a5fe7a52dfb805a322aa53bcd4003a9553f9064cf08709", func := "headroom/headroomlaw03.CxTimes", spec := "cxTimes", unfollowed := true, recurses := true, apart := false, narrowed := true }
def CxTimesUptoSaid : Prop := cxTimesUptoRow.holds Try.pinned (OpenSpec.upto cxTimesSpec)

/-- 'headroomlaw01.RoundBack', WHERE WHAT IT READS IS OF BULK AT MOST 1048576: true; the input reads as it did. -/
def roundBackUptoRow : OpenClaim := { program := "ytobkjhiicafkbaa", sum := "ceb1626db549db8804a5fe7a52dfb805a322aa53bcd4003a9553f9064cf08709", func := "headroom/headroomlaw01.RoundBack", spec := "roundBack", unfollowed := true, recurses := true, apart := false, narrowed := true }
def RoundBackUptoSaid : Prop := roundBackUptoRow.holds Try.pinned (OpenSpec.upto roundBackSpec)

/-- 'headroomlaw03.CxSums', WHERE WHAT IT READS IS OF BULK AT MOST 1048576: true; the input reads as it did. -/
def cxSumsUptoRow : OpenClaim := { program := "ytobkjhiicafkbaa", sum := "ceb1626db549db8804a5fe7a52dfb805a322aa53bcd4003a9553f9064cf08709", func := "headroom/headroomlaw03.CxSums", spec := "cxSums", unfollowed := true, recurses := true, apart := false, narrowed := true }
def CxSumsUptoSaid : Prop := cxSumsUptoRow.holds Try.pinned (OpenSpec.upto cxSumsSpec)

/-- 'headroomlaw03.CxField', WHERE WHAT IT READS IS OF BULK AT MOST 1048576: true; the input reads as it did. -/
def cxFieldUptoRow : OpenClaim := { program := "ytobkjhiicafkbaa", sum := "ceb1626db549db8804a5fe7a52dfb805a322aa53bcd4003a9553f9064cf08709", func := "headroom/headroomlaw03.CxField", spec := "cxField", unfollowed := true, recurses := true, apart := false, narrowed := true }
def CxFieldUptoSaid : Prop := cxFieldUptoRow.holds Try.pinned (OpenSpec.upto cxFieldSpec)

/-- 'headroomlaw01.RoundUps', WHERE WHAT IT READS IS OF BULK AT MOST 1048576: true; the input reads as it did. -/
def roundUpsUptoRow : OpenClaim := { program := "ytobkjhiicafkbaa", sum := "ceb1626db549db8804a5fe7a52dfb805a322aa53bcd4003a9553f9064cf08709", func := "headroom/headroomlaw01.RoundUps", spec := "roundUps", unfollowed := true, recurses := true, apart := false, narrowed := true }
def RoundUpsUptoSaid : Prop := roundUpsUptoRow.holds Try.pinned (OpenSpec.upto roundUpsSpec)

/-- 'headroomlaw02.SatClamps', WHERE WHAT IT READS IS OF BULK AT MOST 1048576: true; the input reads as it did. -/
def satClampsUptoRow : OpenClaim := { program := "ytobkjhiicafkbaa", sum := "ceb1626db549db8804a5fe7a52dfb805a322aa53bcd4003a9553f9064cf08709", func := "headroom/headroomlaw02.SatClamps", spec := "satClamps", unfollowed := true, recurses := true, apart := false, narrowed := true }
def SatClampsUptoSaid : Prop := satClampsUptoRow.holds Try.pinned (OpenSpec.upto satClampsSpec)

/-- 'headroomlaw02.SatSums', WHERE WHAT IT READS IS OF BULK AT MOST 1048576: true; the input reads as it did. -/
def satSumsUptoRow : OpenClaim := { program := "ytobkjhiicafkbaa", sum := "ceb1626db549db8804a5fe7a52dfb805a322aa53bcd4003a9553f9064cf08709", func := "headroom/headroomlaw02.SatSums", spec := "satSums", unfollowed := true, recurses := true, apart := false, narrowed := true }
def SatSumsUptoSaid : Prop := satSumsUptoRow.holds Try.pinned (OpenSpec.upto satSumsSpec)

/-- 'headroomlaw03.CxShifts', WHERE WHAT IT READS IS OF BULK AT MOST 1048576: true; the input reads as it did. -/
def cxShiftsUptoRow : OpenClaim := { program := "ytobkjhiicafkbaa", sum := "ceb1626db549db8804a5fe7a52dfb805a322aa53bcd4003a9553f9064cf08709", func := "headroom/headroomlaw03.CxShifts", spec := "cxShifts", unfollowed := true, recurses := true, apart := false, narrowed := true }
def CxShiftsUptoSaid : Prop := cxShiftsUptoRow.holds Try.pinned (OpenSpec.upto cxShiftsSpec)

/-- 'headroomlaw02.SatMuls', WHERE WHAT IT READS IS OF BULK AT MOST 1048576: true; the input reads as it did. -/
def satMulsUptoRow : OpenClaim := { program := "ytobkjhiicafkbaa", sum := "ceb1626db549db8804a5fe7a52dfb805a322aa53bcd4003a9553f9064cf08709", func := "headroom/headroomlaw02.SatMuls", spec := "satMuls", unfollowed := true, recurses := true, apart := false, narrowed := true }
def SatMulsUptoSaid : Prop := satMulsUptoRow.holds Try.pinned (OpenSpec.upto satMulsSpec)

/-- 'headroomlaw02.SatOnly', WHERE WHAT IT READS IS OF BULK AT MOST 1048576: true; the input reads as it did. -/
def satOnlyUptoRow : OpenClaim := { program := "ytobkjhiicafkbaa", sum := "ceb1626db549db8804a5fe7a52dfb805a322aa53bcd4003a9553f9064cf08709", func := "headroom/headroomlaw02.SatOnly", spec := "satOnly", unfollowed := true, recurses := true, apart := false, narrowed := true }
def SatOnlyUptoSaid : Prop := satOnlyUptoRow.holds Try.pinned (OpenSpec.upto satOnlySpec)

end Rows
end Go.Proofs.Ytobkjhiicafkbaa

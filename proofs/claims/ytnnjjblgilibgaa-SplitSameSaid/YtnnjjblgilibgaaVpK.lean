import Derived.Test.YtnnjjblgilibgaaVcE
import Derived.Test.YtnnjjblgilibgaaVfC
import Derived.WalkKit
import Derived.ProofKit
import Derived.OpenShut
import Derived.ShutString
import Derived.ChangeOld
import Derived.Below
import Derived.SizedLaws
import Derived.Lib.SmallJoins
/- A row's number, opened. -/
namespace Go.Proofs.YtnnjjblgilibgaaV
open Go.ChangeShapes Go.WideShapes Go.ChangeAt Go.RowKit
set_option linter.unusedVariables false
set_option maxRecDepth 100000
theorem list2 {l : List Value} (h : l.length = 2) : ∃ c0 c1, l = [c0, c1] := by
  match l, h with
  | [c0, c1], _ => exact ⟨_, _, rfl⟩
theorem open_cx {H : Type} {enc : TypeId × Value → H} {W : World} {base : Nat} {v : Value} {d : DataW H} {p : List MemPlace} (hv : Value.okWide Try.prog W .any base 35 v) (h : DataW.Trod enc Try.prog W 0 (fun _ => true) true 35 v d p) :
    ∃ a b : Int, v = .agg #[.int .i64 a, .int .i64 b] := by
  unfold Value.okWide at hv
  rw [Try.underlying35] at hv
  obtain ⟨cs, rfl, hsz, _⟩ := hv
  have h2 : cs.toList.length = 2 := by
    rw [Array.length_toList, hsz]
    kernel_rfl
  obtain ⟨c0, c1, hl⟩ := list2 h2
  obtain ⟨fuel, hf⟩ := h
  have hf : DataW.trod enc Try.prog W 0 (fun _ => true) true fuel 35 [c0, c1] = some (d, p) := by rw [← hl]; exact hf
  have hc3 : Try.prog.cellsOf 3 = 1 := by kernel_rfl
  obtain ⟨y0, y1, n, _, _, g0, g1⟩ := trod_struct2 Try.underlying35 hf
  simp only [hc3, List.drop_zero, List.drop_succ_cons, List.take_succ_cons, List.take_zero] at g0 g1
  obtain ⟨a, e0, _, _⟩ := DataW.trod_int Try.underlying3 g0
  obtain ⟨b, e1, _, _⟩ := DataW.trod_int Try.underlying3 g1
  obtain rfl : c0 = .int .i64 a := by simpa using e0
  obtain rfl : c1 = .int .i64 b := by simpa using e1
  exact ⟨a, b, by rw [← Array.toList_inj.1 (show cs.toList = [.int .i64 a, .int .i64 b].toArray.toList from hl)]⟩
theorem rep_cxA {W : World} {φ : Nat → Option Value} {N : Nat → Prop} (a b : Int) : Rep W φ N (cxA a b) (.agg #[.int .i64 a, .int .i64 b]) := by
  refine .agg _ _ rfl fun i x hx => ?_
  match i, hx with
  | 0, hx => cases hx; exact .raw _
  | 1, hx => cases hx; exact .raw _
  | i + 2, hx => simp at hx
end Go.Proofs.YtnnjjblgilibgaaV

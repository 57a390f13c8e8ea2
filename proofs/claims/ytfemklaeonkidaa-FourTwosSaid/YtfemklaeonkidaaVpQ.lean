import Derived.Test.YtfemklaeonkidaaVcE
import Derived.Test.YtfemklaeonkidaaVfC
import Derived.WalkKit
import Derived.ProofKit
import Derived.OpenShut
import Derived.ShutString
import Derived.ChangeOld
import Derived.Below
import Derived.SizedLaws
import Derived.Lib.SmallJoins
/- A row's array of four numbers, opened. -/
namespace Go.Proofs.YtfemklaeonkidaaV
open Go.ChangeShapes Go.WideShapes Go.ChangeAt Go.RowKit
set_option linter.unusedVariables false
theorem list8 {l : List Value} (h : l.length = 8) : ∃ c0 c1 c2 c3 c4 c5 c6 c7, l = [c0, c1, c2, c3, c4, c5, c6, c7] := by
  match l, h with
  | [c0, c1, c2, c3, c4, c5, c6, c7], _ => exact ⟨_, _, _, _, _, _, _, _, rfl⟩
theorem open_cx4 {H : Type} {enc : TypeId × Value → H} {W : World} {base : Nat} {v : Value} {d : DataW H} {p : List MemPlace} (hv : Value.okWide Try.prog W .any base 52 v) (h : DataW.Trod enc Try.prog W 0 (fun _ => true) true 52 v d p) :
    ∃ a0 b0 a1 b1 a2 b2 a3 b3 : Int, v = .agg #[.int .i64 a0, .int .i64 b0, .int .i64 a1, .int .i64 b1, .int .i64 a2, .int .i64 b2, .int .i64 a3, .int .i64 b3] := by
  unfold Value.okWide at hv
  rw [Try.underlying52] at hv
  obtain ⟨cs, rfl, hsz, _⟩ := hv
  have h8 : cs.toList.length = 8 := by
    rw [Array.length_toList, hsz]
    kernel_rfl
  obtain ⟨c0, c1, c2, c3, c4, c5, c6, c7, hl⟩ := list8 h8
  obtain ⟨fuel, hf⟩ := h
  have hf : DataW.trod enc Try.prog W 0 (fun _ => true) true fuel 52 [c0, c1, c2, c3, c4, c5, c6, c7] = some (d, p) := by rw [← hl]; exact hf
  obtain ⟨xs, m, _, _, _, hxl, hel⟩ := DataW.trod_array Try.underlying52 hf
  have hc : Try.prog.cellsOf 37 = 2 := by kernel_rfl
  have hc3 : Try.prog.cellsOf 3 = 1 := by kernel_rfl
  have key : ∀ (u w : Value) (y : DataW H × List MemPlace), DataW.trod enc Try.prog W 0 (fun _ => true) true m 37 [u, w] = some y → (∃ a, u = .int .i64 a) ∧ ∃ b, w = .int .i64 b := by
    intro u w y hy
    obtain ⟨y0, y1, n, _, _, g0, g1⟩ := trod_struct2 Try.underlying37 hy
    simp only [hc3, List.drop_zero, List.drop_succ_cons, List.take_succ_cons, List.take_zero] at g0 g1
    obtain ⟨a, e0, _, _⟩ := DataW.trod_int Try.underlying3 g0
    obtain ⟨b, e1, _, _⟩ := DataW.trod_int Try.underlying3 g1
    exact ⟨⟨a, by simpa using e0⟩, b, by simpa using e1⟩
  have hget : ∀ i, i < 4 → ∃ y, xs[i]? = some y := fun i hi => ⟨xs[i], by simp [hxl, hi]⟩
  obtain ⟨y0, k0⟩ := hget 0 (by decide)
  obtain ⟨y1, k1⟩ := hget 1 (by decide)
  obtain ⟨y2, k2⟩ := hget 2 (by decide)
  obtain ⟨y3, k3⟩ := hget 3 (by decide)
  have e0 := (hel 0 (by decide)).trans k0
  have e1 := (hel 1 (by decide)).trans k1
  have e2 := (hel 2 (by decide)).trans k2
  have e3 := (hel 3 (by decide)).trans k3
  simp only [hc, Nat.reduceMul, List.drop_zero, List.drop_succ_cons, List.take_succ_cons, List.take_zero] at e0 e1 e2 e3
  obtain ⟨⟨a0, rfl⟩, b0, rfl⟩ := key _ _ _ e0
  obtain ⟨⟨a1, rfl⟩, b1, rfl⟩ := key _ _ _ e1
  obtain ⟨⟨a2, rfl⟩, b2, rfl⟩ := key _ _ _ e2
  obtain ⟨⟨a3, rfl⟩, b3, rfl⟩ := key _ _ _ e3
  exact ⟨a0, b0, a1, b1, a2, b2, a3, b3, by rw [← Array.toList_inj.1 (show cs.toList = [.int .i64 a0, .int .i64 b0, .int .i64 a1, .int .i64 b1, .int .i64 a2, .int .i64 b2, .int .i64 a3, .int .i64 b3].toArray.toList from hl)]⟩
theorem rep_cx4 {W : World} {φ : Nat → Option Value} {N : Nat → Prop} (a0 b0 a1 b1 a2 b2 a3 b3 : Int) : Rep W φ N (arr4 a0 b0 a1 b1 a2 b2 a3 b3) (.agg #[.int .i64 a0, .int .i64 b0, .int .i64 a1, .int .i64 b1, .int .i64 a2, .int .i64 b2, .int .i64 a3, .int .i64 b3]) := by
  refine .agg _ _ rfl fun i x hx => ?_
  match i, hx with
  | 0, hx => cases hx; exact .raw _
  | 1, hx => cases hx; exact .raw _
  | 2, hx => cases hx; exact .raw _
  | 3, hx => cases hx; exact .raw _
  | 4, hx => cases hx; exact .raw _
  | 5, hx => cases hx; exact .raw _
  | 6, hx => cases hx; exact .raw _
  | 7, hx => cases hx; exact .raw _
  | i + 8, hx => simp at hx
end Go.Proofs.YtfemklaeonkidaaV

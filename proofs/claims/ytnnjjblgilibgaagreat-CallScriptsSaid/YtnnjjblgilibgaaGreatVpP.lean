import Derived.Test.YtnnjjblgilibgaaGreatVcE
import Derived.Test.YtnnjjblgilibgaaGreatVgC
import Derived.Test.YtnnjjblgilibgaaGreatVtA
/- A row's plan, opened. -/
namespace Go.Proofs.YtnnjjblgilibgaaGreatV
open Go.ChangeShapes Go.WideShapes Go.ChangeAt Go.RowKit
set_option linter.unusedVariables false
set_option maxRecDepth 100000
section
variable {H : Type} {enc : TypeId × Value → H} {P : Program} {w : World} {base : Nat} {spare : Nat → Bool} {held : Bool}
theorem trod_struct6 {t : TypeId} {f0 f1 f2 f3 f4 f5 : Field} {fuel : Nat} {cs : List Value} {x : DataW H × List MemPlace} (ht : P.underlying t = some (.struct #[f0, f1, f2, f3, f4, f5])) (h : DataW.trod enc P w base spare held fuel t cs = some x) :
    ∃ y0 y1 y2 y3 y4 y5 n, DataW.trod enc P w base spare held n f0.type ((cs.drop f0.offset).take (P.cellsOf f0.type)) = some y0 ∧ DataW.trod enc P w base spare held n f1.type ((cs.drop f1.offset).take (P.cellsOf f1.type)) = some y1 ∧ DataW.trod enc P w base spare held n f2.type ((cs.drop f2.offset).take (P.cellsOf f2.type)) = some y2 ∧
      DataW.trod enc P w base spare held n f3.type ((cs.drop f3.offset).take (P.cellsOf f3.type)) = some y3 ∧ DataW.trod enc P w base spare held n f4.type ((cs.drop f4.offset).take (P.cellsOf f4.type)) = some y4 ∧ DataW.trod enc P w base spare held n f5.type ((cs.drop f5.offset).take (P.cellsOf f5.type)) = some y5 := by
  obtain ⟨xs, n, _, rfl, hl, hlen, hf⟩ := DataW.trod_struct ht h
  match xs, hlen with
  | [y0, y1, y2, y3, y4, y5], _ => exact ⟨y0, y1, y2, y3, y4, y5, n, by simpa using hf 0 f0 rfl, by simpa using hf 1 f1 rfl, by simpa using hf 2 f2 rfl, by simpa using hf 3 f3 rfl, by simpa using hf 4 f4 rfl, by simpa using hf 5 f5 rfl⟩
end
theorem list6 {l : List Value} (h : l.length = 6) : ∃ c0 c1 c2 c3 c4 c5, l = [c0, c1, c2, c3, c4, c5] := by
  match l, h with
  | [c0, c1, c2, c3, c4, c5], _ => exact ⟨_, _, _, _, _, _, rfl⟩
theorem open_plan {H : Type} {enc : TypeId × Value → H} {W : World} {base : Nat} {v : Value} {d : DataW H} {p : List MemPlace} (hv : Value.okWide Tryz.prog W .any base 24 v) (h : DataW.Trod enc Tryz.prog W 0 (fun _ => true) true 24 v d p) :
    ∃ (a0 a1 a2 a3 a4 : Int) (a5 : Bool), v = .agg #[.int .i64 a0, .int .i64 a1, .int .i64 a2, .int .i64 a3, .int .i64 a4, .bool a5] := by
  unfold Value.okWide at hv
  rw [Tryz.underlying24] at hv
  obtain ⟨cs, rfl, hsz, _⟩ := hv
  have h6 : cs.toList.length = 6 := by
    rw [Array.length_toList, hsz]
    kernel_rfl
  obtain ⟨c0, c1, c2, c3, c4, c5, hl⟩ := list6 h6
  obtain ⟨fuel, hf⟩ := h
  have hf : DataW.trod enc Tryz.prog W 0 (fun _ => true) true fuel 24 [c0, c1, c2, c3, c4, c5] = some (d, p) := by rw [← hl]; exact hf
  have hc3 : Tryz.prog.cellsOf 3 = 1 := by kernel_rfl
  have hc4 : Tryz.prog.cellsOf 4 = 1 := by kernel_rfl
  obtain ⟨y0, y1, y2, y3, y4, y5, n, g0, g1, g2, g3, g4, g5⟩ := trod_struct6 Tryz.underlying24 hf
  simp only [hc3, hc4, List.drop_zero, List.drop_succ_cons, List.take_succ_cons, List.take_zero] at g0 g1 g2 g3 g4 g5
  obtain ⟨a0, e0, _, _⟩ := DataW.trod_int Tryz.underlying3 g0
  obtain ⟨a1, e1, _, _⟩ := DataW.trod_int Tryz.underlying3 g1
  obtain ⟨a2, e2, _, _⟩ := DataW.trod_int Tryz.underlying3 g2
  obtain ⟨a3, e3, _, _⟩ := DataW.trod_int Tryz.underlying3 g3
  obtain ⟨a4, e4, _, _⟩ := DataW.trod_int Tryz.underlying3 g4
  obtain ⟨a5, e5, _⟩ := DataW.trod_bool Tryz.underlying4 g5
  obtain rfl : c0 = .int .i64 a0 := by simpa using e0
  obtain rfl : c1 = .int .i64 a1 := by simpa using e1
  obtain rfl : c2 = .int .i64 a2 := by simpa using e2
  obtain rfl : c3 = .int .i64 a3 := by simpa using e3
  obtain rfl : c4 = .int .i64 a4 := by simpa using e4
  obtain rfl : c5 = .bool a5 := by simpa using e5
  exact ⟨a0, a1, a2, a3, a4, a5, by rw [← Array.toList_inj.1 (show cs.toList = [.int .i64 a0, .int .i64 a1, .int .i64 a2, .int .i64 a3, .int .i64 a4, .bool a5].toArray.toList from hl)]⟩
theorem rep_plan {W : World} {φ : Nat → Option Value} {N : Nat → Prop} (a0 a1 a2 a3 a4 : Int) (a5 : Bool) : Rep W φ N (plV a0 a1 a2 a3 a4 a5) (.agg #[.int .i64 a0, .int .i64 a1, .int .i64 a2, .int .i64 a3, .int .i64 a4, .bool a5]) := by
  refine .agg _ _ rfl fun i x hx => ?_
  match i, hx with
  | 0, hx => cases hx; exact .raw _
  | 1, hx => cases hx; exact .raw _
  | 2, hx => cases hx; exact .raw _
  | 3, hx => cases hx; exact .raw _
  | 4, hx => cases hx; exact .raw _
  | 5, hx => cases hx; exact .raw _
  | i + 6, hx => simp at hx
end Go.Proofs.YtnnjjblgilibgaaGreatV

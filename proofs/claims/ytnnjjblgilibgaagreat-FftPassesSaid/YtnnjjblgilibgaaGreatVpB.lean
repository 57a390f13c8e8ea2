import Derived.Test.YtnnjjblgilibgaaGreatVcE
import Derived.Test.YtnnjjblgilibgaaGreatVgC
import Derived.Test.YtnnjjblgilibgaaGreatVgB
/- A row's block, opened. -/
namespace Go.Proofs.YtnnjjblgilibgaaGreatV
open Go.ChangeShapes Go.WideShapes Go.ChangeAt Go.RowKit Go.Joins
set_option linter.unusedVariables false
set_option maxRecDepth 100000
theorem list4 {l : List Value} (h : l.length = 4) : ∃ c0 c1 c2 c3, l = [c0, c1, c2, c3] := by
  match l, h with
  | [c0, c1, c2, c3], _ => exact ⟨_, _, _, _, rfl⟩
theorem open_block {H : Type} {enc : TypeId × Value → H} {W : World} {base : Nat} {v : Value} {d : DataW H} {p : List MemPlace} (hv : Value.okWide Tryz.prog W .any base 27 v) (h : DataW.Trod enc Tryz.prog W 0 (fun _ => true) true 27 v d p) :
    ∃ (xs : List (Int × Int)) (zs : List Int) (e : Int) (b : Bool) (v0 u0 : Value), v = .agg #[v0, .int .i64 e, .bool b, u0] ∧ (∀ φ, Rep W φ (fun b => b < W.heap.size) (.sl 2 (cxRows xs)) v0) ∧ ∀ φ, Rep W φ (fun b => b < W.heap.size) (.sl 1 (intRows zs)) u0 := by
  unfold Value.okWide at hv
  rw [Tryz.underlying27] at hv
  obtain ⟨cs, rfl, hsz, ts, hts, _, hcell⟩ := hv
  have hts' : Tryz.prog.cellTypes Tryz.prog.depth 27 = some [22, 3, 4, 25] := by kernel_rfl
  rw [hts'] at hts
  obtain rfl := Option.some.inj hts
  have h4 : cs.toList.length = 4 := by
    rw [Array.length_toList, hsz]
    kernel_rfl
  obtain ⟨c0, c1, c2, c3, hl⟩ := list4 h4
  have hcs : cs = #[c0, c1, c2, c3] := by rw [← Array.toList_inj.1 (show cs.toList = [c0, c1, c2, c3].toArray.toList from hl)]
  subst hcs
  obtain ⟨fuel, hf⟩ := h
  have hf : DataW.trod enc Tryz.prog W 0 (fun _ => true) true fuel 27 [c0, c1, c2, c3] = some (d, p) := hf
  have hc3 : Tryz.prog.cellsOf 3 = 1 := by kernel_rfl
  have hc4 : Tryz.prog.cellsOf 4 = 1 := by kernel_rfl
  have hc5 : Tryz.prog.cellsOf 22 = 1 := by kernel_rfl
  have hc6 : Tryz.prog.cellsOf 25 = 1 := by kernel_rfl
  obtain ⟨y0, y1, y2, y3, n, _, _, g0, g1, g2, g3⟩ := trod_struct4 Tryz.underlying27 hf
  simp only [hc3, hc4, hc5, hc6, List.drop_zero, List.drop_succ_cons, List.take_succ_cons, List.take_zero] at g0 g1 g2 g3
  obtain ⟨e, e1, _, _⟩ := DataW.trod_int Tryz.underlying3 g1
  obtain ⟨b, e2, _⟩ := DataW.trod_bool Tryz.underlying4 g2
  obtain rfl : c1 = .int .i64 e := by simpa using e1
  obtain rfl : c2 = .bool b := by simpa using e2
  obtain ⟨t0, ht0, k0⟩ := hcell 0 c0 rfl
  obtain ⟨t3, ht3, k3⟩ := hcell 3 c3 rfl
  obtain rfl : 22 = t0 := by simpa using ht0
  obtain rfl : 25 = t3 := by simpa using ht3
  have w0 : Value.okWide Tryz.prog W .any base 22 c0 := by
    unfold Value.okWide
    rw [Tryz.underlying22]
    exact k0
  have w3 : Value.okWide Tryz.prog W .any base 25 c3 := by
    unfold Value.okWide
    rw [Tryz.underlying25]
    exact k3
  have s0 : c0.cells.toList = [c0] := by
    obtain ⟨A, l, c, rfl⟩ := okWide_row Tryz.underlying22 w0
    rfl
  have s3 : c3.cells.toList = [c3] := by
    obtain ⟨A, l, c, rfl⟩ := okWide_row Tryz.underlying25 w3
    rfl
  obtain ⟨xs, hx⟩ := open_rows (w := W) Tryz.underlying22 Tryz.underlying43 (by kernel_rfl) rfl rfl (by kernel_rfl) (by kernel_rfl) (by kernel_rfl) (by kernel_rfl) w0 (show DataW.Trod enc Tryz.prog W 0 (fun _ => true) true 22 c0 y0.1 y0.2 from ⟨n, by rw [s0]; exact g0⟩)
  obtain ⟨zs, hz⟩ := open_int_rows (w := W) Tryz.underlying25 Tryz.underlying3 (by kernel_rfl) w3 (show DataW.Trod enc Tryz.prog W 0 (fun _ => true) true 25 c3 y3.1 y3.2 from ⟨n, by rw [s3]; exact g3⟩)
  exact ⟨xs, zs, e, b, c0, c3, rfl, hx, hz⟩
theorem rep_blk {W : World} {φ : Nat → Option Value} {N : Nat → Prop} {xs zs : List (List AV)} {e : Int} {b : Bool} {v0 u0 : Value} (h0 : Rep W φ N (.sl 2 xs) v0) (h3 : Rep W φ N (.sl 1 zs) u0) : Rep W φ N (.agg [.sl 2 xs, .int e, .bool b, .sl 1 zs]) (.agg #[v0, .int .i64 e, .bool b, u0]) := by
  refine .agg _ _ rfl fun i x hx => ?_
  match i, hx with
  | 0, hx => cases hx; exact h0
  | 1, hx => cases hx; exact .raw _
  | 2, hx => cases hx; exact .raw _
  | 3, hx => cases hx; exact h3
  | i + 4, hx => simp at hx
end Go.Proofs.YtnnjjblgilibgaaGreatV

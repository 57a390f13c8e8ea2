import Derived.Test.YtfmhdfaelgkmcaaVsA
import Derived.Deep.Slices
import Derived.ChangeSlices
import Derived.SizedLaws
import Derived.ChangeSame
import Derived.KernelRfl
/- A row's slice of whole numbers, opened as rows. -/
namespace Go.Proofs.YtfmhdfaelgkmcaaV
open Go Go.RowKit
set_option linter.unusedVariables false
set_option linter.unusedSimpArgs false
section
open Go.ChangeShapes Go.WideShapes Go.Deep
variable {H : Type} {enc : TypeId × Value → H} {P : Program} {w : World} {base : Nat} {spare : Nat → Bool} {held : Bool}
theorem okWide_row_n {r : Reach} {b0 : Nat} {t e : TypeId} {v : Value} (ht : P.underlying t = some (.slice e)) (h : Value.okWide P w r b0 t v) : ∃ A l c, v = .slice A l c := by
  simp only [Value.okWide, ht, Cell.okWide] at h
  cases v <;> simp_all [Cell.ok]
theorem okWide_some_n {r : Reach} {b0 : Nat} {t e : TypeId} {a : Addr} {l c : Nat} (ht : P.underlying t = some (.slice e)) (h : Value.okWide P w r b0 t (.slice (some a) l c)) : a.spot = none ∧ a.block < w.heap.size := by
  simp only [Value.okWide, ht, Cell.okWide, Cell.ok] at h
  obtain ⟨_, _, _, h1, row, cells, h2, _⟩ := h
  refine ⟨h1, ?_⟩
  unfold World.shape? at h2
  rcases Nat.lt_or_ge a.block w.heap.size with h3 | h3
  · exact h3
  · rw [Array.getElem?_eq_none h3] at h2
    cases h2
theorem open_int_rows {r : Reach} {b0 : Nat} {t e : TypeId} {v : Value} {d : DataW H} {ps : List MemPlace} (ht : P.underlying t = some (.slice e)) (he : P.underlying e = some (.int .i64)) (ce : P.cellsOf e = 1)
    (hval : Value.okWide P w r b0 t v) (h : DataW.Trod enc P w base spare held t v d ps) :
    ∃ zs : List Int, ∀ φ, Rep w φ (fun b => b < w.heap.size) (.sl 1 (intRows zs)) v := by
  obtain ⟨A, l, c, rfl⟩ := okWide_row_n ht hval
  obtain ⟨fuel, hf⟩ := h
  rcases open_ints ht he ce hf with ⟨hcs, _⟩ | ⟨a, len, cap, zs, hcs, _, hl, hm, hz, _, hc, hw⟩
  · simp [Value.cells] at hcs
    obtain ⟨rfl, rfl, rfl⟩ := hcs
    exact ⟨[], fun φ => .slnil 1⟩
  · simp [Value.cells] at hcs
    obtain ⟨rfl, rfl, rfl⟩ := hcs
    have hlz : l ≤ zs.length := by rw [hz]; split <;> omega
    have e : (zs.take l).length = l := by simp; omega
    obtain ⟨hs, hb⟩ := okWide_some_n ht hval
    obtain ⟨b, o, sp⟩ := a
    obtain rfl : sp = none := hs
    refine ⟨zs.take l, fun φ => ?_⟩
    have hfl : ∀ (ys : List Int), (intRows ys).flatten = ys.map AV.int := by
      intro ys
      induction ys with
      | nil => rfl
      | cons y ys ih =>
        show [AV.int y] ++ (intRows ys).flatten = _
        rw [ih]
        rfl
    have hget : ∀ k, k < l → ∃ z, (zs.take l)[k]? = some z ∧ w.cell? ⟨b, o + k, none⟩ = some (.int .i64 z) := by
      intro k hk
      have hk' : k < zs.length := by omega
      have h1 := hc k hk'
      rw [List.getD_eq_getElem?_getD, List.getElem?_eq_getElem hk', Option.getD_some] at h1
      refine ⟨zs[k], ?_, ?_⟩
      · rw [List.getElem?_take]
        simp [hk, hk']
      · have e2 : Addr.add ⟨b, o, none⟩ k = ⟨b, o + k, none⟩ := by
          unfold Addr.add
          split
          · rename_i h0
            rw [h0]
            rfl
          · rfl
        rw [← e2]
        exact h1
    have hlr : (intRows (zs.take l)).length = l := by rw [in_len, e]
    have := Rep.sl (w := w) (φ := φ) (N := fun b => b < w.heap.size) 1 (intRows (zs.take l)) b o c (fun k => match (zs.take l)[k]? with | some z => .int .i64 z | none => undef) (by rw [hlr]; omega) hb (fun r hr => ?_) (fun k hk => ?_) (fun k x hx => ?_)
    · rwa [hlr] at this
    · obtain ⟨p, _, rfl⟩ := List.mem_map.1 hr
      rfl
    · rw [hfl, List.length_map, e] at hk
      obtain ⟨z, h1, h2⟩ := hget k hk
      show w.cell? _ = some (match (zs.take l)[k]? with | some z => .int .i64 z | none => undef)
      rw [h1, h2]
    · rw [hfl, List.getElem?_map] at hx
      cases hz' : (zs.take l)[k]? with
      | none => rw [hz'] at hx; cases hx
      | some z =>
        rw [hz'] at hx
        cases hx
        exact .raw _
end
end Go.Proofs.YtfmhdfaelgkmcaaV

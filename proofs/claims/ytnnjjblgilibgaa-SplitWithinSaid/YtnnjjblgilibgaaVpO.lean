import Derived.Test.YtnnjjblgilibgaaVfD
import Derived.Deep.SlicePairs
import Derived.ChangeSlices
import Derived.SizedLaws
import Derived.ChangeSame
import Derived.KernelRfl
/- A row's slice of structs of two whole numbers, opened as rows. -/
namespace Go.Proofs.YtnnjjblgilibgaaV
open Go Go.RowKit
set_option linter.unusedVariables false
set_option linter.unusedSimpArgs false
section
open Go.ChangeShapes Go.WideShapes Go.Deep
variable {H : Type} {enc : TypeId × Value → H} {P : Program} {w : World} {base : Nat} {spare : Nat → Bool} {held : Bool}
theorem okWide_row {r : Reach} {b0 : Nat} {t e : TypeId} {v : Value} (ht : P.underlying t = some (.slice e)) (h : Value.okWide P w r b0 t v) : ∃ A l c, v = .slice A l c := by
  simp only [Value.okWide, ht, Cell.okWide] at h
  cases v <;> simp_all [Cell.ok]
theorem okWide_some {r : Reach} {b0 : Nat} {t e : TypeId} {a : Addr} {l c : Nat} (ht : P.underlying t = some (.slice e)) (h : Value.okWide P w r b0 t (.slice (some a) l c)) : a.spot = none ∧ a.block < w.heap.size := by
  simp only [Value.okWide, ht, Cell.okWide, Cell.ok] at h
  obtain ⟨_, _, _, h1, row, cells, h2, _⟩ := h
  refine ⟨h1, ?_⟩
  unfold World.shape? at h2
  rcases Nat.lt_or_ge a.block w.heap.size with h3 | h3
  · exact h3
  · rw [Array.getElem?_eq_none h3] at h2
    cases h2
theorem open_pairs {r : Reach} {b0 : Nat} {t e : TypeId} {f0 f1 : Field} {v : Value} {d : DataW H} {ps : List MemPlace} (ht : P.underlying t = some (.slice e)) (he : P.underlying e = some (.struct #[f0, f1]))
    (ce : P.cellsOf e = 2) (o0 : f0.offset = 0) (o1 : f1.offset = 1) (c0 : P.cellsOf f0.type = 1) (c1 : P.cellsOf f1.type = 1) (u0 : P.underlying f0.type = some (.int .i64)) (u1 : P.underlying f1.type = some (.int .i64))
    (hval : Value.okWide P w r b0 t v) (h : DataW.Trod enc P w base spare held t v d ps) :
    ∃ (A : Option Addr) (c : Nat) (xs : List (Int × Int)), v = .slice A xs.length c ∧ xs.length ≤ c ∧ (A = none → xs.length = 0 ∧ c = 0) ∧
      ∀ a, A = some a → ∀ (j : Nat) (hj : j < xs.length), w.cell? (a.add (j * 2)) = some (.int .i64 xs[j].1) ∧ w.cell? (a.add (j * 2 + 1)) = some (.int .i64 xs[j].2) := by
  obtain ⟨A, l, c, rfl⟩ := okWide_row ht hval
  obtain ⟨fuel, hf⟩ := h
  rcases open_slice_pairs ht he ce o0 o1 c0 c1 hf with ⟨hcs, _⟩ | ⟨a, len, cap, m, n, V0, V1, D0, D1, P0, P1, hcs, _, hl, hm, hmm, _, hx⟩
  · simp [Value.cells] at hcs
    obtain ⟨rfl, rfl, rfl⟩ := hcs
    exact ⟨none, 0, [], rfl, Nat.le_refl _, fun _ => ⟨rfl, rfl⟩, fun a h => by cases h⟩
  · simp [Value.cells] at hcs
    obtain ⟨rfl, rfl, rfl⟩ := hcs
    have hlm : l ≤ m := by rw [hmm]; split <;> omega
    have each : ∀ i, i < l → ∃ q : Int × Int, V0 i = .int .i64 q.1 ∧ V1 i = .int .i64 q.2 := by
      intro i hi
      obtain ⟨_, _, g0, g1⟩ := hx i (by omega)
      obtain ⟨a, ea, _, va⟩ := DataW.trod_int u0 g0
      obtain ⟨b, eb, _, vb⟩ := DataW.trod_int u1 g1
      simp at ea eb
      exact ⟨(a, b), ea, eb⟩
    obtain ⟨q, hq⟩ := choose_lt each
    refine ⟨some a, c, (List.range l).map q, by simp, by simpa using hl, fun h => (by cases h), fun a' ha j hj => ?_⟩
    obtain rfl := Option.some.inj ha
    simp only [List.length_map, List.length_range] at hj
    obtain ⟨e0, e1, _⟩ := hx j (by omega)
    obtain ⟨h0, h1⟩ := hq j hj
    simp only [List.getElem_map, List.getElem_range]
    exact ⟨h0 ▸ e0, h1 ▸ e1⟩
end
def flatV (xs : List (Int × Int)) : List Int := xs.flatMap fun p => [p.1, p.2]
theorem flatV_len : ∀ (xs : List (Int × Int)), (flatV xs).length = 2 * xs.length
  | [] => rfl
  | p :: r => by
    show (flatV r).length + 1 + 1 = _
    rw [flatV_len r, List.length_cons]
    omega
theorem flat_at : ∀ (xs : List (Int × Int)) (j : Nat) (hj : j < xs.length), (flatV xs)[j * 2]? = some xs[j].1 ∧ (flatV xs)[j * 2 + 1]? = some xs[j].2
  | p :: r, 0, _ => ⟨rfl, rfl⟩
  | p :: r, j + 1, hj => by
    have := flat_at r j (by simpa using hj)
    rw [show (j + 1) * 2 = j * 2 + 1 + 1 by omega]
    exact this
theorem cx_flat : ∀ (xs : List (Int × Int)), (cxRows xs).flatten = (flatV xs).map AV.int
  | [] => rfl
  | p :: r => by
    show [AV.int p.1, .int p.2] ++ (cxRows r).flatten = _
    rw [cx_flat r]
    rfl
theorem add_at {b o n : Nat} : Addr.add ⟨b, o, none⟩ n = ⟨b, o + n, none⟩ := by
  unfold Addr.add
  split
  · rename_i h
    rw [h]
    rfl
  · rfl
/-- An argument's slice, by rows. -/
theorem open_rows {H : Type} {enc : TypeId × Value → H} {P : Program} {w : World} {base : Nat} {spare : Nat → Bool} {held : Bool} {r : Reach} {b0 : Nat} {t e : TypeId} {f0 f1 : Field} {v : Value} {d : DataW H} {ps : List MemPlace} (ht : P.underlying t = some (.slice e)) (he : P.underlying e = some (.struct #[f0, f1]))
    (ce : P.cellsOf e = 2) (o0 : f0.offset = 0) (o1 : f1.offset = 1) (c0 : P.cellsOf f0.type = 1) (c1 : P.cellsOf f1.type = 1) (u0 : P.underlying f0.type = some (.int .i64)) (u1 : P.underlying f1.type = some (.int .i64))
    (hval : Value.okWide P w r b0 t v) (h : DataW.Trod enc P w base spare held t v d ps) :
    ∃ xs : List (Int × Int), ∀ φ, Rep w φ (fun b => b < w.heap.size) (.sl 2 (cxRows xs)) v := by
  obtain ⟨A, c, xs, rfl, hc, hn, hw⟩ := open_pairs ht he ce o0 o1 c0 c1 u0 u1 hval h
  refine ⟨xs, fun φ => ?_⟩
  cases A with
  | none =>
    obtain ⟨h1, rfl⟩ := hn rfl
    obtain rfl := List.eq_nil_of_length_eq_zero h1
    exact .slnil 2
  | some a =>
    obtain ⟨hs, hb⟩ := okWide_some ht hval
    obtain ⟨b, o, sp⟩ := a
    obtain rfl : sp = none := hs
    have hget : ∀ k, k < 2 * xs.length → ∃ z, (flatV xs)[k]? = some z ∧ w.cell? ⟨b, o + k, none⟩ = some (.int .i64 z) := by
      intro k hk
      have hj : k / 2 < xs.length := by omega
      have g := hw _ rfl (k / 2) hj
      have f := flat_at xs (k / 2) hj
      rcases Nat.mod_two_eq_zero_or_one k with e | e
      · have e' : k / 2 * 2 = k := by omega
        rw [e'] at g f
        refine ⟨_, f.1, ?_⟩
        have := g.1
        rwa [add_at] at this
      · have e' : k / 2 * 2 + 1 = k := by omega
        rw [e'] at g f
        refine ⟨_, f.2, ?_⟩
        have := g.2
        rwa [add_at] at this
    have hl : (cxRows xs).length = xs.length := cx_len
    have := Rep.sl (w := w) (φ := φ) (N := fun b => b < w.heap.size) 2 (cxRows xs) b o c (fun k => match (flatV xs)[k]? with | some z => .int .i64 z | none => undef) (by rw [hl]; exact hc) hb (fun r hr => ?_) (fun k hk => ?_) (fun k x hx => ?_)
    · rwa [hl] at this
    · obtain ⟨p, _, rfl⟩ := List.mem_map.1 hr
      rfl
    · rw [cx_flat, List.length_map, flatV_len] at hk
      obtain ⟨z, h1, h2⟩ := hget k hk
      show w.cell? _ = some (match (flatV xs)[k]? with | some z => .int .i64 z | none => undef)
      rw [h1, h2]
    · rw [cx_flat, List.getElem?_map] at hx
      cases hz : (flatV xs)[k]? with
      | none => rw [hz] at hx; cases hx
      | some z =>
        rw [hz] at hx
        cases hx
        exact .raw _
end Go.Proofs.YtnnjjblgilibgaaV

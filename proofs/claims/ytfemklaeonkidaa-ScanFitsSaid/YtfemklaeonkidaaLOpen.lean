/- A row's slice of structs of two whole numbers, and of whole numbers, opened as one list. -/
import Derived.Test.YtfemklaeonkidaaPx0
import Derived.Deep.SlicePairs
import Derived.ChangeSlices
import Derived.SizedLaws
import Derived.ChangeSame
import Derived.KernelRfl
namespace Go.Proofs.Ytfemklaeonkidaa.P
open Go.RowKit Go.Proofs.Ytfemklaeonkidaa.P Go.Proofs.YtfemklaeonkidaaW.PrintWords Go.Proofs.YtfemklaeonkidaaW.PrintLast Go.Proofs.YtfemklaeonkidaaW.PrintMore Go.Proofs.YtfemklaeonkidaaW.Hand
set_option linter.unusedVariables false
set_option linter.unusedSimpArgs false
section
open Go.ChangeShapes Go.WideShapes Go.Deep
variable {H : Type} {enc : TypeId × Value → H} {P : Program} {w : World} {base : Nat} {spare : Nat → Bool} {held : Bool}
theorem okWide_row {r : Reach} {b0 : Nat} {t e : TypeId} {v : Value} (ht : P.underlying t = some (.slice e)) (h : Value.okWide P w r b0 t v) : ∃ A l c, v = .slice A l c := by
  simp only [Value.okWide, ht, Cell.okWide] at h
  cases v <;> simp_all [Cell.ok]
theorem rows_of {α : Type} {R : α → List Value → Prop} {size : Nat} {a : Addr} {l : List α} (hl : l.length ≤ 9223372036854775807) (h : ∀ (j : Nat) (hj : j < l.length), ∃ c, c.length = size ∧ R l[j] c ∧ ∀ i u, c[i]? = some u → w.cell? (a.add (j * size + i)) = some u) : ReadsRow R size w (some a) l.length l := by
  refine ⟨rfl, hl, fun _ => ⟨a, rfl, fun j p hj => ?_⟩⟩
  obtain ⟨hj', rfl⟩ := List.getElem?_eq_some_iff.1 hj
  exact h j hj'
theorem open_pairs {r : Reach} {b0 : Nat} {t e : TypeId} {f0 f1 : Field} {v : Value} {d : DataW H} {ps : List MemPlace} (ht : P.underlying t = some (.slice e)) (he : P.underlying e = some (.struct #[f0, f1]))
    (ce : P.cellsOf e = 2) (o0 : f0.offset = 0) (o1 : f1.offset = 1) (c0 : P.cellsOf f0.type = 1) (c1 : P.cellsOf f1.type = 1) (u0 : P.underlying f0.type = some (.int .i64)) (u1 : P.underlying f1.type = some (.int .i64))
    (hval : Value.okWide P w r b0 t v) (h : DataW.Trod enc P w base spare held t v d ps) :
    ∃ (A : Option Addr) (c : Nat) (xs : List (Int × Int)), v = .slice A xs.length c ∧ xs.length ≤ c ∧ xs.length ≤ maxLen ∧
      (0 < xs.length → ∃ a, A = some a ∧ ∀ (j : Nat) (hj : j < xs.length), w.cell? (a.add (j * 2)) = some (.int .i64 xs[j].1) ∧ w.cell? (a.add (j * 2 + 1)) = some (.int .i64 xs[j].2)) ∧
      ∀ x ∈ xs, (Lit.int .i64 x.1).wf = true ∧ (Lit.int .i64 x.2).wf = true := by
  obtain ⟨A, l, c, rfl⟩ := okWide_row ht hval
  obtain ⟨fuel, hf⟩ := h
  rcases open_slice_pairs ht he ce o0 o1 c0 c1 hf with ⟨hcs, _⟩ | ⟨a, len, cap, m, n, V0, V1, D0, D1, P0, P1, hcs, _, hl, hm, hmm, _, hx⟩
  · simp [Value.cells] at hcs
    obtain ⟨rfl, rfl, rfl⟩ := hcs
    exact ⟨none, 0, [], rfl, Nat.le_refl _, Nat.zero_le _, fun h => absurd h (by decide), fun x h => by cases h⟩
  · simp [Value.cells] at hcs
    obtain ⟨rfl, rfl, rfl⟩ := hcs
    have hlm : l ≤ m := by rw [hmm]; split <;> omega
    have each : ∀ i, i < l → ∃ q : Int × Int, V0 i = .int .i64 q.1 ∧ V1 i = .int .i64 q.2 ∧ (Lit.int .i64 q.1).wf = true ∧ (Lit.int .i64 q.2).wf = true := by
      intro i hi
      obtain ⟨_, _, g0, g1⟩ := hx i (by omega)
      obtain ⟨a, ea, _, va⟩ := DataW.trod_int u0 g0
      obtain ⟨b, eb, _, vb⟩ := DataW.trod_int u1 g1
      simp at ea eb
      exact ⟨(a, b), ea, eb, va, vb⟩
    obtain ⟨q, hq⟩ := choose_lt each
    refine ⟨some a, c, (List.range l).map q, by simp, by simpa using hl, by simp; omega, fun _ => ⟨a, rfl, fun j hj => ?_⟩, fun x h => ?_⟩
    · simp only [List.length_map, List.length_range] at hj
      obtain ⟨e0, e1, _⟩ := hx j (by omega)
      obtain ⟨h0, h1, _⟩ := hq j hj
      simp only [List.getElem_map, List.getElem_range]
      exact ⟨h0 ▸ e0, h1 ▸ e1⟩
    · obtain ⟨i, hi, rfl⟩ := List.mem_map.1 h
      have := hq i (List.mem_range.1 hi)
      exact ⟨this.2.2.1, this.2.2.2⟩
theorem sized_row {t e : TypeId} {A : Option Addr} {len cap : Nat} {d : DataW H} {ps : List MemPlace} {ts : List TypeId} {ds : List (DataW H)} {j : Nat}
    (hsz : (DataW.weightsEach P ts ds).all (· ≤ reachBytes) = true) (ht : ts[j]? = some t) (hd : ds[j]? = some d) (hu : P.underlying t = some (.slice e)) {B : Nat} (hB : P.bytesOf e = B)
    (h : DataW.Trod enc P w base spare held t (.slice A len cap) d ps) : len * B ≤ 140737488351232 := by
  obtain ⟨fuel, hf⟩ := h
  rcases open_slice hu hf with ⟨hcs, _⟩ | ⟨a, l, c, m, n, D, Pl, hcs, _, hl, _, hmm, hx, _⟩
  · simp [Value.cells] at hcs
    obtain ⟨rfl, rfl, rfl⟩ := hcs
    simp
  · simp [Value.cells] at hcs
    obtain ⟨rfl, rfl, rfl⟩ := hcs
    obtain ⟨hx, _⟩ := Prod.mk.inj hx
    subst hx
    have z := sized_slice hsz ht hd hu
    rw [hB] at z
    simp only [List.length_map, List.length_range] at z
    exact Nat.le_trans (Nat.mul_le_mul_right _ (by omega)) z
theorem open_row_ints {r : Reach} {b0 : Nat} {t e : TypeId} {k : IntKind} {v : Value} {d : DataW H} {ps : List MemPlace} (ht : P.underlying t = some (.slice e)) (he : P.underlying e = some (.int k)) (ce : P.cellsOf e = 1)
    (hval : Value.okWide P w r b0 t v) (h : DataW.Trod enc P w base spare held t v d ps) :
    ∃ (A : Option Addr) (c : Nat) (xs : List Int), v = .slice A xs.length c ∧ xs.length ≤ c ∧ xs.length ≤ maxLen ∧ Kd.C (Kd.int k) w A xs.length xs ∧ ∀ x ∈ xs, (Lit.int k x).wf = true := by
  obtain ⟨A, l, c, rfl⟩ := okWide_row ht hval
  obtain ⟨fuel, hf⟩ := h
  rcases open_ints ht he ce hf with ⟨hcs, _⟩ | ⟨a, len, cap, zs, hcs, _, hl, hm, hz, _, hc, hw⟩
  · simp [Value.cells] at hcs
    obtain ⟨rfl, rfl, rfl⟩ := hcs
    exact ⟨none, 0, [], rfl, Nat.le_refl _, Nat.zero_le _, ⟨rfl, by decide, fun h => absurd h (by decide)⟩, fun x h => by cases h⟩
  · simp [Value.cells] at hcs
    obtain ⟨rfl, rfl, rfl⟩ := hcs
    have hlz : l ≤ zs.length := by rw [hz]; split <;> omega
    have e : (zs.take l).length = l := by simp; omega
    refine ⟨some a, c, zs.take l, by rw [e], by omega, by omega, ?_, fun x h => hw x (List.mem_of_mem_take h)⟩
    refine rows_of (by unfold maxLen at hm; omega) fun j hj => ?_
    have hj' : j < zs.length := by omega
    have h1 := hc j hj'
    rw [List.getD_eq_getElem?_getD, List.getElem?_eq_getElem hj', Option.getD_some] at h1
    refine ⟨[.int k (zs.take l)[j]], rfl, rfl, fun i u hu => ?_⟩
    rw [List.getElem_take] at hu
    match i, hu with
    | 0, hu =>
      cases hu
      have e1 : j * (Kd.int k).sz + 0 = j := Nat.mul_one j
      rw [e1]
      exact h1
end
theorem open_row_S37 {H : Type} {enc : TypeId × Value → H} {w : World} {base : Nat} {spare : Nat → Bool} {held : Bool} {r : Reach} {b0 : Nat} {t : TypeId} {v : Value} {d : DataW H} {ps : List MemPlace} (ht : Try.prog.underlying t = some (.slice 37))
    (hval : Value.okWide Try.prog w r b0 t v) (h : DataW.Trod enc Try.prog w base spare held t v d ps) :
    ∃ (A : Option Addr) (c : Nat) (l : List S37), v = .slice A l.length c ∧ l.length ≤ c ∧ l.length ≤ maxLen ∧ Kd.C k37 w A l.length l ∧ ∀ x ∈ l, (Lit.int .i64 x.f0).wf = true ∧ (Lit.int .i64 x.f1).wf = true := by
  obtain ⟨A, c, xs, rfl, hc, hm, hr, hw⟩ := open_pairs ht Try.underlying37 (by kernel_rfl) rfl rfl (by kernel_rfl) (by kernel_rfl) (by kernel_rfl) (by kernel_rfl) hval h
  refine ⟨A, c, xs.map fun q => ⟨q.1, q.2⟩, by rw [List.length_map], by rw [List.length_map]; exact hc, by rw [List.length_map]; exact hm, ?_, fun x h => ?_⟩
  · rcases Nat.eq_zero_or_pos xs.length with h0 | h0
    · have e : xs = [] := List.eq_nil_of_length_eq_zero h0
      subst e
      exact ⟨rfl, by decide, fun h => absurd h (by decide)⟩
    · obtain ⟨a, rfl, hcell⟩ := hr h0
      refine rows_of (by rw [List.length_map]; unfold maxLen at hm; omega) fun j hj => ?_
      rw [List.length_map] at hj
      obtain ⟨e0, e1⟩ := hcell j hj
      refine ⟨_, rfl, k37_mk w _, fun i u hu => ?_⟩
      rw [List.getElem_map] at hu
      match i, hu with
      | 0, hu => cases hu; exact e0
      | 1, hu => cases hu; exact e1
  · obtain ⟨q, hq, rfl⟩ := List.mem_map.1 h
    exact hw q hq
end Go.Proofs.Ytfemklaeonkidaa.P

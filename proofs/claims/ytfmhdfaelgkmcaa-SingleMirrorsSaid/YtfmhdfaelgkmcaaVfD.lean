import Derived.Test.YtfmhdfaelgkmcaaVfB
/- Contracts: a slice of numbers gone through. -/
namespace Go.Proofs.YtfmhdfaelgkmcaaV
open Go Go.RowKit
set_option linter.unusedVariables false
set_option linter.unusedSimpArgs false
set_option maxRecDepth 100000
set_option maxHeartbeats 40000000
/-- A slice of numbers, by rows. -/
def cxRows (xs : List (Int × Int)) : List (List AV) := xs.map fun p => [.int p.1, .int p.2]
theorem cx_len {xs : List (Int × Int)} : (cxRows xs).length = xs.length := by simp [cxRows]
theorem cx_free : ∀ (xs : List (Int × Int)), rowsFree (cxRows xs) = true
  | [] => rfl
  | p :: r => by
    show (allFree [.int p.1, .int p.2] && rowsFree (cxRows r)) = true
    rw [cx_free r]
    rfl
theorem cx_get {xs : List (Int × Int)} {i : Nat} (h : i < xs.length) : (cxRows xs).getD i [] = [.int xs[i].1, .int xs[i].2] := by
  unfold cxRows
  rw [List.getD_eq_getElem?_getD, List.getElem?_map, List.getElem?_eq_getElem h]
  rfl
theorem first_of {p : Int × Int → Prop} [DecidablePred p] : ∀ (xs : List (Int × Int)), (∃ x ∈ xs, p x) → ∃ (m : Nat) (hm : m < xs.length), p xs[m] ∧ ∀ i (hi : i < xs.length), i < m → ¬ p xs[i]
  | [], h => by obtain ⟨x, hx, _⟩ := h; cases hx
  | a :: r, h => by
    by_cases ha : p a
    · exact ⟨0, by simp, ha, fun i _ hi => by omega⟩
    · have h' : ∃ x ∈ r, p x := by
        obtain ⟨x, hx, hp⟩ := h
        rcases List.mem_cons.1 hx with rfl | hx
        · exact absurd hp ha
        · exact ⟨x, hx, hp⟩
      obtain ⟨m, hm, h1, h2⟩ := first_of r h'
      refine ⟨m + 1, by simp; omega, by simpa using h1, fun i hi hlt => ?_⟩
      cases i with
      | zero => exact ha
      | succ i => simpa using h2 i (by simpa using hi) (by omega)
end Go.Proofs.YtfmhdfaelgkmcaaV

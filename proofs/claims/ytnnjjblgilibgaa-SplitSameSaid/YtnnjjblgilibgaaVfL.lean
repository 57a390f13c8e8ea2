import Derived.Test.YtnnjjblgilibgaaVfK
import Derived.Test.YtnnjjblgilibgaaVfE
/- Contracts: a copy of numbers; a block of quads. -/
namespace Go.Proofs.YtnnjjblgilibgaaV
open Go Go.RowKit
set_option linter.unusedVariables false
set_option linter.unusedSimpArgs false
set_option maxRecDepth 100000
set_option maxHeartbeats 40000000
theorem cx_one : ∀ (xs : List (Int × Int)), allOne (cxRows xs).flatten = true
  | [] => rfl
  | p :: r => by
    show (allOne ([AV.int p.1, .int p.2] ++ (cxRows r).flatten)) = true
    exact cx_one r
mutual
theorem free_lt (k : Nat) : ∀ (x : AV), x.free = true → x.lt k = true
  | .any, _ => rfl
  | .raw _, _ => rfl
  | .agg l, h => allFree_lt k l h
  | .tup l, h => allFree_lt k l h
  | .sl sz l, h => rowsFree_lt k l h
  | .fn f l, h => allFree_lt k l h
  | .iface t v, h => free_lt k v h
  | .box l off, h => allFree_lt k l h
theorem allFree_lt (k : Nat) : ∀ (l : List AV), allFree l = true → allLt k l = true
  | [], _ => rfl
  | x :: r, h => by
    rw [allFree, Bool.and_eq_true] at h
    rw [al_cons, free_lt k x h.1, allFree_lt k r h.2]
    rfl
theorem rowsFree_lt (k : Nat) : ∀ (l : List (List AV)), rowsFree l = true → rowsLt k l = true
  | [], _ => rfl
  | x :: r, h => by
    rw [rowsFree, Bool.and_eq_true] at h
    show (allLt k x && rowsLt k r) = true
    rw [allFree_lt k x h.1, rowsFree_lt k r h.2]
    rfl
end
theorem cx_lt {k : Nat} {xs : List (Int × Int)} : rowsLt k (cxRows xs) = true := rowsFree_lt k _ (cx_free xs)
theorem cx_ren {ρ : Nat → Nat} {xs : List (Int × Int)} : renRows ρ (cxRows xs) = cxRows xs := renRows_free ρ _ (cx_free xs)
theorem lt_sl {k sz : Nat} {l : List (List AV)} : AV.lt k (.sl sz l) = rowsLt k l := rfl
theorem cx_set {xs : List (Int × Int)} {i : Nat} {a b : Int} : (cxRows xs).set i [.int a, .int b] = cxRows (xs.set i (a, b)) := by
  unfold cxRows
  rw [List.map_set]
theorem cx_at {xs : List (Int × Int)} {i : Nat} (h : i < xs.length) : (cxRows xs)[i]? = some [.int (xs.getD i (0, 0)).1, .int (xs.getD i (0, 0)).2] := by
  unfold cxRows
  rw [List.getElem?_map, List.getElem?_eq_getElem h, getD_at h]
  rfl
/-- Numbers, some of them turned. -/
def mix (xs : List (Int × Int)) (T : Nat → Int × Int) (P : Nat → Bool) : List (Int × Int) := (List.range xs.length).map fun i => if P i then T i else xs.getD i (0, 0)
theorem mix_len {xs : List (Int × Int)} {T : Nat → Int × Int} {P : Nat → Bool} : (mix xs T P).length = xs.length := by simp [mix]
theorem mix_at {xs : List (Int × Int)} {T : Nat → Int × Int} {P : Nat → Bool} {i : Nat} (h : i < xs.length) : (mix xs T P).getD i (0, 0) = if P i then T i else xs.getD i (0, 0) := by
  rw [getD_at (by rw [mix_len]; exact h)]
  simp [mix]
theorem ext_at {xs ys : List (Int × Int)} (h : xs.length = ys.length) (g : ∀ i, i < xs.length → xs.getD i (0, 0) = ys.getD i (0, 0)) : xs = ys := by
  refine List.ext_getElem h fun i h1 h2 => ?_
  have := g i h1
  rwa [getD_at h1, getD_at h2] at this
theorem mix_eq {xs : List (Int × Int)} {T T' : Nat → Int × Int} {P Q : Nat → Bool} (h : ∀ i, i < xs.length → P i = Q i) (g : ∀ i, i < xs.length → Q i = true → T i = T' i) : mix xs T P = mix xs T' Q := by
  refine ext_at (by rw [mix_len, mix_len]) fun i hi => ?_
  rw [mix_len] at hi
  rw [mix_at hi, mix_at hi, h i hi]
  split
  · rename_i hq
    exact g i hi hq
  · rfl
theorem mix_none {xs : List (Int × Int)} {T : Nat → Int × Int} {P : Nat → Bool} (h : ∀ i, i < xs.length → P i = false) : mix xs T P = xs := by
  refine ext_at mix_len fun i hi => ?_
  rw [mix_len] at hi
  rw [mix_at hi, h i hi]
  rfl
theorem set_at {xs : List (Int × Int)} {j i : Nat} {y : Int × Int} (hj : j < xs.length) (hi : i < xs.length) : (xs.set j y).getD i (0, 0) = if j = i then y else xs.getD i (0, 0) := by
  rw [getD_at (by simpa using hi), List.getElem_set]
  split
  · rfl
  · rw [getD_at hi]
theorem mix_set {xs : List (Int × Int)} {T : Nat → Int × Int} {P : Nat → Bool} {j : Nat} {y : Int × Int} (hj : j < xs.length) (hy : y = T j) : (mix xs T P).set j y = mix xs T fun i => P i || decide (j = i) := by
  refine ext_at (by simp [mix_len]) fun i hi => ?_
  simp only [List.length_set, mix_len] at hi
  rw [set_at (by rw [mix_len]; exact hj) (by rw [mix_len]; exact hi), mix_at hi, mix_at hi]
  by_cases h : j = i
  · subst h
    simp [hy]
  · simp [h]
section
variable (inv : Bool) (bits s mode : Int) (xs ws : List (Int × Int)) (off h u : Nat)
/-- A block's quad j. -/
def bq (j : Nat) (q : Int) : Int × Int :=
  qV inv bits s mode (xs.getD (off + j) (0, 0)).1 (xs.getD (off + j) (0, 0)).2 (xs.getD (off + (2 * h + j)) (0, 0)).1 (xs.getD (off + (2 * h + j)) (0, 0)).2 (xs.getD (off + (h + j)) (0, 0)).1 (xs.getD (off + (h + j)) (0, 0)).2 (xs.getD (off + (3 * h + j)) (0, 0)).1 (xs.getD (off + (3 * h + j)) (0, 0)).2
    (rootV ws inv (j * u)).1 (rootV ws inv (j * u)).2 (rootV ws inv (2 * j * u)).1 (rootV ws inv (2 * j * u)).2 (rootV ws inv (3 * j * u)).1 (rootV ws inv (3 * j * u)).2 q
def bT (i : Nat) : Int × Int := bq inv bits s mode xs ws off h u ((i - off) % h) (((i - off) / h : Nat) : Int)
def bP (j i : Nat) : Bool := decide (off ≤ i ∧ i < off + 4 * h ∧ (i - off) % h < j)
def cur (j : Nat) : List (Int × Int) := mix xs (bT inv bits s mode xs ws off h u) (bP off h j)
theorem bT_at {j : Nat} (hj : j < h) (q : Nat) : bT inv bits s mode xs ws off h u (off + (q * h + j)) = bq inv bits s mode xs ws off h u j q := by
  unfold bT
  have h1 : off + (q * h + j) - off = q * h + j := by omega
  have h2 : (q * h + j) % h = j := by rw [Nat.mul_comm, Nat.mul_add_mod, Nat.mod_eq_of_lt hj]
  have h3 : (q * h + j) / h = q := by rw [Nat.mul_comm, Nat.mul_add_div (by omega), Nat.div_eq_of_lt hj, Nat.add_zero]
  rw [h1, h2, h3]
theorem bP_no {j : Nat} (hj : j < h) (q : Nat) : bP off h j (off + (q * h + j)) = false := by
  unfold bP
  have h1 : off + (q * h + j) - off = q * h + j := by omega
  have h2 : (q * h + j) % h = j := by rw [Nat.mul_comm, Nat.mul_add_mod, Nat.mod_eq_of_lt hj]
  rw [h1, h2]
  simp
theorem cur_len (j : Nat) : (cur inv bits s mode xs ws off h u j).length = xs.length := mix_len
theorem cur_at {j : Nat} (hj : j < h) (q : Nat) (hx : off + (q * h + j) < xs.length) : (cur inv bits s mode xs ws off h u j).getD (off + (q * h + j)) (0, 0) = xs.getD (off + (q * h + j)) (0, 0) := by
  unfold cur
  rw [mix_at hx, bP_no off h hj q]
  rfl
theorem cur_step {j : Nat} (hj : j < h) (hx : off + 4 * h ≤ xs.length) :
    ((((cur inv bits s mode xs ws off h u j).set (off + j) (bq inv bits s mode xs ws off h u j 0)).set (off + (h + j)) (bq inv bits s mode xs ws off h u j 1)).set (off + (2 * h + j)) (bq inv bits s mode xs ws off h u j 2)).set (off + (3 * h + j)) (bq inv bits s mode xs ws off h u j 3) = cur inv bits s mode xs ws off h u (j + 1) := by
  have t0 : bT inv bits s mode xs ws off h u (off + j) = bq inv bits s mode xs ws off h u j 0 := by
    have := bT_at inv bits s mode xs ws off h u hj 0
    rwa [Nat.zero_mul, Nat.zero_add] at this
  have t1 : bT inv bits s mode xs ws off h u (off + (h + j)) = bq inv bits s mode xs ws off h u j 1 := by
    have := bT_at inv bits s mode xs ws off h u hj 1
    rwa [Nat.one_mul] at this
  have t2 : bT inv bits s mode xs ws off h u (off + (2 * h + j)) = bq inv bits s mode xs ws off h u j 2 := bT_at inv bits s mode xs ws off h u hj 2
  have t3 : bT inv bits s mode xs ws off h u (off + (3 * h + j)) = bq inv bits s mode xs ws off h u j 3 := bT_at inv bits s mode xs ws off h u hj 3
  unfold cur
  rw [mix_set (by omega) t0.symm, mix_set (by omega) t1.symm, mix_set (by omega) t2.symm, mix_set (by omega) t3.symm]
  refine mix_eq (fun i hi => ?_) fun _ _ _ => rfl
  have hd := Nat.div_add_mod (i - off) h
  have hm := Nat.mod_lt (i - off) (show 0 < h by omega)
  rw [Bool.eq_iff_iff]
  unfold bP
  simp only [Bool.or_eq_true, decide_eq_true_eq]
  constructor
  · rintro ((((⟨a, b, c⟩ | rfl) | rfl) | rfl) | rfl)
    · exact ⟨a, b, by omega⟩
    · exact ⟨by omega, by omega, by rw [show off + j - off = j by omega, Nat.mod_eq_of_lt hj]; omega⟩
    · exact ⟨by omega, by omega, by rw [show off + (h + j) - off = h * 1 + j by omega, Nat.mul_add_mod, Nat.mod_eq_of_lt hj]; omega⟩
    · exact ⟨by omega, by omega, by rw [show off + (2 * h + j) - off = h * 2 + j by omega, Nat.mul_add_mod, Nat.mod_eq_of_lt hj]; omega⟩
    · exact ⟨by omega, by omega, by rw [show off + (3 * h + j) - off = h * 3 + j by omega, Nat.mul_add_mod, Nat.mod_eq_of_lt hj]; omega⟩
  · rintro ⟨a, b, c⟩
    rcases Nat.lt_or_ge ((i - off) % h) j with hlt | hge
    · exact .inl (.inl (.inl (.inl ⟨a, b, hlt⟩)))
    · have hR : (i - off) % h = j := by omega
      rw [hR] at hd
      have hq : (i - off) / h < 4 := Nat.div_lt_of_lt_mul (by omega)
      generalize (i - off) / h = Q at hd hq
      have : Q = 0 ∨ Q = 1 ∨ Q = 2 ∨ Q = 3 := by omega
      rcases this with e | e | e | e
      · rw [e] at hd; exact .inl (.inl (.inl (.inr (by omega))))
      · rw [e] at hd; exact .inl (.inl (.inr (by omega)))
      · rw [e] at hd; exact .inl (.inr (by omega))
      · rw [e] at hd; exact .inr (by omega)
theorem cur_zero : cur inv bits s mode xs ws off h u 0 = xs := mix_none fun i _ => by simp [bP]
end
end Go.Proofs.YtnnjjblgilibgaaV

import Derived.Test.YtnnjjblgilibgaaGreatVtH
/- A plan's numbers stay what its passes may be given. -/
namespace Go.Proofs.YtnnjjblgilibgaaGreatV
open Go Go.RowKit
set_option linter.unusedVariables false
set_option linter.unusedSimpArgs false
set_option maxRecDepth 100000
set_option maxHeartbeats 40000000
/-- What numbers are behind so many passes. -/
def good (f s : Int) (j : Nat) (xs : List (Int × Int)) : Prop := if s = 0 then ∀ x ∈ xs, nrm x ≤ (r0S f + 16 * j) * (r0S f + 16 * j) else mants f xs
theorem r0_fM {f : Int} (hf : fmt f) {j : Nat} (hj : j ≤ 6) : 0 ≤ r0S f + 16 * j ∧ r0S f + 16 * j ≤ fM f - 1 ∧ fM f = 4 * 2 ^ (fB f - 2).toNat := by
  rcases hf with rfl | rfl
  · refine ⟨?_, ?_, by decide⟩
    · rw [show r0S 0 = 23171 from rfl]; omega
    · rw [show r0S 0 = 23171 from rfl, show fM 0 = 32768 from rfl]; omega
  · refine ⟨?_, ?_, by decide⟩
    · rw [show r0S 1 = 1518500250 from rfl]; omega
    · rw [show r0S 1 = 1518500250 from rfl, show fM 1 = 2147483648 from rfl]; omega
theorem good_mants {f s : Int} (hf : fmt f) {j : Nat} (hj : j ≤ 6) {xs : List (Int × Int)} (h : good f s j xs) : mants f xs := by
  unfold good at h
  split at h
  · intro x hx
    obtain ⟨a, b, _⟩ := r0_fM hf hj
    have := nrm_comp (h x hx) a
    unfold win at this
    unfold mant
    omega
  · exact h
theorem mants_near {f : Int} {xs : List (Int × Int)} (h : mants f xs) : nears (fM f) xs := by
  intro x hx
  have := h x hx
  unfold mant at this
  unfold win
  omega
theorem cl_mant {f : Int} (hf : fmt f) (x : Int) : mant f (cl f x) := by
  have := fM_le hf
  unfold cl mant
  split
  · omega
  · split <;> omega
theorem psV_0 {f k : Int} {xs : List (Int × Int)} : psV f 0 k xs = k / 2 := rfl
theorem psV_1 {f k : Int} {xs : List (Int × Int)} : psV f 1 k xs = preV k f (gm xs xs.length) := rfl
theorem nxB_xs {f s m : Int} {log : Nat} {inv : Bool} {b : Blk} {p : Int × Int} : (nxB f log s m inv b p).xs = if s = 2 then clL f (npV inv (fB f - 2) (psV f s p.1 b.xs) m b.xs (tabV log (fB f - 2)) p) else npV inv (fB f - 2) (psV f s p.1 b.xs) m b.xs (tabV log (fB f - 2)) p := rfl
theorem nxB_len {f s m : Int} {log : Nat} {inv : Bool} {b : Blk} {p : Int × Int} : (nxB f log s m inv b p).xs.length = b.xs.length := by
  rw [nxB_xs]
  split
  · simp [clL, npV_len]
  · exact npV_len
theorem good_next {f s m : Int} (hf : fmt f) (hs : 0 ≤ s ∧ s ≤ 2) (hm : 0 ≤ m ∧ m ≤ 2) {log : Nat} (hl : 2 ≤ log ∧ log ≤ 6) {inv : Bool} {b : Blk} (hx : b.xs.length = 2 ^ log) {p : Int × Int} (hp : PassOf b.xs.length p) {j : Nat} (hj : j ≤ 5) (h : good f s j b.xs) : good f s (j + 1) (nxB f log s m inv b p).xs := by
  have hB := fB_or f
  have hmt := good_mants hf (by omega) h
  have hn := mants_near hmt
  have hn31 := fM_31 hf hn
  have hg := gm_f hf hn
  have htab := tab_near (log := log) (bits := fB f - 2) hl.2 (by omega)
  have htl : ((tabV log (fB f - 2)).length : Int) = b.xs.length := by rw [tabS_len, hx]
  obtain ⟨c1, c2, c3⟩ := r0_fM hf (j := j) (by omega)
  rw [nxB_xs]
  rcases (show s = 0 ∨ s = 1 ∨ s = 2 by omega) with rfl | rfl | rfl
  · rw [if_neg (by decide)]
    unfold good at h ⊢
    rw [if_pos rfl] at h ⊢
    have e : ((r0S f + 16 * ((j + 1 : Nat) : Int)) : Int) = r0S f + 16 * j + 16 := by omega
    rw [e]
    have htn := tab_nrm (log := log) (B := fB f - 2) hl.2 (by omega) rfl
    cases hp with
    | two H u a1 a2 a3 a4 a5 a6 a7 =>
      rw [np_two a1 a5]
      intro y hy
      exact nrm_more (t2V_nrm (B := fB f - 2) (by omega) rfl h htn c1 (by omega) y hy) (by omega) (by omega)
    | four H u a1 a2 a3 a4 a5 a6 =>
      rw [np_four a1 a5]
      intro y hy
      exact pV_nrm (B := fB f - 2) (by omega) rfl h htn c1 (by omega) y hy
  · rw [if_neg (by decide)]
    unfold good
    rw [if_neg (by decide)]
    have hps : ∀ k, k = 2 ∨ k = 4 → setP (fB f - 2) (psV f 1 k b.xs) m := fun k hk => ⟨by omega, psV_bd f 1 k hk b.xs, hm⟩
    cases hp with
    | two H u a1 a2 a3 a4 a5 a6 a7 =>
      rw [np_two a1 a5]
      intro y hy
      obtain ⟨i, hi, rfl⟩ := t2V_mem hy
      have g := tV_grow inv (fB f - 2) (psV f 1 2 b.xs) m b.xs (tabV log (fB f - 2)) H u a1 a4 a5 htl (hps 2 (.inl rfl)) hn31 htab hi
      exact ⟨mant_pre2 hf hg.1 hg.2 g.1, mant_pre2 hf hg.1 hg.2 g.2⟩
    | four H u a1 a2 a3 a4 a5 a6 =>
      rw [np_four a1 a5]
      intro y hy
      obtain ⟨i, hi, rfl⟩ := pV_mem hy
      have g := pT_grow inv (fB f - 2) (psV f 1 4 b.xs) m b.xs (tabV log (fB f - 2)) H u a1 a4 a5 htl (hps 4 (.inr rfl)) hn31 htab hi
      exact ⟨mant_pre4 hf hg.1 hg.2 g.1, mant_pre4 hf hg.1 hg.2 g.2⟩
  · rw [if_pos rfl]
    unfold good
    rw [if_neg (by decide)]
    intro y hy
    unfold clL at hy
    obtain ⟨z, hz, rfl⟩ := List.mem_map.1 hy
    exact ⟨cl_mant hf _, cl_mant hf _⟩
theorem half_rsh {f x m : Int} (hf : fmt f) (h : mant f x) : -halfM f ≤ rsh x 1 m ∧ rsh x 1 m ≤ halfM f := by
  have h1 := (rsh_near' x 1 m).resolve_right (by decide)
  rw [show ((2 : Int) ^ (1 : Int).toNat) = 2 from rfl] at h1
  generalize rsh x 1 m = y at *
  unfold mant at h
  rcases hf with rfl | rfl
  · rw [show fM 0 = 32768 from rfl] at h
    rw [show halfM 0 = 16384 from rfl]
    omega
  · rw [show fM 1 = 2147483648 from rfl] at h
    rw [show halfM 1 = 1073741824 from rfl]
    omega
theorem rsh_00 {x m : Int} : rsh x 0 m = x := if_pos rfl
theorem hM_fM {f : Int} (hf : fmt f) : 0 < hM f ∧ hM f ≤ fM f - 1 := by rcases hf with rfl | rfl <;> decide
theorem good_first {f s m : Int} (hf : fmt f) (hs : 0 ≤ s ∧ s ≤ 2) {xs : List (Int × Int)} (h : mants f xs) : good f s 0 (shL (fsV f s xs) m xs) := by
  have hn := mants_near h
  have hg := gm_f hf hn
  unfold good
  rcases (show s = 0 ∨ s = 1 ∨ s = 2 by omega) with rfl | rfl | rfl
  · rw [if_pos rfl]
    rw [show r0S f + 16 * ((0 : Nat) : Int) = r0S f by omega]
    refine r0_x fun y hy => ?_
    obtain ⟨x, hx, rfl⟩ := List.mem_map.1 hy
    have hm := h x hx
    show win (halfM f) (rsh x.1 1 m) (rsh x.2 1 m)
    have a := half_rsh (m := m) hf hm.1
    have b := half_rsh (m := m) hf hm.2
    unfold win
    omega
  · rw [if_neg (by decide)]
    intro y hy
    obtain ⟨x, hx, rfl⟩ := List.mem_map.1 hy
    have hm := h x hx
    have hw := nears_gm x hx
    have hfs : fsV f 1 xs = -rmV f (gm xs xs.length) := rfl
    rw [hfs]
    have hhM := hM_fM hf
    by_cases h0 : 0 < gm xs xs.length
    · have hr : rmV f (gm xs xs.length) = (rN (gm xs xs.length) (hM f) 31 : Nat) := if_pos h0
      have hin := rN_in (gm xs xs.length) (hM f) 31
      generalize rN (gm xs xs.length) (hM f) 31 = r at *
      rw [hr]
      unfold shV
      by_cases hr0 : r = 0
      · subst hr0
        rw [if_pos (by decide)]
        rw [show (-((0 : Nat) : Int)) = 0 by decide, rsh_00, rsh_00]
        exact hm
      · rw [if_neg (by omega), show (- -(r : Int)).toNat = r by omega]
        have hb := hin (by omega)
        have hp : (0 : Int) ≤ 2 ^ r := Int.pow_nonneg (by omega)
        unfold win at hw
        have k1 : x.1 * 2 ^ r ≤ gm xs xs.length * 2 ^ r := Int.mul_le_mul_of_nonneg_right hw.1 hp
        have k2 : x.2 * 2 ^ r ≤ gm xs xs.length * 2 ^ r := Int.mul_le_mul_of_nonneg_right hw.2.1 hp
        have k3 : -gm xs xs.length * 2 ^ r ≤ x.1 * 2 ^ r := Int.mul_le_mul_of_nonneg_right hw.2.2.1 hp
        have k4 : -gm xs xs.length * 2 ^ r ≤ x.2 * 2 ^ r := Int.mul_le_mul_of_nonneg_right hw.2.2.2 hp
        rw [Int.neg_mul] at k3 k4
        unfold mant
        dsimp only
        omega
    · have hr : rmV f (gm xs xs.length) = 0 := if_neg h0
      rw [hr]
      show mant f (rsh x.1 0 m) ∧ mant f (rsh x.2 0 m)
      rw [rsh_00, rsh_00]
      exact hm
  · rw [if_neg (by decide)]
    intro y hy
    obtain ⟨x, hx, rfl⟩ := List.mem_map.1 hy
    show mant f (rsh x.1 0 m) ∧ mant f (rsh x.2 0 m)
    rw [rsh_00, rsh_00]
    exact h x hx
/-- The block that is ready. -/
def rdB (f : Int) (log : Nat) (k s m : Int) (xs : List (Int × Int)) : Blk := ⟨shL (fsV f s (plL k log xs)) m (plL k log xs), fsV f s (plL k log xs), Bool.false, []⟩
/-- A block behind passes. -/
def psB (f : Int) (log : Nat) (s m : Int) (inv : Bool) (l : List (Int × Int)) (b : Blk) : Blk := l.foldl (nxB f log s m inv) b
theorem psB_snoc {f s m : Int} {log : Nat} {inv : Bool} {l : List (Int × Int)} {b : Blk} {p : Int × Int} : psB f log s m inv (l ++ [p]) b = nxB f log s m inv (psB f log s m inv l b) p := by simp [psB]
/-- What a block is behind so many passes. -/
structure Inv (f : Int) (log : Nat) (s : Int) (j : Nat) (b : Blk) : Prop where
  len : b.xs.length = 2 ^ log
  gd : good f s j b.xs
  e : -31 ≤ b.e ∧ b.e ≤ 31 + 3 * j
  sh : b.sh.length = j
theorem Inv.next {f s m : Int} (hf : fmt f) (hs : 0 ≤ s ∧ s ≤ 2) (hm : 0 ≤ m ∧ m ≤ 2) {log : Nat} (hl : 2 ≤ log ∧ log ≤ 6) {inv : Bool} {j : Nat} {b : Blk} (h : Inv f log s j b) (hj : j ≤ 5) {p : Int × Int} (hp : PassOf (2 ^ log) p) : Inv f log s (j + 1) (nxB f log s m inv b p) := by
  have hk : p.1 = 2 ∨ p.1 = 4 := by cases hp <;> simp
  have hb := psV_bd f s p.1 hk b.xs
  refine ⟨by rw [nxB_len]; exact h.len, good_next hf hs hm hl h.len (by rw [h.len]; exact hp) hj h.gd, ?_, ?_⟩
  · have := h.e
    show -31 ≤ b.e + psV f s p.1 b.xs ∧ b.e + psV f s p.1 b.xs ≤ _
    omega
  · show (b.sh ++ [_]).length = j + 1
    rw [List.length_append, h.sh]
    rfl
theorem plL_len {k : Int} {log : Nat} {xs : List (Int × Int)} (hx : xs.length = 2 ^ log) : (plL k log xs).length = 2 ^ log := by
  unfold plL
  split
  · exact hx
  · exact flipL_len
theorem flip_mants {f : Int} {log : Nat} (hl : 2 ≤ log ∧ log ≤ 6) {xs : List (Int × Int)} (hx : xs.length = 2 ^ log) (h : mants f xs) : mants f (flipL log xs) := by
  intro y hy
  obtain ⟨i, hi, rfl⟩ := List.getElem_of_mem hy
  have hi' : i < 2 ^ log := by rw [flipL_len] at hi; exact hi
  have e := flipL_at (xs := xs) hi'
  rw [getD_at hi] at e
  rw [e]
  have hlt := (flip_at hl hi').2.2
  rw [← hx] at hlt
  rw [getD_at hlt]
  exact h _ (List.getElem_mem hlt)
theorem plL_mants {f k : Int} {log : Nat} (hl : 2 ≤ log ∧ log ≤ 6) {xs : List (Int × Int)} (hx : xs.length = 2 ^ log) (h : mants f xs) : mants f (plL k log xs) := by
  unfold plL
  split
  · exact h
  · exact flip_mants hl hx h
theorem rd_inv {f k s m : Int} (hf : fmt f) (hs : 0 ≤ s ∧ s ≤ 2) {log : Nat} (hl : 2 ≤ log ∧ log ≤ 6) {xs : List (Int × Int)} (hx : xs.length = 2 ^ log) (h : mants f xs) : Inv f log s 0 (rdB f log k s m xs) := by
  refine ⟨?_, good_first hf hs (plL_mants hl hx h), ?_, rfl⟩
  · show (shL _ m (plL k log xs)).length = _
    rw [List.length_map]
    exact plL_len hx
  · have := fsV_bd f s (plL k log xs)
    show -31 ≤ fsV f s (plL k log xs) ∧ fsV f s (plL k log xs) ≤ _
    omega
theorem passL_len {log : Nat} {k : Int} (hl : 2 ≤ log ∧ log ≤ 6) : (passL log k).length ≤ 6 := by
  by_cases h0 : k = 0
  · subst h0
    rcases (show log = 2 ∨ log = 3 ∨ log = 4 ∨ log = 5 ∨ log = 6 by omega) with rfl | rfl | rfl | rfl | rfl <;> decide
  · by_cases h1 : k = 1
    · subst h1
      rcases (show log = 2 ∨ log = 3 ∨ log = 4 ∨ log = 5 ∨ log = 6 by omega) with rfl | rfl | rfl | rfl | rfl <;> decide
    · unfold passL
      rw [if_neg h0, if_neg h1]
      decide
theorem ps_inv {f s m : Int} (hf : fmt f) (hs : 0 ≤ s ∧ s ≤ 2) (hm : 0 ≤ m ∧ m ≤ 2) {log : Nat} (hl : 2 ≤ log ∧ log ≤ 6) {inv : Bool} {b : Blk} (h : Inv f log s 0 b) {k : Int} : ∀ j, j ≤ (passL log k).length → Inv f log s j (psB f log s m inv ((passL log k).take j) b)
  | 0, _ => h
  | j + 1, hj => by
    have hlt : j < (passL log k).length := by omega
    have ih := ps_inv hf hs hm hl h (k := k) (inv := inv) j (by omega)
    have := passL_len (k := k) hl
    rw [List.take_succ_eq_append_getElem hlt, psB_snoc]
    exact ih.next hf hs hm hl (by omega) (pass_of hl (List.getElem_mem hlt))
end Go.Proofs.YtnnjjblgilibgaaGreatV

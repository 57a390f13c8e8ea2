import Derived.Test.YtnnjjblgilibgaaGreatVtX
import Derived.Test.YtnnjjblgilibgaaGreatVtT
import Derived.Test.YtnnjjblgilibgaaGreatVtU
/- FftImpulse answers true. -/
namespace Go.Proofs.YtnnjjblgilibgaaGreatV
open Go Go.RowKit
set_option linter.unusedVariables false
set_option linter.unusedSimpArgs false
set_option maxRecDepth 100000
set_option maxHeartbeats 40000000
/-- Passes that follow each other, from one place to another. -/
def chain : List (Int × Int) → Nat → Nat → Prop
  | [], h, h' => h = h'
  | p :: l, h, h' => p.2 = (h : Int) ∧ chain l (p.1.toNat * h) h'
theorem chain_L {log : Nat} {k : Int} (hl : 2 ≤ log ∧ log ≤ 6) (hk : k = 0 ∨ k = 1) : chain (passL log k) 1 (2 ^ log) := by
  rcases hk with rfl | rfl <;> rcases (show log = 2 ∨ log = 3 ∨ log = 4 ∨ log = 5 ∨ log = 6 by omega) with rfl | rfl | rfl | rfl | rfl
  all_goals simp [passL, chain]
theorem cl_id {f x : Int} (h : mant f x) : cl f x = x := by
  unfold mant at h
  unfold cl
  rw [if_neg (by omega), if_neg (by omega)]
theorem clL_id {f : Int} {xs : List (Int × Int)} (h : mants f xs) : clL f xs = xs := by
  unfold clL
  conv => rhs; rw [← List.map_id xs]
  refine List.map_congr_left fun x hx => ?_
  have := h x hx
  exact Prod.ext (cl_id this.1) (cl_id this.2)
theorem nx_at {f m : Int} {inv : Bool} {log : Nat} {xs ys : List (Int × Int)} {e : Int} {sh : List Int} {p : Int × Int} (h : npV inv (fB f - 2) 0 m xs (tabV log (fB f - 2)) p = ys) (hy : mants f ys) : nxB f log 2 m inv ⟨xs, e, Bool.false, sh⟩ p = ⟨ys, e + 0, Bool.false, sh ++ [0]⟩ := by
  show Blk.mk (clL f (npV inv (fB f - 2) 0 m xs (tabV log (fB f - 2)) p)) (e + 0) (Bool.false || decide (¬ clL f (npV inv (fB f - 2) 0 m xs (tabV log (fB f - 2)) p) = npV inv (fB f - 2) 0 m xs (tabV log (fB f - 2)) p)) (sh ++ [0]) = _
  rw [h, clL_id hy]
  simp
theorem mants_I {f : Int} {a : Int × Int} {n h : Nat} (h1 : mant f a.1) (h2 : mant f a.2) (h0 : mant f 0) : mants f (stI a n h) := by
  intro x hx
  unfold stI at hx
  obtain ⟨i, _, rfl⟩ := List.mem_map.1 hx
  split
  · exact ⟨h1, h2⟩
  · exact ⟨h0, h0⟩
theorem mants_C {f : Int} {a : Int × Int} {n h : Nat} (h1 : mant f ((h : Int) * a.1)) (h2 : mant f ((h : Int) * a.2)) (h0 : mant f 0) : mants f (stC a n h) := by
  intro x hx
  unfold stC at hx
  obtain ⟨i, _, rfl⟩ := List.mem_map.1 hx
  split
  · exact ⟨h1, h2⟩
  · exact ⟨h0, h0⟩
theorem small_m {f : Int} (hf : fmt f) {h : Nat} (hh : h ≤ 64) {x : Int} (hx : -500 ≤ x ∧ x ≤ 500) : mant f ((h : Int) * x) := by
  have h1 : (h : Int) * x ≤ h * 500 := Int.mul_le_mul_of_nonneg_left hx.2 (by omega)
  have h2 : (h : Int) * -500 ≤ h * x := Int.mul_le_mul_of_nonneg_left hx.1 (by omega)
  have := fM_le hf
  unfold mant
  omega
theorem small_1 {f : Int} (hf : fmt f) {x : Int} (hx : -500 ≤ x ∧ x ≤ 500) : mant f x := by
  have := fM_le hf
  unfold mant
  omega
theorem ps_I {f m : Int} (hf : fmt f) {inv : Bool} {log : Nat} (hl : 2 ≤ log ∧ log ≤ 6) {a : Int × Int} (h1 : -500 ≤ a.1 ∧ a.1 ≤ 500) (h2 : -500 ≤ a.2 ∧ a.2 ≤ 500) : ∀ (l : List (Int × Int)) (h h' : Nat) (e : Int) (sh : List Int), (∀ p ∈ l, PassOf (2 ^ log) p) → chain l h h' →
    (psB f log 2 m inv l ⟨stI a (2 ^ log) h, e, Bool.false, sh⟩).xs = stI a (2 ^ log) h' ∧ (psB f log 2 m inv l ⟨stI a (2 ^ log) h, e, Bool.false, sh⟩).sat = Bool.false
  | [], h, h', e, sh, _, hc => by
    obtain rfl : h = h' := hc
    exact ⟨rfl, rfl⟩
  | p :: l, h, h', e, sh, hp, hc => by
    have hB := fB_or f
    have hm : ∀ k, mants f (stI a (2 ^ log) k) := fun k => mants_I (small_1 hf h1) (small_1 hf h2) (small_1 hf (by decide))
    have hpp := hp p (List.mem_cons_self ..)
    obtain ⟨hc1, hc2⟩ := hc
    show (psB f log 2 m inv l (nxB f log 2 m inv _ p)).xs = _ ∧ (psB f log 2 m inv l (nxB f log 2 m inv _ p)).sat = _
    cases hpp with
    | two H u a1 a2 a3 a4 a5 a6 a7 =>
      obtain rfl : H = h := by dsimp only at hc1; omega
      rw [nx_at (by rw [np_two a1 (by rw [stI_len]; exact a5)]; exact t2_stI inv (fB f - 2) m log a1 a5) (hm _)]
      exact ps_I hf hl h1 h2 l (2 * H) h' _ _ (fun q hq => hp q (List.mem_cons_of_mem _ hq)) hc2
    | four H u a1 a2 a3 a4 a5 a6 =>
      obtain rfl : H = h := by dsimp only at hc1; omega
      rw [nx_at (by rw [np_four a1 (by rw [stI_len]; exact a5)]; exact p4_stI inv (fB f - 2) m log a1 a5) (hm _)]
      exact ps_I hf hl h1 h2 l (4 * H) h' _ _ (fun q hq => hp q (List.mem_cons_of_mem _ hq)) hc2
theorem ps_C {f m : Int} (hf : fmt f) {inv : Bool} {log : Nat} (hl : 2 ≤ log ∧ log ≤ 6) {a : Int × Int} (h1 : -500 ≤ a.1 ∧ a.1 ≤ 500) (h2 : -500 ≤ a.2 ∧ a.2 ≤ 500) : ∀ (l : List (Int × Int)) (h h' : Nat) (e : Int) (sh : List Int), (∀ p ∈ l, PassOf (2 ^ log) p) → chain l h h' →
    (psB f log 2 m inv l ⟨stC a (2 ^ log) h, e, Bool.false, sh⟩).xs = stC a (2 ^ log) h' ∧ (psB f log 2 m inv l ⟨stC a (2 ^ log) h, e, Bool.false, sh⟩).sat = Bool.false
  | [], h, h', e, sh, _, hc => by
    obtain rfl : h = h' := hc
    exact ⟨rfl, rfl⟩
  | p :: l, h, h', e, sh, hp, hc => by
    have hB := fB_or f
    have hpow := pow64F hl
    have hm : ∀ k, k ≤ 64 → mants f (stC a (2 ^ log) k) := fun k hk => mants_C (small_m hf hk h1) (small_m hf hk h2) (small_1 hf (by decide))
    have hpp := hp p (List.mem_cons_self ..)
    obtain ⟨hc1, hc2⟩ := hc
    show (psB f log 2 m inv l (nxB f log 2 m inv _ p)).xs = _ ∧ (psB f log 2 m inv l (nxB f log 2 m inv _ p)).sat = _
    cases hpp with
    | two H u a1 a2 a3 a4 a5 a6 a7 =>
      obtain rfl : H = h := by dsimp only at hc1; omega
      rw [nx_at (by rw [np_two a1 (by rw [stC_len]; exact a5)]; exact t2_stC inv (fB f - 2) m log (by omega) a1 a5 rfl) (hm _ (by omega))]
      exact ps_C hf hl h1 h2 l (2 * H) h' _ _ (fun q hq => hp q (List.mem_cons_of_mem _ hq)) hc2
    | four H u a1 a2 a3 a4 a5 a6 =>
      obtain rfl : H = h := by dsimp only at hc1; omega
      rw [nx_at (by rw [np_four a1 (by rw [stC_len]; exact a5)]; exact p4_stC inv (fB f - 2) m log (by omega) a1 a5) (hm _ (by omega))]
      exact ps_C hf hl h1 h2 l (4 * H) h' _ _ (fun q hq => hp q (List.mem_cons_of_mem _ hq)) hc2
theorem flip_z : ((List.range 5).all fun l => flipV (l + 2) 0 == 0 && (List.range (2 ^ (l + 2))).all fun i => (flipV (l + 2) i == 0) == (i == 0)) = true := by decide +kernel
theorem flip_0 {log i : Nat} (hl : 2 ≤ log ∧ log ≤ 6) (hi : i < 2 ^ log) : (flipV log i = 0) ↔ i = 0 := by
  have h := flip_z
  rw [List.all_eq_true] at h
  have h1 := h (log - 2) (List.mem_range.2 (by omega))
  rw [Bool.and_eq_true, List.all_eq_true, show log - 2 + 2 = log by omega] at h1
  have h2 := h1.2 i (List.mem_range.2 hi)
  simp only [beq_iff_eq] at h2
  constructor
  · intro e
    rw [e] at h2
    simpa using h2.symm
  · intro e
    rw [e] at h2 ⊢
    simpa using h2
theorem flip_I {log : Nat} (hl : 2 ≤ log ∧ log ≤ 6) {a : Int × Int} : flipL log (stI a (2 ^ log) 1) = stI a (2 ^ log) 1 := by
  refine ext_at (by rw [flipL_len, stI_len]) fun i hi => ?_
  rw [flipL_len] at hi
  rw [flipL_at hi, stI_at (flip_at hl hi).2.2, stI_at hi]
  have := flip_0 hl hi
  by_cases h : i = 0
  · rw [if_pos (by omega), if_pos (by omega)]
  · rw [if_neg (by omega), if_neg (by omega)]
theorem flip_C {log : Nat} (hl : 2 ≤ log ∧ log ≤ 6) {a : Int × Int} : flipL log (stC a (2 ^ log) 1) = stC a (2 ^ log) 1 := by
  refine ext_at (by rw [flipL_len, stC_len]) fun i hi => ?_
  rw [flipL_len] at hi
  rw [flipL_at hi, stC_at (flip_at hl hi).2.2, stC_at hi, Nat.mod_one, Nat.mod_one]
theorem shL_0 {m : Int} {xs : List (Int × Int)} : shL 0 m xs = xs := by
  conv => rhs; rw [← List.map_id xs]
  refine List.map_congr_left fun x hx => ?_
  show (rsh x.1 0 m, rsh x.2 0 m) = x
  rw [rsh_00, rsh_00]
theorem rn_I {f k m : Int} {inv : Bool} {log : Nat} (hp : pOk f log k 2 m) {a : Int × Int} (h1 : -500 ≤ a.1 ∧ a.1 ≤ 500) (h2 : -500 ≤ a.2 ∧ a.2 ≤ 500) (hk : k = 0 ∨ k = 1) : (rnB f log k 2 m inv (stI a (2 ^ log) 1)).xs = stI a (2 ^ log) (2 ^ log) ∧ (rnB f log k 2 m inv (stI a (2 ^ log) 1)).sat = Bool.false := by
  have hl : 2 ≤ log ∧ log ≤ 6 := by have := hp.2.1; omega
  have hk2 : ¬ k = 2 := by omega
  have e : rnB f log k 2 m inv (stI a (2 ^ log) 1) = psB f log 2 m inv (passL log k) ⟨stI a (2 ^ log) 1, 0, Bool.false, []⟩ := by
    unfold rnB rdB plL
    rw [if_neg hk2, if_neg hk2, flip_I hl]
    show psB f log 2 m inv (passL log k) ⟨shL 0 m _, 0, Bool.false, []⟩ = _
    rw [shL_0]
  rw [e]
  exact ps_I (fmt_of hp) hl h1 h2 _ 1 _ _ _ (fun p hp => pass_of hl hp) (chain_L hl hk)
theorem rn_C {f k m : Int} {inv : Bool} {log : Nat} (hp : pOk f log k 2 m) {a : Int × Int} (h1 : -500 ≤ a.1 ∧ a.1 ≤ 500) (h2 : -500 ≤ a.2 ∧ a.2 ≤ 500) (hk : k = 0 ∨ k = 1) : (rnB f log k 2 m inv (stC a (2 ^ log) 1)).xs = stC a (2 ^ log) (2 ^ log) ∧ (rnB f log k 2 m inv (stC a (2 ^ log) 1)).sat = Bool.false := by
  have hl : 2 ≤ log ∧ log ≤ 6 := by have := hp.2.1; omega
  have hk2 : ¬ k = 2 := by omega
  have e : rnB f log k 2 m inv (stC a (2 ^ log) 1) = psB f log 2 m inv (passL log k) ⟨stC a (2 ^ log) 1, 0, Bool.false, []⟩ := by
    unfold rnB rdB plL
    rw [if_neg hk2, if_neg hk2, flip_C hl]
    show psB f log 2 m inv (passL log k) ⟨shL 0 m _, 0, Bool.false, []⟩ = _
    rw [shL_0]
  rw [e]
  exact ps_C (fmt_of hp) hl h1 h2 _ 1 _ _ _ (fun p hp => pass_of hl hp) (chain_L hl hk)
end Go.Proofs.YtnnjjblgilibgaaGreatV

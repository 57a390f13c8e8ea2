import Derived.Test.YtnnjjblgilibgaaGreatVuC
/- With shifts as needed the greatest part stays great. -/
namespace Go.Proofs.YtnnjjblgilibgaaGreatV
open Go Go.RowKit
set_option linter.unusedVariables false
set_option linter.unusedSimpArgs false
set_option maxRecDepth 100000
set_option maxHeartbeats 40000000
theorem get_nrm {xs : List (Int × Int)} {K : Int} (h : ∀ i, i < xs.length → nrm (xs.getD i (0, 0)) ≤ K) : ∀ x ∈ xs, nrm x ≤ K := by
  intro x hx
  obtain ⟨i, hi, rfl⟩ := List.getElem_of_mem hx
  have := h i hi
  rwa [getD_at hi] at this
theorem nrm_get {xs : List (Int × Int)} {K : Int} (h : ∀ x ∈ xs, nrm x ≤ K) {i : Nat} (hi : i < xs.length) : nrm (xs.getD i (0, 0)) ≤ K := by
  rw [getD_at hi]
  exact h _ (List.getElem_mem hi)
theorem root_low {inv : Bool} {log k : Nat} {B : Int} (hl : log ≤ 6) (hB : 2 ≤ B ∧ B ≤ 40) (hk : k < 2 ^ log) : (2 ^ B.toNat - 3) * (2 ^ B.toNat - 3) < nrm (rootV (tabV log B) inv k) := by
  rw [rootV_nrm, tabS_get hk]
  exact rW_low log k B hl hB
section
variable {inv : Bool} {B mode R s : Int} {xs : List (Int × Int)} {log H u : Nat} (hl : log ≤ 6) (hB : 5 ≤ B ∧ B ≤ 40) (hs : 0 ≤ s) (hR0 : 0 ≤ R) (hR : R ≤ 4 * 2 ^ B.toNat) (hx : xs.length = 2 ^ log) (hH : 0 < H) (hu0 : 0 < u)
include hl hB hs hR0 hR hx hH hu0
theorem two_back (hn : xs.length = 2 * H * u) (h : ∀ y ∈ t2V inv B s mode xs (tabV log B) H u, nrm y ≤ R * R) : ∀ x ∈ xs, nrm x ≤ (2 ^ s.toNat * (R + 20)) * (2 ^ s.toNat * (R + 20)) := by
  have hP0 : (20 : Int) ≤ 2 ^ B.toNat := by
    have h1 : (2 : Int) ^ 5 ≤ 2 ^ B.toNat := pow_le (by omega)
    have : (2 : Int) ^ 5 = 32 := rfl
    omega
  refine get_nrm fun i hi => ?_
  have key : ∀ j, j + H < xs.length → (j / H) % 2 = 0 → nrm (xs.getD j (0, 0)) ≤ (2 ^ s.toNat * (R + 20)) * (2 ^ s.toNat * (R + 20)) ∧ nrm (xs.getD (j + H) (0, 0)) ≤ (2 ^ s.toNat * (R + 20)) * (2 ^ s.toNat * (R + 20)) := by
    intro j hj hc
    have hjl : j < xs.length := by omega
    have h1 := nrm_get h (i := j) (by rw [t2V_len]; exact hjl)
    have h2 := nrm_get h (i := j + H) (by rw [t2V_len]; exact hj)
    rw [t2V_at hjl] at h1
    rw [t2V_at hj] at h2
    unfold tV at h1 h2
    rw [if_pos hc] at h1
    rw [if_neg (by rw [Nat.add_div_right _ hH]; omega), Nat.add_sub_cancel, Nat.add_mod_right] at h2
    have hk : j % H * u < 2 ^ log := by
      have hm := Nat.mod_lt j hH
      have h3 : j % H * u ≤ (H - 1) * u := Nat.mul_le_mul_right _ (by omega)
      have h4 : (H - 1) * u < 2 * H * u := Nat.mul_lt_mul_of_pos_right (by omega) hu0
      omega
    exact pair_back (by omega) hs rfl hP0 hR0 hR (root_low hl (by omega) hk) h1 h2
  rcases pair_in hH hn hi with ⟨hc, hin, _⟩ | ⟨hc, hin, _⟩
  · exact (key i hin hc).1
  · have := (key (i - H) (by omega) (by
      have h3 := Nat.add_div_right (i - H) hH
      rw [Nat.sub_add_cancel hin] at h3
      omega)).2
    rwa [Nat.sub_add_cancel hin] at this
omit hl hB hs hR0 hR hx hH hu0 in
theorem p4_atS {i n : Nat} {ws : List (Int × Int)} (hn : xs.length = n) (hi : i < n) : (pV inv B s mode xs ws H u).getD i (0, 0) = bq inv B s mode xs ws (4 * H * (i / (4 * H))) H u (i % H) (((i % (4 * H)) / H : Nat) : Int) := by
  rw [pV_at _ _ _ _ _ _ _ _ (by rw [hn]; exact hi)]
  unfold pT bT
  have hd := Nat.div_add_mod i (4 * H)
  have e : i - 4 * H * (i / (4 * H)) = i % (4 * H) := by omega
  rw [e, show i % (4 * H) % H = i % H from Nat.mod_mod_of_dvd i ⟨4, by omega⟩]
theorem four_back (hn : xs.length = 4 * H * u) (h : ∀ y ∈ pV inv B s mode xs (tabV log B) H u, nrm y ≤ R * R) : ∀ x ∈ xs, nrm x ≤ (2 ^ s.toNat * (R + 20)) * (2 ^ s.toNat * (R + 20)) := by
  have hP0 : (20 : Int) ≤ 2 ^ B.toNat := by
    have h1 : (2 : Int) ^ 5 ≤ 2 ^ B.toNat := pow_le (by omega)
    have : (2 : Int) ^ 5 = 32 := rfl
    omega
  refine get_nrm fun i hi => ?_
  have hd := Nat.div_add_mod i (4 * H)
  have hm4 := Nat.mod_lt i (show 0 < 4 * H by omega)
  have hdm := Nat.div_add_mod (i % (4 * H)) H
  have hmm : i % (4 * H) % H = i % H := Nat.mod_mod_of_dvd i ⟨4, by omega⟩
  have hj := Nat.mod_lt i hH
  have hkk : i % (4 * H) / H < 4 := Nat.div_lt_of_lt_mul (by omega)
  have hg : 4 * H * (i / (4 * H)) + 4 * H ≤ xs.length := by
    have h1 : i / (4 * H) < u := Nat.div_lt_of_lt_mul (by omega)
    have h2 : 4 * H * (i / (4 * H) + 1) ≤ 4 * H * u := Nat.mul_le_mul_left _ h1
    rw [Nat.mul_add, Nat.mul_one] at h2
    omega
  rw [hmm] at hdm
  have hju : ∀ a, a < 4 → a * (i % H) * u < 2 ^ log := fun a ha => by
    have : a * (i % H) * u ≤ 3 * (H - 1) * u := Nat.mul_le_mul_right _ (Nat.mul_le_mul (by omega) (by omega))
    have h3 : 3 * (H - 1) * u < 4 * H * u := Nat.mul_lt_mul_of_pos_right (by omega) hu0
    omega
  have hq : ∀ q : Nat, q < 4 → nrm (bq inv B s mode xs (tabV log B) (4 * H * (i / (4 * H))) H u (i % H) (q : Int)) ≤ R * R := by
    intro q hq4
    have hqH : q * H ≤ 3 * H := Nat.mul_le_mul_right _ (by omega)
    have hr : q * H + i % H < 4 * H := by omega
    have hi2 : 4 * H * (i / (4 * H)) + (q * H + i % H) < xs.length := by omega
    have h1 := nrm_get h (i := 4 * H * (i / (4 * H)) + (q * H + i % H)) (by rw [pV_len]; exact hi2)
    rw [p4_atS rfl hi2] at h1
    have e1 : (4 * H * (i / (4 * H)) + (q * H + i % H)) / (4 * H) = i / (4 * H) := by
      rw [Nat.mul_add_div (by omega), Nat.div_eq_of_lt hr, Nat.add_zero]
    have e2 : (4 * H * (i / (4 * H)) + (q * H + i % H)) % (4 * H) = q * H + i % H := by
      rw [Nat.mul_add_mod, Nat.mod_eq_of_lt hr]
    have e3 : (q * H + i % H) / H = q := by
      rw [Nat.mul_comm, Nat.mul_add_div hH, Nat.div_eq_of_lt hj, Nat.add_zero]
    have e4 : (4 * H * (i / (4 * H)) + (q * H + i % H)) % H = i % H := by
      rw [← Nat.mod_mod_of_dvd _ (show H ∣ 4 * H from ⟨4, by omega⟩), e2, Nat.mul_comm, Nat.mul_add_mod, Nat.mod_eq_of_lt hj]
    rw [e1, e2, e3, e4] at h1
    exact h1
  have u1 : (i % H) * u < 2 ^ log := by have := hju 1 (by decide); rwa [Nat.one_mul] at this
  have hQ := quad_back (inv := inv) (mode := mode) (by omega) hs rfl hP0 hR0 hR (root_low (inv := inv) hl (by omega) u1) (root_low (inv := inv) hl (by omega) (hju 2 (by decide))) (root_low (inv := inv) hl (by omega) (hju 3 (by decide))) hq
  have hii : i = 4 * H * (i / (4 * H)) + (H * (i % (4 * H) / H) + i % H) := by rw [hdm]; exact hd.symm
  rcases (show ∀ k : Nat, k < 4 → k = 0 ∨ k = 1 ∨ k = 2 ∨ k = 3 from fun k h => by omega) _ hkk with e | e | e | e
  · rw [e, Nat.mul_zero, Nat.zero_add] at hii
    rw [hii]
    exact hQ.1.1
  · rw [e, Nat.mul_one] at hii
    rw [hii]
    exact hQ.2.1
  · rw [e, Nat.mul_comm H 2] at hii
    rw [hii]
    exact hQ.1.2
  · rw [e, Nat.mul_comm H 3] at hii
    rw [hii]
    exact hQ.2.2
end
theorem nx_back {f m : Int} (hf : fmt f) {log : Nat} (hl : 2 ≤ log ∧ log ≤ 6) {inv : Bool} {b : Blk} (hx : b.xs.length = 2 ^ log) {p : Int × Int} (hp : PassOf b.xs.length p) {R : Int} (hR0 : 0 ≤ R) (hR : R ≤ 4 * 2 ^ (fB f - 2).toNat) (h : ∀ y ∈ (nxB f log 1 m inv b p).xs, nrm y ≤ R * R) :
    ∀ x ∈ b.xs, nrm x ≤ (2 ^ (psV f 1 p.1 b.xs).toNat * (R + 20)) * (2 ^ (psV f 1 p.1 b.xs).toNat * (R + 20)) := by
  have hB := fB_or f
  have hk : p.1 = 2 ∨ p.1 = 4 := by cases hp <;> simp
  have hps := psV_bd f 1 p.1 hk b.xs
  rw [nxB_xs, if_neg (by decide)] at h
  cases hp with
  | two H u a1 a2 a3 a4 a5 a6 a7 =>
    rw [np_two a1 a5] at h
    exact two_back hl.2 (by omega) hps.1 hR0 hR hx a1 a4 a5 h
  | four H u a1 a2 a3 a4 a5 a6 =>
    rw [np_four a1 a5] at h
    exact four_back hl.2 (by omega) hps.1 hR0 hR hx a1 a4 a5 h
/-- The bound that is asked for, by norms. -/
def lowR (f : Int) : Int := 3 * (fM f / 64)
theorem low_num {f : Int} (hf : fmt f) : 0 ≤ lowR f ∧ lowR f + 120 ≤ 4 * 2 ^ (fB f - 2).toNat ∧ 16 * (lowR f + 140) < fM f ∧ 2 * ((fM f / 32) * (fM f / 32)) ≤ lowR f * lowR f := by
  rcases hf with rfl | rfl <;> decide
/-- Numbers whose norms were small ahead of all passes, if they are so behind them. -/
theorem ps_low {f m : Int} (hf : fmt f) (hm : 0 ≤ m ∧ m ≤ 2) {log : Nat} (hl : 2 ≤ log ∧ log ≤ 6) {inv : Bool} : ∀ (l : List (Int × Int)) (j : Nat) (b : Blk), l.length + j ≤ 6 → (∀ p ∈ l, PassOf (2 ^ log) p) → Inv f log 1 j b →
    (∀ x ∈ (psB f log 1 m inv l b).xs, nrm x ≤ lowR f * lowR f) → ∀ x ∈ b.xs, nrm x ≤ (lowR f + 20 * l.length) * (lowR f + 20 * l.length)
  | [], j, b, _, _, hb, h => by
    intro x hx
    have := h x hx
    rw [List.length_nil, show lowR f + 20 * ((0 : Nat) : Int) = lowR f by omega]
    exact this
  | p :: l, j, b, hj, hp, hb, h => by
    obtain ⟨n1, n2, n3, n4⟩ := low_num hf
    rw [List.length_cons] at hj
    have hpp := hp p (List.mem_cons_self ..)
    have hk : p.1 = 2 ∨ p.1 = 4 := by cases hpp <;> simp
    have hnext := hb.next (m := m) (inv := inv) hf (by decide) hm hl (by omega) hpp
    have ih := ps_low hf hm hl l (j + 1) (nxB f log 1 m inv b p) (by omega) (fun q hq => hp q (List.mem_cons_of_mem _ hq)) hnext h
    have hR : lowR f + 20 * (l.length : Int) ≤ lowR f + 120 := by omega
    have hback := nx_back hf hl hb.len (by rw [hb.len]; exact hpp) (R := lowR f + 20 * l.length) (by omega) (by omega) ih
    have hb2 := psV_bd f 1 p.1 hk b.xs
    have hpv : psV f 1 p.1 b.xs = preV p.1 f (gm b.xs b.xs.length) := rfl
    have hg := gm_f hf (mants_near (good_mants hf (by omega) hb.gd))
    obtain ⟨σ, hσ⟩ : ∃ σ, psV f 1 p.1 b.xs = σ := ⟨_, rfl⟩
    rw [hσ] at hback hb2
    have hgm : gm b.xs b.xs.length ≤ 2 ^ σ.toNat * (lowR f + 20 * l.length + 20) := by
      have hK : 0 ≤ 2 ^ σ.toNat * (lowR f + 20 * l.length + 20) := Int.mul_nonneg (Int.pow_nonneg (by decide)) (by omega)
      exact gm_in hK (fun x hx => nrm_comp (hback x hx) hK) _ (Nat.le_refl _)
    have h0 : σ = 0 := by
      rw [hpv] at hσ
      have e : fM f = 32768 ∨ fM f = 2147483648 := by rcases hf with rfl | rfl <;> simp [fM]
      rcases (show σ = 0 ∨ σ = 1 ∨ σ = 2 ∨ σ = 3 by omega) with r | r | r | r
      · exact r
      all_goals
        exfalso
        subst r
        first
          | rw [show ((2 : Int) ^ (1 : Int).toNat) = 2 from rfl] at hgm
          | rw [show ((2 : Int) ^ (2 : Int).toNat) = 4 from rfl] at hgm
          | rw [show ((2 : Int) ^ (3 : Int).toNat) = 8 from rfl] at hgm
        unfold preV at hσ
        rcases hk with hk | hk
        all_goals
          rw [hk] at hσ
          simp only [if_true, if_false, show ¬ (2 : Int) = 4 by decide] at hσ
          repeat' split at hσ
          all_goals omega
    subst h0
    intro x hx
    have := hback x hx
    rw [show ((2 : Int) ^ (0 : Int).toNat) = 1 from rfl, Int.one_mul] at this
    rw [List.length_cons, show lowR f + 20 * ((l.length + 1 : Nat) : Int) = lowR f + 20 * l.length + 20 by omega]
    exact this
theorem rd_great {f k m : Int} {log : Nat} (hp : pOk f log k 1 m) {xs : List (Int × Int)} (hx : xs.length = 2 ^ log) (h : mants f xs) (hm : 0 < gm xs xs.length) : fM f / 4 < gm (rdB f log k 1 m xs).xs (rdB f log k 1 m xs).xs.length := by
  have hf := fmt_of hp
  have hl : 2 ≤ log ∧ log ≤ 6 := by have := hp.2.1; omega
  have hk2 : ¬ k = 2 := fun e => by have := hp.2.2.2.2.2 e; omega
  have h31 := fM_31 hf (mants_near h)
  have hfl := gm_flip hl hx h31
  have e : (rdB f log k 1 m xs).xs = upL (rN (gm xs xs.length) (hM f) 31) (flipL log xs) := by
    unfold rdB plL
    rw [if_neg hk2]
    have f1 : fsV f 1 (flipL log xs) = -((rN (gm xs xs.length) (hM f) 31 : Nat) : Int) := by
      show -rmV f (gm (flipL log xs) (flipL log xs).length) = _
      rw [hfl]
      unfold rmV
      rw [if_pos hm]
    rw [f1]
    exact shT_up
  have hlen : (upL (rN (gm xs xs.length) (hM f) 31) (flipL log xs)).length = (flipL log xs).length := upL_len
  rw [e, hlen, gm_up, hfl]
  have h30 := rN_30 hf hm
  have hout := rN_out (gm xs xs.length) (hM f) 31 (rN (gm xs xs.length) (hM f) 31 + 1) (by omega) (by omega)
  rw [Int.pow_succ, ← Int.mul_assoc] at hout
  generalize gm xs xs.length * 2 ^ rN (gm xs xs.length) (hM f) 31 = g at *
  have : hM f = 2 * (fM f / 4) := by rcases hf with rfl | rfl <;> decide
  omega
/-- The greatest part behind all passes. -/
theorem rn_great {f k m : Int} {inv : Bool} {log : Nat} (hp : pOk f log k 1 m) {xs : List (Int × Int)} (hx : xs.length = 2 ^ log) (h : mants f xs) (hm : 0 < gm xs xs.length) : fM f / 32 ≤ gm (rnB f log k 1 m inv xs).xs (rnB f log k 1 m inv xs).xs.length := by
  have hf := fmt_of hp
  have hl : 2 ≤ log ∧ log ≤ 6 := by have := hp.2.1; omega
  have hmm := hp.2.2.2.2.1
  have hk2 : ¬ k = 2 := fun e => by have := hp.2.2.2.2.2 e; omega
  obtain ⟨n1, n2, n3, n4⟩ := low_num hf
  have hi0 := rd_inv (k := k) (m := m) hf (by decide : (0 : Int) ≤ 1 ∧ (1 : Int) ≤ 2) hl hx h
  have hr : rnB f log k 1 m inv xs = psB f log 1 m inv (passL log k) (rdB f log k 1 m xs) := if_neg hk2
  rw [hr]
  refine Int.not_lt.1 fun hlt => ?_
  have hpl := passL_len (k := k) hl
  have hsm : ∀ x ∈ (psB f log 1 m inv (passL log k) (rdB f log k 1 m xs)).xs, nrm x ≤ lowR f * lowR f := by
    intro x hx'
    have hw : win (gm (psB f log 1 m inv (passL log k) (rdB f log k 1 m xs)).xs (psB f log 1 m inv (passL log k) (rdB f log k 1 m xs)).xs.length) x.1 x.2 := nears_gm x hx'
    generalize gm (psB f log 1 m inv (passL log k) (rdB f log k 1 m xs)).xs (psB f log 1 m inv (passL log k) (rdB f log k 1 m xs)).xs.length = g at *
    unfold win at hw
    have a1 : x.1 * x.1 ≤ (fM f / 32) * (fM f / 32) := by
      have b1 : 0 ≤ (fM f / 32 - x.1) * (fM f / 32 + x.1) := Int.mul_nonneg (by omega) (by omega)
      grind
    have a2 : x.2 * x.2 ≤ (fM f / 32) * (fM f / 32) := by
      have b1 : 0 ≤ (fM f / 32 - x.2) * (fM f / 32 + x.2) := Int.mul_nonneg (by omega) (by omega)
      grind
    unfold nrm
    omega
  have hlow := ps_low hf hmm hl (passL log k) 0 (rdB f log k 1 m xs) (by omega) (fun p hp => pass_of hl hp) hi0 hsm
  have hgr := rd_great hp hx h hm
  have hK : 0 ≤ lowR f + 20 * (passL log k).length := by omega
  have hgm := gm_in hK (fun x hx => nrm_comp (hlow x hx) hK) _ (Nat.le_refl (rdB f log k 1 m xs).xs.length)
  omega
end Go.Proofs.YtnnjjblgilibgaaGreatV

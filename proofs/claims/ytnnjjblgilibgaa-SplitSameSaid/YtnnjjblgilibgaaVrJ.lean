import Derived.Test.YtnnjjblgilibgaaVrG
/- Roots: what they come to. No program here. -/
namespace Go.Proofs.YtnnjjblgilibgaaV
open Go Go.RowKit
set_option linter.unusedVariables false
set_option linter.unusedSimpArgs false
set_option maxRecDepth 100000
set_option maxHeartbeats 40000000
theorem rW_of {log : Nat} {k k' bits : Int} (h : rR log k = rR log k') : rW log k bits = rW log k' bits := by
  unfold rW rP
  rw [h]
theorem rW_again (log : Nat) (k bits : Int) : rW log (k + 2 ^ log) bits = rW log k bits := by
  refine rW_of ?_
  unfold rR
  rw [Int.add_emod_right]
/-- A root of a place in the circle. -/
def pR (log u : Nat) (bits : Int) : Int × Int := (rsh (ptV log u).1 (56 - bits) 1, rsh (ptV log u).2 (56 - bits) 1)
def qR (p : Int × Int) (q : Nat) : Int × Int := (tRe p.1 p.2 (q : Int), -(tIm p.1 p.2 (q : Int)))
theorem rW_is (log : Nat) (k bits : Int) : rW log k bits = qR (pR log (4 * rR log k % 2 ^ log) bits) (4 * rR log k / 2 ^ log) := rfl
theorem q_lt {log : Nat} {k : Int} : 4 * rR log k / 2 ^ log < 4 := by
  have := (rR_lt (log := log) (k := k)).1
  exact Nat.div_lt_of_lt_mul (by omega)
theorem qR_next (p : Int × Int) (q q' : Nat) (hq : q < 4) (h : q' = q + 1 ∨ q' + 4 = q + 1) : qR p q' = (tRe (qR p q).1 (qR p q).2 (-1), tIm (qR p q).1 (qR p q).2 (-1)) := by
  have hc : q = 0 ∨ q = 1 ∨ q = 2 ∨ q = 3 := by omega
  unfold qR
  rcases hc with rfl | rfl | rfl | rfl
  · obtain rfl : q' = 1 := by omega
    simp [tRe, tIm]
  · obtain rfl : q' = 2 := by omega
    simp [tRe, tIm]
  · obtain rfl : q' = 3 := by omega
    simp [tRe, tIm]
  · rcases h with h | h
    · obtain rfl : q' = 4 := by omega
      simp [tRe, tIm]
    · obtain rfl : q' = 0 := by omega
      simp [tRe, tIm]
theorem rW_quarter (log : Nat) (k bits m : Int) (hm : 4 * m = 2 ^ log) : rW log (k + m) bits = (tRe (rW log k bits).1 (rW log k bits).2 (-1), tIm (rW log k bits).1 (rW log k bits).2 (-1)) := by
  have hp : 0 < 2 ^ log := Nat.two_pow_pos log
  have hpn : ((2 ^ log : Nat) : Int) = 2 ^ log := by rw [Int.natCast_pow]; rfl
  obtain ⟨h1, h2⟩ := rR_lt (log := log) (k := k)
  obtain ⟨h3, h4⟩ := rR_lt (log := log) (k := k + m)
  have hmm : m % 2 ^ log = m := Int.emod_eq_of_lt (by omega) (by omega)
  have key : ∃ c, 4 * rR log (k + m) + 2 ^ log * c = 4 * rR log k + 2 ^ log ∧ (c = 0 ∨ c = 4) := by
    rw [Int.add_emod, hmm, ← h2, ← hpn] at h4
    by_cases hc : ((rR log k : Nat) : Int) + m < ((2 ^ log : Nat) : Int)
    · rw [Int.emod_eq_of_lt (by omega) hc] at h4
      exact ⟨0, by omega, .inl rfl⟩
    · rw [← Int.sub_emod_right, Int.emod_eq_of_lt (by omega) (by omega)] at h4
      exact ⟨4, by omega, .inr rfl⟩
  obtain ⟨c, hc, hcc⟩ := key
  have e1 : 4 * rR log (k + m) % 2 ^ log = 4 * rR log k % 2 ^ log := by
    have := congrArg (· % 2 ^ log) hc
    simpa using this
  have e2 : 4 * rR log (k + m) / 2 ^ log + c = 4 * rR log k / 2 ^ log + 1 := by
    have : (4 * rR log (k + m) + 2 ^ log * c) / 2 ^ log = (4 * rR log k + 2 ^ log) / 2 ^ log := by rw [hc]
    rwa [Nat.add_mul_div_left _ _ hp, Nat.add_div_right _ hp] at this
  rw [rW_is, rW_is, e1]
  exact qR_next _ _ _ q_lt (by omega)
theorem z_zero (log : Nat) : zV 0 log = 0 := by unfold zV; simp
theorem one_tab : ((List.range 41).all fun b => decide (rsh (goL ANG 0 (43757185469210200, 0, 0)).1 (56 - (b : Int)) 1 = 2 ^ b ∧ rsh (goL ANG 0 (43757185469210200, 0, 0)).2.1 (56 - (b : Int)) 1 = 0)) = true := by decide +kernel
theorem pR_one (log : Nat) (bits : Int) (hb : 0 ≤ bits ∧ bits ≤ 40) : pR log 0 bits = (2 ^ bits.toNat, 0) := by
  have h := of_decide_eq_true (List.all_eq_true.1 one_tab bits.toNat (List.mem_range.2 (by omega)))
  have e : ((bits.toNat : Nat) : Int) = bits := by omega
  rw [e] at h
  have ep : ptV log 0 = ((goL ANG 0 (43757185469210200, 0, 0)).1, (goL ANG 0 (43757185469210200, 0, 0)).2.1) := by
    have hp : 0 < 2 ^ log := Nat.two_pow_pos log
    unfold ptV
    rw [if_pos (by omega), Nat.mul_zero]
    unfold eV
    rw [inv_n, run_L, z_zero]
  unfold pR
  rw [ep, h.1, h.2]
theorem rR_zero (log : Nat) : rR log 0 = 0 := by unfold rR; simp
theorem rW_one (log : Nat) (bits : Int) (hb : 0 ≤ bits ∧ bits ≤ 40) : rW log 0 bits = (2 ^ bits.toNat, 0) := by
  rw [rW_is, rR_zero]
  simp only [Nat.mul_zero, Nat.zero_mod, Nat.zero_div]
  rw [pR_one log bits hb]
  unfold qR tRe tIm
  simp
theorem pt_swap (log u : Nat) (h : 0 < u) (hu : u < 2 ^ log) : ptV log (2 ^ log - u) = ((ptV log u).2, (ptV log u).1) := by
  unfold ptV
  by_cases c1 : 2 * u < 2 ^ log
  · rw [if_neg (by omega), if_pos (by omega), if_pos c1, show 2 ^ log - (2 ^ log - u) = u by omega]
  · by_cases c2 : 2 ^ log < 2 * u
    · rw [if_pos (by omega), if_neg c1, if_pos c2]
    · rw [if_neg (by omega), if_neg (by omega), if_neg c1, if_neg c2]
theorem qR_opp (p : Int × Int) (q q' : Nat) (h : q + q' = 3) : qR (p.2, p.1) q' = ((qR p q).1, -(qR p q).2) := by
  have hc : q = 0 ∨ q = 1 ∨ q = 2 ∨ q = 3 := by omega
  unfold qR
  rcases hc with rfl | rfl | rfl | rfl
  · obtain rfl : q' = 3 := by omega
    simp [tRe, tIm]
  · obtain rfl : q' = 2 := by omega
    simp [tRe, tIm]
  · obtain rfl : q' = 1 := by omega
    simp [tRe, tIm]
  · obtain rfl : q' = 0 := by omega
    simp [tRe, tIm]
theorem qR_opp0 (a : Int) (q q' : Nat) (h : q + q' = 4 ∨ q = 0 ∧ q' = 0) : qR (a, 0) q' = ((qR (a, 0) q).1, -(qR (a, 0) q).2) := by
  have hc : q = 0 ∨ q = 1 ∨ q = 2 ∨ q = 3 ∨ q = 4 := by omega
  unfold qR
  rcases hc with rfl | rfl | rfl | rfl | rfl
  · rcases h with h | h
    · obtain rfl : q' = 4 := by omega
      simp [tRe, tIm]
    · obtain rfl : q' = 0 := by omega
      simp [tRe, tIm]
  · obtain rfl : q' = 3 := by omega
    simp [tRe, tIm]
  · obtain rfl : q' = 2 := by omega
    simp [tRe, tIm]
  · obtain rfl : q' = 1 := by omega
    simp [tRe, tIm]
  · obtain rfl : q' = 0 := by omega
    simp [tRe, tIm]
theorem rW_opp (log : Nat) (k bits : Int) (hb : 0 ≤ bits ∧ bits ≤ 40) : rW log (-k) bits = ((rW log k bits).1, -(rW log k bits).2) := by
  have hp : 0 < 2 ^ log := Nat.two_pow_pos log
  have hpn : ((2 ^ log : Nat) : Int) = 2 ^ log := by rw [Int.natCast_pow]; rfl
  obtain ⟨h1, h2⟩ := rR_lt (log := log) (k := k)
  obtain ⟨h3, h4⟩ := rR_lt (log := log) (k := -k)
  have hr : rR log (-k) = if rR log k = 0 then 0 else 2 ^ log - rR log k := by
    have e : (-k) % 2 ^ log = (-((rR log k : Nat) : Int)) % 2 ^ log := by
      have h5 := Int.emod_add_mul_ediv k (2 ^ log)
      have h6 : -k = -((rR log k : Nat) : Int) + 2 ^ log * (-(k / 2 ^ log)) := by rw [h2, Int.mul_neg]; omega
      rw [h6, Int.add_mul_emod_self_left]
    rw [e, ← hpn] at h4
    split
    · rename_i hz
      rw [hz] at h4
      simpa using h4
    · rename_i hz
      rw [← Int.add_emod_right, Int.emod_eq_of_lt (by omega) (by omega)] at h4
      omega
  rw [rW_is, rW_is]
  have hdm := Nat.div_add_mod (4 * rR log k) (2 ^ log)
  have hq := q_lt (log := log) (k := k)
  have hu := Nat.mod_lt (4 * rR log k) hp
  generalize hU : 4 * rR log k % 2 ^ log = u at *
  generalize hQ : 4 * rR log k / 2 ^ log = q at *
  have split4 : ∀ x q' u' : Nat, x = 2 ^ log * q' + u' → u' < 2 ^ log → x % 2 ^ log = u' ∧ x / 2 ^ log = q' := fun x q' u' hx hlt => by
    subst hx
    exact ⟨by rw [Nat.mul_add_mod, Nat.mod_eq_of_lt hlt], by rw [Nat.mul_add_div hp, Nat.div_eq_of_lt hlt, Nat.add_zero]⟩
  by_cases hz : rR log k = 0
  · rw [if_pos hz] at hr
    rw [hz, Nat.mul_zero, Nat.zero_mod] at hU
    rw [hz, Nat.mul_zero, Nat.zero_div] at hQ
    subst hU hQ
    rw [hr]
    simp only [Nat.mul_zero, Nat.zero_mod, Nat.zero_div]
    rw [pR_one log bits hb]
    exact qR_opp0 _ 0 0 (.inr ⟨rfl, rfl⟩)
  · rw [if_neg hz] at hr
    by_cases hu0 : u = 0
    · subst hu0
      have hmul : 2 ^ log * (4 - q) = 2 ^ log * 4 - 2 ^ log * q := Nat.mul_sub _ _ _
      obtain ⟨e1, e2⟩ := split4 (4 * rR log (-k)) (4 - q) 0 (by rw [hmul, hr]; omega) hp
      rw [e1, e2, pR_one log bits hb]
      exact qR_opp0 _ q (4 - q) (.inl (by omega))
    · have hmul : 2 ^ log * (3 - q) = 2 ^ log * 3 - 2 ^ log * q := Nat.mul_sub _ _ _
      have hle : 2 ^ log * q ≤ 2 ^ log * 3 := Nat.mul_le_mul_left _ (by omega)
      obtain ⟨e1, e2⟩ := split4 (4 * rR log (-k)) (3 - q) (2 ^ log - u) (by rw [hmul, hr]; omega) (by omega)
      have es : pR log (2 ^ log - u) bits = ((pR log u bits).2, (pR log u bits).1) := by
        unfold pR
        rw [pt_swap log u (by omega) hu]
      rw [e1, e2, es]
      exact qR_opp _ q (3 - q) (by omega)
theorem e_half (k L : Nat) : eV (2 * k) (L + 1) = eV k L := by
  have : zV (2 * k) (L + 1) = zV k L := by
    unfold zV
    rw [Int.natCast_mul, show quarterV * (((2 : Nat) : Int) * (k : Int)) = 2 * (quarterV * k) by rw [Int.mul_left_comm]; rfl, Int.pow_succ, Int.mul_comm (2 ^ L) 2]
    exact Int.mul_ediv_mul_of_pos _ _ (by decide)
  unfold eV
  rw [this]
theorem pt_half (u L : Nat) : ptV (L + 1) (2 * u) = ptV L u := by
  have e : 2 ^ (L + 1) = 2 * 2 ^ L := by rw [Nat.pow_succ, Nat.mul_comm]
  have e2 : 2 * (2 * 2 ^ L - 2 * u) = 2 * (2 * (2 ^ L - u)) := by rw [Nat.mul_sub, Nat.mul_sub, Nat.mul_sub]
  unfold ptV
  rw [e, e2, e_half (2 * u) L, e_half (2 * (2 ^ L - u)) L, e_half (2 ^ L) L]
  by_cases c1 : 2 * u < 2 ^ L
  · rw [if_pos (by omega), if_pos c1]
  · by_cases c2 : 2 ^ L < 2 * u
    · rw [if_neg (by omega), if_pos (by omega), if_neg c1, if_pos c2]
    · rw [if_neg (by omega), if_neg (by omega), if_neg c1, if_neg c2]
theorem rW_half (L : Nat) (j bits : Int) : rW L j bits = rW (L + 1) (j * 2) bits := by
  have hr : rR (L + 1) (j * 2) = 2 * rR L j := by
    obtain ⟨h1, h2⟩ := rR_lt (log := L) (k := j)
    obtain ⟨h3, h4⟩ := rR_lt (log := L + 1) (k := j * 2)
    have e5 : (j * 2) % 2 ^ (L + 1) = 2 * (j % 2 ^ L) := by rw [Int.pow_succ, Int.mul_comm j, Int.mul_comm (2 ^ L), Int.mul_emod_mul_of_pos _ _ (by decide)]
    rw [e5, ← h2] at h4
    omega
  have e : 2 ^ (L + 1) = 2 * 2 ^ L := by rw [Nat.pow_succ, Nat.mul_comm]
  rw [rW_is, rW_is, hr, e, show 4 * (2 * rR L j) = 2 * (4 * rR L j) by omega, Nat.mul_mod_mul_left, Nat.mul_div_mul_left _ _ (by decide)]
  unfold pR
  rw [pt_half]
end Go.Proofs.YtnnjjblgilibgaaV

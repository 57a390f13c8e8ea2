import Derived.Test.YtfmhdfaelgkmcaaVsF
import Derived.Test.YtfmhdfaelgkmcaaVsE
import Derived.Test.YtfmhdfaelgkmcaaVdF
/- What the states come to: bounds; quarters. No program here. -/
namespace Go.Proofs.YtfmhdfaelgkmcaaV
open Go Go.RowKit
set_option linter.unusedVariables false
set_option linter.unusedSimpArgs false
set_option maxHeartbeats 4000000
theorem rsh_13 (x : Int) : -8192 < 8192 * rsh x 13 1 - x ∧ 8192 * rsh x 13 1 - x < 8192 := by
  have h := rsh_near' x 13 1
  have e : (2 : Int) ^ (13 : Int).toNat = 8192 := rfl
  rw [e] at h
  omega
theorem rsh_13_of (t : Int) : rsh (8192 * t) 13 1 = t := by
  have := rsh_13 (8192 * t)
  omega
abbrev bS : Int := 137438953536
theorem sE_bd (zs : List Int) (c : Int) (hc : -8192 ≤ c ∧ c ≤ 8192) (hz : ∀ z ∈ zs, ¬ far31 z) (hl : zs.length ≤ 64) : ∀ j, j ≤ zs.length →
    ((8192 * (sE zs c j).1 - c * (sE zs c j).2) * (8192 * (sE zs c j).1 - c * (sE zs c j).2) + (8192 * 8192 - c * c) * ((sE zs c j).2 * (sE zs c j).2) ≤ ((j : Int) * qS) * ((j : Int) * qS)) ∧
    (-((j : Int) * bS) ≤ (sE zs c j).1 ∧ (sE zs c j).1 ≤ (j : Int) * bS) ∧ (-((j : Int) * bS) ≤ (sE zs c j).2 ∧ (sE zs c j).2 ≤ (j : Int) * bS)
  | 0, _ => by simp [sE]
  | j + 1, hj => by
    obtain ⟨h1, h2, h3⟩ := sE_bd zs c hc hz hl j (by omega)
    rw [sE]
    dsimp only
    generalize (sE zs c j).1 = s at *
    generalize (sE zs c j).2 = o at *
    have hx : -2147483648 ≤ zs.getD j 0 ∧ zs.getD j 0 ≤ 2147483648 := by
      have := hz _ (List.getElem_mem (show j < zs.length by omega))
      rw [List.getD_eq_getElem?_getD, List.getElem?_eq_getElem (show j < zs.length by omega), Option.getD_some]
      omega
    generalize zs.getD j 0 = x at *
    have hr := rsh_13 (2 * c * s)
    generalize rsh (2 * c * s) 13 1 = r at *
    obtain ⟨k1, k2, k3⟩ := en_step (C := 8192) (c := c) (s := s) (o := o) (x := x) (r := r) (Q := qS) (j := j) (by decide) hc (by unfold qS; omega) (by decide) (by omega) h1
    have hcs : -(8192 * ((j : Int) * bS)) ≤ c * s ∧ c * s ≤ 8192 * ((j : Int) * bS) := mul_abs hc h2
    rw [Int.natCast_add, Int.natCast_one]
    refine ⟨k1, ?_, ?_⟩
    · unfold qS at k2 k3
      unfold bS at *
      omega
    · unfold bS at *
      omega
theorem stN_sE (zs : List Int) (c : Int) (hc : -8192 ≤ c ∧ c ≤ 8192) (hz : ∀ z ∈ zs, ¬ far31 z) (hl : zs.length ≤ 64) : ∀ j, j ≤ zs.length → stN zs c j = sE zs c j
  | 0, _ => rfl
  | j + 1, hj => by
    obtain ⟨_, h2, h3⟩ := sE_bd zs c hc hz hl j (by omega)
    obtain ⟨_, g2, _⟩ := sE_bd zs c hc hz hl (j + 1) hj
    rw [stN, stN_sE zs c hc hz hl j (by omega)]
    rw [sE] at g2 ⊢
    dsimp only at g2 ⊢
    generalize (sE zs c j).1 = s at *
    generalize (sE zs c j).2 = o at *
    have hx : -2147483648 ≤ zs.getD j 0 ∧ zs.getD j 0 ≤ 2147483648 := by
      have := hz _ (List.getElem_mem (show j < zs.length by omega))
      rw [List.getD_eq_getElem?_getD, List.getElem?_eq_getElem (show j < zs.length by omega), Option.getD_some]
      omega
    generalize zs.getD j 0 = x at *
    have hcs : -(8192 * ((j : Int) * bS)) ≤ c * s ∧ c * s ≤ 8192 * ((j : Int) * bS) := mul_abs hc h2
    unfold bS at *
    have e1 : IntKind.i64.wrap (2 * c) = 2 * c := wr (by omega)
    have e0 : 2 * c * s = 2 * (c * s) := Int.mul_assoc _ _ _
    have e2 : IntKind.i64.wrap (2 * c * s) = 2 * c * s := wr (by omega)
    rw [e1, e2]
    have hr := rsh_13 (2 * c * s)
    generalize rsh (2 * c * s) 13 1 = r at *
    have e3 : IntKind.i64.wrap (x + r) = x + r := wr (by omega)
    have e4 : IntKind.i64.wrap (x + r - o) = x + r - o := wr (by omega)
    rw [e3, e4]
/-- A bin, exactly. -/
theorem biS_eq (zs : List Int) (w : Int × Int) (hw : win 8192 w.1 w.2) (hz : ∀ z ∈ zs, ¬ far31 z) (hl : zs.length ≤ 64) : biS zs w = (rsh (w.1 * (sE zs w.1 zs.length).1) 13 1 - (sE zs w.1 zs.length).2, rsh (-w.2 * (sE zs w.1 zs.length).1) 13 1) := by
  unfold win at hw
  unfold biS
  rw [stN_sE zs w.1 (by omega) hz hl _ (Nat.le_refl _)]
  obtain ⟨_, h2, h3⟩ := sE_bd zs w.1 (by omega) hz hl _ (Nat.le_refl _)
  generalize (sE zs w.1 zs.length).1 = s at *
  generalize (sE zs w.1 zs.length).2 = o at *
  have h4 : -(8192 * ((zs.length : Int) * bS)) ≤ w.1 * s ∧ w.1 * s ≤ 8192 * ((zs.length : Int) * bS) := mul_abs (by omega) h2
  have h5 : -(8192 * ((zs.length : Int) * bS)) ≤ -w.2 * s ∧ -w.2 * s ≤ 8192 * ((zs.length : Int) * bS) := mul_abs (by omega) h2
  unfold bS at *
  have e1 : IntKind.i64.wrap (w.1 * s) = w.1 * s := wr (by omega)
  have e2 : IntKind.i64.wrap (0 - w.2) = -w.2 := by rw [wr (by omega)]; omega
  have e3 : IntKind.i64.wrap (-w.2 * s) = -w.2 * s := wr (by omega)
  rw [e1, e2, e3]
  have hr := rsh_13 (w.1 * s)
  generalize rsh (w.1 * s) 13 1 = r at *
  have e4 : IntKind.i64.wrap (r - o) = r - o := wr (by omega)
  rw [e4]
/-- Bins are small. -/
theorem biS_bd (zs : List Int) (w : Int × Int) (hw : win 8192 w.1 w.2) (hz : ∀ z ∈ zs, ¬ far31 z) (hl : zs.length ≤ 64) : -36028797018963968 ≤ (biS zs w).2 ∧ (biS zs w).2 ≤ 36028797018963968 := by
  rw [biS_eq zs w hw hz hl]
  unfold win at hw
  obtain ⟨_, h2, h3⟩ := sE_bd zs w.1 (by omega) hz hl _ (Nat.le_refl _)
  dsimp only
  generalize (sE zs w.1 zs.length).1 = s at *
  have h5 : -(8192 * ((zs.length : Int) * bS)) ≤ -w.2 * s ∧ -w.2 * s ≤ 8192 * ((zs.length : Int) * bS) := mul_abs (by omega) h2
  unfold bS at *
  have hr := rsh_13 (-w.2 * s)
  omega
/-- The opposite bin. -/
theorem biS_opp (zs : List Int) (w : Int × Int) (hw : win 8192 w.1 w.2) (hz : ∀ z ∈ zs, ¬ far31 z) (hl : zs.length ≤ 64) : (biS zs (w.1, -w.2)).1 = (biS zs w).1 ∧ -1 ≤ (biS zs w).2 + (biS zs (w.1, -w.2)).2 ∧ (biS zs w).2 + (biS zs (w.1, -w.2)).2 ≤ 1 := by
  have hw' : win 8192 w.1 (-w.2) := by unfold win at hw ⊢; omega
  rw [biS_eq zs w hw hz hl, biS_eq zs (w.1, -w.2) hw' hz hl]
  refine ⟨rfl, ?_⟩
  dsimp only
  generalize (sE zs w.1 zs.length).1 = s at *
  have h1 := rsh_13 (-w.2 * s)
  have h2 := rsh_13 (- -w.2 * s)
  have e : - -w.2 * s = -(-w.2 * s) := by rw [Int.neg_neg, Int.neg_mul, Int.neg_neg]
  rw [e] at h2 ⊢
  omega
theorem stN_zero (n : Nat) (c : Int) : ∀ j, stN (List.replicate n 0) c j = (0, 0)
  | 0 => rfl
  | j + 1 => by
    have e : (List.replicate n (0 : Int)).getD j 0 = 0 := by
      rw [List.getD_eq_getElem?_getD, List.getElem?_replicate]
      split <;> rfl
    rw [stN, stN_zero n c j, e]
    dsimp only
    rw [Int.mul_zero]
    rfl
theorem biS_zero (n : Nat) (w : Int × Int) : biS (List.replicate n 0) w = (0, 0) := by
  unfold biS
  rw [stN_zero]
  dsimp only
  rw [Int.mul_zero, Int.mul_zero]
  rfl
/-- The quarters' roots. -/
theorem rW_quarts (log : Nat) (m : Int) (hm : 4 * m = 2 ^ log) (q : Int) : rW log (q * m) 13 = (tRe 8192 0 (-q), tIm 8192 0 (-q)) := by
  have key : ∀ r : Nat, rW log (r * m) 13 = (tRe 8192 0 (-(r : Int)), tIm 8192 0 (-(r : Int))) := by
    intro r
    induction r with
    | zero => rw [Int.natCast_zero, Int.zero_mul, rW_one log 13 (by decide)]; rfl
    | succ r ih =>
      rw [show ((r + 1 : Nat) : Int) * m = r * m + m by rw [Int.natCast_add, Int.add_mul]; simp, rW_quarter log _ 13 m hm, ih]
      have h4 : (r : Int) % 4 = 0 ∨ (r : Int) % 4 = 1 ∨ (r : Int) % 4 = 2 ∨ (r : Int) % 4 = 3 := by omega
      have e : ((r + 1 : Nat) : Int) = (r : Int) + 1 := rfl
      unfold tRe tIm
      rw [e]
      rcases h4 with h | h | h | h
      · rw [show -(r : Int) % 4 = 0 by omega, show -((r : Int) + 1) % 4 = 3 by omega]; decide
      · rw [show -(r : Int) % 4 = 3 by omega, show -((r : Int) + 1) % 4 = 2 by omega]; decide
      · rw [show -(r : Int) % 4 = 2 by omega, show -((r : Int) + 1) % 4 = 1 by omega]; decide
      · rw [show -(r : Int) % 4 = 1 by omega, show -((r : Int) + 1) % 4 = 0 by omega]; decide
  have h0 : rW log (q * m) 13 = rW log (((q % 4).toNat : Int) * m) 13 := by
    refine rW_of (rR_of ?_)
    rw [show (((q % 4).toNat : Nat) : Int) = q % 4 by omega, ← hm]
    have : q * m = (q % 4) * m + 4 * m * (q / 4) := by
      have := Int.emod_add_mul_ediv q 4
      grind
    rw [this, Int.add_mul_emod_self_left]
  rw [h0, key]
  have e : (-(((q % 4).toNat : Nat) : Int)) % 4 = (-q) % 4 := by omega
  unfold tRe tIm
  rw [e]
/-- What the turned numbers come to. -/
def qT (zs : List Int) (q : Int) : Nat → Int × Int
  | 0 => (0, 0)
  | j + 1 => ((qT zs q j).1 + tRe (zs.getD j 0) 0 (-(j : Int) * q), (qT zs q j).2 + tIm (zs.getD j 0) 0 (-(j : Int) * q))
theorem qT_bd (zs : List Int) (q : Int) (hz : ∀ z ∈ zs, ¬ far31 z) : ∀ j, j ≤ zs.length → (-((j : Int) * 2147483648) ≤ (qT zs q j).1 ∧ (qT zs q j).1 ≤ (j : Int) * 2147483648) ∧ (-((j : Int) * 2147483648) ≤ (qT zs q j).2 ∧ (qT zs q j).2 ≤ (j : Int) * 2147483648)
  | 0, _ => by simp [qT]
  | j + 1, hj => by
    obtain ⟨h1, h2⟩ := qT_bd zs q hz j (by omega)
    have hx : -2147483648 ≤ zs.getD j 0 ∧ zs.getD j 0 ≤ 2147483648 := by
      have := hz _ (List.getElem_mem (show j < zs.length by omega))
      rw [List.getD_eq_getElem?_getD, List.getElem?_eq_getElem (show j < zs.length by omega), Option.getD_some]
      omega
    rw [qT]
    dsimp only
    generalize (qT zs q j).1 = s at *
    generalize (qT zs q j).2 = o at *
    generalize zs.getD j 0 = x at *
    generalize -(j : Int) * q = y at *
    have t1 : -2147483648 ≤ tRe x 0 y ∧ tRe x 0 y ≤ 2147483648 := by unfold tRe; split <;> (try split) <;> (try split) <;> omega
    have t2 : -2147483648 ≤ tIm x 0 y ∧ tIm x 0 y ≤ 2147483648 := by unfold tIm; split <;> (try split) <;> (try split) <;> omega
    omega
theorem quarter_0 (zs : List Int) (q : Int) (hq : q % 4 = 0) : ∀ j, (sE zs 8192 j).1 - (sE zs 8192 j).2 = (qT zs q j).1 ∧ (qT zs q j).2 = 0
  | 0 => ⟨rfl, rfl⟩
  | j + 1 => by
    obtain ⟨h1, h2⟩ := quarter_0 zs q hq j
    obtain ⟨a, rfl⟩ : ∃ a, q = 4 * a := ⟨q / 4, by omega⟩
    have e : (-(j : Int) * (4 * a)) % 4 = 0 := by
      rw [show -(j : Int) * (4 * a) = 4 * (-(j : Int) * a) by grind]
      omega
    rw [sE, qT, show 2 * 8192 * (sE zs 8192 j).1 = 8192 * (2 * (sE zs 8192 j).1) by omega, rsh_13_of]
    unfold tRe tIm
    rw [if_pos e, if_pos e]
    dsimp only
    omega
theorem quarter_2 (zs : List Int) (q : Int) (hq : q % 4 = 2) : ∀ j : Nat, ((j % 2 = 0 → (sE zs (-8192) j).1 + (sE zs (-8192) j).2 = -(qT zs q j).1) ∧ (j % 2 = 1 → (sE zs (-8192) j).1 + (sE zs (-8192) j).2 = (qT zs q j).1)) ∧ (qT zs q j).2 = 0
  | 0 => ⟨⟨fun _ => rfl, fun h => by omega⟩, rfl⟩
  | j + 1 => by
    obtain ⟨⟨h1, h1'⟩, h2⟩ := quarter_2 zs q hq j
    obtain ⟨a, rfl⟩ : ∃ a, q = 4 * a + 2 := ⟨q / 4, by omega⟩
    rw [sE, qT, show 2 * -8192 * (sE zs (-8192) j).1 = 8192 * (-2 * (sE zs (-8192) j).1) by omega, rsh_13_of]
    unfold tRe tIm
    have e0 : -(j : Int) * (4 * a + 2) = 4 * (-(j : Int) * a) - 2 * j := by grind
    rw [e0]
    dsimp only
    by_cases hj : j % 2 = 0
    · have e : (4 * (-(j : Int) * a) - 2 * j) % 4 = 0 := by omega
      rw [if_pos e, if_pos e]
      have := h1 hj
      omega
    · have e : (4 * (-(j : Int) * a) - 2 * j) % 4 = 2 := by omega
      rw [e]
      have := h1' (by omega)
      refine ⟨⟨fun _ => ?_, fun h => by omega⟩, ?_⟩
      · simp
        omega
      · simp
        omega
theorem quarter_1 (zs : List Int) (q : Int) (hq : q % 4 = 1) : ∀ j : Nat, (j % 4 = 0 → (qT zs q j).1 = -(sE zs 0 j).2 ∧ (qT zs q j).2 = (sE zs 0 j).1) ∧ (j % 4 = 1 → (qT zs q j).1 = (sE zs 0 j).1 ∧ (qT zs q j).2 = (sE zs 0 j).2) ∧ (j % 4 = 2 → (qT zs q j).1 = (sE zs 0 j).2 ∧ (qT zs q j).2 = -(sE zs 0 j).1) ∧ (j % 4 = 3 → (qT zs q j).1 = -(sE zs 0 j).1 ∧ (qT zs q j).2 = -(sE zs 0 j).2)
  | 0 => ⟨fun _ => ⟨rfl, rfl⟩, fun h => by omega, fun h => by omega, fun h => by omega⟩
  | j + 1 => by
    obtain ⟨h0, h1, h2, h3⟩ := quarter_1 zs q hq j
    obtain ⟨a, rfl⟩ : ∃ a, q = 4 * a + 1 := ⟨q / 4, by omega⟩
    rw [sE, qT, show 2 * 0 * (sE zs 0 j).1 = 8192 * 0 by omega, rsh_13_of]
    unfold tRe tIm
    have e0 : -(j : Int) * (4 * a + 1) = 4 * (-(j : Int) * a) - j := by grind
    rw [e0]
    dsimp only
    have hj : j % 4 = 0 ∨ j % 4 = 1 ∨ j % 4 = 2 ∨ j % 4 = 3 := by omega
    rcases hj with hj | hj | hj | hj
    · have e : (4 * (-(j : Int) * a) - j) % 4 = 0 := by omega
      rw [e]
      have := h0 hj
      refine ⟨fun h => by omega, fun _ => ?_, fun h => by omega, fun h => by omega⟩
      simp
      omega
    · have e : (4 * (-(j : Int) * a) - j) % 4 = 3 := by omega
      rw [e]
      have := h1 hj
      refine ⟨fun h => by omega, fun h => by omega, fun _ => ?_, fun h => by omega⟩
      simp
      omega
    · have e : (4 * (-(j : Int) * a) - j) % 4 = 2 := by omega
      rw [e]
      have := h2 hj
      refine ⟨fun h => by omega, fun h => by omega, fun h => by omega, fun _ => ?_⟩
      simp
      omega
    · have e : (4 * (-(j : Int) * a) - j) % 4 = 1 := by omega
      rw [e]
      have := h3 hj
      refine ⟨fun _ => ?_, fun h => by omega, fun h => by omega, fun h => by omega⟩
      simp
      omega
theorem quarter_3 (zs : List Int) (q : Int) (hq : q % 4 = 3) : ∀ j : Nat, (j % 4 = 0 → (qT zs q j).1 = -(sE zs 0 j).2 ∧ (qT zs q j).2 = -(sE zs 0 j).1) ∧ (j % 4 = 1 → (qT zs q j).1 = (sE zs 0 j).1 ∧ (qT zs q j).2 = -(sE zs 0 j).2) ∧ (j % 4 = 2 → (qT zs q j).1 = (sE zs 0 j).2 ∧ (qT zs q j).2 = (sE zs 0 j).1) ∧ (j % 4 = 3 → (qT zs q j).1 = -(sE zs 0 j).1 ∧ (qT zs q j).2 = (sE zs 0 j).2)
  | 0 => ⟨fun _ => ⟨rfl, rfl⟩, fun h => by omega, fun h => by omega, fun h => by omega⟩
  | j + 1 => by
    obtain ⟨h0, h1, h2, h3⟩ := quarter_3 zs q hq j
    obtain ⟨a, rfl⟩ : ∃ a, q = 4 * a + 3 := ⟨q / 4, by omega⟩
    rw [sE, qT, show 2 * 0 * (sE zs 0 j).1 = 8192 * 0 by omega, rsh_13_of]
    unfold tRe tIm
    have e0 : -(j : Int) * (4 * a + 3) = 4 * (-(j : Int) * a) - 3 * j := by grind
    rw [e0]
    dsimp only
    have hj : j % 4 = 0 ∨ j % 4 = 1 ∨ j % 4 = 2 ∨ j % 4 = 3 := by omega
    rcases hj with hj | hj | hj | hj
    · have e : (4 * (-(j : Int) * a) - 3 * j) % 4 = 0 := by omega
      rw [e]
      have := h0 hj
      refine ⟨fun h => by omega, fun _ => ?_, fun h => by omega, fun h => by omega⟩
      simp
      omega
    · have e : (4 * (-(j : Int) * a) - 3 * j) % 4 = 1 := by omega
      rw [e]
      have := h1 hj
      refine ⟨fun h => by omega, fun h => by omega, fun _ => ?_, fun h => by omega⟩
      simp
      omega
    · have e : (4 * (-(j : Int) * a) - 3 * j) % 4 = 2 := by omega
      rw [e]
      have := h2 hj
      refine ⟨fun h => by omega, fun h => by omega, fun h => by omega, fun _ => ?_⟩
      simp
      omega
    · have e : (4 * (-(j : Int) * a) - 3 * j) % 4 = 3 := by omega
      rw [e]
      have := h3 hj
      refine ⟨fun _ => ?_, fun h => by omega, fun h => by omega, fun h => by omega⟩
      simp
      omega
theorem biS_quarter (zs : List Int) (q : Int) (hz : ∀ z ∈ zs, ¬ far31 z) (hl : zs.length ≤ 64) (h4 : zs.length % 4 = 0) : biS zs (tRe 8192 0 (-q), tIm 8192 0 (-q)) = qT zs q zs.length := by
  have hq : q % 4 = 0 ∨ q % 4 = 1 ∨ q % 4 = 2 ∨ q % 4 = 3 := by omega
  unfold tRe tIm
  rcases hq with hq | hq | hq | hq
  · rw [show -q % 4 = 0 by omega, if_pos rfl, if_pos rfl, biS_eq zs _ (by unfold win; decide) hz hl]
    obtain ⟨h1, h2⟩ := quarter_0 zs q hq zs.length
    refine Prod.ext ?_ ?_
    · dsimp only
      rw [rsh_13_of]
      exact h1
    · dsimp only
      rw [h2, show -(0 : Int) * (sE zs 8192 zs.length).1 = 8192 * 0 by omega, rsh_13_of]
  · rw [show -q % 4 = 3 by omega]
    rw [biS_eq zs _ (by unfold win; decide) hz hl]
    obtain ⟨h0, _⟩ := quarter_1 zs q hq zs.length
    obtain ⟨h1, h2⟩ := h0 h4
    refine Prod.ext ?_ ?_
    · show rsh (0 * (sE zs 0 zs.length).1) 13 1 - (sE zs 0 zs.length).2 = _
      rw [show (0 : Int) * (sE zs 0 zs.length).1 = 8192 * 0 by omega, rsh_13_of, h1]
      omega
    · show rsh (- -8192 * (sE zs 0 zs.length).1) 13 1 = _
      rw [Int.neg_neg, rsh_13_of, h2]
  · rw [show -q % 4 = 2 by omega]
    rw [biS_eq zs _ (by unfold win; decide) hz hl]
    obtain ⟨⟨h1, _⟩, h2⟩ := quarter_2 zs q hq zs.length
    have h1 := h1 (by omega)
    refine Prod.ext ?_ ?_
    · show rsh (-8192 * (sE zs (-8192) zs.length).1) 13 1 - (sE zs (-8192) zs.length).2 = _
      rw [show -8192 * (sE zs (-8192) zs.length).1 = 8192 * -(sE zs (-8192) zs.length).1 by omega, rsh_13_of]
      omega
    · show rsh (- -0 * (sE zs (-8192) zs.length).1) 13 1 = _
      rw [h2, show - -(0 : Int) * (sE zs (-8192) zs.length).1 = 8192 * 0 by omega, rsh_13_of]
  · rw [show -q % 4 = 1 by omega]
    rw [biS_eq zs _ (by unfold win; decide) hz hl]
    obtain ⟨h0, _⟩ := quarter_3 zs q hq zs.length
    obtain ⟨h1, h2⟩ := h0 h4
    refine Prod.ext ?_ ?_
    · show rsh (-0 * (sE zs 0 zs.length).1) 13 1 - (sE zs 0 zs.length).2 = _
      rw [show -(0 : Int) * (sE zs 0 zs.length).1 = 8192 * 0 by omega, rsh_13_of, h1]
      omega
    · show rsh (-8192 * (sE zs 0 zs.length).1) 13 1 = _
      rw [show -8192 * (sE zs 0 zs.length).1 = 8192 * -(sE zs 0 zs.length).1 by omega, rsh_13_of, h2]
end Go.Proofs.YtfmhdfaelgkmcaaV

import Derived.Test.YtnnjjblgilibgaaGreatVtL
/- Of one number, and of the same number: pass by pass. -/
namespace Go.Proofs.YtnnjjblgilibgaaGreatV
open Go Go.RowKit
set_option linter.unusedVariables false
set_option linter.unusedSimpArgs false
set_option maxRecDepth 100000
set_option maxHeartbeats 40000000
/-- The first numbers are a, the others 0. -/
def stI (a : Int × Int) (n h : Nat) : List (Int × Int) := (List.range n).map fun i => if i < h then a else (0, 0)
/-- Each number whose place is a multiple of h is h times a, the others 0. -/
def stC (a : Int × Int) (n h : Nat) : List (Int × Int) := (List.range n).map fun i => if i % h = 0 then ((h : Int) * a.1, (h : Int) * a.2) else (0, 0)
theorem stI_len {a : Int × Int} {n h : Nat} : (stI a n h).length = n := by simp [stI]
theorem stC_len {a : Int × Int} {n h : Nat} : (stC a n h).length = n := by simp [stC]
theorem stI_at {a : Int × Int} {n h i : Nat} (hi : i < n) : (stI a n h).getD i (0, 0) = if i < h then a else (0, 0) := by
  unfold stI
  rw [List.getD_eq_getElem?_getD, List.getElem?_map, List.getElem?_range hi]
  rfl
theorem stC_at {a : Int × Int} {n h i : Nat} (hi : i < n) : (stC a n h).getD i (0, 0) = if i % h = 0 then ((h : Int) * a.1, (h : Int) * a.2) else (0, 0) := by
  unfold stC
  rw [List.getD_eq_getElem?_getD, List.getElem?_map, List.getElem?_range hi]
  rfl
theorem rsh_P (x : Int) (B m : Int) : rsh (x * 2 ^ B.toNat) (B + 0) m = x := by
  rw [Int.add_zero]
  exact rsh_mul x B m
theorem tU_0 (B m : Int) (a w : Int × Int) : tU B 0 m a (0, 0) w = a := by
  unfold tU
  simp only [Int.zero_mul, Int.sub_zero, Int.add_zero]
  rw [rsh_mul, rsh_mul]
theorem tD_0 (B m : Int) (a w : Int × Int) : tD B 0 m a (0, 0) w = a := by
  unfold tD
  simp only [Int.zero_mul, Int.sub_zero, Int.add_zero]
  rw [rsh_mul, rsh_mul]
theorem tU_1 (B m : Int) (a b : Int × Int) : tU B 0 m a b (2 ^ B.toNat, 0) = (a.1 + b.1, a.2 + b.2) := by
  unfold tU
  simp only [Int.mul_zero, Int.sub_zero, Int.zero_add, Int.add_zero, ← Int.add_mul]
  rw [rsh_mul, rsh_mul]
theorem tD_1 (B m : Int) (a b : Int × Int) : tD B 0 m a b (2 ^ B.toNat, 0) = (a.1 - b.1, a.2 - b.2) := by
  unfold tD
  simp only [Int.mul_zero, Int.sub_zero, Int.zero_add, Int.add_zero, ← Int.sub_mul]
  rw [rsh_mul, rsh_mul]
theorem t_zeroX (x y : Int) : tRe x y 0 = x ∧ tIm x y 0 = y := ⟨rfl, rfl⟩
theorem qV_0 (inv : Bool) (B m : Int) (a : Int × Int) (u1 v1 u2 v2 u3 v3 q : Int) : qV inv B 0 m a.1 a.2 0 0 0 0 0 0 u1 v1 u2 v2 u3 v3 q = a := by
  unfold qV qRe qIm
  simp only [Int.zero_mul, Int.sub_zero, Int.add_zero, (tRI_0 _).1, (tRI_0 _).2, (t_zeroX _ _).1, (t_zeroX _ _).2]
  rw [rsh_mul, rsh_mul]
theorem qV_c (inv : Bool) (B m : Int) (b : Int × Int) (q : Nat) (hq : q < 4) : qV inv B 0 m b.1 b.2 b.1 b.2 b.1 b.2 b.1 b.2 (2 ^ B.toNat) 0 (2 ^ B.toNat) 0 (2 ^ B.toNat) 0 (q : Int) = if q = 0 then (4 * b.1, 4 * b.2) else (0, 0) := by
  unfold qV qRe qIm
  simp only [Int.mul_zero, Int.sub_zero, Int.zero_add, Int.add_zero]
  rcases (show q = 0 ∨ q = 1 ∨ q = 2 ∨ q = 3 by omega) with rfl | rfl | rfl | rfl
  · rw [if_pos rfl]
    have e1 : ∀ x y : Int, tRe x y 0 = x := fun x y => rfl
    have e2 : ∀ x y : Int, tIm x y 0 = y := fun x y => rfl
    cases inv
    all_goals
      simp only [Int.natCast_zero, Bool.false_eq_true, if_false, if_true, Int.sub_zero, Int.mul_zero, Int.sub_self, e1, e2]
      rw [show b.1 * 2 ^ B.toNat + b.1 * 2 ^ B.toNat + b.1 * 2 ^ B.toNat + b.1 * 2 ^ B.toNat = (4 * b.1) * 2 ^ B.toNat by grind, show b.2 * 2 ^ B.toNat + b.2 * 2 ^ B.toNat + b.2 * 2 ^ B.toNat + b.2 * 2 ^ B.toNat = (4 * b.2) * 2 ^ B.toNat by grind, rsh_mul, rsh_mul]
  all_goals
    show _ = ((0 : Int), (0 : Int))
    generalize b.1 * 2 ^ B.toNat = X
    generalize b.2 * 2 ^ B.toNat = Y
    cases inv
    all_goals
      simp only [tRe, tIm, Bool.false_eq_true, if_false, if_true, Int.reduceMod, Int.reduceSub, Int.reduceNeg, Int.reduceEq, Int.reduceMul, Int.natCast_one, Int.cast_ofNat_Int]
      refine Prod.ext ?_ ?_
      all_goals
        dsimp only
        rw [show ∀ z : Int, z = 0 → rsh z B m = 0 from fun z h => by rw [h]; exact rsh_0 B m]
        omega
section
variable (inv : Bool) (B m : Int) (log : Nat) (hB : 0 ≤ B ∧ B ≤ 29)
include hB
omit hB in
theorem t2_stI {a : Int × Int} {n H u : Nat} (hH : 0 < H) (hn : n = 2 * H * u) : t2V inv B 0 m (stI a n H) (tabV log B) H u = stI a n (2 * H) := by
  refine ext_at (by rw [t2V_len, stI_len, stI_len]) fun i hi => ?_
  rw [t2V_len, stI_len] at hi
  rw [t2V_at (by rw [stI_len]; exact hi), stI_at hi]
  unfold tV
  rcases pair_in hH hn hi with ⟨hc, hin, hm⟩ | ⟨hc, hin, hm⟩
  · rw [if_pos hc, stI_at hi, stI_at hin, if_neg (show ¬ i + H < H by omega), tU_0]
    have hd := Nat.div_add_mod i H
    have hmod := Nat.mod_lt i hH
    by_cases h : i < H
    · rw [if_pos h, if_pos (by omega)]
    · rw [if_neg h]
      by_cases h2 : i < 2 * H
      · have : i / H = 1 := by
          have h1 : 1 ≤ i / H := (Nat.le_div_iff_mul_le hH).2 (by omega)
          have h3 : i / H < 2 := (Nat.div_lt_iff_lt_mul hH).2 (by omega)
          omega
        omega
      · rw [if_neg h2]
  · rw [if_neg (by omega), stI_at (by omega), stI_at hi, if_neg (show ¬ i < H by omega), tD_0]
    by_cases h : i < 2 * H
    · rw [if_pos h, if_pos (by omega)]
    · rw [if_neg h]
      by_cases h2 : i - H < H
      · omega
      · rw [if_neg h2]
theorem t2_stC {a : Int × Int} {n H u : Nat} (hH : 0 < H) (hn : n = 2 * H * u) (hl : n = 2 ^ log) : t2V inv B 0 m (stC a n H) (tabV log B) H u = stC a n (2 * H) := by
  refine ext_at (by rw [t2V_len, stC_len, stC_len]) fun i hi => ?_
  rw [t2V_len, stC_len] at hi
  rw [t2V_at (by rw [stC_len]; exact hi), stC_at hi]
  unfold tV
  have hr := root_0 log inv B hB
  have hd := Nat.div_add_mod i H
  have hmod := Nat.mod_lt i hH
  rcases pair_in hH hn hi with ⟨hc, hin, hm⟩ | ⟨hc, hin, hm⟩
  · rw [if_pos hc, stC_at hi, stC_at hin, Nat.add_mod_right, hm]
    by_cases h : i % H = 0
    · rw [if_pos h, if_pos h, h, Nat.zero_mul, hr, tU_1]
      dsimp only
      refine Prod.ext ?_ ?_
      · show (H : Int) * a.1 + H * a.1 = ((2 * H : Nat) : Int) * a.1
        rw [Int.natCast_mul]
        grind
      · show (H : Int) * a.2 + H * a.2 = ((2 * H : Nat) : Int) * a.2
        rw [Int.natCast_mul]
        grind
    · rw [if_neg h, if_neg h, tU_0]
  · have hne : ¬ i % (2 * H) = 0 := by omega
    have hsub : (i - H) % H = i % H := by
      have := Nat.add_mod_right (i - H) H
      rw [Nat.sub_add_cancel hin] at this
      exact this.symm
    rw [if_neg (by omega), stC_at (by omega), stC_at hi, hsub, if_neg hne]
    by_cases h : i % H = 0
    · rw [if_pos h, h, Nat.zero_mul, hr, tD_1]
      simp
    · rw [if_neg h, tD_0]
omit hB in
theorem p4_at {n H u i : Nat} {xs : List (Int × Int)} (hn : xs.length = n) (hi : i < n) (hH : 0 < H) : (pV inv B 0 m xs (tabV log B) H u).getD i (0, 0) = bq inv B 0 m xs (tabV log B) (4 * H * (i / (4 * H))) H u (i % H) (((i % (4 * H)) / H : Nat) : Int) := by
  rw [pV_at _ _ _ _ _ _ _ _ (by rw [hn]; exact hi)]
  unfold pT bT
  have hd := Nat.div_add_mod i (4 * H)
  have e : i - 4 * H * (i / (4 * H)) = i % (4 * H) := by omega
  rw [e, show i % (4 * H) % H = i % H from Nat.mod_mod_of_dvd i ⟨4, by omega⟩]
omit hB in
theorem p4_stI {a : Int × Int} {n H u : Nat} (hH : 0 < H) (hn : n = 4 * H * u) : pV inv B 0 m (stI a n H) (tabV log B) H u = stI a n (4 * H) := by
  refine ext_at (by rw [pV_len, stI_len, stI_len]) fun i hi => ?_
  rw [pV_len, stI_len] at hi
  rw [p4_at inv B m log stI_len hi hH, stI_at hi]
  have hd := Nat.div_add_mod i (4 * H)
  have hm4 := Nat.mod_lt i (show 0 < 4 * H by omega)
  have hj := Nat.mod_lt i hH
  have hg : 4 * H * (i / (4 * H)) + 4 * H ≤ n := by
    have h1 : i / (4 * H) < u := Nat.div_lt_of_lt_mul (by omega)
    have h2 : 4 * H * (i / (4 * H) + 1) ≤ 4 * H * u := Nat.mul_le_mul_left _ h1
    rw [Nat.mul_add, Nat.mul_one] at h2
    omega
  unfold bq
  by_cases h : i < 4 * H
  · have e0 : i / (4 * H) = 0 := Nat.div_eq_of_lt h
    rw [e0, Nat.mul_zero] at hg ⊢
    rw [stI_at (by omega), stI_at (by omega), stI_at (by omega), stI_at (by omega), if_pos (show 0 + i % H < H by omega), if_neg (show ¬ 0 + (2 * H + i % H) < H by omega), if_neg (show ¬ 0 + (H + i % H) < H by omega), if_neg (show ¬ 0 + (3 * H + i % H) < H by omega), if_pos h]
    exact qV_0 ..
  · have e1 : 1 ≤ i / (4 * H) := (Nat.le_div_iff_mul_le (by omega)).2 (by omega)
    have hge : 4 * H ≤ 4 * H * (i / (4 * H)) := Nat.le_mul_of_pos_right _ e1
    generalize 4 * H * (i / (4 * H)) = g at *
    rw [stI_at (by omega), stI_at (by omega), stI_at (by omega), stI_at (by omega), if_neg (show ¬ g + i % H < H by omega), if_neg (show ¬ g + (2 * H + i % H) < H by omega), if_neg (show ¬ g + (H + i % H) < H by omega), if_neg (show ¬ g + (3 * H + i % H) < H by omega), if_neg h]
    exact qV_0 inv B m (0, 0) ..
theorem p4_stC {a : Int × Int} {n H u : Nat} (hH : 0 < H) (hn : n = 4 * H * u) : pV inv B 0 m (stC a n H) (tabV log B) H u = stC a n (4 * H) := by
  refine ext_at (by rw [pV_len, stC_len, stC_len]) fun i hi => ?_
  rw [pV_len, stC_len] at hi
  rw [p4_at inv B m log stC_len hi hH, stC_at hi]
  have hd := Nat.div_add_mod i (4 * H)
  have hm4 := Nat.mod_lt i (show 0 < 4 * H by omega)
  have hj := Nat.mod_lt i hH
  have hg : 4 * H * (i / (4 * H)) + 4 * H ≤ n := by
    have h1 : i / (4 * H) < u := Nat.div_lt_of_lt_mul (by omega)
    have h2 : 4 * H * (i / (4 * H) + 1) ≤ 4 * H * u := Nat.mul_le_mul_left _ h1
    rw [Nat.mul_add, Nat.mul_one] at h2
    omega
  have hq : i % (4 * H) / H < 4 := Nat.div_lt_of_lt_mul (by omega)
  have hgm : (4 * H * (i / (4 * H))) % H = 0 := by rw [show 4 * H * (i / (4 * H)) = H * (4 * (i / (4 * H))) by rw [Nat.mul_comm 4 H, Nat.mul_assoc], Nat.mul_mod_right]
  have hr := root_0 log inv B hB
  have hmm : i % (4 * H) % H = i % H := Nat.mod_mod_of_dvd i ⟨4, by omega⟩
  have hdm := Nat.div_add_mod (i % (4 * H)) H
  generalize 4 * H * (i / (4 * H)) = g at *
  have f0 : (g + i % H) % H = i % H := by rw [Nat.add_mod, hgm, Nat.zero_add, Nat.mod_mod, Nat.mod_mod]
  have f1 : (g + (H + i % H)) % H = i % H := by rw [← Nat.add_assoc, Nat.add_right_comm, Nat.add_mod_right, f0]
  have f2 : (g + (2 * H + i % H)) % H = i % H := by rw [show g + (2 * H + i % H) = g + (H + i % H) + H by omega, Nat.add_mod_right, f1]
  have f3 : (g + (3 * H + i % H)) % H = i % H := by rw [show g + (3 * H + i % H) = g + (2 * H + i % H) + H by omega, Nat.add_mod_right, f2]
  unfold bq
  rw [stC_at (by omega), stC_at (by omega), stC_at (by omega), stC_at (by omega), f0, f1, f2, f3]
  by_cases h : i % H = 0
  · simp only [if_pos h]
    simp only [h, Nat.zero_mul, Nat.mul_zero, hr]
    have := qV_c inv B m ((H : Int) * a.1, (H : Int) * a.2) _ hq
    dsimp only at this ⊢
    rw [this]
    by_cases hq0 : i % (4 * H) / H = 0
    · have h4 : i % (4 * H) = 0 := by
        rw [hq0, hmm, h] at hdm
        omega
      rw [if_pos hq0, if_pos h4]
      refine Prod.ext ?_ ?_
      · show 4 * ((H : Int) * a.1) = ((4 * H : Nat) : Int) * a.1
        rw [Int.natCast_mul]
        grind
      · show 4 * ((H : Int) * a.2) = ((4 * H : Nat) : Int) * a.2
        rw [Int.natCast_mul]
        grind
    · have h4 : ¬ i % (4 * H) = 0 := fun h4 => hq0 (by rw [h4, Nat.zero_div])
      rw [if_neg hq0, if_neg h4]
  · have h4 : ¬ i % (4 * H) = 0 := fun h4 => h (by rw [← hmm, h4, Nat.zero_mod])
    simp only [if_neg h, if_neg h4]
    exact qV_0 inv B m (0, 0) ..
end
end Go.Proofs.YtnnjjblgilibgaaGreatV

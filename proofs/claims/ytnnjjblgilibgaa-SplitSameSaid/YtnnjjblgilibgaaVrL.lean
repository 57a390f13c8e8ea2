import Derived.Test.YtnnjjblgilibgaaVrJ
/- Roots' products. No program here. -/
namespace Go.Proofs.YtnnjjblgilibgaaV
open Go Go.RowKit
set_option linter.unusedVariables false
set_option linter.unusedSimpArgs false
set_option maxRecDepth 100000
set_option maxHeartbeats 40000000
/-- The 64 roots in 56 bits. -/
def EL : List (Int × Int) := [(72057594037927937, -2190), (71710617027291494, -7062879306625521), (70673027573670978, -14057739224568387), (68954818230708959, -20917215429036317), (66572536293650017, -27575247414401904), (63549124439830551, -33967714693010454), (59913699778167895, -40033054310486874), (55701273435487981, -45712853730650291), (50952413380203383, -50952413380203383), (45712853730650291, -55701273435487981), (40033054310486874, -59913699778167895), (33967714693010454, -63549124439830551), (27575247414401904, -66572536293650017), (20917215429036317, -68954818230708959), (14057739224568387, -70673027573670978), (7062879306625521, -71710617027291494), (-2190, -72057594037927937), (-7062879306625521, -71710617027291494), (-14057739224568387, -70673027573670978), (-20917215429036317, -68954818230708959), (-27575247414401904, -66572536293650017), (-33967714693010454, -63549124439830551), (-40033054310486874, -59913699778167895), (-45712853730650291, -55701273435487981), (-50952413380203383, -50952413380203383), (-55701273435487981, -45712853730650291), (-59913699778167895, -40033054310486874), (-63549124439830551, -33967714693010454), (-66572536293650017, -27575247414401904), (-68954818230708959, -20917215429036317), (-70673027573670978, -14057739224568387), (-71710617027291494, -7062879306625521), (-72057594037927937, 2190), (-71710617027291494, 7062879306625521), (-70673027573670978, 14057739224568387), (-68954818230708959, 20917215429036317), (-66572536293650017, 27575247414401904), (-63549124439830551, 33967714693010454), (-59913699778167895, 40033054310486874), (-55701273435487981, 45712853730650291), (-50952413380203383, 50952413380203383), (-45712853730650291, 55701273435487981), (-40033054310486874, 59913699778167895), (-33967714693010454, 63549124439830551), (-27575247414401904, 66572536293650017), (-20917215429036317, 68954818230708959), (-14057739224568387, 70673027573670978), (-7062879306625521, 71710617027291494), (2190, 72057594037927937), (7062879306625521, 71710617027291494), (14057739224568387, 70673027573670978), (20917215429036317, 68954818230708959), (27575247414401904, 66572536293650017), (33967714693010454, 63549124439830551), (40033054310486874, 59913699778167895), (45712853730650291, 55701273435487981), (50952413380203383, 50952413380203383), (55701273435487981, 45712853730650291), (59913699778167895, 40033054310486874), (63549124439830551, 33967714693010454), (66572536293650017, 27575247414401904), (68954818230708959, 20917215429036317), (70673027573670978, 14057739224568387), (71710617027291494, 7062879306625521)]
def gP (k : Nat) : Int × Int := ((goL ANG 0 (43757185469210200, 0, 56593902016227522 * (k : Int) / 64)).1, (goL ANG 0 (43757185469210200, 0, 56593902016227522 * (k : Int) / 64)).2.1)
def gT (u : Nat) : Int × Int := if 2 * u < 64 then gP (2 * u) else if 64 < 2 * u then ((gP (2 * (64 - u))).2, (gP (2 * (64 - u))).1) else ((gP 64).1, (gP 64).1)
theorem e_six (k : Nat) : eV k 6 = gP k := by
  unfold eV gP
  rw [inv_n, run_L]
  unfold zV
  rw [quarter_n]
  rfl
theorem pt_six (u : Nat) : ptV 6 u = gT u := by
  unfold ptV gT
  simp only [e_six]
theorem EL_tab : ((List.range 64).all fun r => decide (qR (gT (4 * r % 64)) (4 * r / 64) = EL.getD r (0, 0))) = true := by decide +kernel
theorem EL_at {r : Nat} (h : r < 64) : qR (ptV 6 (4 * r % 64)) (4 * r / 64) = EL.getD r (0, 0) := by
  rw [pt_six]
  exact of_decide_eq_true (List.all_eq_true.1 EL_tab r (List.mem_range.2 h))
theorem EL_one : ((List.range 64).all fun r => decide (-72057594037927937 ≤ (EL.getD r (0, 0)).1 ∧ (EL.getD r (0, 0)).1 ≤ 72057594037927937 ∧ -72057594037927937 ≤ (EL.getD r (0, 0)).2 ∧ (EL.getD r (0, 0)).2 ≤ 72057594037927937)) = true := by decide +kernel
def prodR (A B C : Int × Int) : Int := A.1 * B.1 - A.2 * B.2 - C.1 * 72057594037927936
def prodI (A B C : Int × Int) : Int := A.1 * B.2 + A.2 * B.1 - C.2 * 72057594037927936
theorem EL_two : ((List.range 64).all fun r => (List.range 64).all fun s => decide (-1180591620717411303424 ≤ prodR (EL.getD r (0, 0)) (EL.getD s (0, 0)) (EL.getD ((r + s) % 64) (0, 0)) ∧ prodR (EL.getD r (0, 0)) (EL.getD s (0, 0)) (EL.getD ((r + s) % 64) (0, 0)) ≤ 1180591620717411303424 ∧ -1180591620717411303424 ≤ prodI (EL.getD r (0, 0)) (EL.getD s (0, 0)) (EL.getD ((r + s) % 64) (0, 0)) ∧ prodI (EL.getD r (0, 0)) (EL.getD s (0, 0)) (EL.getD ((r + s) % 64) (0, 0)) ≤ 1180591620717411303424)) = true := by decide +kernel
theorem rsh1_near (x s : Int) (hs : 1 ≤ s) : -(2 ^ s.toNat) ≤ 2 * (rsh x s 1 * 2 ^ s.toNat - x) ∧ 2 * (rsh x s 1 * 2 ^ s.toNat - x) ≤ 2 ^ s.toNat := by
  obtain ⟨n, hn⟩ : ∃ n, s.toNat = n + 1 := ⟨s.toNat - 1, by omega⟩
  have hp := pow_pos n
  have h2 : (2 : Int) ^ (n + 1) = 2 ^ n * 2 := Int.pow_succ _ _
  have hd := Int.emod_add_mul_ediv x (2 ^ (n + 1))
  have h0 := Int.emod_nonneg x (show (2 : Int) ^ (n + 1) ≠ 0 by omega)
  have h1 := Int.emod_lt_of_pos x (show (0 : Int) < 2 ^ (n + 1) by omega)
  unfold rsh goesUp
  rw [if_neg (by omega), hn]
  simp only [Nat.add_sub_cancel, if_neg (show ¬ (1 : Int) = 0 by decide), if_true, decide_eq_true_eq]
  rw [Int.mul_comm (2 ^ (n + 1))] at hd
  split
  · rw [Int.add_mul]
    omega
  · omega
theorem near_of {w x W : Int} (h : -W ≤ 2 * (w * W - x) ∧ 2 * (w * W - x) ≤ W) : -W ≤ 2 * (-w * W - -x) ∧ 2 * (-w * W - -x) ≤ W := by
  rw [Int.neg_mul]
  omega
theorem qR_near {p P : Int × Int} {W : Int} (q : Nat) (h1 : -W ≤ 2 * (p.1 * W - P.1) ∧ 2 * (p.1 * W - P.1) ≤ W) (h2 : -W ≤ 2 * (p.2 * W - P.2) ∧ 2 * (p.2 * W - P.2) ≤ W) :
    (-W ≤ 2 * ((qR p q).1 * W - (qR P q).1) ∧ 2 * ((qR p q).1 * W - (qR P q).1) ≤ W) ∧ (-W ≤ 2 * ((qR p q).2 * W - (qR P q).2) ∧ 2 * ((qR p q).2 * W - (qR P q).2) ≤ W) := by
  have n1 := near_of h1
  have n2 := near_of h2
  unfold qR tRe tIm
  have hc : (q : Int) % 4 = 0 ∨ (q : Int) % 4 = 1 ∨ (q : Int) % 4 = 2 ∨ (q : Int) % 4 = 3 := by omega
  rcases hc with e | e | e | e <;> simp only [e]
  · exact ⟨h1, n2⟩
  · exact ⟨n2, n1⟩
  · exact ⟨n1, by simpa using h2⟩
  · exact ⟨h2, by simpa using h1⟩
theorem rW_six (log : Nat) (k bits : Int) (hl : log ≤ 6) : rW log k bits = rW 6 (k * 2 ^ (6 - log)) bits := by
  have : log = 6 ∨ log = 5 ∨ log = 4 ∨ log = 3 ∨ log = 2 ∨ log = 1 ∨ log = 0 := by omega
  rcases this with rfl | rfl | rfl | rfl | rfl | rfl | rfl
  · simp
  · rw [rW_half]
    rfl
  · rw [rW_half, rW_half, Int.mul_assoc]
    rfl
  · rw [rW_half, rW_half, rW_half, Int.mul_assoc, Int.mul_assoc]
    rfl
  · rw [rW_half, rW_half, rW_half, rW_half, Int.mul_assoc, Int.mul_assoc, Int.mul_assoc]
    rfl
  · rw [rW_half, rW_half, rW_half, rW_half, rW_half, Int.mul_assoc, Int.mul_assoc, Int.mul_assoc, Int.mul_assoc]
    rfl
  · rw [rW_half, rW_half, rW_half, rW_half, rW_half, rW_half, Int.mul_assoc, Int.mul_assoc, Int.mul_assoc, Int.mul_assoc, Int.mul_assoc]
    rfl
/-- A root is near to its 56 bits. -/
theorem six_near (k bits : Int) (hb : 0 ≤ bits ∧ bits ≤ 40) :
    (-(2 ^ (56 - bits).toNat) ≤ 2 * ((rW 6 k bits).1 * 2 ^ (56 - bits).toNat - (EL.getD (rR 6 k) (0, 0)).1) ∧ 2 * ((rW 6 k bits).1 * 2 ^ (56 - bits).toNat - (EL.getD (rR 6 k) (0, 0)).1) ≤ 2 ^ (56 - bits).toNat) ∧
    (-(2 ^ (56 - bits).toNat) ≤ 2 * ((rW 6 k bits).2 * 2 ^ (56 - bits).toNat - (EL.getD (rR 6 k) (0, 0)).2) ∧ 2 * ((rW 6 k bits).2 * 2 ^ (56 - bits).toNat - (EL.getD (rR 6 k) (0, 0)).2) ≤ 2 ^ (56 - bits).toNat) := by
  have hr := (rR_lt (log := 6) (k := k)).1
  rw [← EL_at (show rR 6 k < 64 from hr), rW_is]
  exact qR_near _ (rsh1_near _ _ (by omega)) (rsh1_near _ _ (by omega))
theorem mul_abs {x y N M : Int} (h1 : -N ≤ x ∧ x ≤ N) (h2 : -M ≤ y ∧ y ≤ M) : -(N * M) ≤ x * y ∧ x * y ≤ N * M := by
  have a1 : 0 ≤ (N - x) * (M + y) := Int.mul_nonneg (by omega) (by omega)
  have a2 : 0 ≤ (N + x) * (M - y) := Int.mul_nonneg (by omega) (by omega)
  have a3 : 0 ≤ (N - x) * (M - y) := Int.mul_nonneg (by omega) (by omega)
  have a4 : 0 ≤ (N + x) * (M + y) := Int.mul_nonneg (by omega) (by omega)
  rw [Int.sub_mul, Int.mul_add, Int.mul_add] at a1
  rw [Int.add_mul, Int.mul_sub, Int.mul_sub] at a2
  rw [Int.sub_mul, Int.mul_sub, Int.mul_sub] at a3
  rw [Int.add_mul, Int.mul_add, Int.mul_add] at a4
  omega
/-- The law of products, of numbers that are near. -/
theorem prod_near {a1 a2 b1 b2 c T W A1 A2 B1 B2 C : Int} (hT : T * W = 72057594037927936) (hW : 67108864 ≤ W ∧ W ≤ 17592186044416) (n1 : -W ≤ 2 * (a1 * W - A1) ∧ 2 * (a1 * W - A1) ≤ W) (n2 : -W ≤ 2 * (a2 * W - A2) ∧ 2 * (a2 * W - A2) ≤ W)
    (n3 : -W ≤ 2 * (b1 * W - B1) ∧ 2 * (b1 * W - B1) ≤ W) (n4 : -W ≤ 2 * (b2 * W - B2) ∧ 2 * (b2 * W - B2) ≤ W) (n5 : -W ≤ 2 * (c * W - C) ∧ 2 * (c * W - C) ≤ W)
    (m1 : -72057594037927937 ≤ A1 ∧ A1 ≤ 72057594037927937) (m2 : -72057594037927937 ≤ A2 ∧ A2 ≤ 72057594037927937) (m3 : -72057594037927937 ≤ B1 ∧ B1 ≤ 72057594037927937) (m4 : -72057594037927937 ≤ B2 ∧ B2 ≤ 72057594037927937)
    (hD : -1180591620717411303424 ≤ A1 * B1 + A2 * B2 - C * 72057594037927936 ∧ A1 * B1 + A2 * B2 - C * 72057594037927936 ≤ 1180591620717411303424) :
    -(4 * T) ≤ a1 * b1 + a2 * b2 - c * T ∧ a1 * b1 + a2 * b2 - c * T ≤ 4 * T := by
  generalize e1 : 2 * (a1 * W - A1) = α1 at *
  generalize e2 : 2 * (a2 * W - A2) = α2 at *
  generalize e3 : 2 * (b1 * W - B1) = β1 at *
  generalize e4 : 2 * (b2 * W - B2) = β2 at *
  generalize e5 : 2 * (c * W - C) = γ at *
  have id : (a1 * b1 + a2 * b2 - c * T) * (4 * W * W) = 4 * (A1 * B1 + A2 * B2 - C * 72057594037927936) + 2 * (A1 * β1) + 2 * (α1 * B1) + α1 * β1 + 2 * (A2 * β2) + 2 * (α2 * B2) + α2 * β2 - 2 * γ * 72057594037927936 := by
    subst e1 e2 e3 e4 e5
    grind
  have p1 := mul_abs m1 n3
  have p2 := mul_abs n1 m3
  have p3 := mul_abs n1 n3
  have p4 := mul_abs m2 n4
  have p5 := mul_abs n2 m4
  have p6 := mul_abs n2 n4
  have hWW : W * W ≤ 17592186044416 * W := Int.mul_le_mul_of_nonneg_right hW.2 (by omega)
  have hTW : 4 * T * (4 * W * W) = 16 * (72057594037927936 * W) := by
    rw [← hT]
    grind
  have hpos : 0 < 4 * W * W := Int.mul_pos (by omega) (by omega)
  constructor
  · refine Int.le_of_mul_le_mul_right ?_ hpos
    rw [id, Int.neg_mul, hTW]
    omega
  · refine Int.le_of_mul_le_mul_right ?_ hpos
    rw [id, hTW]
    omega
theorem six_prod (k m bits : Int) (hb : 12 ≤ bits ∧ bits ≤ 30) :
    (-(4 * 2 ^ bits.toNat) ≤ (rW 6 k bits).1 * (rW 6 m bits).1 - (rW 6 k bits).2 * (rW 6 m bits).2 - (rW 6 (k + m) bits).1 * 2 ^ bits.toNat ∧ (rW 6 k bits).1 * (rW 6 m bits).1 - (rW 6 k bits).2 * (rW 6 m bits).2 - (rW 6 (k + m) bits).1 * 2 ^ bits.toNat ≤ 4 * 2 ^ bits.toNat) ∧
    (-(4 * 2 ^ bits.toNat) ≤ (rW 6 k bits).1 * (rW 6 m bits).2 + (rW 6 k bits).2 * (rW 6 m bits).1 - (rW 6 (k + m) bits).2 * 2 ^ bits.toNat ∧ (rW 6 k bits).1 * (rW 6 m bits).2 + (rW 6 k bits).2 * (rW 6 m bits).1 - (rW 6 (k + m) bits).2 * 2 ^ bits.toNat ≤ 4 * 2 ^ bits.toNat) := by
  obtain ⟨hk, hke⟩ := rR_lt (log := 6) (k := k)
  obtain ⟨hm, hme⟩ := rR_lt (log := 6) (k := m)
  have hs : rR 6 (k + m) = (rR 6 k + rR 6 m) % 64 := by
    obtain ⟨h1, h2⟩ := rR_lt (log := 6) (k := k + m)
    rw [Int.add_emod, ← hke, ← hme] at h2
    have h64 : (2 : Int) ^ 6 = 64 := rfl
    rw [h64] at h2
    omega
  obtain ⟨a1, a2⟩ := six_near k bits (by omega)
  obtain ⟨b1, b2⟩ := six_near m bits (by omega)
  obtain ⟨c1, c2⟩ := six_near (k + m) bits (by omega)
  rw [hs] at c1 c2
  obtain ⟨x1, x2, x3, x4⟩ := of_decide_eq_true (List.all_eq_true.1 EL_one _ (List.mem_range.2 (show rR 6 k < 64 from hk)))
  obtain ⟨y1, y2, y3, y4⟩ := of_decide_eq_true (List.all_eq_true.1 EL_one _ (List.mem_range.2 (show rR 6 m < 64 from hm)))
  obtain ⟨d1, d2, d3, d4⟩ := of_decide_eq_true (List.all_eq_true.1 (List.all_eq_true.1 EL_two _ (List.mem_range.2 (show rR 6 k < 64 from hk))) _ (List.mem_range.2 (show rR 6 m < 64 from hm)))
  unfold prodR at d1 d2
  unfold prodI at d3 d4
  have hT : (2 : Int) ^ bits.toNat * 2 ^ (56 - bits).toNat = 72057594037927936 := by
    rw [← Int.pow_add, show bits.toNat + (56 - bits).toNat = 56 by omega]
    rfl
  have hW : (67108864 : Int) ≤ 2 ^ (56 - bits).toNat ∧ (2 : Int) ^ (56 - bits).toNat ≤ 17592186044416 := by
    have h1 : (2 : Int) ^ 26 ≤ 2 ^ (56 - bits).toNat := pow_le (by omega)
    have h2 : (2 : Int) ^ (56 - bits).toNat ≤ 2 ^ 44 := pow_le (by omega)
    exact ⟨h1, h2⟩
  refine ⟨?_, prod_near hT hW a1 a2 b2 b1 c2 ⟨x1, x2⟩ ⟨x3, x4⟩ ⟨y3, y4⟩ ⟨y1, y2⟩ ⟨d3, d4⟩⟩
  have hn := near_of a2
  have := prod_near hT hW a1 hn b1 b2 c1 ⟨x1, x2⟩ (show -72057594037927937 ≤ -(EL.getD (rR 6 k) (0, 0)).2 ∧ -(EL.getD (rR 6 k) (0, 0)).2 ≤ 72057594037927937 by omega) ⟨y1, y2⟩ ⟨y3, y4⟩ (by rw [Int.neg_mul]; omega)
  rw [Int.neg_mul] at this
  omega
/-- No root is greater than 1. -/
theorem rW_le (log : Nat) (k bits : Int) (hl : log ≤ 6) (hb : 0 ≤ bits ∧ bits ≤ 40) : win (2 ^ bits.toNat) (rW log k bits).1 (rW log k bits).2 := by
  rw [rW_six log k bits hl]
  generalize k * 2 ^ (6 - log) = j
  obtain ⟨a1, a2⟩ := six_near j bits hb
  have hr := (rR_lt (log := 6) (k := j)).1
  obtain ⟨x1, x2, x3, x4⟩ := of_decide_eq_true (List.all_eq_true.1 EL_one _ (List.mem_range.2 (show rR 6 j < 64 from hr)))
  have hT : (2 : Int) ^ bits.toNat * 2 ^ (56 - bits).toNat = 72057594037927936 := by
    rw [← Int.pow_add, show bits.toNat + (56 - bits).toNat = 56 by omega]
    rfl
  have hW : (65536 : Int) ≤ 2 ^ (56 - bits).toNat := by
    have h1 : (2 : Int) ^ 16 ≤ 2 ^ (56 - bits).toNat := pow_le (by omega)
    exact h1
  generalize (2 : Int) ^ (56 - bits).toNat = W at *
  generalize (2 : Int) ^ bits.toNat = T at *
  have one : ∀ w x : Int, -W ≤ 2 * (w * W - x) ∧ 2 * (w * W - x) ≤ W → -72057594037927937 ≤ x → x ≤ 72057594037927937 → -T ≤ w ∧ w ≤ T := by
    intro w x h h1 h2
    constructor
    · have : (-T - 1) * W < w * W := by rw [Int.sub_mul, Int.neg_mul, hT]; omega
      have := Int.lt_of_mul_lt_mul_right this (by omega)
      omega
    · have : w * W < (T + 1) * W := by rw [Int.add_mul, hT]; omega
      have := Int.lt_of_mul_lt_mul_right this (by omega)
      omega
  have h1 := one _ _ a1 x1 x2
  have h2 := one _ _ a2 x3 x4
  unfold win
  omega
theorem rW_prod (log : Nat) (k m bits : Int) (hl : log ≤ 6) (hb : 12 ≤ bits ∧ bits ≤ 30) :
    (-(4 * 2 ^ bits.toNat) ≤ (rW log k bits).1 * (rW log m bits).1 - (rW log k bits).2 * (rW log m bits).2 - (rW log (k + m) bits).1 * 2 ^ bits.toNat ∧ (rW log k bits).1 * (rW log m bits).1 - (rW log k bits).2 * (rW log m bits).2 - (rW log (k + m) bits).1 * 2 ^ bits.toNat ≤ 4 * 2 ^ bits.toNat) ∧
    (-(4 * 2 ^ bits.toNat) ≤ (rW log k bits).1 * (rW log m bits).2 + (rW log k bits).2 * (rW log m bits).1 - (rW log (k + m) bits).2 * 2 ^ bits.toNat ∧ (rW log k bits).1 * (rW log m bits).2 + (rW log k bits).2 * (rW log m bits).1 - (rW log (k + m) bits).2 * 2 ^ bits.toNat ≤ 4 * 2 ^ bits.toNat) := by
  rw [rW_six log k bits hl, rW_six log m bits hl, rW_six log (k + m) bits hl, Int.add_mul]
  exact six_prod _ _ bits hb
end Go.Proofs.YtnnjjblgilibgaaV

import Derived.Test.YtnnjjblgilibgaaGreatVuB
/- What numbers were ahead of a pass: norms, told from behind. -/
namespace Go.Proofs.YtnnjjblgilibgaaGreatV
open Go Go.RowKit
set_option linter.unusedVariables false
set_option linter.unusedSimpArgs false
set_option maxRecDepth 100000
set_option maxHeartbeats 40000000
theorem rs_back {x : Int × Int} {s how R : Int} (hs : 1 ≤ s) (hR : 0 ≤ R) (h : nrm (rsh x.1 s how, rsh x.2 s how) ≤ R * R) : nrm x ≤ (2 ^ s.toNat * (R + 2)) * (2 ^ s.toNat * (R + 2)) := by
  have hp := pow_pos s.toNat
  have h1 := (rsh_near' x.1 s how).resolve_right (by omega)
  have h2 := (rsh_near' x.2 s how).resolve_right (by omega)
  generalize (2 : Int) ^ s.toNat = S at *
  generalize rsh x.1 s how = y1 at *
  generalize rsh x.2 s how = y2 at *
  have he : nrm (x.1 - y1 * S, x.2 - y2 * S) ≤ (2 * S) * (2 * S) := nrm_small (by dsimp only; omega) (by dsimp only; omega) (by omega)
  have hy : nrm (S * y1, S * y2) ≤ (S * R) * (S * R) := by
    rw [show ((S * y1, S * y2) : Int × Int) = (S * (y1, y2).1, S * (y1, y2).2) from rfl, nrm_scale]
    have h3 : S * S * nrm (y1, y2) ≤ S * S * (R * R) := Int.mul_le_mul_of_nonneg_left h (sqn S)
    have e : S * S * (R * R) = (S * R) * (S * R) := by grind
    omega
  have := nrm_add hy he (Int.mul_nonneg (by omega) hR) (by omega)
  dsimp only at this
  rw [show S * y1 + (x.1 - y1 * S) = x.1 by grind, show S * y2 + (x.2 - y2 * S) = x.2 by grind, show S * R + 2 * S = S * (R + 2) by grind] at this
  exact this
theorem EL_low : ((List.range 64).all fun r => decide ((72057594037927936 - 65536) * (72057594037927936 - 65536) < nrm (EL.getD r (0, 0)))) = true := by decide +kernel
theorem rW_low (log : Nat) (k bits : Int) (hl : log ≤ 6) (hb : 2 ≤ bits ∧ bits ≤ 40) : (2 ^ bits.toNat - 3) * (2 ^ bits.toNat - 3) < nrm (rW log k bits) := by
  rw [rW_six log k bits hl]
  generalize k * 2 ^ (6 - log) = j
  obtain ⟨a1, a2⟩ := six_near j bits (by omega)
  have hr := (rR_lt (log := 6) (k := j)).1
  have hE := of_decide_eq_true (List.all_eq_true.1 EL_low _ (List.mem_range.2 (show rR 6 j < 64 from hr)))
  have hT : (2 : Int) ^ bits.toNat * 2 ^ (56 - bits).toNat = 72057594037927936 := by
    rw [← Int.pow_add, show bits.toNat + (56 - bits).toNat = 56 by omega]
    rfl
  have hW : (65536 : Int) ≤ 2 ^ (56 - bits).toNat := by
    have h1 : (2 : Int) ^ 16 ≤ 2 ^ (56 - bits).toNat := pow_le (by omega)
    exact h1
  have hp4 : (4 : Int) ≤ 2 ^ bits.toNat := by
    have h1 : (2 : Int) ^ 2 ≤ 2 ^ bits.toNat := pow_le (by omega)
    exact h1
  generalize (2 : Int) ^ (56 - bits).toNat = W at *
  generalize (2 : Int) ^ bits.toNat = T at *
  generalize EL.getD (rR 6 j) (0, 0) = x at *
  generalize rW 6 j bits = w at *
  refine Int.not_le.1 fun hle => ?_
  have he : nrm (x.1 - w.1 * W, x.2 - w.2 * W) ≤ (2 * W) * (2 * W) := nrm_small (by dsimp only; omega) (by dsimp only; omega) (by omega)
  have hy : nrm (W * w.1, W * w.2) ≤ (W * (T - 3)) * (W * (T - 3)) := by
    rw [nrm_scale]
    have h3 : W * W * nrm w ≤ W * W * ((T - 3) * (T - 3)) := Int.mul_le_mul_of_nonneg_left hle (sqn W)
    have e : W * W * ((T - 3) * (T - 3)) = (W * (T - 3)) * (W * (T - 3)) := by grind
    omega
  have := nrm_add hy he (Int.mul_nonneg (by omega) (by omega)) (by omega)
  dsimp only at this
  rw [show W * w.1 + (x.1 - w.1 * W) = x.1 by grind, show W * w.2 + (x.2 - w.2 * W) = x.2 by grind, show W * (T - 3) + 2 * W = T * W - W by grind, hT] at this
  have h4 := sq_mono (a := 72057594037927936 - W) (b := 72057594037927936 - 65536) (by
    have : 4 * W ≤ T * W := Int.mul_le_mul_of_nonneg_right hp4 (by omega)
    omega) (by omega)
  have e5 : nrm (x.1, x.2) = nrm x := rfl
  omega
/-- A factor of a product. -/
theorem fac_back {b w : Int × Int} {P K X : Int} (hw : (P - 3) * (P - 3) < nrm w) (hP : 4 ≤ P) (hK : 0 ≤ K) (hX : 0 ≤ X) (h : nrm (cmul b w) ≤ X * X) (hKX : X ≤ K * (P - 3)) : nrm b ≤ K * K := by
  rw [nrm_mul] at h
  refine Int.not_lt.1 fun hlt => ?_
  have h1 : X * X ≤ (K * (P - 3)) * (K * (P - 3)) := sq_mono hX hKX
  have h2 : (K * K) * nrm w < nrm b * nrm w := Int.mul_lt_mul_of_pos_right hlt (Int.lt_of_le_of_lt (sqn (P - 3)) hw)
  have h3 : (K * K) * ((P - 3) * (P - 3)) ≤ (K * K) * nrm w := Int.mul_le_mul_of_nonneg_left (Int.le_of_lt hw) (sqn K)
  have e : (K * (P - 3)) * (K * (P - 3)) = (K * K) * ((P - 3) * (P - 3)) := by grind
  omega
/-- A multiple. -/
theorem mul_back {a : Int × Int} {c K : Int} (hc : 0 < c) (hK : 0 ≤ K) (h : nrm (c * a.1, c * a.2) ≤ (c * K) * (c * K)) : nrm a ≤ K * K := nrm_down hc hK h
theorem S_eq {B P s : Int} (hB : 2 ≤ B) (hs : 0 ≤ s) (hP : (2 : Int) ^ B.toNat = P) : (2 : Int) ^ (B + s).toNat = P * 2 ^ s.toNat := by
  rw [← hP, ← Int.pow_add, show B.toNat + s.toNat = (B + s).toNat by omega]
theorem a_back {P R s : Int} (hP0 : 20 ≤ P) (hR0 : 0 ≤ R) {a : Int × Int} (h : nrm (a.1 * P, a.2 * P) ≤ (P * 2 ^ s.toNat * (R + 2)) * (P * 2 ^ s.toNat * (R + 2))) : nrm a ≤ (2 ^ s.toNat * (R + 20)) * (2 ^ s.toNat * (R + 20)) := by
  have hp := pow_pos s.toNat
  have h1 : nrm a ≤ (2 ^ s.toNat * (R + 2)) * (2 ^ s.toNat * (R + 2)) := by
    refine mul_back (c := P) (by omega) (Int.mul_nonneg (by omega) (by omega)) ?_
    rw [Int.mul_comm P a.1, Int.mul_comm P a.2, show P * (2 ^ s.toNat * (R + 2)) = P * 2 ^ s.toNat * (R + 2) by rw [Int.mul_assoc]]
    exact h
  exact nrm_more h1 (Int.mul_nonneg (by omega) (by omega)) (Int.mul_le_mul_of_nonneg_left (by omega) (by omega))
theorem b_back {P R s : Int} (hP0 : 20 ≤ P) (hR0 : 0 ≤ R) (hR : R ≤ 4 * P) {b w : Int × Int} (hw : (P - 3) * (P - 3) < nrm w) (h : nrm (cmul b w) ≤ (P * 2 ^ s.toNat * (R + 2)) * (P * 2 ^ s.toNat * (R + 2))) : nrm b ≤ (2 ^ s.toNat * (R + 20)) * (2 ^ s.toNat * (R + 20)) := by
  have hp := pow_pos s.toNat
  refine fac_back hw (by omega) (Int.mul_nonneg (by omega) (by omega)) (Int.mul_nonneg (Int.mul_nonneg (by omega) (by omega)) (by omega)) h ?_
  have e1 : P * 2 ^ s.toNat * (R + 2) = 2 ^ s.toNat * (P * (R + 2)) := by grind
  have e2 : 2 ^ s.toNat * (R + 20) * (P - 3) = 2 ^ s.toNat * ((R + 20) * (P - 3)) := by grind
  rw [e1, e2]
  refine Int.mul_le_mul_of_nonneg_left ?_ (by omega)
  have e3 : P * (R + 2) = P * R + 2 * P := by grind
  have e4 : (R + 20) * (P - 3) = P * R + 20 * P - 3 * R - 60 := by grind
  omega
theorem pair_back {B mode P R s : Int} (hB : 2 ≤ B) (hs : 0 ≤ s) (hP : (2 : Int) ^ B.toNat = P) (hP0 : 20 ≤ P) (hR0 : 0 ≤ R) (hR : R ≤ 4 * P) {a b w : Int × Int} (hw : (P - 3) * (P - 3) < nrm w) (hu : nrm (tU B s mode a b w) ≤ R * R) (hd : nrm (tD B s mode a b w) ≤ R * R) : nrm a ≤ (2 ^ s.toNat * (R + 20)) * (2 ^ s.toNat * (R + 20)) ∧ nrm b ≤ (2 ^ s.toNat * (R + 20)) * (2 ^ s.toNat * (R + 20)) := by
  have hp := pow_pos s.toNat
  have hS := S_eq hB hs hP
  unfold tU at hu
  unfold tD at hd
  rw [hP] at hu hd
  have x1 := rs_back (x := (a.1 * P + (b.1 * w.1 - b.2 * w.2), a.2 * P + (b.1 * w.2 + b.2 * w.1))) (by omega) hR0 hu
  have x2 := rs_back (x := (a.1 * P - (b.1 * w.1 - b.2 * w.2), a.2 * P - (b.1 * w.2 + b.2 * w.1))) (by omega) hR0 hd
  rw [hS] at x1 x2
  have hK : 0 ≤ P * 2 ^ s.toNat * (R + 2) := Int.mul_nonneg (Int.mul_nonneg (by omega) (by omega)) (by omega)
  have y1 := nrm_add x1 x2 hK hK
  have y2 := nrm_sub x1 x2 hK hK
  dsimp only at y1 y2
  rw [show P * 2 ^ s.toNat * (R + 2) + P * 2 ^ s.toNat * (R + 2) = 2 * (P * 2 ^ s.toNat * (R + 2)) by omega] at y1 y2
  rw [show a.1 * P + (b.1 * w.1 - b.2 * w.2) + (a.1 * P - (b.1 * w.1 - b.2 * w.2)) = 2 * (a.1 * P) by omega, show a.2 * P + (b.1 * w.2 + b.2 * w.1) + (a.2 * P - (b.1 * w.2 + b.2 * w.1)) = 2 * (a.2 * P) by omega] at y1
  rw [show a.1 * P + (b.1 * w.1 - b.2 * w.2) - (a.1 * P - (b.1 * w.1 - b.2 * w.2)) = 2 * (cmul b w).1 by unfold cmul; omega, show a.2 * P + (b.1 * w.2 + b.2 * w.1) - (a.2 * P - (b.1 * w.2 + b.2 * w.1)) = 2 * (cmul b w).2 by unfold cmul; omega] at y2
  exact ⟨a_back hP0 hR0 (mul_back (a := (a.1 * P, a.2 * P)) (by decide) hK y1), b_back hP0 hR0 hR hw (mul_back (by decide) hK y2)⟩
theorem quad_back {B mode P R s : Int} (hB : 2 ≤ B) (hs : 0 ≤ s) (hP : (2 : Int) ^ B.toNat = P) (hP0 : 20 ≤ P) (hR0 : 0 ≤ R) (hR : R ≤ 4 * P) {inv : Bool} {a b c d u v w : Int × Int} (hu : (P - 3) * (P - 3) < nrm u) (hv : (P - 3) * (P - 3) < nrm v) (hw : (P - 3) * (P - 3) < nrm w)
    (h : ∀ q : Nat, q < 4 → nrm (qV inv B s mode a.1 a.2 b.1 b.2 c.1 c.2 d.1 d.2 u.1 u.2 v.1 v.2 w.1 w.2 (q : Int)) ≤ R * R) :
    (nrm a ≤ (2 ^ s.toNat * (R + 20)) * (2 ^ s.toNat * (R + 20)) ∧ nrm b ≤ (2 ^ s.toNat * (R + 20)) * (2 ^ s.toNat * (R + 20))) ∧ nrm c ≤ (2 ^ s.toNat * (R + 20)) * (2 ^ s.toNat * (R + 20)) ∧ nrm d ≤ (2 ^ s.toNat * (R + 20)) * (2 ^ s.toNat * (R + 20)) := by
  have hp := pow_pos s.toNat
  have hS := S_eq hB hs hP
  have hK : 0 ≤ P * 2 ^ s.toNat * (R + 2) := Int.mul_nonneg (Int.mul_nonneg (by omega) (by omega)) (by omega)
  obtain ⟨K, hKe⟩ : ∃ K, P * 2 ^ s.toNat * (R + 2) = K := ⟨_, rfl⟩
  have z : ∀ q : Nat, q < 4 → nrm (qRe (a.1 * P) (a.2 * P) (cmul b u).1 (cmul b u).2 (cmul c v).1 (cmul c v).2 (cmul d w).1 (cmul d w).2 inv q, qIm (a.1 * P) (a.2 * P) (cmul b u).1 (cmul b u).2 (cmul c v).1 (cmul c v).2 (cmul d w).1 (cmul d w).2 inv q) ≤ K * K := by
    intro q hq
    have hh := h q hq
    unfold qV at hh
    rw [hP] at hh
    have := rs_back (x := (qRe (a.1 * P) (a.2 * P) (cmul b u).1 (cmul b u).2 (cmul c v).1 (cmul c v).2 (cmul d w).1 (cmul d w).2 inv q, qIm (a.1 * P) (a.2 * P) (cmul b u).1 (cmul b u).2 (cmul c v).1 (cmul c v).2 (cmul d w).1 (cmul d w).2 inv q)) (by omega) hR0 hh
    rw [hS, hKe] at this
    exact this
  have A := @a_back P R s hP0 hR0 a
  have Bb := fun (x y : Int × Int) => @b_back P R s hP0 hR0 hR x y
  rw [hKe] at A hK
  have Bb1 := Bb b u hu
  have Bb2 := Bb c v hv
  have Bb3 := Bb d w hw
  rw [hKe] at Bb1 Bb2 Bb3
  generalize cmul b u = t1 at *
  generalize cmul c v = t2 at *
  generalize cmul d w = t3 at *
  have z0 := z 0 (by decide)
  have z1 := z 1 (by decide)
  have z2 := z 2 (by decide)
  have z3 := z 3 (by decide)
  generalize a.1 * P = p1 at *
  generalize a.2 * P = p2 at *
  clear z h Bb
  have four : ∀ {x0 x1 x2 x3 t : Int × Int}, nrm x0 ≤ K * K → nrm x1 ≤ K * K → nrm x2 ≤ K * K → nrm x3 ≤ K * K → 4 * t.1 = x0.1 + x1.1 + x2.1 + x3.1 → 4 * t.2 = x0.2 + x1.2 + x2.2 + x3.2 → nrm t ≤ K * K := by
    intro x0 x1 x2 x3 t h0 h1 h2 h3 e1 e2
    have a1 := nrm_add h0 h1 hK hK
    have a2 := nrm_add a1 h2 (by omega) hK
    have a3 := nrm_add a2 h3 (by omega) hK
    dsimp only at a3
    rw [← e1, ← e2, show K + K + K + K = 4 * K by omega] at a3
    exact mul_back (by decide) hK a3
  have tn : ∀ {x : Int × Int} (n : Int), nrm x ≤ K * K → nrm (tRe x.1 x.2 n, tIm x.1 x.2 n) ≤ K * K := fun n h => by rw [nrm_turn]; exact h
  have g0 : nrm (p1, p2) ≤ K * K := by
    refine four z0 z1 z2 z3 ?_ ?_
    all_goals
      cases inv <;> simp [qRe, qIm, tRe, tIm] <;> omega
  have g1 : nrm t1 ≤ K * K := by
    refine four z0 (tn (if inv = true then 3 else 1) z1) (tn 2 z2) (tn (if inv = true then 1 else 3) z3) ?_ ?_
    all_goals
      cases inv <;> simp [qRe, qIm, tRe, tIm] <;> omega
  have g2 : nrm t2 ≤ K * K := by
    refine four z0 (tn 2 z1) z2 (tn 2 z3) ?_ ?_
    all_goals
      cases inv <;> simp [qRe, qIm, tRe, tIm] <;> omega
  have g3 : nrm t3 ≤ K * K := by
    refine four z0 (tn (if inv = true then 1 else 3) z1) (tn 2 z2) (tn (if inv = true then 3 else 1) z3) ?_ ?_
    all_goals
      cases inv <;> simp [qRe, qIm, tRe, tIm] <;> omega
  exact ⟨⟨A g0, Bb1 g1⟩, Bb2 g2, Bb3 g3⟩
end Go.Proofs.YtnnjjblgilibgaaGreatV

import Derived.Test.YtnnjjblgilibgaaGreatVlA
import Derived.Test.YtnnjjblgilibgaaGreatVgG
import Derived.Test.YtnnjjblgilibgaaGreatVgA
import Derived.Test.YtnnjjblgilibgaaGreatVlB
/- The split transform, as numbers: it does not grow. No program here. -/
namespace Go.Proofs.YtnnjjblgilibgaaGreatV
open Go Go.RowKit
set_option linter.unusedVariables false
set_option linter.unusedSimpArgs false
set_option maxHeartbeats 4000000
def nrm (a : Int × Int) : Int := a.1 * a.1 + a.2 * a.2
theorem sqn (d : Int) : 0 ≤ d * d := by
  rcases Int.le_total 0 d with h | h
  · exact Int.mul_nonneg h h
  · exact Int.mul_nonneg_of_nonpos_of_nonpos h h
theorem sq_lt {b d : Int} (hb : 0 ≤ b) (h : b < d) : b * b < d * d := by
  have h1 : b * b ≤ b * d := Int.mul_le_mul_of_nonneg_left (by omega) hb
  have h2 : b * d < d * d := Int.mul_lt_mul_of_pos_right h (by omega)
  omega
theorem sq_bd {d b : Int} (h : d * d ≤ b * b) (hb : 0 ≤ b) : -b ≤ d ∧ d ≤ b := by
  constructor
  · rcases Int.lt_or_le d (-b) with g | g
    · have h1 : b * b < (-d) * (-d) := sq_lt hb (by omega)
      rw [Int.neg_mul_neg] at h1
      omega
    · exact g
  · rcases Int.lt_or_le b d with g | g
    · have h1 : b * b < d * d := sq_lt hb g
      omega
    · exact g
theorem sq_mono {a b : Int} (h0 : 0 ≤ a) (h : a ≤ b) : a * a ≤ b * b := by
  have h1 : a * a ≤ a * b := Int.mul_le_mul_of_nonneg_left h h0
  have h2 : a * b ≤ b * b := Int.mul_le_mul_of_nonneg_right h (by omega)
  omega
theorem nrm_nn (a : Int × Int) : 0 ≤ nrm a := by
  have := sqn a.1
  have := sqn a.2
  unfold nrm
  omega
theorem nrm_add {a b : Int × Int} {A B : Int} (ha : nrm a ≤ A * A) (hb : nrm b ≤ B * B) (hA : 0 ≤ A) (hB : 0 ≤ B) : nrm (a.1 + b.1, a.2 + b.2) ≤ (A + B) * (A + B) := by
  have hAB : 0 ≤ A * B := Int.mul_nonneg hA hB
  have h1 : (a.1 * b.1 + a.2 * b.2) * (a.1 * b.1 + a.2 * b.2) ≤ (A * B) * (A * B) := by
    have e : nrm a * nrm b = (a.1 * b.1 + a.2 * b.2) * (a.1 * b.1 + a.2 * b.2) + (a.1 * b.2 - a.2 * b.1) * (a.1 * b.2 - a.2 * b.1) := by unfold nrm; grind
    have h2 := sqn (a.1 * b.2 - a.2 * b.1)
    have h3 : nrm a * nrm b ≤ A * A * nrm b := Int.mul_le_mul_of_nonneg_right ha (nrm_nn b)
    have h4 : A * A * nrm b ≤ A * A * (B * B) := Int.mul_le_mul_of_nonneg_left hb (sqn A)
    have e2 : A * A * (B * B) = (A * B) * (A * B) := by grind
    omega
  have h5 := (sq_bd h1 hAB).2
  have e3 : nrm (a.1 + b.1, a.2 + b.2) = nrm a + nrm b + 2 * (a.1 * b.1 + a.2 * b.2) := by unfold nrm; grind
  have e4 : (A + B) * (A + B) = A * A + B * B + 2 * (A * B) := by grind
  omega
theorem nrm_neg (a : Int × Int) : nrm (-a.1, -a.2) = nrm a := by unfold nrm; grind
theorem nrm_sub {a b : Int × Int} {A B : Int} (ha : nrm a ≤ A * A) (hb : nrm b ≤ B * B) (hA : 0 ≤ A) (hB : 0 ≤ B) : nrm (a.1 - b.1, a.2 - b.2) ≤ (A + B) * (A + B) := by
  have := nrm_add ha (by rw [← nrm_neg b] at hb; exact hb) hA hB
  simpa [Int.sub_eq_add_neg] using this
theorem nrm_mul (a b : Int × Int) : nrm (cmul a b) = nrm a * nrm b := by unfold nrm cmul; grind
theorem nrm_turn (a : Int × Int) (t : Int) : nrm (tRe a.1 a.2 t, tIm a.1 a.2 t) = nrm a := by
  unfold nrm tRe tIm
  dsimp only
  split
  · rfl
  · split
    · grind
    · split <;> grind
theorem nrm_comp {a : Int × Int} {R : Int} (h : nrm a ≤ R * R) (hR : 0 ≤ R) : win R a.1 a.2 := by
  have h1 := sqn a.1
  have h2 := sqn a.2
  unfold nrm at h
  have g1 := sq_bd (d := a.1) (b := R) (by omega) hR
  have g2 := sq_bd (d := a.2) (b := R) (by omega) hR
  unfold win
  omega
theorem nrm_scale (k : Int) (a : Int × Int) : nrm (k * a.1, k * a.2) = k * k * nrm a := by unfold nrm; grind
theorem nrm_down {S R : Int} {a : Int × Int} (hS : 0 < S) (hR : 0 ≤ R) (h : nrm (S * a.1, S * a.2) ≤ (S * R) * (S * R)) : nrm a ≤ R * R := by
  rw [nrm_scale] at h
  have e : (S * R) * (S * R) = S * S * (R * R) := by grind
  rw [e] at h
  have hSS : 0 < S * S := Int.mul_pos hS hS
  exact Int.le_of_mul_le_mul_left h hSS
theorem nrm_small {e : Int × Int} {S : Int} (h1 : -S ≤ e.1 ∧ e.1 ≤ S) (h2 : -S ≤ e.2 ∧ e.2 ≤ S) (hS : 0 ≤ S) : nrm e ≤ (2 * S) * (2 * S) := by
  have a1 : e.1 * e.1 ≤ S * S := by
    have b1 : 0 ≤ (S - e.1) * (S + e.1) := Int.mul_nonneg (by omega) (by omega)
    grind
  have a2 : e.2 * e.2 ≤ S * S := by
    have b1 : 0 ≤ (S - e.2) * (S + e.2) := Int.mul_nonneg (by omega) (by omega)
    grind
  have a3 := sqn S
  have e3 : (2 * S) * (2 * S) = 4 * (S * S) := by grind
  unfold nrm
  omega
/-- What is rounded. -/
theorem nrm_rsh {x : Int × Int} {s how X R : Int} (hs : 1 ≤ s) (hx : nrm x ≤ X * X) (hX : 0 ≤ X) (hR : 0 ≤ R) (h : X + 2 * 2 ^ s.toNat ≤ 2 ^ s.toNat * R) : nrm (rsh x.1 s how, rsh x.2 s how) ≤ R * R := by
  have hp := pow_pos s.toNat
  have h1 := (rsh_near' x.1 s how).resolve_right (by omega)
  have h2 := (rsh_near' x.2 s how).resolve_right (by omega)
  generalize (2 : Int) ^ s.toNat = S at *
  generalize rsh x.1 s how = y1 at *
  generalize rsh x.2 s how = y2 at *
  refine nrm_down hp hR ?_
  have he : nrm (y1 * S - x.1, y2 * S - x.2) ≤ (2 * S) * (2 * S) := nrm_small (by dsimp only; omega) (by dsimp only; omega) (by omega)
  have := nrm_add hx he hX (by omega)
  have e1 : x.1 + (y1 * S - x.1) = S * y1 := by grind
  have e2 : x.2 + (y2 * S - x.2) = S * y2 := by grind
  dsimp only at this
  rw [e1, e2] at this
  exact Int.le_trans this (sq_mono (by omega) h)
theorem tabS_len {log : Nat} {bits : Int} : (tabV log bits).length = 2 ^ log := by unfold tabV; rw [fillL_len]
theorem tabS_get {log : Nat} {bits : Int} {i : Nat} (h : i < 2 ^ log) : (tabV log bits).getD i (0, 0) = rW log i bits := by
  rw [getD_at (by rw [tabS_len]; exact h)]
  unfold tabV fillL
  simp [h]
theorem EL_nrm : ((List.range 64).all fun r => decide (nrm (EL.getD r (0, 0)) ≤ (72057594037927936 + 65536) * (72057594037927936 + 65536))) = true := by decide +kernel
theorem rW_nrm (log : Nat) (k bits : Int) (hl : log ≤ 6) (hb : 0 ≤ bits ∧ bits ≤ 40) : nrm (rW log k bits) ≤ (2 ^ bits.toNat + 3) * (2 ^ bits.toNat + 3) := by
  rw [rW_six log k bits hl]
  generalize k * 2 ^ (6 - log) = j
  obtain ⟨a1, a2⟩ := six_near j bits hb
  have hr := (rR_lt (log := 6) (k := j)).1
  have hE := of_decide_eq_true (List.all_eq_true.1 EL_nrm _ (List.mem_range.2 (show rR 6 j < 64 from hr)))
  have hT : (2 : Int) ^ bits.toNat * 2 ^ (56 - bits).toNat = 72057594037927936 := by
    rw [← Int.pow_add, show bits.toNat + (56 - bits).toNat = 56 by omega]
    rfl
  have hW : (65536 : Int) ≤ 2 ^ (56 - bits).toNat := by
    have h1 : (2 : Int) ^ 16 ≤ 2 ^ (56 - bits).toNat := pow_le (by omega)
    exact h1
  have hp := pow_pos bits.toNat
  generalize (2 : Int) ^ (56 - bits).toNat = W at *
  generalize (2 : Int) ^ bits.toNat = T at *
  generalize EL.getD (rR 6 j) (0, 0) = x at *
  generalize rW 6 j bits = w at *
  refine nrm_down (S := W) (by omega) (by omega) ?_
  have he : nrm (w.1 * W - x.1, w.2 * W - x.2) ≤ (2 * W) * (2 * W) := nrm_small (by dsimp only; omega) (by dsimp only; omega) (by omega)
  have := nrm_add hE he (by decide) (by omega)
  have e1 : x.1 + (w.1 * W - x.1) = W * w.1 := by grind
  have e2 : x.2 + (w.2 * W - x.2) = W * w.2 := by grind
  dsimp only at this
  rw [e1, e2] at this
  refine Int.le_trans this (sq_mono (by omega) ?_)
  rw [Int.mul_add, Int.mul_comm W T, hT]
  omega
theorem rootV_nrm (ws : List (Int × Int)) (inv : Bool) (k : Nat) : nrm (rootV ws inv k) = nrm (ws.getD k (0, 0)) := by
  unfold nrm rootV
  cases inv
  · rfl
  · simp only [if_true]
    grind
/-- What is joined is not much greater. -/
theorem jOne_nrm {B mode sign P R : Int} {a b : Int × Int} (hB : 0 ≤ B) (hP : (2 : Int) ^ B.toNat = P) (hs : sign = 1 ∨ sign = -1) (ha : nrm a ≤ R * R) (hb : nrm b ≤ (2 * (R * (P + 3))) * (2 * (R * (P + 3)))) (hR0 : 0 ≤ R) (hR : R ≤ 4 * P) : nrm (jOne B mode sign a b) ≤ (R + 8) * (R + 8) := by
  have hp : 1 ≤ P := by rw [← hP]; exact pow_pos _
  have e1 : (2 : Int) ^ (B + 1).toNat = 2 * P := by rw [← hP, show (B + 1).toNat = B.toNat + 1 by omega, Int.pow_succ]; omega
  have e2 : (2 : Int) ^ (B + 2).toNat = 4 * P := by rw [← hP, show (B + 2).toNat = B.toNat + 1 + 1 by omega, Int.pow_succ, Int.pow_succ]; omega
  unfold jOne
  rw [e1]
  have hRP : 0 ≤ R * (P + 3) := Int.mul_nonneg hR0 (by omega)
  have hRP2 : 0 ≤ R * P := Int.mul_nonneg hR0 (by omega)
  have h1 : nrm (a.1 * (2 * P), a.2 * (2 * P)) ≤ (2 * (R * P)) * (2 * (R * P)) := by
    have := nrm_scale (2 * P) a
    rw [Int.mul_comm a.1, Int.mul_comm a.2, this]
    have h2 : (2 * P) * (2 * P) * nrm a ≤ (2 * P) * (2 * P) * (R * R) := Int.mul_le_mul_of_nonneg_left ha (sqn _)
    have e : (2 * P) * (2 * P) * (R * R) = (2 * (R * P)) * (2 * (R * P)) := by grind
    omega
  have h3 : nrm (sign * b.1, sign * b.2) ≤ (2 * (R * (P + 3))) * (2 * (R * (P + 3))) := by
    rw [nrm_scale]
    rcases hs with rfl | rfl
    · simpa using hb
    · simpa using hb
  have h4 := nrm_add h1 h3 (by omega) (by omega)
  refine nrm_rsh (x := (a.1 * (2 * P) + sign * b.1, a.2 * (2 * P) + sign * b.2)) (by omega) h4 (by omega) (by omega) ?_
  rw [e2]
  have e3 : 4 * P * (R + 8) = 4 * (R * P) + 32 * P := by grind
  have e4 : R * (P + 3) = R * P + 3 * R := by grind
  rw [e3, e4]
  omega
theorem jV_nrm {t B mode P R : Int} {u v y z w w3 : Int × Int} (q : Nat) (hB : 0 ≤ B) (hP : (2 : Int) ^ B.toNat = P) (hu : nrm u ≤ R * R) (hv : nrm v ≤ R * R) (hy : nrm y ≤ R * R) (hz : nrm z ≤ R * R) (hw : nrm w ≤ (P + 3) * (P + 3)) (hw3 : nrm w3 ≤ (P + 3) * (P + 3)) (hR0 : 0 ≤ R) (hR : R ≤ 4 * P) : nrm (jV t B mode u v y z w w3 q) ≤ (R + 8) * (R + 8) := by
  have hp : 1 ≤ P := by rw [← hP]; exact pow_pos _
  have hRP : 0 ≤ R * (P + 3) := Int.mul_nonneg hR0 (by omega)
  have prod : ∀ {y w : Int × Int}, nrm y ≤ R * R → nrm w ≤ (P + 3) * (P + 3) → nrm (cmul y w) ≤ (R * (P + 3)) * (R * (P + 3)) := by
    intro y w hy hw
    rw [nrm_mul]
    have h1 : nrm y * nrm w ≤ R * R * nrm w := Int.mul_le_mul_of_nonneg_right hy (nrm_nn w)
    have h2 : R * R * nrm w ≤ R * R * ((P + 3) * (P + 3)) := Int.mul_le_mul_of_nonneg_left hw (sqn R)
    have e : R * R * ((P + 3) * (P + 3)) = (R * (P + 3)) * (R * (P + 3)) := by grind
    omega
  have p1 := prod hy hw
  have p2 := prod hz hw3
  have hsum : nrm (jSum y z w w3) ≤ (2 * (R * (P + 3))) * (2 * (R * (P + 3))) := by
    have := nrm_add p1 p2 hRP hRP
    rw [show R * (P + 3) + R * (P + 3) = 2 * (R * (P + 3)) by omega] at this
    exact this
  have hless : nrm (jLess t y z w w3) ≤ (2 * (R * (P + 3))) * (2 * (R * (P + 3))) := by
    have := nrm_sub (a := (tRe (cmul y w).1 (cmul y w).2 t, tIm (cmul y w).1 (cmul y w).2 t)) (b := (tRe (cmul z w3).1 (cmul z w3).2 t, tIm (cmul z w3).1 (cmul z w3).2 t)) (by rw [nrm_turn]; exact p1) (by rw [nrm_turn]; exact p2) hRP hRP
    rw [show R * (P + 3) + R * (P + 3) = 2 * (R * (P + 3)) by omega] at this
    exact this
  match q with
  | 0 => exact jOne_nrm hB hP (.inl rfl) hu hsum hR0 hR
  | 1 => exact jOne_nrm hB hP (.inl rfl) hv hless hR0 hR
  | 2 => exact jOne_nrm hB hP (.inr rfl) hu hsum hR0 hR
  | q + 3 => exact jOne_nrm hB hP (.inr rfl) hv hless hR0 hR
/-- A pair. -/
def bf (mode sign : Int) (a b : Int × Int) : Int × Int := (rsh (a.1 + sign * b.1) 1 mode, rsh (a.2 + sign * b.2) 1 mode)
theorem bf_nrm {mode sign R : Int} {a b : Int × Int} (hs : sign = 1 ∨ sign = -1) (ha : nrm a ≤ R * R) (hb : nrm b ≤ R * R) (hR : 0 ≤ R) : nrm (bf mode sign a b) ≤ (R + 8) * (R + 8) := by
  have h3 : nrm (sign * b.1, sign * b.2) ≤ R * R := by
    rw [nrm_scale]
    rcases hs with rfl | rfl
    · simpa using hb
    · simpa using hb
  have h4 := nrm_add ha h3 hR hR
  refine nrm_rsh (x := (a.1 + sign * b.1, a.2 + sign * b.2)) (by decide) h4 (by omega) (by omega) ?_
  show R + R + 2 * 2 ≤ 2 * (R + 8)
  omega
/-- The split transform. -/
def spV (ws : List (Int × Int)) (inv : Bool) (B mode : Int) (j : Nat) (e f g : List (Int × Int)) (k q : Nat) : Int × Int :=
  jV (tn inv) B mode (e.getD k (0, 0)) (e.getD (2 ^ j + k) (0, 0)) (f.getD k (0, 0)) (g.getD k (0, 0)) (rootV ws inv (k * (ws.length / 2 ^ (j + 2)))) (rootV ws inv (3 * k * (ws.length / 2 ^ (j + 2)))) q
def runL (ws : List (Int × Int)) (inv : Bool) (B mode : Int) : Nat → List (Int × Int) → List (Int × Int)
  | 0, xs => xs
  | 1, xs => [bf mode 1 (xs.getD 0 (0, 0)) (xs.getD 1 (0, 0)), bf mode (-1) (xs.getD 0 (0, 0)) (xs.getD 1 (0, 0))]
  | j + 2, xs => (List.range (2 ^ (j + 2))).map fun p => spV ws inv B mode j (runL ws inv B mode (j + 1) (evL xs 0 2 (2 ^ (j + 1)))) (runL ws inv B mode j (evL xs 1 4 (2 ^ j))) (runL ws inv B mode j (evL xs 3 4 (2 ^ j))) (p % 2 ^ j) (p / 2 ^ j)
theorem runL_len (ws : List (Int × Int)) (inv : Bool) (B mode : Int) : ∀ (j : Nat) (xs : List (Int × Int)), xs.length = 2 ^ j → (runL ws inv B mode j xs).length = 2 ^ j
  | 0, xs, h => h
  | 1, xs, h => rfl
  | j + 2, xs, h => by rw [runL, List.length_map, List.length_range]
theorem getD_nrm {xs : List (Int × Int)} {R : Int} (h : ∀ x ∈ xs, nrm x ≤ R * R) (hR : 0 ≤ R) (i : Nat) : nrm (xs.getD i (0, 0)) ≤ R * R := by
  rw [List.getD_eq_getElem?_getD]
  cases hx : xs[i]? with
  | none => exact Int.mul_nonneg hR hR
  | some x => exact h x (List.mem_of_getElem? hx)
theorem evL_nrm {xs : List (Int × Int)} {R : Int} (h : ∀ x ∈ xs, nrm x ≤ R * R) (hR : 0 ≤ R) (fr by' k : Nat) : ∀ x ∈ evL xs fr by' k, nrm x ≤ R * R := by
  intro x hx
  obtain ⟨j, _, rfl⟩ := List.mem_map.1 hx
  exact getD_nrm h hR _
theorem nrm_more {a : Int × Int} {R R' : Int} (h : nrm a ≤ R * R) (hR : 0 ≤ R) (hRR : R ≤ R') : nrm a ≤ R' * R' := Int.le_trans h (sq_mono hR hRR)
/-- It does not grow. -/
theorem runL_nrm (log : Nat) (inv : Bool) (B mode R0 : Int) (hB : 0 ≤ B ∧ B ≤ 29) (hl : log ≤ 6) (hR0 : 0 ≤ R0) : ∀ (j : Nat) (xs : List (Int × Int)), R0 + 8 * j ≤ 4 * 2 ^ B.toNat → (∀ x ∈ xs, nrm x ≤ R0 * R0) → ∀ x ∈ runL (tabV log B) inv B mode j xs, nrm x ≤ (R0 + 8 * j) * (R0 + 8 * j)
  | 0, xs, h, hx => by simpa [runL] using hx
  | 1, xs, h, hx => by
    intro x hx'
    rw [runL, List.mem_cons, List.mem_singleton] at hx'
    rcases hx' with rfl | rfl
    · exact bf_nrm (.inl rfl) (getD_nrm hx hR0 0) (getD_nrm hx hR0 1) hR0
    · exact bf_nrm (.inr rfl) (getD_nrm hx hR0 0) (getD_nrm hx hR0 1) hR0
  | j + 2, xs, h, hx => by
    intro x hx'
    rw [runL] at hx'
    obtain ⟨p, _, rfl⟩ := List.mem_map.1 hx'
    have hR1 : 0 ≤ R0 + 8 * ((j + 1 : Nat) : Int) := by omega
    have he := runL_nrm log inv B mode R0 hB hl hR0 (j + 1) (evL xs 0 2 (2 ^ (j + 1))) (by omega) (evL_nrm hx hR0 _ _ _)
    have hf := runL_nrm log inv B mode R0 hB hl hR0 j (evL xs 1 4 (2 ^ j)) (by omega) (evL_nrm hx hR0 _ _ _)
    have hg := runL_nrm log inv B mode R0 hB hl hR0 j (evL xs 3 4 (2 ^ j)) (by omega) (evL_nrm hx hR0 _ _ _)
    have e8 : R0 + 8 * ((j + 2 : Nat) : Int) = R0 + 8 * ((j + 1 : Nat) : Int) + 8 := by omega
    rw [e8]
    have hroot : ∀ k, nrm (rootV (tabV log B) inv k) ≤ (2 ^ B.toNat + 3) * (2 ^ B.toNat + 3) := by
      intro k
      rw [rootV_nrm]
      have hp := pow_pos B.toNat
      rcases Nat.lt_or_ge k (2 ^ log) with hk | hk
      · rw [tabS_get hk]
        exact rW_nrm log k B hl (by omega)
      · rw [List.getD_eq_getElem?_getD, List.getElem?_eq_none (by rw [tabS_len]; exact hk)]
        exact Int.mul_nonneg (by omega) (by omega)
    exact jV_nrm _ hB.1 rfl (getD_nrm he hR1 _) (getD_nrm he hR1 _) (nrm_more (getD_nrm hf (by omega) _) (by omega) (by omega)) (nrm_more (getD_nrm hg (by omega) _) (by omega) (by omega)) (hroot _) (hroot _) hR1 (by omega)
end Go.Proofs.YtnnjjblgilibgaaGreatV

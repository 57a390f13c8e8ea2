import Derived.Test.YtnnjjblgilibgaaGreatVtD
import Derived.Test.YtnnjjblgilibgaaGreatVgE
import Derived.Test.YtnnjjblgilibgaaGreatVlE
/- How great numbers are behind a pass: by parts, and by norms. -/
namespace Go.Proofs.YtnnjjblgilibgaaGreatV
open Go Go.RowKit
set_option linter.unusedVariables false
set_option linter.unusedSimpArgs false
set_option maxRecDepth 100000
set_option maxHeartbeats 40000000
theorem times_bd {m p a b u v : Int} (hm : 0 ≤ m) (h : win m a b) (g : win p u v) : win (2 * (m * p)) (a * u - b * v) (a * v + b * u) := by
  unfold win at *
  have g1 := mul_near (p := m) (q := p) (a := a) (b := u) hm (by omega) (by omega)
  have g2 := mul_near (p := m) (q := p) (a := b) (b := v) hm (by omega) (by omega)
  have g3 := mul_near (p := m) (q := p) (a := a) (b := v) hm (by omega) (by omega)
  have g4 := mul_near (p := m) (q := p) (a := b) (b := u) hm (by omega) (by omega)
  omega
/-- What is rounded, of a sum of not more than 7 parts. -/
theorem rsh_grow {S m bits s mode : Int} (hb : 0 ≤ bits) (hs : 0 ≤ s) (h : -(7 * (m * 2 ^ bits.toNat)) ≤ S ∧ S ≤ 7 * (m * 2 ^ bits.toNat)) : rsh S (bits + s) mode * 2 ^ s.toNat < 7 * m + 2 ^ s.toNat ∧ -(rsh S (bits + s) mode * 2 ^ s.toNat) < 7 * m + 2 ^ s.toNat := by
  by_cases h0 : bits + s = 0
  · have e1 : bits = 0 := by omega
    have e2 : s = 0 := by omega
    subst e1 e2
    simp only [Int.add_zero, rsh_z, Int.toNat_zero, Int.pow_zero, Int.mul_one] at *
    omega
  · have g := (rsh_near' S (bits + s) mode).resolve_right h0
    generalize rsh S (bits + s) mode = Y at *
    have e : (bits + s).toNat = bits.toNat + s.toNat := by omega
    rw [e, Int.pow_add] at g
    have hp := pow_pos bits.toNat
    have e1 : Y * (2 ^ bits.toNat * 2 ^ s.toNat) = (Y * 2 ^ s.toNat) * 2 ^ bits.toNat := by rw [Int.mul_assoc, Int.mul_comm (2 ^ s.toNat)]
    have e2 : (2 : Int) ^ bits.toNat * 2 ^ s.toNat = 2 ^ s.toNat * 2 ^ bits.toNat := Int.mul_comm _ _
    have e3 : 7 * (m * 2 ^ bits.toNat) = (7 * m) * 2 ^ bits.toNat := by rw [Int.mul_assoc]
    rw [e1, e2] at g
    rw [e3] at h
    have k1 : (Y * 2 ^ s.toNat) * 2 ^ bits.toNat < (7 * m + 2 ^ s.toNat) * 2 ^ bits.toNat := by
      rw [Int.add_mul]
      omega
    have k2 : -(Y * 2 ^ s.toNat) * 2 ^ bits.toNat < (7 * m + 2 ^ s.toNat) * 2 ^ bits.toNat := by
      rw [Int.add_mul, Int.neg_mul]
      omega
    exact ⟨Int.lt_of_mul_lt_mul_right k1 (Int.le_of_lt hp), Int.lt_of_mul_lt_mul_right k2 (Int.le_of_lt hp)⟩
/-- A part, grown. -/
def grown (m s y : Int) : Prop := y * 2 ^ s.toNat < 7 * m + 2 ^ s.toNat ∧ -(y * 2 ^ s.toNat) < 7 * m + 2 ^ s.toNat
theorem qV_grow {inv : Bool} {m bits s mode a0 b0 a1 b1 a2 b2 a3 b3 u1 v1 u2 v2 u3 v3 q : Int} (hm : 0 ≤ m) (hb : 0 ≤ bits) (hs : 0 ≤ s) (h0 : win m a0 b0) (h1 : win m a1 b1) (h2 : win m a2 b2) (h3 : win m a3 b3)
    (g1 : win (2 ^ bits.toNat) u1 v1) (g2 : win (2 ^ bits.toNat) u2 v2) (g3 : win (2 ^ bits.toNat) u3 v3) :
    grown m s (qV inv bits s mode a0 b0 a1 b1 a2 b2 a3 b3 u1 v1 u2 v2 u3 v3 q).1 ∧ grown m s (qV inv bits s mode a0 b0 a1 b1 a2 b2 a3 b3 u1 v1 u2 v2 u3 v3 q).2 := by
  have hp := pow_pos bits.toNat
  have hmp : 0 ≤ m * 2 ^ bits.toNat := Int.mul_nonneg hm (Int.le_of_lt hp)
  have w1 := times_bd hm h1 g1
  have w2 := times_bd hm h2 g2
  have w3 := times_bd hm h3 g3
  have w0 : win (m * 2 ^ bits.toNat) (a0 * 2 ^ bits.toNat) (b0 * 2 ^ bits.toNat) := by
    unfold win at *
    have k1 := mul_near (p := m) (q := 2 ^ bits.toNat) (a := a0) (b := 2 ^ bits.toNat) hm (by omega) (by omega)
    have k2 := mul_near (p := m) (q := 2 ^ bits.toNat) (a := b0) (b := 2 ^ bits.toNat) hm (by omega) (by omega)
    omega
  unfold qV grown
  refine ⟨rsh_grow hb hs ?_, rsh_grow hb hs ?_⟩
  · unfold qRe
    have k0 := tRe_near (n := 0) w0 hmp
    have k1 := tRe_near (n := if inv = true then q else 0 - q) w1 (by omega)
    have k2 := tRe_near (n := 2 * q) w2 (by omega)
    have k3 := tRe_near (n := 0 - if inv = true then q else 0 - q) w3 (by omega)
    generalize m * 2 ^ bits.toNat = M at *
    omega
  · unfold qIm
    have k0 := tIm_near (n := 0) w0 hmp
    have k1 := tIm_near (n := if inv = true then q else 0 - q) w1 (by omega)
    have k2 := tIm_near (n := 2 * q) w2 (by omega)
    have k3 := tIm_near (n := 0 - if inv = true then q else 0 - q) w3 (by omega)
    generalize m * 2 ^ bits.toNat = M at *
    omega
theorem root_win {bits : Int} {ws : List (Int × Int)} (inv : Bool) (hr : nears (2 ^ bits.toNat) ws) {k : Nat} (hk : k < ws.length) : win (2 ^ bits.toNat) (rootV ws inv k).1 (rootV ws inv k).2 := by
  have := near_get hr hk
  cases inv
  · exact this
  · show win (2 ^ bits.toNat) (ws.getD k (0, 0)).1 (-(ws.getD k (0, 0)).2)
    unfold win at *
    omega
section
variable (inv : Bool) (bits s mode : Int) (xs ws : List (Int × Int)) (H u : Nat)
theorem pT_grow (hH : 0 < H) (hu0 : 0 < u) (hn : xs.length = 4 * H * u) (h2 : (ws.length : Int) = xs.length) (hset : setP bits s mode) (hx : nears 2147483648 xs) (hr : nears (2 ^ bits.toNat) ws) {i : Nat} (hi : i < xs.length) :
    grown (gm xs xs.length) s (pT inv bits s mode xs ws H u i).1 ∧ grown (gm xs xs.length) s (pT inv bits s mode xs ws H u i).2 := by
  have hdm := Nat.div_add_mod i (4 * H)
  have hmod := Nat.mod_lt i (show 0 < 4 * H by omega)
  have hgu : 4 * H * (i / (4 * H)) + 4 * H ≤ xs.length := by
    have h1 : i / (4 * H) < u := Nat.div_lt_of_lt_mul (by omega)
    have h2 : 4 * H * (i / (4 * H) + 1) ≤ 4 * H * u := Nat.mul_le_mul_left _ h1
    rw [Nat.mul_add, Nat.mul_one] at h2
    omega
  have hj := Nat.mod_lt (i - 4 * H * (i / (4 * H))) hH
  unfold pT bT bq
  generalize 4 * H * (i / (4 * H)) = g at *
  generalize (i - g) % H = j at *
  have hju : ∀ a, a < 4 → a * j * u < ws.length := fun a ha => by
    have : a * j * u ≤ 3 * (H - 1) * u := Nat.mul_le_mul_right _ (Nat.mul_le_mul (by omega) (by omega))
    have h3 : 3 * (H - 1) * u < 4 * H * u := Nat.mul_lt_mul_of_pos_right (by omega) hu0
    omega
  have u1 : j * u < ws.length := by have := hju 1 (by decide); rwa [Nat.one_mul] at this
  exact qV_grow (gm_bd hx _ (Nat.le_refl _)).1 hset.1.1 hset.2.1.1 (gm_le _ _ (by omega)) (gm_le _ _ (by omega)) (gm_le _ _ (by omega)) (gm_le _ _ (by omega)) (root_win inv hr u1) (root_win inv hr (hju 2 (by decide))) (root_win inv hr (hju 3 (by decide)))
end
/-- What is rounded, of a sum of not more than 3 parts. -/
theorem rsh_grow3 {S m bits s mode : Int} (hb : 0 ≤ bits) (hs : 0 ≤ s) (h : -(3 * (m * 2 ^ bits.toNat)) ≤ S ∧ S ≤ 3 * (m * 2 ^ bits.toNat)) : rsh S (bits + s) mode * 2 ^ s.toNat < 3 * m + 2 ^ s.toNat ∧ -(rsh S (bits + s) mode * 2 ^ s.toNat) < 3 * m + 2 ^ s.toNat := by
  by_cases h0 : bits + s = 0
  · have e1 : bits = 0 := by omega
    have e2 : s = 0 := by omega
    subst e1 e2
    simp only [Int.add_zero, rsh_z, Int.toNat_zero, Int.pow_zero, Int.mul_one] at *
    omega
  · have g := (rsh_near' S (bits + s) mode).resolve_right h0
    generalize rsh S (bits + s) mode = Y at *
    have e : (bits + s).toNat = bits.toNat + s.toNat := by omega
    rw [e, Int.pow_add] at g
    have hp := pow_pos bits.toNat
    have e1 : Y * (2 ^ bits.toNat * 2 ^ s.toNat) = (Y * 2 ^ s.toNat) * 2 ^ bits.toNat := by rw [Int.mul_assoc, Int.mul_comm (2 ^ s.toNat)]
    have e2 : (2 : Int) ^ bits.toNat * 2 ^ s.toNat = 2 ^ s.toNat * 2 ^ bits.toNat := Int.mul_comm _ _
    have e3 : 3 * (m * 2 ^ bits.toNat) = (3 * m) * 2 ^ bits.toNat := by rw [Int.mul_assoc]
    rw [e1, e2] at g
    rw [e3] at h
    have k1 : (Y * 2 ^ s.toNat) * 2 ^ bits.toNat < (3 * m + 2 ^ s.toNat) * 2 ^ bits.toNat := by
      rw [Int.add_mul]
      omega
    have k2 : -(Y * 2 ^ s.toNat) * 2 ^ bits.toNat < (3 * m + 2 ^ s.toNat) * 2 ^ bits.toNat := by
      rw [Int.add_mul, Int.neg_mul]
      omega
    exact ⟨Int.lt_of_mul_lt_mul_right k1 (Int.le_of_lt hp), Int.lt_of_mul_lt_mul_right k2 (Int.le_of_lt hp)⟩
/-- A part, grown. -/
def grown3 (m s y : Int) : Prop := y * 2 ^ s.toNat < 3 * m + 2 ^ s.toNat ∧ -(y * 2 ^ s.toNat) < 3 * m + 2 ^ s.toNat
theorem tUD_grow {m bits s mode : Int} {a b w : Int × Int} (hm : 0 ≤ m) (hb : 0 ≤ bits) (hs : 0 ≤ s) (h0 : win m a.1 a.2) (h1 : win m b.1 b.2) (g : win (2 ^ bits.toNat) w.1 w.2) :
    (grown3 m s (tU bits s mode a b w).1 ∧ grown3 m s (tU bits s mode a b w).2) ∧ grown3 m s (tD bits s mode a b w).1 ∧ grown3 m s (tD bits s mode a b w).2 := by
  have hp := pow_pos bits.toNat
  have w1 := times_bd hm h1 g
  have w0 : win (m * 2 ^ bits.toNat) (a.1 * 2 ^ bits.toNat) (a.2 * 2 ^ bits.toNat) := by
    unfold win at *
    have k1 := mul_near (p := m) (q := 2 ^ bits.toNat) (a := a.1) (b := 2 ^ bits.toNat) hm (by omega) (by omega)
    have k2 := mul_near (p := m) (q := 2 ^ bits.toNat) (a := a.2) (b := 2 ^ bits.toNat) hm (by omega) (by omega)
    omega
  unfold win at w0 w1
  generalize hM : m * 2 ^ bits.toNat = M at *
  unfold tU tD grown3
  refine ⟨⟨rsh_grow3 hb hs ?_, rsh_grow3 hb hs ?_⟩, rsh_grow3 hb hs ?_, rsh_grow3 hb hs ?_⟩
  all_goals rw [hM]; omega
theorem tV_grow (inv : Bool) (bits s mode : Int) (xs ws : List (Int × Int)) (H u : Nat) (hH : 0 < H) (hu0 : 0 < u) (hn : xs.length = 2 * H * u) (h2 : (ws.length : Int) = xs.length) (hset : setP bits s mode) (hx : nears 2147483648 xs) (hr : nears (2 ^ bits.toNat) ws) {i : Nat} (hi : i < xs.length) :
    grown3 (gm xs xs.length) s (tV inv bits s mode xs ws H u i).1 ∧ grown3 (gm xs xs.length) s (tV inv bits s mode xs ws H u i).2 := by
  have hj := Nat.mod_lt i hH
  have u1 : i % H * u < ws.length := by
    have h3 : i % H * u ≤ (H - 1) * u := Nat.mul_le_mul_right _ (by omega)
    have h4 : (H - 1) * u < 2 * H * u := Nat.mul_lt_mul_of_pos_right (by omega) hu0
    omega
  unfold tV
  rcases pair_in hH hn hi with ⟨hc, hin, _⟩ | ⟨hc, hin, _⟩
  · rw [if_pos hc]
    exact (tUD_grow (gm_bd hx _ (Nat.le_refl _)).1 hset.1.1 hset.2.1.1 (gm_le _ _ hi) (gm_le _ _ hin) (root_win' inv hr u1)).1
  · rw [if_neg (by omega)]
    exact (tUD_grow (gm_bd hx _ (Nat.le_refl _)).1 hset.1.1 hset.2.1.1 (gm_le _ _ (by omega)) (gm_le _ _ hi) (root_win' inv hr u1)).2

theorem tab_near {log : Nat} {bits : Int} (hl : log ≤ 6) (hb : 0 ≤ bits ∧ bits ≤ 40) : nears (2 ^ bits.toNat) (tabV log bits) := by
  intro x hx
  unfold tabV fillL at hx
  obtain ⟨k, hk, rfl⟩ := List.mem_map.1 hx
  rw [List.mem_range] at hk
  rw [if_pos hk]
  exact rW_le log k bits hl hb
/-! A pass shifted as needed: what comes are mantissas. -/
theorem t2V_mem {inv : Bool} {bits s mode : Int} {xs ws : List (Int × Int)} {H u : Nat} {y : Int × Int} (h : y ∈ t2V inv bits s mode xs ws H u) : ∃ i, i < xs.length ∧ y = tV inv bits s mode xs ws H u i := by
  unfold t2V mix at h
  simp only [List.mem_map, List.mem_range, if_true] at h
  obtain ⟨i, hi, e⟩ := h
  exact ⟨i, hi, e.symm⟩
theorem pV_mem {inv : Bool} {bits s mode : Int} {xs ws : List (Int × Int)} {H u : Nat} {y : Int × Int} (h : y ∈ pV inv bits s mode xs ws H u) : ∃ i, i < xs.length ∧ y = pT inv bits s mode xs ws H u i := by
  unfold pV mix at h
  simp only [List.mem_map, List.mem_range, if_true] at h
  obtain ⟨i, hi, e⟩ := h
  exact ⟨i, hi, e.symm⟩
/-- All parts are mantissas. -/
def mants (f : Int) (xs : List (Int × Int)) : Prop := ∀ x ∈ xs, mant f x.1 ∧ mant f x.2
theorem gm_in {M : Int} {xs : List (Int × Int)} (hM : 0 ≤ M) (hx : nears M xs) : ∀ i, i ≤ xs.length → gm xs i ≤ M
  | 0, _ => by simpa [gm] using hM
  | i + 1, h => by
    have h1 := gm_in hM hx i (by omega)
    have h2 := near_at hx (show i < xs.length by omega)
    unfold win at h2
    show mx3 _ _ _ ≤ M
    unfold mx3
    omega
theorem mant_pre2 {f m y : Int} (hf : fmt f) (h0 : 0 ≤ m) (hm : m ≤ fM f) (h : grown3 m (preV 2 f m) y) : mant f y := by
  have hv : preV 2 f m = if m ≤ fM f / 4 then 0 else if m ≤ fM f / 2 then 1 else 2 := by unfold preV; rw [if_neg (by decide)]
  rw [hv] at h
  unfold grown3 at h
  unfold mant
  have e : fM f = 32768 ∨ fM f = 2147483648 := by rcases hf with rfl | rfl <;> simp [fM]
  rcases e with e | e
  all_goals
    rw [e] at h hm ⊢
    split at h
    · simp only [Int.toNat_zero, Int.pow_zero, Int.mul_one] at h; omega
    · split at h
      · rw [show ((2 : Int) ^ (1 : Int).toNat) = 2 from rfl] at h; omega
      · rw [show ((2 : Int) ^ (2 : Int).toNat) = 4 from rfl] at h; omega
theorem mant_pre4 {f m y : Int} (hf : fmt f) (h0 : 0 ≤ m) (hm : m ≤ fM f) (h : grown m (preV 4 f m) y) : mant f y := by
  have hv : preV 4 f m = if m ≤ fM f / 8 then 0 else if m ≤ fM f / 4 then 1 else if m ≤ fM f / 2 then 2 else 3 := by unfold preV; rw [if_pos rfl]
  rw [hv] at h
  unfold grown at h
  unfold mant
  have e : fM f = 32768 ∨ fM f = 2147483648 := by rcases hf with rfl | rfl <;> simp [fM]
  rcases e with e | e
  all_goals
    rw [e] at h hm ⊢
    split at h
    · simp only [Int.toNat_zero, Int.pow_zero, Int.mul_one] at h; omega
    · split at h
      · rw [show ((2 : Int) ^ (1 : Int).toNat) = 2 from rfl] at h; omega
      · split at h
        · rw [show ((2 : Int) ^ (2 : Int).toNat) = 4 from rfl] at h; omega
        · rw [show ((2 : Int) ^ (3 : Int).toNat) = 8 from rfl] at h; omega
/-! A pass that halves: norms. -/
theorem tUD_nrm {B mode P R : Int} {a b w : Int × Int} (hB : 0 ≤ B) (hP : (2 : Int) ^ B.toNat = P) (ha : nrm a ≤ R * R) (hb : nrm b ≤ R * R) (hw : nrm w ≤ (P + 3) * (P + 3)) (hR0 : 0 ≤ R) (hR : R ≤ 4 * P) : nrm (tU B 1 mode a b w) ≤ (R + 8) * (R + 8) ∧ nrm (tD B 1 mode a b w) ≤ (R + 8) * (R + 8) := by
  have hp : 1 ≤ P := by rw [← hP]; exact pow_pos _
  have e2 : (2 : Int) ^ (B + 1).toNat = 2 * P := by rw [← hP, show (B + 1).toNat = B.toNat + 1 by omega, Int.pow_succ]; omega
  have hRP : 0 ≤ R * (P + 3) := Int.mul_nonneg hR0 (by omega)
  have hRP2 : 0 ≤ R * P := Int.mul_nonneg hR0 (by omega)
  have h1 : nrm (a.1 * P, a.2 * P) ≤ (R * P) * (R * P) := by
    have := nrm_scale P a
    rw [Int.mul_comm a.1, Int.mul_comm a.2, this]
    have h2 : P * P * nrm a ≤ P * P * (R * R) := Int.mul_le_mul_of_nonneg_left ha (sqn _)
    have e : P * P * (R * R) = (R * P) * (R * P) := by grind
    omega
  have h3 : nrm (cmul b w) ≤ (R * (P + 3)) * (R * (P + 3)) := by
    rw [nrm_mul]
    have h1 : nrm b * nrm w ≤ R * R * nrm w := Int.mul_le_mul_of_nonneg_right hb (nrm_nn w)
    have h2 : R * R * nrm w ≤ R * R * ((P + 3) * (P + 3)) := Int.mul_le_mul_of_nonneg_left hw (sqn R)
    have e : R * R * ((P + 3) * (P + 3)) = (R * (P + 3)) * (R * (P + 3)) := by grind
    omega
  have e3 : 2 * P * (R + 8) = 2 * (R * P) + 16 * P := by grind
  have e4 : R * (P + 3) = R * P + 3 * R := by grind
  have hX : R * P + R * (P + 3) + 2 * (2 : Int) ^ (B + 1).toNat ≤ (2 : Int) ^ (B + 1).toNat * (R + 8) := by rw [e2, e3, e4]; omega
  unfold tU tD
  rw [hP]
  exact ⟨nrm_rsh (x := (a.1 * P + (cmul b w).1, a.2 * P + (cmul b w).2)) (by omega) (nrm_add h1 h3 hRP2 hRP) (by omega) (by omega) hX,
    nrm_rsh (x := (a.1 * P - (cmul b w).1, a.2 * P - (cmul b w).2)) (by omega) (nrm_sub h1 h3 hRP2 hRP) (by omega) (by omega) hX⟩
theorem qV_nrm {inv : Bool} {B mode P R q : Int} {a b c d u v w : Int × Int} (hB : 0 ≤ B) (hP : (2 : Int) ^ B.toNat = P) (ha : nrm a ≤ R * R) (hb : nrm b ≤ R * R) (hc : nrm c ≤ R * R) (hd : nrm d ≤ R * R) (hu : nrm u ≤ (P + 3) * (P + 3)) (hv : nrm v ≤ (P + 3) * (P + 3)) (hw : nrm w ≤ (P + 3) * (P + 3)) (hR0 : 0 ≤ R) (hR : R ≤ 4 * P) :
    nrm (qV inv B 2 mode a.1 a.2 b.1 b.2 c.1 c.2 d.1 d.2 u.1 u.2 v.1 v.2 w.1 w.2 q) ≤ (R + 16) * (R + 16) := by
  have hp : 1 ≤ P := by rw [← hP]; exact pow_pos _
  have e2 : (2 : Int) ^ (B + 2).toNat = 4 * P := by rw [← hP, show (B + 2).toNat = B.toNat + 1 + 1 by omega, Int.pow_succ, Int.pow_succ]; omega
  have hRP : 0 ≤ R * (P + 3) := Int.mul_nonneg hR0 (by omega)
  have hRP2 : 0 ≤ R * P := Int.mul_nonneg hR0 (by omega)
  have h1 : nrm (a.1 * P, a.2 * P) ≤ (R * P) * (R * P) := by
    have := nrm_scale P a
    rw [Int.mul_comm a.1, Int.mul_comm a.2, this]
    have h2 : P * P * nrm a ≤ P * P * (R * R) := Int.mul_le_mul_of_nonneg_left ha (sqn _)
    have e : P * P * (R * R) = (R * P) * (R * P) := by grind
    omega
  have prod : ∀ {y w : Int × Int}, nrm y ≤ R * R → nrm w ≤ (P + 3) * (P + 3) → nrm (cmul y w) ≤ (R * (P + 3)) * (R * (P + 3)) := by
    intro y w hy hw
    rw [nrm_mul]
    have h1 : nrm y * nrm w ≤ R * R * nrm w := Int.mul_le_mul_of_nonneg_right hy (nrm_nn w)
    have h2 : R * R * nrm w ≤ R * R * ((P + 3) * (P + 3)) := Int.mul_le_mul_of_nonneg_left hw (sqn R)
    have e : R * R * ((P + 3) * (P + 3)) = (R * (P + 3)) * (R * (P + 3)) := by grind
    omega
  have p1 := prod hb hu
  have p2 := prod hc hv
  have p3 := prod hd hw
  have t0 : nrm (tRe (a.1 * P) (a.2 * P) 0, tIm (a.1 * P) (a.2 * P) 0) ≤ (R * P) * (R * P) := by rw [nrm_turn (a.1 * P, a.2 * P)]; exact h1
  have t1 : nrm (tRe (cmul b u).1 (cmul b u).2 (if inv = true then q else 0 - q), tIm (cmul b u).1 (cmul b u).2 (if inv = true then q else 0 - q)) ≤ (R * (P + 3)) * (R * (P + 3)) := by rw [nrm_turn]; exact p1
  have t2 : nrm (tRe (cmul c v).1 (cmul c v).2 (2 * q), tIm (cmul c v).1 (cmul c v).2 (2 * q)) ≤ (R * (P + 3)) * (R * (P + 3)) := by rw [nrm_turn]; exact p2
  have t3 : nrm (tRe (cmul d w).1 (cmul d w).2 (0 - if inv = true then q else 0 - q), tIm (cmul d w).1 (cmul d w).2 (0 - if inv = true then q else 0 - q)) ≤ (R * (P + 3)) * (R * (P + 3)) := by rw [nrm_turn]; exact p3
  have s1 := nrm_add t0 t1 hRP2 hRP
  have s2 := nrm_add s1 t2 (by omega) hRP
  have s3 := nrm_add s2 t3 (by omega) hRP
  have e3 : 4 * P * (R + 16) = 4 * (R * P) + 64 * P := by grind
  have e4 : R * (P + 3) = R * P + 3 * R := by grind
  unfold qV qRe qIm
  rw [hP]
  refine nrm_rsh (x := (tRe (a.1 * P) (a.2 * P) 0 + tRe (cmul b u).1 (cmul b u).2 (if inv = true then q else 0 - q) + tRe (cmul c v).1 (cmul c v).2 (2 * q) + tRe (cmul d w).1 (cmul d w).2 (0 - if inv = true then q else 0 - q), tIm (a.1 * P) (a.2 * P) 0 + tIm (cmul b u).1 (cmul b u).2 (if inv = true then q else 0 - q) + tIm (cmul c v).1 (cmul c v).2 (2 * q) + tIm (cmul d w).1 (cmul d w).2 (0 - if inv = true then q else 0 - q))) (by omega) s3 (by omega) (by omega) ?_
  rw [e2, e3, e4]
  omega
theorem tab_nrm {log : Nat} {B P : Int} (hl : log ≤ 6) (hB : 0 ≤ B ∧ B ≤ 40) (hP : (2 : Int) ^ B.toNat = P) (k : Nat) : nrm ((tabV log B).getD k (0, 0)) ≤ (P + 3) * (P + 3) := by
  have hp : 1 ≤ P := by rw [← hP]; exact pow_pos _
  by_cases hk : k < 2 ^ log
  · rw [tabS_get hk, ← hP]
    exact rW_nrm log k B hl hB
  · rw [List.getD_eq_getElem?_getD, List.getElem?_eq_none (by rw [tabS_len]; omega)]
    exact sqn (P + 3)
theorem t2V_nrm {inv : Bool} {B mode P R : Int} {xs ws : List (Int × Int)} {H u : Nat} (hB : 0 ≤ B) (hP : (2 : Int) ^ B.toNat = P) (hx : ∀ x ∈ xs, nrm x ≤ R * R) (hw : ∀ k, nrm (ws.getD k (0, 0)) ≤ (P + 3) * (P + 3)) (hR0 : 0 ≤ R) (hR : R ≤ 4 * P) : ∀ y ∈ t2V inv B 1 mode xs ws H u, nrm y ≤ (R + 8) * (R + 8) := by
  intro y hy
  obtain ⟨i, hi, rfl⟩ := t2V_mem hy
  unfold tV
  have g := getD_nrm hx hR0
  have r : ∀ k, nrm (rootV ws inv k) ≤ (P + 3) * (P + 3) := fun k => by rw [rootV_nrm]; exact hw k
  split
  · exact (tUD_nrm hB hP (g _) (g _) (r _) hR0 hR).1
  · exact (tUD_nrm hB hP (g _) (g _) (r _) hR0 hR).2
theorem pV_nrm {inv : Bool} {B mode P R : Int} {xs ws : List (Int × Int)} {H u : Nat} (hB : 0 ≤ B) (hP : (2 : Int) ^ B.toNat = P) (hx : ∀ x ∈ xs, nrm x ≤ R * R) (hw : ∀ k, nrm (ws.getD k (0, 0)) ≤ (P + 3) * (P + 3)) (hR0 : 0 ≤ R) (hR : R ≤ 4 * P) : ∀ y ∈ pV inv B 2 mode xs ws H u, nrm y ≤ (R + 16) * (R + 16) := by
  intro y hy
  obtain ⟨i, hi, rfl⟩ := pV_mem hy
  unfold pT bT bq
  have g := getD_nrm hx hR0
  have r : ∀ k, nrm (rootV ws inv k) ≤ (P + 3) * (P + 3) := fun k => by rw [rootV_nrm]; exact hw k
  exact qV_nrm hB hP (g _) (g _) (g _) (g _) (r _) (r _) (r _) hR0 hR
end Go.Proofs.YtnnjjblgilibgaaGreatV

import Derived.Test.YtnnjjblgilibgaaGreatVtV
/- FftScales answers true. -/
namespace Go.Proofs.YtnnjjblgilibgaaGreatV
open Go Go.RowKit
set_option linter.unusedVariables false
set_option linter.unusedSimpArgs false
set_option maxRecDepth 100000
set_option maxHeartbeats 40000000
theorem rN_is {m H : Int} : ∀ {n r : Nat}, r ≤ n → (r = 0 ∨ m * 2 ^ r ≤ H) → (∀ t, r < t → t ≤ n → ¬ m * 2 ^ t ≤ H) → rN m H n = r := by
  intro n r hr h1 h2
  rcases Nat.lt_trichotomy (rN m H n) r with h | h | h
  · rcases h1 with h1 | h1
    · omega
    · exact absurd h1 (rN_out m H n r h hr)
  · exact h
  · exact absurd (rN_in m H n (by omega)) (h2 _ h (rN_le m H n))
theorem rm_scale {f m : Int} (hf : fmt f) (hm : 0 < m) {s : Nat} (hs : (s : Int) ≤ rmV f m) : rmV f (m * 2 ^ s) = rmV f m - s := by
  have hp : (0 : Int) < 2 ^ s := Int.pow_pos (by decide)
  have hms : 0 < m * 2 ^ s := Int.mul_pos hm hp
  have e1 : rmV f m = (rN m (hM f) 31 : Nat) := if_pos hm
  have e2 : rmV f (m * 2 ^ s) = (rN (m * 2 ^ s) (hM f) 31 : Nat) := if_pos hms
  rw [e1] at hs ⊢
  rw [e2]
  have h30 := rN_30 hf hm
  have hH : hM f ≤ 1073741824 := by rcases hf with rfl | rfl <;> decide
  have key := rN_is (m := m * 2 ^ s) (H := hM f) (n := 31) (r := rN m (hM f) 31 - s) (by omega) ?_ ?_
  · rw [key]
    omega
  · by_cases h0 : rN m (hM f) 31 - s = 0
    · exact .inl h0
    · right
      have := rN_in m (hM f) 31 (by omega)
      rw [Int.mul_assoc, ← Int.pow_add, show s + (rN m (hM f) 31 - s) = rN m (hM f) 31 by omega]
      exact this
  · intro t ht1 ht2 hle
    rw [Int.mul_assoc, ← Int.pow_add] at hle
    by_cases h31 : s + t ≤ 31
    · exact rN_out m (hM f) 31 (s + t) (by omega) h31 hle
    · have h1 := mul_p2 hm (show 31 ≤ s + t by omega)
      have h2 : m * 2 ^ 31 ≥ 1 * 2 ^ 31 := Int.mul_le_mul_of_nonneg_right hm (by decide)
      omega
/-- Numbers put up. -/
def upL (s : Nat) (xs : List (Int × Int)) : List (Int × Int) := xs.map fun p => (p.1 * 2 ^ s, p.2 * 2 ^ s)
theorem upL_len {s : Nat} {xs : List (Int × Int)} : (upL s xs).length = xs.length := by simp [upL]
theorem upL_at {s i : Nat} {xs : List (Int × Int)} : (upL s xs).getD i (0, 0) = ((xs.getD i (0, 0)).1 * 2 ^ s, (xs.getD i (0, 0)).2 * 2 ^ s) := by
  unfold upL
  rw [List.getD_eq_getElem?_getD, List.getD_eq_getElem?_getD, List.getElem?_map]
  cases xs[i]? <;> simp
theorem shT_up {s : Nat} {mode : Int} {xs : List (Int × Int)} : shL (-(s : Int)) mode xs = upL s xs := by
  unfold upL
  refine List.map_congr_left fun x hx => ?_
  unfold shV
  by_cases h : s = 0
  · subst h
    rw [if_pos (by decide), show (-((0 : Nat) : Int)) = 0 by decide, rsh_00, rsh_00]
    simp
  · rw [if_neg (by omega), show (- -(s : Int)).toNat = s by omega]
theorem up_up {s t : Nat} {xs : List (Int × Int)} : upL t (upL s xs) = upL (s + t) xs := by
  unfold upL
  rw [List.map_map]
  refine List.map_congr_left fun x hx => ?_
  simp only [Function.comp, Int.mul_assoc, ← Int.pow_add]
theorem mx3_up {m a b c : Int} (hc : 0 ≤ c) : mx3 (m * c) (a * c) (b * c) = mx3 m a b * c := by
  have key : ∀ x y : Int, max (x * c) (y * c) = max x y * c := fun x y => by
    rcases Int.le_total x y with h | h
    · rw [Int.max_eq_right h, Int.max_eq_right (Int.mul_le_mul_of_nonneg_right h hc)]
    · rw [Int.max_eq_left h, Int.max_eq_left (Int.mul_le_mul_of_nonneg_right h hc)]
  unfold mx3
  rw [← Int.neg_mul, ← Int.neg_mul, key, key, key, key]
theorem gm_up {s : Nat} {xs : List (Int × Int)} : ∀ i, gm (upL s xs) i = gm xs i * 2 ^ s
  | 0 => by simp [gm]
  | i + 1 => by
    show mx3 (gm (upL s xs) i) ((upL s xs).getD i (0, 0)).1 ((upL s xs).getD i (0, 0)).2 = mx3 (gm xs i) (xs.getD i (0, 0)).1 (xs.getD i (0, 0)).2 * 2 ^ s
    rw [gm_up i, upL_at]
    exact mx3_up (Int.pow_nonneg (by decide))
theorem flip_up {log s : Nat} {xs : List (Int × Int)} : flipL log (upL s xs) = upL s (flipL log xs) := by
  unfold flipL flipP
  conv => rhs; unfold upL
  rw [List.map_map]
  refine List.map_congr_left fun i hi => ?_
  rw [upL_at]
  rfl
theorem mants_up {f : Int} (hf : fmt f) {xs : List (Int × Int)} (h : mants f xs) (hm : 0 < gm xs xs.length) {s : Nat} (hs : (s : Int) ≤ rmV f (gm xs xs.length)) : mants f (upL s xs) := by
  have hg := good_first (f := f) (s := 1) (m := 0) hf (by decide) h
  have hw : ∀ x ∈ xs, win (gm xs xs.length) x.1 x.2 := nears_gm
  have e1 : rmV f (gm xs xs.length) = (rN (gm xs xs.length) (hM f) 31 : Nat) := if_pos hm
  rw [e1] at hs
  by_cases h0 : s = 0
  · subst h0
    have : upL 0 xs = xs := by
      unfold upL
      conv => rhs; rw [← List.map_id xs]
      refine List.map_congr_left fun x hx => ?_
      simp
    rw [this]
    exact h
  · have hin := rN_in (gm xs xs.length) (hM f) 31 (by omega)
    have hmon := mul_p2 hm (show s ≤ rN (gm xs xs.length) (hM f) 31 by omega)
    have hhM := hM_fM hf
    intro y hy
    unfold upL at hy
    obtain ⟨x, hx, rfl⟩ := List.mem_map.1 hy
    have hwx := hw x hx
    unfold win at hwx
    have hp : (0 : Int) ≤ 2 ^ s := Int.pow_nonneg (by omega)
    have k1 : x.1 * 2 ^ s ≤ gm xs xs.length * 2 ^ s := Int.mul_le_mul_of_nonneg_right hwx.1 hp
    have k2 : x.2 * 2 ^ s ≤ gm xs xs.length * 2 ^ s := Int.mul_le_mul_of_nonneg_right hwx.2.1 hp
    have k3 : -gm xs xs.length * 2 ^ s ≤ x.1 * 2 ^ s := Int.mul_le_mul_of_nonneg_right hwx.2.2.1 hp
    have k4 : -gm xs xs.length * 2 ^ s ≤ x.2 * 2 ^ s := Int.mul_le_mul_of_nonneg_right hwx.2.2.2 hp
    rw [Int.neg_mul] at k3 k4
    unfold mant
    dsimp only
    omega
/-- An exponent put off. -/
def addE (b : Blk) (d : Int) : Blk := ⟨b.xs, b.e + d, b.sat, b.sh⟩
theorem nx_add {f s m : Int} {log : Nat} {inv : Bool} {b : Blk} {d : Int} {p : Int × Int} : nxB f log s m inv (addE b d) p = addE (nxB f log s m inv b p) d := by
  unfold nxB addE
  dsimp only
  rw [show b.e + d + psV f s p.1 b.xs = b.e + psV f s p.1 b.xs + d by omega]
theorem ps_add {f s m : Int} {log : Nat} {inv : Bool} {d : Int} : ∀ (l : List (Int × Int)) (b : Blk), psB f log s m inv l (addE b d) = addE (psB f log s m inv l b) d
  | [], b => rfl
  | p :: l, b => by
    show psB f log s m inv l (nxB f log s m inv (addE b d) p) = addE (psB f log s m inv l (nxB f log s m inv b p)) d
    rw [nx_add, ps_add l]
theorem rn_up {f k m : Int} {inv : Bool} {log : Nat} (hp : pOk f log k 1 m) {xs : List (Int × Int)} (hx : xs.length = 2 ^ log) (h : mants f xs) (hm : 0 < gm xs xs.length) {s : Nat} (hs : (s : Int) ≤ rmV f (gm xs xs.length)) : rnB f log k 1 m inv (upL s xs) = addE (rnB f log k 1 m inv xs) s := by
  have hf := fmt_of hp
  have hl : 2 ≤ log ∧ log ≤ 6 := by have := hp.2.1; omega
  have hk2 : ¬ k = 2 := fun e => by have := hp.2.2.2.2.2 e; omega
  have h31 := fM_31 hf (mants_near h)
  have hfl := gm_flip hl hx h31
  have hlen : (upL s (flipL log xs)).length = (flipL log xs).length := upL_len
  have e : rdB f log k 1 m (upL s xs) = addE (rdB f log k 1 m xs) s := by
    unfold rdB plL
    rw [if_neg hk2, if_neg hk2, flip_up]
    have f1 : fsV f 1 (flipL log xs) = -rmV f (gm xs xs.length) := by
      show -rmV f (gm (flipL log xs) (flipL log xs).length) = _
      rw [hfl]
    have f2 : fsV f 1 (upL s (flipL log xs)) = -(rmV f (gm xs xs.length) - s) := by
      show -rmV f (gm (upL s (flipL log xs)) (upL s (flipL log xs)).length) = _
      rw [hlen, gm_up, hfl, rm_scale hf hm hs]
    rw [f1, f2]
    obtain ⟨r, hr⟩ : ∃ r : Nat, rmV f (gm xs xs.length) = r := ⟨_, if_pos hm⟩
    rw [hr] at hs ⊢
    have e1 : -((r : Int) - s) = -((r - s : Nat) : Int) := by omega
    rw [e1, shT_up, shT_up, up_up, show s + (r - s) = r by omega]
    unfold addE
    dsimp only
    rw [show -((r - s : Nat) : Int) = -(r : Int) + s by omega]
  unfold rnB
  rw [if_neg hk2, if_neg hk2, e, ps_add]
end Go.Proofs.YtnnjjblgilibgaaGreatV

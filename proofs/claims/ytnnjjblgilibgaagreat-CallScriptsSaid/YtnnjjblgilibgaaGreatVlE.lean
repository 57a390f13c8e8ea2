import Derived.Test.YtnnjjblgilibgaaGreatVlD
import Derived.Test.YtnnjjblgilibgaaGreatVgC
/- The split transform, asked: contracts; of equal numbers, and of one. -/
namespace Go.Proofs.YtnnjjblgilibgaaGreatV
open Go Go.RowKit
set_option linter.unusedVariables false
set_option linter.unusedSimpArgs false
set_option maxRecDepth 100000
set_option maxHeartbeats 40000000
theorem fine41 : Fine Tryz.prog 41 := fun _ _ => by kernel_rfl
theorem lens_logS {n : Nat} (h : lens n) : ∃ log : Nat, (2 ≤ log ∧ log ≤ 6) ∧ n = 2 ^ log ∧ lg n = log := by
  unfold lens at h
  have hn : n = 4 ∨ n = 8 ∨ n = 16 ∨ n = 32 ∨ n = 64 := by omega
  rcases hn with rfl | rfl | rfl | rfl | rfl
  · exact ⟨2, by decide, rfl, rfl⟩
  · exact ⟨3, by decide, rfl, rfl⟩
  · exact ⟨4, by decide, rfl, rfl⟩
  · exact ⟨5, by decide, rfl, rfl⟩
  · exact ⟨6, by decide, rfl, rfl⟩
theorem pow64S {log : Nat} (h : 2 ≤ log ∧ log ≤ 6) : 4 ≤ 2 ^ log ∧ 2 ^ log ≤ 64 := by
  have h1 : (2 : Nat) ^ log ≤ 2 ^ 6 := Nat.pow_le_pow_right (by decide) h.2
  have h2 : (2 : Nat) ^ 2 ≤ 2 ^ log := Nat.pow_le_pow_right (by decide) h.1
  omega
/-- Half of a format's 1. -/
abbrev halfM (f : Int) : Int := 2 ^ (fB f - 1).toNat
def whyL (xs : List (Int × Int)) (f mode : Int) : Int := if ¬ lens xs.length then 3 else if ¬ (fmt f ∧ 0 ≤ mode ∧ mode ≤ 2) then 1 else if ¬ (∀ x ∈ xs, win (halfM f) x.1 x.2) then 2 else 0
structure Split (xs : List (Int × Int)) (f mode : Int) (log : Nat) : Prop where
  hl : 2 ≤ log ∧ log ≤ 6
  len : xs.length = 2 ^ log
  lens : lens xs.length
  lg : lg xs.length = log
  hf : fmt f
  hm : 0 ≤ mode ∧ mode ≤ 2
  hx : ∀ x ∈ xs, win (halfM f) x.1 x.2
theorem why_or_l (xs : List (Int × Int)) (f mode : Int) : (whyL xs f mode = 0 ∧ ∃ log, Split xs f mode log) ∨ (whyL xs f mode = 3 ∧ ¬ lens xs.length) ∨ (whyL xs f mode = 1 ∧ lens xs.length ∧ ¬ (fmt f ∧ 0 ≤ mode ∧ mode ≤ 2)) ∨ (whyL xs f mode = 2 ∧ lens xs.length ∧ (fmt f ∧ 0 ≤ mode ∧ mode ≤ 2) ∧ ¬ (∀ x ∈ xs, win (halfM f) x.1 x.2)) := by
  unfold whyL
  by_cases h : lens xs.length
  · rw [if_neg (fun g => g h)]
    by_cases g : fmt f ∧ 0 ≤ mode ∧ mode ≤ 2
    · rw [if_neg (fun k => k g)]
      by_cases k : ∀ x ∈ xs, win (halfM f) x.1 x.2
      · rw [if_neg (fun q => q k)]
        obtain ⟨log, h1, h2, h3⟩ := lens_logS h
        exact .inl ⟨rfl, log, h1, h2, h, h3, g.1, g.2, k⟩
      · rw [if_pos k]
        exact .inr (.inr (.inr ⟨rfl, h, g, k⟩))
    · rw [if_pos g]
      exact .inr (.inr (.inl ⟨rfl, h, g⟩))
  · rw [if_pos h]
    exact .inr (.inl ⟨rfl, h⟩)
theorem fB_or (f : Int) : fB f = 15 ∨ fB f = 31 := by unfold fB; split <;> omega
/-- What bounds the numbers' sizes. -/
def r0S (f : Int) : Int := if f = 1 then 1518500250 else 23171
theorem r0_nn (f : Int) : 0 ≤ r0S f := by unfold r0S; split <;> omega
theorem r0_le (f : Int) : r0S f + 48 ≤ 4 * 2 ^ (fB f - 2).toNat := by
  unfold r0S fB
  split <;> decide
theorem r0_x {xs : List (Int × Int)} {f : Int} (h : ∀ x ∈ xs, win (halfM f) x.1 x.2) : ∀ x ∈ xs, nrm x ≤ r0S f * r0S f := by
  intro x hx
  have hw := h x hx
  have hp : 0 ≤ halfM f := Int.le_of_lt (pow_pos _)
  have h2 : 2 * (halfM f * halfM f) ≤ r0S f * r0S f := by
    unfold halfM r0S fB
    split <;> decide
  unfold win at hw
  have a1 : x.1 * x.1 ≤ halfM f * halfM f := by
    have b1 : 0 ≤ (halfM f - x.1) * (halfM f + x.1) := Int.mul_nonneg (by omega) (by omega)
    grind
  have a2 : x.2 * x.2 ≤ halfM f * halfM f := by
    have b1 : 0 ≤ (halfM f - x.2) * (halfM f + x.2) := Int.mul_nonneg (by omega) (by omega)
    grind
  unfold nrm
  omega
def splV (xs : List (Int × Int)) (f mode : Int) (inv : Bool) (log : Nat) : List (Int × Int) := runL (tabV log (fB f - 2)) inv (fB f - 2) mode log xs
theorem Run.ok (xs : List (Int × Int)) (f mode : Int) (inv : Bool) (log : Nat) (h : Split xs f mode log) : Ok Tryz.prog 41 [.sl 2 (cxRows xs), .int f, .int mode, .bool inv] (.tup [.sl 2 (cxRows (splV xs f mode inv log)), .int 0]) := by
  obtain ⟨hl, len, hlens, hlg, hf, hm, hx⟩ := h
  have hp := pow64S hl
  have hL := Log.ok xs.length hlens
  rw [hlg] at hL
  have hB := fB_or f
  have e1 : IntKind.i64.wrap (fB f - 2) = fB f - 2 := wr (by omega)
  have hC := contains.no 73 [.box [.int (fB f)] 0] (fun x => ¬ win (halfM f) x.1 x.2) xs (by omega) (fun _ => rfl) (fun _ => rfl) rfl (fun x _ => sRun1.ok x.1 x.2 (fB f) (by omega)) (fun x hx' => by simpa using hx x hx')
  refine ok_of (X := fun _ => []) (Z := fun _ => false) (res := [ResultVar.tmp 8, ResultVar.tmp 9]) tok follows Tryz.func41 rfl rfl fine41 (by kernel_rfl) (by kernel_rfl) ?_
  simp only [evA, evB, evT, evD, seval, cx_len]
  refine call_ok hL rfl ?_
  simp only [evA, evB, evT, evD, seval]
  refine call_ok (Bits.ok f hf) rfl ?_
  simp only [evA, evB, evT, evD, seval]
  refine call_ok (Shift.ok 0 0 mode (by decide) hm (by decide)) rfl ?_
  simp only [evA, evB, evT, evD, seval, cx_free]
  refine call_ok hC rfl ?_
  simp only [evA, evB, evT, evD, seval, cx_free]
  refine call_ok (Twiddles.ok log f hl hf) (by simp only [evA, evT, evD, seval, cx_free]) ?_
  simp only [evA, evB, evT, evD, seval, cx_free, e1]
  refine call_ok (sturns.ok inv) rfl ?_
  simp only [evA, evB, evT, evD, seval, cx_free, e1]
  refine call_ok (prun.ok log inv (fB f - 2) mode (r0S f) (by omega) hm hl (r0_nn f) (r0_le f) log (Nat.le_refl _) xs len (r0_x hx)) (by simp only [evA, evT, evD, seval, cx_free]) ?_
  simp only [evA, evB, evT, evD, seval, cx_free]
  rfl
theorem Run.bad3 (xs : List (Int × Int)) (f mode : Int) (inv : Bool) (h : ¬ lens xs.length) : Ok Tryz.prog 41 [.sl 2 (cxRows xs), .int f, .int mode, .bool inv] (.tup [.raw (.slice none 0 0), .int 3]) := by
  refine ok_of (X := fun _ => []) (Z := fun _ => false) (res := [ResultVar.tmp 8, ResultVar.tmp 9]) tok follows Tryz.func41 rfl rfl fine41 (by kernel_rfl) (by kernel_rfl) ?_
  simp only [evA, evB, evT, evD, seval, cx_len]
  refine call_ok (Log.bad xs.length h) rfl ?_
  simp only [evA, evB, evT, evD, seval]
theorem Run.bad1 (xs : List (Int × Int)) (f mode : Int) (inv : Bool) (h : lens xs.length) (hn : ¬ (fmt f ∧ 0 ≤ mode ∧ mode ≤ 2)) : Ok Tryz.prog 41 [.sl 2 (cxRows xs), .int f, .int mode, .bool inv] (.tup [.raw (.slice none 0 0), .int 1]) := by
  have hL := Log.ok xs.length h
  refine ok_of (X := fun _ => []) (Z := fun _ => false) (res := [ResultVar.tmp 8, ResultVar.tmp 9]) tok follows Tryz.func41 rfl rfl fine41 (by kernel_rfl) (by kernel_rfl) ?_
  simp only [evA, evB, evT, evD, seval, cx_len]
  refine call_ok hL rfl ?_
  simp only [evA, evB, evT, evD, seval]
  by_cases hf : fmt f
  · have hm : ¬ (0 ≤ mode ∧ mode ≤ 2) := fun hm => hn ⟨hf, hm⟩
    refine call_ok (Bits.ok f hf) rfl ?_
    simp only [evA, evB, evT, evD, seval]
    refine call_ok (Shift.bad 0 0 mode (fun g => hm g.2.2)) rfl ?_
    simp only [evA, evB, evT, evD, seval]
  · refine call_ok (Bits.bad f hf) rfl ?_
    simp only [evA, evB, evT, evD, seval]
    by_cases hm : 0 ≤ mode ∧ mode ≤ 2
    · refine call_ok (Shift.ok 0 0 mode (by decide) hm (by decide)) rfl ?_
      simp only [evA, evB, evT, evD, seval]
    · refine call_ok (Shift.bad 0 0 mode (fun g => hm g.2.2)) rfl ?_
      simp only [evA, evB, evT, evD, seval]
theorem Run.bad2 (xs : List (Int × Int)) (f mode : Int) (inv : Bool) (h : lens xs.length) (hfm : fmt f ∧ 0 ≤ mode ∧ mode ≤ 2) (hx : ¬ (∀ x ∈ xs, win (halfM f) x.1 x.2)) : Ok Tryz.prog 41 [.sl 2 (cxRows xs), .int f, .int mode, .bool inv] (.tup [.raw (.slice none 0 0), .int 2]) := by
  obtain ⟨hf, hm⟩ := hfm
  have hL := Log.ok xs.length h
  have hB := fB_or f
  have hl64 : xs.length ≤ 64 := by unfold lens at h; omega
  have hex : ∃ x ∈ xs, ¬ win (halfM f) x.1 x.2 := by
    rcases Classical.em (∃ x ∈ xs, ¬ win (halfM f) x.1 x.2) with g | g
    · exact g
    · refine absurd (fun x hx' => ?_) hx
      rcases Classical.em (win (halfM f) x.1 x.2) with k | k
      · exact k
      · exact absurd ⟨x, hx', k⟩ g
  have hC := contains.yes 73 [.box [.int (fB f)] 0] (fun x => ¬ win (halfM f) x.1 x.2) xs (by omega) (fun _ => rfl) (fun _ => rfl) rfl (fun x _ => sRun1.ok x.1 x.2 (fB f) (by omega)) hex
  refine ok_of (X := fun _ => []) (Z := fun _ => false) (res := [ResultVar.tmp 8, ResultVar.tmp 9]) tok follows Tryz.func41 rfl rfl fine41 (by kernel_rfl) (by kernel_rfl) ?_
  simp only [evA, evB, evT, evD, seval, cx_len]
  refine call_ok hL rfl ?_
  simp only [evA, evB, evT, evD, seval]
  refine call_ok (Bits.ok f hf) rfl ?_
  simp only [evA, evB, evT, evD, seval]
  refine call_ok (Shift.ok 0 0 mode (by decide) hm (by decide)) rfl ?_
  simp only [evA, evB, evT, evD, seval, cx_free]
  refine call_ok hC rfl ?_
  simp only [evA, evB, evT, evD, seval, cx_free]
/-! Of the same number, and of one. -/
theorem rsh_mul (x s how : Int) : rsh (x * 2 ^ s.toNat) s how = x := by
  have := rsh_btw (x := x * 2 ^ s.toNat) (s := s) (how := how) (Int.le_refl _) (Int.le_refl _)
  omega
theorem rsh_0 (s how : Int) : rsh 0 s how = 0 := by
  have := rsh_mul 0 s how
  rwa [Int.zero_mul] at this
theorem jOne_0 (B mode sign : Int) : jOne B mode sign (0, 0) (0, 0) = (0, 0) := by
  unfold jOne
  dsimp only
  rw [Int.zero_mul, Int.mul_zero]
  show (rsh 0 _ _, rsh 0 _ _) = _
  rw [rsh_0]
theorem cmul_0 (w : Int × Int) : cmul (0, 0) w = (0, 0) := by
  unfold cmul
  simp
theorem tRI_0 (t : Int) : tRe 0 0 t = 0 ∧ tIm 0 0 t = 0 := by
  unfold tRe tIm
  constructor <;> (split <;> (try split) <;> (try split) <;> rfl)
theorem jV_0 (t B mode : Int) (w w3 : Int × Int) (q : Nat) : jV t B mode (0, 0) (0, 0) (0, 0) (0, 0) w w3 q = (0, 0) := by
  have h1 : jSum (0, 0) (0, 0) w w3 = (0, 0) := by unfold jSum; rw [cmul_0, cmul_0]; rfl
  have h2 : jLess t (0, 0) (0, 0) w w3 = (0, 0) := by
    unfold jLess
    rw [cmul_0, cmul_0]
    dsimp only
    rw [(tRI_0 t).1, (tRI_0 t).2]
    rfl
  unfold jV
  rw [h1, h2]
  split <;> exact jOne_0 _ _ _
theorem evL_const (a : Int × Int) (fr by' n m : Nat) (h : ∀ j, j < n → fr + by' * j < m) : evL (List.replicate m a) fr by' n = List.replicate n a := by
  refine List.ext_getElem (by simp [evL]) fun i h1 h2 => ?_
  have hi : i < n := by simpa using h2
  simp only [evL, List.getElem_map, List.getElem_range, List.getElem_replicate]
  rw [List.getD_eq_getElem?_getD, List.getElem?_replicate, if_pos (h i hi)]
  rfl
/-- One number, the first. -/
def impL (a : Int × Int) (n : Nat) : List (Int × Int) := (List.range n).map fun p => if p = 0 then a else (0, 0)
theorem impL_len {a : Int × Int} {n : Nat} : (impL a n).length = n := by simp [impL]
theorem impL_get {a : Int × Int} {n i : Nat} (h : i < n) : (impL a n).getD i (0, 0) = if i = 0 then a else (0, 0) := by
  unfold impL
  rw [List.getD_eq_getElem?_getD, List.getElem?_map, List.getElem?_range h]
  rfl
theorem root_0 (log : Nat) (inv : Bool) (B : Int) (hB : 0 ≤ B ∧ B ≤ 29) : rootV (tabV log B) inv 0 = (2 ^ B.toNat, 0) := by
  unfold rootV
  rw [tabS_get (Nat.two_pow_pos log)]
  have : rW log ((0 : Nat) : Int) B = (2 ^ B.toNat, 0) := rW_one log B (by omega)
  rw [this]
  cases inv <;> rfl
theorem runL_const (log : Nat) (inv : Bool) (B mode : Int) (hB : 0 ≤ B ∧ B ≤ 29) (a : Int × Int) : ∀ j : Nat, runL (tabV log B) inv B mode j (List.replicate (2 ^ j) a) = impL a (2 ^ j)
  | 0 => rfl
  | 1 => by
    show [bf mode 1 a a, bf mode (-1) a a] = [a, (0, 0)]
    rw [bf_p, bf_m]
    have e1 : ∀ x : Int, rsh (x + x) 1 mode = x := fun x => by
      have := rsh_mul x 1 mode
      rwa [show x * 2 ^ (1 : Int).toNat = x + x by show x * 2 = _; omega] at this
    rw [e1, e1, Int.sub_self, Int.sub_self, rsh_0]
  | j + 2 => by
    have hh := Nat.two_pow_pos j
    have hj1 : (2 : Nat) ^ (j + 1) = 2 * 2 ^ j := by rw [Nat.pow_succ]; omega
    have hj2 : (2 : Nat) ^ (j + 2) = 4 * 2 ^ j := by rw [Nat.pow_succ, hj1]; omega
    rw [runL, evL_const a 0 2 (2 ^ (j + 1)) _ (fun i hi => by omega), evL_const a 1 4 (2 ^ j) _ (fun i hi => by omega), evL_const a 3 4 (2 ^ j) _ (fun i hi => by omega), runL_const log inv B mode hB a (j + 1), runL_const log inv B mode hB a j]
    unfold impL
    refine List.map_congr_left fun p hp => ?_
    rw [List.mem_range, hj2] at hp
    have hm : p % 2 ^ j < 2 ^ j := Nat.mod_lt _ hh
    have hq : p / 2 ^ j < 4 := Nat.div_lt_of_lt_mul (by rw [Nat.mul_comm]; exact hp)
    have hd := Nat.div_add_mod p (2 ^ j)
    have g1 := impL_get (a := a) (n := 2 ^ (j + 1)) (i := p % 2 ^ j) (by omega)
    have g2 := impL_get (a := a) (n := 2 ^ (j + 1)) (i := 2 ^ j + p % 2 ^ j) (by omega)
    have g3 := impL_get (a := a) (n := 2 ^ j) (i := p % 2 ^ j) hm
    rw [if_neg (by omega)] at g2
    unfold impL at g1 g2 g3
    unfold spV
    rw [g1, g2, g3]
    by_cases h0 : p % 2 ^ j = 0
    · rw [if_pos h0, h0, Nat.mul_zero, Nat.zero_mul, root_0 log inv B hB]
      have hp1 := pow_pos B.toNat
      have e1 : (2 : Int) ^ (B + 1).toNat = 2 * 2 ^ B.toNat := by rw [show (B + 1).toNat = B.toNat + 1 by omega, Int.pow_succ]; omega
      have e2 : (2 : Int) ^ (B + 2).toNat = 4 * 2 ^ B.toNat := by rw [show (B + 2).toNat = B.toNat + 1 + 1 by omega, Int.pow_succ, Int.pow_succ]; omega
      have c : cmul a (2 ^ B.toNat, 0) = (a.1 * 2 ^ B.toNat, a.2 * 2 ^ B.toNat) := by unfold cmul; simp
      have hs : jSum a a (2 ^ B.toNat, 0) (2 ^ B.toNat, 0) = (2 * (a.1 * 2 ^ B.toNat), 2 * (a.2 * 2 ^ B.toNat)) := by unfold jSum; rw [c]; dsimp only; congr 1 <;> omega
      have hls : jLess (tn inv) a a (2 ^ B.toNat, 0) (2 ^ B.toNat, 0) = (0, 0) := by unfold jLess; rw [Int.sub_self, Int.sub_self]
      generalize hqq : p / 2 ^ j = q at *
      have hcase : q = 0 ∨ q = 1 ∨ q = 2 ∨ q = 3 := by omega
      rcases hcase with rfl | rfl | rfl | rfl
      · rw [if_pos (by omega)]
        show jOne B mode 1 a (jSum a a _ _) = a
        rw [hs]
        unfold jOne
        dsimp only
        rw [e1]
        have f1 : ∀ x : Int, x * (2 * 2 ^ B.toNat) + 1 * (2 * (x * 2 ^ B.toNat)) = x * 2 ^ (B + 2).toNat := fun x => by rw [e2]; grind
        rw [f1, f1, rsh_mul, rsh_mul]
      · rw [if_neg (by omega)]
        show jOne B mode 1 (0, 0) (jLess _ a a _ _) = _
        rw [hls]
        exact jOne_0 _ _ _
      · rw [if_neg (by omega)]
        show jOne B mode (-1) a (jSum a a _ _) = _
        rw [hs]
        unfold jOne
        dsimp only
        rw [e1]
        have f1 : ∀ x : Int, x * (2 * 2 ^ B.toNat) + -1 * (2 * (x * 2 ^ B.toNat)) = 0 := fun x => by grind
        rw [f1, f1, rsh_0]
      · rw [if_neg (by omega)]
        show jOne B mode (-1) (0, 0) (jLess _ a a _ _) = _
        rw [hls]
        exact jOne_0 _ _ _
    · rw [if_neg h0, jV_0, if_neg (by intro e; rw [e] at h0; exact h0 (Nat.zero_mod _))]
end Go.Proofs.YtnnjjblgilibgaaGreatV

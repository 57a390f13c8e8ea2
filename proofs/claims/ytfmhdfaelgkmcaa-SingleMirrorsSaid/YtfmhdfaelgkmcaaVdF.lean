import Derived.Test.YtfmhdfaelgkmcaaVdE
/- Sums of bins. No program here. -/
namespace Go.Proofs.YtfmhdfaelgkmcaaV
open Go Go.RowKit
set_option linter.unusedVariables false
set_option linter.unusedSimpArgs false
set_option maxRecDepth 100000
set_option maxHeartbeats 40000000
def sumN (f : Nat → Int) : Nat → Int
  | 0 => 0
  | m + 1 => sumN f m + f m
theorem sumN_congr {f g : Nat → Int} : ∀ m, (∀ k, k < m → f k = g k) → sumN f m = sumN g m
  | 0, _ => rfl
  | m + 1, h => by
    rw [sumN, sumN, sumN_congr m (fun k hk => h k (by omega)), h m (by omega)]
theorem sumN_add (f g : Nat → Int) : ∀ m, sumN (fun k => f k + g k) m = sumN f m + sumN g m
  | 0 => rfl
  | m + 1 => by
    rw [sumN, sumN, sumN, sumN_add f g m]
    omega
theorem sumN_neg (f : Nat → Int) : ∀ m, sumN (fun k => -f k) m = -sumN f m
  | 0 => rfl
  | m + 1 => by
    rw [sumN, sumN, sumN_neg f m]
    omega
theorem sumN_mul (f : Nat → Int) (a : Int) : ∀ m, sumN (fun k => a * f k) m = a * sumN f m
  | 0 => by simp [sumN]
  | m + 1 => by
    rw [sumN, sumN, sumN_mul f a m, Int.mul_add]
theorem sumN_app (f : Nat → Int) (a : Nat) : ∀ b, sumN f (a + b) = sumN f a + sumN (fun k => f (a + k)) b
  | 0 => by simp [sumN]
  | b + 1 => by
    rw [← Nat.add_assoc, sumN, sumN, sumN_app f a b]
    omega
theorem sumN_swap (g : Nat → Nat → Int) (n : Nat) : ∀ m, sumN (fun k => sumN (fun j => g j k) n) m = sumN (fun j => sumN (fun k => g j k) m) n
  | 0 => by
    have : ∀ n, sumN (fun _ => 0) n = 0 := fun n => by
      induction n with
      | zero => rfl
      | succ n ih => rw [sumN, ih]; rfl
    rw [sumN]
    exact (this n).symm
  | m + 1 => by
    rw [sumN, sumN_swap g n m, ← sumN_add]
    rfl
theorem sumN_zero {f : Nat → Int} : ∀ m, (∀ k, k < m → f k = 0) → sumN f m = 0
  | 0, _ => rfl
  | m + 1, h => by
    rw [sumN, sumN_zero m (fun k hk => h k (by omega)), h m (by omega)]
    rfl
theorem sumN_first {f : Nat → Int} : ∀ m, 0 < m → (∀ k, 0 < k → k < m → f k = 0) → sumN f m = f 0
  | 1, _, _ => by simp [sumN]
  | m + 2, _, h => by
    rw [sumN, sumN_first (m + 1) (by omega) (fun k h1 h2 => h k h1 (by omega)), h (m + 1) (by omega) (by omega)]
    omega
/-- What turns its sign behind t has no sum. -/
theorem sumN_turn {f : Nat → Int} {t : Nat} (h : ∀ k, f (k + t) = -f k) : ∀ m, sumN f (2 * t * m) = 0
  | 0 => rfl
  | m + 1 => by
    have e : 2 * t * (m + 1) = 2 * t * m + (t + t) := by rw [Nat.mul_add]; omega
    rw [e, sumN_app, sumN_turn h m, sumN_app]
    have : sumN (fun k => f (2 * t * m + (t + k))) t = sumN (fun k => -f (2 * t * m + k)) t := by
      refine sumN_congr t fun k _ => ?_
      rw [show 2 * t * m + (t + k) = 2 * t * m + k + t by omega]
      exact h _
    rw [this, sumN_neg]
    omega
theorem rW_opp2 (log : Nat) (k bits m : Int) (hm : 4 * m = 2 ^ log) : rW log (k + 2 * m) bits = (-(rW log k bits).1, -(rW log k bits).2) := by
  rw [show k + 2 * m = k + m + m by omega, rW_quarter log (k + m) bits m hm, rW_quarter log k bits m hm]
  simp [tRe, tIm]
theorem rR_of {log : Nat} {k k' : Int} (h : k % 2 ^ log = k' % 2 ^ log) : rR log k = rR log k' := by
  unfold rR
  rw [h]
/-- Roots of an inverse's places: of the opposite ones. -/
def sg (inv : Bool) : Int := if inv = true then -1 else 1
theorem root_tab (log : Nat) (inv : Bool) (j : Nat) : rootV (tabV log 40) inv (j % 2 ^ log) = rW log (sg inv * (j : Int)) 40 := by
  have hp : 0 < 2 ^ log := Nat.two_pow_pos log
  have e : rW log ((j % 2 ^ log : Nat) : Int) 40 = rW log (j : Int) 40 := by
    refine rW_of (rR_of ?_)
    rw [Int.natCast_emod, Int.natCast_pow]
    exact Int.emod_emod_of_dvd _ (Int.dvd_refl _)
  unfold rootV sg
  rw [tab_get (Nat.mod_lt _ hp), e]
  cases inv
  · simp
  · simp only [if_true, Int.neg_mul, Int.one_mul]
    rw [rW_opp log j 40 (by decide)]
section
variable (xs : List (Int × Int)) (log : Nat) (inv : Bool)
def gRe (j k : Nat) : Int := (xs.getD j (0, 0)).1 * (rW log (sg inv * ((j * k : Nat) : Int)) 40).1 - (xs.getD j (0, 0)).2 * (rW log (sg inv * ((j * k : Nat) : Int)) 40).2
def gIm (j k : Nat) : Int := (xs.getD j (0, 0)).1 * (rW log (sg inv * ((j * k : Nat) : Int)) 40).2 + (xs.getD j (0, 0)).2 * (rW log (sg inv * ((j * k : Nat) : Int)) 40).1
theorem tS_sum (hl : xs.length = 2 ^ log) (k : Nat) : ∀ i, tS xs (tabV log 40) inv k i = (sumN (fun j => gRe xs log inv j k) i, sumN (fun j => gIm xs log inv j k) i)
  | 0 => rfl
  | i + 1 => by
    rw [tS, tS_sum hl k i, sumN, sumN, hl, root_tab]
    rfl
end
/-- Bins of one place. -/
theorem bin_same (xs : List (Int × Int)) (log : Nat) (inv inv' : Bool) (k k' : Nat) (hl : xs.length = 2 ^ log) (h : ∀ j : Nat, (sg inv * ((j * k : Nat) : Int)) % 2 ^ log = (sg inv' * ((j * k' : Nat) : Int)) % 2 ^ log) : binV xs (tabV log 40) inv k = binV xs (tabV log 40) inv' k' := by
  have e : ∀ i, tS xs (tabV log 40) inv k i = tS xs (tabV log 40) inv' k' i := fun i => by
    rw [tS_sum xs log inv hl k i, tS_sum xs log inv' hl k' i]
    have hr : ∀ j : Nat, rW log (sg inv * ((j * k : Nat) : Int)) 40 = rW log (sg inv' * ((j * k' : Nat) : Int)) 40 := fun j => rW_of (rR_of (h j))
    refine Prod.ext ?_ ?_
    · exact sumN_congr i fun j _ => by unfold gRe; rw [hr j]
    · exact sumN_congr i fun j _ => by unfold gIm; rw [hr j]
  unfold binV
  rw [e]
theorem bin_back (xs : List (Int × Int)) (log : Nat) (k : Int) (hl : xs.length = 2 ^ log) : binV xs (tabV log 40) true ((-k) % xs.length).toNat = binV xs (tabV log 40) false (k % xs.length).toNat := by
  have hp : 0 < 2 ^ log := Nat.two_pow_pos log
  have hpn : ((2 ^ log : Nat) : Int) = 2 ^ log := by rw [Int.natCast_pow]; rfl
  refine bin_same xs log true false _ _ hl fun j => ?_
  have h1 := Int.emod_nonneg (-k) (show (xs.length : Int) ≠ 0 by omega)
  have h2 := Int.emod_nonneg k (show (xs.length : Int) ≠ 0 by omega)
  have e1 : ((((-k) % xs.length).toNat : Nat) : Int) = (-k) % 2 ^ log := by rw [← hpn, ← hl]; omega
  have e2 : (((k % xs.length).toNat : Nat) : Int) = k % 2 ^ log := by rw [← hpn, ← hl]; omega
  rw [Int.natCast_mul, Int.natCast_mul, e1, e2]
  unfold sg
  simp only [if_true, Int.one_mul, Bool.false_eq_true, if_false]
  rw [← Int.mul_assoc, Int.mul_emod, Int.emod_emod_of_dvd _ (Int.dvd_refl _), ← Int.mul_emod, Int.mul_emod j, Int.emod_emod_of_dvd _ (Int.dvd_refl _), ← Int.mul_emod]
  congr 1
  rw [Int.mul_assoc, Int.mul_neg, Int.neg_mul, Int.one_mul, Int.neg_neg]
/-- The numbers' sum. -/
def sumX (xs : List (Int × Int)) : Nat → Int × Int
  | 0 => (0, 0)
  | i + 1 => ((sumX xs i).1 + (xs.getD i (0, 0)).1, (sumX xs i).2 + (xs.getD i (0, 0)).2)
theorem tS_one (xs : List (Int × Int)) (log : Nat) (inv : Bool) (hl : xs.length = 2 ^ log) : ∀ i, tS xs (tabV log 40) inv 0 i = ((sumX xs i).1 * 1099511627776, (sumX xs i).2 * 1099511627776)
  | 0 => rfl
  | i + 1 => by
    have h0 : rW log 0 40 = (1099511627776, 0) := rW_one log 40 (by decide)
    rw [tS, tS_one xs log inv hl i, Nat.mul_zero, hl, root_tab, Int.natCast_zero, Int.mul_zero, h0, sumX]
    simp only [Int.mul_zero, Int.add_mul, Int.sub_zero, Int.zero_add]
theorem bin_one (xs : List (Int × Int)) (log : Nat) (inv : Bool) (hl : xs.length = 2 ^ log) : binV xs (tabV log 40) inv 0 = ((sumX xs xs.length).1 * 256, (sumX xs xs.length).2 * 256) := by
  unfold binV
  rw [tS_one xs log inv hl]
  refine Prod.ext ?_ ?_ <;> simp only <;> omega
theorem place_tab : ((List.range 7).all fun log => decide (log < 2) || ((List.range (2 ^ log)).all fun i => decide (i = 0) || (List.range 33).any fun t => decide (0 < t) && decide (2 ^ log % (2 * t) = 0) && decide (i * t % 2 ^ log * 2 = 2 ^ log))) = true := by decide +kernel
theorem place_of {log i : Nat} (hl : 2 ≤ log ∧ log ≤ 6) (hi : 0 < i ∧ i < 2 ^ log) : ∃ t m, 2 ^ log = 2 * t * m ∧ i * t % 2 ^ log * 2 = 2 ^ log := by
  have h := List.all_eq_true.1 place_tab log (List.mem_range.2 (by omega))
  rw [Bool.or_eq_true] at h
  have h1 := h.resolve_left (fun g => by have := of_decide_eq_true g; omega)
  have h2 := List.all_eq_true.1 h1 i (List.mem_range.2 hi.2)
  rw [Bool.or_eq_true] at h2
  have h3 := h2.resolve_left (fun g => by have := of_decide_eq_true g; omega)
  obtain ⟨t, _, ht⟩ := List.any_eq_true.1 h3
  simp only [Bool.and_eq_true, decide_eq_true_eq] at ht
  obtain ⟨⟨h4, h5⟩, h6⟩ := ht
  obtain ⟨m, hm⟩ := Nat.dvd_of_mod_eq_zero h5
  exact ⟨t, m, hm, h6⟩
/-- All roots of a place together are none. -/
theorem roots_none (log : Nat) (inv : Bool) (i : Nat) (hl : 2 ≤ log ∧ log ≤ 6) (hi : 0 < i ∧ i < 2 ^ log) :
    sumN (fun k => (rW log (sg inv * ((i * k : Nat) : Int)) 40).1) (2 ^ log) = 0 ∧ sumN (fun k => (rW log (sg inv * ((i * k : Nat) : Int)) 40).2) (2 ^ log) = 0 := by
  obtain ⟨t, m, h1, h2⟩ := place_of hl hi
  obtain ⟨q, hq⟩ : ∃ q : Int, 4 * q = 2 ^ log := by
    obtain ⟨j, rfl⟩ : ∃ j, log = j + 2 := ⟨log - 2, by omega⟩
    exact ⟨2 ^ j, by rw [Int.pow_add, Int.mul_comm]; rfl⟩
  have hpn : ((2 ^ log : Nat) : Int) = 2 ^ log := by rw [Int.natCast_pow]; rfl
  have key : ∀ k : Nat, rW log (sg inv * ((i * (k + t) : Nat) : Int)) 40 = (-(rW log (sg inv * ((i * k : Nat) : Int)) 40).1, -(rW log (sg inv * ((i * k : Nat) : Int)) 40).2) := fun k => by
    rw [← rW_opp2 log _ 40 q hq]
    refine rW_of (rR_of ?_)
    have hd := Nat.div_add_mod (i * t) (2 ^ log)
    have hd' : ((i * t : Nat) : Int) = 2 ^ log * ((i * t / 2 ^ log : Nat) : Int) + 2 * q := by
      have : ((i * t : Nat) : Int) = ((2 ^ log * (i * t / 2 ^ log) + i * t % 2 ^ log : Nat) : Int) := by rw [hd]
      rw [this, Int.natCast_add, Int.natCast_mul, hpn]
      have : ((i * t % 2 ^ log : Nat) : Int) = 2 * q := by omega
      rw [this]
    rw [Nat.mul_add, Int.natCast_add, Int.mul_add, hd']
    generalize ((i * t / 2 ^ log : Nat) : Int) = c
    generalize hA : sg inv * ((i * k : Nat) : Int) = A
    unfold sg
    cases inv
    · simp only [Bool.false_eq_true, if_false, Int.one_mul]
      rw [show A + (2 ^ log * c + 2 * q) = A + 2 * q + 2 ^ log * c by omega, Int.add_mul_emod_self_left]
    · simp only [if_true]
      rw [show A + -1 * (2 ^ log * c + 2 * q) = A + 2 * q + 2 ^ log * (-c - 1) by rw [Int.mul_sub, Int.mul_neg]; omega, Int.add_mul_emod_self_left]
  constructor
  · rw [h1]
    exact sumN_turn (f := fun k => (rW log (sg inv * ((i * k : Nat) : Int)) 40).1) (fun k => by simp only [key]) m
  · rw [h1]
    exact sumN_turn (f := fun k => (rW log (sg inv * ((i * k : Nat) : Int)) 40).2) (fun k => by simp only [key]) m
theorem sumN_const (c : Int) : ∀ m : Nat, sumN (fun _ => c) m = (m : Int) * c
  | 0 => by simp [sumN]
  | m + 1 => by
    rw [sumN, sumN_const c m, Int.natCast_add, Int.add_mul]
    simp
/-- All sums together. -/
theorem all_sum (xs : List (Int × Int)) (log : Nat) (inv : Bool) (hlog : 2 ≤ log ∧ log ≤ 6) (hl : xs.length = 2 ^ log) :
    sumN (fun k => (tS xs (tabV log 40) inv k xs.length).1) xs.length = (xs.length : Int) * ((xs.getD 0 (0, 0)).1 * 1099511627776) ∧ sumN (fun k => (tS xs (tabV log 40) inv k xs.length).2) xs.length = (xs.length : Int) * ((xs.getD 0 (0, 0)).2 * 1099511627776) := by
  have h0 : rW log 0 40 = (1099511627776, 0) := rW_one log 40 (by decide)
  have hp := pow64 hlog
  have z : ∀ k : Nat, rW log (sg inv * ((0 * k : Nat) : Int)) 40 = (1099511627776, 0) := fun k => by
    rw [Nat.zero_mul, Int.natCast_zero, Int.mul_zero, h0]
  constructor
  · simp only [tS_sum xs log inv hl]
    rw [sumN_swap, sumN_first _ (by omega)]
    · rw [← sumN_const]
      refine sumN_congr _ fun k _ => ?_
      unfold gRe
      rw [z]
      simp
    · intro j h1 h2
      obtain ⟨r1, r2⟩ := roots_none log inv j hlog ⟨h1, by omega⟩
      have : (fun k => gRe xs log inv j k) = fun k => (xs.getD j (0, 0)).1 * (rW log (sg inv * ((j * k : Nat) : Int)) 40).1 + (-(xs.getD j (0, 0)).2) * (rW log (sg inv * ((j * k : Nat) : Int)) 40).2 := by
        funext k
        unfold gRe
        rw [Int.neg_mul]
        omega
      rw [this, sumN_add, sumN_mul, sumN_mul, hl, r1, r2]
      simp
  · simp only [tS_sum xs log inv hl]
    rw [sumN_swap, sumN_first _ (by omega)]
    · rw [← sumN_const]
      refine sumN_congr _ fun k _ => ?_
      unfold gIm
      rw [z]
      simp
    · intro j h1 h2
      obtain ⟨r1, r2⟩ := roots_none log inv j hlog ⟨h1, by omega⟩
      have : (fun k => gIm xs log inv j k) = fun k => (xs.getD j (0, 0)).1 * (rW log (sg inv * ((j * k : Nat) : Int)) 40).2 + (xs.getD j (0, 0)).2 * (rW log (sg inv * ((j * k : Nat) : Int)) 40).1 := rfl
      rw [this, sumN_add, sumN_mul, sumN_mul, hl, r1, r2]
      simp
theorem sum_floor (f : Nat → Int) : ∀ m : Nat, sumN (fun k => f k / 4294967296) m * 4294967296 ≤ sumN f m ∧ sumN f m ≤ sumN (fun k => f k / 4294967296) m * 4294967296 + m * 4294967295
  | 0 => by simp [sumN]
  | m + 1 => by
    have := sum_floor f m
    rw [sumN, sumN]
    omega
/-- All bins together. -/
theorem bins_sum (xs : List (Int × Int)) (log : Nat) (inv : Bool) (hlog : 2 ≤ log ∧ log ≤ 6) (hl : xs.length = 2 ^ log) :
    (-(xs.length : Int) ≤ sumN (fun k => (binV xs (tabV log 40) inv k).1) xs.length - xs.length * (xs.getD 0 (0, 0)).1 * 256 ∧ sumN (fun k => (binV xs (tabV log 40) inv k).1) xs.length - xs.length * (xs.getD 0 (0, 0)).1 * 256 ≤ 0) ∧
    (-(xs.length : Int) ≤ sumN (fun k => (binV xs (tabV log 40) inv k).2) xs.length - xs.length * (xs.getD 0 (0, 0)).2 * 256 ∧ sumN (fun k => (binV xs (tabV log 40) inv k).2) xs.length - xs.length * (xs.getD 0 (0, 0)).2 * 256 ≤ 0) := by
  obtain ⟨h1, h2⟩ := all_sum xs log inv hlog hl
  have f1 := sum_floor (fun k => (tS xs (tabV log 40) inv k xs.length).1) xs.length
  have f2 := sum_floor (fun k => (tS xs (tabV log 40) inv k xs.length).2) xs.length
  rw [h1, ← Int.mul_assoc] at f1
  rw [h2, ← Int.mul_assoc] at f2
  unfold binV
  simp only
  generalize (xs.length : Int) * (xs.getD 0 (0, 0)).1 = A at *
  generalize (xs.length : Int) * (xs.getD 0 (0, 0)).2 = B at *
  omega
end Go.Proofs.YtfmhdfaelgkmcaaV

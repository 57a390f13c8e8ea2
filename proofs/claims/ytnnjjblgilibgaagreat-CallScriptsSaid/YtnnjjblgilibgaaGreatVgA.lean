import Derived.Below
import Derived.WalkKit
import Derived.Test.YtnnjjblgilibgaaGreatProg
import Derived.Deep.Draws
import Derived.KernelRfl
import Derived.Deep.LoopGhost
import Derived.Deep.QuietTactic
import Derived.BigQuiet
import Derived.Deep.DeepCutAuto
import Derived.Deep.RegionHeld3
import Derived.Laws.Rows
import Derived.Deep.DeepFit
import Derived.Lib.Hide
import Derived.MapKept
import Derived.LoopN
import Derived.OwnWalk
import Derived.RangeFuncNested
import Derived.RangeFuncBound
import Derived.RangeFuncCalls
import Derived.RangeFuncLeaves
import Derived.RangeFuncFrom
import Derived.Shelf.Abstract
import Derived.Shelf.RegionOpen
import Derived.Shelf.RegionOpenPlain
import Derived.OwnWalkIn
import Derived.TacticsInMore
import Derived.LoopNIn
import Derived.LoopIn
import Derived.Sort.BigQuietIn
import Derived.Test.YtnnjjblgilibgaaGreatVcE
import Derived.Laws.CopyRow
/- Plain mathematics of shifts and of small numbers. -/
namespace Go.Proofs.YtnnjjblgilibgaaGreatV
open Go Go.RowKit
set_option linter.unusedVariables false
set_option linter.unusedSimpArgs false

theorem and_mask64 (i : Nat) (hi : i ≤ 62) (x : Int) : bits .and .i64 x (2 ^ i - 1) = x % 2 ^ i := by
  have hpos : 0 < 2 ^ i := Nat.two_pow_pos i
  have h63 : 2 ^ i ≤ 2 ^ 62 := Nat.pow_le_pow_right (by decide) hi
  have hc : ((2 : Int) ^ i - 1) = ((2 ^ i - 1 : Nat) : Int) := by
    rw [Int.natCast_sub hpos]; simp
  have hd : (2 ^ i : Int) ∣ 2 ^ 64 := ⟨2 ^ (64 - i), by rw [← Int.pow_add, Nat.add_sub_cancel' (by omega)]⟩
  have hx : 0 ≤ x % 2 ^ 64 := Int.emod_nonneg _ (by decide)
  have e : ((BitVec.ofInt 64 x &&& BitVec.ofInt 64 (2 ^ i - 1)).toNat : Int) = x % 2 ^ i := by
    rw [BitVec.toNat_and, BitVec.toNat_ofInt, hc, BitVec.ofInt_natCast, BitVec.toNat_ofNat, Nat.mod_eq_of_lt (by omega), Nat.and_two_pow_sub_one_eq_mod]
    rw [Int.natCast_emod, Int.toNat_of_nonneg (by simpa using hx)]
    have := Int.emod_emod_of_dvd x hd
    simpa using this
  have hp' : (0 : Int) < 2 ^ i := by exact_mod_cast hpos
  have hb0 : 0 ≤ x % 2 ^ i := Int.emod_nonneg _ (by omega)
  have hb1 : x % 2 ^ i < 2 ^ i := Int.emod_lt_of_pos _ hp'
  have h63' : (2 ^ i : Int) ≤ 2 ^ 62 := by exact_mod_cast h63
  show IntKind.i64.wrap ((BitVec.ofInt 64 x &&& BitVec.ofInt 64 (2 ^ i - 1)).toNat : Int) = x % 2 ^ i
  rw [e, IntKind.wrap_i64]
  omega
theorem and3_64 (x : Int) : bits .and .i64 x 3 = x % 4 := and_mask64 2 (by decide) x
theorem and1_64 (x : Int) : bits .and .i64 x 1 = x % 2 := and_mask64 1 (by decide) x
theorem pow_pos (n : Nat) : (0 : Int) < 2 ^ n := Int.pow_pos (by decide)
theorem pow_le {m n : Nat} (h : m ≤ n) : (2 : Int) ^ m ≤ 2 ^ n := by exact_mod_cast Nat.pow_le_pow_right (by decide : 0 < 2) h
theorem pow_le62 {n : Nat} (h : n ≤ 62) : (2 : Int) ^ n ≤ 4611686018427387904 := by
  have h2 := pow_le h
  have h3 : (2 : Int) ^ 62 = 4611686018427387904 := by decide
  omega
/-- In range, nothing wraps. -/
theorem wr {x : Int} (h : -9223372036854775808 ≤ x ∧ x < 9223372036854775808) : IntKind.i64.wrap x = x := by
  rw [IntKind.wrap_i64]
  omega
theorem pow_wr {n : Nat} (h : n ≤ 62) : IntKind.i64.wrap (2 ^ n) = 2 ^ n := wr (by have := pow_pos n; have := pow_le62 h; omega)
theorem pow_wr1 {n : Nat} (h : n ≤ 62) : IntKind.i64.wrap (2 ^ n - 1) = 2 ^ n - 1 := wr (by have := pow_pos n; have := pow_le62 h; omega)

/-- A number divided by a power of 2, rounded. -/
def goesUp (x : Int) (s : Nat) (how : Int) : Bool :=
  if how = 0 then false else if how = 1 then decide (2 ^ (s - 1) ≤ x % 2 ^ s)
  else decide (2 ^ (s - 1) < x % 2 ^ s) || (decide (x % 2 ^ s = 2 ^ (s - 1)) && decide ((x / 2 ^ s) % 2 = 1))
def rsh (x s how : Int) : Int := if s = 0 then x else if goesUp x s.toNat how = true then x / 2 ^ s.toNat + 1 else x / 2 ^ s.toNat
/-! What stands in the code of Shift. -/
theorem sh_min {s : Int} (h : 0 ≤ s ∧ s ≤ 62) : min s.toNat IntKind.i64.bits = s.toNat := by
  have : IntKind.i64.bits = 64 := rfl
  omega
theorem sh_min1 {s : Int} (h : 1 ≤ s ∧ s ≤ 62) : min (IntKind.i64.wrap (s - 1)).toNat IntKind.i64.bits = s.toNat - 1 := by
  have : IntKind.i64.bits = 64 := rfl
  rw [wr (by omega)]
  omega
theorem sh_p {n : Nat} (h : n ≤ 62) : IntKind.i64.wrap (1 * 2 ^ n) = 2 ^ n := by rw [Int.one_mul, pow_wr h]
theorem sh_div (x : Int) (n : Nat) : x.fdiv (2 ^ n) = x / 2 ^ n := Int.fdiv_eq_ediv_of_nonneg _ (Int.le_of_lt (pow_pos n))
theorem sh_bd {x : Int} {n : Nat} (h : -9223372036854775808 ≤ x ∧ x < 9223372036854775808) : -9223372036854775808 ≤ x / 2 ^ n ∧ x / 2 ^ n < 9223372036854775808 := by
  have hp := pow_pos n
  constructor
  · rw [Int.le_ediv_iff_mul_le hp]
    have : -9223372036854775808 * (2 : Int) ^ n ≤ -9223372036854775808 * 1 := Int.mul_le_mul_of_nonpos_left (by omega) (by omega)
    omega
  · by_cases hx : 0 ≤ x
    · have := Int.ediv_le_self (2 ^ n) hx
      omega
    · have := Int.ediv_neg_of_neg_of_pos (show x < 0 by omega) hp
      omega
theorem sh_up {x : Int} {n : Nat} (h : -9223372036854775808 ≤ x ∧ x < 9223372036854775808) (hn : 1 ≤ n) : IntKind.i64.wrap (x / 2 ^ n + 1) = x / 2 ^ n + 1 := by
  refine wr ?_
  have hp := pow_pos n
  have h2 : (2 : Int) ≤ 2 ^ n := by have := pow_le (m := 1) hn; simpa using this
  have h1 := (sh_bd (n := n) h).1
  have : x / 2 ^ n ≤ 4611686018427387904 := by
    have h3 : x / 2 ^ n < 4611686018427387904 + 1 := by
      rw [Int.ediv_lt_iff_lt_mul hp]
      have : (4611686018427387904 + 1) * (2 : Int) ≤ (4611686018427387904 + 1) * 2 ^ n := Int.mul_le_mul_of_nonneg_left h2 (by omega)
      omega
    omega
  omega
theorem rsh0 (x s : Int) : rsh x s 0 = x / 2 ^ s.toNat := by
  unfold rsh goesUp
  split
  · rename_i h; subst h; simp
  · simp
theorem rsh_z (x how : Int) : rsh x 0 how = x := by unfold rsh; rw [if_pos rfl]
theorem rsh_up {x s how : Int} (h : s ≠ 0) {b : Bool} (hb : goesUp x s.toNat how = b) : rsh x s how = if b = true then x / 2 ^ s.toNat + 1 else x / 2 ^ s.toNat := by
  unfold rsh
  rw [if_neg h, hb]
end Go.Proofs.YtnnjjblgilibgaaGreatV
/- Plain mathematics: what is rounded lies near. -/
namespace Go.Proofs.YtnnjjblgilibgaaGreatV
open Go Go.RowKit
set_option linter.unusedVariables false
set_option linter.unusedSimpArgs false
/-- What is rounded is not so far as a whole one. -/
theorem rsh_near' (x s how : Int) : -(2 ^ s.toNat) < rsh x s how * 2 ^ s.toNat - x ∧ rsh x s how * 2 ^ s.toNat - x < 2 ^ s.toNat ∨ s = 0 := by
  by_cases h0 : s = 0
  · exact .inr h0
  left
  have hp := pow_pos s.toNat
  have hd := Int.emod_add_mul_ediv x (2 ^ s.toNat)
  have hr0 := Int.emod_nonneg x (Int.ne_of_gt hp)
  have hr1 := Int.emod_lt_of_pos x hp
  rw [Int.mul_comm] at hd
  unfold rsh
  rw [if_neg h0]
  split
  · rename_i hup
    have hne : x % 2 ^ s.toNat ≠ 0 := by
      intro he
      unfold goesUp at hup
      have hp1 := pow_pos (s.toNat - 1)
      rw [he] at hup
      split at hup
      · cases hup
      · split at hup
        · simp at hup; omega
        · simp at hup; omega
    rw [Int.add_mul]
    omega
  · omega
/-- Between whole ones. -/
theorem rsh_btw {x s how a b : Int} (h1 : a * 2 ^ s.toNat ≤ x) (h2 : x ≤ b * 2 ^ s.toNat) : a ≤ rsh x s how ∧ rsh x s how ≤ b := by
  have hp := pow_pos s.toNat
  rcases rsh_near' x s how with h | rfl
  · constructor
    · have : a * 2 ^ s.toNat < (rsh x s how + 1) * 2 ^ s.toNat := by rw [Int.add_mul]; omega
      have := Int.lt_of_mul_lt_mul_right this (Int.le_of_lt hp)
      omega
    · have : rsh x s how * 2 ^ s.toNat < (b + 1) * 2 ^ s.toNat := by rw [Int.add_mul]; omega
      have := Int.lt_of_mul_lt_mul_right this (Int.le_of_lt hp)
      omega
  · rw [rsh_z]
    simp at h1 h2
    omega
end Go.Proofs.YtnnjjblgilibgaaGreatV
/- The terms of an angle's series, in order: a function that is gone through. -/
namespace Go.Proofs.YtnnjjblgilibgaaGreatV
open Go Go.RowKit
set_option linter.unusedSimpArgs false
set_option linter.unusedVariables false
def KeepsAt (p : Addr) (W W' : World) : Prop := ∀ v, W.cell? p = some v → W'.cell? p = some v
theorem KeepsAt.t {p : Addr} {A B C : World} (h : KeepsAt p A B) (k : KeepsAt p B C) : KeepsAt p A C := fun v hv => k v (h v hv)
theorem KeepsAt.b {b o : Nat} {w : World} (W : World) (l : Nat) (x x' : Obj) (_ : w.heap.size ≤ l) (h : W.heap[l]? = some x) (hc : x.isCells = false) (_ : x.isWalk = false) : KeepsAt ⟨b, o, none⟩ W (W.putObj l x') := fun v hv => Go.cell_kept hv (grownBy_putObj' W l x') (fun r e => by cases e; exact ⟨_, h, hc⟩)
/-- Row j's power. -/
def apow (n : Int) : Nat → Int
  | 0 => Int.tdiv 72057594037927936 n
  | k + 1 => Int.tdiv (Int.tdiv (apow n k) n) n
def asign : Nat → Int
  | 0 => 1
  | k + 1 => -asign k
def aterm (n : Int) (k : Nat) : Int := asign k * Int.tdiv (apow n k) (2 * (k : Int) + 1)
/-- How many terms there are. -/
def acount (n : Int) : Nat := ((List.range 40).takeWhile fun k => decide (0 < apow n k)).length
def atake (n : Int) (k : Nat) : List Int := (List.range k).map (aterm n)
def asumTo (n : Int) (k : Nat) : Int := (atake n k).foldl (fun s x => wrap64 (s + x)) 0
theorem atake_succ (n : Int) (k : Nat) : atake n (k + 1) = atake n k ++ [aterm n k] := by
  unfold atake
  rw [List.range_succ, List.map_append]
  rfl
theorem asumTo_succ (n : Int) (k : Nat) : asumTo n (k + 1) = wrap64 (asumTo n k + aterm n k) := by
  unfold asumTo
  rw [atake_succ, List.foldl_append]
  rfl
theorem apow_bd {n : Int} (hn : 2 ≤ n) (k : Nat) : 0 ≤ apow n k ∧ apow n k * 4 ^ k ≤ 36028797018963968 := by
  induction k with
  | zero =>
    rw [apow, Int.tdiv_eq_ediv_of_nonneg (by decide)]
    refine ⟨Int.ediv_nonneg (by decide) (by omega), ?_⟩
    rw [Int.pow_zero, Int.mul_one]
    exact Int.ediv_le_of_le_mul (by omega) (by have := Int.mul_le_mul_of_nonneg_left hn (show (0 : Int) ≤ 36028797018963968 by decide); omega)
  | succ k ih =>
    have h1 : 0 ≤ apow n k / n := Int.ediv_nonneg ih.1 (by omega)
    have h2 : 0 ≤ apow n k / n / n := Int.ediv_nonneg h1 (by omega)
    rw [apow, Int.tdiv_eq_ediv_of_nonneg ih.1, Int.tdiv_eq_ediv_of_nonneg h1]
    refine ⟨h2, ?_⟩
    have h3 : apow n k / n / n * 4 ≤ apow n k := by
      have a1 : apow n k / n * n ≤ apow n k := Int.ediv_mul_le _ (by omega)
      have a2 : apow n k / n / n * n ≤ apow n k / n := Int.ediv_mul_le _ (by omega)
      have a3 := Int.mul_le_mul_of_nonneg_left hn h1
      have a4 := Int.mul_le_mul_of_nonneg_left hn h2
      omega
    have h4 : (0 : Int) ≤ 4 ^ k := Int.pow_nonneg (by decide)
    have h5 := Int.mul_le_mul_of_nonneg_right h3 h4
    rw [Int.pow_succ, Int.mul_comm (4 ^ k) 4, ← Int.mul_assoc]
    omega
theorem one_le_four (m : Nat) : (1 : Int) ≤ 4 ^ m := by
  have : (0 : Int) < 4 ^ m := Int.pow_pos (by decide)
  omega
theorem apow_zero {n : Int} (hn : 2 ≤ n) {k : Nat} (hk : 28 ≤ k) : apow n k = 0 := by
  obtain ⟨h0, h1⟩ := apow_bd hn k
  have h2 : (4 : Int) ^ 28 ≤ 4 ^ k := by
    obtain ⟨m, rfl⟩ : ∃ m, k = 28 + m := ⟨k - 28, by omega⟩
    rw [Int.pow_add]
    have := Int.mul_le_mul_of_nonneg_left (one_le_four m) (show (0 : Int) ≤ 4 ^ 28 by decide)
    omega
  have h3 : (4 : Int) ^ 28 = 72057594037927936 := by decide
  rcases Int.lt_or_le 0 (apow n k) with h | h
  · have := Int.mul_le_mul_of_nonneg_right (show (1 : Int) ≤ apow n k by omega) (show (0 : Int) ≤ 4 ^ k by omega)
    omega
  · omega
/-- The first one that is 0 is the count's. -/
theorem acount_spec {n : Int} (hn : 2 ≤ n) : acount n ≤ 28 ∧ apow n (acount n) = 0 ∧ ∀ k < acount n, 0 < apow n k := by
  have key : ∀ (m s : Nat), (∃ j, j < m ∧ apow n (s + j) = 0) → ((List.range' s m).takeWhile fun k => decide (0 < apow n k)).length < m ∧ apow n (s + ((List.range' s m).takeWhile fun k => decide (0 < apow n k)).length) = 0 ∧ ∀ k, k < ((List.range' s m).takeWhile fun k => decide (0 < apow n k)).length → 0 < apow n (s + k) := by
    intro m
    induction m with
    | zero => rintro s ⟨j, hj, _⟩; omega
    | succ m ih =>
      rintro s ⟨j, hj, hz⟩
      rw [List.range'_succ]
      by_cases h : 0 < apow n s
      · rw [List.takeWhile_cons_of_pos (by simpa using h)]
        have hj0 : j ≠ 0 := by rintro rfl; rw [Nat.add_zero] at hz; omega
        obtain ⟨q1, q2, q3⟩ := ih (s + 1) ⟨j - 1, by omega, by rw [show s + 1 + (j - 1) = s + j by omega]; exact hz⟩
        rw [List.length_cons]
        refine ⟨by omega, ?_, fun k hk => ?_⟩
        · rw [show ∀ L : Nat, s + (L + 1) = s + 1 + L from fun L => by omega]
          exact q2
        rcases Nat.eq_zero_or_pos k with rfl | hk0
        · simpa using h
        · have := q3 (k - 1) (by omega)
          rw [show s + 1 + (k - 1) = s + k by omega] at this
          exact this
      · rw [List.takeWhile_cons_of_neg (by simpa using h)]
        have := (apow_bd hn s).1
        refine ⟨by simp, by simp only [List.length_nil, Nat.add_zero]; omega, fun k hk => by simp at hk⟩
  have h40 := key 40 0 ⟨28, by decide, apow_zero hn (by decide)⟩
  simp only [Nat.zero_add] at h40
  have e : acount n = ((List.range' 0 40).takeWhile fun k => decide (0 < apow n k)).length := by
    unfold acount
    rw [List.range_eq_range']
  rw [← e] at h40
  refine ⟨?_, h40.2.1, h40.2.2⟩
  rcases Nat.lt_or_ge 28 (acount n) with h | h
  · have := h40.2.2 28 h
    rw [apow_zero hn (by decide)] at this
    omega
  · exact h
theorem apow_le {n : Int} (hn : 2 ≤ n) (k : Nat) : 0 ≤ apow n k ∧ apow n k ≤ 36028797018963968 := by
  obtain ⟨h0, h1⟩ := apow_bd hn k
  have h4 := one_le_four k
  have := Int.mul_le_mul_of_nonneg_left h4 h0
  omega
theorem asign_or (k : Nat) : asign k = 1 ∨ asign k = -1 := by
  induction k with
  | zero => exact .inl rfl
  | succ k ih => rw [asign]; omega
theorem tdiv_nonneg_le {a b : Int} (ha : 0 ≤ a) (hb : 1 ≤ b) : 0 ≤ a.tdiv b ∧ a.tdiv b ≤ a := by
  rw [Int.tdiv_eq_ediv_of_nonneg ha]
  exact ⟨Int.ediv_nonneg ha (by omega), Int.ediv_le_self b ha⟩
/-- The inner quotient, where nothing is below 0. -/
theorem arc_div.at (x d : Int) (w : World) (hx : 0 ≤ x) (hd : 1 ≤ d) (hx2 : x ≤ 72057594037927936) :
    Calls Tryz.prog 189 #[.int .i64 x, .int .i64 d] w fun e w' => e = .returned (.int .i64 (x.tdiv d)) ∧ w' = w := by
  have hm : 0 ≤ x.tmod d := Int.tmod_nonneg d hx
  have hd0 : d ≠ 0 := by omega
  have hm2 : 0 ≤ x % d := Int.emod_nonneg x hd0
  have hq := tdiv_nonneg_le hx hd
  have HW := Lib.hid (show IntKind.i64.wrap (x.tdiv d) = x.tdiv d by rw [IntKind.wrap_i64]; omega)
  have hw := HW.out
  go_enter Tryz.func189, Tryz.ntmps189
  go_wp2
  go_ret
  exact ⟨rfl, rfl⟩
section
attribute [local go_sem] Oper.semAt_some
abbrev aenc (x : Int) : Array Value := #[.int .i64 x]
set_option maxRecDepth 100000 in
set_option maxHeartbeats 4000000 in
/-- The iterator gives these terms, in order; or stops. -/
theorem arc_terms.stops (m : Nat) (hm : 4 ≤ m) (n : Int) (hn : 2 ≤ n) (hn2 : n ≤ 17592186044416) (B o1 : Nat) (w : World) (hb : w.cell? ⟨B, o1, none⟩ = some (.int .i64 n)) :
    SeqStopsK Fence.wide m Tryz.prog 188 #[.pointer (some ⟨B, o1, none⟩)] aenc (KeepsAt ⟨B, o1, none⟩) (fun xs => xs = atake n (acount n)) (fun _ => True) (acount n) w := fun l J Jx W hWb hJ hJx hY h0 => by
  obtain ⟨c1, c2, c3⟩ := acount_spec hn
  refine callsIn_of_wp Tryz.func188 rfl trivial ?_ rfl
  simp only [Tryz.ntmps188, List.size_toArray, List.length_cons, List.length_nil, Nat.reduceAdd, Nat.reduceSub, Array.replicate_succ, Array.replicate_zero, List.push_toArray, List.append_toArray, List.nil_append, List.cons_append]
  have hbW : W.cell? ⟨B, o1, none⟩ = some (.int .i64 n) := (hWb.cell (p := ⟨B, o1, none⟩) (World.block_lt_of_cell? w _ hb)).trans hb
  have hd := apow_le hn
  gi_wp2_with (fail)
  refine ⟨trivial, fun _ => by omega, ?_⟩
  refine (callsIn_wide.2 (arc_div.at 72057594037927936 n W (by decide) (by omega) (by decide))).mono ?_
  rintro e w' ⟨rfl, rfl⟩
  gi_wp2
  gi_loopw [3, 4, 5] (fun s o p wr => ∃ k : Nat, k ≤ acount n ∧ s = .int .i64 (asign k) ∧ o = .int .i64 (2 * (k : Int) + 1) ∧ p = .int .i64 (apow n k) ∧ J (atake n k) wr ∧ wr.cell? ⟨B, o1, none⟩ = some (.int .i64 n)) (fun s o p wr => 100 - (intOf o).toNat)
  case atStart => exact ⟨0, Nat.zero_le _, rfl, rfl, rfl, h0, hbW⟩
  case round =>
    obtain ⟨k, hk, rfl, rfl, rfl, hJk, hbk⟩ := hrel
    by_cases hlt : k < acount n
    · have hpos := c3 k hlt
      obtain ⟨fn, tmps, assign, body, hy, hR⟩ := hY (atake n k) (aterm n k) wr hJk (by simp [atake]; exact hlt)
      dsimp only [aenc] at hy
      have hterm : wrap64 (asign k * Int.tdiv (apow n k) (2 * (k : Int) + 1)) = aterm n k := by
        have h1 := asign_or k
        have h2 := tdiv_nonneg_le (hd k).1 (show 1 ≤ 2 * (k : Int) + 1 by omega)
        have h3 := (hd k).2
        unfold aterm
        generalize Int.tdiv (apow n k) (2 * (k : Int) + 1) = q at *
        rcases h1 with h1 | h1 <;> rw [h1] <;> unfold wrap64 <;> omega
      gi_wp2_with (fail)
      refine ⟨trivial, fun _ => by omega, ?_⟩
      refine (callsIn_wide.2 (arc_div.at (apow n k) (2 * (k : Int) + 1) wr (hd k).1 (by omega) (by have := (hd k).2; omega))).mono ?_
      rintro e w' ⟨rfl, rfl⟩
      gi_wp2_with (fail)
      rw [← atake_succ] at hR
      refine ⟨fun _ => by omega, ?_⟩
      refine hR.mono ?_
      rintro e W' (⟨rfl, hJ', hk'⟩ | ⟨rfl, hx⟩)
      · have hb' : W'.cell? ⟨B, o1, none⟩ = some (.int .i64 n) := hk' _ hbk
        have hmx : Tryz.prog.follows .mixedOrders = true := by kernel_rfl
        have hs1 : wrap64 (-asign k) = asign (k + 1) := by
          have := asign_or k
          rw [asign]
          unfold wrap64
          omega
        have ho1 : wrap64 (2 * (k : Int) + 1 + 2) = 2 * ((k + 1 : Nat) : Int) + 1 := by
          unfold wrap64
          omega
        clear hbk hy hR
        gi_wp2
        have hp1 := tdiv_nonneg_le (hd k).1 (show 1 ≤ n by omega)
        have hpn : (Int.tdiv (apow n k) n).tdiv n = apow n (k + 1) := rfl
        have hdk := hd k
        gi_region_with_o (refine ⟨trivial, fun _ => by omega, ?_⟩; first | (with_reducible refine (callsIn_wide.2 (arc_div.at (apow n k) n _ (by omega) (by omega) (by omega))).mono ?_; rintro e w' ⟨rfl, rfl⟩) | (with_reducible refine (callsIn_wide.2 (arc_div.at (Int.tdiv (apow n k) n) n _ (by omega) (by omega) (by omega))).mono ?_; rintro e w' ⟨rfl, rfl⟩))
        all_goals
          have hJd := hJ _ _ W'.drew none hJ' ⟨rfl, rfl, rfl, Nat.le_refl _, fun _ _ _ => rfl⟩ (fun r e => by cases e)
          simp only [List.getElem_toArray, List.getElem_cons_succ, List.getElem_cons_zero, Act.put, List.setIfInBounds_toArray, List.set_cons_zero, List.set_cons_succ]
          gi_wp2
          go_roundw
          case rel => exact ⟨k + 1, by omega, rfl, by congr 1, rfl, hJd, by simpa using hb'⟩
          case measure => simp [intOf]; omega
      · gi_wp2
        refine bodyPost_ret (results_none rfl _ _ _) rfl ?_
        exact ⟨⟨_, rfl⟩, .inr ⟨_, trivial, hx⟩⟩
    · have hk2 : k = acount n := by omega
      subst hk2
      rw [c2]
      gi_wp2
      go_end0
      exact ⟨⟨_, rfl⟩, .inl ⟨_, rfl, hJk⟩⟩
end
end Go.Proofs.YtnnjjblgilibgaaGreatV
/- Regions by the evaluator, in a walk by hand: slots that are not written stay. -/
namespace Go.Proofs.YtnnjjblgilibgaaGreatV
open Go Go.RowKit
set_option linter.unusedVariables false
set_option linter.unusedSimpArgs false
/-- Slots that stay as they are. -/
def Stay (T : List Nat) (a a' : Act) : Prop := a'.defers = a.defers ∧ ∀ t ∈ T, a'.tmps.getD t undef = a.tmps.getD t undef
def dstOff (T : List Nat) : Option Tmp → Bool
  | none => true
  | some t => !(T.any fun u => Nat.beq u t)
def ndCal (fs : List FuncId) (c : Call) : Bool := match c.callee with
    | .value (.func f) => fs.any fun g => Nat.beq g f
    | _ => false
/-- Operations that defer nothing. -/
def ndOp (fs : List FuncId) (o : Oper) : Bool :=
  match o.op with
  | .move _ => true
  | .assign _ => true
  | .alloc _ => true
  | .load _ _ => true
  | .store _ _ _ => true
  | .binOp _ _ _ _ _ => true
  | .unOp _ _ _ => true
  | .fieldAddr _ _ _ => true
  | .indexAddr _ _ _ => true
  | .call c => ndCal fs c
  | _ => false
theorem run_v_nd {P : Program} {s : Sem Value} {w w' : World} {c : Deferred} : (do pure (Next.value (← s)) : Sem Next).run P w ≠ .ok (.defer c) w' := by
  intro h
  rw [Sem.run_bind] at h
  generalize s.run P w = r at h
  cases r with
  | ok v w1 => simp [Result.andThen] at h
  | halt x w1 => simp [Result.andThen] at h
theorem run_u_nd {P : Program} {s : Sem Unit} {w w' : World} {c : Deferred} : (do s; pure Next.skip : Sem Next).run P w ≠ .ok (.defer c) w' := by
  intro h
  rw [Sem.run_bind] at h
  generalize s.run P w = r at h
  cases r with
  | ok v w1 => simp [Result.andThen] at h
  | halt x w1 => simp [Result.andThen] at h
theorem nd_call {fs : List FuncId} {c : Call} (h : ndCal fs c = true) : ∃ g ∈ fs, c.callee = .value (.func g) := by
  obtain ⟨cal, ars, tys⟩ := c
  unfold ndCal at h
  cases cal with
  | value x =>
    cases x with
    | func f =>
      obtain ⟨g, hg, hgf⟩ := List.any_eq_true.1 h
      obtain rfl := Nat.eq_of_beq_eq_true hgf
      exact ⟨g, hg, rfl⟩
    | _ => cases h
  | _ => cases h
theorem nd_callrun {P : Program} {g : FuncId} (hF : Fine P g) {c : Call} (h : c.callee = .value (.func g)) {dst ty po af gd} {a : Act} {w : World} : (execOp a.eval ⟨dst, .call c, ty, po, af, gd⟩).run P w = .ok (.enter g (c.args.map a.eval ++ #[])) w := by
  have := hF (c.args.map a.eval ++ #[]) w
  simp [execOp, resolve, h, Sem.run_bind, Act.eval, Deferred.ofValue, Result.andThen, invoke]
  simpa using this
theorem nd_run {P : Program} {fs : List FuncId} (hfs : ∀ f ∈ fs, Fine P f) {o : Oper} (h : ndOp fs o = true) {a : Act} {w w' : World} {c : Deferred} : (execOp a.eval o).run P w ≠ .ok (.defer c) w' := by
  obtain ⟨dst, op, ty, po, af, gd⟩ := o
  unfold ndOp at h
  split at h <;> rename_i e <;> (first | (simp only at e; subst e) | skip)
  · intro h; simp [execOp] at h
  · intro h; simp [execOp] at h
  · exact run_v_nd
  · exact run_v_nd
  · exact run_u_nd
  · exact run_v_nd
  · exact run_v_nd
  · exact run_v_nd
  · exact run_v_nd
  · obtain ⟨g, hg, hf⟩ := nd_call h
    intro hr
    rw [nd_callrun (hfs g hg) hf] at hr
    cases hr
  · cases h
theorem Stay.refl (T : List Nat) (a : Act) : Stay T a a := ⟨rfl, fun _ _ => rfl⟩
theorem Stay.put {T : List Nat} {a0 a : Act} {d : Option Tmp} {v : Value} (h : Stay T a0 a) (hd : dstOff T d = true) : Stay T a0 (a.put d v) := by
  cases d with
  | none => exact h
  | some t =>
    refine ⟨h.1, fun u hu => ?_⟩
    have hne : u ≠ t := by
      rintro rfl
      unfold dstOff at hd
      rw [Bool.not_eq_true', List.any_eq_false] at hd
      exact hd u hu (Nat.beq_refl u)
    exact (getD_set_ne hne).trans (h.2 u hu)
section
variable {P : Program} {T : List Nat} {fs : List FuncId} {Q Q' : Exit → Act → World → Prop} {a0 : Act}
theorem wp_stay (hfs : ∀ f ∈ fs, Fine P f) {o : Oper} {a : Act} {w : World} {K K' : Act → World → Prop} (hc : ndOp fs o = true) (hd : dstOff T o.dst = true) (ha : Stay T a0 a) (hK : ∀ a' w', Stay T a0 a' → K a' w' → K' a' w') (h : o.wp P a w K (onlyN Q)) : o.wp P a w K' (onlyN Q') := by
  unfold Oper.wp at *
  have hno : ∀ c w', (execOp a.eval o).run P w ≠ .ok (.defer c) w' := fun c w' => nd_run hfs hc
  generalize (execOp a.eval o).run P w = r at *
  cases r with
  | ok n w' =>
    cases n with
    | value v => exact hK _ _ (ha.put hd) h
    | skip => exact hK _ _ (ha.put hd) h
    | defer d => exact (hno _ _ rfl).elim
    | enter f args =>
      refine Calls.mono h fun e w'' he => ?_
      cases e with
      | returned v => exact hK _ _ (ha.put hd) he
      | panicked c => exact he.elim
      | outgrown => obtain ⟨_, _, he⟩ := he; exact he.elim
    | row row args => exact Rows.mono h fun v w'' he => hK _ _ (ha.put hd) he
    | _ => exact h.elim
  | halt x w' =>
    cases x <;> first | exact h.elim | exact h
theorem op_stay (hfs : ∀ f ∈ fs, Fine P f) {ops : Array Oper} (hc : ops.toList.all (fun o => ndOp fs o && dstOff T o.dst) = true) {i : Nat} {a : Act} {w : World} {K K' : Act → World → Prop} (ha : Stay T a0 a) (hK : ∀ a' w', Stay T a0 a' → K a' w' → K' a' w') (h : wpOp P ops (onlyN Q) i K a w) : wpOp P ops (onlyN Q') i K' a w := by
  unfold wpOp at *
  cases ho : ops[i]? with
  | none => rw [ho] at h; exact hK _ _ ha h
  | some o =>
    rw [ho] at h
    have hm : o ∈ ops.toList := by
      obtain ⟨hi, e⟩ := Array.getElem?_eq_some_iff.1 ho
      rw [← e]
      exact Array.getElem_mem_toList hi
    have hco := List.all_eq_true.1 hc o hm
    rw [Bool.and_eq_true] at hco
    simp only at h ⊢
    split
    · rename_i hw
      rw [if_pos hw] at h
      rcases h with h | ⟨_, h⟩
      · exact .inl (wp_stay hfs hco.1 hco.2 ha hK h)
      · exact (onlyN_lets h).elim
    · rename_i hw
      rw [if_neg hw] at h
      exact hK _ _ (ha.put hco.2) h
theorem ops_stay (hfs : ∀ f ∈ fs, Fine P f) {ops : Array Oper} (hc : ops.toList.all (fun o => ndOp fs o && dstOff T o.dst) = true) (hQ : ∀ a' w', Stay T a0 a' → Q .normal a' w' → Q' .normal a' w') : ∀ (is : List Nat) (a : Act) (w : World), Stay T a0 a → wpOps P ops (onlyN Q) is a w → wpOps P ops (onlyN Q') is a w
  | [], a, w, ha, h => hQ a w ha h
  | i :: rest, a, w, ha, h => by
    rw [wpOps_cons] at h ⊢
    exact op_stay hfs hc ha (fun a' w' ha' h' => ops_stay hfs hc hQ rest a' w' ha' h') h
theorem any_stay (hfs : ∀ f ∈ fs, Fine P f) {ops : Array Oper} (hc : ops.toList.all (fun o => ndOp fs o && dstOff T o.dst) = true) (hQ : ∀ a' w', Stay T a0 a' → Q .normal a' w' → Q' .normal a' w') : ∀ (fuel : Nat) (ls : Array Bool) (a : Act) (w : World), Stay T a0 a → wpAny P .any ops (onlyN Q) fuel ls a w → wpAny P .any ops (onlyN Q') fuel ls a w
  | 0, ls, a, w, ha, h => ⟨h.1, hQ a w ha h.2⟩
  | fuel + 1, ls, a, w, ha, h => ⟨fun h0 => hQ a w ha (h.1 h0), fun i hi => op_stay hfs hc ha (fun a' w' ha' h' => any_stay hfs hc hQ fuel _ a' w' ha' h') (h.2 i hi)⟩
end
/-- Where a piece ends. -/
def toK (k0 : Nat) (s1 : St) : Exit → St → Prop
  | .normal, s => Weak k0 s s1
  | _, _ => False
theorem tk_n {k0 : Nat} {s1 s : St} : toK k0 s1 .normal s = Weak k0 s s1 := rfl
/-- A region by the evaluator, in a walk by hand. -/
theorem piece {P : Program} {tt : TypeId → Option TI} (hT : TOk P tt) (hm : P.follows .mixedOrders = true) {X : Nat → List (List Operand)} {n m : Nat} {w0 : World} {M : Nat → Option Value} {N0 : NG} {id : Nat} {ops : Array Oper} {d : Bool} {fs : List FuncId} {k0 : Nat} (hM : ∀ l, k0 ≤ l → M l = none) {T : List Nat} {s s1 : St} {Q : Exit → Act → World → Prop}
    (hd : dstsOk n ops.toList = true) (hcalm : ops.toList.all calmOp = true) (hdraw : (!d || drawOk ops (X id)) = true) (hfs : ∀ f ∈ fs, Fine P f) (hst : ops.toList.all (fun o => ndOp fs o && dstOff T o.dst) = true) {a : Act} {w : World} (ht : TelS n w0 M N0 s a w) (h : evc P tt X (fun _ => false) k0 (.region id ops d) (toK k0 s1) s)
    (hQ : ∀ a' w', TelS n w0 M N0 s1 a' w' → Stay T a a' → Q .normal a' w') : (Code.region id ops d).wpIn Fence.wide m P Q a w := by
  have h : evr P tt ops ops.toList (X id) s (fun s' => Weak k0 s' s1) := h
  have hi := region_in hT hd hcalm hdraw (Q := fun e a' w' => e = .normal → TelS n w0 M N0 s1 a' w') (fun s' a' w' hw ht' _ => hw _ _ _ _ _ _ hM ht') h ht
  refine wpIn_wide.2 (wpM_region (md := none) hm hcalm (fun e => ?_) (fun e => ?_))
  · exact ops_stay hfs hst (fun a' w' hs ht' => hQ a' w' (ht' rfl) hs) _ _ _ (Stay.refl T a) (hi.1 e)
  · exact any_stay hfs hst (fun a' w' hs ht' => hQ a' w' (ht' rfl) hs) _ _ _ _ (Stay.refl T a) (hi.2 e)
/-- One label: a block's cells. -/
def phi (b : Nat) : Nat → Option Value := fun l => if l = 0 then some (.pointer (some ⟨b, 0, none⟩)) else none
theorem phi_none {b : Nat} : ∀ l, 1 ≤ l → phi b l = none := fun l hl => if_neg (by omega)
theorem PB_phi {b c : Nat} (h : PB (phi b) c) : c = b := by
  obtain ⟨l, v, h1, h2⟩ := h
  unfold phi at h1
  split at h1
  · obtain rfl := Option.some.inj h1
    exact (Option.some.inj h2).symm
  · cases h1
theorem look_mem {t : Nat} {x : AV} : ∀ {env : List (Nat × AV)}, look t env = some x → (t, x) ∈ env
  | (u, y) :: r, h => by
    rw [look_if] at h
    split at h
    · rename_i e
      subst e
      obtain rfl := Option.some.inj h
      exact List.mem_cons_self
    · exact List.mem_cons_of_mem _ (look_mem h)
theorem rel_here {n : Nat} {a : Act} {w : World} {N : Nat → Prop} {b : Nat} {ty : TypeId} {cs : Array Value} {cl : List Value} {env : List (Nat × AV)} (hd : a.defers = []) (hsz : a.tmps.size = n) (hlow : ∀ c, N c → c < w.heap.size) (hNb : ¬ N b) (hg : w.heap[b]? = some (.cells cs ty (0, 0))) (hcs : cs = cl.toArray) (henv : ∀ p ∈ env, Rep w (phi b) N p.2 (a.tmps.getD p.1 undef)) :
    Rel n w (phi b) ⟨N, fun _ => none, 0, 0⟩ (phi b) N (fun l => l < 1) (St.E ⟨env, [(0, rawB cl)], 1⟩) (St.lb ⟨env, [(0, rawB cl)], 1⟩) a w := by
  have hlb : ∀ l B, St.lb ⟨env, [(0, rawB cl)], 1⟩ l = some B → l = 0 ∧ B = .box (cl.map .raw) := by
    intro l B h
    unfold St.lb at h
    rw [look_if] at h
    split at h
    · rename_i e
      exact ⟨e, by simpa using h.symm⟩
    · cases h
  refine ⟨by rw [hd]; exact .none (Nat.zero_le _), hsz, But.refl _ _, fun _ _ h => h, hlow, fun c h => .inl h, fun t x hx => henv _ (look_mem hx), fun l B hB => ?_, fun l B v c hB hv hc => .inl ⟨l, v, hv, hc⟩, fun l l' B B' v v' c hne hB hB' => ?_, fun l hl => phi_none l (by have : ¬ l < 1 := hl; omega)⟩
  · obtain ⟨rfl, rfl⟩ := hlb l B hB
    have := raw_holds (φ := phi b) (N := N) (lab := 0) rfl hg hNb
    rw [hcs] at this
    simpa using this
  · exact absurd ((hlb l B hB).1.trans (hlb l' B' hB').1.symm) hne
/-- What a piece tells. -/
theorem tel_out {n : Nat} {a : Act} {w w' : World} {N0 : NG} {b : Nat} {cl : List Value} {env : List (Nat × AV)} {nx : Nat} (h : TelS n w (phi b) N0 ⟨env, [(0, rawB cl)], nx⟩ a w') :
    (∃ ty, w'.heap[b]? = some (.cells cl.toArray ty (0, 0))) ∧ But (fun x => x = b) w w' ∧ a.tmps.size = n ∧ ∀ t v, look t env = some (.raw v) → a.tmps.getD t undef = v := by
  obtain ⟨φ, N, R⟩ := h
  have hp : φ 0 = some (.pointer (some ⟨b, 0, none⟩)) := R.ext 0 _ rfl
  refine ⟨?_, ⟨R.bel.os, R.bel.tape, R.bel.output, R.bel.size, fun k hk hn => R.bel.block k hk (fun h => hn (PB_phi h))⟩, R.size, fun t v hv => (R.env t _ hv).of_raw⟩
  obtain ⟨b', ty, cs, hp', hg, hs, hr, _⟩ := R.lbl 0 (.box (cl.map .raw)) rfl
  rw [hp] at hp'
  obtain rfl : b = b' := by injection hp' with e; injection e with e; injection e with e; injection e
  refine ⟨ty, ?_⟩
  have : cs = cl.toArray := by
    refine Array.ext (by rw [hs]; simp) fun i h1 h2 => ?_
    have h2' : i < cl.length := by simpa using h2
    have := (hr i (.raw cl[i]) (by rw [List.getElem?_map, List.getElem?_eq_getElem h2']; rfl)).of_raw
    rw [Array.getD_eq_getD_getElem?, Array.getElem?_eq_getElem h1] at this
    simpa using this
  rw [hg, this]
theorem rounds_ind {F : Fence} {n : Nat} {P : Program} {c : Code} {Q : Exit → Act → World → Prop} {I : Nat → Act → World → Prop} (N : Nat) (h : ∀ j a w, j < N → I j a w → ∀ K : Act → World → Prop, (∀ a' w', I (j + 1) a' w' → K a' w') → c.wpIn F n P (Exit.then K Q) a w) (he : ∀ a w, I N a w → ∀ K, c.wpIn F n P (Exit.then K Q) a w) {a : Act} {w : World} (h0 : I 0 a w) : Code.roundsIn F n P c Q (N + 1) a w := by
  have key : ∀ r j a w, j + r = N → I j a w → Code.roundsIn F n P c Q (r + 1) a w := by
    intro r
    induction r with
    | zero => intro j a w hj hi; exact he a w (by rw [← hj]; exact hi) _
    | succ r ih => intro j a w hj hi; exact h j a w (by omega) hi _ (fun a' w' h' => ih (j + 1) a' w' (by omega) h')
  exact key N 0 a w (by omega) h0
theorem put_ne {a : Act} {t u : Nat} {v : Value} (h : t ≠ u) : (a.put (some u) v).tmps.getD t undef = a.tmps.getD t undef := getD_set_ne h
theorem put_eq {a : Act} {t : Nat} {v : Value} (h : t < a.tmps.size) : (a.put (some t) v).tmps.getD t undef = v := getD_set_eq h
theorem put_size {a : Act} {t : Nat} {v : Value} : (a.put (some t) v).tmps.size = a.tmps.size := Array.size_setIfInBounds
theorem put_defers {a : Act} {t : Nat} {v : Value} : (a.put (some t) v).defers = a.defers := rfl
theorem exit_out {id : Nat} {K1 K2 : Act → World → Prop} {Q : Exit → Act → World → Prop} {a : Act} {w : World} (h : Q .normal a w) : Exit.then K1 (Exit.then K2 (Exit.inBlock id Q)) (.exit id) a w := by
  simp only [Exit.then, Exit.inBlock, if_true]
  exact h
/-- An operation, by hand. -/
theorem step_val {P : Program} {m : Nat} {ops : Array Oper} {Q : Exit → Act → World → Prop} {i : Nat} {rest : List Nat} {o : Oper} {a : Act} {w w' : World} {v : Value} (ho : ops[i]? = some o) (hg : o.guard = none) (hrun : (execOp a.eval o).run P w = .ok (.value v) w') (K : wpOpsIn Fence.wide m P ops Q rest (a.put o.dst v) w') : wpOpsIn Fence.wide m P ops Q (i :: rest) a w := by
  rw [wpOpsIn_cons]
  unfold wpOpIn
  rw [ho]
  have hw : Region.wanted o (yielded ops a.tmps) = true := by
    unfold Region.wanted
    rw [hg]
  simp only
  rw [if_pos hw]
  refine ⟨fun _ _ => trivial, ?_⟩
  rw [show Fence.wide.round = none from rfl, Oper.semAt_none, hrun]
  exact K
/-- The same, as the evaluator tells. -/
theorem step_tel {P : Program} {tt : TypeId → Option TI} (hT : TOk P tt) {n m : Nat} {w0 : World} {M : Nat → Option Value} {N0 : NG} {φ : Nat → Option Value} {N U : Nat → Prop} {s : St} {ops : Array Oper} {Q : Exit → Act → World → Prop} {i : Nat} {rest : List Nat} {o : Oper} {a : Act} {w : World} (R : Rel n w0 M N0 φ N U s.E s.lb a w) {p : Prop} {x : AV} (ho : ops[i]? = some o) (hg : o.guard = none) (hd : okDst n o.dst) (h : aop tt s.lb s.ev o.op = .val p x) (hp : p)
    (K : ∀ v, Rep w φ N x v → Rel n w0 M N0 φ N U (s.put o.dst x).E s.lb (a.put o.dst v) w → wpOpsIn Fence.wide m P ops Q rest (a.put o.dst v) w) : wpOpsIn Fence.wide m P ops Q (i :: rest) a w := by
  obtain ⟨dst, op, ty, po, af, gd⟩ := o
  obtain ⟨v, hrun, hr⟩ := run_val (P := P) hT (w := w) (φ := φ) (N := N) (lb := s.lb) (ev := s.ev) (ρ := a.eval) (base := 0) (fun y => by have := R.ev y; rwa [evE_St] at this) (fun l B hl => R.lbl l B hl) h hp (d := dst) (ty := ty) (po := po) (af := af) (g := gd)
  refine step_val ho hg hrun (K v hr ?_)
  have := R.put hd hr
  rwa [← E_put] at this
/-- The round: what is given is taken, and it goes on. -/
theorem step_yield {P : Program} {m : Nat} {ops : Array Oper} {Q : Exit → Act → World → Prop} {i : Nat} {rest : List Nat} {o : Oper} {a : Act} {w : World} {l : Nat} {x : Operand} {ars : Array Operand} {tys : Array TypeId} {R : Ending → World → Prop} (ho : ops[i]? = some o) (hg : o.guard = none) (hop : o.op = .call ⟨.value x, ars, tys⟩) (hx : a.eval x = .func (.yield l) #[] #[]) (hy : YieldAt Fence.wide (m - 1) P l (ars.map a.eval) w R)
    (K : ∀ e w', R e w' → ∃ v, e = .returned v ∧ wpOpsIn Fence.wide m P ops Q rest (a.put o.dst v) w') : wpOpsIn Fence.wide m P ops Q (i :: rest) a w := by
  obtain ⟨fn, tmps, assign, body, hrun, hR⟩ := hy
  rw [wpOpsIn_cons]
  unfold wpOpIn
  rw [ho]
  have hw : Region.wanted o (yielded ops a.tmps) = true := by
    unfold Region.wanted
    rw [hg]
  simp only
  rw [if_pos hw]
  refine ⟨fun _ _ => trivial, ?_⟩
  obtain ⟨dst, op, ty, po, af, gd⟩ := o
  simp only at hop
  subst hop
  have : (execOp a.eval ⟨dst, .call ⟨.value x, ars, tys⟩, ty, po, af, gd⟩).run P w = .ok (.round l fn tmps assign body) w := by
    simp [execOp, resolve, Sem.run_bind, hx, Deferred.ofValue, Result.andThen, invoke]
    simpa using hrun
  rw [show Fence.wide.round = none from rfl, Oper.semAt_none, this, Oper.uponIn_round]
  refine ⟨fun h => (Bool.false_ne_true h).elim, hR.mono fun e w' he => ?_⟩
  obtain ⟨v, rfl, hk⟩ := K e w' he
  exact hk
end Go.Proofs.YtnnjjblgilibgaaGreatV
/- An ordered region in two parts: between them less is told. -/
namespace Go.Proofs.YtnnjjblgilibgaaGreatV
open Go Go.RowKit
set_option linter.unusedVariables false
set_option linter.unusedSimpArgs false
/-- The operations in their order, and what is behind. -/
theorem trace_pre {P : Program} {tt : TypeId → Option TI} (hT : TOk P tt) {n : Nat} {w0 : World} {M : Nat → Option Value} {N0 : NG} (all : Array Oper) (is : List Nat) {Q : Exit → Act → World → Prop} : ∀ (os : List Oper) (k : Nat), (∃ tl, all.toList.drop k = os ++ tl) → (∀ o ∈ os, okDst n o.dst) → ∀ (cr : List (List Operand)) (U : Nat → Prop) (E : Nat → Option AV) (L : Nat → Option LB) (nx : Nat) (rs : List (Nat × Res)), Trace P tt all os cr E L nx rs → (∀ l, nx ≤ l → ¬ U l) →
      (∀ a w, Tel n w0 M N0 (finU rs U) (finE os rs E) (finL rs L) a w → wpOps P all Q is a w) → ∀ (a : Act) (w : World), Tel n w0 M N0 U E L a w → wpOps P all Q (List.range' k os.length ++ is) a w
  | [], k, _, _, cr, U, E, L, nx, rs, ht, hU, hQ, a, w, h => by
    cases ht
    exact hQ a w h
  | o :: os, k, hk, hd, cr, U, E, L, nx, rs, ht, hU, hQ, a, w, h => by
    obtain ⟨tl, hk⟩ := hk
    have ho : all[k]? = some o := by
      have : all.toList[k]? = some o := by
        have := congrArg (fun l => l[0]?) hk
        simpa using this
      simpa using this
    have hk' : ∃ tl, all.toList.drop (k + 1) = os ++ tl := ⟨tl, by rw [← List.drop_drop, hk]; rfl⟩
    have hd' : ∀ o ∈ os, okDst n o.dst := fun o ho => hd o (by simp [ho])
    have hdo := hd o (by simp)
    rw [List.length_cons, List.range'_succ, List.cons_append, wpOps_cons]
    unfold wpOp
    rw [ho]
    simp only
    cases ht with
    | skip hg h' =>
      rename_i rs
      have hw := h
      obtain ⟨φ, N, R⟩ := h
      rw [wanted_of R hg]
      simp only [Bool.false_eq_true, if_false]
      exact trace_pre hT all is os (k + 1) hk' hd' _ U _ _ _ rs h' hU hQ _ _ (hw.skip hdo)
    | exec hg hr hc h' =>
      rename_i rs r
      obtain ⟨φ, N, R⟩ := h
      rw [wanted_of R hg]
      simp only [if_true]
      refine .inl (Oper.wp_mono (fun a' w' hn => ?_) (op_sound hT R hdo (fun _ => hU nx (Nat.le_refl _)) hr))
      refine trace_pre hT all is os (k + 1) hk' hd' _ _ _ _ _ rs h' ?_ hQ _ _ hn
      intro l hl hu
      cases r with
      | val x => exact hU l hl hu
      | put l' B => exact hU l hl hu
      | new B x =>
        have hl : nx + 1 ≤ l := hl
        rcases hu with hu | rfl
        · exact hU l (by omega) hu
        · omega
      | grow l' B x =>
        have hl : nx + 1 ≤ l := hl
        rcases hu with hu | rfl
        · exact hU l (by omega) hu
        · omega
      | eff l' B x =>
        have hl : nx + 1 ≤ l := hl
        rcases hu with hu | rfl
        · exact hU l (by omega) hu
        · omega
theorem two_of {P : Program} {tt : TypeId → Option TI} (hT : TOk P tt) {k0 : Nat} {ops : Array Oper} {s : St} {K Q : St → Prop} (os1 os2 : List Oper) (hops : ops.toList = os1 ++ os2) (h : evr P tt ops os1 [] s (fun s1 => ∃ s2, Weak k0 s1 s2 ∧ evr P tt ops os2 [] s2 Q)) : wkT P k0 ops false s K Q := by
  obtain ⟨rs, sf, htr, h1, h2, h3, s2, hw, h4⟩ := evr_trace ops os1 [] s h
  obtain ⟨rs2, sf2, htr2, g1, g2, g3, hq⟩ := evr_trace ops os2 [] s2 h4
  refine hand_of sf2 (fun n w0 M N0 a w Q' hM hd ht hQ => ?_) hq
  refine ⟨fun _ => ?_, fun e => by cases e⟩
  have hdo := dstsOk_mem hd
  rw [hops] at hdo
  have hsz : List.range ops.size = List.range' 0 os1.length ++ List.range' os1.length os2.length := by
    rw [← Array.length_toList, hops, List.length_append, List.range_eq_range', ← List.range'_append_1]
    simp
  rw [hsz]
  have hU : ∀ l, finU rs (fun l => l < s.next) l → l < sf.next := by
    rw [h3]
    exact finU_lt htr _ (fun _ h => h)
  refine trace_pre hT ops _ os1 0 ⟨os2, by simpa using hops⟩ (fun o ho => hdo o (by simp [ho])) [] _ _ _ _ rs htr (fun l h => by omega) (fun a1 w1 ht1 => ?_) a w ht
  have ht2 := hw _ _ _ _ _ _ hM (tel_fin ht1 hU h1 h2)
  have hU2 : ∀ l, finU rs2 (fun l => l < s2.next) l → l < sf2.next := by
    rw [g3]
    exact finU_lt htr2 _ (fun _ h => h)
  exact trace_seq (Q := onlyN Q') hT ops os2 os1.length (by rw [hops]; simp) (fun o ho => hdo o (by simp [ho])) [] _ _ _ _ rs2 htr2 (fun l h => by omega) (fun a2 w2 ht3 => hQ a2 w2 (tel_fin ht3 hU2 g1 g2)) a1 w1 ht2
end Go.Proofs.YtnnjjblgilibgaaGreatV
/- Regions that are shown by hand: maps that a call makes, copies. -/
namespace Go.Proofs.YtnnjjblgilibgaaGreatV
open Go Go.RowKit
set_option linter.unusedVariables false
set_option linter.unusedSimpArgs false
set_option maxRecDepth 100000
section
variable {P : Program}
theorem getObj_map {w : World} {r : Nat} {es : Array MapEntry} {clock : Nat} (hb : w.heap[r]? = some (.map es clock)) : (getObj r).run P w = .ok (.map es clock) w := by
  simp [getObj, Sem.run, hb]
theorem setObj_map (w : World) (es : Array MapEntry) (clock : Nat) (o' : Obj) : (setObj w.heap.size o').run P (w.alloc (.map es clock)) = .ok () (w.alloc o') := by
  rw [MapKept.run_setObj_map o' (heap_alloc_new w _)]
  congr 1
  unfold World.alloc
  have : (w.heap.push (Obj.map es clock)).setIfInBounds w.heap.size o' = w.heap.push o' := by
    apply Array.ext_getElem?
    intro i
    rw [Array.getElem?_setIfInBounds, Array.getElem?_push, Array.getElem?_push]
    by_cases h : i = w.heap.size
    · subst h; simp
    · rw [if_neg (Ne.symm h), if_neg h, if_neg h]
  simp only [this]
theorem key_int {w : World} {kt : TypeId} {k : IntKind} {n : Int} {e : Bool} {m : Nat} (hd : P.underlying kt = some (.int k)) : (Instr.checkKey e (m + 1) kt (.int k n)).run P w = .ok () w := by
  simp [Instr.checkKey, run_underlying hd]
/-- An entry is put to a map that was made last. -/
theorem mapPut (W : World) {t kt et : TypeId} (es : Array MapEntry) (clock : Nat) (k : Int) (v : Value) (hu : P.underlying t = some (.map kt et)) (hk : P.underlying kt = some (.int .i64)) (hf : Instr.findNow (.int .i64) (.int .i64 k) es.toList 0 = some none) : (Instr.mapUpdate t (.map (some W.heap.size)) (.int .i64 k) v).run P (W.alloc (.map es clock)) = .ok () (W.alloc (.map (es.push ⟨.int .i64 k, v, clock⟩) (clock + 1))) := by
  simp [Instr.mapUpdate, run_underlying hu, run_underlying hk, getObj_map (heap_alloc_new W _), Instr.findKey, hf, key_int (m := 9999) hk, setObj_map]
/-- What is looked up: there it is. -/
theorem mapHit {W : World} {r : Nat} {t kt et : TypeId} {es : Array MapEntry} {clock : Nat} (k : Int) {v : Value} {i : Nat} (ok : Bool) (hr : W.heap[r]? = some (.map es clock)) (hu : P.underlying t = some (.map kt et)) (hk : P.underlying kt = some (.int .i64)) (hf : Instr.findNow (.int .i64) (.int .i64 k) es.toList 0 = some (some (i, v))) : (Instr.lookup t (.map (some r)) (.int .i64 k) ok).run P W = .ok (if ok then .tuple #[v, .bool true] else v) W := by
  cases ok <;> simp [Instr.lookup, run_underlying hu, run_underlying hk, getObj_map hr, Instr.findKey, hf, key_int (m := 9999) hk]
/-- Or not. -/
theorem mapMiss {W : World} {r : Nat} {t kt et : TypeId} {es : Array MapEntry} {clock : Nat} (k : Int) {z : Value} (ok : Bool) (hr : W.heap[r]? = some (.map es clock)) (hu : P.underlying t = some (.map kt et)) (hk : P.underlying kt = some (.int .i64)) (hz : ∀ w, (zeroValue et).run P w = .ok z w) (hf : Instr.findNow (.int .i64) (.int .i64 k) es.toList 0 = some none) : (Instr.lookup t (.map (some r)) (.int .i64 k) ok).run P W = .ok (if ok then .tuple #[z, .bool false] else z) W := by
  cases ok <;> simp [Instr.lookup, run_underlying hu, run_underlying hk, getObj_map hr, Instr.findKey, hf, key_int (m := 9999) hk, hz]
theorem hand_op {ops : Array Oper} {Q : Exit → Act → World → Prop} {i : Nat} {rest : List Nat} {a : Act} {w : World} {o : Oper} (ho : ops[i]? = some o) (hg : o.guard = none) (h : o.wp P a w (wpOps P ops Q rest) Q) : wpOps P ops Q (i :: rest) a w := by
  rw [wpOps_cons]
  unfold wpOp
  rw [ho]
  simp only
  have hw : Region.wanted o (yielded ops a.tmps) = true := by
    unfold Region.wanted
    rw [hg]
  rw [if_pos hw]
  exact .inl h
theorem hand_val {o : Oper} {a : Act} {w w' : World} {v : Value} {K : Act → World → Prop} {Q : Exit → Act → World → Prop} (h : (execOp a.eval o).run P w = .ok (.value v) w') (hK : K (a.put o.dst v) w') : o.wp P a w K Q := by
  unfold Oper.wp
  rw [h]
  exact hK
theorem hand_call {o : Oper} {a : Act} {w : World} {F : FuncId} {args : Array Value} {K : Act → World → Prop} {Q : Exit → Act → World → Prop} (h : (execOp a.eval o).run P w = .ok (.enter F args) w) (hc : Calls P F args w fun e w' => ∃ v, e = .returned v ∧ K (a.put o.dst v) w') : o.wp P a w K Q := by
  unfold Oper.wp
  rw [h]
  refine hc.mono ?_
  rintro e w' ⟨v, rfl, hK⟩
  exact hK
end
section
variable {n : Nat} {w0 : World} {M : Nat → Option Value} {N0 : NG} {s : St} {a : Act} {w : World}
theorem tel_put {t : Nat} {x : AV} {v : Value} (h : TelS n w0 M N0 s a w) (ht : t < n) (hx : ∀ φ N, Rep w φ N x v) : TelS n w0 M N0 (s.put (some t) x) (a.put (some t) v) w := by
  obtain ⟨φ, N, R⟩ := h
  have := R.put (d := some t) ht (hx φ N)
  refine ⟨φ, N, ?_⟩
  have e : fE s.E (some t) x = (s.put (some t) x).E := by
    funext u
    show _ = look u ((t, x) :: s.env)
    rw [look_if]
    unfold fE
    by_cases hu : u = t
    · subst hu; simp
    · rw [if_neg hu, if_neg (fun e => hu (Option.some.inj e).symm)]
      rfl
  rw [e] at this
  exact this
theorem put_E {t : Nat} {x : AV} : fE s.E (some t) x = (s.put (some t) x).E := by
  funext u
  show _ = look u ((t, x) :: s.env)
  rw [look_if]
  unfold fE
  by_cases hu : u = t
  · subst hu; simp
  · rw [if_neg hu, if_neg (fun e => hu (Option.some.inj e).symm)]
    rfl
theorem tel_move {t u : Nat} {x : AV} (h : TelS n w0 M N0 s a w) (ht : t < n) (hx : look u s.env = some x) : TelS n w0 M N0 (s.put (some t) x) (a.put (some t) (a.eval (.tmp u))) w := by
  obtain ⟨φ, N, R⟩ := h
  have := R.put (d := some t) ht (R.env u x hx)
  rw [put_E] at this
  exact ⟨φ, N, this⟩
theorem tel_any {env env' : List (Nat × AV)} {lbl : List (Nat × Option LB)} {nx : Nat} (h : TelS n w0 M N0 ⟨env, lbl, nx⟩ a w) (he : ∀ t x, look t env' = some x → look t env = some x ∨ x = .any) : TelS n w0 M N0 ⟨env', lbl, nx⟩ a w := by
  obtain ⟨φ, N, R⟩ := h
  refine ⟨φ, N, ⟨R.defers, R.size, R.bel, R.ext, R.low, R.nb, fun t x hx => ?_, R.lbl, R.mine, R.disj, R.fresh⟩⟩
  rcases he t x hx with h | rfl
  · exact R.env t x h
  · exact .any _
theorem look_cons {t u : Nat} {x : AV} {env : List (Nat × AV)} : look t ((u, x) :: env) = if t = u then some x else look t env := look_if t u x env
def Less (env env' : List (Nat × AV)) : Prop := ∀ t x, look t env' = some x → look t env = some x ∨ x = .any
theorem Less.refl (env : List (Nat × AV)) : Less env env := fun _ _ h => .inl h
theorem Less.cons {env env' : List (Nat × AV)} (u : Nat) {y y' : AV} (h : Less env env') (hy : y' = y ∨ y' = .any) : Less ((u, y) :: env) ((u, y') :: env') := by
  intro t x hx
  rw [look_cons] at hx ⊢
  by_cases e : t = u
  · rw [if_pos e] at hx ⊢
    obtain rfl := Option.some.inj hx
    rcases hy with rfl | rfl
    · exact .inl rfl
    · exact .inr rfl
  · rw [if_neg e] at hx ⊢
    exact h t x hx
theorem tel_below {w' : World} (h : TelS n w0 M N0 s a w) (hb : Below w.heap.size w w') : TelS n w0 M N0 s a w' := by
  obtain ⟨φ, N, R⟩ := h
  exact ⟨φ, N, R.below hb⟩
theorem tel_raw {t : Nat} {v : Value} (h : TelS n w0 M N0 s a w) (hx : look t s.env = some (.raw v)) : a.eval (.tmp t) = v := by
  obtain ⟨φ, N, R⟩ := h
  have h1 : Rep w φ N (.raw v) (a.tmps.getD t undef) := R.env t _ hx
  exact h1.of_raw
end
section
variable {P : Program} {n : Nat} {w0 : World} {M : Nat → Option Value} {N0 : NG} {ops : Array Oper} {Q : Exit → Act → World → Prop} {i : Nat} {rest : List Nat} {a : Act} {w : World} {s : St} {t : Nat} {op : Op} {ty : TypeId} {po : String} {af : Array Edge}
theorem step_valN (x : AV) (v : Value) (ho : ops[i]? = some ⟨some t, op, ty, po, af, none⟩) (ht : t < n) (hr : (execOp a.eval ⟨some t, op, ty, po, af, none⟩).run P w = .ok (.value v) w) (hx : ∀ φ N, Rep w φ N x v) (h : TelS n w0 M N0 s a w) (hK : ∀ a', TelS n w0 M N0 (s.put (some t) x) a' w → wpOps P ops Q rest a' w) : wpOps P ops Q (i :: rest) a w :=
  hand_op ho rfl (hand_val hr (hK _ (tel_put h ht hx)))
theorem step_raw (v : Value) (ho : ops[i]? = some ⟨some t, op, ty, po, af, none⟩) (ht : t < n) (hr : (execOp a.eval ⟨some t, op, ty, po, af, none⟩).run P w = .ok (.value v) w) (h : TelS n w0 M N0 s a w) (hK : ∀ a', TelS n w0 M N0 (s.put (some t) (.raw v)) a' w → wpOps P ops Q rest a' w) : wpOps P ops Q (i :: rest) a w :=
  step_valN (.raw v) v ho ht hr (fun _ _ => .raw v) h hK
theorem step_move (x : AV) {u : Nat} (ho : ops[i]? = some ⟨some t, .move (.tmp u), ty, po, af, none⟩) (ht : t < n) (hu : look u s.env = some x) (h : TelS n w0 M N0 s a w) (hK : ∀ a', TelS n w0 M N0 (s.put (some t) x) a' w → wpOps P ops Q rest a' w) : wpOps P ops Q (i :: rest) a w :=
  hand_op ho rfl (hand_val rfl (hK _ (tel_move h ht hu)))
theorem step_assign (x : AV) {u : Nat} (ho : ops[i]? = some ⟨some t, .assign (.tmp u), ty, po, af, none⟩) (ht : t < n) (hu : look u s.env = some x) (h : TelS n w0 M N0 s a w) (hK : ∀ a', TelS n w0 M N0 (s.put (some t) x) a' w → wpOps P ops Q rest a' w) : wpOps P ops Q (i :: rest) a w :=
  hand_op ho rfl (hand_val rfl (hK _ (tel_move h ht hu)))
theorem ext_run {u : Operand} {k : Nat} {l : Array Value} (hk : k < l.size) (h : a.eval u = .tuple l) {d : Option Tmp} : (execOp a.eval ⟨d, .extract u k, ty, po, af, none⟩).run P w = .ok (.value l[k]) w := by
  simp [execOp, h, Instr.extract, hk]
end
/-! A region by hand, its slots read one by one. -/
section
variable {a : Act} {t u : Nat} {v : Value}
theorem ev_hit (h : t < a.tmps.size) : (a.put (some t) v).eval (.tmp t) = v := by
  simp [Act.put, Act.eval, Array.getD, h]
theorem ev_miss (h : ¬ u = t) : (a.put (some t) v).eval (.tmp u) = a.eval (.tmp u) := by
  have h' : ¬ t = u := fun e => h e.symm
  simp [Act.put, Act.eval, Array.getD_eq_getD_getElem?, Array.getElem?_setIfInBounds, h']
theorem sz_put : (a.put (some t) v).tmps.size = a.tmps.size := by simp [Act.put]
theorem ev_const : a.eval (.const v) = v := rfl
end
section
variable {P : Program}
theorem hand_skip {ops : Array Oper} {Q : Exit → Act → World → Prop} {i : Nat} {rest : List Nat} {a : Act} {w w' : World} {o : Oper} (ho : ops[i]? = some o) (hg : o.guard = none) (h : (execOp a.eval o).run P w = .ok .skip w') (hd : o.dst = none) (hK : wpOps P ops Q rest a w') : wpOps P ops Q (i :: rest) a w := by
  refine hand_op ho hg ?_
  unfold Oper.wp
  rw [h]
  show wpOps P ops Q rest (a.put o.dst undef) w'
  rw [hd]
  exact hK
theorem hand_v {ops : Array Oper} {Q : Exit → Act → World → Prop} {i : Nat} {rest : List Nat} {a : Act} {w w' : World} {v : Value} {o : Oper} (ho : ops[i]? = some o) (hg : o.guard = none) (h : (execOp a.eval o).run P w = .ok (.value v) w') (hK : wpOps P ops Q rest (a.put o.dst v) w') : wpOps P ops Q (i :: rest) a w :=
  hand_op ho hg (hand_val h hK)
/-- All cells of a slice are written at once. -/
theorem run_copy_all (w : World) (dT sT ty elem : TypeId) (i : TypeInfo) (g dLen dCap : Nat) (a : Addr) (sLen sCap : Nat) (cur : Array Value) (t : TypeId) (cs : List Value)
    (hu : P.underlying dT = some (.slice elem)) (hs : P.info? elem = some i)
    (hg : w.heap[g]? = some (.cells cur t (0, 0))) (hn : cs.length = Nat.min sLen dLen * i.size)
    (hsrc : ∀ j v, cs[j]? = some v → w.cell? (a.add j) = some v) (hfit : cs.length ≤ cur.size) (h1 : ∀ v ∈ cs, v.oneCell' = true) :
    (Builtin.copy_ #[dT, sT] ty #[.slice (some ⟨g, 0, none⟩) dLen dCap, .slice (some a) sLen sCap]).run P w =
      .ok (goInt (Nat.min sLen dLen : Nat)) (w.setRow g (cs ++ cur.toList.drop cs.length).toArray) := by
  have hl := run_loadCells_list (P := P) w a cs hsrc
  have hst := run_storeCells_at P g 0 t cs 0 cur w hg (by simpa using hfit) h1
  simp only [Nat.add_zero, Nat.zero_add, List.take_zero, List.nil_append] at hst
  simp [Builtin.copy_, run_underlying hu, Builtin.lenOf, Builtin.firstCells, sizeOf, typeInfo, hs, ← hn, hl, hst]
end
/-- copy, to a slice of the call's own that is as long. -/
theorem copy_hand {P : Program} {tt : TypeId → Option TI} (hT : TOk P tt) (k0 L sz e : Nat) (rows rows0 : List (List AV)) (env : List (Nat × AV)) (lbl : List (Nat × Option LB)) (nx t8 t0 d1 d2 d3 : Nat) {ei : TI} {y0 y1 y2 ty te : TypeId} {p0 p1 p2 : String} {a0 a1 a2 : Array Edge}
    (h8 : look t8 env = some (.own L)) (h0 : look t0 env = some (.sl sz rows)) (hL : look L lbl = some (some (.row e sz rows0))) (hn : rows0.length = rows.length) (hpos : 0 < rows.length) (hone : allOne rows.flatten = true) (hty : tSlice tt ty = some (te, ei)) (hsz : ei.size = sz) (n1 : ¬ t0 = d1) (n2 : ¬ d1 = d2) :
    RegH P k0 #[⟨some d1, .move (.tmp t8), y0, p0, a0, none⟩, ⟨some d2, .move (.tmp t0), y1, p1, a1, none⟩, ⟨some d3, .call { callee := .builtin .copy, args := #[.tmp d1, .tmp d2], argTypes := #[ty, ty] }, y2, p2, a2, none⟩] false
      ⟨env, lbl, nx⟩ ⟨(d3, .int rows.length) :: (d2, .sl sz rows) :: (d1, .own L) :: env, (L, some (.row e sz rows)) :: lbl, nx⟩ := by
  intro n w0 M N0 a w Q hM hd ht hQ
  refine ⟨fun _ => ?_, fun h => by cases h⟩
  simp only [dstsOk, dstLt, Bool.and_eq_true] at hd
  obtain ⟨q1, q2, q3, _⟩ := hd
  have q1 := blt_lt q1
  have q2 := blt_lt q2
  have q3 := blt_lt q3
  show wpOps _ _ _ [0, 1, 2] a w
  refine step_move (.own L) (u := t8) rfl q1 h8 ht fun b1 u1 => ?_
  refine step_move (.sl sz rows) (u := t0) rfl q2 (by show look t0 ((d1, _) :: env) = _; rw [look_cons, if_neg n1]; exact h0) u1 fun b2 u2 => ?_
  clear u1 ht
  have u2' := u2
  obtain ⟨φ, N, R⟩ := u2
  have r1 : Rep w φ N (.own L) (b2.eval (.tmp d1)) := R.env d1 _ (by show look d1 ((d2, _) :: (d1, _) :: env) = _; rw [look_cons, if_neg n2, look_cons, if_pos rfl])
  have r2 : Rep w φ N (.sl sz rows) (b2.eval (.tmp d2)) := R.env d2 _ (by show look d2 ((d2, _) :: (d1, _) :: env) = _; rw [look_cons, if_pos rfl])
  have hLL : (St.lb ⟨(d2, AV.sl sz rows) :: (d1, AV.own L) :: env, lbl, nx⟩) L = some (.row e sz rows0) := by
    show (look L lbl).getD none = _
    rw [hL]; rfl
  obtain ⟨v, xs, hφ, hv1, ho, hs, hr, hNb⟩ := R.lbl _ _ hLL
  have hLL' := hLL
  obtain ⟨x1, hx1⟩ : ∃ x, b2.eval (.tmp d1) = x := ⟨_, rfl⟩
  obtain ⟨x2, hx2⟩ : ∃ x, b2.eval (.tmp d2) = x := ⟨_, rfl⟩
  rw [hx1] at r1
  rw [hx2] at r2
  have e1 : x1 = v := by
    cases r1 with
    | own _ _ h _ => rw [hφ] at h; exact (Option.some.inj h).symm
  subst e1
  rcases ho.2 with ⟨rfl, hz⟩ | ⟨g, cap, cur, rfl, hbg, hg, hnc, hcm, hcs, htake⟩
  · omega
  cases r2 with
  | slnil => simp at hpos
  | slz => simp at hpos
  | sl _ _ b o c cell hc hNb2 hsz2 hw hr2 =>
    obtain ⟨hu, info, hin, hn'⟩ := tSlice_info hT hty
    have hfl := flat_len _ _ hsz2
    have hcl : ((List.range (rows.length * sz)).map cell).length = rows.length * sz := by simp
    have hcc : ∀ j u, ((List.range (rows.length * sz)).map cell)[j]? = some u → w.cell? ((⟨b, o, none⟩ : Addr).add j) = some u := by
      intro j u hu'
      have hj := getElem?_lt hu'
      simp at hj
      rw [List.getElem?_map, List.getElem?_range hj] at hu'
      obtain rfl := Option.some.inj hu'
      rw [addr_add]
      exact hw j (by omega)
    have hcr : ∀ i x, rows.flatten[i]? = some x → Rep w φ N x (((List.range (rows.length * sz)).map cell).getD i undef) := by
      intro i x hx
      have hi := getElem?_lt hx
      have : ((List.range (rows.length * sz)).map cell).getD i undef = cell i := by
        rw [List.getD_eq_getElem?_getD, List.getElem?_map, List.getElem?_range (by omega)]
        rfl
      rw [this]
      exact hr2 i x hx
    generalize ((List.range (rows.length * sz)).map cell) = cs at hcl hcc hcr
    have hc1 := one_rows hone (by omega) hcr
    have hsi : info.size = sz := by omega
    have hmin : Nat.min rows.length rows0.length = rows.length := by rw [hn]; exact Nat.min_self _
    have hfit : cs.length ≤ cur.size := by
      rw [hcl, hcs, ← hn]
      exact Nat.mul_le_mul_right _ hnc
    have hrun := run_copy_all (P := P) w ty ty y2 te info g rows0.length cap ⟨b, o, none⟩ rows.length c cur e cs hu hin hg (by rw [hmin, hcl, hsi]) hcc hfit hc1
    rw [hmin] at hrun
    have htn := turned_setRow w g (cs ++ cur.toList.drop cs.length).toArray
    have hex : (execOp b2.eval ⟨some d3, .call { callee := .builtin .copy, args := #[.tmp d1, .tmp d2], argTypes := #[ty, ty] }, y2, p2, a2, none⟩).run P w = .ok (.value (goInt (rows.length : Nat))) (w.setRow g (cs ++ cur.toList.drop cs.length).toArray) := by
      simp [execOp, resolve, invoke, builtin, hx1, hx2, hrun]
    have hown : (w.setRow g (cs ++ cur.toList.drop cs.length).toArray).ownsRow 0 e sz (.slice (some ⟨g, 0, none⟩) rows0.length cap) rows.length cs := by
      refine ⟨hcl, .inr ⟨g, cap, _, by rw [hn], hbg, setRow_heap w g cur _ e _ hg, by omega, hcm, ?_, ?_⟩⟩
      · simp only [List.size_toArray, List.length_append, List.length_drop, Array.length_toList]
        omega
      · simp only [List.toList_toArray]
        rw [← hcl]
        exact List.take_left
    have hNg : ¬ N g := hNb g rfl
    have R' := R.turn (w' := w.setRow g (cs ++ cur.toList.drop cs.length).toArray) (l := L) (b := g) hLL hφ rfl (R.mine L _ _ g hLL hφ rfl) hNg htn (B := .row e sz rows)
      ⟨_, cs, hφ, rfl, hown, hsz2, fun i x hx => (hcr i x hx).turned htn.grown R.low hNg, fun b' hb' => by obtain rfl := Option.some.inj hb'; exact hNg⟩
    refine hand_v rfl rfl hex ?_
    refine hQ _ _ ⟨φ, N, ?_⟩
    have := R'.put (d := some d3) q3 (x := .int rows.length) (v := goInt (rows.length : Nat)) (.raw _)
    rw [put_E] at this
    have e2 : fS (St.lb ((St.put ⟨env, lbl, nx⟩ (some d1) (.own L)).put (some d2) (.sl sz rows))) L (some (.row e sz rows)) = St.lb ⟨(d3, .int rows.length) :: (d2, .sl sz rows) :: (d1, .own L) :: env, (L, some (.row e sz rows)) :: lbl, nx⟩ := by
      rw [lb_cons]
      rfl
    rw [e2] at this
    exact this
end Go.Proofs.YtnnjjblgilibgaaGreatV

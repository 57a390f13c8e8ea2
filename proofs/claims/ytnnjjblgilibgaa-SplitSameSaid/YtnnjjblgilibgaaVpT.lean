import Derived.Test.YtnnjjblgilibgaaVpA
import Derived.Test.YtnnjjblgilibgaaProg
import Derived.Below
import Derived.Deep.Draws
import Derived.WalkKit
import Derived.KernelRfl
import Derived.Deep.LoopGhost
import Derived.Deep.QuietTactic
import Derived.BigQuiet
import Derived.Deep.DeepCutAuto
import Derived.Deep.RegionHeld3
import Derived.Laws.Rows
import Derived.Deep.DeepFit
import Derived.Lib.Hide
import Derived.MapKept
import Derived.LoopN
import Derived.OwnWalk
import Derived.RangeFuncNested
import Derived.RangeFuncBound
import Derived.RangeFuncCalls
import Derived.RangeFuncLeaves
import Derived.RangeFuncFrom
import Derived.Shelf.Abstract
import Derived.Shelf.RegionOpen
import Derived.Shelf.RegionOpenPlain
import Derived.OwnWalkIn
import Derived.TacticsInMore
import Derived.LoopNIn
import Derived.LoopIn
import Derived.Sort.BigQuietIn
/- The terms of an angle's series, in order: a function that is gone through. -/
namespace Go.Proofs.YtnnjjblgilibgaaV
open Go Go.RowKit
set_option linter.unusedSimpArgs false
set_option linter.unusedVariables false
def KeepsAt (p : Addr) (W W' : World) : Prop := ∀ v, W.cell? p = some v → W'.cell? p = some v
theorem KeepsAt.t {p : Addr} {A B C : World} (h : KeepsAt p A B) (k : KeepsAt p B C) : KeepsAt p A C := fun v hv => k v (h v hv)
theorem KeepsAt.b {b o : Nat} {w : World} (W : World) (l : Nat) (x x' : Obj) (_ : w.heap.size ≤ l) (h : W.heap[l]? = some x) (hc : x.isCells = false) (_ : x.isWalk = false) : KeepsAt ⟨b, o, none⟩ W (W.putObj l x') := fun v hv => Go.cell_kept hv (grownBy_putObj' W l x') (fun r e => by cases e; exact ⟨_, h, hc⟩)
/-- Row j's power. -/
def apow (n : Int) : Nat → Int
  | 0 => Int.tdiv 72057594037927936 n
  | k + 1 => Int.tdiv (Int.tdiv (apow n k) n) n
def asign : Nat → Int
  | 0 => 1
  | k + 1 => -asign k
def aterm (n : Int) (k : Nat) : Int := asign k * Int.tdiv (apow n k) (2 * (k : Int) + 1)
/-- How many terms there are. -/
def acount (n : Int) : Nat := ((List.range 40).takeWhile fun k => decide (0 < apow n k)).length
def atake (n : Int) (k : Nat) : List Int := (List.range k).map (aterm n)
def asumTo (n : Int) (k : Nat) : Int := (atake n k).foldl (fun s x => wrap64 (s + x)) 0
theorem atake_succ (n : Int) (k : Nat) : atake n (k + 1) = atake n k ++ [aterm n k] := by
  unfold atake
  rw [List.range_succ, List.map_append]
  rfl
theorem asumTo_succ (n : Int) (k : Nat) : asumTo n (k + 1) = wrap64 (asumTo n k + aterm n k) := by
  unfold asumTo
  rw [atake_succ, List.foldl_append]
  rfl
theorem apow_bd {n : Int} (hn : 2 ≤ n) (k : Nat) : 0 ≤ apow n k ∧ apow n k * 4 ^ k ≤ 36028797018963968 := by
  induction k with
  | zero =>
    rw [apow, Int.tdiv_eq_ediv_of_nonneg (by decide)]
    refine ⟨Int.ediv_nonneg (by decide) (by omega), ?_⟩
    rw [Int.pow_zero, Int.mul_one]
    exact Int.ediv_le_of_le_mul (by omega) (by have := Int.mul_le_mul_of_nonneg_left hn (show (0 : Int) ≤ 36028797018963968 by decide); omega)
  | succ k ih =>
    have h1 : 0 ≤ apow n k / n := Int.ediv_nonneg ih.1 (by omega)
    have h2 : 0 ≤ apow n k / n / n := Int.ediv_nonneg h1 (by omega)
    rw [apow, Int.tdiv_eq_ediv_of_nonneg ih.1, Int.tdiv_eq_ediv_of_nonneg h1]
    refine ⟨h2, ?_⟩
    have h3 : apow n k / n / n * 4 ≤ apow n k := by
      have a1 : apow n k / n * n ≤ apow n k := Int.ediv_mul_le _ (by omega)
      have a2 : apow n k / n / n * n ≤ apow n k / n := Int.ediv_mul_le _ (by omega)
      have a3 := Int.mul_le_mul_of_nonneg_left hn h1
      have a4 := Int.mul_le_mul_of_nonneg_left hn h2
      omega
    have h4 : (0 : Int) ≤ 4 ^ k := Int.pow_nonneg (by decide)
    have h5 := Int.mul_le_mul_of_nonneg_right h3 h4
    rw [Int.pow_succ, Int.mul_comm (4 ^ k) 4, ← Int.mul_assoc]
    omega
theorem one_le_four (m : Nat) : (1 : Int) ≤ 4 ^ m := by
  have : (0 : Int) < 4 ^ m := Int.pow_pos (by decide)
  omega
theorem apow_zero {n : Int} (hn : 2 ≤ n) {k : Nat} (hk : 28 ≤ k) : apow n k = 0 := by
  obtain ⟨h0, h1⟩ := apow_bd hn k
  have h2 : (4 : Int) ^ 28 ≤ 4 ^ k := by
    obtain ⟨m, rfl⟩ : ∃ m, k = 28 + m := ⟨k - 28, by omega⟩
    rw [Int.pow_add]
    have := Int.mul_le_mul_of_nonneg_left (one_le_four m) (show (0 : Int) ≤ 4 ^ 28 by decide)
    omega
  have h3 : (4 : Int) ^ 28 = 72057594037927936 := by decide
  rcases Int.lt_or_le 0 (apow n k) with h | h
  · have := Int.mul_le_mul_of_nonneg_right (show (1 : Int) ≤ apow n k by omega) (show (0 : Int) ≤ 4 ^ k by omega)
    omega
  · omega
/-- The first one that is 0 is the count's. -/
theorem acount_spec {n : Int} (hn : 2 ≤ n) : acount n ≤ 28 ∧ apow n (acount n) = 0 ∧ ∀ k < acount n, 0 < apow n k := by
  have key : ∀ (m s : Nat), (∃ j, j < m ∧ apow n (s + j) = 0) → ((List.range' s m).takeWhile fun k => decide (0 < apow n k)).length < m ∧ apow n (s + ((List.range' s m).takeWhile fun k => decide (0 < apow n k)).length) = 0 ∧ ∀ k, k < ((List.range' s m).takeWhile fun k => decide (0 < apow n k)).length → 0 < apow n (s + k) := by
    intro m
    induction m with
    | zero => rintro s ⟨j, hj, _⟩; omega
    | succ m ih =>
      rintro s ⟨j, hj, hz⟩
      rw [List.range'_succ]
      by_cases h : 0 < apow n s
      · rw [List.takeWhile_cons_of_pos (by simpa using h)]
        have hj0 : j ≠ 0 := by rintro rfl; rw [Nat.add_zero] at hz; omega
        obtain ⟨q1, q2, q3⟩ := ih (s + 1) ⟨j - 1, by omega, by rw [show s + 1 + (j - 1) = s + j by omega]; exact hz⟩
        rw [List.length_cons]
        refine ⟨by omega, ?_, fun k hk => ?_⟩
        · rw [show ∀ L : Nat, s + (L + 1) = s + 1 + L from fun L => by omega]
          exact q2
        rcases Nat.eq_zero_or_pos k with rfl | hk0
        · simpa using h
        · have := q3 (k - 1) (by omega)
          rw [show s + 1 + (k - 1) = s + k by omega] at this
          exact this
      · rw [List.takeWhile_cons_of_neg (by simpa using h)]
        have := (apow_bd hn s).1
        refine ⟨by simp, by simp only [List.length_nil, Nat.add_zero]; omega, fun k hk => by simp at hk⟩
  have h40 := key 40 0 ⟨28, by decide, apow_zero hn (by decide)⟩
  simp only [Nat.zero_add] at h40
  have e : acount n = ((List.range' 0 40).takeWhile fun k => decide (0 < apow n k)).length := by
    unfold acount
    rw [List.range_eq_range']
  rw [← e] at h40
  refine ⟨?_, h40.2.1, h40.2.2⟩
  rcases Nat.lt_or_ge 28 (acount n) with h | h
  · have := h40.2.2 28 h
    rw [apow_zero hn (by decide)] at this
    omega
  · exact h
theorem apow_le {n : Int} (hn : 2 ≤ n) (k : Nat) : 0 ≤ apow n k ∧ apow n k ≤ 36028797018963968 := by
  obtain ⟨h0, h1⟩ := apow_bd hn k
  have h4 := one_le_four k
  have := Int.mul_le_mul_of_nonneg_left h4 h0
  omega
theorem asign_or (k : Nat) : asign k = 1 ∨ asign k = -1 := by
  induction k with
  | zero => exact .inl rfl
  | succ k ih => rw [asign]; omega
theorem tdiv_nonneg_le {a b : Int} (ha : 0 ≤ a) (hb : 1 ≤ b) : 0 ≤ a.tdiv b ∧ a.tdiv b ≤ a := by
  rw [Int.tdiv_eq_ediv_of_nonneg ha]
  exact ⟨Int.ediv_nonneg ha (by omega), Int.ediv_le_self b ha⟩
/-- The inner quotient, where nothing is below 0. -/
theorem arc_div.at (x d : Int) (w : World) (hx : 0 ≤ x) (hd : 1 ≤ d) (hx2 : x ≤ 72057594037927936) :
    Calls Try.prog 103 #[.int .i64 x, .int .i64 d] w fun e w' => e = .returned (.int .i64 (x.tdiv d)) ∧ w' = w := by
  have hm : 0 ≤ x.tmod d := Int.tmod_nonneg d hx
  have hd0 : d ≠ 0 := by omega
  have hm2 : 0 ≤ x % d := Int.emod_nonneg x hd0
  have hq := tdiv_nonneg_le hx hd
  have HW := Lib.hid (show IntKind.i64.wrap (x.tdiv d) = x.tdiv d by rw [IntKind.wrap_i64]; omega)
  have hw := HW.out
  go_enter Try.func103, Try.ntmps103
  go_wp2
  go_ret
  exact ⟨rfl, rfl⟩
section
attribute [local go_sem] Oper.semAt_some
abbrev aenc (x : Int) : Array Value := #[.int .i64 x]
set_option maxRecDepth 100000 in
set_option maxHeartbeats 4000000 in
/-- The iterator gives these terms, in order; or stops. -/
theorem arc_terms.stops (m : Nat) (hm : 4 ≤ m) (n : Int) (hn : 2 ≤ n) (hn2 : n ≤ 17592186044416) (B o1 : Nat) (w : World) (hb : w.cell? ⟨B, o1, none⟩ = some (.int .i64 n)) :
    SeqStopsK Fence.wide m Try.prog 102 #[.pointer (some ⟨B, o1, none⟩)] aenc (KeepsAt ⟨B, o1, none⟩) (fun xs => xs = atake n (acount n)) (fun _ => True) (acount n) w := fun l J Jx W hWb hJ hJx hY h0 => by
  obtain ⟨c1, c2, c3⟩ := acount_spec hn
  refine callsIn_of_wp Try.func102 rfl trivial ?_ rfl
  simp only [Try.ntmps102, List.size_toArray, List.length_cons, List.length_nil, Nat.reduceAdd, Nat.reduceSub, Array.replicate_succ, Array.replicate_zero, List.push_toArray, List.append_toArray, List.nil_append, List.cons_append]
  have hbW : W.cell? ⟨B, o1, none⟩ = some (.int .i64 n) := (hWb.cell (p := ⟨B, o1, none⟩) (World.block_lt_of_cell? w _ hb)).trans hb
  have hd := apow_le hn
  gi_wp2_with (fail)
  refine ⟨trivial, fun _ => by omega, ?_⟩
  refine (callsIn_wide.2 (arc_div.at 72057594037927936 n W (by decide) (by omega) (by decide))).mono ?_
  rintro e w' ⟨rfl, rfl⟩
  gi_wp2
  gi_loopw [3, 4, 5] (fun s o p wr => ∃ k : Nat, k ≤ acount n ∧ s = .int .i64 (asign k) ∧ o = .int .i64 (2 * (k : Int) + 1) ∧ p = .int .i64 (apow n k) ∧ J (atake n k) wr ∧ wr.cell? ⟨B, o1, none⟩ = some (.int .i64 n)) (fun s o p wr => 100 - (intOf o).toNat)
  case atStart => exact ⟨0, Nat.zero_le _, rfl, rfl, rfl, h0, hbW⟩
  case round =>
    obtain ⟨k, hk, rfl, rfl, rfl, hJk, hbk⟩ := hrel
    by_cases hlt : k < acount n
    · have hpos := c3 k hlt
      obtain ⟨fn, tmps, assign, body, hy, hR⟩ := hY (atake n k) (aterm n k) wr hJk (by simp [atake]; exact hlt)
      dsimp only [aenc] at hy
      have hterm : wrap64 (asign k * Int.tdiv (apow n k) (2 * (k : Int) + 1)) = aterm n k := by
        have h1 := asign_or k
        have h2 := tdiv_nonneg_le (hd k).1 (show 1 ≤ 2 * (k : Int) + 1 by omega)
        have h3 := (hd k).2
        unfold aterm
        generalize Int.tdiv (apow n k) (2 * (k : Int) + 1) = q at *
        rcases h1 with h1 | h1 <;> rw [h1] <;> unfold wrap64 <;> omega
      gi_wp2_with (fail)
      refine ⟨trivial, fun _ => by omega, ?_⟩
      refine (callsIn_wide.2 (arc_div.at (apow n k) (2 * (k : Int) + 1) wr (hd k).1 (by omega) (by have := (hd k).2; omega))).mono ?_
      rintro e w' ⟨rfl, rfl⟩
      gi_wp2_with (fail)
      rw [← atake_succ] at hR
      refine ⟨fun _ => by omega, ?_⟩
      refine hR.mono ?_
      rintro e W' (⟨rfl, hJ', hk'⟩ | ⟨rfl, hx⟩)
      · have hb' : W'.cell? ⟨B, o1, none⟩ = some (.int .i64 n) := hk' _ hbk
        have hmx : Try.prog.follows .mixedOrders = true := by kernel_rfl
        have hs1 : wrap64 (-asign k) = asign (k + 1) := by
          have := asign_or k
          rw [asign]
          unfold wrap64
          omega
        have ho1 : wrap64 (2 * (k : Int) + 1 + 2) = 2 * ((k + 1 : Nat) : Int) + 1 := by
          unfold wrap64
          omega
        clear hbk hy hR
        gi_wp2
        have hp1 := tdiv_nonneg_le (hd k).1 (show 1 ≤ n by omega)
        have hpn : (Int.tdiv (apow n k) n).tdiv n = apow n (k + 1) := rfl
        have hdk := hd k
        gi_region_with_o (refine ⟨trivial, fun _ => by omega, ?_⟩; first | (with_reducible refine (callsIn_wide.2 (arc_div.at (apow n k) n _ (by omega) (by omega) (by omega))).mono ?_; rintro e w' ⟨rfl, rfl⟩) | (with_reducible refine (callsIn_wide.2 (arc_div.at (Int.tdiv (apow n k) n) n _ (by omega) (by omega) (by omega))).mono ?_; rintro e w' ⟨rfl, rfl⟩))
        all_goals
          have hJd := hJ _ _ W'.drew none hJ' ⟨rfl, rfl, rfl, Nat.le_refl _, fun _ _ _ => rfl⟩ (fun r e => by cases e)
          simp only [List.getElem_toArray, List.getElem_cons_succ, List.getElem_cons_zero, Act.put, List.setIfInBounds_toArray, List.set_cons_zero, List.set_cons_succ]
          gi_wp2
          go_roundw
          case rel => exact ⟨k + 1, by omega, rfl, by congr 1, rfl, hJd, by simpa using hb'⟩
          case measure => simp [intOf]; omega
      · gi_wp2
        refine bodyPost_ret (results_none rfl _ _ _) rfl ?_
        exact ⟨⟨_, rfl⟩, .inr ⟨_, trivial, hx⟩⟩
    · have hk2 : k = acount n := by omega
      subst hk2
      rw [c2]
      gi_wp2
      go_end0
      exact ⟨⟨_, rfl⟩, .inl ⟨_, rfl, hJk⟩⟩
end
end Go.Proofs.YtnnjjblgilibgaaV

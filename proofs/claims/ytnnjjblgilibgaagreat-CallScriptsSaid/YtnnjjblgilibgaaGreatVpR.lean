import Derived.Test.YtnnjjblgilibgaaGreatVgA
import Derived.Test.YtnnjjblgilibgaaGreatProg
import Derived.Below
import Derived.Deep.Draws
import Derived.WalkKit
import Derived.KernelRfl
import Derived.Deep.LoopGhost
import Derived.Deep.QuietTactic
import Derived.BigQuiet
import Derived.Deep.DeepCutAuto
import Derived.Deep.RegionHeld3
import Derived.Laws.Rows
import Derived.Deep.DeepFit
import Derived.Lib.Hide
import Derived.MapKept
import Derived.LoopN
import Derived.OwnWalk
import Derived.RangeFuncNested
import Derived.RangeFuncBound
import Derived.RangeFuncCalls
import Derived.RangeFuncLeaves
import Derived.RangeFuncFrom
import Derived.Shelf.Abstract
import Derived.Shelf.RegionOpen
import Derived.Shelf.RegionOpenPlain
import Derived.OwnWalkIn
import Derived.TacticsInMore
import Derived.LoopNIn
import Derived.LoopIn
import Derived.Sort.BigQuietIn
/- The pairs' places, in order: a function that is gone through. -/
namespace Go.Proofs.YtnnjjblgilibgaaGreatV
open Go Go.RowKit
set_option linter.unusedSimpArgs false
set_option linter.unusedVariables false
def KeepsAtR (p : Addr) (W W' : World) : Prop := ∀ v, W.cell? p = some v → W'.cell? p = some v
theorem KeepsAtR.t {p : Addr} {A B C : World} (h : KeepsAtR p A B) (k : KeepsAtR p B C) : KeepsAtR p A C := fun v hv => k v (h v hv)
theorem KeepsAtR.b {b o : Nat} {w : World} (W : World) (l : Nat) (x x' : Obj) (_ : w.heap.size ≤ l) (h : W.heap[l]? = some x) (hc : x.isCells = false) (_ : x.isWalk = false) : KeepsAtR ⟨b, o, none⟩ W (W.putObj l x') := fun v hv => Go.cell_kept hv (grownBy_putObj' W l x') (fun r e => by cases e; exact ⟨_, h, hc⟩)
theorem tdiv_nn_le {a b : Int} (ha : 0 ≤ a) (hb : 1 ≤ b) : 0 ≤ a.tdiv b ∧ a.tdiv b ≤ a := by
  rw [Int.tdiv_eq_ediv_of_nonneg ha]
  exact ⟨Int.ediv_nonneg ha (by omega), Int.ediv_le_self b ha⟩
/-- A pass's halves: of powers of 2. -/
def halfOk (n h : Int) : Prop := (n = 4 ∨ n = 8 ∨ n = 16 ∨ n = 32 ∨ n = 64) ∧ (h = 1 ∨ h = 2 ∨ h = 4 ∨ h = 8 ∨ h = 16 ∨ h = 32) ∧ h < n
/-- A pair's place and its root's. -/
structure PairAt (n h : Int) where
  i : Int
  j : Int
  i0 : 0 ≤ i
  ih : i + h < n
  j0 : 0 ≤ j
  jn : j < n
def isFirst (h : Int) (i : Nat) : Bool := ((i : Int) / h) % 2 == 0
def pairJ (n h : Int) (i : Nat) : Int := ((i : Int) % h) * (n / (2 * h))
def halfTest (a b i : Nat) : Bool :=
  (bits .and .i64 (i : Int) (2 ^ b) == if isFirst (2 ^ b) i = true then 0 else 2 ^ b) && bits .and .i64 (i : Int) (wrap64 ((2 ^ b) - 1)) == (i : Int) % 2 ^ b &&
    (!isFirst (2 ^ b) i || (decide ((i : Int) + 2 ^ b < 2 ^ a) && decide (0 ≤ pairJ (2 ^ a) (2 ^ b) i) && decide (pairJ (2 ^ a) (2 ^ b) i < 2 ^ a) && wrap64 (((i : Int) % 2 ^ b) * Int.tdiv (2 ^ a) (wrap64 (2 * 2 ^ b))) == pairJ (2 ^ a) (2 ^ b) i && wrap64 (2 * 2 ^ b) != 0))
theorem half_tab : ((List.range 7).all fun a => (List.range a).all fun b => (List.range (2 ^ a)).all fun i => halfTest a b i) = true := by decide +kernel
theorem half_all (a : Nat) (ha : a < 7) (b : Nat) (hb : b < a) (i : Nat) (hi : i < 2 ^ a) : (bits .and .i64 (i : Int) (2 ^ b) = if isFirst (2 ^ b) i = true then 0 else 2 ^ b) ∧ bits .and .i64 (i : Int) (wrap64 ((2 ^ b) - 1)) = (i : Int) % 2 ^ b ∧ (isFirst (2 ^ b) i = true → (i : Int) + 2 ^ b < 2 ^ a ∧ 0 ≤ pairJ (2 ^ a) (2 ^ b) i ∧ pairJ (2 ^ a) (2 ^ b) i < 2 ^ a ∧ wrap64 (((i : Int) % 2 ^ b) * Int.tdiv (2 ^ a) (wrap64 (2 * 2 ^ b))) = pairJ (2 ^ a) (2 ^ b) i ∧ wrap64 (2 * 2 ^ b) ≠ 0) := by
  have h := List.all_eq_true.1 (List.all_eq_true.1 (List.all_eq_true.1 half_tab a (List.mem_range.2 ha)) b (List.mem_range.2 hb)) i (List.mem_range.2 hi)
  unfold halfTest at h
  simp only [Bool.and_eq_true, Bool.or_eq_true, beq_iff_eq, decide_eq_true_eq, Bool.not_eq_true', bne_iff_ne, ne_eq] at h
  obtain ⟨⟨h1, h2⟩, h3⟩ := h
  refine ⟨h1, h2, fun hf => ?_⟩
  rcases h3 with h3 | h3
  · rw [hf] at h3; cases h3
  · exact ⟨h3.1.1.1.1, h3.1.1.1.2, h3.1.1.2, h3.1.2, h3.2⟩
theorem half_fact {n h : Int} (hk : halfOk n h) (i : Nat) (hi : (i : Int) < n) : (bits .and .i64 (i : Int) h = if isFirst h i = true then 0 else h) ∧ bits .and .i64 (i : Int) (wrap64 (h - 1)) = (i : Int) % h ∧ (isFirst h i = true → (i : Int) + h < n ∧ 0 ≤ pairJ n h i ∧ pairJ n h i < n ∧ wrap64 (((i : Int) % h) * Int.tdiv n (wrap64 (2 * h))) = pairJ n h i ∧ wrap64 (2 * h) ≠ 0) := by
  obtain ⟨hn, hh, hl⟩ := hk
  obtain ⟨a, ha, rfl⟩ : ∃ a : Nat, a < 7 ∧ n = 2 ^ a := by
    rcases hn with rfl | rfl | rfl | rfl | rfl
    · exact ⟨2, by decide, by decide⟩
    · exact ⟨3, by decide, by decide⟩
    · exact ⟨4, by decide, by decide⟩
    · exact ⟨5, by decide, by decide⟩
    · exact ⟨6, by decide, by decide⟩
  obtain ⟨b, hb, rfl⟩ : ∃ b : Nat, b < 6 ∧ h = 2 ^ b := by
    rcases hh with rfl | rfl | rfl | rfl | rfl | rfl
    · exact ⟨0, by decide, by decide⟩
    · exact ⟨1, by decide, by decide⟩
    · exact ⟨2, by decide, by decide⟩
    · exact ⟨3, by decide, by decide⟩
    · exact ⟨4, by decide, by decide⟩
    · exact ⟨5, by decide, by decide⟩
  have hba : b < a := by
    rcases Nat.lt_or_ge b a with h' | h'
    · exact h'
    · have := pow_le h'
      omega
  have hi' : i < 2 ^ a := by exact_mod_cast hi
  obtain ⟨h1, h2, h3⟩ := half_all a ha b hba i hi'
  exact ⟨h1, h2, h3⟩
/-- The pairs of the first k places. -/
def pairsTo {n h : Int} (hk : halfOk n h) : (k : Nat) → (k : Int) ≤ n → List (PairAt n h)
  | 0, _ => []
  | k + 1, hl => if hf : isFirst h k = true then pairsTo hk k (by omega) ++ [⟨k, pairJ n h k, by omega, ((half_fact hk k (by omega)).2.2 hf).1, ((half_fact hk k (by omega)).2.2 hf).2.1, ((half_fact hk k (by omega)).2.2 hf).2.2.1⟩] else pairsTo hk k (by omega)
theorem pairsTo_len {n h : Int} (hk : halfOk n h) (k : Nat) (hl : (k : Int) ≤ n) : (pairsTo hk k hl).length ≤ k := by
  induction k with
  | zero => exact Nat.le_refl _
  | succ k ih =>
    have := ih (by omega)
    rw [pairsTo]
    split
    · rw [List.length_append, List.length_singleton]; omega
    · omega
/-- A round that goes on keeps these cells. -/
def KeepsBoth (p q : Addr) (W W' : World) : Prop := KeepsAtR p W W' ∧ KeepsAtR q W W'
theorem KeepsBoth.t {p q : Addr} {A B C : World} (h : KeepsBoth p q A B) (k : KeepsBoth p q B C) : KeepsBoth p q A C := ⟨KeepsAtR.t h.1 k.1, KeepsAtR.t h.2 k.2⟩
theorem KeepsBoth.b {b o b' o' : Nat} {w : World} (W : World) (l : Nat) (x x' : Obj) (h0 : w.heap.size ≤ l) (h : W.heap[l]? = some x) (hc : x.isCells = false) (h1 : x.isWalk = false) : KeepsBoth ⟨b, o, none⟩ ⟨b', o', none⟩ W (W.putObj l x') := ⟨KeepsAtR.b W l x x' h0 h hc h1, KeepsAtR.b W l x x' h0 h hc h1⟩
theorem meas_lt {k : Nat} {n : Int} (h : (k : Int) < n) (h64 : n ≤ 64) : n.toNat - (intOf (.int .i64 (wrap64 ((k : Int) + 1)))).toNat < n.toNat - (intOf (.int .i64 (k : Int))).toNat := by
  have e : wrap64 ((k : Int) + 1) = (k : Int) + 1 := by unfold wrap64; omega
  rw [e]
  simp [intOf]
  omega
theorem meas_lt1 {k : Nat} {n : Int} (h : (k : Int) < n) : n.toNat - (intOf (.int .i64 ((k : Int) + 1))).toNat < n.toNat - (intOf (.int .i64 (k : Int))).toNat := by
  simp [intOf]
  omega
section
attribute [local go_sem] Oper.semAt_some
abbrev penc {n h : Int} (x : PairAt n h) : Array Value := #[.int .i64 x.i, .int .i64 x.j]
set_option maxRecDepth 100000 in
set_option maxHeartbeats 4000000 in
/-- The iterator gives these pairs, in order; or stops. -/
theorem two_pairs.stops (m : Nat) (hm : 4 ≤ m) (n h : Int) (hk : halfOk n h) (hn0 : 0 ≤ n) (A B o1 o2 : Nat) (w : World) (ha : w.cell? ⟨A, o1, none⟩ = some (.int .i64 n)) (hb : w.cell? ⟨B, o2, none⟩ = some (.int .i64 h)) :
    SeqStopsK Fence.wide m Tryz.prog 148 #[.pointer (some ⟨A, o1, none⟩), .pointer (some ⟨B, o2, none⟩)] penc (KeepsBoth ⟨A, o1, none⟩ ⟨B, o2, none⟩) (fun xs => xs = pairsTo hk n.toNat (by omega)) (fun _ => True) n.toNat w := fun l J Jx W hWb hJ hJx hY h0 => by
  refine callsIn_of_wp Tryz.func148 rfl trivial ?_ rfl
  simp only [Tryz.ntmps148, List.size_toArray, List.length_cons, List.length_nil, Nat.reduceAdd, Nat.reduceSub, Array.replicate_succ, Array.replicate_zero, List.push_toArray, List.append_toArray, List.nil_append, List.cons_append]
  have haW : W.cell? ⟨A, o1, none⟩ = some (.int .i64 n) := (hWb.cell (p := ⟨A, o1, none⟩) (World.block_lt_of_cell? w _ ha)).trans ha
  have hbW : W.cell? ⟨B, o2, none⟩ = some (.int .i64 h) := (hWb.cell (p := ⟨B, o2, none⟩) (World.block_lt_of_cell? w _ hb)).trans hb
  gi_wp2
  gi_loopw [6] (fun i wr => ∃ k : Nat, ∃ hl : (k : Int) ≤ n, i = .int .i64 (k : Int) ∧ J (pairsTo hk k hl) wr ∧ wr.cell? ⟨A, o1, none⟩ = some (.int .i64 n) ∧ wr.cell? ⟨B, o2, none⟩ = some (.int .i64 h)) (fun i wr => n.toNat - (intOf i).toNat)
  case atStart => exact ⟨0, by omega, rfl, h0, haW, hbW⟩
  case round =>
    obtain ⟨k, hl, rfl, hJk, hak, hbk⟩ := hrel
    have hmx : Tryz.prog.follows .mixedOrders = true := by kernel_rfl
    by_cases hlt : (k : Int) < n
    · obtain ⟨f1, f2, f3⟩ := half_fact hk k hlt
      have h64 : n ≤ 64 := by obtain ⟨q, _⟩ := hk; omega
      have hs1 : wrap64 ((k : Int) + 1) = ((k + 1 : Nat) : Int) := by
        unfold wrap64
        omega
      by_cases hf : isFirst h k = true
      · obtain ⟨g1, g2, g3, g4, g5⟩ := f3 hf
        rw [if_pos hf] at f1
        have e1 : pairsTo hk (k + 1) (by omega) = pairsTo hk k hl ++ [⟨k, pairJ n h k, by omega, g1, g2, g3⟩] := by
          rw [pairsTo, dif_pos hf]
        have hJd := hJ _ _ wr.drew none hJk ⟨rfl, rfl, rfl, Nat.le_refl _, fun _ _ _ => rfl⟩ (fun r e => by cases e)
        obtain ⟨fn, tmps, assign, body, hy, hR⟩ := hY (pairsTo hk k hl) ⟨k, pairJ n h k, by omega, g1, g2, g3⟩ wr.drew hJd (by have := pairsTo_len hk k hl; omega)
        rw [← e1] at hR
        dsimp only [penc] at hy
        have hh0 : 1 ≤ h ∧ h ≤ 32 := by obtain ⟨_, q, _⟩ := hk; omega
        have z1 : IntKind.i64.wrap (2 * h) = 2 * h := by rw [IntKind.wrap_i64]; omega
        have z2 : wrap64 (2 * h) = 2 * h := by unfold wrap64; omega
        have z3 : ¬ h = 0 := by omega
        have z4 : ¬ (2 * h = 0) := by omega
        rw [z2] at g4
        have z5 : IntKind.i64.wrap (n.tdiv (2 * h)) = n.tdiv (2 * h) := by
          have := tdiv_nn_le (a := n) (b := 2 * h) hn0 (by omega)
          have : n ≤ 64 := by obtain ⟨q, _⟩ := hk; omega
          rw [IntKind.wrap_i64]; omega
        have g4' : IntKind.i64.wrap ((k : Int) % h * n.tdiv (2 * h)) = pairJ n h k := by rw [IntKind.wrap_i64]; unfold wrap64 at g4; exact g4
        have f2' : bits .and .i64 (k : Int) (IntKind.i64.wrap (h - 1)) = (k : Int) % h := by rw [IntKind.wrap_i64]; unfold wrap64 at f2; exact f2
        have hwr : wr.drew.heap = wr.heap := rfl
        gi_wp2_with (fail)
        gi_region_with_o (refine ⟨fun _ => by omega, ?_⟩; refine hR.mono ?_; intro e W' hcase; obtain ⟨bb, rfl, hbb⟩ : ∃ bb : Bool, e = .returned (.bool bb) ∧ (bb = true ∧ J (pairsTo hk (k + 1) (by omega)) W' ∧ KeepsBoth ⟨A, o1, none⟩ ⟨B, o2, none⟩ wr.drew W' ∨ bb = false ∧ Jx (pairsTo hk (k + 1) (by omega)) W') := hcase.elim (fun h_ => ⟨true, h_.1, .inl ⟨rfl, h_.2.1, h_.2.2⟩⟩) (fun h_ => ⟨false, h_.1, .inr ⟨rfl, h_.2⟩⟩))
        all_goals
          simp only [List.getElem_toArray, List.getElem_cons_succ, List.getElem_cons_zero, Act.put, List.setIfInBounds_toArray, List.set_cons_zero, List.set_cons_succ]
          as_aux_lemma =>
          rcases hbb with ⟨rfl, hJ2, hK2⟩ | ⟨rfl, hX2⟩
          · have ha2 : W'.cell? ⟨A, o1, none⟩ = some (.int .i64 n) := hK2.1 _ hak
            have hb2 : W'.cell? ⟨B, o2, none⟩ = some (.int .i64 h) := hK2.2 _ hbk
            clear hcase hR hy hak hbk hK2 hJd g4 g4' f1 f2 f2' z1 z2 z5
            gi_wp2
            go_roundw
            case rel => first | exact ⟨k + 1, by omega, rfl, hJ2, ha2, hb2⟩ | exact ⟨k + 1, by omega, congrArg _ hs1, hJ2, ha2, hb2⟩
            case measure => first | exact meas_lt hlt h64 | exact meas_lt1 hlt
          · clear hcase hR hy
            gi_wp2
            refine bodyPost_ret (results_none rfl _ _ _) rfl ?_
            exact ⟨⟨_, rfl⟩, .inr ⟨_, trivial, hX2⟩⟩
      · rw [if_neg hf] at f1
        have hh : (h == 0) = false := beq_eq_false_iff_ne.2 (by obtain ⟨_, q, _⟩ := hk; omega)
        have e1 : pairsTo hk (k + 1) (by omega) = pairsTo hk k hl := by
          rw [pairsTo, dif_neg hf]
        clear hY
        gi_wp2
        refine wpIn_region_quiet_lit rfl (by kernel_rfl) (by kernel_rfl) ?_
        repeat (gi_big_quiet_step (fail))
        refine BigFrame.wpQuietIn_skip (fun _ _ _ _ => trivial) rfl ?_
        simp only [Act.put, List.setIfInBounds_toArray, List.set_cons_zero, List.set_cons_succ]
        repeat (gi_big_quiet_step (fail))
        refine wpQuietIn_nil ?_
        intro _ hw'
        obtain ⟨nq, hw''⟩ := hw'
        subst hw''
        all_goals
          have hJd := hJ _ _ (wr.drewN nq) none hJk ⟨rfl, rfl, rfl, Nat.le_refl _, fun _ _ _ => rfl⟩ (fun r e => by cases e)
          rw [← e1] at hJd
          have ha2 : (wr.drewN nq).cell? ⟨A, o1, none⟩ = some (.int .i64 n) := hak
          have hb2 : (wr.drewN nq).cell? ⟨B, o2, none⟩ = some (.int .i64 h) := hbk
          clear hak hbk hJ hJx hJk e1 f1 f2 f3
          try simp only [List.getElem_toArray, List.getElem_cons_succ, List.getElem_cons_zero, Act.put, List.setIfInBounds_toArray, List.set_cons_zero, List.set_cons_succ]
          gi_wp2
          go_roundw
          case rel => first | exact ⟨k + 1, by omega, rfl, hJd, ha2, hb2⟩ | exact ⟨k + 1, by omega, congrArg _ hs1, hJd, ha2, hb2⟩
          case measure => first | exact meas_lt hlt h64 | exact meas_lt1 hlt
    · have hkn : n.toNat = k := by omega
      clear hY
      have hd : decide ((k : Int) < n) = false := decide_eq_false hlt
      gi_wp2
      go_end0
      subst hkn
      first
        | exact ⟨⟨_, rfl⟩, .inl hJk⟩
        | exact ⟨⟨_, rfl⟩, .inl ⟨_, rfl, hJk⟩⟩
end

end Go.Proofs.YtnnjjblgilibgaaGreatV

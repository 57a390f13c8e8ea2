import Derived.Test.YtnnjjblgilibgaaGreatVtS
import Derived.Test.YtnnjjblgilibgaaGreatVtT
/- FftReady answers true. -/
namespace Go.Proofs.YtnnjjblgilibgaaGreatV
open Go Go.RowKit
set_option linter.unusedVariables false
set_option linter.unusedSimpArgs false
set_option maxRecDepth 100000
set_option maxHeartbeats 40000000
theorem fine4 : Fine Tryz.prog 4 := fun _ _ => by kernel_rfl
theorem min70T {n : Nat} : (if (70 : Int) < n then 70 else (n : Int)) = ((min n 70 : Nat) : Int) := by
  split <;> omega
theorem min70T_le {n : Nat} : ((min n 70 : Nat) : Int) ≤ n := by omega
theorem min70T_0 {n : Nat} : (0 : Int) ≤ ((min n 70 : Nat) : Int) := by omega
theorem cx_takeT {xs : List (Int × Int)} {k : Nat} : (cxRows xs).take k = cxRows (xs.take k) := by
  unfold cxRows
  rw [List.map_take]
theorem take_lenT {xs : List (Int × Int)} : (xs.take (min xs.length 70)).length ≤ 70 := by
  rw [List.length_take]
  omega
/-- A plan and numbers: they may be, or why not. -/
theorem ready_or (f l k s m : Int) (i : Bool) (X : List (Int × Int)) : (whyM f l k s m (fM f - 1) X = 0 ∧ ∃ log : Nat, l = log ∧ pOk f log k s m ∧ X.length = 2 ^ log ∧ mants f X) ∨ (whyM f l k s m (fM f - 1) X ≠ 0 ∧ Ok Tryz.prog 18 [.sl 2 (cxRows X), plV f l k s m i] (.tup [blk0, .int (whyM f l k s m (fM f - 1) X)])) := by
  unfold whyM
  by_cases hp : pOk f l k s m
  · rw [if_neg (fun g => g hp)]
    by_cases hlen : (X.length : Int) = 2 ^ l.toNat
    · rw [if_neg (fun g => g hlen)]
      by_cases hb : ∀ x ∈ X, inB (-fM f) (fM f - 1) x
      · rw [if_neg (fun g => g hb)]
        obtain ⟨log, rfl, hl⟩ := nat_of hp
        refine .inl ⟨rfl, log, rfl, hp, ?_, inB_mants.1 hb⟩
        rw [Int.toNat_natCast] at hlen
        exact_mod_cast hlen
      · rw [if_pos hb]
        exact .inr ⟨by decide, Ready.bad f l k s m 2 i X hp (by decide) (may.range f l k s m _ _ i X hp.2.1 hlen hb)⟩
    · rw [if_pos hlen]
      exact .inr ⟨by decide, Ready.bad f l k s m 3 i X hp (by decide) (may.size f l k s m _ _ i X hp.2.1 hlen)⟩
  · rw [if_pos hp]
    exact .inr ⟨by decide, Ready.plan f l k s m i X hp⟩
theorem FftReady.true (xs : List (Int × Int)) (f l k s m : Int) (i : Bool) : Ok Tryz.prog 4 [.sl 2 (cxRows xs), plV f l k s m i] (.bool true) := by
  refine ok_of (X := fun _ => []) (Z := fun _ => false) (res := [ResultVar.tmp 4]) tok follows Tryz.func4 rfl rfl fine4 (by kernel_rfl) (by kernel_rfl) ?_
  simp only [evA, evT, evD, seval, cx_len, min70T, min70T_le, min70T_0, Int.toNat_natCast, cx_takeT, cx_free]
  have hX := take_lenT (xs := xs)
  generalize xs.take (min xs.length 70) = X at *
  have hM := May15.ok f l k s m i Bool.false X (by omega)
  rw [show topM f Bool.false = fM f - 1 from rfl] at hM
  rcases ready_or f l k s m i X with ⟨g, log, rfl, hp, hx, hn⟩ | ⟨g, hR⟩
  · rw [g] at hM
    have hR := Ready.ok f k s m i log hp X hx hn
    have hR' := Ready15.ok f k s m i log hp X hx hn
    have hl : (rdB f log k s m X).xs.length ≤ 1000000000 := by
      show (shL _ m (plL k log X)).length ≤ _
      rw [List.length_map, plL_len hx]
      omega
    refine call_ok hR (by simp only [evA, evT, evD, seval, cx_free, in_free]) ?_
    simp only [evA, evT, evD, seval, cx_free, in_free]
    refine call_ok hM rfl ?_
    simp only [evA, evT, evD, seval, cx_free, in_free]
    refine call_ok alive15.ok rfl ?_
    simp only [evA, evT, evD, seval, cx_free, in_free]
    refine call_ok hR' (by simp only [evA, evT, evD, seval, cx_free, in_free]) ?_
    simp only [evA, evT, evD, seval, cx_free, in_free]
    refine call_ok (Same15.ok (rdB f log k s m X) hl (show (0 : Nat) ≤ 1000000000 by decide)) rfl ?_
    simp only [evA, evT, evD, seval, cx_free, in_free]
  · generalize whyM f l k s m (fM f - 1) X = e at *
    refine call_ok hR rfl ?_
    simp only [evA, evT, evD, seval, cx_free, in_free]
    refine call_ok hM rfl ?_
    simp only [evA, evT, evD, seval, g]
    refine call_ok alive15.ok rfl ?_
    simp only [evA, evT, evD, seval]
    refine call_ok Same15.nil rfl ?_
    simp only [evA, evT, evD, seval]
end Go.Proofs.YtnnjjblgilibgaaGreatV

import Derived.Test.YtnnjjblgilibgaaGreatVqD
import Derived.Test.YtnnjjblgilibgaaGreatVtV
/- Contracts: calls that may be, and others; by the document too. -/
namespace Go.Proofs.YtnnjjblgilibgaaGreatV
open Go Go.RowKit
set_option linter.unusedVariables false
set_option linter.unusedSimpArgs false
set_option maxRecDepth 100000
set_option maxHeartbeats 40000000
theorem fine32 : Fine Tryz.prog 32 := fun _ _ => by kernel_rfl
theorem fine33 : Fine Tryz.prog 33 := fun _ _ => by kernel_rfl
theorem fine31 : Fine Tryz.prog 31 := fun _ _ => by kernel_rfl
theorem fine35 : Fine Tryz.prog 35 := fun _ _ => by kernel_rfl
/-- Why a call may not be. -/
def whyS (f l k s m : Int) (ds xs ws : List (Int × Int)) : Int := if ¬ pOk f l k s m then 4 else if ¬ ((xs.length : Int) = 2 ^ l.toNat ∧ (ds.length : Int) = 2 ^ l.toNat) then 3 else if ¬ ws = tabV l.toNat (fB f - 2) then 5 else if ¬ (∀ x ∈ xs, inB (-fM f) (fM f - 1) x) then 2 else 0
theorem Shape.ok (f l k s m : Int) (i : Bool) (ds xs ws : List (Int × Int)) (hw : ws.length ≤ 1000000) : Ok Tryz.prog 34 [.sl 2 (cxRows ds), .sl 2 (cxRows xs), .sl 2 (cxRows ws), plV f l k s m i] (.int (whyS f l k s m ds xs ws)) := by
  refine Shape.core f l k s m i ds xs ws _ ?_
  unfold whyS
  by_cases hp : pOk f l k s m
  · rw [if_neg (fun g => g hp)]
    have hf := fmt_of hp
    have h1 := w1.f f l k s m i hp
    have h2 := w2.ok f l k s m i xs ds hp.2.1
    obtain ⟨log, rfl, hl⟩ := nat_of hp
    by_cases hlen : (xs.length : Int) = 2 ^ (log : Int).toNat ∧ (ds.length : Int) = 2 ^ (log : Int).toNat
    · rw [if_neg (fun g => g hlen)]
      rw [decide_eq_false (fun g => g hlen)] at h2
      have h3 := w3.ok f k s m i log ws hf hl hw
      rw [Int.toNat_natCast] at *
      by_cases ht : ws = tabV log (fB f - 2)
      · rw [if_neg (fun g => g ht)]
        rw [decide_eq_true ht] at h3
        have hx : xs.length = 2 ^ log := by exact_mod_cast hlen.1
        by_cases hb : ∀ x ∈ xs, inB (-fM f) (fM f - 1) x
        · rw [if_neg (fun g => g hb)]
          exact .inl ⟨held.no f log k s m i ds xs ws h1 h2 h3 (w4.f f log k s m i xs _ (Ready.ok f k s m i log hp xs hx (inB_mants.1 hb))), rfl⟩
        · rw [if_pos hb]
          exact .inr (held.j3 f log k s m i ds xs ws h1 h2 h3 (w4.t f log k s m 2 i xs (by decide) (Ready.bad f log k s m 2 i xs hp (by decide) (may.range f log k s m _ _ i xs hp.2.1 (by rw [Int.toNat_natCast]; exact hlen.1) hb))))
      · rw [if_pos ht]
        rw [decide_eq_false ht] at h3
        exact .inr (held.j2 f log k s m i ds xs ws h1 h2 h3)
    · rw [if_pos hlen]
      rw [decide_eq_true (p := ¬ ((xs.length : Int) = 2 ^ (log : Int).toNat ∧ (ds.length : Int) = 2 ^ (log : Int).toNat)) hlen] at h2
      exact .inr (held.j1 f log k s m i ds xs ws h1 h2)
  · rw [if_pos hp]
    exact .inr (held.j0 f l k s m i ds xs ws (w1.t f l k s m i hp))
theorem RShape23.ok (f l k s m : Int) (i : Bool) (ds xs ws : List (Int × Int)) (hw : ws.length ≤ 1000000) (hx : xs.length ≤ 1000000) : Ok Tryz.prog 32 [.sl 2 (cxRows ds), .sl 2 (cxRows xs), .sl 2 (cxRows ws), plV f l k s m i] (.int (whyS f l k s m ds xs ws)) := by
  refine ok_of (X := fun _ => []) (Z := fun _ => false) (res := [ResultVar.tmp 8]) tok follows Tryz.func32 rfl rfl fine32 (by kernel_rfl) (by kernel_rfl) ?_
  simp only [evA, evT, evD, seval, cx_free]
  unfold whyS
  by_cases hp : pOk f l k s m
  · rw [if_neg (fun g => g hp)]
    have hf := fmt_of hp
    refine call_ok (Check13.ok f l k s m i hp) rfl ?_
    simp only [evA, evT, evD, seval, cx_free]
    refine call_ok (Pow.ok l (by have := hp.2.1; omega)) rfl ?_
    obtain ⟨log, rfl, hl⟩ := nat_of hp
    have hM := May15.ok f log k s m i Bool.false xs (by omega)
    rw [show topM f Bool.false = fM f - 1 from rfl] at hM
    unfold whyM at hM
    rw [if_neg (fun g => g hp)] at hM
    by_cases h1 : (xs.length : Int) = 2 ^ (log : Int).toNat
    · rw [if_neg (fun g => g h1)] at hM
      by_cases h2 : (ds.length : Int) = 2 ^ (log : Int).toNat
      · rw [if_neg (fun g => g ⟨h1, h2⟩)]
        simp only [evA, evT, evD, seval, cx_free, cx_len, h1, h2]
        refine call_ok (RTwid.ok log f hl hf) (by simp only [evA, evT, evD, seval, cx_free]) ?_
        simp only [evA, evT, evD, seval, cx_free, cx_len]
        refine call_ok (Same3.ok ws (tabV log (fB f - 2)) (by omega)) rfl ?_
        by_cases ht : ws = tabV log (fB f - 2)
        · rw [Int.toNat_natCast, if_neg (fun g => g ht)]
          simp only [evA, evT, evD, seval, cx_free, cx_len, ht]
          refine call_ok hM rfl ?_
          simp only [evA, evT, evD, seval]
        · rw [Int.toNat_natCast, if_pos ht]
          simp only [evA, evT, evD, seval, cx_free, cx_len, ht]
      · rw [if_pos (fun g => h2 g.2)]
        simp only [evA, evT, evD, seval, cx_free, cx_len, h1, h2]
    · rw [if_pos (fun g => h1 g.1)]
      simp only [evA, evT, evD, seval, cx_free, cx_len, h1]
  · rw [if_pos hp]
    refine call_ok (Check13.bad f l k s m i hp) rfl ?_
    simp only [evA, evT, evD, seval]
theorem cut.ok (xs : List (Int × Int)) : Ok Tryz.prog 31 [.sl 2 (cxRows xs)] (.sl 2 (cxRows (xs.take (min xs.length 70)))) := by
  refine ok_of (X := fun _ => []) (Z := fun _ => false) (res := [ResultVar.tmp 2]) tok follows Tryz.func31 rfl rfl fine31 (by kernel_rfl) (by kernel_rfl) ?_
  simp only [evA, evT, evD, seval, cx_len, min70T, min70T_le, min70T_0, Int.toNat_natCast, cx_takeT, cx_free]
/-- A call: it may be, or not. -/
theorem why_or_s (f l k s m : Int) (ds xs ws : List (Int × Int)) : (whyS f l k s m ds xs ws = 0 ∧ ∃ log : Nat, l = log ∧ pOk f log k s m ∧ xs.length = 2 ^ log ∧ ds.length = 2 ^ log ∧ mants f xs) ∨ whyS f l k s m ds xs ws ≠ 0 := by
  by_cases h : whyS f l k s m ds xs ws = 0
  · refine .inl ⟨h, ?_⟩
    unfold whyS at h
    split at h
    · cases h
    · rename_i hp
      have hp := Decidable.not_not.1 hp
      split at h
      · cases h
      · rename_i hl
        have hl := Decidable.not_not.1 hl
        split at h
        · cases h
        · split at h
          · cases h
          · rename_i hb
            have hb := Decidable.not_not.1 hb
            obtain ⟨log, rfl, hlog⟩ := nat_of hp
            rw [Int.toNat_natCast] at hl
            exact ⟨log, rfl, hp, by exact_mod_cast hl.1, by exact_mod_cast hl.2, inB_mants.1 hb⟩
  · exact .inr h
theorem Into.bad (f l k s m : Int) (i : Bool) (ds xs ws : List (Int × Int)) (hw : ws.length ≤ 1000000) (h : whyS f l k s m ds xs ws ≠ 0) : Ok Tryz.prog 33 [.sl 2 (cxRows ds), .sl 2 (cxRows xs), .sl 2 (cxRows ws), plV f l k s m i] (.tup [.sl 2 (cxRows ds), .int 0, .bool Bool.false, .int (whyS f l k s m ds xs ws)]) := by
  refine ok_of (X := fun _ => []) (Z := fun _ => false) (res := [ResultVar.tmp 8, ResultVar.tmp 9, ResultVar.tmp 10, ResultVar.tmp 11]) tok follows Tryz.func33 rfl rfl fine33 (by kernel_rfl) (by kernel_rfl) ?_
  simp only [evA, evT, evD, seval, cx_free]
  refine call_ok (Shape.ok f l k s m i ds xs ws hw) rfl ?_
  simp only [evA, evT, evD, seval, cx_free, h]
theorem Into.ok (f k s m : Int) (i : Bool) (log : Nat) (ds xs ws : List (Int × Int)) (hw : ws.length ≤ 1000000) (h : whyS f log k s m ds xs ws = 0) (hp : pOk f log k s m) (hx : xs.length = 2 ^ log) (hn : mants f xs) : Ok Tryz.prog 33 [.sl 2 (cxRows ds), .sl 2 (cxRows xs), .sl 2 (cxRows ws), plV f log k s m i] (.tup [.sl 2 (cxRows (rnB f log k s m i xs).xs), .int (rnB f log k s m i xs).e, .bool (rnB f log k s m i xs).sat, .int 0]) := by
  refine ok_of (X := fun _ => []) (Z := fun _ => false) (res := [ResultVar.tmp 8, ResultVar.tmp 9, ResultVar.tmp 10, ResultVar.tmp 11]) tok follows Tryz.func33 rfl rfl fine33 (by kernel_rfl) (by kernel_rfl) ?_
  simp only [evA, evT, evD, seval, cx_free]
  refine call_ok (Shape.ok f log k s m i ds xs ws hw) rfl ?_
  simp only [evA, evT, evD, seval, cx_free, h]
  refine call_ok (fRun.ok f k s m i log hp xs hx hn) (by simp only [evA, evT, evD, seval, cx_free, in_free]) ?_
  simp only [evA, evT, evD, seval, cx_free, in_free]
end Go.Proofs.YtnnjjblgilibgaaGreatV

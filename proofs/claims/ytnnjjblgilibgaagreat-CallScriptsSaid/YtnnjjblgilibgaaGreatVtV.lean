import Derived.Test.YtnnjjblgilibgaaGreatVtU
/- FftRuns answers true. -/
namespace Go.Proofs.YtnnjjblgilibgaaGreatV
open Go Go.RowKit
set_option linter.unusedVariables false
set_option linter.unusedSimpArgs false
set_option maxRecDepth 100000
set_option maxHeartbeats 40000000
theorem fine3 : Fine Tryz.prog 3 := fun _ _ => by kernel_rfl
theorem rn_len {f k s m : Int} {i : Bool} {log : Nat} {X : List (Int × Int)} (hp : pOk f log k s m) (hx : X.length = 2 ^ log) (hn : mants f X) : (rnB f log k s m i X).xs.length = 2 ^ log ∧ (rnB f log k s m i X).sh.length ≤ 6 := by
  have hf := fmt_of hp
  have hl : 2 ≤ log ∧ log ≤ 6 := by have := hp.2.1; omega
  have hm := hp.2.2.2.2.1
  have hs := hp.2.2.2.1
  have hi0 := rd_inv (k := k) (m := m) hf hs hl hx hn
  unfold rnB
  split
  · rename_i hk
    subst hk
    obtain rfl := hp.2.2.2.2.2 rfl
    refine ⟨?_, show (0 : Nat) ≤ 6 by decide⟩
    have hS := split_of hf hm hl hx hn
    show (runL (tabV log (fB f - 2)) i (fB f - 2) m log (rdB f log 2 0 m X).xs).length = _
    rw [runL_len _ _ _ _ _ _ hS.len]
  · have hv := ps_inv (k := k) (inv := i) hf hs hm hl hi0 (passL log k).length (Nat.le_refl _)
    rw [List.take_length] at hv
    exact ⟨hv.len, by rw [hv.sh]; exact passL_len hl⟩
theorem FftRuns.true (xs : List (Int × Int)) (f l k s m : Int) (i : Bool) : Ok Tryz.prog 3 [.sl 2 (cxRows xs), plV f l k s m i] (.bool true) := by
  refine ok_of (X := fun _ => []) (Z := fun _ => false) (res := [ResultVar.tmp 4]) tok follows Tryz.func3 rfl rfl fine3 (by kernel_rfl) (by kernel_rfl) ?_
  simp only [evA, evT, evD, seval, cx_len, min70T, min70T_le, min70T_0, Int.toNat_natCast, cx_takeT, cx_free]
  have hX := take_lenT (xs := xs)
  generalize xs.take (min xs.length 70) = X at *
  have hM := May15.ok f l k s m i Bool.false X (by omega)
  rw [show topM f Bool.false = fM f - 1 from rfl] at hM
  rcases ready_or f l k s m i X with ⟨g, log, rfl, hp, hx, hn⟩ | ⟨g, hR⟩
  · rw [g] at hM
    have hR := fRun.ok f k s m i log hp X hx hn
    have hR' := Run15.ok f k s m i log hp X hx hn
    have hl := rn_len (i := i) hp hx hn
    refine call_ok hR (by simp only [evA, evT, evD, seval, cx_free, in_free]) ?_
    simp only [evA, evT, evD, seval, cx_free, in_free]
    refine call_ok hM rfl ?_
    simp only [evA, evT, evD, seval, cx_free, in_free]
    refine call_ok alive15.ok rfl ?_
    simp only [evA, evT, evD, seval, cx_free, in_free]
    refine call_ok hR' (by simp only [evA, evT, evD, seval, cx_free, in_free]) ?_
    simp only [evA, evT, evD, seval, cx_free, in_free]
    refine call_ok (Same15.ok (rnB f log k s m i X) (by omega) (by omega)) rfl ?_
    simp only [evA, evT, evD, seval, cx_free, in_free]
  · have hR := fRun.bad f l k s m _ i X g hR
    generalize whyM f l k s m (fM f - 1) X = e at *
    refine call_ok hR rfl ?_
    simp only [evA, evT, evD, seval, cx_free, in_free]
    refine call_ok hM rfl ?_
    simp only [evA, evT, evD, seval, g]
    refine call_ok alive15.ok rfl ?_
    simp only [evA, evT, evD, seval]
    refine call_ok Same15.nil rfl ?_
    simp only [evA, evT, evD, seval]
end Go.Proofs.YtnnjjblgilibgaaGreatV

import Derived.Test.YtnnjjblgilibgaaGreatVuB
/- FftScales answers true. -/
namespace Go.Proofs.YtnnjjblgilibgaaGreatV
open Go Go.RowKit
set_option linter.unusedVariables false
set_option linter.unusedSimpArgs false
set_option maxRecDepth 100000
set_option maxHeartbeats 40000000
theorem fine5 : Fine Tryz.prog 5 := fun _ _ => by kernel_rfl
theorem rn_inv {f k s m : Int} {inv : Bool} {log : Nat} (hp : pOk f log k s m) {xs : List (Int × Int)} (hx : xs.length = 2 ^ log) (h : mants f xs) (hk : ¬ k = 2) : Inv f log s (passL log k).length (rnB f log k s m inv xs) := by
  have hf := fmt_of hp
  have hl : 2 ≤ log ∧ log ≤ 6 := by have := hp.2.1; omega
  have hi0 := rd_inv (k := k) (m := m) hf hp.2.2.2.1 hl hx h
  have hv := ps_inv (k := k) (inv := inv) hf hp.2.2.2.1 hp.2.2.2.2.1 hl hi0 (passL log k).length (Nat.le_refl _)
  rw [List.take_length] at hv
  unfold rnB
  rw [if_neg hk]
  exact hv
theorem rem_room (s R : Int) (h : 0 ≤ R ∧ R ≤ 40) : ∃ S : Nat, (S : Int) ≤ R ∧ (IntKind.i64.wrap (IntKind.i64.wrap (s.tmod (R + 1) + R) + 1)).tmod (R + 1) = (S : Int) := by
  have h1 : -(R + 1) < s.tmod (R + 1) ∧ s.tmod (R + 1) < R + 1 := ⟨Int.lt_tmod_of_pos s (by omega), Int.tmod_lt_of_pos s (by omega)⟩
  have e1 : IntKind.i64.wrap (s.tmod (R + 1) + R) = s.tmod (R + 1) + R := wr (by omega)
  have e2 : IntKind.i64.wrap (s.tmod (R + 1) + R + 1) = s.tmod (R + 1) + R + 1 := wr (by omega)
  rw [e1, e2]
  have h2 : 0 ≤ (s.tmod (R + 1) + R + 1).tmod (R + 1) ∧ (s.tmod (R + 1) + R + 1).tmod (R + 1) < R + 1 := ⟨Int.tmod_nonneg _ (by omega), Int.tmod_lt_of_pos _ (by omega)⟩
  exact ⟨((s.tmod (R + 1) + R + 1).tmod (R + 1)).toNat, by omega, by omega⟩
theorem FftScales.true (xs : List (Int × Int)) (f l k s0 m : Int) (i : Bool) (s : Int) : Ok Tryz.prog 5 [.sl 2 (cxRows xs), plV f l k s0 m i, .int s] (.bool true) := by
  refine ok_of (X := fun _ => []) (Z := fun _ => false) (res := [ResultVar.tmp 6]) tok follows Tryz.func5 rfl rfl fine5 (by kernel_rfl) (by kernel_rfl) ?_
  simp only [evA, evT, evD, seval, cx_len, min70T, min70T_le, min70T_0, Int.toNat_natCast, cx_takeT, cx_free]
  have hX := take_lenT (xs := xs)
  generalize xs.take (min xs.length 70) = X at *
  rcases ready_or f l k 1 m i X with ⟨g, log, rfl, hp, hx, hn⟩ | ⟨g, hR⟩
  · have hR := fRun.ok f k 1 m i log hp X hx hn
    have hf := fmt_of hp
    have hl : 2 ≤ log ∧ log ≤ 6 := by have := hp.2.1; omega
    have hk2 : ¬ k = 2 := fun e => by have := hp.2.2.2.2.2 e; omega
    have h31 := fM_31 hf (mants_near hn)
    have hg := gm_f hf (mants_near hn)
    refine call_ok hR (by simp only [evA, evT, evD, seval, cx_free, in_free]) ?_
    simp only [evA, evT, evD, seval, cx_free, in_free]
    refine call_ok (Max.ok X (by omega) h31) rfl ?_
    simp only [evA, evT, evD, seval, cx_free, in_free]
    refine call_ok (Room.ok _ f hf hg) rfl ?_
    simp only [evA, evT, evD, seval, cx_free, in_free]
    refine call_ok alive15.ok rfl ?_
    by_cases h0 : gm X X.length = 0
    · simp only [evA, evT, evD, seval, cx_free, in_free, h0]
    · have hpos : 0 < gm X X.length := by omega
      have hr31 : 0 ≤ rmV f (gm X X.length) ∧ rmV f (gm X X.length) ≤ 31 := by
        have e : rmV f (gm X X.length) = (rN (gm X X.length) (hM f) 31 : Nat) := if_pos hpos
        have := rN_le (gm X X.length) (hM f) 31
        omega
      have hr : 0 ≤ rmV f (gm X X.length) ∧ rmV f (gm X X.length) ≤ 40 := by omega
      obtain ⟨S, hS, hrem⟩ := rem_room s _ hr
      have hup := mants_up hf hn hpos hS
      have hupl : (upL S X).length = 2 ^ log := by rw [upL_len, hx]
      have hsh := Shifted.ok X (-(S : Int)) 0 (by omega) (by decide) (by omega) h31
      rw [shT_up] at hsh
      have hR2 := fRun.ok f k 1 m i log hp (upL S X) hupl hup
      rw [rn_up hp hx hn hpos hS] at hR2
      have hv := rn_inv (inv := i) hp hx hn hk2
      have hlen := rn_len (i := i) hp hx hn
      have hpl := passL_len (k := k) hl
      have he := hv.e
      obtain ⟨b, hb⟩ : ∃ b, rnB f log k 1 m i X = b := ⟨_, rfl⟩
      rw [hb] at he hR2 hlen
      rw [hb]
      have w1 : IntKind.i64.wrap (rmV f (gm X X.length) + 1) = rmV f (gm X X.length) + 1 := wr (by omega)
      have w2 : ¬ rmV f (gm X X.length) + 1 = 0 := by omega
      have w3 : IntKind.i64.wrap (0 - (S : Int)) = -(S : Int) := by rw [wr (by omega)]; omega
      have w4 : IntKind.i64.wrap (b.e + (S : Int) - (S : Int)) = b.e := by rw [wr (by omega)]; omega
      generalize rmV f (gm X X.length) = R at *
      simp only [evA, evT, evD, seval, cx_free, in_free, h0, w1, w2, hrem, w3]
      refine call_ok hsh (by simp only [evA, evT, evD, seval, cx_free]) ?_
      simp only [evA, evT, evD, seval, cx_free, in_free]
      refine call_ok hR2 (by simp only [evA, evT, evD, seval, cx_free, in_free]) ?_
      simp only [evA, evT, evD, seval, cx_free, in_free, addE, w4]
      refine call_ok (Same15.ok b (by omega) (by omega)) rfl ?_
      simp only [evA, evT, evD, seval, cx_free, in_free]
  · have hR := fRun.bad f l k 1 m _ i X g hR
    generalize whyM f l k 1 m (fM f - 1) X = e at *
    refine call_ok hR rfl ?_
    simp only [evA, evT, evD, seval, cx_free, in_free, g]
    refine call_ok alive15.ok rfl ?_
    simp only [evA, evT, evD, seval]
end Go.Proofs.YtnnjjblgilibgaaGreatV

import Derived.Test.YtnnjjblgilibgaaGreatVtV
/- FftPasses answers true. -/
namespace Go.Proofs.YtnnjjblgilibgaaGreatV
open Go Go.RowKit
set_option linter.unusedVariables false
set_option linter.unusedSimpArgs false
set_option maxRecDepth 100000
set_option maxHeartbeats 40000000
theorem fine7 : Fine Tryz.prog 7 := fun _ _ => by kernel_rfl
theorem min10T {n : Nat} : (if (10 : Int) < n then 10 else (n : Int)) = ((min n 10 : Nat) : Int) := by
  split <;> omega
theorem min10T_le {n : Nat} : ((min n 10 : Nat) : Int) ≤ n := by omega
theorem min10T_0 {n : Nat} : (0 : Int) ≤ ((min n 10 : Nat) : Int) := by omega
theorem in_takeT {zs : List Int} {k : Nat} : (intRows zs).take k = intRows (zs.take k) := by
  unfold intRows
  rw [List.map_take]
theorem take_len10 {zs : List Int} : (zs.take (min zs.length 10)).length ≤ 10 := by
  rw [List.length_take]
  omega
theorem may_of {f l k s m : Int} {X : List (Int × Int)} (hp : pOk f l k s m) : (whyM f l k s m (fM f) X = 0 ∧ (X.length : Int) = 2 ^ l.toNat ∧ nears (fM f) X) ∨ (whyM f l k s m (fM f) X ≠ 0 ∧ ∀ i : Bool, Ok Tryz.prog 51 [.sl 2 (cxRows X), plV f l k s m i, .int (-fM f), .int (fM f)] (.int (whyM f l k s m (fM f) X))) := by
  unfold whyM
  rw [if_neg (fun g => g hp)]
  by_cases hlen : (X.length : Int) = 2 ^ l.toNat
  · rw [if_neg (fun g => g hlen)]
    by_cases hb : ∀ x ∈ X, inB (-fM f) (fM f) x
    · rw [if_neg (fun g => g hb)]
      exact .inl ⟨rfl, hlen, inB_near.1 hb⟩
    · rw [if_pos hb]
      exact .inr ⟨by decide, fun i => may.range f l k s m _ _ i X hp.2.1 hlen hb⟩
  · rw [if_pos hlen]
    exact .inr ⟨by decide, fun i => may.size f l k s m _ _ i X hp.2.1 hlen⟩
theorem FftPasses.true (xs : List (Int × Int)) (zs : List Int) (e : Int) (sat : Bool) (f l k s m : Int) (i : Bool) (j : Int) : Ok Tryz.prog 7 [.agg [.sl 2 (cxRows xs), .int e, .bool sat, .sl 1 (intRows zs)], plV f l k s m i, .int j] (.bool true) := by
  refine ok_of (X := fun r => if Nat.beq r 1 then [[], [], [], [], [], [], [], [], [], [], [], [], [], [], [], [.tmp 19, .tmp 21]] else []) (Z := fun _ => false) (res := [ResultVar.tmp 6]) tok follows Tryz.func7 rfl rfl fine7 (by kernel_rfl) (by kernel_rfl) ?_
  simp only [evA, evB, evT, evD, seval, cx_len, in_len, min70T, min70T_le, min70T_0, min10T, min10T_le, min10T_0, Int.toNat_natCast, cx_takeT, in_takeT, cx_free, in_free]
  have hX := take_lenT (xs := xs)
  have hZ := take_len10 (zs := zs)
  generalize xs.take (min xs.length 70) = X at *
  generalize zs.take (min zs.length 10) = Z at *
  by_cases hp : pOk f l k s m
  · have hM := May15.ok f l k s m i Bool.true X (by omega)
    rw [show topM f Bool.true = fM f from rfl] at hM
    have hC := Check13.ok f l k s m i hp
    have hP := Passes13.ok f l k s m i hp
    rw [pRows_cx] at hP
    by_cases hj : j < 0 ∨ ((passL l k).length : Int) ≤ j
    · refine call_ok (Next.arg f l k s m i ⟨X, e, sat, Z⟩ j hp hj) rfl ?_
      simp only [evA, evT, evD, seval, cx_free, in_free]
      refine call_ok hC rfl ?_
      simp only [evA, evT, evD, seval, cx_free, in_free]
      refine call_ok hP (by simp only [evA, evT, evD, seval, cx_free]) ?_
      simp only [evA, evT, evD, seval, cx_free, in_free]
      refine call_ok hM rfl ?_
      by_cases h0 : j < 0
      · simp only [evA, evT, evD, seval, cx_free, in_free, cx_len, h0]
        refine call_ok alive15.ok rfl ?_
        simp only [evA, evT, evD, seval]
        refine call_ok Same15.nil rfl ?_
        simp only [evA, evT, evD, seval]
      · have h1 : ((passL l k).length : Int) ≤ j := by omega
        simp only [evA, evT, evD, seval, cx_free, in_free, cx_len, h0, h1, ge_iff_le]
        refine call_ok alive15.ok rfl ?_
        simp only [evA, evT, evD, seval]
        refine call_ok Same15.nil rfl ?_
        simp only [evA, evT, evD, seval]
    · obtain ⟨J, rfl⟩ : ∃ J : Nat, j = J := ⟨j.toNat, by omega⟩
      have hJ : J < (passL l k).length := by omega
      have hk : k = 0 ∨ k = 1 := by
        by_cases h0 : k = 0
        · exact .inl h0
        · by_cases h1 : k = 1
          · exact .inr h1
          · have : passL l k = [] := by unfold passL; rw [if_neg h0, if_neg h1]
            rw [this] at hJ
            simp at hJ
      obtain ⟨log, rfl, hl⟩ := nat_of hp
      have h0 : ¬ (J : Int) < 0 := by omega
      have h0' : (0 : Int) ≤ (J : Int) := by omega
      have h1 : ¬ ((passL log k).length : Int) ≤ (J : Int) := by omega
      have h1' : (J : Int) < ((passL log k).length : Int) := by omega
      rcases may_of (X := X) hp with ⟨g, hlen, hn⟩ | ⟨g, hY⟩
      · rw [g] at hM
        have hx : X.length = 2 ^ log := by
          rw [Int.toNat_natCast] at hlen
          exact_mod_cast hlen
        by_cases he : e < -100 ∨ 100 < e
        · refine call_ok (Next.exp f k s m i log ⟨X, e, sat, Z⟩ J hp hk hJ hx hn he) rfl ?_
          simp only [evA, evT, evD, seval, cx_free, in_free]
          refine call_ok hC rfl ?_
          simp only [evA, evT, evD, seval, cx_free, in_free]
          refine call_ok hP (by simp only [evA, evT, evD, seval, cx_free]) ?_
          simp only [evA, evT, evD, seval, cx_free, in_free]
          refine call_ok hM rfl ?_
          by_cases h2 : e < -100
          · simp only [evA, evT, evD, seval, cx_free, in_free, cx_len, h0, h1, ge_iff_le, h2]
            refine call_ok alive15.ok rfl ?_
            simp only [evA, evT, evD, seval]
            refine call_ok Same15.nil rfl ?_
            simp only [evA, evT, evD, seval]
          · have h3 : 100 < e := by omega
            simp only [evA, evT, evD, seval, cx_free, in_free, cx_len, h0, h1, ge_iff_le, h2, h3]
            refine call_ok alive15.ok rfl ?_
            simp only [evA, evT, evD, seval]
            refine call_ok Same15.nil rfl ?_
            simp only [evA, evT, evD, seval]
        · have h2 : ¬ e < -100 := by omega
          have h3 : ¬ 100 < e := by omega
          have hpo : PassOf X.length ((passL log k).getD J (0, 0)) := by
            rw [getD_at hJ, hx]
            exact pass_of hl (List.getElem_mem hJ)
          have hN := Next.ok f k s m i log ⟨X, e, sat, Z⟩ J hp hk hJ hx hn (by dsimp only; omega) (by dsimp only; omega)
          have hN' := Next15.ok f k s m i log hp ⟨X, e, sat, Z⟩ hx hn (by dsimp only; omega) (by dsimp only; omega) _ hpo
          have hl1 : (nxB f log s m i ⟨X, e, sat, Z⟩ ((passL log k).getD J (0, 0))).xs.length ≤ 1000000000 := by
            rw [nxB_len]
            dsimp only
            omega
          have hl2 : (nxB f log s m i ⟨X, e, sat, Z⟩ ((passL log k).getD J (0, 0))).sh.length ≤ 1000000000 := by
            show (Z ++ [_]).length ≤ _
            rw [List.length_append]
            simp only [List.length_singleton]
            omega
          refine call_ok hN (by simp only [evA, evT, evD, seval, cx_free, in_free]) ?_
          simp only [evA, evT, evD, seval, cx_free, in_free]
          refine call_ok hC rfl ?_
          simp only [evA, evT, evD, seval, cx_free, in_free]
          refine call_ok hP (by simp only [evA, evT, evD, seval, cx_free]) ?_
          simp only [evA, evT, evD, seval, cx_free, in_free]
          refine call_ok hM rfl ?_
          simp only [evA, evT, evD, seval, cx_free, in_free, cx_len, h0, h1, ge_iff_le, h2, h3]
          refine call_ok alive15.ok rfl ?_
          simp only [evA, evT, evD, seval, cx_free, in_free, cx_len, h0, h0', h1', Int.toNat_natCast, cx_getD hJ]
          refine call_ok hN' (by simp only [evA, evT, evD, seval, cx_free, in_free]) ?_
          simp only [evA, evT, evD, seval, cx_free, in_free]
          refine call_ok (Same15.ok _ hl1 hl2) rfl ?_
          simp only [evA, evT, evD, seval, cx_free, in_free]
      · have hN := Next.bad f k s m i log ⟨X, e, sat, Z⟩ J _ hp hk hJ g (hY i)
        generalize whyM f log k s m (fM f) X = y at *
        refine call_ok hN rfl ?_
        simp only [evA, evT, evD, seval, cx_free, in_free]
        refine call_ok hC rfl ?_
        simp only [evA, evT, evD, seval, cx_free, in_free]
        refine call_ok hP (by simp only [evA, evT, evD, seval, cx_free]) ?_
        simp only [evA, evT, evD, seval, cx_free, in_free]
        refine call_ok hM rfl ?_
        simp only [evA, evT, evD, seval, cx_free, in_free, cx_len, h0, h1, ge_iff_le, g]
        refine call_ok alive15.ok rfl ?_
        simp only [evA, evT, evD, seval]
        refine call_ok Same15.nil rfl ?_
        simp only [evA, evT, evD, seval]
  · refine call_ok (Next.plan f l k s m i ⟨X, e, sat, Z⟩ j hp) rfl ?_
    simp only [evA, evT, evD, seval, cx_free, in_free]
    refine call_ok (Check13.bad f l k s m i hp) rfl ?_
    simp only [evA, evT, evD, seval]
    refine call_ok alive15.ok rfl ?_
    simp only [evA, evT, evD, seval]
    refine call_ok Same15.nil rfl ?_
    simp only [evA, evT, evD, seval]
end Go.Proofs.YtnnjjblgilibgaaGreatV

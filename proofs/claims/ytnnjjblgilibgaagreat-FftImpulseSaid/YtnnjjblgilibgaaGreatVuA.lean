import Derived.Test.YtnnjjblgilibgaaGreatVtY
/- FftImpulse answers true. -/
namespace Go.Proofs.YtnnjjblgilibgaaGreatV
open Go Go.RowKit
set_option linter.unusedVariables false
set_option linter.unusedSimpArgs false
set_option maxRecDepth 100000
set_option maxHeartbeats 40000000
theorem fine6 : Fine Tryz.prog 6 := fun _ _ => by kernel_rfl
theorem imp_log (l : Int) : ∃ log : Nat, (2 ≤ log ∧ log ≤ 6) ∧ IntKind.i64.wrap ((IntKind.i64.wrap (l.tmod 5 + 5)).tmod 5 + 2) = (log : Int) := by
  have h1 : -5 < l.tmod 5 ∧ l.tmod 5 < 5 := ⟨Int.lt_tmod_of_pos l (by decide), Int.tmod_lt_of_pos l (by decide)⟩
  have e1 : IntKind.i64.wrap (l.tmod 5 + 5) = l.tmod 5 + 5 := wr (by omega)
  have h2 : 0 ≤ (l.tmod 5 + 5).tmod 5 ∧ (l.tmod 5 + 5).tmod 5 < 5 := ⟨Int.tmod_nonneg 5 (by omega), Int.tmod_lt_of_pos _ (by decide)⟩
  rw [e1, wr (by omega)]
  exact ⟨((l.tmod 5 + 5).tmod 5 + 2).toNat, by omega, by omega⟩
theorem rem500 (x : Int) : -500 ≤ x.tmod 500 ∧ x.tmod 500 ≤ 500 := by
  have h1 : -500 < x.tmod 500 := Int.lt_tmod_of_pos x (by decide)
  have h2 : x.tmod 500 < 500 := Int.tmod_lt_of_pos x (by decide)
  omega
theorem rep_cxT {n : Nat} : List.replicate n [AV.raw (.int .i64 0), AV.raw (.int .i64 0)] = cxRows (stI (0, 0) n 0) := by
  unfold cxRows stI
  rw [List.map_map]
  apply List.ext_getElem
  · simp
  · intro i h1 h2
    simp
theorem stI_set {a b : Int × Int} {n i : Nat} (hi : i < n) (hb : i = 0 ∨ b = a) : (stI b n i).set i (a.1, a.2) = stI a n (i + 1) := by
  refine ext_at (by rw [List.length_set, stI_len, stI_len]) fun j hj => ?_
  rw [List.length_set, stI_len] at hj
  rw [set_at (by rw [stI_len]; exact hi) (by rw [stI_len]; exact hj), stI_at hj, stI_at hj]
  by_cases h : i = j
  · rw [if_pos h, if_pos (by omega)]
  · rw [if_neg h]
    by_cases h2 : j < i
    · rw [if_pos h2, if_pos (by omega)]
      rcases hb with hb | hb
      · omega
      · exact hb
    · rw [if_neg h2, if_neg (by omega)]
theorem stI_z {a b : Int × Int} {n : Nat} : stI a n 0 = stI b n 0 := by simp [stI]
theorem stC_1 {a : Int × Int} {n : Nat} : stI a n n = stC a n 1 := by
  refine ext_at (by rw [stI_len, stC_len]) fun j hj => ?_
  rw [stI_len] at hj
  rw [stI_at hj, stC_at hj, if_pos hj, if_pos (Nat.mod_one j)]
  simp
theorem FftImpulse.true (x y : Int) (f l k s m : Int) (i : Bool) : Ok Tryz.prog 6 [cxA x y, plV f l k s m i] (.bool true) := by
  obtain ⟨log, hl, hL⟩ := imp_log l
  have hx := rem500 x
  have hy := rem500 y
  have hp64 := pow64F hl
  have hsh := shF hl
  have hK := and1_64 k
  obtain ⟨K, hK', hK01⟩ : ∃ K : Int, k % 2 = K ∧ (K = 0 ∨ K = 1) := ⟨_, rfl, by omega⟩
  rw [hK'] at hK
  obtain ⟨n, hn⟩ : ∃ n : Nat, 2 ^ log = n := ⟨_, rfl⟩
  have g1 : (0 : Int) ≤ (log : Int) := by omega
  have g2 : (0 : Int) ≤ (n : Int) := by omega
  have g3 : 16 * (n : Int) ≤ 281474976710656 := by omega
  have g4 : (n : Int) ≤ 9223372036854775807 := by omega
  have g5 : (0 : Int) < (n : Int) := by omega
  have h0n : 0 < n := by omega
  rw [hn] at hsh hp64
  obtain ⟨a, ha⟩ : ∃ a, x.tmod 500 = a := ⟨_, rfl⟩
  obtain ⟨b, hb⟩ : ∃ b, y.tmod 500 = b := ⟨_, rfl⟩
  rw [ha] at hx
  rw [hb] at hy
  have hz : stI ((0 : Int), (0 : Int)) n 0 = stI (a, b) n 0 := stI_z
  have hset0 : (stI (a, b) n 0).set 0 (a, b) = stI (a, b) n 1 := stI_set (a := (a, b)) (b := (a, b)) h0n (.inl rfl)
  have hrow : ∀ i, i < n → (cxRows (stI (a, b) n i))[i]? = some [.int 0, .int 0] := fun i hi => by
    rw [cx_at (by rw [stI_len]; exact hi), stI_at hi, if_neg (by omega)]
  have hrow0 := hrow 0 h0n
  refine ok_of (X := fun _ => []) (Z := fun r => Nat.beq r 11) (res := [ResultVar.tmp 4]) tok follows Tryz.func6 rfl rfl fine6 (by kernel_rfl) (by kernel_rfl) ?_
  simp only [evA, evB, evT, evD, seval, cx_free, hL, Int.toNat_natCast, hsh, hK, g1, g2, g3, g4, g5, rep_cxT, cx_len, stI_len, cx_set, hset0, ha, hb, hz, hrow0]
  refine l_inv (fun j => ⟨[(45, .int j), (44, .int n), (7, .own 3), (6, .own 2), (5, .int n), (3, .loc 1 0), (2, .loc 0 0)], [(3, some (.row 43 2 (cxRows (stI (a, b) n j)))), (2, some (.row 43 2 (cxRows (stI (a, b) n 1)))), (1, some (.box [.int f, .int log, .int K, .int 2, .int m, .bool i])), (0, some (.box [.int a, .int b]))], 4⟩) n ?_ (fun j hj K' hK' => ?_) (fun K' => ?_)
  · refine weak_of (fun l => l) rfl ?_ ?_
    all_goals simp only [evA, evB, evT, evD, seval, cx_free, Int.natCast_zero]
  · have q0 : (j : Int) < (n : Int) := by omega
    have q1 : IntKind.i64.wrap ((j : Int) + 1) = ((j + 1 : Nat) : Int) := by rw [wr (by omega)]; omega
    have q2 : (0 : Int) ≤ (j : Int) := by omega
    have hset := stI_set (a := (a, b)) (b := (a, b)) hj (.inr rfl)
    dsimp only at hset
    simp only [evA, evB, evT, evD, seval, q0, q1, q2, cx_len, stI_len, cx_free, Int.toNat_natCast, hrow j hj, cx_set, hset]
    refine hK' _ (weak_of (fun l => l) rfl ?_ ?_)
    all_goals simp only [evA, evB, evT, evD, seval, cx_free]
  · simp only [evA, evB, evT, evD, seval]
    refine wk_of ⟨[(7, .sl 2 (cxRows (stI (a, b) n n))), (6, .sl 2 (cxRows (stI (a, b) n 1))), (5, .int n), (3, .loc 1 0), (2, .loc 0 0)], [(1, some (.box [.int f, .int log, .int K, .int 2, .int m, .bool i])), (0, some (.box [.int a, .int b]))], 2⟩ (weak_of (fun l => l) rfl ?_ ?_) ?_
    · simp only [evA, evB, evT, evD, seval, cx_free]
    · simp only [evA, evB, evT, evD, seval, cx_free]
    simp only [evA, evB, evT, evD, seval, cx_free]
    by_cases hp : pOk f log K 2 m
    · have hf := fmt_of hp
      have h1 : mants f (stI (a, b) n 1) := mants_I (small_1 hf hx) (small_1 hf hy) (small_1 hf (by decide))
      have h2 : mants f (stI (a, b) n n) := mants_I (small_1 hf hx) (small_1 hf hy) (small_1 hf (by decide))
      have hI := rn_I (inv := i) (a := (a, b)) hp hx hy hK01
      have hC := rn_C (inv := i) (a := (a, b)) hp hx hy hK01
      rw [hn] at hI hC
      rw [← stC_1] at hC
      have hRb : Ok Tryz.prog 13 [.sl 2 (cxRows (stI (a, b) n 1)), plV f log K 2 m i] (.tup [.agg [.sl 2 (cxRows (rnB f log K 2 m i (stI (a, b) n 1)).xs), .int (rnB f log K 2 m i (stI (a, b) n 1)).e, .bool (rnB f log K 2 m i (stI (a, b) n 1)).sat, .sl 1 (intRows (rnB f log K 2 m i (stI (a, b) n 1)).sh)], .int 0]) := fRun.ok f K 2 m i log hp (stI (a, b) n 1) (by rw [stI_len, hn]) h1
      have hRc : Ok Tryz.prog 13 [.sl 2 (cxRows (stI (a, b) n n)), plV f log K 2 m i] (.tup [.agg [.sl 2 (cxRows (rnB f log K 2 m i (stI (a, b) n n)).xs), .int (rnB f log K 2 m i (stI (a, b) n n)).e, .bool (rnB f log K 2 m i (stI (a, b) n n)).sat, .sl 1 (intRows (rnB f log K 2 m i (stI (a, b) n n)).sh)], .int 0]) := fRun.ok f K 2 m i log hp (stI (a, b) n n) (by rw [stI_len, hn]) h2
      rw [hI.1, hI.2] at hRb
      rw [hC.1, hC.2] at hRc
      generalize (rnB f log K 2 m i (stI (a, b) n 1)).e = e1 at hRb
      generalize (rnB f log K 2 m i (stI (a, b) n 1)).sh = z1 at hRb
      generalize (rnB f log K 2 m i (stI (a, b) n n)).e = e2 at hRc
      generalize (rnB f log K 2 m i (stI (a, b) n n)).sh = z2 at hRc
      have hn' : (2 : Int) ^ log = (n : Int) := by rw [← hn]; simp
      have m1 : -32000 ≤ a * n ∧ a * n ≤ 32000 := by
        have k1 : a * n ≤ 500 * n := Int.mul_le_mul_of_nonneg_right hx.2 (by omega)
        have k2 : -500 * n ≤ a * n := Int.mul_le_mul_of_nonneg_right hx.1 (by omega)
        omega
      have m2 : -32000 ≤ b * n ∧ b * n ≤ 32000 := by
        have k1 : b * n ≤ 500 * n := Int.mul_le_mul_of_nonneg_right hy.2 (by omega)
        have k2 : -500 * n ≤ b * n := Int.mul_le_mul_of_nonneg_right hy.1 (by omega)
        omega
      have w1 : IntKind.i64.wrap (a * n) = a * n := wr (by omega)
      have w2 : IntKind.i64.wrap (b * n) = b * n := wr (by omega)
      have c0 : (cxRows (stC (a, b) n n)).getD 0 [] = [.int (a * n), .int (b * n)] := by
        rw [cx_getD (by rw [stC_len]; exact h0n), stC_at h0n, if_pos (Nat.zero_mod n)]
        dsimp only
        rw [Int.mul_comm, Int.mul_comm (n : Int) b]
      have cj : ∀ j, j < n → 0 < j → (cxRows (stC (a, b) n n)).getD j [] = [.int 0, .int 0] := fun j hj h0 => by
        rw [cx_getD (by rw [stC_len]; exact hj), stC_at hj, if_neg (by rw [Nat.mod_eq_of_lt hj]; omega)]
      have bj : ∀ j, j < n → (cxRows (stI (a, b) n n)).getD j [] = [.int a, .int b] := fun j hj => by
        rw [cx_getD (by rw [stI_len]; exact hj), stI_at hj, if_pos hj]
      have hP := Pow.ok log (by omega)
      rw [Int.toNat_natCast, hn'] at hP
      refine call_ok hRb (by simp only [evA, evB, evT, evD, seval, cx_free, in_free]) ?_
      simp only [evA, evB, evT, evD, seval, cx_free, in_free]
      refine call_ok hRc (by simp only [evA, evB, evT, evD, seval, cx_free, in_free]) ?_
      simp only [evA, evB, evT, evD, seval, cx_free, in_free, cx_len, stI_len, stC_len, g5, c0]
      refine call_ok hP rfl ?_
      simp only [evA, evB, evT, evD, seval, cx_free, in_free, w1, w2]
      refine call_ok hP rfl ?_
      simp only [evA, evB, evT, evD, seval, cx_free, in_free, w1, w2]
      refine call_ok alive15.ok rfl ?_
      simp only [evA, evB, evT, evD, seval, cx_free, in_free]
      refine l_inv (fun j => ⟨[(122, .int j), (121, .int n), (11, .loc 3 0), (9, .loc 2 0), (2, .loc 0 0)], [(3, some (.box [.sl 2 (cxRows (stC (a, b) n n)), .int e2, .bool Bool.false, .sl 1 (intRows z2)])), (2, some (.box [.sl 2 (cxRows (stI (a, b) n n)), .int e1, .bool Bool.false, .sl 1 (intRows z1)])), (1, some (.box [.int f, .int log, .int K, .int 2, .int m, .bool i])), (0, some (.box [.int a, .int b]))], 4⟩) n ?_ (fun j hj K' hK' => ?_) (fun K' => ?_)
      · refine weak_of (fun l => l) rfl ?_ ?_
        all_goals simp only [evA, evB, evT, evD, seval, cx_free, in_free, Int.natCast_zero]
      · have q0 : (j : Int) < (n : Int) := by omega
        have q1 : IntKind.i64.wrap ((j : Int) + 1) = ((j + 1 : Nat) : Int) := by rw [wr (by omega)]; omega
        have q2 : (0 : Int) ≤ (j : Int) := by omega
        by_cases hj0 : j = 0
        · subst hj0
          have q3 : ¬ (0 : Int) < ((0 : Nat) : Int) := by omega
          simp only [evA, evB, evT, evD, seval, q0, q1, q2, q3, cx_len, stI_len, stC_len, cx_free, in_free, Int.toNat_natCast, bj 0 hj, g5, Int.natCast_zero, Int.toNat_zero]
          refine hK' _ (weak_of (fun l => l) rfl ?_ ?_)
          all_goals simp only [evA, evB, evT, evD, seval, cx_free, in_free]
        · have q3 : (0 : Int) < (j : Int) := by omega
          simp only [evA, evB, evT, evD, seval, q0, q1, q2, q3, cx_len, stI_len, stC_len, cx_free, in_free, Int.toNat_natCast, bj j hj, cj j hj (by omega)]
          refine hK' _ (weak_of (fun l => l) rfl ?_ ?_)
          all_goals simp only [evA, evB, evT, evD, seval, cx_free, in_free]
      · simp only [evA, evB, evT, evD, seval, cx_free, in_free]
    · have hRb := fRun.bad f log K 2 m 4 i (stI (a, b) n 1) (by decide) (Ready.plan f log K 2 m i _ hp)
      have hRc := fRun.bad f log K 2 m 4 i (stI (a, b) n n) (by decide) (Ready.plan f log K 2 m i _ hp)
      refine call_ok hRb rfl ?_
      simp only [evA, evB, evT, evD, seval, cx_free, in_free]
      refine call_ok hRc rfl ?_
      simp only [evA, evB, evT, evD, seval, cx_free, in_free]
      refine call_ok alive15.ok rfl ?_
      simp only [evA, evB, evT, evD, seval, cx_free, in_free]
end Go.Proofs.YtnnjjblgilibgaaGreatV

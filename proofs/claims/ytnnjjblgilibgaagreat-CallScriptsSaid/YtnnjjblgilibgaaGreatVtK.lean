import Derived.Test.YtnnjjblgilibgaaGreatVtI
/- Contracts: a pass of a block, and the whole transform. -/
namespace Go.Proofs.YtnnjjblgilibgaaGreatV
open Go Go.RowKit
set_option linter.unusedVariables false
set_option linter.unusedSimpArgs false
set_option maxRecDepth 100000
set_option maxHeartbeats 40000000
theorem fine24 : Fine Tryz.prog 24 := fun _ _ => by kernel_rfl
theorem fine13 : Fine Tryz.prog 13 := fun _ _ => by kernel_rfl
theorem pRows_cx {l : List (Int × Int)} : pRows l = cxRows l := rfl
theorem two_pow_cast {log : Nat} : ((2 ^ log : Nat) : Int) = 2 ^ log := by simp
theorem s3 {s : Int} (h : 0 ≤ s ∧ s ≤ 2) : s = 0 ∨ s = 1 ∨ s = 2 := by omega
theorem Next.plan (f l k s m : Int) (i : Bool) (b : Blk) (j : Int) (h : ¬ pOk f l k s m) : Ok Tryz.prog 24 [blkV b, plV f l k s m i, .int j] (.tup [blk0, .int 4]) := by
  refine ok_of (X := fun _ => []) (Z := fun _ => false) (res := [ResultVar.cell 6 27, ResultVar.tmp 7]) tok follows Tryz.func24 rfl rfl fine24 (by kernel_rfl) (by kernel_rfl) ?_
  simp only [evA, evT, evD, seval, cx_free, in_free]
  refine call_ok (Passes.bad f l k s m i h) rfl ?_
  simp only [evA, evT, evD, seval]
theorem Next.arg (f l k s m : Int) (i : Bool) (b : Blk) (j : Int) (h : pOk f l k s m) (hj : j < 0 ∨ ((passL l k).length : Int) ≤ j) : Ok Tryz.prog 24 [blkV b, plV f l k s m i, .int j] (.tup [blk0, .int 1]) := by
  refine ok_of (X := fun _ => []) (Z := fun _ => false) (res := [ResultVar.cell 6 27, ResultVar.tmp 7]) tok follows Tryz.func24 rfl rfl fine24 (by kernel_rfl) (by kernel_rfl) ?_
  simp only [evA, evT, evD, seval, cx_free, in_free]
  by_cases hk : k = 2
  · refine call_ok (Passes.split f l k s m i h hk) rfl ?_
    have hp : passL l k = [] := by unfold passL; rw [if_neg (by omega), if_neg (by omega)]
    rw [hp] at hj
    by_cases h0 : j < 0
    · simp only [evA, evT, evD, seval, h0]
    · have h1 : 0 ≤ j := by omega
      simp only [evA, evT, evD, seval, h0, h1, ge_iff_le]
  · refine call_ok (Passes.ok f l k s m i h (by have := h.2.2.1; omega)) (by simp only [evA, evT, evD, seval, pRows_cx, cx_free]) ?_
    by_cases h0 : j < 0
    · simp only [evA, evT, evD, seval, h0, pRows_cx, cx_free]
    · have h1 : ((passL l k).length : Int) ≤ j := by omega
      simp only [evA, evT, evD, seval, h0, h1, ge_iff_le, pRows_cx, cx_free, cx_len]
theorem Next.bad (f k s m : Int) (i : Bool) (log : Nat) (b : Blk) (j : Nat) (e : Int) (h : pOk f log k s m) (hk : k = 0 ∨ k = 1) (hj : j < (passL log k).length) (he : e ≠ 0) (hM : Ok Tryz.prog 51 [.sl 2 (cxRows b.xs), plV f log k s m i, .int (-fM f), .int (fM f)] (.int e)) : Ok Tryz.prog 24 [blkV b, plV f log k s m i, .int j] (.tup [blk0, .int e]) := by
  have hf := fmt_of h
  have h0 : ¬ (j : Int) < 0 := by omega
  have h1 : ¬ ((passL log k).length : Int) ≤ (j : Int) := by omega
  refine ok_of (X := fun _ => []) (Z := fun _ => false) (res := [ResultVar.cell 6 27, ResultVar.tmp 7]) tok follows Tryz.func24 rfl rfl fine24 (by kernel_rfl) (by kernel_rfl) ?_
  simp only [evA, evT, evD, seval, cx_free, in_free]
  refine call_ok (Passes.ok f log k s m i h hk) (by simp only [evA, evT, evD, seval, pRows_cx, cx_free]) ?_
  simp only [evA, evT, evD, seval, h0, h1, ge_iff_le, pRows_cx, cx_free, cx_len, in_free]
  refine call_ok (ready.ok f log k s m i h) ?_ ?_
  · rcases s3 h.2.2.2.1 with rfl | rfl | rfl
    all_goals simp only [evA, evT, evD, seval, sc_0, sc_1, sc_2, cx_free]
  rcases s3 h.2.2.2.1 with rfl | rfl | rfl
  all_goals
    simp only [evA, evT, evD, seval, sc_0, sc_1, sc_2, cx_free, in_free, neg1B hf, shB hf, fM_1 hf, fB_pos hf]
    refine call_ok hM rfl ?_
    simp only [evA, evT, evD, seval, he]
theorem Next.exp (f k s m : Int) (i : Bool) (log : Nat) (b : Blk) (j : Nat) (h : pOk f log k s m) (hk : k = 0 ∨ k = 1) (hj : j < (passL log k).length) (hx : b.xs.length = 2 ^ log) (hn : nears (fM f) b.xs) (he : b.e < -100 ∨ 100 < b.e) : Ok Tryz.prog 24 [blkV b, plV f log k s m i, .int j] (.tup [blk0, .int 2]) := by
  have hf := fmt_of h
  have hM := may.ok f log k s m (-fM f) (fM f) i b.xs h.2.1 (by rw [hx, Int.toNat_natCast]; simp) (inB_near.2 hn)
  have h0 : ¬ (j : Int) < 0 := by omega
  have h1 : ¬ ((passL log k).length : Int) ≤ (j : Int) := by omega
  refine ok_of (X := fun _ => []) (Z := fun _ => false) (res := [ResultVar.cell 6 27, ResultVar.tmp 7]) tok follows Tryz.func24 rfl rfl fine24 (by kernel_rfl) (by kernel_rfl) ?_
  simp only [evA, evT, evD, seval, cx_free, in_free]
  refine call_ok (Passes.ok f log k s m i h hk) (by simp only [evA, evT, evD, seval, pRows_cx, cx_free]) ?_
  simp only [evA, evT, evD, seval, h0, h1, ge_iff_le, pRows_cx, cx_free, cx_len, in_free]
  refine call_ok (ready.ok f log k s m i h) ?_ ?_
  · rcases s3 h.2.2.2.1 with rfl | rfl | rfl
    all_goals simp only [evA, evT, evD, seval, sc_0, sc_1, sc_2, cx_free]
  rcases s3 h.2.2.2.1 with rfl | rfl | rfl
  all_goals
    simp only [evA, evT, evD, seval, sc_0, sc_1, sc_2, cx_free, in_free, neg1B hf, shB hf, fM_1 hf, fB_pos hf]
    refine call_ok hM rfl ?_
    by_cases h2 : b.e < -100
    · simp only [evA, evT, evD, seval, h2]
    · have h3 : 100 < b.e := by omega
      simp only [evA, evT, evD, seval, h2, h3]
theorem Next.ok (f k s m : Int) (i : Bool) (log : Nat) (b : Blk) (j : Nat) (h : pOk f log k s m) (hk : k = 0 ∨ k = 1) (hj : j < (passL log k).length) (hx : b.xs.length = 2 ^ log) (hn : nears (fM f) b.xs) (he : -100 ≤ b.e ∧ b.e ≤ 100) (hsh : b.sh.length ≤ 1000) : Ok Tryz.prog 24 [blkV b, plV f log k s m i, .int j] (.tup [blkV (nxB f log s m i b ((passL log k).getD j (0, 0))), .int 0]) := by
  have hf := fmt_of h
  have hl : 2 ≤ log ∧ log ≤ 6 := by have := h.2.1; omega
  have hM := may.ok f log k s m (-fM f) (fM f) i b.xs h.2.1 (by rw [hx, Int.toNat_natCast]; simp) (inB_near.2 hn)
  have h0 : ¬ (j : Int) < 0 := by omega
  have h0' : (0 : Int) ≤ (j : Int) := by omega
  have h1 : ¬ ((passL log k).length : Int) ≤ (j : Int) := by omega
  have h1' : (j : Int) < ((passL log k).length : Int) := by omega
  have h2 : ¬ b.e < -100 := by omega
  have h3 : ¬ 100 < b.e := by omega
  have hp : PassOf b.xs.length ((passL log k).getD j (0, 0)) := by
    rw [getD_at hj, hx]
    exact pass_of hl (List.getElem_mem hj)
  have hN := next.ok f k s m i log h b hx hn (by omega) hsh _ hp
  refine ok_of (X := fun _ => []) (Z := fun _ => false) (res := [ResultVar.cell 6 27, ResultVar.tmp 7]) tok follows Tryz.func24 rfl rfl fine24 (by kernel_rfl) (by kernel_rfl) ?_
  simp only [evA, evT, evD, seval, cx_free, in_free]
  refine call_ok (Passes.ok f log k s m i h hk) (by simp only [evA, evT, evD, seval, pRows_cx, cx_free]) ?_
  simp only [evA, evT, evD, seval, h0, h1, ge_iff_le, pRows_cx, cx_free, cx_len, in_free]
  refine call_ok (ready.ok f log k s m i h) ?_ ?_
  · rcases s3 h.2.2.2.1 with rfl | rfl | rfl
    all_goals simp only [evA, evT, evD, seval, sc_0, sc_1, sc_2, cx_free]
  rcases s3 h.2.2.2.1 with rfl | rfl | rfl
  all_goals
    simp only [evA, evT, evD, seval, sc_0, sc_1, sc_2, cx_free, in_free, neg1B hf, shB hf, fM_1 hf, fB_pos hf]
    refine call_ok hM rfl ?_
    simp only [evA, evT, evD, seval, h2, h3, h0', h1', sc_0, sc_1, sc_2, cx_free, cx_len, in_free, Int.toNat_natCast, cx_getD hj]
    refine call_ok hN (by simp only [evA, evT, evD, seval, cx_free, in_free]) ?_
    simp only [evA, evT, evD, seval, cx_free, in_free]
end Go.Proofs.YtnnjjblgilibgaaGreatV

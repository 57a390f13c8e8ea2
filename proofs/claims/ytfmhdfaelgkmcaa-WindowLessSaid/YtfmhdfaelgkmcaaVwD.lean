import Derived.Test.YtfmhdfaelgkmcaaVwB
import Derived.Test.YtfmhdfaelgkmcaaVdF
import Derived.Test.YtfmhdfaelgkmcaaVrK
/- WindowMirrors answers true. -/
namespace Go.Proofs.YtfmhdfaelgkmcaaV
open Go Go.RowKit
set_option linter.unusedVariables false
set_option linter.unusedSimpArgs false
set_option maxRecDepth 100000
set_option maxHeartbeats 40000000
theorem fine7 : Fine Try.prog 7 := fun _ _ => by kernel_rfl
theorem rW_mod (log : Nat) (k : Nat) (bits : Int) : rW log ((k % 2 ^ log : Nat) : Int) bits = rW log (k : Int) bits := by
  refine rW_of (rR_of ?_)
  rw [Int.natCast_emod, Int.natCast_pow]
  exact Int.emod_emod_of_dvd _ (Int.dvd_refl _)
theorem wtV_eq (kind : Int) (log : Nat) (bits : Int) (k : Nat) : wtV kind log bits k = wg kind (2 ^ bits.toNat) (rW log (k : Int) bits).1 (rW log (2 * (k : Int)) bits).1 := by
  unfold wtV
  rw [rW_mod, Int.natCast_mul]
  rfl
/-- The opposite place's weight. -/
theorem wt_opp (kind : Int) (log : Nat) (bits : Int) (k : Nat) (hk : k ≤ 2 ^ log) (hb : 0 ≤ bits ∧ bits ≤ 40) : wtV kind log bits ((2 ^ log - k) % 2 ^ log) = wtV kind log bits k := by
  have hpn : ((2 ^ log : Nat) : Int) = 2 ^ log := by rw [Int.natCast_pow]; rfl
  have e1 : rW log (((2 ^ log - k) % 2 ^ log : Nat) : Int) bits = rW log (-(k : Int)) bits := by
    rw [rW_mod, show ((2 ^ log - k : Nat) : Int) = -(k : Int) + 2 ^ log by omega, rW_again]
  have e2 : rW log (2 * (((2 ^ log - k) % 2 ^ log : Nat) : Int)) bits = rW log (-(2 * (k : Int))) bits := by
    have : rW log (2 * (((2 ^ log - k) % 2 ^ log : Nat) : Int)) bits = rW log (2 * ((2 ^ log - k : Nat) : Int)) bits := by
      refine rW_of (rR_of ?_)
      rw [Int.natCast_emod, hpn, Int.mul_emod, Int.emod_emod_of_dvd _ (Int.dvd_refl _), ← Int.mul_emod]
    rw [this, show 2 * ((2 ^ log - k : Nat) : Int) = -(2 * (k : Int)) + 2 ^ log + 2 ^ log by omega, rW_again, rW_again]
  rw [wtV_eq, wtV_eq, e1, e2, rW_opp log _ bits hb, rW_opp log _ bits hb]
theorem EL_black : ((List.range 64).all fun r => decide (r = 0) || decide (1125899906842624 ≤ 21 * 72057594037927936 - 25 * (EL.getD r (0, 0)).1 + 4 * (EL.getD (2 * r % 64) (0, 0)).1)) = true := by decide +kernel
theorem black_pos (j bits : Int) (hb : 13 ≤ bits ∧ bits ≤ 40) : 0 ≤ 21 * 2 ^ bits.toNat - 25 * (rW 6 j bits).1 + 4 * (rW 6 (2 * j) bits).1 := by
  have hT : (2 : Int) ^ bits.toNat * 2 ^ (56 - bits).toNat = 72057594037927936 := by
    rw [← Int.pow_add, show bits.toNat + (56 - bits).toNat = 56 by omega]
    rfl
  have hW : (65536 : Int) ≤ 2 ^ (56 - bits).toNat ∧ (2 : Int) ^ (56 - bits).toNat ≤ 8796093022208 := by
    have h1 : (2 : Int) ^ 16 ≤ 2 ^ (56 - bits).toNat := pow_le (by omega)
    have h2 : (2 : Int) ^ (56 - bits).toNat ≤ 2 ^ 43 := pow_le (by omega)
    exact ⟨h1, h2⟩
  obtain ⟨hr, hre⟩ := rR_lt (log := 6) (k := j)
  obtain ⟨hr2, hre2⟩ := rR_lt (log := 6) (k := 2 * j)
  have h64 : (2 : Int) ^ 6 = 64 := rfl
  have hr64 : rR 6 j < 64 := hr
  rw [h64] at hre hre2
  have e2 : rR 6 (2 * j) = 2 * rR 6 j % 64 := by omega
  by_cases h0 : rR 6 j = 0
  · have z1 : rW 6 j bits = rW 6 0 bits := rW_of (by rw [h0, rR_zero])
    have z2 : rW 6 (2 * j) bits = rW 6 0 bits := rW_of (by rw [e2, h0, rR_zero])
    rw [z1, z2, rW_one 6 bits (by omega)]
    simp only
    omega
  · obtain ⟨a1, a2⟩ := six_near j bits (by omega)
    obtain ⟨b1, b2⟩ := six_near (2 * j) bits (by omega)
    have ht := List.all_eq_true.1 EL_black (rR 6 j) (List.mem_range.2 hr64)
    rw [Bool.or_eq_true] at ht
    have ht := of_decide_eq_true (ht.resolve_left (fun g => h0 (of_decide_eq_true g)))
    rw [e2] at b1
    generalize (EL.getD (rR 6 j) (0, 0)).1 = C at *
    generalize (EL.getD (2 * rR 6 j % 64) (0, 0)).1 = D at *
    generalize (rW 6 j bits).1 = c at *
    generalize (rW 6 (2 * j) bits).1 = d at *
    generalize (2 : Int) ^ (56 - bits).toNat = W at *
    generalize (2 : Int) ^ bits.toNat = T at *
    have h : 0 ≤ (21 * T - 25 * c + 4 * d) * W := by
      rw [Int.add_mul, Int.sub_mul, Int.mul_assoc, Int.mul_assoc, Int.mul_assoc, hT]
      omega
    rcases Int.lt_or_le (21 * T - 25 * c + 4 * d) 0 with g | g
    · have : (21 * T - 25 * c + 4 * d) * W < 0 * W := Int.mul_lt_mul_of_pos_right g (by omega)
      omega
    · exact g
theorem wt_in (kind : Int) (log : Nat) (bits : Int) (k : Nat) (hl : log ≤ 6) (hb : 13 ≤ bits ∧ bits ≤ 40) : 0 ≤ wtV kind log bits k ∧ wtV kind log bits k ≤ 2 ^ bits.toNat := by
  have hp := pow_pos bits.toNat
  have w1 := rW_le log k bits hl (by omega)
  have w2 := rW_le log (2 * (k : Int)) bits hl (by omega)
  have hB : 0 ≤ 21 * 2 ^ bits.toNat - 25 * (rW log k bits).1 + 4 * (rW log (2 * (k : Int)) bits).1 := by
    rw [rW_six log k bits hl, rW_six log (2 * (k : Int)) bits hl, Int.mul_assoc]
    exact black_pos _ bits hb
  rw [wtV_eq]
  unfold win at w1 w2
  generalize (2 : Int) ^ bits.toNat = o at *
  generalize (rW log k bits).1 = c at *
  generalize (rW log (2 * (k : Int)) bits).1 = d at *
  unfold wg
  split
  · have := rsh_btw (x := o - c) (s := 1) (how := 1) (a := 0) (b := o) (by omega) (by show o - c ≤ o * 2 ^ 1; omega)
    exact this
  · split
    · omega
    · split <;> omega
theorem rsh11 (x : Int) : rsh x 1 1 = (x + 1) / 2 := by
  unfold rsh goesUp
  simp only [if_neg (show ¬ (1 : Int) = 0 by decide), if_true, decide_eq_true_eq]
  show (if (1 : Int) ≤ x % 2 then x / 2 + 1 else x / 2) = _
  split <;> omega
theorem wt_half (log : Nat) (bits : Int) (k : Nat) (hl : 2 ≤ log ∧ log ≤ 6) : wtV 1 log bits k + wtV 1 log bits ((k + 2 ^ log / 2) % 2 ^ log) = 2 ^ bits.toNat ∨ wtV 1 log bits k + wtV 1 log bits ((k + 2 ^ log / 2) % 2 ^ log) = 2 ^ bits.toNat + 1 := by
  obtain ⟨j, rfl⟩ : ∃ j, log = j + 2 := ⟨log - 2, by omega⟩
  have hm : 4 * (2 : Int) ^ j = 2 ^ (j + 2) := by rw [Int.pow_add, Int.mul_comm]; rfl
  have hpn : ((2 ^ j : Nat) : Int) = 2 ^ j := by rw [Int.natCast_pow]; rfl
  have hh : (2 : Nat) ^ (j + 2) / 2 = 2 * 2 ^ j := by rw [Nat.pow_add]; omega
  have e : rW (j + 2) ((((k + 2 ^ (j + 2) / 2) % 2 ^ (j + 2) : Nat)) : Int) bits = (-(rW (j + 2) k bits).1, -(rW (j + 2) k bits).2) := by
    rw [rW_mod, hh, Int.natCast_add, Int.natCast_mul, hpn]
    exact rW_opp2 (j + 2) k bits (2 ^ j) hm
  rw [wtV_eq, wtV_eq, e]
  unfold wg
  rw [if_pos rfl, if_pos rfl, rsh11, rsh11]
  generalize (2 : Int) ^ bits.toNat = o at *
  generalize (rW (j + 2) k bits).1 = c at *
  omega
theorem winL_get {kind : Int} {log : Nat} {bits : Int} {n i : Nat} (h : i < n) : (winL kind log bits n).getD i 0 = wtV kind log bits i := by
  rw [getD_at (by rw [winL_len]; exact h)]
  unfold winL
  simp
theorem WindowMirrors.true (kind0 log0 bits0 : Int) : Ok Try.prog 7 [.int kind0, .int log0, .int bits0] (.bool true) := by
  obtain ⟨c1, c2, c3⟩ := into kind0 4 (by decide) (by decide)
  obtain ⟨a1, a2, a3⟩ := into log0 5 (by decide) (by decide)
  obtain ⟨b1, b2, b3⟩ := into bits0 28 (by decide) (by decide)
  obtain ⟨log, hlog, hl⟩ : ∃ log : Nat, (log0.tmod 5 + 5).tmod 5 + 2 = (log : Int) ∧ 2 ≤ log ∧ log ≤ 6 := ⟨((log0.tmod 5 + 5).tmod 5 + 2).toNat, by omega⟩
  have hw : IntKind.i64.wrap ((log0.tmod 5 + 5).tmod 5 + 2) = (log : Int) := by rw [wr (by omega), hlog]
  obtain ⟨bits, hbits, hb⟩ : ∃ bits : Int, (bits0.tmod 28 + 28).tmod 28 + 13 = bits ∧ 13 ≤ bits ∧ bits ≤ 40 := ⟨(bits0.tmod 28 + 28).tmod 28 + 13, by omega⟩
  have hwb : IntKind.i64.wrap ((bits0.tmod 28 + 28).tmod 28 + 13) = bits := by rw [wr (by omega), hbits]
  have hp := pow64 hl
  have hpn : ((2 ^ log : Nat) : Int) = 2 ^ log := by rw [Int.natCast_pow]; rfl
  have h5 : (0 : Int) ≤ (log : Int) := by omega
  have hbb : (0 : Int) ≤ bits := by omega
  have hpo := pow40 (bits := bits) (by omega)
  have hsh : IntKind.i64.wrap (1 * 2 ^ min bits.toNat IntKind.i64.bits) = 2 ^ bits.toNat := sh1 (by omega)
  have hshl : IntKind.i64.wrap (1 * 2 ^ min log IntKind.i64.bits) = ((2 ^ log : Nat) : Int) := by rw [hpn]; exact sh1 (by omega)
  refine ok_of (X := fun _ => []) (Z := fun _ => false) (res := [ResultVar.tmp 6]) tok follows Try.func7 rfl rfl fine7 (by kernel_rfl) (by kernel_rfl) ?_
  simp only [evA, evT, Go.undef, aload, astore, afieldAddr, afield, aindex, aindexAddr, abuild, abuildSlice, amakeSlice, aslice, aext, alen, aminmax, minmaxGo, aappend, newsOf, buildCells, cutRows, reps, setCells, AV.cells, allOne, AV.one, Value.oneCell', AV.pure, allPure, AV.free, allFree, rowsFree, Nat.reduceBEq, Nat.reduceAdd, Nat.reduceMul, Nat.reduceSub, Nat.reduceLT, Nat.reduceLeDiff, Int.reduceToNat, reduceIte, reduceCtorEq, Int.reduceLT, Int.reduceLE, Nat.reduceEqDiff, Int.reduceEq, Int.reduceNeg, Int.reduceMul, Int.reduceAdd, Int.reduceSub, Int.reduceBNe, Int.reduceBEq, apart, bnd, a1, b1, c1, hw, hwb]
  generalize hK : (kind0.tmod 4 + 4).tmod 4 = kind at *
  have hk : 0 ≤ kind ∧ kind ≤ 3 := by omega
  have hlen := fun i (h : i < 2 ^ log) => in_getD (zs := winL kind log bits (2 ^ log)) (i := i) (by rw [winL_len]; exact h)
  refine call_ok (WTable.ok kind log bits hk hl (by omega)) (by simp only [evA, evT, Go.undef, aload, astore, afieldAddr, afield, aindex, aindexAddr, abuild, abuildSlice, amakeSlice, aslice, aext, alen, aminmax, minmaxGo, aappend, newsOf, buildCells, cutRows, reps, setCells, AV.cells, allOne, AV.one, Value.oneCell', AV.pure, allPure, AV.free, allFree, rowsFree, Nat.reduceBEq, Nat.reduceAdd, Nat.reduceMul, Nat.reduceSub, Nat.reduceLT, Nat.reduceLeDiff, Int.reduceToNat, reduceIte, reduceCtorEq, Int.reduceLT, Int.reduceLE, Nat.reduceEqDiff, Int.reduceEq, Int.reduceNeg, Int.reduceMul, Int.reduceAdd, Int.reduceSub, Int.reduceBNe, Int.reduceBEq, apart, bnd, in_free]) ?_
  simp only [evA, evT, Go.undef, aload, astore, afieldAddr, afield, aindex, aindexAddr, abuild, abuildSlice, amakeSlice, aslice, aext, alen, aminmax, minmaxGo, aappend, newsOf, buildCells, cutRows, reps, setCells, AV.cells, allOne, AV.one, Value.oneCell', AV.pure, allPure, AV.free, allFree, rowsFree, Nat.reduceBEq, Nat.reduceAdd, Nat.reduceMul, Nat.reduceSub, Nat.reduceLT, Nat.reduceLeDiff, Int.reduceToNat, reduceIte, reduceCtorEq, Int.reduceLT, Int.reduceLE, Nat.reduceEqDiff, Int.reduceEq, Int.reduceNeg, Int.reduceMul, Int.reduceAdd, Int.reduceSub, Int.reduceBNe, Int.reduceBEq, apart, bnd, in_free, in_len, winL_len, h5, Int.toNat_natCast, hshl]
  refine call_ok alive19.ok rfl ?_
  simp only [evA, evT, Go.undef, aload, astore, afieldAddr, afield, aindex, aindexAddr, abuild, abuildSlice, amakeSlice, aslice, aext, alen, aminmax, minmaxGo, aappend, newsOf, buildCells, cutRows, reps, setCells, AV.cells, allOne, AV.one, Value.oneCell', AV.pure, allPure, AV.free, allFree, rowsFree, Nat.reduceBEq, Nat.reduceAdd, Nat.reduceMul, Nat.reduceSub, Nat.reduceLT, Nat.reduceLeDiff, Int.reduceToNat, reduceIte, reduceCtorEq, Int.reduceLT, Int.reduceLE, Nat.reduceEqDiff, Int.reduceEq, Int.reduceNeg, Int.reduceMul, Int.reduceAdd, Int.reduceSub, Int.reduceBNe, Int.reduceBEq, apart, bnd, in_free, in_len, winL_len]
  refine l_inv (fun i => ⟨[(51, .int i), (50, .int ((2 ^ log : Nat) : Int)), (49, .sl 1 (intRows (winL kind log bits (2 ^ log)))), (9, .int ((2 ^ log : Nat) : Int)), (7, .sl 1 (intRows (winL kind log bits (2 ^ log)))), (0, .int kind), (2, .int bits)], [], 0⟩) (2 ^ log) ?_ (fun i hi K hK => ?_) (fun K => ?_)
  · refine weak_of (fun l => l) rfl trivial ?_
    simp only [evA, evB, evT, Go.undef, aload, astore, afieldAddr, afield, aindex, aindexAddr, abuild, abuildSlice, amakeSlice, aslice, aext, alen, aminmax, minmaxGo, aappend, newsOf, buildCells, cutRows, reps, setCells, AV.cells, allOne, AV.one, Value.oneCell', AV.pure, allPure, AV.free, allFree, rowsFree, Nat.reduceBEq, Nat.reduceAdd, Nat.reduceMul, Nat.reduceSub, Nat.reduceLT, Nat.reduceLeDiff, Int.reduceToNat, reduceIte, reduceCtorEq, Int.reduceLT, Int.reduceLE, Nat.reduceEqDiff, Int.reduceEq, Int.reduceNeg, Int.reduceMul, Int.reduceAdd, Int.reduceSub, Int.reduceBNe, Int.reduceBEq, apart, bnd, in_free, Int.natCast_zero]
  · have q0 : (i : Int) < ((2 ^ log : Nat) : Int) := by omega
    have q1 : IntKind.i64.wrap ((i : Int) + 1) = ((i + 1 : Nat) : Int) := by rw [wr (by omega)]; omega
    have q2 : (0 : Int) ≤ (i : Int) := by omega
    have hj : (i + 2 ^ log / 2) % 2 ^ log < 2 ^ log := Nat.mod_lt _ (by omega)
    have hj' : (2 ^ log - i) % 2 ^ log < 2 ^ log := Nat.mod_lt _ (by omega)
    have n0 : ¬ ((2 ^ log : Nat) : Int) = 0 := by omega
    have n1 : IntKind.i64.wrap (((2 ^ log : Nat) : Int).tdiv 2) = ((2 ^ log / 2 : Nat) : Int) := by
      rw [Int.tdiv_eq_ediv_of_nonneg (by omega), wr (by omega)]
      omega
    have n2 : IntKind.i64.wrap ((i : Int) + ((2 ^ log / 2 : Nat) : Int)) = ((i + 2 ^ log / 2 : Nat) : Int) := by rw [wr (by omega)]; omega
    have n3 : ((i + 2 ^ log / 2 : Nat) : Int).tmod ((2 ^ log : Nat) : Int) = (((i + 2 ^ log / 2) % 2 ^ log : Nat) : Int) := by rw [Int.tmod_eq_emod_of_nonneg (by omega), Int.natCast_emod]
    have n4 : IntKind.i64.wrap (((2 ^ log : Nat) : Int) - (i : Int)) = ((2 ^ log - i : Nat) : Int) := by rw [wr (by omega)]; omega
    have n5 : ((2 ^ log - i : Nat) : Int).tmod ((2 ^ log : Nat) : Int) = (((2 ^ log - i) % 2 ^ log : Nat) : Int) := by rw [Int.tmod_eq_emod_of_nonneg (by omega), Int.natCast_emod]
    have m1 : (((i + 2 ^ log / 2) % 2 ^ log : Nat) : Int) < ((2 ^ log : Nat) : Int) := by omega
    have m2 : (0 : Int) ≤ (((i + 2 ^ log / 2) % 2 ^ log : Nat) : Int) := by omega
    have m3 : (((2 ^ log - i) % 2 ^ log : Nat) : Int) < ((2 ^ log : Nat) : Int) := by omega
    have m4 : (0 : Int) ≤ (((2 ^ log - i) % 2 ^ log : Nat) : Int) := by omega
    have w1 := wt_in kind log bits i hl.2 hb
    have w2 := wt_in kind log bits ((i + 2 ^ log / 2) % 2 ^ log) hl.2 hb
    have g1 := hlen i hi
    have g2 := hlen _ hj
    have g3 := hlen _ hj'
    rw [winL_get hi] at g1
    rw [winL_get hj] at g2
    rw [winL_get hj', wt_opp kind log bits i (by omega) (by omega)] at g3
    have hH : kind = 1 → wtV kind log bits i + wtV kind log bits ((i + 2 ^ log / 2) % 2 ^ log) = 2 ^ bits.toNat ∨ wtV kind log bits i + wtV kind log bits ((i + 2 ^ log / 2) % 2 ^ log) = 2 ^ bits.toNat + 1 := fun e => by
      rw [e]
      exact wt_half log bits i hl
    have hR : kind = 0 → wtV kind log bits i = 2 ^ bits.toNat := fun e => by
      rw [e]
      rfl
    generalize wtV kind log bits i = x at *
    generalize wtV kind log bits ((i + 2 ^ log / 2) % 2 ^ log) = y at *
    generalize hT : (2 : Int) ^ bits.toNat = T at *
    have t1 : IntKind.i64.wrap (x + y) = x + y := wr (by omega)
    have t2 : IntKind.i64.wrap (T + 1) = T + 1 := wr (by omega)
    have t3 : ¬ x < 0 := by omega
    have t5 : ¬ T < 0 := by omega
    have t6 : IntKind.i64.wrap T = T := wr (by omega)
    have t4 : ¬ T < x := by omega
    have hc : kind = 0 ∨ kind = 1 ∨ kind = 2 ∨ kind = 3 := by omega
    rcases hc with rfl | rfl | rfl | rfl
    · have g := hR rfl
      simp only [evA, evT, Go.undef, aload, astore, afieldAddr, afield, aindex, aindexAddr, abuild, abuildSlice, amakeSlice, aslice, aext, alen, aminmax, minmaxGo, aappend, newsOf, buildCells, cutRows, reps, setCells, AV.cells, allOne, AV.one, Value.oneCell', AV.pure, allPure, AV.free, allFree, rowsFree, Nat.reduceBEq, Nat.reduceAdd, Nat.reduceMul, Nat.reduceSub, Nat.reduceLT, Nat.reduceLeDiff, Int.reduceToNat, reduceIte, reduceCtorEq, Int.reduceLT, Int.reduceLE, Nat.reduceEqDiff, Int.reduceEq, Int.reduceNeg, Int.reduceMul, Int.reduceAdd, Int.reduceSub, Int.reduceBNe, Int.reduceBEq, apart, bnd, q0, q2, n0, n1, n2, n3, n4, n5, m1, m2, m3, m4, in_len, winL_len, Int.toNat_natCast, g1, g2, g3, t1, t2, t3, t4, t5, t6, hbb, hsh, q1, g]
      refine hK _ (weak_of (fun l => l) rfl trivial ?_)
      simp only [evA, evB, evT, Go.undef, aload, astore, afieldAddr, afield, aindex, aindexAddr, abuild, abuildSlice, amakeSlice, aslice, aext, alen, aminmax, minmaxGo, aappend, newsOf, buildCells, cutRows, reps, setCells, AV.cells, allOne, AV.one, Value.oneCell', AV.pure, allPure, AV.free, allFree, rowsFree, Nat.reduceBEq, Nat.reduceAdd, Nat.reduceMul, Nat.reduceSub, Nat.reduceLT, Nat.reduceLeDiff, Int.reduceToNat, reduceIte, reduceCtorEq, Int.reduceLT, Int.reduceLE, Nat.reduceEqDiff, Int.reduceEq, Int.reduceNeg, Int.reduceMul, Int.reduceAdd, Int.reduceSub, Int.reduceBNe, Int.reduceBEq, apart, bnd, in_free]
    · rcases hH rfl with g | g
      · simp only [evA, evT, Go.undef, aload, astore, afieldAddr, afield, aindex, aindexAddr, abuild, abuildSlice, amakeSlice, aslice, aext, alen, aminmax, minmaxGo, aappend, newsOf, buildCells, cutRows, reps, setCells, AV.cells, allOne, AV.one, Value.oneCell', AV.pure, allPure, AV.free, allFree, rowsFree, Nat.reduceBEq, Nat.reduceAdd, Nat.reduceMul, Nat.reduceSub, Nat.reduceLT, Nat.reduceLeDiff, Int.reduceToNat, reduceIte, reduceCtorEq, Int.reduceLT, Int.reduceLE, Nat.reduceEqDiff, Int.reduceEq, Int.reduceNeg, Int.reduceMul, Int.reduceAdd, Int.reduceSub, Int.reduceBNe, Int.reduceBEq, apart, bnd, q0, q2, n0, n1, n2, n3, n4, n5, m1, m2, m3, m4, in_len, winL_len, Int.toNat_natCast, g1, g2, g3, t1, t2, t3, t4, t5, t6, hbb, hsh, q1, g]
        refine hK _ (weak_of (fun l => l) rfl trivial ?_)
        simp only [evA, evB, evT, Go.undef, aload, astore, afieldAddr, afield, aindex, aindexAddr, abuild, abuildSlice, amakeSlice, aslice, aext, alen, aminmax, minmaxGo, aappend, newsOf, buildCells, cutRows, reps, setCells, AV.cells, allOne, AV.one, Value.oneCell', AV.pure, allPure, AV.free, allFree, rowsFree, Nat.reduceBEq, Nat.reduceAdd, Nat.reduceMul, Nat.reduceSub, Nat.reduceLT, Nat.reduceLeDiff, Int.reduceToNat, reduceIte, reduceCtorEq, Int.reduceLT, Int.reduceLE, Nat.reduceEqDiff, Int.reduceEq, Int.reduceNeg, Int.reduceMul, Int.reduceAdd, Int.reduceSub, Int.reduceBNe, Int.reduceBEq, apart, bnd, in_free]
      · have g' : ¬ T + 1 = T := by omega
        simp only [evA, evT, Go.undef, aload, astore, afieldAddr, afield, aindex, aindexAddr, abuild, abuildSlice, amakeSlice, aslice, aext, alen, aminmax, minmaxGo, aappend, newsOf, buildCells, cutRows, reps, setCells, AV.cells, allOne, AV.one, Value.oneCell', AV.pure, allPure, AV.free, allFree, rowsFree, Nat.reduceBEq, Nat.reduceAdd, Nat.reduceMul, Nat.reduceSub, Nat.reduceLT, Nat.reduceLeDiff, Int.reduceToNat, reduceIte, reduceCtorEq, Int.reduceLT, Int.reduceLE, Nat.reduceEqDiff, Int.reduceEq, Int.reduceNeg, Int.reduceMul, Int.reduceAdd, Int.reduceSub, Int.reduceBNe, Int.reduceBEq, apart, bnd, q0, q2, n0, n1, n2, n3, n4, n5, m1, m2, m3, m4, in_len, winL_len, Int.toNat_natCast, g1, g2, g3, t1, t2, t3, t4, t5, t6, hbb, hsh, q1, g, g']
        refine hK _ (weak_of (fun l => l) rfl trivial ?_)
        simp only [evA, evB, evT, Go.undef, aload, astore, afieldAddr, afield, aindex, aindexAddr, abuild, abuildSlice, amakeSlice, aslice, aext, alen, aminmax, minmaxGo, aappend, newsOf, buildCells, cutRows, reps, setCells, AV.cells, allOne, AV.one, Value.oneCell', AV.pure, allPure, AV.free, allFree, rowsFree, Nat.reduceBEq, Nat.reduceAdd, Nat.reduceMul, Nat.reduceSub, Nat.reduceLT, Nat.reduceLeDiff, Int.reduceToNat, reduceIte, reduceCtorEq, Int.reduceLT, Int.reduceLE, Nat.reduceEqDiff, Int.reduceEq, Int.reduceNeg, Int.reduceMul, Int.reduceAdd, Int.reduceSub, Int.reduceBNe, Int.reduceBEq, apart, bnd, in_free]
    · simp only [evA, evT, Go.undef, aload, astore, afieldAddr, afield, aindex, aindexAddr, abuild, abuildSlice, amakeSlice, aslice, aext, alen, aminmax, minmaxGo, aappend, newsOf, buildCells, cutRows, reps, setCells, AV.cells, allOne, AV.one, Value.oneCell', AV.pure, allPure, AV.free, allFree, rowsFree, Nat.reduceBEq, Nat.reduceAdd, Nat.reduceMul, Nat.reduceSub, Nat.reduceLT, Nat.reduceLeDiff, Int.reduceToNat, reduceIte, reduceCtorEq, Int.reduceLT, Int.reduceLE, Nat.reduceEqDiff, Int.reduceEq, Int.reduceNeg, Int.reduceMul, Int.reduceAdd, Int.reduceSub, Int.reduceBNe, Int.reduceBEq, apart, bnd, q0, q2, n0, n1, n2, n3, n4, n5, m1, m2, m3, m4, in_len, winL_len, Int.toNat_natCast, g1, g2, g3, t1, t2, t3, t4, t5, t6, hbb, hsh, q1]
      refine hK _ (weak_of (fun l => l) rfl trivial ?_)
      simp only [evA, evB, evT, Go.undef, aload, astore, afieldAddr, afield, aindex, aindexAddr, abuild, abuildSlice, amakeSlice, aslice, aext, alen, aminmax, minmaxGo, aappend, newsOf, buildCells, cutRows, reps, setCells, AV.cells, allOne, AV.one, Value.oneCell', AV.pure, allPure, AV.free, allFree, rowsFree, Nat.reduceBEq, Nat.reduceAdd, Nat.reduceMul, Nat.reduceSub, Nat.reduceLT, Nat.reduceLeDiff, Int.reduceToNat, reduceIte, reduceCtorEq, Int.reduceLT, Int.reduceLE, Nat.reduceEqDiff, Int.reduceEq, Int.reduceNeg, Int.reduceMul, Int.reduceAdd, Int.reduceSub, Int.reduceBNe, Int.reduceBEq, apart, bnd, in_free]
    · simp only [evA, evT, Go.undef, aload, astore, afieldAddr, afield, aindex, aindexAddr, abuild, abuildSlice, amakeSlice, aslice, aext, alen, aminmax, minmaxGo, aappend, newsOf, buildCells, cutRows, reps, setCells, AV.cells, allOne, AV.one, Value.oneCell', AV.pure, allPure, AV.free, allFree, rowsFree, Nat.reduceBEq, Nat.reduceAdd, Nat.reduceMul, Nat.reduceSub, Nat.reduceLT, Nat.reduceLeDiff, Int.reduceToNat, reduceIte, reduceCtorEq, Int.reduceLT, Int.reduceLE, Nat.reduceEqDiff, Int.reduceEq, Int.reduceNeg, Int.reduceMul, Int.reduceAdd, Int.reduceSub, Int.reduceBNe, Int.reduceBEq, apart, bnd, q0, q2, n0, n1, n2, n3, n4, n5, m1, m2, m3, m4, in_len, winL_len, Int.toNat_natCast, g1, g2, g3, t1, t2, t3, t4, t5, t6, hbb, hsh, q1]
      refine hK _ (weak_of (fun l => l) rfl trivial ?_)
      simp only [evA, evB, evT, Go.undef, aload, astore, afieldAddr, afield, aindex, aindexAddr, abuild, abuildSlice, amakeSlice, aslice, aext, alen, aminmax, minmaxGo, aappend, newsOf, buildCells, cutRows, reps, setCells, AV.cells, allOne, AV.one, Value.oneCell', AV.pure, allPure, AV.free, allFree, rowsFree, Nat.reduceBEq, Nat.reduceAdd, Nat.reduceMul, Nat.reduceSub, Nat.reduceLT, Nat.reduceLeDiff, Int.reduceToNat, reduceIte, reduceCtorEq, Int.reduceLT, Int.reduceLE, Nat.reduceEqDiff, Int.reduceEq, Int.reduceNeg, Int.reduceMul, Int.reduceAdd, Int.reduceSub, Int.reduceBNe, Int.reduceBEq, apart, bnd, in_free]
  · simp only [evA, evT, Go.undef, aload, astore, afieldAddr, afield, aindex, aindexAddr, abuild, abuildSlice, amakeSlice, aslice, aext, alen, aminmax, minmaxGo, aappend, newsOf, buildCells, cutRows, reps, setCells, AV.cells, allOne, AV.one, Value.oneCell', AV.pure, allPure, AV.free, allFree, rowsFree, Nat.reduceBEq, Nat.reduceAdd, Nat.reduceMul, Nat.reduceSub, Nat.reduceLT, Nat.reduceLeDiff, Int.reduceToNat, reduceIte, reduceCtorEq, Int.reduceLT, Int.reduceLE, Nat.reduceEqDiff, Int.reduceEq, Int.reduceNeg, Int.reduceMul, Int.reduceAdd, Int.reduceSub, Int.reduceBNe, Int.reduceBEq, apart, bnd]
end Go.Proofs.YtfmhdfaelgkmcaaV

import Derived.Test.YtnnjjblgilibgaaVrC
import Derived.Test.YtnnjjblgilibgaaVfC
/- Contracts: points of the circle; roots. -/
namespace Go.Proofs.YtnnjjblgilibgaaV
open Go Go.RowKit
set_option linter.unusedVariables false
set_option linter.unusedSimpArgs false
set_option maxRecDepth 100000
set_option maxHeartbeats 40000000
theorem fine90 : Fine Try.prog 90 := fun _ _ => by kernel_rfl
theorem fine89 : Fine Try.prog 89 := fun _ _ => by kernel_rfl
theorem fine84 : Fine Try.prog 84 := fun _ _ => by kernel_rfl
theorem fine78 : Fine Try.prog 78 := fun _ _ => by kernel_rfl
theorem fine63 : Fine Try.prog 63 := fun _ _ => by kernel_rfl
theorem fine60 : Fine Try.prog 60 := fun _ _ => by kernel_rfl
theorem dec_t' {p : Prop} [Decidable p] : (AV.raw (Value.bool true) = AV.bool (decide p)) = p := by simp
theorem dec_f' {p : Prop} [Decidable p] : (AV.raw (Value.bool false) = AV.bool (decide p)) = ¬ p := by simp
theorem dec_d' {p q : Prop} [Decidable p] [Decidable q] : (AV.raw (Value.bool (decide p)) = AV.bool (decide q)) = (p ↔ q) := by simp
theorem win_mono' {m m' a b : Int} (h : win m a b) (hm : m ≤ m') : win m' a b := by unfold win at *; omega
theorem pow6 {log : Nat} (h : log ≤ 6) : (1 : Int) ≤ 2 ^ log ∧ (2 : Int) ^ log ≤ 64 := by
  have h1 := pow_pos log
  have h2 : (2 : Int) ^ log ≤ 2 ^ 6 := pow_le h
  omega
theorem z_bd {k log : Nat} (hl : log ≤ 6) (hk : k ≤ 2 ^ log) : 0 ≤ quarterV * k ∧ quarterV * k ≤ 4611686018427387904 ∧ 0 ≤ zV k log ∧ zV k log ≤ 72057594037927936 := by
  have hp := pow6 hl
  have hk' : (k : Int) ≤ 2 ^ log := by exact_mod_cast hk
  unfold zV
  rw [quarter_n]
  refine ⟨by omega, by omega, Int.ediv_nonneg (by omega) (by omega), ?_⟩
  refine Int.ediv_le_of_le_mul (by omega) ?_
  generalize (2 : Int) ^ log = p at *
  omega
theorem Eighth1.ok (k log : Nat) (hl : log ≤ 6) (hk : k ≤ 2 ^ log) : Ok Try.prog 90 [.box [.int log] 0, .box [.int k] 0] (.tup [.int (zV k log), .int 0]) := by
  obtain ⟨z1, z2, z3, z4⟩ := z_bd hl hk
  have hk' : (k : Int) ≤ 2 ^ log := by exact_mod_cast hk
  have h1 : ¬ (log : Int) < 0 := by omega
  have h2 : ¬ 6 < (log : Int) := by omega
  have h3 : ¬ (k : Int) < 0 := by omega
  have h4 : ¬ (2 : Int) ^ log < k := by omega
  have h5 : (0 : Int) ≤ (log : Int) := by omega
  have e : IntKind.i64.wrap (quarterV * (k : Int)) = quarterV * k := wr (by omega)
  refine ok_of (X := fun _ => []) (Z := fun _ => false) (res := [ResultVar.tmp 2, ResultVar.tmp 3]) tok follows Try.func90 rfl rfl fine90 (by kernel_rfl) (by kernel_rfl) ?_
  simp only [evA, evT, Go.undef, aload, astore, afieldAddr, afield, aindex, aindexAddr, abuild, abuildSlice, amakeSlice, aslice, aext, alen, aminmax, minmaxGo, aappend, newsOf, buildCells, cutRows, reps, setCells, AV.cells, allOne, AV.one, Value.oneCell', AV.pure, allPure, AV.free, allFree, rowsFree, Nat.reduceBEq, Nat.reduceAdd, Nat.reduceMul, Nat.reduceSub, Nat.reduceLT, Nat.reduceLeDiff, Int.reduceToNat, reduceIte, reduceCtorEq, Int.reduceLT, Int.reduceLE, Nat.reduceEqDiff, Int.reduceEq, Int.reduceNeg, Int.reduceMul, Int.reduceAdd, Int.reduceSub, Int.reduceBNe, Int.reduceBEq, apart, bnd, h1, h2, h3, h5, Int.toNat_natCast, sh1 (show log ≤ 44 by omega), h4]
  refine call_ok Quarter0.ok rfl ?_
  simp only [evA, evT, Go.undef, aload, astore, afieldAddr, afield, aindex, aindexAddr, abuild, abuildSlice, amakeSlice, aslice, aext, alen, aminmax, minmaxGo, aappend, newsOf, buildCells, cutRows, reps, setCells, AV.cells, allOne, AV.one, Value.oneCell', AV.pure, allPure, AV.free, allFree, rowsFree, Nat.reduceBEq, Nat.reduceAdd, Nat.reduceMul, Nat.reduceSub, Nat.reduceLT, Nat.reduceLeDiff, Int.reduceToNat, reduceIte, reduceCtorEq, Int.reduceLT, Int.reduceLE, Nat.reduceEqDiff, Int.reduceEq, Int.reduceNeg, Int.reduceMul, Int.reduceAdd, Int.reduceSub, Int.reduceBNe, Int.reduceBEq, apart, bnd, h5, e, Int.toNat_natCast, fd (show log ≤ 62 by omega), zV]
theorem told.ok (F : Nat) (caps : List AV) (z : Int) (hc : ∀ lb, caps.map (snap lb 6) = caps) (hf : allFree caps = true) (h : Ok Try.prog F caps (.tup [.int z, .int 0])) (hz : -72057594037927936 ≤ z ∧ z ≤ 72057594037927936) :
    Ok Try.prog 89 [.fn F caps] (.tup [cxA (runV invV z 45).1 (runV invV z 45).2.1, .int 0]) := by
  refine ok_of (X := fun _ => []) (Z := fun _ => false) (res := [ResultVar.cell 2 35, ResultVar.tmp 3]) tok follows Try.func89 rfl rfl fine89 (by kernel_rfl) (by kernel_rfl) ?_
  simp only [evA, evT, Go.undef, aload, astore, afieldAddr, afield, aindex, aindexAddr, abuild, abuildSlice, amakeSlice, aslice, aext, alen, aminmax, minmaxGo, aappend, newsOf, buildCells, cutRows, reps, setCells, AV.cells, allOne, AV.one, Value.oneCell', AV.pure, allPure, AV.free, allFree, rowsFree, Nat.reduceBEq, Nat.reduceAdd, Nat.reduceMul, Nat.reduceSub, Nat.reduceLT, Nat.reduceLeDiff, Int.reduceToNat, reduceIte, reduceCtorEq, Int.reduceLT, Int.reduceLE, Nat.reduceEqDiff, Int.reduceEq, Int.reduceNeg, Int.reduceMul, Int.reduceAdd, Int.reduceSub, Int.reduceBNe, Int.reduceBEq, apart, bnd, hc]
  refine call_ok h rfl ?_
  simp only [evA, evT, Go.undef, aload, astore, afieldAddr, afield, aindex, aindexAddr, abuild, abuildSlice, amakeSlice, aslice, aext, alen, aminmax, minmaxGo, aappend, newsOf, buildCells, cutRows, reps, setCells, AV.cells, allOne, AV.one, Value.oneCell', AV.pure, allPure, AV.free, allFree, rowsFree, Nat.reduceBEq, Nat.reduceAdd, Nat.reduceMul, Nat.reduceSub, Nat.reduceLT, Nat.reduceLeDiff, Int.reduceToNat, reduceIte, reduceCtorEq, Int.reduceLT, Int.reduceLE, Nat.reduceEqDiff, Int.reduceEq, Int.reduceNeg, Int.reduceMul, Int.reduceAdd, Int.reduceSub, Int.reduceBNe, Int.reduceBEq, apart, bnd]
  refine call_ok Inverse0.ok rfl ?_
  simp only [evA, evT, Go.undef, aload, astore, afieldAddr, afield, aindex, aindexAddr, abuild, abuildSlice, amakeSlice, aslice, aext, alen, aminmax, minmaxGo, aappend, newsOf, buildCells, cutRows, reps, setCells, AV.cells, allOne, AV.one, Value.oneCell', AV.pure, allPure, AV.free, allFree, rowsFree, Nat.reduceBEq, Nat.reduceAdd, Nat.reduceMul, Nat.reduceSub, Nat.reduceLT, Nat.reduceLeDiff, Int.reduceToNat, reduceIte, reduceCtorEq, Int.reduceLT, Int.reduceLE, Nat.reduceEqDiff, Int.reduceEq, Int.reduceNeg, Int.reduceMul, Int.reduceAdd, Int.reduceSub, Int.reduceBNe, Int.reduceBEq, apart, bnd]
  refine call_ok (gRun.ok invV z (by rw [inv_n]; decide) hz) rfl ?_
  simp only [evA, evT, Go.undef, aload, astore, afieldAddr, afield, aindex, aindexAddr, abuild, abuildSlice, amakeSlice, aslice, aext, alen, aminmax, minmaxGo, aappend, newsOf, buildCells, cutRows, reps, setCells, AV.cells, allOne, AV.one, Value.oneCell', AV.pure, allPure, AV.free, allFree, rowsFree, Nat.reduceBEq, Nat.reduceAdd, Nat.reduceMul, Nat.reduceSub, Nat.reduceLT, Nat.reduceLeDiff, Int.reduceToNat, reduceIte, reduceCtorEq, Int.reduceLT, Int.reduceLE, Nat.reduceEqDiff, Int.reduceEq, Int.reduceNeg, Int.reduceMul, Int.reduceAdd, Int.reduceSub, Int.reduceBNe, Int.reduceBEq, apart, bnd]
theorem Eighth.ok (k log : Nat) (hl : log ≤ 6) (hk : k ≤ 2 ^ log) : Ok Try.prog 84 [.int k, .int log] (.tup [cxA (eV k log).1 (eV k log).2, .int 0]) := by
  obtain ⟨z1, z2, z3, z4⟩ := z_bd hl hk
  refine ok_of (X := fun _ => []) (Z := fun _ => false) (res := [ResultVar.cell 4 35, ResultVar.tmp 5]) tok follows Try.func84 rfl rfl fine84 (by kernel_rfl) (by kernel_rfl) ?_
  simp only [evA, evT, Go.undef, aload, astore, afieldAddr, afield, aindex, aindexAddr, abuild, abuildSlice, amakeSlice, aslice, aext, alen, aminmax, minmaxGo, aappend, newsOf, buildCells, cutRows, reps, setCells, AV.cells, allOne, AV.one, Value.oneCell', AV.pure, allPure, AV.free, allFree, rowsFree, Nat.reduceBEq, Nat.reduceAdd, Nat.reduceMul, Nat.reduceSub, Nat.reduceLT, Nat.reduceLeDiff, Int.reduceToNat, reduceIte, reduceCtorEq, Int.reduceLT, Int.reduceLE, Nat.reduceEqDiff, Int.reduceEq, Int.reduceNeg, Int.reduceMul, Int.reduceAdd, Int.reduceSub, Int.reduceBNe, Int.reduceBEq, apart, bnd]
  refine call_ok (told.ok 90 [.box [.int log] 0, .box [.int k] 0] (zV k log) (fun _ => rfl) rfl (Eighth1.ok k log hl hk) (by omega)) rfl ?_
  simp only [evA, evT, Go.undef, aload, astore, afieldAddr, afield, aindex, aindexAddr, abuild, abuildSlice, amakeSlice, aslice, aext, alen, aminmax, minmaxGo, aappend, newsOf, buildCells, cutRows, reps, setCells, AV.cells, allOne, AV.one, Value.oneCell', AV.pure, allPure, AV.free, allFree, rowsFree, Nat.reduceBEq, Nat.reduceAdd, Nat.reduceMul, Nat.reduceSub, Nat.reduceLT, Nat.reduceLeDiff, Int.reduceToNat, reduceIte, reduceCtorEq, Int.reduceLT, Int.reduceLE, Nat.reduceEqDiff, Int.reduceEq, Int.reduceNeg, Int.reduceMul, Int.reduceAdd, Int.reduceSub, Int.reduceBNe, Int.reduceBEq, apart, bnd, eV]
/-- A point of a part of a quarter. -/
def ptV (log u : Nat) : Int × Int := if 2 * u < 2 ^ log then eV (2 * u) log else if 2 ^ log < 2 * u then ((eV (2 * (2 ^ log - u)) log).2, (eV (2 * (2 ^ log - u)) log).1) else ((eV (2 ^ log) log).1, (eV (2 ^ log) log).1)
theorem point.ok (log u : Nat) (hl : log ≤ 6) (hu : u ≤ 2 ^ log) : Ok Try.prog 78 [.int log, .int u] (cxA (ptV log u).1 (ptV log u).2) := by
  have hp := pow6 hl
  have hpn : ((2 ^ log : Nat) : Int) = 2 ^ log := by rw [Int.natCast_pow]; rfl
  have h5 : (0 : Int) ≤ (log : Int) := by omega
  have hu' : (u : Int) ≤ 2 ^ log := by rw [← hpn]; exact_mod_cast hu
  have e2 : IntKind.i64.wrap (2 * (u : Int)) = ((2 * u : Nat) : Int) := by rw [wr (by omega)]; omega
  have e3 : IntKind.i64.wrap ((2 : Int) ^ log - u) = ((2 ^ log - u : Nat) : Int) := by rw [wr (by omega)]; omega
  have e4 : IntKind.i64.wrap (2 * ((2 ^ log - u : Nat) : Int)) = ((2 * (2 ^ log - u) : Nat) : Int) := by rw [wr (by omega)]; omega
  refine ok_of (X := fun _ => []) (Z := fun _ => false) (res := [ResultVar.cell 4 35]) tok follows Try.func78 rfl rfl fine78 (by kernel_rfl) (by kernel_rfl) ?_
  by_cases c1 : 2 * u < 2 ^ log
  · have c1' : ((2 * u : Nat) : Int) < 2 ^ log := by omega
    have e : ptV log u = eV (2 * u) log := by unfold ptV; rw [if_pos c1]
    simp only [evA, evT, Go.undef, aload, astore, afieldAddr, afield, aindex, aindexAddr, abuild, abuildSlice, amakeSlice, aslice, aext, alen, aminmax, minmaxGo, aappend, newsOf, buildCells, cutRows, reps, setCells, AV.cells, allOne, AV.one, Value.oneCell', AV.pure, allPure, AV.free, allFree, rowsFree, Nat.reduceBEq, Nat.reduceAdd, Nat.reduceMul, Nat.reduceSub, Nat.reduceLT, Nat.reduceLeDiff, Int.reduceToNat, reduceIte, reduceCtorEq, Int.reduceLT, Int.reduceLE, Nat.reduceEqDiff, Int.reduceEq, Int.reduceNeg, Int.reduceMul, Int.reduceAdd, Int.reduceSub, Int.reduceBNe, Int.reduceBEq, apart, bnd, h5, Int.toNat_natCast, sh1 (show log ≤ 44 by omega), e2, c1']
    refine call_ok (Eighth.ok (2 * u) log hl (by omega)) rfl ?_
    simp only [evA, evT, Go.undef, aload, astore, afieldAddr, afield, aindex, aindexAddr, abuild, abuildSlice, amakeSlice, aslice, aext, alen, aminmax, minmaxGo, aappend, newsOf, buildCells, cutRows, reps, setCells, AV.cells, allOne, AV.one, Value.oneCell', AV.pure, allPure, AV.free, allFree, rowsFree, Nat.reduceBEq, Nat.reduceAdd, Nat.reduceMul, Nat.reduceSub, Nat.reduceLT, Nat.reduceLeDiff, Int.reduceToNat, reduceIte, reduceCtorEq, Int.reduceLT, Int.reduceLE, Nat.reduceEqDiff, Int.reduceEq, Int.reduceNeg, Int.reduceMul, Int.reduceAdd, Int.reduceSub, Int.reduceBNe, Int.reduceBEq, apart, bnd, e]
  · have c1' : ¬ ((2 * u : Nat) : Int) < 2 ^ log := by omega
    by_cases c2 : 2 ^ log < 2 * u
    · have c2' : (2 : Int) ^ log < ((2 * u : Nat) : Int) := by omega
      have e : ptV log u = ((eV (2 * (2 ^ log - u)) log).2, (eV (2 * (2 ^ log - u)) log).1) := by unfold ptV; rw [if_neg c1, if_pos c2]
      simp only [evA, evT, Go.undef, aload, astore, afieldAddr, afield, aindex, aindexAddr, abuild, abuildSlice, amakeSlice, aslice, aext, alen, aminmax, minmaxGo, aappend, newsOf, buildCells, cutRows, reps, setCells, AV.cells, allOne, AV.one, Value.oneCell', AV.pure, allPure, AV.free, allFree, rowsFree, Nat.reduceBEq, Nat.reduceAdd, Nat.reduceMul, Nat.reduceSub, Nat.reduceLT, Nat.reduceLeDiff, Int.reduceToNat, reduceIte, reduceCtorEq, Int.reduceLT, Int.reduceLE, Nat.reduceEqDiff, Int.reduceEq, Int.reduceNeg, Int.reduceMul, Int.reduceAdd, Int.reduceSub, Int.reduceBNe, Int.reduceBEq, apart, bnd, h5, Int.toNat_natCast, sh1 (show log ≤ 44 by omega), e2, e3, e4, c1', c2']
      refine call_ok (Eighth.ok (2 * (2 ^ log - u)) log hl (by omega)) rfl ?_
      simp only [evA, evT, Go.undef, aload, astore, afieldAddr, afield, aindex, aindexAddr, abuild, abuildSlice, amakeSlice, aslice, aext, alen, aminmax, minmaxGo, aappend, newsOf, buildCells, cutRows, reps, setCells, AV.cells, allOne, AV.one, Value.oneCell', AV.pure, allPure, AV.free, allFree, rowsFree, Nat.reduceBEq, Nat.reduceAdd, Nat.reduceMul, Nat.reduceSub, Nat.reduceLT, Nat.reduceLeDiff, Int.reduceToNat, reduceIte, reduceCtorEq, Int.reduceLT, Int.reduceLE, Nat.reduceEqDiff, Int.reduceEq, Int.reduceNeg, Int.reduceMul, Int.reduceAdd, Int.reduceSub, Int.reduceBNe, Int.reduceBEq, apart, bnd, e]
    · have c2' : ¬ (2 : Int) ^ log < ((2 * u : Nat) : Int) := by omega
      have e : ptV log u = ((eV (2 ^ log) log).1, (eV (2 ^ log) log).1) := by unfold ptV; rw [if_neg c1, if_neg c2]
      have hE := Eighth.ok (2 ^ log) log hl (Nat.le_refl _)
      rw [hpn] at hE
      simp only [evA, evT, Go.undef, aload, astore, afieldAddr, afield, aindex, aindexAddr, abuild, abuildSlice, amakeSlice, aslice, aext, alen, aminmax, minmaxGo, aappend, newsOf, buildCells, cutRows, reps, setCells, AV.cells, allOne, AV.one, Value.oneCell', AV.pure, allPure, AV.free, allFree, rowsFree, Nat.reduceBEq, Nat.reduceAdd, Nat.reduceMul, Nat.reduceSub, Nat.reduceLT, Nat.reduceLeDiff, Int.reduceToNat, reduceIte, reduceCtorEq, Int.reduceLT, Int.reduceLE, Nat.reduceEqDiff, Int.reduceEq, Int.reduceNeg, Int.reduceMul, Int.reduceAdd, Int.reduceSub, Int.reduceBNe, Int.reduceBEq, apart, bnd, h5, Int.toNat_natCast, sh1 (show log ≤ 44 by omega), e2, c1', c2']
      refine call_ok hE rfl ?_
      simp only [evA, evT, Go.undef, aload, astore, afieldAddr, afield, aindex, aindexAddr, abuild, abuildSlice, amakeSlice, aslice, aext, alen, aminmax, minmaxGo, aappend, newsOf, buildCells, cutRows, reps, setCells, AV.cells, allOne, AV.one, Value.oneCell', AV.pure, allPure, AV.free, allFree, rowsFree, Nat.reduceBEq, Nat.reduceAdd, Nat.reduceMul, Nat.reduceSub, Nat.reduceLT, Nat.reduceLeDiff, Int.reduceToNat, reduceIte, reduceCtorEq, Int.reduceLT, Int.reduceLE, Nat.reduceEqDiff, Int.reduceEq, Int.reduceNeg, Int.reduceMul, Int.reduceAdd, Int.reduceSub, Int.reduceBNe, Int.reduceBEq, apart, bnd, e]
theorem pt_win (log u : Nat) (hl : log ≤ 6) (hu : u ≤ 2 ^ log) : win 288230376151711744 (ptV log u).1 (ptV log u).2 := by
  unfold ptV
  split
  · exact e_win _ _ hl (by omega)
  · split
    · have := e_win (2 * (2 ^ log - u)) log hl (by omega)
      unfold win at *
      simp only
      omega
    · have := e_win (2 ^ log) log hl (Nat.le_refl _)
      unfold win at *
      simp only
      omega
/-- A root: its place among n, the point, shifted. -/
def rR (log : Nat) (k : Int) : Nat := (k % 2 ^ log).toNat
def rP (log : Nat) (k bits : Int) : Int × Int := (rsh (ptV log (4 * rR log k % 2 ^ log)).1 (56 - bits) 1, rsh (ptV log (4 * rR log k % 2 ^ log)).2 (56 - bits) 1)
def rW (log : Nat) (k bits : Int) : Int × Int := (tRe (rP log k bits).1 (rP log k bits).2 ((4 * rR log k / 2 ^ log : Nat) : Int), -(tIm (rP log k bits).1 (rP log k bits).2 ((4 * rR log k / 2 ^ log : Nat) : Int)))
theorem rsh_win {x y s how : Int} (h : win 288230376151711744 x y) : win 288230376151711744 (rsh x s how) (rsh y s how) := by
  have hp := pow_pos s.toNat
  unfold win at *
  have h1 := rsh_btw (x := x) (s := s) (how := how) (a := -288230376151711744) (b := 288230376151711744) (by omega) (by omega)
  have h2 := rsh_btw (x := y) (s := s) (how := how) (a := -288230376151711744) (b := 288230376151711744) (by omega) (by omega)
  omega
theorem rR_lt {log : Nat} {k : Int} : rR log k < 2 ^ log ∧ ((rR log k : Nat) : Int) = k % 2 ^ log := by
  have hp := pow_pos log
  have h1 := Int.emod_nonneg k (Int.ne_of_gt hp)
  have h2 := Int.emod_lt_of_pos k hp
  have hpn : ((2 ^ log : Nat) : Int) = 2 ^ log := by rw [Int.natCast_pow]; rfl
  unfold rR
  omega
theorem root.ok (log : Nat) (k bits : Int) (hl : log ≤ 6) (hb : 0 ≤ bits ∧ bits ≤ 40) : Ok Try.prog 63 [.int log, .int k, .int bits] (cxA (rW log k bits).1 (rW log k bits).2) := by
  have hp := pow6 hl
  have hpn : ((2 ^ log : Nat) : Int) = 2 ^ log := by rw [Int.natCast_pow]; rfl
  have h5 : (0 : Int) ≤ (log : Int) := by omega
  obtain ⟨hR, hRe⟩ := rR_lt (log := log) (k := k)
  have e1 : IntKind.i64.wrap ((2 : Int) ^ log - 1) = 2 ^ log - 1 := wr (by omega)
  have e2 : Go.bits .and .i64 k (2 ^ log - 1) = ((rR log k : Nat) : Int) := by rw [and_mask64 log (by omega), hRe]
  have e3 : IntKind.i64.wrap (4 * ((rR log k : Nat) : Int)) = ((4 * rR log k : Nat) : Int) := by rw [wr (by omega)]; omega
  have e4 : Go.bits .and .i64 ((4 * rR log k : Nat) : Int) (2 ^ log - 1) = ((4 * rR log k % 2 ^ log : Nat) : Int) := by rw [and_mask64 log (by omega), Int.natCast_emod, hpn]
  have e5 : IntKind.i64.wrap (56 - bits) = 56 - bits := wr (by omega)
  have e6 : ((4 * rR log k : Nat) : Int) / 2 ^ log = ((4 * rR log k / 2 ^ log : Nat) : Int) := by rw [Int.natCast_ediv, hpn]
  have hu : 4 * rR log k % 2 ^ log ≤ 2 ^ log := Nat.le_of_lt (Nat.mod_lt _ (by omega))
  have hw := pt_win log (4 * rR log k % 2 ^ log) hl hu
  have hw2 : win 288230376151711744 (rP log k bits).1 (rP log k bits).2 := rsh_win hw
  have hw3 : win 2305843009213693952 (rP log k bits).1 (rP log k bits).2 := win_mono' hw2 (by decide)
  have t1 := tRe_near (n := ((4 * rR log k / 2 ^ log : Nat) : Int)) hw3 (by decide)
  have t2 := tIm_near (n := ((4 * rR log k / 2 ^ log : Nat) : Int)) hw3 (by decide)
  have hw4 : win 2305843009213693952 (tRe (rP log k bits).1 (rP log k bits).2 ((4 * rR log k / 2 ^ log : Nat) : Int)) (tIm (rP log k bits).1 (rP log k bits).2 ((4 * rR log k / 2 ^ log : Nat) : Int)) := by unfold win; omega
  unfold win at hw
  refine ok_of (X := fun _ => []) (Z := fun _ => false) (res := [ResultVar.cell 6 35]) tok follows Try.func63 rfl rfl fine63 (by kernel_rfl) (by kernel_rfl) ?_
  simp only [evA, evT, Go.undef, aload, astore, afieldAddr, afield, aindex, aindexAddr, abuild, abuildSlice, amakeSlice, aslice, aext, alen, aminmax, minmaxGo, aappend, newsOf, buildCells, cutRows, reps, setCells, AV.cells, allOne, AV.one, Value.oneCell', AV.pure, allPure, AV.free, allFree, rowsFree, Nat.reduceBEq, Nat.reduceAdd, Nat.reduceMul, Nat.reduceSub, Nat.reduceLT, Nat.reduceLeDiff, Int.reduceToNat, reduceIte, reduceCtorEq, Int.reduceLT, Int.reduceLE, Nat.reduceEqDiff, Int.reduceEq, Int.reduceNeg, Int.reduceMul, Int.reduceAdd, Int.reduceSub, Int.reduceBNe, Int.reduceBEq, apart, bnd, h5, Int.toNat_natCast, sh1 (show log ≤ 44 by omega), e1, e2, e3, e4]
  refine call_ok (point.ok log (4 * rR log k % 2 ^ log) hl hu) rfl ?_
  simp only [evA, evT, Go.undef, aload, astore, afieldAddr, afield, aindex, aindexAddr, abuild, abuildSlice, amakeSlice, aslice, aext, alen, aminmax, minmaxGo, aappend, newsOf, buildCells, cutRows, reps, setCells, AV.cells, allOne, AV.one, Value.oneCell', AV.pure, allPure, AV.free, allFree, rowsFree, Nat.reduceBEq, Nat.reduceAdd, Nat.reduceMul, Nat.reduceSub, Nat.reduceLT, Nat.reduceLeDiff, Int.reduceToNat, reduceIte, reduceCtorEq, Int.reduceLT, Int.reduceLE, Nat.reduceEqDiff, Int.reduceEq, Int.reduceNeg, Int.reduceMul, Int.reduceAdd, Int.reduceSub, Int.reduceBNe, Int.reduceBEq, apart, bnd, e5]
  refine call_ok (cxShift.ok _ _ (56 - bits) 1 (by omega) (by decide) (by unfold in64; omega) (by unfold in64; omega)) rfl ?_
  simp only [evA, evT, Go.undef, aload, astore, afieldAddr, afield, aindex, aindexAddr, abuild, abuildSlice, amakeSlice, aslice, aext, alen, aminmax, minmaxGo, aappend, newsOf, buildCells, cutRows, reps, setCells, AV.cells, allOne, AV.one, Value.oneCell', AV.pure, allPure, AV.free, allFree, rowsFree, Nat.reduceBEq, Nat.reduceAdd, Nat.reduceMul, Nat.reduceSub, Nat.reduceLT, Nat.reduceLeDiff, Int.reduceToNat, reduceIte, reduceCtorEq, Int.reduceLT, Int.reduceLE, Nat.reduceEqDiff, Int.reduceEq, Int.reduceNeg, Int.reduceMul, Int.reduceAdd, Int.reduceSub, Int.reduceBNe, Int.reduceBEq, apart, bnd, h5, Int.toNat_natCast, e3, fd (show log ≤ 62 by omega), e6]
  refine call_ok (Turn.ok (rP log k bits).1 (rP log k bits).2 _ hw3) rfl ?_
  simp only [evA, evT, Go.undef, aload, astore, afieldAddr, afield, aindex, aindexAddr, abuild, abuildSlice, amakeSlice, aslice, aext, alen, aminmax, minmaxGo, aappend, newsOf, buildCells, cutRows, reps, setCells, AV.cells, allOne, AV.one, Value.oneCell', AV.pure, allPure, AV.free, allFree, rowsFree, Nat.reduceBEq, Nat.reduceAdd, Nat.reduceMul, Nat.reduceSub, Nat.reduceLT, Nat.reduceLeDiff, Int.reduceToNat, reduceIte, reduceCtorEq, Int.reduceLT, Int.reduceLE, Nat.reduceEqDiff, Int.reduceEq, Int.reduceNeg, Int.reduceMul, Int.reduceAdd, Int.reduceSub, Int.reduceBNe, Int.reduceBEq, apart, bnd]
  refine call_ok (Conj.ok _ _ hw4) rfl ?_
  simp only [evA, evT, Go.undef, aload, astore, afieldAddr, afield, aindex, aindexAddr, abuild, abuildSlice, amakeSlice, aslice, aext, alen, aminmax, minmaxGo, aappend, newsOf, buildCells, cutRows, reps, setCells, AV.cells, allOne, AV.one, Value.oneCell', AV.pure, allPure, AV.free, allFree, rowsFree, Nat.reduceBEq, Nat.reduceAdd, Nat.reduceMul, Nat.reduceSub, Nat.reduceLT, Nat.reduceLeDiff, Int.reduceToNat, reduceIte, reduceCtorEq, Int.reduceLT, Int.reduceLE, Nat.reduceEqDiff, Int.reduceEq, Int.reduceNeg, Int.reduceMul, Int.reduceAdd, Int.reduceSub, Int.reduceBNe, Int.reduceBEq, apart, bnd, rW]
theorem rmay.ok (log bits : Int) : Ok Try.prog 60 [.int log, .int bits] (.bool (decide ((2 ≤ log ∧ log ≤ 6) ∧ 0 ≤ bits ∧ bits ≤ 40))) := by
  refine ok_of (X := fun _ => []) (Z := fun _ => false) (res := [ResultVar.tmp 4]) tok follows Try.func60 rfl rfl fine60 (by kernel_rfl) (by kernel_rfl) ?_
  simp only [evA, evT, Go.undef, aload, astore, afieldAddr, afield, aindex, aindexAddr, abuild, abuildSlice, amakeSlice, aslice, aext, alen, aminmax, minmaxGo, aappend, newsOf, buildCells, cutRows, reps, setCells, AV.cells, allOne, AV.one, Value.oneCell', AV.pure, allPure, AV.free, allFree, rowsFree, Nat.reduceBEq, Nat.reduceAdd, Nat.reduceMul, Nat.reduceSub, Nat.reduceLT, Nat.reduceLeDiff, Int.reduceToNat, reduceIte, reduceCtorEq, Int.reduceLT, Int.reduceLE, Nat.reduceEqDiff, Int.reduceEq, Int.reduceNeg, Int.reduceMul, Int.reduceAdd, Int.reduceSub, Int.reduceBNe, Int.reduceBEq, apart, bnd]
  by_cases h : 0 ≤ bits ∧ bits ≤ 62
  · refine call_ok (Shift.ok 0 bits 1 h (by decide) (by decide)) rfl ?_
    simp only [evA, evT, Go.undef, aload, astore, afieldAddr, afield, aindex, aindexAddr, abuild, abuildSlice, amakeSlice, aslice, aext, alen, aminmax, minmaxGo, aappend, newsOf, buildCells, cutRows, reps, setCells, AV.cells, allOne, AV.one, Value.oneCell', AV.pure, allPure, AV.free, allFree, rowsFree, Nat.reduceBEq, Nat.reduceAdd, Nat.reduceMul, Nat.reduceSub, Nat.reduceLT, Nat.reduceLeDiff, Int.reduceToNat, reduceIte, reduceCtorEq, Int.reduceLT, Int.reduceLE, Nat.reduceEqDiff, Int.reduceEq, Int.reduceNeg, Int.reduceMul, Int.reduceAdd, Int.reduceSub, Int.reduceBNe, Int.reduceBEq, apart, bnd, dec_t', dec_f', dec_d']
    omega
  · refine call_ok (Shift.bad 0 bits 1 (by omega)) rfl ?_
    simp only [evA, evT, Go.undef, aload, astore, afieldAddr, afield, aindex, aindexAddr, abuild, abuildSlice, amakeSlice, aslice, aext, alen, aminmax, minmaxGo, aappend, newsOf, buildCells, cutRows, reps, setCells, AV.cells, allOne, AV.one, Value.oneCell', AV.pure, allPure, AV.free, allFree, rowsFree, Nat.reduceBEq, Nat.reduceAdd, Nat.reduceMul, Nat.reduceSub, Nat.reduceLT, Nat.reduceLeDiff, Int.reduceToNat, reduceIte, reduceCtorEq, Int.reduceLT, Int.reduceLE, Nat.reduceEqDiff, Int.reduceEq, Int.reduceNeg, Int.reduceMul, Int.reduceAdd, Int.reduceSub, Int.reduceBNe, Int.reduceBEq, apart, bnd, dec_t', dec_f', dec_d']
    omega
end Go.Proofs.YtnnjjblgilibgaaV

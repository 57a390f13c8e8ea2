import Derived.Test.YtnnjjblgilibgaaGreatVgF
import Derived.Test.YtnnjjblgilibgaaGreatVgC
/- Contracts: the document's turns, points, roots. -/
namespace Go.Proofs.YtnnjjblgilibgaaGreatV
open Go Go.RowKit
set_option linter.unusedVariables false
set_option linter.unusedSimpArgs false
set_option maxRecDepth 100000
set_option maxHeartbeats 40000000
theorem fine179 : Fine Tryz.prog 179 := fun _ _ => by kernel_rfl
theorem fine174 : Fine Tryz.prog 174 := fun _ _ => by kernel_rfl
theorem fine173 : Fine Tryz.prog 173 := fun _ _ => by kernel_rfl
theorem fine168 : Fine Tryz.prog 168 := fun _ _ => by kernel_rfl
theorem fine156 : Fine Tryz.prog 156 := fun _ _ => by kernel_rfl
theorem fine132 : Fine Tryz.prog 132 := fun _ _ => by kernel_rfl
theorem fine169 : Fine Tryz.prog 169 := fun _ _ => by kernel_rfl
theorem fine158 : Fine Tryz.prog 158 := fun _ _ => by kernel_rfl
theorem fine157 : Fine Tryz.prog 157 := fun _ _ => by kernel_rfl
theorem fine133 : Fine Tryz.prog 133 := fun _ _ => by kernel_rfl
theorem w64_in (x : Int) : in64 (wrap64 x) := by unfold in64 wrap64; omega
theorem step.ok (x y z a : Int) (i : Nat) (hi : i ≤ 62) (hx : in64 x) (hy : in64 y) : Ok Tryz.prog 179 [.agg [.int x, .int y, .int z], .int i, .int a] (.agg [.int (stV i a (x, y, z)).1, .int (stV i a (x, y, z)).2.1, .int (stV i a (x, y, z)).2.2]) := by
  have h1 := Floor.ok x i hx (by omega)
  have h2 := Floor.ok y i hy (by omega)
  rw [Int.toNat_natCast] at h1 h2
  refine ok_of (X := fun _ => []) (Z := fun _ => false) (res := [ResultVar.cell 6 194]) tok follows Tryz.func179 rfl rfl fine179 (by kernel_rfl) (by kernel_rfl) ?_
  simp only [evA, evT, evD, seval]
  refine call_ok h1 rfl ?_
  simp only [evA, evT, evD, seval]
  refine call_ok h2 rfl ?_
  by_cases hz : 0 ≤ z
  · have e : stV i a (x, y, z) = (wrap64 (x - y / 2 ^ i), wrap64 (y + x / 2 ^ i), wrap64 (z - a)) := by unfold stV; rw [if_pos hz]
    simp only [evA, evT, evD, seval, hz, e, w64]
  · have e : stV i a (x, y, z) = (wrap64 (x + y / 2 ^ i), wrap64 (y - x / 2 ^ i), wrap64 (z + a)) := by unfold stV; rw [if_neg hz]
    simp only [evA, evT, evD, seval, hz, e, w64]
theorem run_in (x z : Int) (hx : in64 x) : ∀ i, in64 (runV x z i).1 ∧ in64 (runV x z i).2.1
  | 0 => ⟨hx, by show in64 0; unfold in64; decide⟩
  | i + 1 => by
    show in64 (stV i (angV i) (runV x z i)).1 ∧ in64 (stV i (angV i) (runV x z i)).2.1
    unfold stV
    split <;> exact ⟨w64_in _, w64_in _⟩
theorem RunOf.ok (x z : Int) (hx : in64 x) : Ok Tryz.prog 174 [.sl 1 (intRows (angL 45)), .int x, .int z] (.agg [.int (runV x z 45).1, .int (runV x z 45).2.1, .int (runV x z 45).2.2]) := by
  have hlen : (angL 45).length = 45 := by simp [angL]
  refine ok_of (X := fun _ => []) (Z := fun _ => false) (res := [ResultVar.cell 6 194]) tok follows Tryz.func174 rfl rfl fine174 (by kernel_rfl) (by kernel_rfl) ?_
  simp only [evA, evT, evD, seval, in_len, hlen]
  refine l_inv (fun i => ⟨[(16, .int i), (15, .int 45), (14, .sl 1 (intRows (angL 45))), (7, .loc 1 0), (6, .loc 0 0)], [(1, some (.box [.int (runV x z i).1, .int (runV x z i).2.1, .int (runV x z i).2.2])), (0, some (.box [.int 0, .int 0, .int 0]))], 2⟩) 45 ?_ (fun i hi K hK => ?_) (fun K => ?_)
  · refine weak_of (fun l => l) rfl ?_ ?_
    all_goals simp only [evA, evB, evT, evD, seval, in_free, runV, Int.natCast_zero, show ((45 : Nat) : Int) = 45 from rfl]
  · have h1 : (i : Int) < 45 := by omega
    have h2 : (0 : Int) ≤ i := by omega
    have h3 : IntKind.i64.wrap ((i : Int) + 1) = ((i + 1 : Nat) : Int) := by rw [wr (by omega)]; omega
    have h4 : i < (angL 45).length := by omega
    have h5 : (angL 45)[i] = angV i := by simp [angL]
    have h6 : ((45 : Nat) : Int) = 45 := rfl
    obtain ⟨r1, r2⟩ := run_in x z hx i
    have hs := step.ok (runV x z i).1 (runV x z i).2.1 (runV x z i).2.2 (angV i) i (by omega) r1 r2
    simp only [evA, evT, evD, seval, h1, h2, in_len, hlen, h6, Int.toNat_natCast, in_get h4, h5]
    refine call_ok hs rfl ?_
    simp only [evA, evT, evD, seval, h3]
    refine hK _ (weak_of (fun l => l) rfl ?_ ?_)
    all_goals simp only [evA, evB, evT, evD, seval, in_free, runV]
  · simp only [evA, evT, evD, seval]
theorem RRun.ok (x z : Int) (hx : in64 x) : Ok Tryz.prog 173 [.int x, .int z] (.agg [.int (runV x z 45).1, .int (runV x z 45).2.1, .int (runV x z 45).2.2]) := by
  refine ok_of (X := fun _ => []) (Z := fun _ => false) (res := [ResultVar.cell 4 194]) tok follows Tryz.func173 rfl rfl fine173 (by kernel_rfl) (by kernel_rfl) ?_
  simp only [evA, evT, evD, seval]
  refine call_ok RAngles.ok (by simp only [evA, evT, evD, seval, in_free]) ?_
  simp only [evA, evT, evD, seval, in_free]
  refine call_ok (RunOf.ok x z hx) rfl ?_
  simp only [evA, evT, evD, seval]
theorem RGain.ok : Ok Tryz.prog 168 [] (.int gainV) := by
  have hP := Pow.ok 56 (by decide)
  rw [p56] at hP
  refine ok_of (X := fun _ => []) (Z := fun _ => false) (res := [ResultVar.tmp 0]) tok follows Tryz.func168 rfl rfl fine168 (by kernel_rfl) (by kernel_rfl) ?_
  simp only [evA, evT, evD, seval]
  refine call_ok hP rfl ?_
  simp only [evA, evT, evD, seval]
  refine call_ok (RRun.ok 72057594037927936 0 (by unfold in64; decide)) rfl ?_
  simp only [evA, evT, evD, seval, gainV]
/-- The same, by the document. -/
def invR (g : Int) : Nat → Int × Int
  | 0 => (72057594037927936, 0)
  | i + 1 => if g ≤ wrap64 (2 * (invR g i).1) then (wrap64 (wrap64 (2 * (invR g i).1) - g), wrap64 (wrap64 (2 * (invR g i).2) + 1)) else (wrap64 (2 * (invR g i).1), wrap64 (2 * (invR g i).2))
theorem invR_n : (invR gainV 56).2 = invV := by
  rw [inv_n, gain_n]
  decide +kernel
theorem RInverse.ok : Ok Tryz.prog 156 [] (.int invV) := by
  have hP := Pow.ok 56 (by decide)
  rw [p56] at hP
  refine ok_of (X := fun _ => []) (Z := fun _ => false) (res := [ResultVar.tmp 0]) tok follows Tryz.func156 rfl rfl fine156 (by kernel_rfl) (by kernel_rfl) ?_
  simp only [evA, evT, evD, seval]
  refine call_ok RGain.ok rfl ?_
  simp only [evA, evT, evD, seval]
  refine call_ok hP rfl ?_
  simp only [evA, evT, evD, seval]
  refine l_inv (fun i => ⟨[(4, .int i), (3, .int (invR gainV i).2), (2, .int (invR gainV i).1), (1, .int gainV)], [], 0⟩) 56 ?_ (fun i hi K hK => ?_) (fun K => ?_)
  · refine weak_of (fun l => l) rfl trivial ?_
    simp only [evA, evB, evT, evD, seval, invR, Int.natCast_zero]
  · have h1 : (i : Int) < 56 := by omega
    have h3 : IntKind.i64.wrap ((i : Int) + 1) = ((i + 1 : Nat) : Int) := by rw [wr (by omega)]; omega
    by_cases hg : gainV ≤ wrap64 (2 * (invR gainV i).1)
    · have e : invR gainV (i + 1) = (wrap64 (wrap64 (2 * (invR gainV i).1) - gainV), wrap64 (wrap64 (2 * (invR gainV i).2) + 1)) := by rw [invR, if_pos hg]
      simp only [evA, evT, evD, seval, h1, h3, w64, hg]
      refine hK _ (weak_of (fun l => l) rfl trivial ?_)
      simp only [evA, evB, evT, evD, seval, e]
    · have e : invR gainV (i + 1) = (wrap64 (2 * (invR gainV i).1), wrap64 (2 * (invR gainV i).2)) := by rw [invR, if_neg hg]
      simp only [evA, evT, evD, seval, h1, h3, w64, hg]
      refine hK _ (weak_of (fun l => l) rfl trivial ?_)
      simp only [evA, evB, evT, evD, seval, e]
  · simp only [evA, evT, evD, seval, invR_n]
abbrev tAV : AV := .agg [.sl 1 (intRows (angL 45)), .int invV]
theorem All.ok : Ok Tryz.prog 132 [] tAV := by
  refine ok_of (X := fun _ => []) (Z := fun _ => false) (res := [ResultVar.cell 0 169]) tok follows Tryz.func132 rfl rfl fine132 (by kernel_rfl) (by kernel_rfl) ?_
  simp only [evA, evT, evD, seval]
  refine call_ok RAngles.ok (by simp only [evA, evT, evD, seval, in_free]) ?_
  simp only [evA, evT, evD, seval]
  refine call_ok RInverse.ok rfl ?_
  simp only [evA, evT, evD, seval, in_free]
theorem EighthOf.ok (k log : Nat) (hl : log ≤ 6) (hk : k ≤ 2 ^ log) : Ok Tryz.prog 169 [tAV, .int k, .int log] (cxA (eV k log).1 (eV k log).2) := by
  obtain ⟨z1, z2, z3, z4⟩ := z_bd hl hk
  have e : IntKind.i64.wrap (quarterV * (k : Int)) = quarterV * k := wr (by omega)
  have hF := Floor.ok (quarterV * k) log (by unfold in64; omega) (by omega)
  rw [Int.toNat_natCast] at hF
  have hlen : (angL 45).length = 45 := by simp [angL]
  have h0 : (intRows (angL 45)).getD 0 [] = [.int quarterV] := by
    rw [in_get (by omega)]
    rfl
  have h6 : ((45 : Nat) : Int) = 45 := rfl
  refine ok_of (X := fun _ => []) (Z := fun _ => false) (res := [ResultVar.cell 6 43]) tok follows Tryz.func169 rfl rfl fine169 (by kernel_rfl) (by kernel_rfl) ?_
  simp only [evA, evT, evD, seval, in_len, hlen, h6, h0, e, in_free]
  refine call_ok hF rfl ?_
  simp only [evA, evT, evD, seval, in_free]
  refine call_ok (RunOf.ok invV (quarterV * k / 2 ^ log) (by rw [inv_n]; unfold in64; decide)) rfl ?_
  simp only [evA, evT, evD, seval, eV, zV]
theorem Rpoint.ok (log u : Nat) (hl : log ≤ 6) (hu : u ≤ 2 ^ log) : Ok Tryz.prog 158 [tAV, .int log, .int u] (cxA (ptV log u).1 (ptV log u).2) := by
  have hp := pow6 hl
  have hpn : ((2 ^ log : Nat) : Int) = 2 ^ log := by rw [Int.natCast_pow]; rfl
  have hu' : (u : Int) ≤ 2 ^ log := by rw [← hpn]; exact_mod_cast hu
  have e2 : IntKind.i64.wrap (2 * (u : Int)) = ((2 * u : Nat) : Int) := by rw [wr (by omega)]; omega
  have e3 : IntKind.i64.wrap ((2 : Int) ^ log - u) = ((2 ^ log - u : Nat) : Int) := by rw [wr (by omega)]; omega
  have e4 : IntKind.i64.wrap (2 * ((2 ^ log - u : Nat) : Int)) = ((2 * (2 ^ log - u) : Nat) : Int) := by rw [wr (by omega)]; omega
  have hP := Pow.ok log (by omega)
  rw [Int.toNat_natCast] at hP
  refine ok_of (X := fun _ => []) (Z := fun _ => false) (res := [ResultVar.cell 6 43]) tok follows Tryz.func158 rfl rfl fine158 (by kernel_rfl) (by kernel_rfl) ?_
  simp only [evA, evT, evD, seval]
  refine call_ok hP rfl ?_
  by_cases c1 : 2 * u < 2 ^ log
  · have c1' : ((2 * u : Nat) : Int) < 2 ^ log := by omega
    have e : ptV log u = eV (2 * u) log := by unfold ptV; rw [if_pos c1]
    simp only [evA, evT, evD, seval, e2, c1', in_free]
    refine call_ok (EighthOf.ok (2 * u) log hl (by omega)) rfl ?_
    simp only [evA, evT, evD, seval, e]
  · have c1' : ¬ ((2 * u : Nat) : Int) < 2 ^ log := by omega
    by_cases c2 : 2 ^ log < 2 * u
    · have c2' : (2 : Int) ^ log < ((2 * u : Nat) : Int) := by omega
      have e : ptV log u = ((eV (2 * (2 ^ log - u)) log).2, (eV (2 * (2 ^ log - u)) log).1) := by unfold ptV; rw [if_neg c1, if_pos c2]
      simp only [evA, evT, evD, seval, e2, e3, e4, c1', c2', in_free]
      refine call_ok (EighthOf.ok (2 * (2 ^ log - u)) log hl (by omega)) rfl ?_
      simp only [evA, evT, evD, seval, e]
    · have c2' : ¬ (2 : Int) ^ log < ((2 * u : Nat) : Int) := by omega
      have e : ptV log u = ((eV (2 ^ log) log).1, (eV (2 ^ log) log).1) := by unfold ptV; rw [if_neg c1, if_neg c2]
      have hE := EighthOf.ok (2 ^ log) log hl (Nat.le_refl _)
      rw [hpn] at hE
      simp only [evA, evT, evD, seval, e2, c1', c2', in_free]
      refine call_ok hE rfl ?_
      simp only [evA, evT, evD, seval, e]
theorem left.ok (k : Int) (n : Nat) (hn : 0 < n ∧ n ≤ 1000000) : Ok Tryz.prog 157 [.int k, .int n] (.int (k % n)) := by
  have hnz : ¬ (n : Int) = 0 := by omega
  have h1 := Int.emod_nonneg k (show (n : Int) ≠ 0 by omega)
  have h2 := Int.emod_lt_of_pos k (show (0 : Int) < n by omega)
  refine ok_of (X := fun _ => []) (Z := fun _ => false) (res := [ResultVar.tmp 4]) tok follows Tryz.func157 rfl rfl fine157 (by kernel_rfl) (by kernel_rfl) ?_
  by_cases h : k.tmod n < 0
  · have e : IntKind.i64.wrap (k.tmod n + n) = k % n := by
      have h3 : k.tmod n = k % n - n := by
        rw [Int.tmod_eq_emod] at h ⊢
        split at h
        · omega
        · rename_i hc
          rw [if_neg hc]
          omega
      rw [h3, wr (by omega)]
      omega
    simp only [evA, evT, evD, seval, hnz, h, e]
  · have e : k.tmod n = k % n := by
      rw [Int.tmod_eq_emod] at h ⊢
      split at h
      · rename_i hc
        rw [if_pos hc]
        omega
      · omega
    have h' : ¬ k % (n : Int) < 0 := by omega
    simp only [evA, evT, evD, seval, hnz, e, h']
end Go.Proofs.YtnnjjblgilibgaaGreatV
/- Contracts: the document's roots. The law RootsTells answers true. -/
namespace Go.Proofs.YtnnjjblgilibgaaGreatV
open Go Go.RowKit
set_option linter.unusedVariables false
set_option linter.unusedSimpArgs false
set_option maxRecDepth 100000
set_option maxHeartbeats 40000000
theorem rw_wins (log : Nat) (k bits : Int) (hl : log ≤ 6) : win 288230376151711744 (rP log k bits).1 (rP log k bits).2 ∧ win 2305843009213693952 (rP log k bits).1 (rP log k bits).2 ∧ win 2305843009213693952 (tRe (rP log k bits).1 (rP log k bits).2 ((4 * rR log k / 2 ^ log : Nat) : Int)) (tIm (rP log k bits).1 (rP log k bits).2 ((4 * rR log k / 2 ^ log : Nat) : Int)) := by
  have hp : 0 < 2 ^ log := Nat.two_pow_pos log
  have hu : 4 * rR log k % 2 ^ log ≤ 2 ^ log := Nat.le_of_lt (Nat.mod_lt _ hp)
  have hw2 : win 288230376151711744 (rP log k bits).1 (rP log k bits).2 := rsh_win (pt_win log (4 * rR log k % 2 ^ log) hl hu)
  have hw3 : win 2305843009213693952 (rP log k bits).1 (rP log k bits).2 := win_mono' hw2 (by decide)
  have t1 := tRe_near (n := ((4 * rR log k / 2 ^ log : Nat) : Int)) hw3 (by decide)
  have t2 := tIm_near (n := ((4 * rR log k / 2 ^ log : Nat) : Int)) hw3 (by decide)
  exact ⟨hw2, hw3, by unfold win; omega⟩
theorem RootOf.ok (log : Nat) (k bits : Int) (hl : log ≤ 6) (hb : 0 ≤ bits ∧ bits ≤ 40) : Ok Tryz.prog 133 [tAV, .int log, .int k, .int bits] (cxA (rW log k bits).1 (rW log k bits).2) := by
  have hp := pow6 hl
  have hpn : ((2 ^ log : Nat) : Int) = 2 ^ log := by rw [Int.natCast_pow]; rfl
  have hP := Pow.ok log (by omega)
  rw [Int.toNat_natCast, ← hpn] at hP
  obtain ⟨hR, hRe⟩ := rR_lt (log := log) (k := k)
  have hL1 := left.ok k (2 ^ log) (by omega)
  have hL2 := left.ok ((4 * rR log k : Nat) : Int) (2 ^ log) (by omega)
  rw [hpn, ← hRe, ← hpn] at hL1
  rw [← Int.natCast_emod] at hL2
  have e3 : IntKind.i64.wrap (4 * ((rR log k : Nat) : Int)) = ((4 * rR log k : Nat) : Int) := by rw [wr (by omega)]; omega
  have e5 : IntKind.i64.wrap (56 - bits) = 56 - bits := wr (by omega)
  have hD := RDiv.ok ((4 * rR log k : Nat) : Int) ((2 ^ log : Nat) : Int) (by omega) (by omega)
  have e6 : (((4 * rR log k : Nat) : Int)).tdiv ((2 ^ log : Nat) : Int) = ((4 * rR log k / 2 ^ log : Nat) : Int) := by
    rw [Int.tdiv_eq_ediv_of_nonneg (by omega), Int.natCast_ediv]
  rw [e6] at hD
  have hu : 4 * rR log k % 2 ^ log ≤ 2 ^ log := Nat.le_of_lt (Nat.mod_lt _ (by omega))
  have hw := pt_win log (4 * rR log k % 2 ^ log) hl hu
  obtain ⟨hw2, hw3, hw4⟩ := rw_wins log k bits hl
  have hq : 4 * rR log k / 2 ^ log ≤ 1000 := Nat.le_trans (Nat.div_le_self _ _) (by omega)
  have hqi : in64 ((4 * rR log k / 2 ^ log : Nat) : Int) := by
    generalize 4 * rR log k / 2 ^ log = q at *
    unfold in64
    omega
  unfold win at hw
  refine ok_of (X := fun _ => []) (Z := fun _ => false) (res := [ResultVar.cell 8 43]) tok follows Tryz.func133 rfl rfl fine133 (by kernel_rfl) (by kernel_rfl) ?_
  simp only [evA, evT, evD, seval]
  refine call_ok hP rfl ?_
  simp only [evA, evT, evD, seval]
  refine call_ok hL1 rfl ?_
  simp only [evA, evT, evD, seval, e3]
  refine call_ok hL2 rfl ?_
  simp only [evA, evT, evD, seval, in_free]
  refine call_ok (Rpoint.ok log (4 * rR log k % 2 ^ log) hl hu) rfl ?_
  simp only [evA, evT, evD, seval, e5]
  refine call_ok (RShift.ok _ _ (56 - bits) 1 (by unfold in64; omega) (by unfold in64; omega) (by omega) (by decide)) rfl ?_
  simp only [evA, evT, evD, seval, e3]
  refine call_ok hD rfl ?_
  simp only [evA, evT, evD, seval]
  refine call_ok (RTurn.ok (rP log k bits).1 (rP log k bits).2 _ hw3 hqi) rfl ?_
  simp only [evA, evT, evD, seval]
  refine call_ok (RConj.ok _ _ hw4) rfl ?_
  simp only [evA, evT, evD, seval, rW]
theorem alive7_n : rW 2 1 13 = (0, -8192) := by
  unfold rW rP ptV eV zV rR
  rw [inv_n, quarter_n]
  simp only [run_L]
  decide +kernel
end Go.Proofs.YtnnjjblgilibgaaGreatV
/- Contracts: tables of roots. -/
namespace Go.Proofs.YtnnjjblgilibgaaGreatV
open Go Go.RowKit
set_option linter.unusedVariables false
set_option linter.unusedSimpArgs false
set_option maxRecDepth 100000
set_option maxHeartbeats 40000000
theorem fine140 : Fine Tryz.prog 140 := fun _ _ => by kernel_rfl
theorem fine141 : Fine Tryz.prog 141 := fun _ _ => by kernel_rfl
theorem fine109 : Fine Tryz.prog 109 := fun _ _ => by kernel_rfl
theorem fine75 : Fine Tryz.prog 75 := fun _ _ => by kernel_rfl
theorem fine89 : Fine Tryz.prog 89 := fun _ _ => by kernel_rfl
theorem fine82 : Fine Tryz.prog 82 := fun _ _ => by kernel_rfl
theorem fine49 : Fine Tryz.prog 49 := fun _ _ => by kernel_rfl
/-- The first i of n numbers are there. -/
def fillL (n : Nat) (v : Nat → Int × Int) (i : Nat) : List (Int × Int) := (List.range n).map fun k => if k < i then v k else (0, 0)
theorem fillL_len {n : Nat} {v : Nat → Int × Int} {i : Nat} : (fillL n v i).length = n := by simp [fillL]
theorem fillL_set {n : Nat} {v : Nat → Int × Int} {i : Nat} (h : i < n) : (fillL n v i).set i ((v i).1, (v i).2) = fillL n v (i + 1) := by
  apply List.ext_getElem?
  intro k
  unfold fillL
  rw [List.getElem?_set]
  simp only [List.length_map, List.length_range, List.getElem?_map]
  rcases Nat.lt_or_ge k n with hk | hk
  · rw [List.getElem?_range hk]
    by_cases e : i = k
    · subst e
      simp [h]
    · simp only [if_neg e, Option.map_some]
      by_cases c : k < i
      · simp [c, show k < i + 1 by omega]
      · simp [c, show ¬ k < i + 1 by omega]
  · rw [List.getElem?_eq_none (by simpa using hk)]
    by_cases e : i = k
    · omega
    · simp [e]
theorem cxs_set {xs : List (Int × Int)} {i : Nat} {a b : Int} : (cxRows xs).set i [.int a, .int b] = cxRows (xs.set i (a, b)) := by
  unfold cxRows
  rw [List.map_set]
theorem cxs_push {xs : List (Int × Int)} {a b : Int} : cxRows xs ++ [[.int a, .int b]] = cxRows (xs ++ [(a, b)]) := by simp [cxRows]
theorem cxs_at {xs : List (Int × Int)} {i : Nat} (h : i < xs.length) : (cxRows xs)[i]? = some [.int xs[i].1, .int xs[i].2] := by
  unfold cxRows
  rw [List.getElem?_map, List.getElem?_eq_getElem h]
  rfl
theorem fillL_all {n : Nat} {v : Nat → Int × Int} : fillL n v n = (List.range n).map v := by
  unfold fillL
  apply List.map_congr_left
  intro k hk
  rw [List.mem_range] at hk
  rw [if_pos hk]
theorem fillL_zero {n : Nat} {v : Nat → Int × Int} : fillL n v 0 = List.replicate n (0, 0) := by
  unfold fillL
  apply List.ext_getElem?
  intro k
  rw [List.getElem?_map, List.getElem?_replicate]
  rcases Nat.lt_or_ge k n with hk | hk
  · rw [List.getElem?_range hk]
    simp [hk]
  · rw [List.getElem?_eq_none (by simpa using hk)]
    simp [Nat.not_lt.2 hk]
theorem gather.ok (F : Nat) (caps : List AV) (n : Nat) (v : Nat → Int × Int) (hn : n ≤ 1000) (hc : ∀ lb, caps.map (snap lb 6) = caps) (hf : allFree caps = true) (h : ∀ k : Nat, k < n → Ok Tryz.prog F (.int k :: caps) (cxA (v k).1 (v k).2)) :
    Ok Tryz.prog 140 [.int n, .fn F caps] (.sl 2 (cxRows (fillL n v n))) := by
  have h0 : (0 : Int) ≤ n := by omega
  have h16 : 16 * (n : Int) ≤ 281474976710656 := by omega
  have h63 : (n : Int) ≤ 9223372036854775807 := by omega
  have hz : List.replicate n [AV.raw (Value.int IntKind.i64 0), AV.raw (Value.int IntKind.i64 0)] = cxRows (fillL n v 0) := by
    rw [fillL_zero]
    unfold cxRows
    rw [List.map_replicate]
  refine ok_of (X := fun _ => []) (Z := fun _ => false) (res := [ResultVar.tmp 4]) tok follows Tryz.func140 rfl rfl fine140 (by kernel_rfl) (by kernel_rfl) ?_
  simp only [evA, evB, evT, evD, seval, hc, hf, h0, h16, h63, Int.toNat_natCast, List.length_replicate, hz]
  refine l_inv (fun i => ⟨[(11, .int i), (10, .int n), (5, .own 0), (1, .fn F caps)], [(0, some (.row 43 2 (cxRows (fillL n v i))))], 1⟩) n ?_ (fun i hi K hK => ?_) (fun K => ?_)
  · refine weak_of (fun l => l) rfl ?_ ?_
    all_goals simp only [evA, evB, evT, evD, seval, cx_free, Int.natCast_zero, hf, cx_len, fillL_len]
  · have q0 : (i : Int) < n := by omega
    have q1 : IntKind.i64.wrap ((i : Int) + 1) = ((i + 1 : Nat) : Int) := by rw [wr (by omega)]; omega
    have q2 : (0 : Int) ≤ (i : Int) := by omega
    simp only [evA, evT, evD, seval, q0, hc]
    refine call_ok (h i hi) rfl ?_
    simp only [evA, evT, evD, seval, q0, q1, q2, hc, cx_len, fillL_len, Int.toNat_natCast, cxs_at (show i < (fillL n v i).length by rw [fillL_len]; exact hi), cxs_set, fillL_set hi]
    refine hK _ (weak_of (fun l => l) rfl ?_ ?_)
    all_goals simp only [evA, evB, evT, evD, seval, cx_free, hf]
  · simp only [evA, evT, evD, seval, cx_free]
def tabV (log : Nat) (bits : Int) : List (Int × Int) := fillL (2 ^ log) (fun k => rW log k bits) (2 ^ log)
theorem Table1.ok (log : Nat) (bits : Int) (k : Nat) (hl : log ≤ 6) (hb : 0 ≤ bits ∧ bits ≤ 40) : Ok Tryz.prog 141 [.int k, .box [.int log] 0, .box [.int bits] 0] (cxA (rW log k bits).1 (rW log k bits).2) := by
  refine ok_of (X := fun _ => []) (Z := fun _ => false) (res := [ResultVar.cell 4 43]) tok follows Tryz.func141 rfl rfl fine141 (by kernel_rfl) (by kernel_rfl) ?_
  simp only [evA, evT, evD, seval]
  refine call_ok (root.ok log k bits hl hb) rfl ?_
  simp only [evA, evT, evD, seval]
theorem Table.ok (log : Nat) (bits : Int) (hl : 2 ≤ log ∧ log ≤ 6) (hb : 0 ≤ bits ∧ bits ≤ 40) : Ok Tryz.prog 109 [.int log, .int bits] (.tup [.sl 2 (cxRows (tabV log bits)), .int 0]) := by
  have hp := pow6 hl.2
  have hpn : ((2 ^ log : Nat) : Int) = 2 ^ log := by rw [Int.natCast_pow]; rfl
  have h5 : (0 : Int) ≤ (log : Int) := by omega
  have hG := gather.ok 141 [.box [.int log] 0, .box [.int bits] 0] (2 ^ log) (fun k => rW log k bits) (by omega) (fun _ => rfl) rfl (fun k _ => Table1.ok log bits k hl.2 hb)
  rw [hpn] at hG
  refine ok_of (X := fun _ => []) (Z := fun r => Nat.beq r 3) (res := [ResultVar.tmp 4, ResultVar.tmp 5]) tok follows Tryz.func109 rfl rfl fine109 (by kernel_rfl) (by kernel_rfl) ?_
  simp only [evA, evT, evD, seval]
  refine call_ok (rmay.ok log bits) rfl ?_
  simp only [evA, evB, evT, evD, seval, decide_eq_true (show (2 ≤ (log : Int) ∧ (log : Int) ≤ 6) ∧ 0 ≤ bits ∧ bits ≤ 40 by omega), h5, Int.toNat_natCast, sh1 (show log ≤ 44 by omega)]
  refine wk_of ⟨[(2, .box [.int log] 0), (3, .box [.int bits] 0)], [], 0⟩ (weak_of (fun l => l) rfl trivial ?_) ?_
  · simp only [evA, evB, evT, evD, seval]
  simp only [evA, evB, evT, evD, seval, h5, Int.toNat_natCast, sh1 (show log ≤ 44 by omega)]
  refine call_ok hG (by simp only [evA, evT, evD, seval, cx_free]) ?_
  simp only [evA, evT, evD, seval, tabV, cx_free]
theorem Table.bad (log bits : Int) (h : ¬ ((2 ≤ log ∧ log ≤ 6) ∧ 0 ≤ bits ∧ bits ≤ 40)) : Ok Tryz.prog 109 [.int log, .int bits] (.tup [.raw (.slice none 0 0), .int 1]) := by
  refine ok_of (X := fun _ => []) (Z := fun _ => false) (res := [ResultVar.tmp 4, ResultVar.tmp 5]) tok follows Tryz.func109 rfl rfl fine109 (by kernel_rfl) (by kernel_rfl) ?_
  simp only [evA, evT, evD, seval]
  refine call_ok (rmay.ok log bits) rfl ?_
  simp only [evA, evT, evD, seval, decide_eq_false h]
theorem Twiddles.ok (log : Nat) (f : Int) (hl : 2 ≤ log ∧ log ≤ 6) (hf : fmt f) : Ok Tryz.prog 75 [.int log, .int f] (.tup [.sl 2 (cxRows (tabV log (fB f - 2))), .int 0]) := by
  have hB : fB f = 15 ∨ fB f = 31 := by unfold fB; split <;> omega
  have e : IntKind.i64.wrap (fB f - 2) = fB f - 2 := wr (by omega)
  refine ok_of (X := fun _ => []) (Z := fun _ => false) (res := [ResultVar.tmp 4, ResultVar.tmp 5]) tok follows Tryz.func75 rfl rfl fine75 (by kernel_rfl) (by kernel_rfl) ?_
  simp only [evA, evT, evD, seval]
  refine call_ok (Bits.ok f hf) rfl ?_
  simp only [evA, evT, evD, seval, e]
  refine call_ok (Table.ok log (fB f - 2) hl (by omega)) (by simp only [evA, evT, evD, seval, cx_free]) ?_
  simp only [evA, evT, evD, seval, cx_free]
theorem Twiddles.bad (log : Int) (f : Int) (h : ¬ ((2 ≤ log ∧ log ≤ 6) ∧ fmt f)) : Ok Tryz.prog 75 [.int log, .int f] (.tup [.raw (.slice none 0 0), .int 1]) := by
  have hB : fB f = 15 ∨ fB f = 31 := by unfold fB; split <;> omega
  have e : IntKind.i64.wrap (fB f - 2) = fB f - 2 := wr (by omega)
  refine ok_of (X := fun _ => []) (Z := fun _ => false) (res := [ResultVar.tmp 4, ResultVar.tmp 5]) tok follows Tryz.func75 rfl rfl fine75 (by kernel_rfl) (by kernel_rfl) ?_
  simp only [evA, evT, evD, seval]
  by_cases hf : fmt f
  · refine call_ok (Bits.ok f hf) rfl ?_
    simp only [evA, evT, evD, seval, e]
    refine call_ok (Table.bad log (fB f - 2) (fun hh => h ⟨hh.1, hf⟩)) rfl ?_
    simp only [evA, evT, evD, seval]
  · refine call_ok (Bits.bad f hf) rfl ?_
    simp only [evA, evT, evD, seval]
theorem take_tab {log : Nat} {bits : Int} {i : Nat} (h : i < 2 ^ log) : (tabV log bits).take i ++ [((rW log i bits).1, (rW log i bits).2)] = (tabV log bits).take (i + 1) := by
  have hl : i < (tabV log bits).length := by unfold tabV; rw [fillL_len]; exact h
  have e : (tabV log bits)[i] = rW log i bits := by
    unfold tabV fillL
    simp [h]
  rw [← List.take_append_getElem hl, e]
theorem RTable.ok (log : Nat) (bits : Int) (hl : 2 ≤ log ∧ log ≤ 6) (hb : 0 ≤ bits ∧ bits ≤ 40) : Ok Tryz.prog 89 [.int log, .int bits] (.sl 2 (cxRows (tabV log bits))) := by
  have hp := pow6 hl.2
  have hpn : ((2 ^ log : Nat) : Int) = 2 ^ log := by rw [Int.natCast_pow]; rfl
  have hP := Pow.ok log (by omega)
  rw [Int.toNat_natCast, ← hpn] at hP
  have hlen : (tabV log bits).length = 2 ^ log := by unfold tabV; rw [fillL_len]
  refine ok_of (X := fun _ => []) (Z := fun _ => false) (res := [ResultVar.tmp 4]) tok follows Tryz.func89 rfl rfl fine89 (by kernel_rfl) (by kernel_rfl) ?_
  simp only [evA, evB, evT, evD, seval]
  refine call_ok All.ok (by simp only [evA, evT, evD, seval, in_free]) ?_
  simp only [evA, evB, evT, evD, seval, in_free]
  refine l_inv (fun i => ⟨[(7, .int i), (6, .loc 1 0), (5, .own 0), (0, .int log), (1, .int bits)], [(1, some (.box [.sl 1 (intRows (angL 45)), .int invV])), (0, some (.row 43 2 (cxRows ((tabV log bits).take i))))], 2⟩) (2 ^ log) ?_ (fun i hi K hK => ?_) (fun K => ?_)
  · refine weak_of (fun l => l) rfl ?_ ?_
    all_goals simp only [evA, evB, evT, evD, seval, cx_free, in_free, Int.natCast_zero]
    simp [cxRows]
  · have q0 : (i : Int) < ((2 ^ log : Nat) : Int) := by omega
    have q1 : IntKind.i64.wrap ((i : Int) + 1) = ((i + 1 : Nat) : Int) := by rw [wr (by omega)]; omega
    have hti : ((tabV log bits).take i).length = i := by rw [List.length_take, hlen]; omega
    have hi1 : (i + 1) * 16 ≤ 140737488355328 := by omega
    have hi2 : i + 1 ≤ 9223372036854775807 := by omega
    simp only [evA, evB, evT, evD, seval]
    refine call_ok hP rfl ?_
    simp only [evA, evB, evT, evD, seval, q0, in_free]
    refine call_ok (RootOf.ok log i bits hl.2 hb) rfl ?_
    simp only [evA, evB, evT, evD, seval, cx_len, hti, hi1, hi2, cxs_push, take_tab hi, q1]
    refine hK _ (weak_of (fun l => if l = 0 then 3 else l) rfl ?_ ?_)
    all_goals simp only [evA, evB, evT, evD, seval, cx_free, in_free]
  · have q0 : ¬ ((2 ^ log : Nat) : Int) < ((2 ^ log : Nat) : Int) := by omega
    have : (tabV log bits).take (2 ^ log) = tabV log bits := List.take_of_length_le (by omega)
    simp only [evA, evB, evT, evD, seval]
    refine call_ok hP rfl ?_
    simp only [evA, evB, evT, evD, seval, q0, cx_free, this]
theorem RBits2.ok (f : Int) (hf : fmt f) : Ok Tryz.prog 82 [.int f] (.int (fB f)) := by
  refine ok_of (X := fun _ => []) (Z := fun _ => false) (res := [ResultVar.tmp 2]) tok follows Tryz.func82 rfl rfl fine82 (by kernel_rfl) (by kernel_rfl) ?_
  rcases hf with rfl | rfl
  · simp only [evA, evT, evD, seval]
    rfl
  · simp only [evA, evT, evD, seval]
    rfl
theorem RBits7.ok (f : Int) (hf : fmt f) : Ok Tryz.prog 49 [.int f] (.int (fB f - 2)) := by
  have hB : fB f = 15 ∨ fB f = 31 := by unfold fB; split <;> omega
  have e : IntKind.i64.wrap (fB f - 2) = fB f - 2 := wr (by omega)
  refine ok_of (X := fun _ => []) (Z := fun _ => false) (res := [ResultVar.tmp 2]) tok follows Tryz.func49 rfl rfl fine49 (by kernel_rfl) (by kernel_rfl) ?_
  simp only [evA, evT, evD, seval]
  refine call_ok (RBits2.ok f hf) rfl ?_
  simp only [evA, evT, evD, seval, e]
end Go.Proofs.YtnnjjblgilibgaaGreatV
/- Roots: what they come to. No program here. -/
namespace Go.Proofs.YtnnjjblgilibgaaGreatV
open Go Go.RowKit
set_option linter.unusedVariables false
set_option linter.unusedSimpArgs false
set_option maxRecDepth 100000
set_option maxHeartbeats 40000000
theorem rW_of {log : Nat} {k k' bits : Int} (h : rR log k = rR log k') : rW log k bits = rW log k' bits := by
  unfold rW rP
  rw [h]
theorem rW_again (log : Nat) (k bits : Int) : rW log (k + 2 ^ log) bits = rW log k bits := by
  refine rW_of ?_
  unfold rR
  rw [Int.add_emod_right]
/-- A root of a place in the circle. -/
def pR (log u : Nat) (bits : Int) : Int × Int := (rsh (ptV log u).1 (56 - bits) 1, rsh (ptV log u).2 (56 - bits) 1)
def qR (p : Int × Int) (q : Nat) : Int × Int := (tRe p.1 p.2 (q : Int), -(tIm p.1 p.2 (q : Int)))
theorem rW_is (log : Nat) (k bits : Int) : rW log k bits = qR (pR log (4 * rR log k % 2 ^ log) bits) (4 * rR log k / 2 ^ log) := rfl
theorem q_lt {log : Nat} {k : Int} : 4 * rR log k / 2 ^ log < 4 := by
  have := (rR_lt (log := log) (k := k)).1
  exact Nat.div_lt_of_lt_mul (by omega)
theorem qR_next (p : Int × Int) (q q' : Nat) (hq : q < 4) (h : q' = q + 1 ∨ q' + 4 = q + 1) : qR p q' = (tRe (qR p q).1 (qR p q).2 (-1), tIm (qR p q).1 (qR p q).2 (-1)) := by
  have hc : q = 0 ∨ q = 1 ∨ q = 2 ∨ q = 3 := by omega
  unfold qR
  rcases hc with rfl | rfl | rfl | rfl
  · obtain rfl : q' = 1 := by omega
    simp [tRe, tIm]
  · obtain rfl : q' = 2 := by omega
    simp [tRe, tIm]
  · obtain rfl : q' = 3 := by omega
    simp [tRe, tIm]
  · rcases h with h | h
    · obtain rfl : q' = 4 := by omega
      simp [tRe, tIm]
    · obtain rfl : q' = 0 := by omega
      simp [tRe, tIm]
theorem rW_quarter (log : Nat) (k bits m : Int) (hm : 4 * m = 2 ^ log) : rW log (k + m) bits = (tRe (rW log k bits).1 (rW log k bits).2 (-1), tIm (rW log k bits).1 (rW log k bits).2 (-1)) := by
  have hp : 0 < 2 ^ log := Nat.two_pow_pos log
  have hpn : ((2 ^ log : Nat) : Int) = 2 ^ log := by rw [Int.natCast_pow]; rfl
  obtain ⟨h1, h2⟩ := rR_lt (log := log) (k := k)
  obtain ⟨h3, h4⟩ := rR_lt (log := log) (k := k + m)
  have hmm : m % 2 ^ log = m := Int.emod_eq_of_lt (by omega) (by omega)
  have key : ∃ c, 4 * rR log (k + m) + 2 ^ log * c = 4 * rR log k + 2 ^ log ∧ (c = 0 ∨ c = 4) := by
    rw [Int.add_emod, hmm, ← h2, ← hpn] at h4
    by_cases hc : ((rR log k : Nat) : Int) + m < ((2 ^ log : Nat) : Int)
    · rw [Int.emod_eq_of_lt (by omega) hc] at h4
      exact ⟨0, by omega, .inl rfl⟩
    · rw [← Int.sub_emod_right, Int.emod_eq_of_lt (by omega) (by omega)] at h4
      exact ⟨4, by omega, .inr rfl⟩
  obtain ⟨c, hc, hcc⟩ := key
  have e1 : 4 * rR log (k + m) % 2 ^ log = 4 * rR log k % 2 ^ log := by
    have := congrArg (· % 2 ^ log) hc
    simpa using this
  have e2 : 4 * rR log (k + m) / 2 ^ log + c = 4 * rR log k / 2 ^ log + 1 := by
    have : (4 * rR log (k + m) + 2 ^ log * c) / 2 ^ log = (4 * rR log k + 2 ^ log) / 2 ^ log := by rw [hc]
    rwa [Nat.add_mul_div_left _ _ hp, Nat.add_div_right _ hp] at this
  rw [rW_is, rW_is, e1]
  exact qR_next _ _ _ q_lt (by omega)
theorem z_zero (log : Nat) : zV 0 log = 0 := by unfold zV; simp
theorem one_tab : ((List.range 41).all fun b => decide (rsh (goL ANG 0 (43757185469210200, 0, 0)).1 (56 - (b : Int)) 1 = 2 ^ b ∧ rsh (goL ANG 0 (43757185469210200, 0, 0)).2.1 (56 - (b : Int)) 1 = 0)) = true := by decide +kernel
theorem pR_one (log : Nat) (bits : Int) (hb : 0 ≤ bits ∧ bits ≤ 40) : pR log 0 bits = (2 ^ bits.toNat, 0) := by
  have h := of_decide_eq_true (List.all_eq_true.1 one_tab bits.toNat (List.mem_range.2 (by omega)))
  have e : ((bits.toNat : Nat) : Int) = bits := by omega
  rw [e] at h
  have ep : ptV log 0 = ((goL ANG 0 (43757185469210200, 0, 0)).1, (goL ANG 0 (43757185469210200, 0, 0)).2.1) := by
    have hp : 0 < 2 ^ log := Nat.two_pow_pos log
    unfold ptV
    rw [if_pos (by omega), Nat.mul_zero]
    unfold eV
    rw [inv_n, run_L, z_zero]
  unfold pR
  rw [ep, h.1, h.2]
theorem rR_zero (log : Nat) : rR log 0 = 0 := by unfold rR; simp
theorem rW_one (log : Nat) (bits : Int) (hb : 0 ≤ bits ∧ bits ≤ 40) : rW log 0 bits = (2 ^ bits.toNat, 0) := by
  rw [rW_is, rR_zero]
  simp only [Nat.mul_zero, Nat.zero_mod, Nat.zero_div]
  rw [pR_one log bits hb]
  unfold qR tRe tIm
  simp
theorem pt_swap (log u : Nat) (h : 0 < u) (hu : u < 2 ^ log) : ptV log (2 ^ log - u) = ((ptV log u).2, (ptV log u).1) := by
  unfold ptV
  by_cases c1 : 2 * u < 2 ^ log
  · rw [if_neg (by omega), if_pos (by omega), if_pos c1, show 2 ^ log - (2 ^ log - u) = u by omega]
  · by_cases c2 : 2 ^ log < 2 * u
    · rw [if_pos (by omega), if_neg c1, if_pos c2]
    · rw [if_neg (by omega), if_neg (by omega), if_neg c1, if_neg c2]
theorem qR_opp (p : Int × Int) (q q' : Nat) (h : q + q' = 3) : qR (p.2, p.1) q' = ((qR p q).1, -(qR p q).2) := by
  have hc : q = 0 ∨ q = 1 ∨ q = 2 ∨ q = 3 := by omega
  unfold qR
  rcases hc with rfl | rfl | rfl | rfl
  · obtain rfl : q' = 3 := by omega
    simp [tRe, tIm]
  · obtain rfl : q' = 2 := by omega
    simp [tRe, tIm]
  · obtain rfl : q' = 1 := by omega
    simp [tRe, tIm]
  · obtain rfl : q' = 0 := by omega
    simp [tRe, tIm]
theorem qR_opp0 (a : Int) (q q' : Nat) (h : q + q' = 4 ∨ q = 0 ∧ q' = 0) : qR (a, 0) q' = ((qR (a, 0) q).1, -(qR (a, 0) q).2) := by
  have hc : q = 0 ∨ q = 1 ∨ q = 2 ∨ q = 3 ∨ q = 4 := by omega
  unfold qR
  rcases hc with rfl | rfl | rfl | rfl | rfl
  · rcases h with h | h
    · obtain rfl : q' = 4 := by omega
      simp [tRe, tIm]
    · obtain rfl : q' = 0 := by omega
      simp [tRe, tIm]
  · obtain rfl : q' = 3 := by omega
    simp [tRe, tIm]
  · obtain rfl : q' = 2 := by omega
    simp [tRe, tIm]
  · obtain rfl : q' = 1 := by omega
    simp [tRe, tIm]
  · obtain rfl : q' = 0 := by omega
    simp [tRe, tIm]
theorem rW_opp (log : Nat) (k bits : Int) (hb : 0 ≤ bits ∧ bits ≤ 40) : rW log (-k) bits = ((rW log k bits).1, -(rW log k bits).2) := by
  have hp : 0 < 2 ^ log := Nat.two_pow_pos log
  have hpn : ((2 ^ log : Nat) : Int) = 2 ^ log := by rw [Int.natCast_pow]; rfl
  obtain ⟨h1, h2⟩ := rR_lt (log := log) (k := k)
  obtain ⟨h3, h4⟩ := rR_lt (log := log) (k := -k)
  have hr : rR log (-k) = if rR log k = 0 then 0 else 2 ^ log - rR log k := by
    have e : (-k) % 2 ^ log = (-((rR log k : Nat) : Int)) % 2 ^ log := by
      have h5 := Int.emod_add_mul_ediv k (2 ^ log)
      have h6 : -k = -((rR log k : Nat) : Int) + 2 ^ log * (-(k / 2 ^ log)) := by rw [h2, Int.mul_neg]; omega
      rw [h6, Int.add_mul_emod_self_left]
    rw [e, ← hpn] at h4
    split
    · rename_i hz
      rw [hz] at h4
      simpa using h4
    · rename_i hz
      rw [← Int.add_emod_right, Int.emod_eq_of_lt (by omega) (by omega)] at h4
      omega
  rw [rW_is, rW_is]
  have hdm := Nat.div_add_mod (4 * rR log k) (2 ^ log)
  have hq := q_lt (log := log) (k := k)
  have hu := Nat.mod_lt (4 * rR log k) hp
  generalize hU : 4 * rR log k % 2 ^ log = u at *
  generalize hQ : 4 * rR log k / 2 ^ log = q at *
  have split4 : ∀ x q' u' : Nat, x = 2 ^ log * q' + u' → u' < 2 ^ log → x % 2 ^ log = u' ∧ x / 2 ^ log = q' := fun x q' u' hx hlt => by
    subst hx
    exact ⟨by rw [Nat.mul_add_mod, Nat.mod_eq_of_lt hlt], by rw [Nat.mul_add_div hp, Nat.div_eq_of_lt hlt, Nat.add_zero]⟩
  by_cases hz : rR log k = 0
  · rw [if_pos hz] at hr
    rw [hz, Nat.mul_zero, Nat.zero_mod] at hU
    rw [hz, Nat.mul_zero, Nat.zero_div] at hQ
    subst hU hQ
    rw [hr]
    simp only [Nat.mul_zero, Nat.zero_mod, Nat.zero_div]
    rw [pR_one log bits hb]
    exact qR_opp0 _ 0 0 (.inr ⟨rfl, rfl⟩)
  · rw [if_neg hz] at hr
    by_cases hu0 : u = 0
    · subst hu0
      have hmul : 2 ^ log * (4 - q) = 2 ^ log * 4 - 2 ^ log * q := Nat.mul_sub _ _ _
      obtain ⟨e1, e2⟩ := split4 (4 * rR log (-k)) (4 - q) 0 (by rw [hmul, hr]; omega) hp
      rw [e1, e2, pR_one log bits hb]
      exact qR_opp0 _ q (4 - q) (.inl (by omega))
    · have hmul : 2 ^ log * (3 - q) = 2 ^ log * 3 - 2 ^ log * q := Nat.mul_sub _ _ _
      have hle : 2 ^ log * q ≤ 2 ^ log * 3 := Nat.mul_le_mul_left _ (by omega)
      obtain ⟨e1, e2⟩ := split4 (4 * rR log (-k)) (3 - q) (2 ^ log - u) (by rw [hmul, hr]; omega) (by omega)
      have es : pR log (2 ^ log - u) bits = ((pR log u bits).2, (pR log u bits).1) := by
        unfold pR
        rw [pt_swap log u (by omega) hu]
      rw [e1, e2, es]
      exact qR_opp _ q (3 - q) (by omega)
theorem e_half (k L : Nat) : eV (2 * k) (L + 1) = eV k L := by
  have : zV (2 * k) (L + 1) = zV k L := by
    unfold zV
    rw [Int.natCast_mul, show quarterV * (((2 : Nat) : Int) * (k : Int)) = 2 * (quarterV * k) by rw [Int.mul_left_comm]; rfl, Int.pow_succ, Int.mul_comm (2 ^ L) 2]
    exact Int.mul_ediv_mul_of_pos _ _ (by decide)
  unfold eV
  rw [this]
theorem pt_half (u L : Nat) : ptV (L + 1) (2 * u) = ptV L u := by
  have e : 2 ^ (L + 1) = 2 * 2 ^ L := by rw [Nat.pow_succ, Nat.mul_comm]
  have e2 : 2 * (2 * 2 ^ L - 2 * u) = 2 * (2 * (2 ^ L - u)) := by rw [Nat.mul_sub, Nat.mul_sub, Nat.mul_sub]
  unfold ptV
  rw [e, e2, e_half (2 * u) L, e_half (2 * (2 ^ L - u)) L, e_half (2 ^ L) L]
  by_cases c1 : 2 * u < 2 ^ L
  · rw [if_pos (by omega), if_pos c1]
  · by_cases c2 : 2 ^ L < 2 * u
    · rw [if_neg (by omega), if_pos (by omega), if_neg c1, if_pos c2]
    · rw [if_neg (by omega), if_neg (by omega), if_neg c1, if_neg c2]
theorem rW_half (L : Nat) (j bits : Int) : rW L j bits = rW (L + 1) (j * 2) bits := by
  have hr : rR (L + 1) (j * 2) = 2 * rR L j := by
    obtain ⟨h1, h2⟩ := rR_lt (log := L) (k := j)
    obtain ⟨h3, h4⟩ := rR_lt (log := L + 1) (k := j * 2)
    have e5 : (j * 2) % 2 ^ (L + 1) = 2 * (j % 2 ^ L) := by rw [Int.pow_succ, Int.mul_comm j, Int.mul_comm (2 ^ L), Int.mul_emod_mul_of_pos _ _ (by decide)]
    rw [e5, ← h2] at h4
    omega
  have e : 2 ^ (L + 1) = 2 * 2 ^ L := by rw [Nat.pow_succ, Nat.mul_comm]
  rw [rW_is, rW_is, hr, e, show 4 * (2 * rR L j) = 2 * (4 * rR L j) by omega, Nat.mul_mod_mul_left, Nat.mul_div_mul_left _ _ (by decide)]
  unfold pR
  rw [pt_half]
end Go.Proofs.YtnnjjblgilibgaaGreatV
/- Roots' products. No program here. -/
namespace Go.Proofs.YtnnjjblgilibgaaGreatV
open Go Go.RowKit
set_option linter.unusedVariables false
set_option linter.unusedSimpArgs false
set_option maxRecDepth 100000
set_option maxHeartbeats 40000000
/-- The 64 roots in 56 bits. -/
def EL : List (Int × Int) := [(72057594037927937, -2190), (71710617027291494, -7062879306625521), (70673027573670978, -14057739224568387), (68954818230708959, -20917215429036317), (66572536293650017, -27575247414401904), (63549124439830551, -33967714693010454), (59913699778167895, -40033054310486874), (55701273435487981, -45712853730650291), (50952413380203383, -50952413380203383), (45712853730650291, -55701273435487981), (40033054310486874, -59913699778167895), (33967714693010454, -63549124439830551), (27575247414401904, -66572536293650017), (20917215429036317, -68954818230708959), (14057739224568387, -70673027573670978), (7062879306625521, -71710617027291494), (-2190, -72057594037927937), (-7062879306625521, -71710617027291494), (-14057739224568387, -70673027573670978), (-20917215429036317, -68954818230708959), (-27575247414401904, -66572536293650017), (-33967714693010454, -63549124439830551), (-40033054310486874, -59913699778167895), (-45712853730650291, -55701273435487981), (-50952413380203383, -50952413380203383), (-55701273435487981, -45712853730650291), (-59913699778167895, -40033054310486874), (-63549124439830551, -33967714693010454), (-66572536293650017, -27575247414401904), (-68954818230708959, -20917215429036317), (-70673027573670978, -14057739224568387), (-71710617027291494, -7062879306625521), (-72057594037927937, 2190), (-71710617027291494, 7062879306625521), (-70673027573670978, 14057739224568387), (-68954818230708959, 20917215429036317), (-66572536293650017, 27575247414401904), (-63549124439830551, 33967714693010454), (-59913699778167895, 40033054310486874), (-55701273435487981, 45712853730650291), (-50952413380203383, 50952413380203383), (-45712853730650291, 55701273435487981), (-40033054310486874, 59913699778167895), (-33967714693010454, 63549124439830551), (-27575247414401904, 66572536293650017), (-20917215429036317, 68954818230708959), (-14057739224568387, 70673027573670978), (-7062879306625521, 71710617027291494), (2190, 72057594037927937), (7062879306625521, 71710617027291494), (14057739224568387, 70673027573670978), (20917215429036317, 68954818230708959), (27575247414401904, 66572536293650017), (33967714693010454, 63549124439830551), (40033054310486874, 59913699778167895), (45712853730650291, 55701273435487981), (50952413380203383, 50952413380203383), (55701273435487981, 45712853730650291), (59913699778167895, 40033054310486874), (63549124439830551, 33967714693010454), (66572536293650017, 27575247414401904), (68954818230708959, 20917215429036317), (70673027573670978, 14057739224568387), (71710617027291494, 7062879306625521)]
def gP (k : Nat) : Int × Int := ((goL ANG 0 (43757185469210200, 0, 56593902016227522 * (k : Int) / 64)).1, (goL ANG 0 (43757185469210200, 0, 56593902016227522 * (k : Int) / 64)).2.1)
def gT (u : Nat) : Int × Int := if 2 * u < 64 then gP (2 * u) else if 64 < 2 * u then ((gP (2 * (64 - u))).2, (gP (2 * (64 - u))).1) else ((gP 64).1, (gP 64).1)
theorem e_six (k : Nat) : eV k 6 = gP k := by
  unfold eV gP
  rw [inv_n, run_L]
  unfold zV
  rw [quarter_n]
  rfl
theorem pt_six (u : Nat) : ptV 6 u = gT u := by
  unfold ptV gT
  simp only [e_six]
theorem EL_tab : ((List.range 64).all fun r => decide (qR (gT (4 * r % 64)) (4 * r / 64) = EL.getD r (0, 0))) = true := by decide +kernel
theorem EL_at {r : Nat} (h : r < 64) : qR (ptV 6 (4 * r % 64)) (4 * r / 64) = EL.getD r (0, 0) := by
  rw [pt_six]
  exact of_decide_eq_true (List.all_eq_true.1 EL_tab r (List.mem_range.2 h))
theorem EL_one : ((List.range 64).all fun r => decide (-72057594037927937 ≤ (EL.getD r (0, 0)).1 ∧ (EL.getD r (0, 0)).1 ≤ 72057594037927937 ∧ -72057594037927937 ≤ (EL.getD r (0, 0)).2 ∧ (EL.getD r (0, 0)).2 ≤ 72057594037927937)) = true := by decide +kernel
def prodR (A B C : Int × Int) : Int := A.1 * B.1 - A.2 * B.2 - C.1 * 72057594037927936
def prodI (A B C : Int × Int) : Int := A.1 * B.2 + A.2 * B.1 - C.2 * 72057594037927936
theorem EL_two : ((List.range 64).all fun r => (List.range 64).all fun s => decide (-1180591620717411303424 ≤ prodR (EL.getD r (0, 0)) (EL.getD s (0, 0)) (EL.getD ((r + s) % 64) (0, 0)) ∧ prodR (EL.getD r (0, 0)) (EL.getD s (0, 0)) (EL.getD ((r + s) % 64) (0, 0)) ≤ 1180591620717411303424 ∧ -1180591620717411303424 ≤ prodI (EL.getD r (0, 0)) (EL.getD s (0, 0)) (EL.getD ((r + s) % 64) (0, 0)) ∧ prodI (EL.getD r (0, 0)) (EL.getD s (0, 0)) (EL.getD ((r + s) % 64) (0, 0)) ≤ 1180591620717411303424)) = true := by decide +kernel
theorem rsh1_near (x s : Int) (hs : 1 ≤ s) : -(2 ^ s.toNat) ≤ 2 * (rsh x s 1 * 2 ^ s.toNat - x) ∧ 2 * (rsh x s 1 * 2 ^ s.toNat - x) ≤ 2 ^ s.toNat := by
  obtain ⟨n, hn⟩ : ∃ n, s.toNat = n + 1 := ⟨s.toNat - 1, by omega⟩
  have hp := pow_pos n
  have h2 : (2 : Int) ^ (n + 1) = 2 ^ n * 2 := Int.pow_succ _ _
  have hd := Int.emod_add_mul_ediv x (2 ^ (n + 1))
  have h0 := Int.emod_nonneg x (show (2 : Int) ^ (n + 1) ≠ 0 by omega)
  have h1 := Int.emod_lt_of_pos x (show (0 : Int) < 2 ^ (n + 1) by omega)
  unfold rsh goesUp
  rw [if_neg (by omega), hn]
  simp only [Nat.add_sub_cancel, if_neg (show ¬ (1 : Int) = 0 by decide), if_true, decide_eq_true_eq]
  rw [Int.mul_comm (2 ^ (n + 1))] at hd
  split
  · rw [Int.add_mul]
    omega
  · omega
theorem near_of {w x W : Int} (h : -W ≤ 2 * (w * W - x) ∧ 2 * (w * W - x) ≤ W) : -W ≤ 2 * (-w * W - -x) ∧ 2 * (-w * W - -x) ≤ W := by
  rw [Int.neg_mul]
  omega
theorem qR_near {p P : Int × Int} {W : Int} (q : Nat) (h1 : -W ≤ 2 * (p.1 * W - P.1) ∧ 2 * (p.1 * W - P.1) ≤ W) (h2 : -W ≤ 2 * (p.2 * W - P.2) ∧ 2 * (p.2 * W - P.2) ≤ W) :
    (-W ≤ 2 * ((qR p q).1 * W - (qR P q).1) ∧ 2 * ((qR p q).1 * W - (qR P q).1) ≤ W) ∧ (-W ≤ 2 * ((qR p q).2 * W - (qR P q).2) ∧ 2 * ((qR p q).2 * W - (qR P q).2) ≤ W) := by
  have n1 := near_of h1
  have n2 := near_of h2
  unfold qR tRe tIm
  have hc : (q : Int) % 4 = 0 ∨ (q : Int) % 4 = 1 ∨ (q : Int) % 4 = 2 ∨ (q : Int) % 4 = 3 := by omega
  rcases hc with e | e | e | e <;> simp only [e]
  · exact ⟨h1, n2⟩
  · exact ⟨n2, n1⟩
  · exact ⟨n1, by simpa using h2⟩
  · exact ⟨h2, by simpa using h1⟩
theorem rW_six (log : Nat) (k bits : Int) (hl : log ≤ 6) : rW log k bits = rW 6 (k * 2 ^ (6 - log)) bits := by
  have : log = 6 ∨ log = 5 ∨ log = 4 ∨ log = 3 ∨ log = 2 ∨ log = 1 ∨ log = 0 := by omega
  rcases this with rfl | rfl | rfl | rfl | rfl | rfl | rfl
  · simp
  · rw [rW_half]
    rfl
  · rw [rW_half, rW_half, Int.mul_assoc]
    rfl
  · rw [rW_half, rW_half, rW_half, Int.mul_assoc, Int.mul_assoc]
    rfl
  · rw [rW_half, rW_half, rW_half, rW_half, Int.mul_assoc, Int.mul_assoc, Int.mul_assoc]
    rfl
  · rw [rW_half, rW_half, rW_half, rW_half, rW_half, Int.mul_assoc, Int.mul_assoc, Int.mul_assoc, Int.mul_assoc]
    rfl
  · rw [rW_half, rW_half, rW_half, rW_half, rW_half, rW_half, Int.mul_assoc, Int.mul_assoc, Int.mul_assoc, Int.mul_assoc, Int.mul_assoc]
    rfl
/-- A root is near to its 56 bits. -/
theorem six_near (k bits : Int) (hb : 0 ≤ bits ∧ bits ≤ 40) :
    (-(2 ^ (56 - bits).toNat) ≤ 2 * ((rW 6 k bits).1 * 2 ^ (56 - bits).toNat - (EL.getD (rR 6 k) (0, 0)).1) ∧ 2 * ((rW 6 k bits).1 * 2 ^ (56 - bits).toNat - (EL.getD (rR 6 k) (0, 0)).1) ≤ 2 ^ (56 - bits).toNat) ∧
    (-(2 ^ (56 - bits).toNat) ≤ 2 * ((rW 6 k bits).2 * 2 ^ (56 - bits).toNat - (EL.getD (rR 6 k) (0, 0)).2) ∧ 2 * ((rW 6 k bits).2 * 2 ^ (56 - bits).toNat - (EL.getD (rR 6 k) (0, 0)).2) ≤ 2 ^ (56 - bits).toNat) := by
  have hr := (rR_lt (log := 6) (k := k)).1
  rw [← EL_at (show rR 6 k < 64 from hr), rW_is]
  exact qR_near _ (rsh1_near _ _ (by omega)) (rsh1_near _ _ (by omega))
theorem mul_abs {x y N M : Int} (h1 : -N ≤ x ∧ x ≤ N) (h2 : -M ≤ y ∧ y ≤ M) : -(N * M) ≤ x * y ∧ x * y ≤ N * M := by
  have a1 : 0 ≤ (N - x) * (M + y) := Int.mul_nonneg (by omega) (by omega)
  have a2 : 0 ≤ (N + x) * (M - y) := Int.mul_nonneg (by omega) (by omega)
  have a3 : 0 ≤ (N - x) * (M - y) := Int.mul_nonneg (by omega) (by omega)
  have a4 : 0 ≤ (N + x) * (M + y) := Int.mul_nonneg (by omega) (by omega)
  rw [Int.sub_mul, Int.mul_add, Int.mul_add] at a1
  rw [Int.add_mul, Int.mul_sub, Int.mul_sub] at a2
  rw [Int.sub_mul, Int.mul_sub, Int.mul_sub] at a3
  rw [Int.add_mul, Int.mul_add, Int.mul_add] at a4
  omega
/-- The law of products, of numbers that are near. -/
theorem prod_near {a1 a2 b1 b2 c T W A1 A2 B1 B2 C : Int} (hT : T * W = 72057594037927936) (hW : 67108864 ≤ W ∧ W ≤ 17592186044416) (n1 : -W ≤ 2 * (a1 * W - A1) ∧ 2 * (a1 * W - A1) ≤ W) (n2 : -W ≤ 2 * (a2 * W - A2) ∧ 2 * (a2 * W - A2) ≤ W)
    (n3 : -W ≤ 2 * (b1 * W - B1) ∧ 2 * (b1 * W - B1) ≤ W) (n4 : -W ≤ 2 * (b2 * W - B2) ∧ 2 * (b2 * W - B2) ≤ W) (n5 : -W ≤ 2 * (c * W - C) ∧ 2 * (c * W - C) ≤ W)
    (m1 : -72057594037927937 ≤ A1 ∧ A1 ≤ 72057594037927937) (m2 : -72057594037927937 ≤ A2 ∧ A2 ≤ 72057594037927937) (m3 : -72057594037927937 ≤ B1 ∧ B1 ≤ 72057594037927937) (m4 : -72057594037927937 ≤ B2 ∧ B2 ≤ 72057594037927937)
    (hD : -1180591620717411303424 ≤ A1 * B1 + A2 * B2 - C * 72057594037927936 ∧ A1 * B1 + A2 * B2 - C * 72057594037927936 ≤ 1180591620717411303424) :
    -(4 * T) ≤ a1 * b1 + a2 * b2 - c * T ∧ a1 * b1 + a2 * b2 - c * T ≤ 4 * T := by
  generalize e1 : 2 * (a1 * W - A1) = α1 at *
  generalize e2 : 2 * (a2 * W - A2) = α2 at *
  generalize e3 : 2 * (b1 * W - B1) = β1 at *
  generalize e4 : 2 * (b2 * W - B2) = β2 at *
  generalize e5 : 2 * (c * W - C) = γ at *
  have id : (a1 * b1 + a2 * b2 - c * T) * (4 * W * W) = 4 * (A1 * B1 + A2 * B2 - C * 72057594037927936) + 2 * (A1 * β1) + 2 * (α1 * B1) + α1 * β1 + 2 * (A2 * β2) + 2 * (α2 * B2) + α2 * β2 - 2 * γ * 72057594037927936 := by
    subst e1 e2 e3 e4 e5
    grind
  have p1 := mul_abs m1 n3
  have p2 := mul_abs n1 m3
  have p3 := mul_abs n1 n3
  have p4 := mul_abs m2 n4
  have p5 := mul_abs n2 m4
  have p6 := mul_abs n2 n4
  have hWW : W * W ≤ 17592186044416 * W := Int.mul_le_mul_of_nonneg_right hW.2 (by omega)
  have hTW : 4 * T * (4 * W * W) = 16 * (72057594037927936 * W) := by
    rw [← hT]
    grind
  have hpos : 0 < 4 * W * W := Int.mul_pos (by omega) (by omega)
  constructor
  · refine Int.le_of_mul_le_mul_right ?_ hpos
    rw [id, Int.neg_mul, hTW]
    omega
  · refine Int.le_of_mul_le_mul_right ?_ hpos
    rw [id, hTW]
    omega
theorem six_prod (k m bits : Int) (hb : 12 ≤ bits ∧ bits ≤ 30) :
    (-(4 * 2 ^ bits.toNat) ≤ (rW 6 k bits).1 * (rW 6 m bits).1 - (rW 6 k bits).2 * (rW 6 m bits).2 - (rW 6 (k + m) bits).1 * 2 ^ bits.toNat ∧ (rW 6 k bits).1 * (rW 6 m bits).1 - (rW 6 k bits).2 * (rW 6 m bits).2 - (rW 6 (k + m) bits).1 * 2 ^ bits.toNat ≤ 4 * 2 ^ bits.toNat) ∧
    (-(4 * 2 ^ bits.toNat) ≤ (rW 6 k bits).1 * (rW 6 m bits).2 + (rW 6 k bits).2 * (rW 6 m bits).1 - (rW 6 (k + m) bits).2 * 2 ^ bits.toNat ∧ (rW 6 k bits).1 * (rW 6 m bits).2 + (rW 6 k bits).2 * (rW 6 m bits).1 - (rW 6 (k + m) bits).2 * 2 ^ bits.toNat ≤ 4 * 2 ^ bits.toNat) := by
  obtain ⟨hk, hke⟩ := rR_lt (log := 6) (k := k)
  obtain ⟨hm, hme⟩ := rR_lt (log := 6) (k := m)
  have hs : rR 6 (k + m) = (rR 6 k + rR 6 m) % 64 := by
    obtain ⟨h1, h2⟩ := rR_lt (log := 6) (k := k + m)
    rw [Int.add_emod, ← hke, ← hme] at h2
    have h64 : (2 : Int) ^ 6 = 64 := rfl
    rw [h64] at h2
    omega
  obtain ⟨a1, a2⟩ := six_near k bits (by omega)
  obtain ⟨b1, b2⟩ := six_near m bits (by omega)
  obtain ⟨c1, c2⟩ := six_near (k + m) bits (by omega)
  rw [hs] at c1 c2
  obtain ⟨x1, x2, x3, x4⟩ := of_decide_eq_true (List.all_eq_true.1 EL_one _ (List.mem_range.2 (show rR 6 k < 64 from hk)))
  obtain ⟨y1, y2, y3, y4⟩ := of_decide_eq_true (List.all_eq_true.1 EL_one _ (List.mem_range.2 (show rR 6 m < 64 from hm)))
  obtain ⟨d1, d2, d3, d4⟩ := of_decide_eq_true (List.all_eq_true.1 (List.all_eq_true.1 EL_two _ (List.mem_range.2 (show rR 6 k < 64 from hk))) _ (List.mem_range.2 (show rR 6 m < 64 from hm)))
  unfold prodR at d1 d2
  unfold prodI at d3 d4
  have hT : (2 : Int) ^ bits.toNat * 2 ^ (56 - bits).toNat = 72057594037927936 := by
    rw [← Int.pow_add, show bits.toNat + (56 - bits).toNat = 56 by omega]
    rfl
  have hW : (67108864 : Int) ≤ 2 ^ (56 - bits).toNat ∧ (2 : Int) ^ (56 - bits).toNat ≤ 17592186044416 := by
    have h1 : (2 : Int) ^ 26 ≤ 2 ^ (56 - bits).toNat := pow_le (by omega)
    have h2 : (2 : Int) ^ (56 - bits).toNat ≤ 2 ^ 44 := pow_le (by omega)
    exact ⟨h1, h2⟩
  refine ⟨?_, prod_near hT hW a1 a2 b2 b1 c2 ⟨x1, x2⟩ ⟨x3, x4⟩ ⟨y3, y4⟩ ⟨y1, y2⟩ ⟨d3, d4⟩⟩
  have hn := near_of a2
  have := prod_near hT hW a1 hn b1 b2 c1 ⟨x1, x2⟩ (show -72057594037927937 ≤ -(EL.getD (rR 6 k) (0, 0)).2 ∧ -(EL.getD (rR 6 k) (0, 0)).2 ≤ 72057594037927937 by omega) ⟨y1, y2⟩ ⟨y3, y4⟩ (by rw [Int.neg_mul]; omega)
  rw [Int.neg_mul] at this
  omega
/-- No root is greater than 1. -/
theorem rW_le (log : Nat) (k bits : Int) (hl : log ≤ 6) (hb : 0 ≤ bits ∧ bits ≤ 40) : win (2 ^ bits.toNat) (rW log k bits).1 (rW log k bits).2 := by
  rw [rW_six log k bits hl]
  generalize k * 2 ^ (6 - log) = j
  obtain ⟨a1, a2⟩ := six_near j bits hb
  have hr := (rR_lt (log := 6) (k := j)).1
  obtain ⟨x1, x2, x3, x4⟩ := of_decide_eq_true (List.all_eq_true.1 EL_one _ (List.mem_range.2 (show rR 6 j < 64 from hr)))
  have hT : (2 : Int) ^ bits.toNat * 2 ^ (56 - bits).toNat = 72057594037927936 := by
    rw [← Int.pow_add, show bits.toNat + (56 - bits).toNat = 56 by omega]
    rfl
  have hW : (65536 : Int) ≤ 2 ^ (56 - bits).toNat := by
    have h1 : (2 : Int) ^ 16 ≤ 2 ^ (56 - bits).toNat := pow_le (by omega)
    exact h1
  generalize (2 : Int) ^ (56 - bits).toNat = W at *
  generalize (2 : Int) ^ bits.toNat = T at *
  have one : ∀ w x : Int, -W ≤ 2 * (w * W - x) ∧ 2 * (w * W - x) ≤ W → -72057594037927937 ≤ x → x ≤ 72057594037927937 → -T ≤ w ∧ w ≤ T := by
    intro w x h h1 h2
    constructor
    · have : (-T - 1) * W < w * W := by rw [Int.sub_mul, Int.neg_mul, hT]; omega
      have := Int.lt_of_mul_lt_mul_right this (by omega)
      omega
    · have : w * W < (T + 1) * W := by rw [Int.add_mul, hT]; omega
      have := Int.lt_of_mul_lt_mul_right this (by omega)
      omega
  have h1 := one _ _ a1 x1 x2
  have h2 := one _ _ a2 x3 x4
  unfold win
  omega
theorem rW_prod (log : Nat) (k m bits : Int) (hl : log ≤ 6) (hb : 12 ≤ bits ∧ bits ≤ 30) :
    (-(4 * 2 ^ bits.toNat) ≤ (rW log k bits).1 * (rW log m bits).1 - (rW log k bits).2 * (rW log m bits).2 - (rW log (k + m) bits).1 * 2 ^ bits.toNat ∧ (rW log k bits).1 * (rW log m bits).1 - (rW log k bits).2 * (rW log m bits).2 - (rW log (k + m) bits).1 * 2 ^ bits.toNat ≤ 4 * 2 ^ bits.toNat) ∧
    (-(4 * 2 ^ bits.toNat) ≤ (rW log k bits).1 * (rW log m bits).2 + (rW log k bits).2 * (rW log m bits).1 - (rW log (k + m) bits).2 * 2 ^ bits.toNat ∧ (rW log k bits).1 * (rW log m bits).2 + (rW log k bits).2 * (rW log m bits).1 - (rW log (k + m) bits).2 * 2 ^ bits.toNat ≤ 4 * 2 ^ bits.toNat) := by
  rw [rW_six log k bits hl, rW_six log m bits hl, rW_six log (k + m) bits hl, Int.add_mul]
  exact six_prod _ _ bits hb
end Go.Proofs.YtnnjjblgilibgaaGreatV

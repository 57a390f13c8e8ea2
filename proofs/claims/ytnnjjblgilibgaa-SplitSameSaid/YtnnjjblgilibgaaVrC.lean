import Derived.Test.YtnnjjblgilibgaaVrA
/- The angles as numbers; points of parts of an eighth are small. -/
namespace Go.Proofs.YtnnjjblgilibgaaV
open Go Go.RowKit
set_option linter.unusedVariables false
set_option linter.unusedSimpArgs false
set_option maxRecDepth 100000
set_option maxHeartbeats 40000000
def ANG : List Int := [56593902016227522, 33409331186036029, 17652573055549881, 8960721713639278, 4497749271019253, 2251067235130761, 1125808294293075, 562938500594602, 281473545067998, 140737309398767, 70368721808055, 35184369292630, 17592185694891, 8796092978518, 4398046505643, 2199023254870, 1099511627691, 549755813878, 274877906943, 137438953472, 68719476736, 34359738368, 17179869184, 8589934592, 4294967296, 2147483648, 1073741824, 536870912, 268435456, 134217728, 67108864, 33554432, 16777216, 8388608, 4194304, 2097152, 1048576, 524288, 262144, 131072, 65536, 32768, 16384, 8192, 4096]
theorem ang_list : (List.range 45).map angV = ANG := by decide +kernel
/-- A turn along angles. -/
def goL : List Int → Nat → Int × Int × Int → Int × Int × Int
  | [], _, p => p
  | a :: r, i, p => goL r (i + 1) (stV i a p)
theorem goL_run (x z : Int) : ∀ k i, goL ((List.range' i k).map angV) i (runV x z i) = runV x z (i + k)
  | 0, i => rfl
  | k + 1, i => by
    rw [List.range'_succ, List.map_cons, goL, show i + (k + 1) = i + 1 + k by omega]
    exact goL_run x z k (i + 1)
theorem run_L (x z : Int) : runV x z 45 = goL ANG 0 (x, 0, z) := by
  have := goL_run x z 45 0
  rw [← List.range_eq_range', ang_list] at this
  rw [show (45 : Nat) = 0 + 45 from rfl, ← this]
  rfl
theorem quarter_n : quarterV = 56593902016227522 := by
  have h : angV 0 = quarterV := rfl
  rw [← h]
  have : ((List.range 45).map angV)[0]? = ANG[0]? := by rw [ang_list]
  simpa [ANG] using this
theorem gain_n : gainV = 118661582157481174 := by
  unfold gainV
  rw [run_L]
  decide +kernel
theorem inv_n : invV = 43757185469210200 := by
  unfold invV
  rw [gain_n]
  decide +kernel
theorem pt_tab : ((List.range 65).all fun k => decide (-288230376151711744 ≤ (goL ANG 0 (43757185469210200, 0, (56593902016227522 * (k : Int)) / 64)).1 ∧ (goL ANG 0 (43757185469210200, 0, (56593902016227522 * (k : Int)) / 64)).1 ≤ 288230376151711744 ∧ -288230376151711744 ≤ (goL ANG 0 (43757185469210200, 0, (56593902016227522 * (k : Int)) / 64)).2.1 ∧ (goL ANG 0 (43757185469210200, 0, (56593902016227522 * (k : Int)) / 64)).2.1 ≤ 288230376151711744)) = true := by decide +kernel
/-- The angle of a part of an eighth. -/
def zV (k log : Nat) : Int := quarterV * k / 2 ^ log
/-- A point of a part of an eighth. -/
def eV (k log : Nat) : Int × Int := ((runV invV (zV k log) 45).1, (runV invV (zV k log) 45).2.1)
theorem e_win (k log : Nat) (hl : log ≤ 6) (hk : k ≤ 2 ^ log) : win 288230376151711744 (eV k log).1 (eV k log).2 := by
  have hz : zV k log = 56593902016227522 * ((k * 2 ^ (6 - log) : Nat) : Int) / 64 := by
    unfold zV
    rw [quarter_n]
    have : log = 0 ∨ log = 1 ∨ log = 2 ∨ log = 3 ∨ log = 4 ∨ log = 5 ∨ log = 6 := by omega
    rcases this with rfl | rfl | rfl | rfl | rfl | rfl | rfl <;> simp <;> omega
  have hk' : k * 2 ^ (6 - log) < 65 := by
    have : log = 0 ∨ log = 1 ∨ log = 2 ∨ log = 3 ∨ log = 4 ∨ log = 5 ∨ log = 6 := by omega
    rcases this with rfl | rfl | rfl | rfl | rfl | rfl | rfl <;> simp at hk ⊢ <;> omega
  have h := of_decide_eq_true (List.all_eq_true.1 pt_tab _ (List.mem_range.2 hk'))
  unfold eV
  rw [inv_n, run_L, hz]
  unfold win
  omega
end Go.Proofs.YtnnjjblgilibgaaV

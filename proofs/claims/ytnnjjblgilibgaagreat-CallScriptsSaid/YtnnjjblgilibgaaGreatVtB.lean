import Derived.Test.YtnnjjblgilibgaaGreatVgD
import Derived.Test.YtnnjjblgilibgaaGreatVgF
import Derived.Test.YtnnjjblgilibgaaGreatVgA
/- Contracts: places told from behind. -/
namespace Go.Proofs.YtnnjjblgilibgaaGreatV
open Go Go.RowKit
set_option linter.unusedVariables false
set_option linter.unusedSimpArgs false
set_option maxRecDepth 100000
set_option maxHeartbeats 40000000
theorem fine160 : Fine Tryz.prog 160 := fun _ _ => by kernel_rfl
theorem fine161 : Fine Tryz.prog 161 := fun _ _ => by kernel_rfl
theorem fine134 : Fine Tryz.prog 134 := fun _ _ => by kernel_rfl
theorem fine92 : Fine Tryz.prog 92 := fun _ _ => by kernel_rfl
theorem fine135 : Fine Tryz.prog 135 := fun _ _ => by kernel_rfl
theorem fine94 : Fine Tryz.prog 94 := fun _ _ => by kernel_rfl
theorem fine56 : Fine Tryz.prog 56 := fun _ _ => by kernel_rfl
theorem fmay.ok (log : Nat) (hl : 2 ≤ log ∧ log ≤ 6) : Ok Tryz.prog 160 [.int log] (.bool Bool.true) := by
  have h1 : (2 : Int) ≤ log := by omega
  have h2 : (log : Int) ≤ 6 := by omega
  refine ok_of (X := fun _ => []) (Z := fun _ => false) (res := [ResultVar.tmp 2]) tok follows Tryz.func160 rfl rfl fine160 (by kernel_rfl) (by kernel_rfl) ?_
  simp only [evA, evT, evD, seval, h1, h2]
/-- Bits told from behind: what is there, and what is left, behind so many rounds. -/
def rvS (x : Int) : Nat → Int × Int
  | 0 => (0, x)
  | j + 1 => (Go.bits .or .i64 (IntKind.i64.wrap ((rvS x j).1 * 2 ^ min 1 IntKind.i64.bits)) (Go.bits .and .i64 (rvS x j).2 1), (rvS x j).2.fdiv (2 ^ min 1 IntKind.i64.bits))
theorem fBits.ok (i log : Nat) (hl : 2 ≤ log ∧ log ≤ 6) (hi : i < 2 ^ log) : Ok Tryz.prog 161 [.int i, .int log] (.tup [.int (rvS i log).1, .int 0]) := by
  have hsh : IntKind.i64.wrap (1 * 2 ^ min ((log : Int)).toNat IntKind.i64.bits) = ((2 ^ log : Nat) : Int) := by
    rcases (show log = 2 ∨ log = 3 ∨ log = 4 ∨ log = 5 ∨ log = 6 by omega) with rfl | rfl | rfl | rfl | rfl <;> decide
  have h1 : ¬ (i : Int) < 0 := by omega
  have h2 : ¬ ((2 ^ log : Nat) : Int) ≤ (i : Int) := by omega
  have h3 : (0 : Int) ≤ (log : Int) := by omega
  refine ok_of (X := fun _ => []) (Z := fun _ => false) (res := [ResultVar.tmp 4, ResultVar.tmp 5]) tok follows Tryz.func161 rfl rfl fine161 (by kernel_rfl) (by kernel_rfl) ?_
  simp only [evA, evT, evD, seval]
  refine call_ok (fmay.ok log hl) rfl ?_
  simp only [evA, evT, evD, seval, hsh, h1, h2, h3]
  refine l_inv (fun j => ⟨[(21, .int j), (20, .int log), (6, .int (rvS i j).1), (0, .int (rvS i j).2)], [], 0⟩) log ?_ (fun j hj K hK => ?_) (fun K => ?_)
  · refine weak_of (fun l => l) rfl trivial ?_
    simp only [evA, evB, evT, evD, seval, Int.natCast_zero, rvS]
  · have q1 : (j : Int) < log := by omega
    have q3 : IntKind.i64.wrap ((j : Int) + 1) = j + 1 := wr (by omega)
    simp only [evA, evT, evD, seval, q1, q3]
    refine hK _ (weak_of (fun l => l) rfl trivial ?_)
    simp only [evA, evB, evT, evD, seval, Int.natCast_add, Int.natCast_one, rvS]
  · simp only [evA, evT, evD, seval]
/-- The places of all. -/
def rowL (log m : Nat) : List Int := (List.range m).map fun i : Nat => (rvS (i : Int) log).1
theorem rowL_len {log m : Nat} : (rowL log m).length = m := by simp [rowL]
theorem rowL_succ {log m : Nat} : rowL log m ++ [(rvS m log).1] = rowL log (m + 1) := by simp [rowL, List.range_succ]
theorem pow64F {log : Nat} (h : 2 ≤ log ∧ log ≤ 6) : 4 ≤ 2 ^ log ∧ 2 ^ log ≤ 64 := by
  rcases (show log = 2 ∨ log = 3 ∨ log = 4 ∨ log = 5 ∨ log = 6 by omega) with rfl | rfl | rfl | rfl | rfl <;> decide
theorem shF {log : Nat} (hl : 2 ≤ log ∧ log ≤ 6) : IntKind.i64.wrap (1 * 2 ^ min log IntKind.i64.bits) = ((2 ^ log : Nat) : Int) := by
  rcases (show log = 2 ∨ log = 3 ∨ log = 4 ∨ log = 5 ∨ log = 6 by omega) with rfl | rfl | rfl | rfl | rfl <;> decide
theorem Row.ok (log : Nat) (hl : 2 ≤ log ∧ log ≤ 6) : Ok Tryz.prog 134 [.int log] (.tup [.sl 1 (intRows (rowL log (2 ^ log))), .int 0]) := by
  have hp := pow64F hl
  have hsh := shF hl
  have h3 : (0 : Int) ≤ (log : Int) := by omega
  obtain ⟨m, hm⟩ : ∃ m, 2 ^ log = m + 1 := ⟨2 ^ log - 1, by omega⟩
  refine ok_of (X := fun _ => []) (Z := fun _ => false) (res := [ResultVar.tmp 2, ResultVar.tmp 3]) tok follows Tryz.func134 rfl rfl fine134 (by kernel_rfl) (by kernel_rfl) ?_
  simp only [evA, evT, evD, seval]
  refine call_ok (fmay.ok log hl) rfl ?_
  simp only [evA, evT, evD, seval, hsh, h3, Int.toNat_natCast]
  refine l_inv (fun i => match i with
    | 0 => ⟨[(13, .int 0), (12, .int ((2 ^ log : Nat) : Int)), (4, .raw (.slice none 0 0)), (0, .int log)], [], 0⟩
    | i + 1 => ⟨[(13, .int ((i + 1 : Nat) : Int)), (12, .int ((2 ^ log : Nat) : Int)), (4, .own 0), (0, .int log)], [(0, some (.row 3 1 (intRows (rowL log (i + 1)))))], 1⟩) (m + 1) ?_ (fun i hi' K hK => ?_) (fun K => ?_)
  · refine weak_of (fun l => l) rfl trivial ?_
    simp only [evA, evB, evT, evD, seval]
  · have hi : i < 2 ^ log := by omega
    have q0 : (i : Int) < ((2 ^ log : Nat) : Int) := by omega
    have q1 : IntKind.i64.wrap ((i : Int) + 1) = ((i + 1 : Nat) : Int) := by rw [wr (by omega)]; omega
    have hB := fBits.ok i log hl hi
    have hi1 : (i + 1) * 8 ≤ 140737488355328 := by omega
    have hi2' : i + 1 ≤ 9223372036854775807 := by omega
    cases i with
    | zero =>
      have hz : [[AV.int (rvS 0 log).1]] = intRows (rowL log 1) := rfl
      have q0' : (0 : Int) < ((2 ^ log : Nat) : Int) := q0
      simp only [evA, evB, evT, evD, seval, q0']
      refine call_ok hB rfl ?_
      simp only [evA, evB, evT, evD, seval]
      dsimp only at hK
      refine hK _ (weak_of (fun l => l + 1) rfl ?_ ?_)
      all_goals simp only [evA, evB, evT, evD, seval, in_free, hz, Int.natCast_one, Nat.zero_add]
    | succ i =>
      simp only [evA, evB, evT, evD, seval, q0]
      refine call_ok hB rfl ?_
      simp only [evA, evB, evT, evD, seval, in_len, rowL_len, hi1, hi2', in_push, rowL_succ, q1]
      dsimp only at hK
      refine hK _ (weak_of (fun l => l + 2) rfl ?_ ?_)
      all_goals simp only [evA, evB, evT, evD, seval, in_free]
  · simp only [evA, evB, evT, evD, seval, hm, in_free]
/-! By the document. -/
theorem RBit.ok (n j : Nat) (hn : n < 64) (hj : j ≤ 6) : Ok Tryz.prog 135 [.int n, .int j] (.int ((n : Int) / 2 ^ j % 2)) := by
  refine ok_of (X := fun _ => []) (Z := fun _ => false) (res := [ResultVar.tmp 4]) tok follows Tryz.func135 rfl rfl fine135 (by kernel_rfl) (by kernel_rfl) ?_
  simp only [evA, evT, evD, seval]
  refine call_ok (Floor.ok n j (by unfold in64; omega) (by omega)) rfl ?_
  have h0 : 0 ≤ (n : Int) / 2 ^ j := Int.ediv_nonneg (by omega) (Int.pow_nonneg (by omega))
  have e : ((n : Int) / 2 ^ j).tmod 2 = (n : Int) / 2 ^ j % 2 := Int.tmod_eq_emod_of_nonneg h0
  simp only [evA, evT, evD, seval, Int.toNat_natCast, e]
theorem p2le {j k : Nat} (h : j ≤ k) : (2 : Int) ^ j ≤ 2 ^ k := by exact_mod_cast Nat.pow_le_pow_right (by decide) h
def rbS (i log : Nat) : Nat → Int
  | 0 => 0
  | j + 1 => rbS i log j + (i : Int) / 2 ^ (log - 1 - j) % 2 * 2 ^ j
theorem rbS_le (i log : Nat) : ∀ j, 0 ≤ rbS i log j ∧ rbS i log j < 2 ^ j
  | 0 => by simp [rbS]
  | j + 1 => by
    have h := rbS_le i log j
    have h2 : 0 ≤ (i : Int) / 2 ^ (log - 1 - j) % 2 ∧ (i : Int) / 2 ^ (log - 1 - j) % 2 ≤ 1 := by omega
    have e : (2 : Int) ^ (j + 1) = 2 ^ j * 2 := Int.pow_succ ..
    have h3 : (i : Int) / 2 ^ (log - 1 - j) % 2 = 0 ∨ (i : Int) / 2 ^ (log - 1 - j) % 2 = 1 := by omega
    show 0 ≤ rbS i log j + _ ∧ rbS i log j + _ < _
    rw [e]
    rcases h3 with h3 | h3 <;> rw [h3] <;> omega
theorem RBits.ok (i log : Nat) (hl : 2 ≤ log ∧ log ≤ 6) (hi : i < 2 ^ log) : Ok Tryz.prog 94 [.int i, .int log] (.int (rbS i log log)) := by
  have hp := pow64F hl
  refine ok_of (X := fun _ => []) (Z := fun _ => false) (res := [ResultVar.tmp 4]) tok follows Tryz.func94 rfl rfl fine94 (by kernel_rfl) (by kernel_rfl) ?_
  simp only [evA, evT, evD, seval]
  refine l_inv (fun j => ⟨[(6, .int j), (5, .int (rbS i log j)), (0, .int i), (1, .int log)], [], 0⟩) log ?_ (fun j hj K hK => ?_) (fun K => ?_)
  · refine weak_of (fun l => l) rfl trivial ?_
    simp only [evA, evB, evT, evD, seval, Int.natCast_zero, rbS]
  · have q1 : (j : Int) < log := by omega
    have q3 : IntKind.i64.wrap ((j : Int) + 1) = j + 1 := wr (by omega)
    have q4 : IntKind.i64.wrap ((log : Int) - 1) = ((log - 1 : Nat) : Int) := by rw [wr (by omega)]; omega
    have q5 : IntKind.i64.wrap (((log - 1 : Nat) : Int) - (j : Int)) = ((log - 1 - j : Nat) : Int) := by rw [wr (by omega)]; omega
    have hs := rbS_le i log (j + 1)
    have hs0 := rbS_le i log j
    have hpj : (2 : Int) ^ (j + 1) ≤ 2 ^ 7 := p2le (by omega)
    have hb : (i : Int) / 2 ^ (log - 1 - j) % 2 = 0 ∨ (i : Int) / 2 ^ (log - 1 - j) % 2 = 1 := by omega
    have hpj' : (2 : Int) ^ j ≤ 2 ^ 7 := p2le (by omega)
    have hpj0 : 0 ≤ (2 : Int) ^ j := Int.pow_nonneg (by omega)
    have q6 : IntKind.i64.wrap ((i : Int) / 2 ^ (log - 1 - j) % 2 * 2 ^ j) = (i : Int) / 2 ^ (log - 1 - j) % 2 * 2 ^ j := by
      rcases hb with h | h <;> rw [h] <;> rw [wr (by omega)]
    have q7 : IntKind.i64.wrap (rbS i log j + (i : Int) / 2 ^ (log - 1 - j) % 2 * 2 ^ j) = rbS i log (j + 1) := by
      show _ = rbS i log j + _
      rw [wr]
      have : rbS i log j + (i : Int) / 2 ^ (log - 1 - j) % 2 * 2 ^ j = rbS i log (j + 1) := rfl
      omega
    simp only [evA, evT, evD, seval, q1, q4, q5]
    refine call_ok (RBit.ok i (log - 1 - j) (by omega) (by omega)) rfl ?_
    simp only [evA, evT, evD, seval]
    refine call_ok (Pow.ok j (by omega)) rfl ?_
    simp only [evA, evT, evD, seval, Int.toNat_natCast, q6, q7, q3]
    refine hK _ (weak_of (fun l => l) rfl trivial ?_)
    simp only [evA, evB, evT, evD, seval, Int.natCast_add, Int.natCast_one]
  · simp only [evA, evT, evD, seval]
/-- A place told from behind. -/
def flipV (log i : Nat) : Nat := (rbS i log log).toNat
theorem flip_tab : ((List.range 5).all fun l => (List.range (2 ^ (l + 2))).all fun i => (rvS i (l + 2)).1 == (flipV (l + 2) i : Int) && rbS i (l + 2) (l + 2) == (flipV (l + 2) i : Int) && decide (flipV (l + 2) i < 2 ^ (l + 2))) = true := by decide +kernel
theorem flip_at {log i : Nat} (hl : 2 ≤ log ∧ log ≤ 6) (hi : i < 2 ^ log) : (rvS i log).1 = (flipV log i : Int) ∧ rbS i log log = (flipV log i : Int) ∧ flipV log i < 2 ^ log := by
  have h := flip_tab
  rw [List.all_eq_true] at h
  have h1 := h (log - 2) (List.mem_range.2 (by omega))
  rw [List.all_eq_true] at h1
  have e : log - 2 + 2 = log := by omega
  rw [e] at h1
  have h2 := h1 i (List.mem_range.2 hi)
  simp only [Bool.and_eq_true, beq_iff_eq, decide_eq_true_eq] at h2
  exact ⟨h2.1.1, h2.1.2, h2.2⟩
def flipP (log : Nat) (xs : List (Int × Int)) (m : Nat) : List (Int × Int) := (List.range m).map fun i => xs.getD (flipV log i) (0, 0)
theorem flipP_len {log m : Nat} {xs : List (Int × Int)} : (flipP log xs m).length = m := by simp [flipP]
theorem flipP_succ {log m : Nat} {xs : List (Int × Int)} : flipP log xs m ++ [((xs.getD (flipV log m) (0, 0)).1, (xs.getD (flipV log m) (0, 0)).2)] = flipP log xs (m + 1) := by simp [flipP, List.range_succ]
/-- Numbers in these places. -/
def flipL (log : Nat) (xs : List (Int × Int)) : List (Int × Int) := flipP log xs (2 ^ log)
theorem lens_pow {log : Nat} (hl : 2 ≤ log ∧ log ≤ 6) : lens ((2 ^ log : Nat) : Int) ∧ lg ((2 ^ log : Nat) : Int) = log := by
  rcases (show log = 2 ∨ log = 3 ∨ log = 4 ∨ log = 5 ∨ log = 6 by omega) with rfl | rfl | rfl | rfl | rfl <;> decide
theorem RFlip.ok (log : Nat) (xs : List (Int × Int)) (hl : 2 ≤ log ∧ log ≤ 6) (hx : xs.length = 2 ^ log) : Ok Tryz.prog 56 [.sl 2 (cxRows xs)] (.sl 2 (cxRows (flipL log xs))) := by
  have hp := pow64F hl
  obtain ⟨hln, hlg⟩ := lens_pow hl
  refine ok_of (X := fun _ => []) (Z := fun _ => false) (res := [ResultVar.tmp 2]) tok follows Tryz.func56 rfl rfl fine56 (by kernel_rfl) (by kernel_rfl) ?_
  simp only [evA, evT, evD, seval, cx_len, hx]
  refine l_inv (fun i => ⟨[(8, .int i), (7, .int ((2 ^ log : Nat) : Int)), (3, .own 0), (0, .sl 2 (cxRows xs))], [(0, some (.row 43 2 (cxRows (flipP log xs i))))], 1⟩) (2 ^ log) ?_ (fun i hi K hK => ?_) (fun K => ?_)
  · refine weak_of (fun l => l) rfl ?_ ?_
    all_goals simp only [evA, evB, evT, evD, seval, cx_free, Int.natCast_zero, show cxRows (flipP log xs 0) = [] from rfl]
  · have q0 : (i : Int) < ((2 ^ log : Nat) : Int) := by omega
    have q1 : IntKind.i64.wrap ((i : Int) + 1) = ((i + 1 : Nat) : Int) := by rw [wr (by omega)]; omega
    have hi1 : (i + 1) * 16 ≤ 140737488355328 := by omega
    have hi2 : i + 1 ≤ 9223372036854775807 := by omega
    obtain ⟨_, f2, f3⟩ := flip_at hl hi
    have f4 : ((flipV log i : Nat) : Int) < ((2 ^ log : Nat) : Int) := by omega
    have f5 : (0 : Int) ≤ ((flipV log i : Nat) : Int) := by omega
    have f6 : flipV log i < xs.length := by omega
    have hB := RBits.ok i log hl hi
    rw [f2] at hB
    simp only [evA, evB, evT, evD, seval, q0, cx_len, hx]
    refine call_ok (RLog.ok _ hln) rfl ?_
    simp only [evA, evB, evT, evD, seval, hlg]
    refine call_ok hB rfl ?_
    simp only [evA, evB, evT, evD, seval, f4, f5, cx_len, hx, Int.toNat_natCast, cx_getD f6, flipP_len, hi1, hi2, cx_push, flipP_succ, q1]
    refine hK _ (weak_of (fun l => l + 2) rfl ?_ ?_)
    all_goals simp only [evA, evB, evT, evD, seval, cx_free]
  · simp only [evA, evT, evD, seval, cx_free, flipL]
/-! Numbers are put in their places, two by two. -/
def swG {α : Type} (f : Nat → Nat) (d : α) (l : List α) : Nat → List α
  | 0 => l
  | i + 1 => if i < f i then ((swG f d l i).set i ((swG f d l i).getD (f i) d)).set (f i) ((swG f d l i).getD i d) else swG f d l i
theorem swG_len {α : Type} (f : Nat → Nat) (d : α) (l : List α) : ∀ i, (swG f d l i).length = l.length
  | 0 => rfl
  | i + 1 => by
    rw [swG]
    split
    · rw [List.length_set, List.length_set, swG_len f d l i]
    · exact swG_len f d l i
theorem swG_map {α β : Type} (g : α → β) (f : Nat → Nat) (d : α) (l : List α) : ∀ i, swG f (g d) (l.map g) i = (swG f d l i).map g
  | 0 => rfl
  | i + 1 => by
    rw [swG, swG, swG_map g f d l i]
    have e : ∀ k, ((swG f d l i).map g).getD k (g d) = g ((swG f d l i).getD k d) := fun k => by
      rw [List.getD_eq_getElem?_getD, List.getD_eq_getElem?_getD, List.getElem?_map]
      cases (swG f d l i)[k]? <;> rfl
    rw [e, e]
    split
    · rw [← List.map_set, ← List.map_set]
    · rfl
theorem sw_tab : ((List.range 5).all fun l => swG (flipV (l + 2)) (2 ^ (l + 2)) (List.range (2 ^ (l + 2))) (2 ^ (l + 2)) == (List.range (2 ^ (l + 2))).map (flipV (l + 2))) = true := by decide +kernel
theorem sw_flip {log : Nat} (hl : 2 ≤ log ∧ log ≤ 6) (xs : List (Int × Int)) (hx : xs.length = 2 ^ log) : swG (flipV log) (0, 0) xs (2 ^ log) = flipL log xs := by
  have h := sw_tab
  rw [List.all_eq_true] at h
  have h1 := h (log - 2) (List.mem_range.2 (by omega))
  have e : log - 2 + 2 = log := by omega
  rw [e] at h1
  have h1 := eq_of_beq h1
  have e1 : xs = (List.range (2 ^ log)).map fun j => xs.getD j (0, 0) := by
    apply List.ext_getElem
    · simp [hx]
    · intro i h1 h2
      simp [List.getD_eq_getElem?_getD, h1]
  have e2 : xs.getD (2 ^ log) ((0 : Int), (0 : Int)) = (0, 0) := by
    rw [List.getD_eq_getElem?_getD, List.getElem?_eq_none (by omega)]
    rfl
  have h2 : swG (flipV log) (xs.getD (2 ^ log) (0, 0)) ((List.range (2 ^ log)).map fun j => xs.getD j ((0 : Int), (0 : Int))) (2 ^ log) = _ := swG_map (fun j => xs.getD j ((0 : Int), (0 : Int))) (flipV log) (2 ^ log) (List.range (2 ^ log)) (2 ^ log)
  rw [e2, ← e1, h1, List.map_map] at h2
  rw [h2]
  rfl
theorem rowL_at {log i : Nat} (hi : i < 2 ^ log) : (rowL log (2 ^ log)).getD i 0 = (rvS i log).1 := by
  rw [List.getD_eq_getElem?_getD]
  simp [rowL, hi]
theorem in_getDF {zs : List Int} {i : Nat} (h : i < zs.length) : (intRows zs).getD i [] = [.int (zs.getD i 0)] := by
  unfold intRows
  rw [List.getD_eq_getElem?_getD, List.getElem?_map, List.getElem?_eq_getElem h, List.getD_eq_getElem?_getD, List.getElem?_eq_getElem h]
  rfl
theorem Flip.ok (log : Nat) (xs : List (Int × Int)) (hl : 2 ≤ log ∧ log ≤ 6) (hx : xs.length = 2 ^ log) : Ok Tryz.prog 92 [.sl 2 (cxRows xs)] (.tup [.sl 2 (cxRows (flipL log xs)), .int 0]) := by
  have hp := pow64F hl
  obtain ⟨hln, hlg⟩ := lens_pow hl
  refine ok_of (X := fun _ => []) (Z := fun r => Nat.beq r 6) (res := [ResultVar.tmp 2, ResultVar.tmp 3]) tok follows Tryz.func92 rfl rfl fine92 (by kernel_rfl) (by kernel_rfl) ?_
  simp only [evA, evB, evT, evD, seval, cx_len, hx]
  refine call_ok (Log.ok _ hln) rfl ?_
  simp only [evA, evB, evT, evD, seval, hlg]
  refine call_ok (Row.ok log hl) (by simp only [evA, evB, evT, evD, seval, in_free]) ?_
  simp only [evA, evB, evT, evD, seval, cx_len, hx]
  refine ⟨⟨by omega, by omega, by omega⟩, ?_⟩
  refine hand_of _ (copy_hand tok 0 0 2 43 (cxRows xs) (List.replicate (2 ^ log) [.int 0, .int 0]) _ _ _ 8 0 28 29 30 rfl rfl rfl (by rw [cx_len, hx, List.length_replicate]) (by rw [cx_len]; omega) (cx_one xs) rfl rfl (by decide) (by decide)) ?_
  simp only [evA, evB, evT, evD, seval, cx_len, hx, in_len, rowL_len]
  refine l_inv (fun i => ⟨[(33, .int i), (32, .int ((2 ^ log : Nat) : Int)), (31, .sl 1 (intRows (rowL log (2 ^ log)))), (8, .own 0)], [(0, some (.row 43 2 (cxRows (swG (flipV log) (0, 0) xs i))))], 1⟩) (2 ^ log) ?_ (fun i hi K hK => ?_) (fun K => ?_)
  · refine weak_of (fun l => l) rfl ?_ ?_
    all_goals simp only [evA, evB, evT, evD, seval, cx_free, in_free, Int.natCast_zero, swG]
  · have q0 : (i : Int) < ((2 ^ log : Nat) : Int) := by omega
    have q1 : IntKind.i64.wrap ((i : Int) + 1) = ((i + 1 : Nat) : Int) := by rw [wr (by omega)]; omega
    have q2 : (0 : Int) ≤ (i : Int) := by omega
    obtain ⟨f1, _, f3⟩ := flip_at hl hi
    have f4 : ((flipV log i : Nat) : Int) < ((2 ^ log : Nat) : Int) := by omega
    have f5 : (0 : Int) ≤ ((flipV log i : Nat) : Int) := by omega
    have hz : (swG (flipV log) (0, 0) xs i).length = 2 ^ log := by rw [swG_len, hx]
    have g1 := in_getDF (zs := rowL log (2 ^ log)) (i := i) (by rw [rowL_len]; exact hi)
    rw [rowL_at hi, f1] at g1
    have k1 : i < (swG (flipV log) (0, 0) xs i).length := by omega
    have k2 : flipV log i < (swG (flipV log) (0, 0) xs i).length := by omega
    have hsucc : swG (flipV log) (0, 0) xs (i + 1) = if i < flipV log i then ((swG (flipV log) (0, 0) xs i).set i ((swG (flipV log) (0, 0) xs i).getD (flipV log i) (0, 0))).set (flipV log i) ((swG (flipV log) (0, 0) xs i).getD i (0, 0)) else swG (flipV log) (0, 0) xs i := rfl
    rw [hsucc] at hK
    generalize swG (flipV log) (0, 0) xs i = ys at *
    simp only [evA, evB, evT, evD, seval, q0, q2, in_len, rowL_len, Int.toNat_natCast, g1]
    by_cases hlt : i < flipV log i
    · rw [if_pos hlt] at hK
      have hlt' : (i : Int) < ((flipV log i : Nat) : Int) := by omega
      have k3 : flipV log i < (ys.set i ((ys.getD (flipV log i) (0, 0)).1, (ys.getD (flipV log i) (0, 0)).2)).length := by rw [List.length_set]; exact k2
      simp only [evA, evB, evT, evD, seval, hlt', cx_len, hz, f4, f5, q0, q1, q2, Int.toNat_natCast, cx_at k1, cx_at k2, cx_set, List.length_set, cx_at k3]
      refine hK _ (weak_of (fun l => l) rfl ?_ ?_)
      all_goals simp only [evA, evB, evT, evD, seval, cx_free, in_free]
    · rw [if_neg hlt] at hK
      have hlt' : ¬ (i : Int) < ((flipV log i : Nat) : Int) := by omega
      simp only [evA, evB, evT, evD, seval, hlt', q1]
      refine hK _ (weak_of (fun l => l) rfl ?_ ?_)
      all_goals simp only [evA, evB, evT, evD, seval, cx_free, in_free]
  · simp only [evA, evB, evT, evD, seval, cx_free, sw_flip hl xs hx]
end Go.Proofs.YtnnjjblgilibgaaGreatV

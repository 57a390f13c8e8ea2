import Derived.Test.YtnnjjblgilibgaaGreatVtC
/- Contracts: the document's clamps, rooms, shifts. -/
namespace Go.Proofs.YtnnjjblgilibgaaGreatV
open Go Go.RowKit
set_option linter.unusedVariables false
set_option linter.unusedSimpArgs false
set_option maxRecDepth 100000
set_option maxHeartbeats 40000000
theorem neg_fM {f : Int} (hf : fmt f) : IntKind.i64.wrap (0 - fM f) = -fM f := by rcases hf with rfl | rfl <;> decide
theorem fM_1 {f : Int} (hf : fmt f) : IntKind.i64.wrap (fM f - 1) = fM f - 1 := by rcases hf with rfl | rfl <;> decide
theorem RClamp2.ok (x f : Int) (hf : fmt f) : Ok Tryz.prog 102 [.int x, .int f] (.agg [.int (cl f x), .bool (decide (¬ cl f x = x)), .int 0]) := by
  refine ok_of (X := fun _ => []) (Z := fun _ => false) (res := [ResultVar.cell 4 146]) tok follows Tryz.func102 rfl rfl fine102 (by kernel_rfl) (by kernel_rfl) ?_
  simp only [evA, evT, evD, seval]
  refine call_ok (ROneS.ok f hf) rfl ?_
  simp only [evA, evT, evD, seval, neg_fM hf]
  by_cases h1 : x < -fM f
  · have e : cl f x = -fM f := by unfold cl; rw [if_pos h1]
    have e2 : ¬ -fM f = x := by omega
    simp only [evA, evT, evD, seval, h1]
    refine call_ok (ROneS.ok f hf) rfl ?_
    simp only [evA, evT, evD, seval, neg_fM hf, e, e2, decide_not, decide_false, Bool.not_false, not_false_eq_true, decide_true]
  · simp only [evA, evT, evD, seval, h1]
    refine call_ok (ROneS.ok f hf) rfl ?_
    by_cases h2 : fM f ≤ x
    · have e : cl f x = fM f - 1 := by unfold cl; rw [if_neg h1, if_pos (by omega)]
      have e2 : ¬ fM f - 1 = x := by omega
      simp only [evA, evT, evD, seval, h2]
      refine call_ok (ROneS.ok f hf) rfl ?_
      simp only [evA, evT, evD, seval, fM_1 hf, e, e2, not_false_eq_true, decide_true]
    · have e : cl f x = x := by unfold cl; rw [if_neg h1, if_neg (by omega)]
      simp only [evA, evT, evD, seval, h2, e, not_true_eq_false, decide_false]
theorem half_fM {f : Int} (hf : fmt f) : IntKind.i64.wrap ((fM f).tdiv 2) = hM f := by rcases hf with rfl | rfl <;> decide
theorem RRoom.ok (m f : Int) (hf : fmt f) (hm : 0 ≤ m ∧ m ≤ fM f) : Ok Tryz.prog 54 [.int m, .int f] (.int (rmV f m)) := by
  have hle := fM_le hf
  refine ok_of (X := fun _ => []) (Z := fun _ => false) (res := [ResultVar.tmp 4]) tok follows Tryz.func54 rfl rfl fine54 (by kernel_rfl) (by kernel_rfl) ?_
  simp only [evA, evT, evD, seval]
  by_cases hpos : 0 < m
  · have h30 := rN_30 hf hpos
    have hr : rmV f m = (rN m (hM f) 31 : Nat) := by unfold rmV; rw [if_pos hpos]
    rw [hr]
    have htest : ∀ s : Nat, s ≤ 31 → IntKind.i64.wrap (m * 2 ^ s) = m * 2 ^ s := by
      intro s hs
      have h1 : (2 : Int) ^ s ≤ 2 ^ 31 := p2le hs
      have h0 : (0 : Int) ≤ 2 ^ s := Int.pow_nonneg (by omega)
      have h2 : m * 2 ^ s ≤ 2147483648 * 2 ^ s := Int.mul_le_mul_of_nonneg_right (by omega) h0
      have h3 : 0 ≤ m * 2 ^ s := Int.mul_nonneg (by omega) h0
      rw [wr (by omega)]
    refine l_inv (fun j => ⟨[(5, .int (31 - (j : Int))), (0, .int m), (1, .int f)], [], 0⟩) (31 - rN m (hM f) 31) ?_ (fun j hj K hK => ?_) (fun K => ?_)
    · refine weak_of (fun l => l) rfl trivial ?_
      simp only [evA, evB, evT, evD, seval, Int.natCast_zero]
    · have q1 : 0 < 31 - (j : Int) := by omega
      have q2 : IntKind.i64.wrap (31 - (j : Int) - 1) = 31 - ((j + 1 : Nat) : Int) := by rw [wr (by omega)]; omega
      have q3 : (31 - (j : Int)).toNat = 31 - j := by omega
      have hout := rN_out m (hM f) 31 (31 - j) (by omega) (by omega)
      simp only [evA, evT, evD, seval, q1, hpos]
      refine call_ok (Pow.ok _ (by omega)) rfl ?_
      simp only [evA, evT, evD, seval, q3, htest (31 - j) (by omega)]
      refine call_ok (ROneS.ok f hf) rfl ?_
      simp only [evA, evT, evD, seval, half_fM hf, hout, q2]
      refine hK _ (weak_of (fun l => l) rfl trivial ?_)
      simp only [evA, evB, evT, evD, seval]
    · have q0 : ((31 - rN m (hM f) 31 : Nat) : Int) = 31 - (rN m (hM f) 31 : Nat) := by omega
      have q3 : (31 - (31 - ((rN m (hM f) 31 : Nat) : Int))) = ((rN m (hM f) 31 : Nat) : Int) := by omega
      rw [q0, q3]
      by_cases h0 : rN m (hM f) 31 = 0
      · rw [h0]
        simp only [evA, evT, evD, seval, Int.natCast_zero, Int.lt_irrefl]
      · have q1 : 0 < ((rN m (hM f) 31 : Nat) : Int) := by omega
        have hin := rN_in m (hM f) 31 (by omega)
        simp only [evA, evT, evD, seval, q1, hpos]
        refine call_ok (Pow.ok _ (by omega)) rfl ?_
        simp only [evA, evT, evD, seval, Int.toNat_natCast, htest (rN m (hM f) 31) (by omega)]
        refine call_ok (ROneS.ok f hf) rfl ?_
        simp only [evA, evT, evD, seval, half_fM hf, hin]
  · have hr : rmV f m = 0 := by unfold rmV; rw [if_neg hpos]
    rw [hr]
    refine l_inv (fun j => ⟨[(5, .int (31 - (j : Int))), (0, .int m), (1, .int f)], [], 0⟩) 31 ?_ (fun j hj K hK => ?_) (fun K => ?_)
    · refine weak_of (fun l => l) rfl trivial ?_
      simp only [evA, evB, evT, evD, seval, Int.natCast_zero]
    · have q1 : 0 < 31 - (j : Int) := by omega
      have q2 : IntKind.i64.wrap (31 - (j : Int) - 1) = 31 - ((j + 1 : Nat) : Int) := by rw [wr (by omega)]; omega
      simp only [evA, evT, evD, seval, q1, hpos, q2]
      refine hK _ (weak_of (fun l => l) rfl trivial ?_)
      simp only [evA, evB, evT, evD, seval]
    · simp only [evA, evT, evD, seval, show (31 : Int) - ((31 : Nat) : Int) = 0 from rfl, Int.lt_irrefl]
theorem qu_fM {f : Int} (hf : fmt f) : IntKind.i64.wrap ((fM f).tdiv 2) = fM f / 2 ∧ IntKind.i64.wrap ((fM f).tdiv 4) = fM f / 4 ∧ IntKind.i64.wrap ((fM f).tdiv 8) = fM f / 8 := by rcases hf with rfl | rfl <;> decide
theorem RPre2.ok (m f : Int) (hf : fmt f) : Ok Tryz.prog 97 [.int 2, .int m, .int f] (.int (preV 2 f m)) := by
  obtain ⟨e2, e4, e8⟩ := qu_fM hf
  refine ok_of (X := fun _ => []) (Z := fun _ => false) (res := [ResultVar.tmp 6]) tok follows Tryz.func97 rfl rfl fine97 (by kernel_rfl) (by kernel_rfl) ?_
  simp only [evA, evT, evD, seval]
  refine call_ok (ROneS.ok f hf) rfl ?_
  simp only [evA, evT, evD, seval, e2, e4]
  have hv : preV 2 f m = if m ≤ fM f / 4 then 0 else if m ≤ fM f / 2 then 1 else 2 := by unfold preV; rw [if_neg (by decide)]
  rw [hv]
  by_cases h1 : m ≤ fM f / 4
  · simp only [evA, evT, evD, seval, h1]
  · by_cases h2 : m ≤ fM f / 2
    · simp only [evA, evT, evD, seval, h1, h2]
    · simp only [evA, evT, evD, seval, h1, h2]
theorem RPre.ok (k m f : Int) (hk : k = 2 ∨ k = 4) (hf : fmt f) : Ok Tryz.prog 97 [.int k, .int m, .int f] (.int (preV k f m)) := by
  rcases hk with rfl | rfl
  · exact RPre2.ok m f hf
  obtain ⟨e2, e4, e8⟩ := qu_fM hf
  refine ok_of (X := fun _ => []) (Z := fun _ => false) (res := [ResultVar.tmp 6]) tok follows Tryz.func97 rfl rfl fine97 (by kernel_rfl) (by kernel_rfl) ?_
  simp only [evA, evT, evD, seval]
  refine call_ok (ROneS.ok f hf) rfl ?_
  simp only [evA, evT, evD, seval, e8]
  have hv : preV 4 f m = if m ≤ fM f / 8 then 0 else 1 + preV 2 f m := by
    have a4 : preV 4 f m = if m ≤ fM f / 8 then 0 else if m ≤ fM f / 4 then 1 else if m ≤ fM f / 2 then 2 else 3 := by unfold preV; rw [if_pos rfl]
    have a2 : preV 2 f m = if m ≤ fM f / 4 then 0 else if m ≤ fM f / 2 then 1 else 2 := by unfold preV; rw [if_neg (by decide)]
    rw [a4, a2]
    repeat' split
    all_goals first | rfl | omega
  rw [hv]
  by_cases h1 : m ≤ fM f / 8
  · simp only [evA, evT, evD, seval, h1]
  · have hb : preV 2 f m = 0 ∨ preV 2 f m = 1 ∨ preV 2 f m = 2 := by
      have a2 : preV 2 f m = if m ≤ fM f / 4 then 0 else if m ≤ fM f / 2 then 1 else 2 := by unfold preV; rw [if_neg (by decide)]
      rw [a2]
      repeat' split
      all_goals simp
    have hw : IntKind.i64.wrap (1 + preV 2 f m) = 1 + preV 2 f m := by rcases hb with h | h | h <;> rw [h] <;> rfl
    simp only [evA, evT, evD, seval, h1]
    refine call_ok (RPre2.ok m f hf) rfl ?_
    simp only [evA, evT, evD, seval, hw]
theorem RShifted.ok (xs : List (Int × Int)) (s mode : Int) (hs : -31 ≤ s ∧ s ≤ 31) (hm : 0 ≤ mode ∧ mode ≤ 2) (hl : xs.length ≤ 1000000) (hx : nears 2147483648 xs) : Ok Tryz.prog 53 [.sl 2 (cxRows xs), .int s, .int mode] (.sl 2 (cxRows (shL s mode xs))) := by
  have hneg : IntKind.i64.wrap (0 - s) = -s := by rw [wr (by omega)]; omega
  refine ok_of (X := fun _ => []) (Z := fun _ => false) (res := [ResultVar.tmp 6]) tok follows Tryz.func53 rfl rfl fine53 (by kernel_rfl) (by kernel_rfl) ?_
  simp only [evA, evT, evD, seval, cx_len]
  refine l_inv (fun i => ⟨[(14, .int i), (13, .int xs.length), (12, .sl 2 (cxRows xs)), (7, .own 0), (1, .int s), (2, .int mode)], [(0, some (.row 43 2 (cxRows (shP s mode xs i))))], 1⟩) xs.length ?_ (fun i hi K hK => ?_) (fun K => ?_)
  · refine weak_of (fun l => l) rfl ?_ ?_
    all_goals simp only [evA, evB, evT, evD, seval, cx_free, Int.natCast_zero, show cxRows (shP s mode xs 0) = [] from rfl]
  · have q0 : (i : Int) < (xs.length : Int) := by omega
    have q1 : IntKind.i64.wrap ((i : Int) + 1) = ((i + 1 : Nat) : Int) := by rw [wr (by omega)]; omega
    have q2 : (0 : Int) ≤ (i : Int) := by omega
    have hi1 : (i + 1) * 16 ≤ 140737488355328 := by omega
    have hi2 : i + 1 ≤ 9223372036854775807 := by omega
    have hw := near_at hx hi
    have hsucc := @shP_succ s mode xs i
    generalize hp : xs.getD i (0, 0) = p at hw hsucc
    have hat := cx_getD hi
    rw [hp] at hat
    unfold win at hw
    by_cases h0 : 0 ≤ s
    · have e : shV s mode p = (rsh p.1 s mode, rsh p.2 s mode) := by unfold shV; rw [if_pos h0]
      rw [e] at hsucc
      simp only [evA, evB, evT, evD, seval, q0, q2, cx_len, Int.toNat_natCast, hat, h0]
      refine call_ok (RShift.ok p.1 p.2 s mode (by unfold in64; omega) (by unfold in64; omega) (by omega) hm) rfl ?_
      simp only [evA, evB, evT, evD, seval, cx_len, shP_len, hi1, hi2, cx_push, hsucc, q1]
      refine hK _ (weak_of (fun l => l + 3) rfl ?_ ?_)
      all_goals simp only [evA, evB, evT, evD, seval, cx_free]
    · have e : shV s mode p = (p.1 * 2 ^ (-s).toNat, p.2 * 2 ^ (-s).toNat) := by unfold shV; rw [if_neg h0]
      have hp2 : (2 : Int) ^ (-s).toNat ≤ 2 ^ 31 := p2le (by omega)
      have hp0 : (0 : Int) ≤ 2 ^ (-s).toNat := Int.pow_nonneg (by omega)
      have w1 : IntKind.i64.wrap (p.1 * 2 ^ (-s).toNat) = p.1 * 2 ^ (-s).toNat := by
        have ha : p.1 * 2 ^ (-s).toNat ≤ 2147483648 * 2 ^ (-s).toNat := Int.mul_le_mul_of_nonneg_right hw.1 hp0
        have hb : -2147483648 * 2 ^ (-s).toNat ≤ p.1 * 2 ^ (-s).toNat := Int.mul_le_mul_of_nonneg_right hw.2.2.1 hp0
        rw [wr (by omega)]
      have w2 : IntKind.i64.wrap (p.2 * 2 ^ (-s).toNat) = p.2 * 2 ^ (-s).toNat := by
        have ha : p.2 * 2 ^ (-s).toNat ≤ 2147483648 * 2 ^ (-s).toNat := Int.mul_le_mul_of_nonneg_right hw.2.1 hp0
        have hb : -2147483648 * 2 ^ (-s).toNat ≤ p.2 * 2 ^ (-s).toNat := Int.mul_le_mul_of_nonneg_right hw.2.2.2 hp0
        rw [wr (by omega)]
      rw [e] at hsucc
      simp only [evA, evB, evT, evD, seval, q0, q2, cx_len, Int.toNat_natCast, hat, h0, hneg]
      refine call_ok (Pow.ok (-s) (by omega)) rfl ?_
      simp only [evA, evB, evT, evD, seval, cx_len, shP_len, hi1, hi2, w1, w2, cx_push, hsucc, q1]
      refine hK _ (weak_of (fun l => l + 3) rfl ?_ ?_)
      all_goals simp only [evA, evB, evT, evD, seval, cx_free]
  · simp only [evA, evB, evT, evD, seval, cx_free, shP_all]
end Go.Proofs.YtnnjjblgilibgaaGreatV

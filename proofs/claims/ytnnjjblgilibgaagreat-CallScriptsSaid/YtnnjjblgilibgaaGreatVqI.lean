import Derived.Test.YtnnjjblgilibgaaGreatVqH
/- Contracts: the document's script; rows of errors the same. -/
namespace Go.Proofs.YtnnjjblgilibgaaGreatV
open Go Go.RowKit
set_option linter.unusedVariables false
set_option linter.unusedSimpArgs false
set_option maxRecDepth 100000
set_option maxHeartbeats 40000000
theorem RScript23.ok (ds : List (Int × Int)) (cs : List Cl) (hl : cs.length ≤ 1000000) (hw : ∀ c ∈ cs, c.w.length ≤ 1000000 ∧ c.x.length ≤ 1000000) : Ok Tryz.prog 39 [.sl 2 (cxRows ds), .sl 8 (clRows cs)] (.agg [.sl 2 (cxRows (scD ds (cs.take 20))), .sl 1 (intRows (scE ds (cs.take 20)))]) := by
  cases hn : min cs.length 20 with
  | zero =>
    obtain rfl := List.eq_nil_of_length_eq_zero (show cs.length = 0 by omega)
    refine Ok.less (r := .agg [.sl 2 (cxRows ds), .raw (.slice none 0 0)]) ?_ fun w φ N v h => ?_
    · refine ok_of (X := fun _ => []) (Z := fun _ => false) (res := [ResultVar.cell 4 70]) tok follows Tryz.func39 rfl rfl fine39 (by kernel_rfl) (by kernel_rfl) ?_
      simp only [evA, evB, evT, evD, seval, cl_len, cl_free, cx_free]
      refine ⟨1, l_succ ?_⟩
      simp only [evA, evB, evT, evD, seval, cl_len, cl_free, cx_free, List.length_nil, Int.natCast_zero]
      first | done | rfl
    · cases h with
      | agg _ vs hl h =>
        refine .agg _ _ hl fun i x hx => ?_
        match i, hx with
        | 0, hx => cases hx; exact h 0 _ rfl
        | 1, hx => cases hx; exact nil_sl (h 1 _ rfl)
        | i + 2, hx => simp at hx
  | succ m =>
    refine ok_of (X := fun _ => []) (Z := fun _ => false) (res := [ResultVar.cell 4 70]) tok follows Tryz.func39 rfl rfl fine39 (by kernel_rfl) (by kernel_rfl) ?_
    simp only [evA, evB, evT, evD, seval, cl_len, cl_free, cx_free]
    refine l_inv (fun i => match i with
      | 0 => ⟨[(13, .int 0), (12, .int cs.length), (11, .sl 8 (clRows cs)), (5, .loc 1 0), (4, .loc 0 0)], [(1, some (.box [.sl 2 (cxRows ds), .raw (.slice none 0 0)])), (0, some (.box [.raw (.slice none 0 0), .raw (.slice none 0 0)]))], 2⟩
      | i + 1 => ⟨[(13, .int ((i + 1 : Nat) : Int)), (12, .int cs.length), (11, .sl 8 (clRows cs)), (5, .loc 1 0), (4, .loc 0 0)], [(1, some (.box [.sl 2 (cxRows (scD ds (cs.take (i + 1)))), .own 2])), (0, some (.box [.raw (.slice none 0 0), .raw (.slice none 0 0)])), (2, some (.row 28 1 (intRows (scE ds (cs.take (i + 1))))))], 3⟩) (m + 1) ?_ (fun i hi K hK => ?_) (fun K => ?_)
    · refine weak_of (fun l => l) rfl ?_ ?_
      all_goals simp only [evA, evB, evT, evD, seval, cl_free, cx_free, cl_len]
    · obtain ⟨c, hc⟩ : ∃ c, cs[i]? = some c := ⟨_, List.getElem?_eq_getElem (by omega)⟩
      have q0 : (i : Int) < (cs.length : Int) := by omega
      have q1 : IntKind.i64.wrap ((i : Int) + 1) = ((i + 1 : Nat) : Int) := by rw [wr (by omega)]; omega
      have q2 : (0 : Int) ≤ (i : Int) := by omega
      have q3 : ¬ (20 : Int) ≤ (i : Int) := by omega
      have ht : (scE ds (cs.take i)).length = i := by rw [scE_len, List.length_take]; omega
      have hcw := hw c (List.mem_of_getElem? hc)
      have hS := RShape23.ok c.f c.l c.k c.s c.m c.i (scD ds (cs.take i)) c.x c.w hcw.1 hcw.2
      obtain ⟨h1, h2⟩ := sc_step (ds := ds) hc
      have hstay : ¬ wR (scD ds (cs.take i)) c = 0 → scD ds (cs.take (i + 1)) = scD ds (cs.take i) := fun g => by rw [← h1, nxD_n g]
      have hrun : wR (scD ds (cs.take i)) c = 0 → Ok Tryz.prog 17 [.sl 2 (cxRows c.x), plV c.f c.l c.k c.s c.m c.i] (blkV (rnB c.f c.l.toNat c.k c.s c.m c.i c.x)) ∧ (rnB c.f c.l.toNat c.k c.s c.m c.i c.x).xs = scD ds (cs.take (i + 1)) := fun g => by
        refine ⟨?_, by rw [← h1, nxD_0 g]⟩
        rcases why_or_s c.f c.l c.k c.s c.m (scD ds (cs.take i)) c.x c.w with ⟨_, log, e, hp, hlx, hld, hn⟩ | g'
        · rw [e, Int.toNat_natCast]
          exact Run15.ok c.f c.k c.s c.m c.i log hp c.x hlx hn
        · exact absurd g g'
      change Ok _ _ _ (.int (wR (scD ds (cs.take i)) c)) at hS
      have z1 : (i + 1) * 8 ≤ 140737488355328 := by omega
      have z2 : i + 1 ≤ 9223372036854775807 := by omega
      have z3 : i ≤ 9223372036854775806 := by omega
      cases i with
      | zero =>
        have q0' : (0 : Int) < (cs.length : Int) := q0
        have hcg := cl_get hc
        have hs : [[AV.int (wR (scD ds []) c)]] = intRows (scE ds (cs.take (0 + 1))) := by rw [← h2]; rfl
        simp only [evA, evB, evT, evD, seval, q0', cl_len, cl_free, cx_free, Int.toNat_zero, hcg]
        refine call_ok hS rfl ?_
        simp only [evA, evB, evT, evD, seval, cx_free]
        dsimp only at hK
        rw [hs]
        refine ⟨fun g => ?_, fun g => ?_⟩
        · obtain ⟨hr, hx⟩ := hrun g
          refine call_ok hr (by simp only [evA, evB, evT, evD, seval, cx_free, in_free]) ?_
          simp only [evA, evB, evT, evD, seval, cx_free, in_free, hx]
          refine hK _ (weak_of (fun l => match l with | 0 => 0 | 1 => 1 | l + 2 => l + 4) rfl ?_ ?_)
          all_goals simp only [evA, evB, evT, evD, seval, cl_free, cx_free, in_free, LB.ren, LB.lt, renAll, allLt, rn_sl, lt_sl, cx_ren, cx_lt, AV.ren, AV.lt, Int.natCast_one]
        · have hd : ds = scD ds (cs.take 1) := (hstay g).symm
          refine hK _ (weak_of (fun l => match l with | 0 => 0 | 1 => 1 | l + 2 => l + 4) rfl ?_ ?_)
          all_goals simp only [evA, evB, evT, evD, seval, cl_free, cx_free, in_free, LB.ren, LB.lt, renAll, allLt, rn_sl, lt_sl, cx_ren, cx_lt, AV.ren, AV.lt, Int.natCast_one, ← hd]
      | succ i =>
        simp only [evA, evB, evT, evD, seval, q0, q2, cl_len, cl_free, cx_free, Int.toNat_natCast, cl_get hc, in_len, ht, q3]
        refine call_ok hS rfl ?_
        simp only [evA, evB, evT, evD, seval, cx_free, in_len, ht, z1, z2, z3, q1, in_push, h2]
        dsimp only at hK
        refine ⟨fun g => ?_, fun g => ?_⟩
        · obtain ⟨hr, hx⟩ := hrun g
          refine call_ok hr (by simp only [evA, evB, evT, evD, seval, cx_free, in_free]) ?_
          simp only [evA, evB, evT, evD, seval, cx_free, in_free, hx, q1]
          refine hK _ (weak_of (fun l => match l with | 0 => 0 | 1 => 1 | l + 2 => l + 5) rfl ?_ ?_)
          all_goals simp only [evA, evB, evT, evD, seval, cl_free, cx_free, in_free, LB.ren, LB.lt, renAll, allLt, rn_sl, lt_sl, cx_ren, cx_lt, AV.ren, AV.lt]
        · have hd := hstay g
          refine hK _ (weak_of (fun l => match l with | 0 => 0 | 1 => 1 | l + 2 => l + 5) rfl ?_ ?_)
          all_goals simp only [evA, evB, evT, evD, seval, cl_free, cx_free, in_free, LB.ren, LB.lt, renAll, allLt, rn_sl, lt_sl, cx_ren, cx_lt, AV.ren, AV.lt, hd]
    · by_cases h20 : cs.length ≤ 20
      · have hm : m + 1 = cs.length := by omega
        have ht : cs.take 20 = cs := List.take_of_length_le h20
        have ht2 : cs.take (m + 1) = cs := by rw [hm, List.take_length]
        have hge : ¬ (((m + 1 : Nat) : Int) < (cs.length : Int)) := by omega
        simp only [evA, evB, evT, evD, seval, cl_free, cx_free, cl_len, in_free, hge, ht, ht2]
      · obtain rfl : m = 19 := by omega
        have hlt : (((19 + 1 : Nat) : Int) < (cs.length : Int)) := by omega
        have hlt2 : (20 : Int) < (cs.length : Int) := by omega
        obtain ⟨c, hc⟩ : ∃ c, cs[20]? = some c := ⟨_, List.getElem?_eq_getElem (by omega)⟩
        have hcg := cl_get hc
        simp only [evA, evB, evT, evD, seval, cl_free, cx_free, cl_len, in_free, hlt, hlt2, hcg, in_len]
theorem Errors.ok (xs : List Int) (hl : xs.length ≤ 1000000000) : Ok Tryz.prog 40 [.sl 1 (intRows xs), .sl 1 (intRows xs)] (.bool true) := by
  refine ok_of (X := fun _ => []) (Z := fun _ => false) (res := [ResultVar.tmp 4]) tok follows Tryz.func40 rfl rfl fine40 (by kernel_rfl) (by kernel_rfl) ?_
  simp only [evA, evT, evD, seval, in_len]
  refine l_inv (fun i => ⟨[(13, .int i), (12, .int xs.length), (0, .sl 1 (intRows xs)), (1, .sl 1 (intRows xs))], [], 0⟩) xs.length ?_ (fun i hi K hK => ?_) (fun K => ?_)
  · refine weak_of (fun l => l) rfl trivial ?_
    simp only [evA, evB, evT, evD, seval, in_free, Int.natCast_zero]
  · have h1 : (i : Int) < xs.length := by omega
    have h2 : (0 : Int) ≤ i := by omega
    have h3 : IntKind.i64.wrap ((i : Int) + 1) = i + 1 := wr (by omega)
    simp only [evA, evT, evD, seval, h1, h2, h3, in_len, Int.toNat_natCast, in_getDF hi]
    refine hK _ (weak_of (fun l => l) rfl trivial ?_)
    simp only [evA, evB, evT, evD, seval, in_free, Int.natCast_add, Int.natCast_one]
  · simp only [evA, evT, evD, seval]
end Go.Proofs.YtnnjjblgilibgaaGreatV

import Derived.Test.YtnnjjblgilibgaaGreatVtK
/- Contract: the whole transform by a plan. -/
namespace Go.Proofs.YtnnjjblgilibgaaGreatV
open Go Go.RowKit
set_option linter.unusedVariables false
set_option linter.unusedSimpArgs false
set_option maxRecDepth 100000
set_option maxHeartbeats 40000000
theorem fRun.bad (f l k s m e : Int) (i : Bool) (xs : List (Int × Int)) (he : e ≠ 0) (hR : Ok Tryz.prog 18 [.sl 2 (cxRows xs), plV f l k s m i] (.tup [blk0, .int e])) : Ok Tryz.prog 13 [.sl 2 (cxRows xs), plV f l k s m i] (.tup [blk0, .int e]) := by
  refine ok_of (X := fun _ => []) (Z := fun _ => false) (res := [ResultVar.cell 4 27, ResultVar.tmp 5]) tok follows Tryz.func13 rfl rfl fine13 (by kernel_rfl) (by kernel_rfl) ?_
  simp only [evA, evT, evD, seval, cx_free]
  refine call_ok hR rfl ?_
  simp only [evA, evT, evD, seval, he]
/-- What the whole comes to. -/
def rnB (f : Int) (log : Nat) (k s m : Int) (inv : Bool) (xs : List (Int × Int)) : Blk :=
  if k = 2 then ⟨splV (rdB f log k s m xs).xs f m inv log, (rdB f log k s m xs).e + log, Bool.false, []⟩ else psB f log s m inv (passL log k) (rdB f log k s m xs)
theorem split_of {f m : Int} (hf : fmt f) (hm : 0 ≤ m ∧ m ≤ 2) {log : Nat} (hl : 2 ≤ log ∧ log ≤ 6) {xs : List (Int × Int)} (hx : xs.length = 2 ^ log) (h : mants f xs) : Split (rdB f log 2 0 m xs).xs f m log := by
  have e : (rdB f log 2 0 m xs).xs = shL 1 m xs := rfl
  have hlen : (shL 1 m xs).length = 2 ^ log := by rw [List.length_map, hx]
  have hp := lens_pow hl
  refine ⟨hl, by rw [e, hlen], by rw [e, hlen]; exact hp.1, by rw [e, hlen]; exact hp.2, hf, hm, ?_⟩
  rw [e]
  intro y hy
  obtain ⟨x, hx, rfl⟩ := List.mem_map.1 hy
  have hmm := h x hx
  show win (halfM f) (rsh x.1 1 m) (rsh x.2 1 m)
  have a := half_rsh (m := m) hf hmm.1
  have b := half_rsh (m := m) hf hmm.2
  unfold win
  omega
theorem fRun.ok (f k s m : Int) (i : Bool) (log : Nat) (h : pOk f log k s m) (xs : List (Int × Int)) (hx : xs.length = 2 ^ log) (hn : mants f xs) : Ok Tryz.prog 13 [.sl 2 (cxRows xs), plV f log k s m i] (.tup [blkV (rnB f log k s m i xs), .int 0]) := by
  have hf := fmt_of h
  have hl : 2 ≤ log ∧ log ≤ 6 := by have := h.2.1; omega
  have hR := Ready.ok f k s m i log h xs hx hn
  have hm := h.2.2.2.2.1
  have hs := h.2.2.2.1
  have hi0 := rd_inv (k := k) (m := m) hf hs hl hx hn
  refine ok_of (X := fun _ => []) (Z := fun _ => false) (res := [ResultVar.cell 4 27, ResultVar.tmp 5]) tok follows Tryz.func13 rfl rfl fine13 (by kernel_rfl) (by kernel_rfl) ?_
  simp only [evA, evB, evT, evD, seval, cx_free]
  refine call_ok hR (by simp only [evA, evB, evT, evD, seval, cx_free, in_free]) ?_
  by_cases hk2 : k = 2
  · subst hk2
    obtain rfl := h.2.2.2.2.2 rfl
    have hS := Run.ok (rdB f log 2 0 m xs).xs f m i log (split_of hf hm hl hx hn)
    have he := hi0.e
    have hw : IntKind.i64.wrap ((rdB f log 2 0 m xs).e + (log : Int)) = (rdB f log 2 0 m xs).e + log := wr (by omega)
    simp only [evA, evB, evT, evD, seval, cx_free, in_free]
    refine call_ok hS (by simp only [evA, evB, evT, evD, seval, cx_free]) ?_
    simp only [evA, evB, evT, evD, seval, cx_free, in_free, hw]
    rfl
  · have hk : k = 0 ∨ k = 1 := by have := h.2.2.1; omega
    simp only [evA, evB, evT, evD, seval, cx_free, in_free, hk2]
    refine call_ok (Passes.ok f log k s m i h hk) (by simp only [evA, evB, evT, evD, seval, pRows_cx, cx_free]) ?_
    simp only [evA, evB, evT, evD, seval, cx_free, in_free, pRows_cx, cx_len]
    have hr : rnB f log k s m i xs = psB f log s m i (passL log k) (rdB f log k s m xs) := if_neg hk2
    refine call_ok (ready.ok f log k s m i h) ?_ ?_
    · rcases s3 hs with rfl | rfl | rfl
      all_goals simp only [evA, evB, evT, evD, seval, sc_0, sc_1, sc_2, cx_free]
    have hpl := passL_len (k := k) hl
    have hinv := ps_inv (k := k) (inv := i) hf hs hm hl hi0
    obtain ⟨B, hB⟩ : ∃ B : Nat → Blk, B = fun j => psB f log s m i ((passL log k).take j) (rdB f log k s m xs) := ⟨_, rfl⟩
    have hB0 : B 0 = rdB f log k s m xs := by rw [hB]; rfl
    have hBn : B (passL log k).length = psB f log s m i (passL log k) (rdB f log k s m xs) := by rw [hB]; dsimp only; rw [List.take_length]
    have hBs : ∀ j, j < (passL log k).length → nxB f log s m i (B j) ((passL log k).getD j (0, 0)) = B (j + 1) := fun j hj => by
      rw [hB]
      dsimp only
      rw [List.take_succ_eq_append_getElem hj, psB_snoc, getD_at hj]
    have hnext : ∀ j (hj : j < (passL log k).length), Ok Tryz.prog 43 [rV f log k s m i, blkV (B j), .agg [.int ((passL log k).getD j (0, 0)).1, .int ((passL log k).getD j (0, 0)).2]] (blkV (nxB f log s m i (B j) ((passL log k).getD j (0, 0)))) := fun j hj => by
      have hv := hinv j (by omega)
      have hBj : B j = psB f log s m i ((passL log k).take j) (rdB f log k s m xs) := by rw [hB]
      rw [← hBj] at hv
      have he := hv.e
      have hlen := hv.len
      refine next.ok f k s m i log h (B j) hlen (mants_near (good_mants hf (by omega) hv.gd)) (by omega) (by rw [hv.sh]; omega) _ ?_
      rw [getD_at hj, hlen]
      exact pass_of hl (List.getElem_mem hj)
    clear hinv
    clear hB
    rcases s3 hs with rfl | rfl | rfl
    · simp only [evA, evB, evT, evD, seval, sc_0, cx_free, in_free, pRows_cx, cx_len]
      refine l_inv (fun j => ⟨[(55, .int j), (54, .int (passL log k).length), (53, .sl 2 (cxRows (passL log k))), (10, .loc 3 0), (6, .loc 2 0), (4, .loc 1 0), (3, .loc 0 0)],
        [(3, some (.box [.int f, .int log, .int k, .int 0, .int m, .bool i, .iface 116 (.agg []), .int (fB f), .sl 2 (cxRows (tabV (log : Int).toNat (fB f - 2)))])),
         (2, some (.box [.sl 2 (cxRows (B j).xs), .int (B j).e, .bool (B j).sat, .sl 1 (intRows (B j).sh)])),
         (1, some (.box [.raw (.slice none 0 0), .int 0, .bool Bool.false, .raw (.slice none 0 0)])), (0, some (.box [.int f, .int log, .int k, .int 0, .int m, .bool i]))], 4⟩) (passL log k).length ?_ (fun j hj K hK => ?_) (fun K => ?_)
      · refine weak_of (fun l => l) rfl ?_ ?_
        all_goals simp only [evA, evB, evT, evD, seval, cx_free, in_free, hB0, Int.natCast_zero]
      · have q0 : (j : Int) < ((passL log k).length : Int) := by omega
        have q1 : IntKind.i64.wrap ((j : Int) + 1) = ((j + 1 : Nat) : Int) := by rw [wr (by omega)]; omega
        have q2 : (0 : Int) ≤ (j : Int) := by omega
        simp only [evA, evB, evT, evD, seval, q0, q2, cx_len, cx_free, in_free, Int.toNat_natCast, cx_getD hj, sc_0]
        refine call_ok (hnext j hj) (by simp only [evA, evB, evT, evD, seval, cx_free, in_free]) ?_
        simp only [evA, evB, evT, evD, seval, q1, cx_free, in_free]
        refine hK _ (weak_of (fun l => l) rfl ?_ ?_)
        all_goals simp only [evA, evB, evT, evD, seval, cx_free, in_free, hBs j hj, Int.toNat_natCast, sc_0]
      · simp only [evA, evB, evT, evD, seval, cx_free, in_free, hr, hBn]
    · simp only [evA, evB, evT, evD, seval, sc_1, cx_free, in_free, pRows_cx, cx_len]
      refine l_inv (fun j => ⟨[(55, .int j), (54, .int (passL log k).length), (53, .sl 2 (cxRows (passL log k))), (10, .loc 3 0), (6, .loc 2 0), (4, .loc 1 0), (3, .loc 0 0)],
        [(3, some (.box [.int f, .int log, .int k, .int 1, .int m, .bool i, .iface 118 (.agg [.int f]), .int (fB f), .sl 2 (cxRows (tabV (log : Int).toNat (fB f - 2)))])),
         (2, some (.box [.sl 2 (cxRows (B j).xs), .int (B j).e, .bool (B j).sat, .sl 1 (intRows (B j).sh)])),
         (1, some (.box [.raw (.slice none 0 0), .int 0, .bool Bool.false, .raw (.slice none 0 0)])), (0, some (.box [.int f, .int log, .int k, .int 1, .int m, .bool i]))], 4⟩) (passL log k).length ?_ (fun j hj K hK => ?_) (fun K => ?_)
      · refine weak_of (fun l => l) rfl ?_ ?_
        all_goals simp only [evA, evB, evT, evD, seval, cx_free, in_free, hB0, Int.natCast_zero]
      · have q0 : (j : Int) < ((passL log k).length : Int) := by omega
        have q1 : IntKind.i64.wrap ((j : Int) + 1) = ((j + 1 : Nat) : Int) := by rw [wr (by omega)]; omega
        have q2 : (0 : Int) ≤ (j : Int) := by omega
        simp only [evA, evB, evT, evD, seval, q0, q2, cx_len, cx_free, in_free, Int.toNat_natCast, cx_getD hj, sc_1]
        refine call_ok (hnext j hj) (by simp only [evA, evB, evT, evD, seval, cx_free, in_free]) ?_
        simp only [evA, evB, evT, evD, seval, q1, cx_free, in_free]
        refine hK _ (weak_of (fun l => l) rfl ?_ ?_)
        all_goals simp only [evA, evB, evT, evD, seval, cx_free, in_free, hBs j hj, Int.toNat_natCast, sc_1]
      · simp only [evA, evB, evT, evD, seval, cx_free, in_free, hr, hBn]
    · simp only [evA, evB, evT, evD, seval, sc_2, cx_free, in_free, pRows_cx, cx_len]
      refine l_inv (fun j => ⟨[(55, .int j), (54, .int (passL log k).length), (53, .sl 2 (cxRows (passL log k))), (10, .loc 3 0), (6, .loc 2 0), (4, .loc 1 0), (3, .loc 0 0)],
        [(3, some (.box [.int f, .int log, .int k, .int 2, .int m, .bool i, .iface 119 (.agg []), .int (fB f), .sl 2 (cxRows (tabV (log : Int).toNat (fB f - 2)))])),
         (2, some (.box [.sl 2 (cxRows (B j).xs), .int (B j).e, .bool (B j).sat, .sl 1 (intRows (B j).sh)])),
         (1, some (.box [.raw (.slice none 0 0), .int 0, .bool Bool.false, .raw (.slice none 0 0)])), (0, some (.box [.int f, .int log, .int k, .int 2, .int m, .bool i]))], 4⟩) (passL log k).length ?_ (fun j hj K hK => ?_) (fun K => ?_)
      · refine weak_of (fun l => l) rfl ?_ ?_
        all_goals simp only [evA, evB, evT, evD, seval, cx_free, in_free, hB0, Int.natCast_zero]
      · have q0 : (j : Int) < ((passL log k).length : Int) := by omega
        have q1 : IntKind.i64.wrap ((j : Int) + 1) = ((j + 1 : Nat) : Int) := by rw [wr (by omega)]; omega
        have q2 : (0 : Int) ≤ (j : Int) := by omega
        simp only [evA, evB, evT, evD, seval, q0, q2, cx_len, cx_free, in_free, Int.toNat_natCast, cx_getD hj, sc_2]
        refine call_ok (hnext j hj) (by simp only [evA, evB, evT, evD, seval, cx_free, in_free]) ?_
        simp only [evA, evB, evT, evD, seval, q1, cx_free, in_free]
        refine hK _ (weak_of (fun l => l) rfl ?_ ?_)
        all_goals simp only [evA, evB, evT, evD, seval, cx_free, in_free, hBs j hj, Int.toNat_natCast, sc_2]
      · simp only [evA, evB, evT, evD, seval, cx_free, in_free, hr, hBn]
end Go.Proofs.YtnnjjblgilibgaaGreatV

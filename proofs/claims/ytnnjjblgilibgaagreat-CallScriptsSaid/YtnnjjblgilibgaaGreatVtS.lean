import Derived.Test.YtnnjjblgilibgaaGreatVtR
/- Contracts: the document's whole transform by a plan; the law's own call. -/
namespace Go.Proofs.YtnnjjblgilibgaaGreatV
open Go Go.RowKit
set_option linter.unusedVariables false
set_option linter.unusedSimpArgs false
set_option maxRecDepth 100000
set_option maxHeartbeats 40000000
theorem Run15.ok (f k s m : Int) (i : Bool) (log : Nat) (h : pOk f log k s m) (xs : List (Int × Int)) (hx : xs.length = 2 ^ log) (hn : mants f xs) : Ok Tryz.prog 17 [.sl 2 (cxRows xs), plV f log k s m i] (blkV (rnB f log k s m i xs)) := by
  have hf := fmt_of h
  have hl : 2 ≤ log ∧ log ≤ 6 := by have := h.2.1; omega
  have hR := Ready15.ok f k s m i log h xs hx hn
  have hm := h.2.2.2.2.1
  have hs := h.2.2.2.1
  have hi0 := rd_inv (k := k) (m := m) hf hs hl hx hn
  have hinv := ps_inv (k := k) (inv := i) hf hs hm hl hi0
  have hpl := passL_len (k := k) hl
  refine ok_of (X := fun _ => []) (Z := fun _ => false) (res := [ResultVar.cell 4 27]) tok follows Tryz.func17 rfl rfl fine17 (by kernel_rfl) (by kernel_rfl) ?_
  simp only [evA, evB, evT, evD, seval, cx_free]
  refine call_ok hR (by simp only [evA, evB, evT, evD, seval, cx_free, in_free]) ?_
  by_cases hk2 : k = 2
  · subst hk2
    obtain rfl := h.2.2.2.2.2 rfl
    have hS := split_of hf hm hl hx hn
    have he := hi0.e
    have hBB := fB_or f
    have RSRun : ∀ ys : List (Int × Int), ys = (rdB f log 2 0 m xs).xs → Ok Tryz.prog 47 [.sl 2 (cxRows ys), .sl 2 (cxRows (tabV log (fB f - 2))), .int (fB f - 2), .int m, .bool i] (.sl 2 (cxRows (splV ys f m i log))) := fun ys e => by
      subst e
      exact rrun.ok log i (fB f - 2) m (r0S f) (by omega) hm hl (r0_nn f) (r0_le f) log (Nat.le_refl _) _ (by rw [(split_of hf hm hl hx hn).len]) (r0_x (split_of hf hm hl hx hn).hx)
    have hw : IntKind.i64.wrap ((rdB f log 2 0 m xs).e + (log : Int)) = (rdB f log 2 0 m xs).e + log := wr (by omega)
    simp only [evA, evB, evT, evD, seval, cx_free, in_free]
    refine call_ok (RTwid.ok log f hl hf) (by simp only [evA, evB, evT, evD, seval, cx_free]) ?_
    simp only [evA, evB, evT, evD, seval, cx_free, in_free]
    refine call_ok (RBits7.ok f hf) rfl ?_
    simp only [evA, evB, evT, evD, seval, cx_free, in_free]
    refine call_ok (RSRun _ rfl) (by simp only [evA, evB, evT, evD, seval, cx_free]) ?_
    simp only [evA, evB, evT, evD, seval, cx_free, in_free, hw]
    refine call_ok (Passes13.ok f log 2 0 m i h) (by simp only [evA, evB, evT, evD, seval, pRows_cx, cx_free]) ?_
    simp only [evA, evB, evT, evD, seval, cx_free, in_free, pRows_cx, cx_len]
    refine ⟨1, l_succ ?_⟩
    simp only [evA, evB, evT, evD, seval, cx_free, in_free, pRows_cx, cx_len, show ((passL log 2).length : Int) = 0 from rfl]
    first | done | rfl
  · simp only [evA, evB, evT, evD, seval, cx_free, in_free, hk2]
    refine call_ok (Passes13.ok f log k s m i h) (by simp only [evA, evB, evT, evD, seval, pRows_cx, cx_free]) ?_
    simp only [evA, evB, evT, evD, seval, cx_free, in_free, pRows_cx, cx_len]
    have hr : rnB f log k s m i xs = psB f log s m i (passL log k) (rdB f log k s m xs) := if_neg hk2
    obtain ⟨B, hB⟩ : ∃ B : Nat → Blk, B = fun j => psB f log s m i ((passL log k).take j) (rdB f log k s m xs) := ⟨_, rfl⟩
    have hB0 : B 0 = rdB f log k s m xs := by rw [hB]; rfl
    have hBn : B (passL log k).length = psB f log s m i (passL log k) (rdB f log k s m xs) := by rw [hB]; dsimp only; rw [List.take_length]
    have hBs : ∀ j, j < (passL log k).length → nxB f log s m i (B j) ((passL log k).getD j (0, 0)) = B (j + 1) := fun j hj => by
      rw [hB]
      dsimp only
      rw [List.take_succ_eq_append_getElem hj, psB_snoc, getD_at hj]
    have hnext : ∀ j (hj : j < (passL log k).length), Ok Tryz.prog 27 [blkV (B j), plV f log k s m i, .agg [.int ((passL log k).getD j (0, 0)).1, .int ((passL log k).getD j (0, 0)).2]] (blkV (nxB f log s m i (B j) ((passL log k).getD j (0, 0)))) := fun j hj => by
      have hv := hinv j (by omega)
      have hBj : B j = psB f log s m i ((passL log k).take j) (rdB f log k s m xs) := by rw [hB]
      rw [← hBj] at hv
      have he := hv.e
      have hlen := hv.len
      refine Next15.ok f k s m i log h (B j) hlen (mants_near (good_mants hf (by omega) hv.gd)) (by omega) (by rw [hv.sh]; omega) _ ?_
      rw [getD_at hj, hlen]
      exact pass_of hl (List.getElem_mem hj)
    clear hinv hB
    refine l_inv (fun j => ⟨[(39, .int j), (38, .int (passL log k).length), (37, .sl 2 (cxRows (passL log k))), (5, .loc 2 0), (4, .loc 1 0), (3, .loc 0 0)],
        [(2, some (.box [.sl 2 (cxRows (B j).xs), .int (B j).e, .bool (B j).sat, .sl 1 (intRows (B j).sh)])),
         (1, some (.box [.raw (.slice none 0 0), .int 0, .bool Bool.false, .raw (.slice none 0 0)])), (0, some (.box [.int f, .int log, .int k, .int s, .int m, .bool i]))], 3⟩) (passL log k).length ?_ (fun j hj K hK => ?_) (fun K => ?_)
    · refine weak_of (fun l => l) rfl ?_ ?_
      all_goals simp only [evA, evB, evT, evD, seval, cx_free, in_free, hB0, Int.natCast_zero]
    · have q0 : (j : Int) < ((passL log k).length : Int) := by omega
      have q1 : IntKind.i64.wrap ((j : Int) + 1) = ((j + 1 : Nat) : Int) := by rw [wr (by omega)]; omega
      have q2 : (0 : Int) ≤ (j : Int) := by omega
      simp only [evA, evB, evT, evD, seval, q0, q2, cx_len, cx_free, in_free, Int.toNat_natCast, cx_getD hj]
      refine call_ok (hnext j hj) (by simp only [evA, evB, evT, evD, seval, cx_free, in_free]) ?_
      simp only [evA, evB, evT, evD, seval, q1, cx_free, in_free]
      refine hK _ (weak_of (fun l => l) rfl ?_ ?_)
      all_goals simp only [evA, evB, evT, evD, seval, cx_free, in_free, hBs j hj]
    · simp only [evA, evB, evT, evD, seval, cx_free, in_free, hr, hBn]
end Go.Proofs.YtnnjjblgilibgaaGreatV

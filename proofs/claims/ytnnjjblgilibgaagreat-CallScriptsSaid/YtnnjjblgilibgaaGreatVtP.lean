import Derived.Test.YtnnjjblgilibgaaGreatVtO
/- Contracts: a pass and the whole by the document; two blocks the same. -/
namespace Go.Proofs.YtnnjjblgilibgaaGreatV
open Go Go.RowKit
set_option linter.unusedVariables false
set_option linter.unusedSimpArgs false
set_option maxRecDepth 100000
set_option maxHeartbeats 40000000
theorem diff_at (xs ys : List (Int × Int)) (hl : xs.length = ys.length) (h : ¬ xs = ys) : ∃ n, n < xs.length ∧ ¬ xs.getD n (0, 0) = ys.getD n (0, 0) ∧ ∀ i, i < n → xs.getD i (0, 0) = ys.getD i (0, 0) := by
  have hex : ∃ n, n < xs.length ∧ ¬ xs.getD n (0, 0) = ys.getD n (0, 0) := Classical.byContradiction fun hn => h (ext_at hl fun i hi => Classical.byContradiction fun g => hn ⟨i, hi, g⟩)
  have key : ∀ k, (∃ n, n < xs.length ∧ ¬ xs.getD n (0, 0) = ys.getD n (0, 0) ∧ ∀ i, i < n → xs.getD i (0, 0) = ys.getD i (0, 0)) ∨ ∀ i, i < k → i < xs.length → xs.getD i (0, 0) = ys.getD i (0, 0) := by
    intro k
    induction k with
    | zero => exact .inr fun i hi => by omega
    | succ k ih =>
      rcases ih with ih | ih
      · exact .inl ih
      · by_cases hk : k < xs.length ∧ ¬ xs.getD k (0, 0) = ys.getD k (0, 0)
        · exact .inl ⟨k, hk.1, hk.2, fun i hi => ih i hi (by omega)⟩
        · refine .inr fun i hi hil => ?_
          by_cases e : i = k
          · subst e
            exact Classical.byContradiction fun g => hk ⟨hil, g⟩
          · exact ih i (by omega) hil
  rcases key xs.length with g | g
  · exact g
  · obtain ⟨n, hn, hd⟩ := hex
    exact absurd (g n hn hn) hd
theorem Same3.len (xs ys : List (Int × Int)) (hl : ¬ xs.length = ys.length) : Ok Tryz.prog 36 [.sl 2 (cxRows xs), .sl 2 (cxRows ys)] (.bool false) := by
  have h1 : ¬ (xs.length : Int) = (ys.length : Int) := by omega
  refine ok_of (X := fun _ => []) (Z := fun _ => false) (res := [ResultVar.tmp 4]) tok follows Tryz.func36 rfl rfl fine36 (by kernel_rfl) (by kernel_rfl) ?_
  simp only [evA, evT, evD, seval, cx_len, h1]
theorem Same3.diff (xs ys : List (Int × Int)) (hl : xs.length ≤ 1000000000) (hx : xs.length = ys.length) (h : ¬ xs = ys) : Ok Tryz.prog 36 [.sl 2 (cxRows xs), .sl 2 (cxRows ys)] (.bool false) := by
  obtain ⟨n, hn, hd, hs⟩ := diff_at xs ys hx h
  have hx' : (xs.length : Int) = ys.length := by omega
  refine ok_of (X := fun _ => []) (Z := fun _ => false) (res := [ResultVar.tmp 4]) tok follows Tryz.func36 rfl rfl fine36 (by kernel_rfl) (by kernel_rfl) ?_
  simp only [evA, evT, evD, seval, cx_len, hx']
  refine l_inv (fun i => ⟨[(13, .int i), (12, .int ys.length), (0, .sl 2 (cxRows xs)), (1, .sl 2 (cxRows ys))], [], 0⟩) n ?_ (fun i hi K hK => ?_) (fun K => ?_)
  · refine weak_of (fun l => l) rfl trivial ?_
    simp only [evA, evB, evT, evD, seval, cx_free, Int.natCast_zero]
  · have hil : i < xs.length := by omega
    have hil' : i < ys.length := by omega
    have h1 : (i : Int) < ys.length := by omega
    have h2 : (0 : Int) ≤ i := by omega
    have h3 : IntKind.i64.wrap ((i : Int) + 1) = i + 1 := wr (by omega)
    simp only [evA, evT, evD, seval, h1, h2, h3, cx_len, Int.toNat_natCast, cx_getD hil, cx_getD hil', hs i hi, hx']
    refine hK _ (weak_of (fun l => l) rfl trivial ?_)
    simp only [evA, evB, evT, evD, seval, cx_free, Int.natCast_add, Int.natCast_one]
  · have hil : n < xs.length := by omega
    have hil' : n < ys.length := by omega
    have h1 : (n : Int) < ys.length := by omega
    have h2 : (0 : Int) ≤ n := by omega
    simp only [evA, evT, evD, seval, h1, h2, cx_len, Int.toNat_natCast, cx_getD hil, cx_getD hil', hx']
    intro e
    simp only [List.cons.injEq, and_true] at e
    exact absurd (Prod.ext e.1 e.2) hd
/-- Are two rows of numbers the same? -/
theorem Same3.ok (xs ys : List (Int × Int)) (hl : xs.length ≤ 1000000000) : Ok Tryz.prog 36 [.sl 2 (cxRows xs), .sl 2 (cxRows ys)] (.bool (decide (xs = ys))) := by
  by_cases h : xs = ys
  · subst h
    rw [decide_eq_true rfl]
    exact Same.ok xs hl
  · rw [decide_eq_false h]
    by_cases hx : xs.length = ys.length
    · exact Same3.diff xs ys hl hx h
    · exact Same3.len xs ys hx
theorem Same3.nil : Ok Tryz.prog 36 [.raw (.slice none 0 0), .raw (.slice none 0 0)] (.bool true) := by
  refine ok_of (X := fun _ => []) (Z := fun _ => false) (res := [ResultVar.tmp 4]) tok follows Tryz.func36 rfl rfl fine36 (by kernel_rfl) (by kernel_rfl) ?_
  simp only [evA, evT, evD, seval]
  refine ⟨1, l_succ ?_⟩
  simp only [evA, evT, evD, seval]
theorem Same4.ok (xs : List Int) (hl : xs.length ≤ 1000000000) : Ok Tryz.prog 46 [.sl 1 (intRows xs), .sl 1 (intRows xs)] (.bool true) := by
  refine ok_of (X := fun _ => []) (Z := fun _ => false) (res := [ResultVar.tmp 4]) tok follows Tryz.func46 rfl rfl fine46 (by kernel_rfl) (by kernel_rfl) ?_
  simp only [evA, evT, evD, seval, in_len]
  refine l_inv (fun i => ⟨[(13, .int i), (12, .int xs.length), (0, .sl 1 (intRows xs)), (1, .sl 1 (intRows xs))], [], 0⟩) xs.length ?_ (fun i hi K hK => ?_) (fun K => ?_)
  · refine weak_of (fun l => l) rfl trivial ?_
    simp only [evA, evB, evT, evD, seval, in_free, Int.natCast_zero]
  · have h1 : (i : Int) < xs.length := by omega
    have h2 : (0 : Int) ≤ i := by omega
    have h3 : IntKind.i64.wrap ((i : Int) + 1) = i + 1 := wr (by omega)
    simp only [evA, evT, evD, seval, h1, h2, h3, in_len, Int.toNat_natCast, in_getDF hi]
    refine hK _ (weak_of (fun l => l) rfl trivial ?_)
    simp only [evA, evB, evT, evD, seval, in_free, Int.natCast_add, Int.natCast_one]
  · simp only [evA, evT, evD, seval]
theorem Same4.nil : Ok Tryz.prog 46 [.raw (.slice none 0 0), .raw (.slice none 0 0)] (.bool true) := by
  refine ok_of (X := fun _ => []) (Z := fun _ => false) (res := [ResultVar.tmp 4]) tok follows Tryz.func46 rfl rfl fine46 (by kernel_rfl) (by kernel_rfl) ?_
  simp only [evA, evT, evD, seval]
  refine ⟨1, l_succ ?_⟩
  simp only [evA, evT, evD, seval]
theorem Same15.ok (b : Blk) (h1 : b.xs.length ≤ 1000000000) (h2 : b.sh.length ≤ 1000000000) : Ok Tryz.prog 16 [blkV b, blkV b] (.bool true) := by
  refine ok_of (X := fun _ => []) (Z := fun _ => false) (res := [ResultVar.tmp 4]) tok follows Tryz.func16 rfl rfl fine16 (by kernel_rfl) (by kernel_rfl) ?_
  simp only [evA, evT, evD, seval, cx_free, in_free]
  refine call_ok (Same.ok b.xs h1) rfl ?_
  simp only [evA, evT, evD, seval, cx_free, in_free, beq_self_eq_true]
  refine call_ok (Same4.ok b.sh h2) rfl ?_
  simp only [evA, evT, evD, seval, cx_free, in_free]
theorem Same15.nil : Ok Tryz.prog 16 [blk0, blk0] (.bool true) := by
  refine ok_of (X := fun _ => []) (Z := fun _ => false) (res := [ResultVar.tmp 4]) tok follows Tryz.func16 rfl rfl fine16 (by kernel_rfl) (by kernel_rfl) ?_
  simp only [evA, evT, evD, seval]
  refine call_ok Same3.nil rfl ?_
  simp only [evA, evT, evD, seval, beq_self_eq_true]
  refine call_ok Same4.nil rfl ?_
  simp only [evA, evT, evD, seval]
theorem shift15.ok (f l k s m : Int) (i : Bool) (kk : Int) (hkk : kk = 2 ∨ kk = 4) (hf : fmt f) (hs : 0 ≤ s ∧ s ≤ 2) (xs : List (Int × Int)) (hl : xs.length ≤ 1000000) (hx : nears (fM f) xs) : Ok Tryz.prog 63 [.sl 2 (cxRows xs), plV f l k s m i, .int kk] (.int (psV f s kk xs)) := by
  refine ok_of (X := fun _ => []) (Z := fun _ => false) (res := [ResultVar.tmp 6]) tok follows Tryz.func63 rfl rfl fine63 (by kernel_rfl) (by kernel_rfl) ?_
  rcases s3 hs with rfl | rfl | rfl
  · rcases hkk with rfl | rfl
    all_goals
      simp only [evA, evT, evD, seval, cx_free]
      rfl
  · simp only [evA, evT, evD, seval, cx_free]
    refine call_ok (RMax.ok xs hl (fM_31 hf hx)) rfl ?_
    simp only [evA, evT, evD, seval, cx_free]
    refine call_ok (RPre.ok kk _ f hkk hf) rfl ?_
    simp only [evA, evT, evD, seval, cx_free]
    rfl
  · simp only [evA, evT, evD, seval, cx_free]
    rfl
theorem Ready15.ok (f k s m : Int) (i : Bool) (log : Nat) (h : pOk f log k s m) (xs : List (Int × Int)) (hx : xs.length = 2 ^ log) (hn : mants f xs) : Ok Tryz.prog 19 [.sl 2 (cxRows xs), plV f log k s m i] (blkV (rdB f log k s m xs)) := by
  have hf := fmt_of h
  have hl : 2 ≤ log ∧ log ≤ 6 := by have := h.2.1; omega
  have hp := pow64F hl
  have hm := h.2.2.2.2.1
  have hs := h.2.2.2.1
  have hn' := mants_near hn
  have hll : xs.length ≤ 1000000 := by omega
  refine Ok.less (r := .agg [.sl 2 (cxRows (rdB f log k s m xs).xs), .int (rdB f log k s m xs).e, .bool Bool.false, .raw (.slice none 0 0)]) ?_ fun w φ N v hv => nil_agg hv
  refine ok_of (X := fun _ => []) (Z := fun _ => false) (res := [ResultVar.cell 4 27]) tok follows Tryz.func19 rfl rfl fine19 (by kernel_rfl) (by kernel_rfl) ?_
  by_cases hk2 : k = 2
  · subst hk2
    obtain rfl := h.2.2.2.2.2 rfl
    simp only [evA, evT, evD, seval, cx_free]
    refine call_ok (RShifted.ok xs 1 m (by decide) hm hll (fM_31 hf hn')) (by simp only [evA, evT, evD, seval, cx_free]) ?_
    simp only [evA, evT, evD, seval, cx_free]
    rfl
  · have e : plL k log xs = flipL log xs := if_neg hk2
    have hflip := flip_nears hl hx hn'
    have hb := fsV_bd f s (flipL log xs)
    have hgm := gm_flip hl hx (fM_31 hf hn')
    have hg := gm_f hf hn'
    unfold rdB
    rw [e]
    rcases s3 hs with rfl | rfl | rfl
    · simp only [evA, evT, evD, seval, cx_free, hk2]
      refine call_ok (RFlip.ok log xs hl hx) (by simp only [evA, evT, evD, seval, cx_free]) ?_
      simp only [evA, evT, evD, seval, cx_free]
      refine call_ok (RShifted.ok (flipL log xs) 1 m (by decide) hm (by rw [flipL_len]; omega) (fM_31 hf hflip)) (by simp only [evA, evT, evD, seval, cx_free]) ?_
      simp only [evA, evT, evD, seval, cx_free]
      rfl
    · have hfs : fsV f 1 (flipL log xs) = -rmV f (gm xs xs.length) := by
        show -rmV f (gm (flipL log xs) (flipL log xs).length) = _
        rw [hgm]
      rw [hfs] at hb ⊢
      have hw : IntKind.i64.wrap (0 - rmV f (gm xs xs.length)) = -rmV f (gm xs xs.length) := by rw [wr (by omega)]; omega
      simp only [evA, evT, evD, seval, cx_free, hk2]
      refine call_ok (RMax.ok xs hll (fM_31 hf hn')) rfl ?_
      simp only [evA, evT, evD, seval, cx_free, hk2]
      refine call_ok (RRoom.ok _ f hf hg) rfl ?_
      simp only [evA, evT, evD, seval, cx_free, hk2, hw]
      refine call_ok (RFlip.ok log xs hl hx) (by simp only [evA, evT, evD, seval, cx_free]) ?_
      simp only [evA, evT, evD, seval, cx_free]
      refine call_ok (RShifted.ok (flipL log xs) _ m hb hm (by rw [flipL_len]; omega) (fM_31 hf hflip)) (by simp only [evA, evT, evD, seval, cx_free]) ?_
      simp only [evA, evT, evD, seval, cx_free]
    · simp only [evA, evT, evD, seval, cx_free, hk2]
      refine call_ok (RFlip.ok log xs hl hx) (by simp only [evA, evT, evD, seval, cx_free]) ?_
      simp only [evA, evT, evD, seval, cx_free]
      refine call_ok (RShifted.ok (flipL log xs) 0 m (by decide) hm (by rw [flipL_len]; omega) (fM_31 hf hflip)) (by simp only [evA, evT, evD, seval, cx_free]) ?_
      simp only [evA, evT, evD, seval, cx_free]
      rfl
/-- Numbers clamped, by the document. -/
def clP (f : Int) (xs : List (Int × Int)) (i : Nat) : List (Int × Int) := (List.range i).map fun j => clp f (xs.getD j (0, 0))
theorem clP_len {f : Int} {xs : List (Int × Int)} {i : Nat} : (clP f xs i).length = i := by simp [clP]
theorem clP_succ {f : Int} {xs : List (Int × Int)} {i : Nat} : clP f xs i ++ [(cl f (xs.getD i (0, 0)).1, cl f (xs.getD i (0, 0)).2)] = clP f xs (i + 1) := by simp [clP, List.range_succ, clp]
theorem clP_all {f : Int} {xs : List (Int × Int)} : clP f xs xs.length = clL f xs := by
  refine ext_at (by simp [clP, clL]) fun i hi => ?_
  rw [clP_len] at hi
  unfold clP clL
  rw [List.getD_eq_getElem?_getD, List.getD_eq_getElem?_getD, List.getElem?_map, List.getElem?_map, List.getElem?_range hi, List.getElem?_eq_getElem hi]
  show clp f (xs.getD i (0, 0)) = clp f xs[i]
  rw [getD_at hi]
theorem Clamped15.ok (f : Int) (hf : fmt f) (xs : List (Int × Int)) (hl : xs.length ≤ 1000000) : Ok Tryz.prog 66 [.sl 2 (cxRows xs), .int f] (.sl 2 (cxRows (clL f xs))) := by
  refine ok_of (X := fun _ => []) (Z := fun _ => false) (res := [ResultVar.tmp 4]) tok follows Tryz.func66 rfl rfl fine66 (by kernel_rfl) (by kernel_rfl) ?_
  simp only [evA, evT, evD, seval, cx_len, cx_free]
  refine l_inv (fun i => ⟨[(11, .int i), (10, .int xs.length), (9, .sl 2 (cxRows xs)), (5, .own 0), (1, .int f)], [(0, some (.row 43 2 (cxRows (clP f xs i))))], 1⟩) xs.length ?_ (fun i hi K hK => ?_) (fun K => ?_)
  · refine weak_of (fun l => l) rfl ?_ ?_
    all_goals simp only [evA, evB, evT, evD, seval, cx_free, Int.natCast_zero, show cxRows (clP f xs 0) = [] from rfl]
  · have q0 : (i : Int) < (xs.length : Int) := by omega
    have q1 : IntKind.i64.wrap ((i : Int) + 1) = ((i + 1 : Nat) : Int) := by rw [wr (by omega)]; omega
    have q2 : (0 : Int) ≤ (i : Int) := by omega
    have hi1 : (i + 1) * 16 ≤ 140737488355328 := by omega
    have hi2 : i + 1 ≤ 9223372036854775807 := by omega
    have hsucc := @clP_succ f xs i
    simp only [evA, evB, evT, evD, seval, q0, q2, cx_len, Int.toNat_natCast, cx_getD hi]
    refine call_ok (RClamp2.ok _ f hf) rfl ?_
    simp only [evA, evB, evT, evD, seval, q0, q2, cx_len, Int.toNat_natCast, cx_getD hi]
    refine call_ok (RClamp2.ok _ f hf) rfl ?_
    simp only [evA, evB, evT, evD, seval, cx_len, clP_len, hi1, hi2, cx_push, hsucc, q1]
    refine hK _ (weak_of (fun l => l + 3) rfl ?_ ?_)
    all_goals simp only [evA, evB, evT, evD, seval, cx_free]
  · simp only [evA, evB, evT, evD, seval, cx_free, clP_all]
end Go.Proofs.YtnnjjblgilibgaaGreatV

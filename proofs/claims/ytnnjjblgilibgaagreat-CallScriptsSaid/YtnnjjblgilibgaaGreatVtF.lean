import Derived.Test.YtnnjjblgilibgaaGreatVtE
import Derived.Test.YtnnjjblgilibgaaGreatVtN
/- Contracts: the scales; a plan's first block; numbers clamped. -/
namespace Go.Proofs.YtnnjjblgilibgaaGreatV
open Go Go.RowKit
set_option linter.unusedVariables false
set_option linter.unusedSimpArgs false
set_option maxRecDepth 100000
set_option maxHeartbeats 40000000
theorem fine207 : Fine Tryz.prog 207 := fun _ _ => by kernel_rfl
theorem fine208 : Fine Tryz.prog 208 := fun _ _ => by kernel_rfl
theorem fine209 : Fine Tryz.prog 209 := fun _ _ => by kernel_rfl
theorem fine210 : Fine Tryz.prog 210 := fun _ _ => by kernel_rfl
theorem fine212 : Fine Tryz.prog 212 := fun _ _ => by kernel_rfl
theorem fine213 : Fine Tryz.prog 213 := fun _ _ => by kernel_rfl
theorem fine52 : Fine Tryz.prog 52 := fun _ _ => by kernel_rfl
theorem fine81 : Fine Tryz.prog 81 := fun _ _ => by kernel_rfl
theorem fM_31 {f : Int} (hf : fmt f) {xs : List (Int × Int)} (hx : nears (fM f) xs) : nears 2147483648 xs := fun x h => win_mono (hx x h) (fM_le hf).1
theorem gm_f {f : Int} (hf : fmt f) {xs : List (Int × Int)} (hx : nears (fM f) xs) : 0 ≤ gm xs xs.length ∧ gm xs xs.length ≤ fM f :=
  ⟨(gm_bd (fM_31 hf hx) _ (Nat.le_refl _)).1, gm_in (by have := fM_le hf; omega) hx _ (Nat.le_refl _)⟩
theorem hfirst.ok (xs : List (Int × Int)) : Ok Tryz.prog 207 [.agg [], .sl 2 (cxRows xs)] (.int 1) := by
  refine ok_of (X := fun _ => []) (Z := fun _ => false) (res := [ResultVar.tmp 4]) tok follows Tryz.func207 rfl rfl fine207 (by kernel_rfl) (by kernel_rfl) ?_
  simp only [evA, evT, evD, seval]
theorem hpass.ok (k : Int) (hk : k = 2 ∨ k = 4) (xs : List (Int × Int)) : Ok Tryz.prog 208 [.agg [], .int k, .sl 2 (cxRows xs)] (.int (k / 2)) := by
  refine ok_of (X := fun _ => []) (Z := fun _ => false) (res := [ResultVar.tmp 6]) tok follows Tryz.func208 rfl rfl fine208 (by kernel_rfl) (by kernel_rfl) ?_
  rcases hk with rfl | rfl
  all_goals
    simp only [evA, evT, evD, seval]
    first | done | rfl
theorem ffirst.ok (f : Int) (hf : fmt f) (xs : List (Int × Int)) (hl : xs.length ≤ 1000000) (hx : nears (fM f) xs) : Ok Tryz.prog 209 [.agg [.int f], .sl 2 (cxRows xs)] (.int (-rmV f (gm xs xs.length))) := by
  have hg := gm_f hf hx
  have hr : 0 ≤ rmV f (gm xs xs.length) ∧ rmV f (gm xs xs.length) ≤ 31 := by
    unfold rmV
    split
    · have := rN_le (gm xs xs.length) (hM f) 31; omega
    · omega
  have hw : IntKind.i64.wrap (0 - rmV f (gm xs xs.length)) = -rmV f (gm xs xs.length) := by rw [wr (by omega)]; omega
  refine ok_of (X := fun _ => []) (Z := fun _ => false) (res := [ResultVar.tmp 4]) tok follows Tryz.func209 rfl rfl fine209 (by kernel_rfl) (by kernel_rfl) ?_
  simp only [evA, evT, evD, seval, cx_free]
  refine call_ok (Max.ok xs hl (fM_31 hf hx)) (by simp only [evA, evT, evD, seval, cx_free]) ?_
  simp only [evA, evT, evD, seval]
  refine call_ok (Room.ok _ f hf hg) rfl ?_
  simp only [evA, evT, evD, seval, hw]
theorem fpass.ok (f k : Int) (hf : fmt f) (hk : k = 2 ∨ k = 4) (xs : List (Int × Int)) (hl : xs.length ≤ 1000000) (hx : nears (fM f) xs) : Ok Tryz.prog 210 [.agg [.int f], .int k, .sl 2 (cxRows xs)] (.int (preV k f (gm xs xs.length))) := by
  have hg := gm_f hf hx
  refine ok_of (X := fun _ => []) (Z := fun _ => false) (res := [ResultVar.tmp 6]) tok follows Tryz.func210 rfl rfl fine210 (by kernel_rfl) (by kernel_rfl) ?_
  simp only [evA, evT, evD, seval, cx_free]
  refine call_ok (Max.ok xs hl (fM_31 hf hx)) (by simp only [evA, evT, evD, seval, cx_free]) ?_
  simp only [evA, evT, evD, seval]
  refine call_ok (Pre.ok k _ f hk hf hg) rfl ?_
  simp only [evA, evT, evD, seval]
theorem bfirst.ok (xs : List (Int × Int)) : Ok Tryz.prog 212 [.agg [], .sl 2 (cxRows xs)] (.int 0) := by
  refine ok_of (X := fun _ => []) (Z := fun _ => false) (res := [ResultVar.tmp 4]) tok follows Tryz.func212 rfl rfl fine212 (by kernel_rfl) (by kernel_rfl) ?_
  simp only [evA, evT, evD, seval]
theorem bpass.ok (k : Int) (xs : List (Int × Int)) : Ok Tryz.prog 213 [.agg [], .int k, .sl 2 (cxRows xs)] (.int 0) := by
  refine ok_of (X := fun _ => []) (Z := fun _ => false) (res := [ResultVar.tmp 6]) tok follows Tryz.func213 rfl rfl fine213 (by kernel_rfl) (by kernel_rfl) ?_
  simp only [evA, evT, evD, seval]
/-- How far numbers are shifted at first. -/
def fsV (f s : Int) (xs : List (Int × Int)) : Int := if s = 0 then 1 else if s = 1 then -rmV f (gm xs xs.length) else 0
/-- How far by a pass. -/
def psV (f s k : Int) (xs : List (Int × Int)) : Int := if s = 0 then k / 2 else if s = 1 then preV k f (gm xs xs.length) else 0
theorem fsV_bd (f s : Int) (xs : List (Int × Int)) : -31 ≤ fsV f s xs ∧ fsV f s xs ≤ 31 := by
  unfold fsV rmV
  have := rN_le (gm xs xs.length) (hM f) 31
  repeat' split
  all_goals omega
theorem psV_bd (f s k : Int) (hk : k = 2 ∨ k = 4) (xs : List (Int × Int)) : 0 ≤ psV f s k xs ∧ psV f s k xs ≤ 3 := by
  unfold psV preV
  repeat' split
  all_goals omega
/-- What a plan's numbers are put to at first. -/
def plL (k : Int) (log : Nat) (xs : List (Int × Int)) : List (Int × Int) := if k = 2 then xs else flipL log xs
theorem flip_flip : ((List.range 5).all fun l => (List.range (2 ^ (l + 2))).all fun i => flipV (l + 2) (flipV (l + 2) i) == i) = true := by decide +kernel
theorem flip2 {log i : Nat} (hl : 2 ≤ log ∧ log ≤ 6) (hi : i < 2 ^ log) : flipV log (flipV log i) = i := by
  have h := flip_flip
  rw [List.all_eq_true] at h
  have h1 := h (log - 2) (List.mem_range.2 (by omega))
  rw [List.all_eq_true] at h1
  rw [show log - 2 + 2 = log by omega] at h1
  simpa using h1 i (List.mem_range.2 hi)
theorem flipL_len {log : Nat} {xs : List (Int × Int)} : (flipL log xs).length = 2 ^ log := flipP_len
theorem flipL_at {log : Nat} {xs : List (Int × Int)} {i : Nat} (hi : i < 2 ^ log) : (flipL log xs).getD i (0, 0) = xs.getD (flipV log i) (0, 0) := by
  unfold flipL flipP
  rw [List.getD_eq_getElem?_getD, List.getElem?_map, List.getElem?_range hi]
  rfl
theorem nears_at {M : Int} {xs : List (Int × Int)} (h : ∀ i, i < xs.length → win M (xs.getD i (0, 0)).1 (xs.getD i (0, 0)).2) : nears M xs := by
  intro x hx
  obtain ⟨i, hi, rfl⟩ := List.getElem_of_mem hx
  have := h i hi
  rwa [getD_at hi] at this
theorem flip_nears {log : Nat} (hl : 2 ≤ log ∧ log ≤ 6) {xs : List (Int × Int)} (hx : xs.length = 2 ^ log) {M : Int} (h : nears M xs) : nears M (flipL log xs) := by
  refine nears_at fun i hi => ?_
  rw [flipL_len] at hi
  rw [flipL_at hi]
  exact near_at h (by rw [hx]; exact (flip_at hl hi).2.2)
theorem flip_back {log : Nat} (hl : 2 ≤ log ∧ log ≤ 6) {xs : List (Int × Int)} (hx : xs.length = 2 ^ log) {M : Int} (h : nears M (flipL log xs)) : nears M xs := by
  refine nears_at fun i hi => ?_
  rw [hx] at hi
  have h1 := (flip_at hl hi).2.2
  have h2 := near_at h (show flipV log i < (flipL log xs).length by rw [flipL_len]; exact h1)
  rw [flipL_at h1, flip2 hl hi] at h2
  exact h2
theorem nears_gm {xs : List (Int × Int)} : nears (gm xs xs.length) xs := nears_at fun i hi => gm_le _ _ hi
theorem gm_nn {xs : List (Int × Int)} (hx : nears 2147483648 xs) : 0 ≤ gm xs xs.length := (gm_bd hx _ (Nat.le_refl _)).1
theorem gm_flip {log : Nat} (hl : 2 ≤ log ∧ log ≤ 6) {xs : List (Int × Int)} (hx : xs.length = 2 ^ log) (h : nears 2147483648 xs) : gm (flipL log xs) (flipL log xs).length = gm xs xs.length := by
  have h1 := gm_in (gm_nn h) (flip_nears hl hx nears_gm) _ (Nat.le_refl _)
  have h2 := gm_in (gm_nn (flip_nears hl hx h)) (flip_back hl hx nears_gm) _ (Nat.le_refl _)
  omega
theorem first.ok (f k s m : Int) (i : Bool) (log : Nat) (h : pOk f log k s m) (xs : List (Int × Int)) (hx : xs.length = 2 ^ log) (hn : nears (fM f) xs) :
    Ok Tryz.prog 52 [rV f log k s m i, .sl 2 (cxRows xs)] (.agg [.sl 2 (cxRows (shL (fsV f s (plL k log xs)) m (plL k log xs))), .int (fsV f s (plL k log xs)), .bool Bool.false, .raw (.slice none 0 0)]) := by
  obtain ⟨hf, hl, hk, hs, hm, hks⟩ := h
  have hf' : fmt f := by unfold fmt; omega
  have hl' : 2 ≤ log ∧ log ≤ 6 := by omega
  have hp := pow64F hl'
  refine ok_of (X := fun _ => []) (Z := fun _ => false) (res := [ResultVar.cell 4 27]) tok follows Tryz.func52 rfl rfl fine52 (by kernel_rfl) (by kernel_rfl) ?_
  simp only [evA, evT, evD, seval, cx_free]
  by_cases hk2 : k = 2
  · have e : plL k log xs = xs := if_pos hk2
    rw [e]
    obtain rfl := hks hk2
    have hb := fsV_bd f 0 xs
    simp only [evA, evT, evD, seval, hk2, sc_0, cx_free]
    refine call_ok (hfirst.ok xs) (by simp only [evA, evT, evD, seval, cx_free]) ?_
    simp only [evA, evT, evD, seval, cx_free]
    refine call_ok (Shifted.ok xs 1 m (by omega) hm (by omega) (fM_31 hf' hn)) (by simp only [evA, evT, evD, seval, cx_free]) ?_
    simp only [evA, evT, evD, seval, cx_free]
    rfl
  · have e : plL k log xs = flipL log xs := if_neg hk2
    rw [e]
    have hn2 := flip_nears hl' hx hn
    have hlen := flipL_len (log := log) (xs := xs)
    have hb := fsV_bd f s (flipL log xs)
    rcases (show s = 0 ∨ s = 1 ∨ s = 2 by omega) with rfl | rfl | rfl
    · simp only [evA, evT, evD, seval, hk2, sc_0, cx_free]
      refine call_ok (Flip.ok log xs hl' hx) (by simp only [evA, evT, evD, seval, cx_free]) ?_
      simp only [evA, evT, evD, seval, cx_free, sc_0]
      refine call_ok (hfirst.ok _) (by simp only [evA, evT, evD, seval, cx_free]) ?_
      simp only [evA, evT, evD, seval, cx_free]
      refine call_ok (Shifted.ok _ 1 m (by omega) hm (by omega) (fM_31 hf' hn2)) (by simp only [evA, evT, evD, seval, cx_free]) ?_
      simp only [evA, evT, evD, seval, cx_free]
      rfl
    · simp only [evA, evT, evD, seval, hk2, sc_1, cx_free]
      refine call_ok (Flip.ok log xs hl' hx) (by simp only [evA, evT, evD, seval, cx_free]) ?_
      simp only [evA, evT, evD, seval, cx_free, sc_1]
      refine call_ok (ffirst.ok f hf' _ (by omega) hn2) (by simp only [evA, evT, evD, seval, cx_free]) ?_
      simp only [evA, evT, evD, seval, cx_free]
      refine call_ok (Shifted.ok _ (-rmV f (gm (flipL log xs) (flipL log xs).length)) m hb hm (by omega) (fM_31 hf' hn2)) (by simp only [evA, evT, evD, seval, cx_free]) ?_
      simp only [evA, evT, evD, seval, cx_free]
      rfl
    · simp only [evA, evT, evD, seval, hk2, sc_2, cx_free]
      refine call_ok (Flip.ok log xs hl' hx) (by simp only [evA, evT, evD, seval, cx_free]) ?_
      simp only [evA, evT, evD, seval, cx_free, sc_2]
      refine call_ok (bfirst.ok _) (by simp only [evA, evT, evD, seval, cx_free]) ?_
      simp only [evA, evT, evD, seval, cx_free]
      refine call_ok (Shifted.ok _ 0 m (by omega) hm (by omega) (fM_31 hf' hn2)) (by simp only [evA, evT, evD, seval, cx_free]) ?_
      simp only [evA, evT, evD, seval, cx_free]
      rfl
end Go.Proofs.YtnnjjblgilibgaaGreatV

import Derived.Test.YtnnjjblgilibgaaGreatVgC
/- Contracts: the greatest part of numbers, by the code and by the document. -/
namespace Go.Proofs.YtnnjjblgilibgaaGreatV
open Go Go.RowKit
set_option linter.unusedVariables false
set_option linter.unusedSimpArgs false
set_option maxRecDepth 100000
set_option maxHeartbeats 40000000
theorem fine57 : Fine Tryz.prog 57 := fun _ _ => by kernel_rfl
theorem fine20 : Fine Tryz.prog 20 := fun _ _ => by kernel_rfl
theorem fine93 : Fine Tryz.prog 93 := fun _ _ => by kernel_rfl
theorem fine55 : Fine Tryz.prog 55 := fun _ _ => by kernel_rfl
def mx3 (m a b : Int) : Int := max m (max (max a (-a)) (max b (-b)))
theorem greatest.ok (m a b : Int) (hm : 0 ≤ m ∧ m ≤ 2147483648) (h : win 2147483648 a b) : Ok Tryz.prog 57 [.sl 1 [[.int m], [.int a], [.int b]]] (.int (mx3 m a b)) := by
  unfold win at h
  have e1 : IntKind.i64.wrap (0 - m) = 0 - m := wr (by omega)
  have e2 : IntKind.i64.wrap (0 - a) = 0 - a := wr (by omega)
  have e3 : IntKind.i64.wrap (0 - b) = 0 - b := wr (by omega)
  refine ok_of (X := fun _ => []) (Z := fun _ => false) (res := [ResultVar.tmp 2]) tok follows Tryz.func57 rfl rfl fine57 (by kernel_rfl) (by kernel_rfl) ?_
  simp only [evA, evT, evD, seval]
  refine ⟨4, l_succ ?_⟩
  iterate 3
    simp only [evA, evT, evD, seval, e1, e2, e3]
    refine l_succ ?_
  simp only [evA, evT, evD, seval, av_int, mx3]
  repeat' split
  all_goals omega
/-- The greatest part of the first i numbers. -/
def gm (xs : List (Int × Int)) : Nat → Int
  | 0 => 0
  | i + 1 => mx3 (gm xs i) (xs.getD i (0, 0)).1 (xs.getD i (0, 0)).2
theorem gm_bd {xs : List (Int × Int)} (hx : nears 2147483648 xs) : ∀ i, i ≤ xs.length → 0 ≤ gm xs i ∧ gm xs i ≤ 2147483648
  | 0, _ => by simp [gm]
  | i + 1, hi => by
    have := gm_bd hx i (by omega)
    have h := near_get hx (i := i) (by omega)
    unfold win at h
    show 0 ≤ mx3 _ _ _ ∧ mx3 _ _ _ ≤ _
    unfold mx3
    omega
theorem gm_le {xs : List (Int × Int)} : ∀ n i, i < n → win (gm xs n) (xs.getD i (0, 0)).1 (xs.getD i (0, 0)).2
  | n + 1, i, hi => by
    show win (mx3 _ _ _) _ _
    rcases Nat.lt_or_ge i n with h | h
    · have := gm_le (xs := xs) n i h
      unfold win mx3 at *
      omega
    · obtain rfl : i = n := by omega
      unfold win mx3
      omega
theorem Max.ok (xs : List (Int × Int)) (hl : xs.length ≤ 1000000) (hx : nears 2147483648 xs) : Ok Tryz.prog 20 [.sl 2 (cxRows xs)] (.tup [.int (gm xs xs.length), .int 0]) := by
  refine ok_of (X := fun _ => []) (Z := fun _ => false) (res := [ResultVar.tmp 2, ResultVar.tmp 3]) tok follows Tryz.func20 rfl rfl fine20 (by kernel_rfl) (by kernel_rfl) ?_
  simp only [evA, evT, evD, seval, cx_len]
  refine l_inv (fun i => ⟨[(9, .int i), (8, .int xs.length), (7, .sl 2 (cxRows xs)), (4, .int (gm xs i))], [], 0⟩) xs.length ?_ (fun i hi K hK => ?_) (fun K => ?_)
  · refine weak_of (fun l => l) rfl trivial ?_
    simp only [evA, evB, evT, evD, seval, cx_free, Int.natCast_zero, gm]
  · have h1 : (i : Int) < xs.length := by omega
    have h2 : (0 : Int) ≤ i := by omega
    have h3 : IntKind.i64.wrap ((i : Int) + 1) = ((i + 1 : Nat) : Int) := by rw [wr (by omega)]; omega
    have hw := near_get hx hi
    have hg := gm_bd hx i (by omega)
    have hw' := hw
    unfold win at hw'
    have g1 : ¬ (if (xs.getD i (0, 0)).2 < (xs.getD i (0, 0)).1 then (xs.getD i (0, 0)).2 else (xs.getD i (0, 0)).1) < -2147483648 := by split <;> omega
    have g2 : ¬ 2147483648 < (if (xs.getD i (0, 0)).1 < (xs.getD i (0, 0)).2 then (xs.getD i (0, 0)).2 else (xs.getD i (0, 0)).1) := by split <;> omega
    simp only [evA, evT, evD, seval, h1, h2, h3, cx_len, Int.toNat_natCast, cx_getD hi, g1, g2]
    refine call_ok (greatest.ok _ _ _ hg hw) rfl ?_
    simp only [evA, evT, evD, seval, h3]
    refine hK _ (weak_of (fun l => l) rfl trivial ?_)
    simp only [evA, evB, evT, evD, seval, cx_free, gm]
  · simp only [evA, evT, evD, seval]
theorem Max.bad (xs : List (Int × Int)) (hl : xs.length ≤ 1000000) (hx : ¬ nears 2147483648 xs) : Ok Tryz.prog 20 [.sl 2 (cxRows xs)] (.tup [.int 0, .int 2]) := by
  obtain ⟨m, hm, hbad, hok⟩ := first_not (p := fun x => win 2147483648 x.1 x.2) xs hx
  have hgm : ∀ i, i ≤ m → 0 ≤ gm xs i ∧ gm xs i ≤ 2147483648 := by
    intro i
    induction i with
    | zero => intro _; simp [gm]
    | succ i ih =>
      intro hi
      have h1 := ih (by omega)
      have h2 := hok i (by omega) (by omega)
      rw [← getD_at (d := ((0 : Int), (0 : Int))) (by omega)] at h2
      unfold win at h2
      show 0 ≤ mx3 _ _ _ ∧ mx3 _ _ _ ≤ _
      unfold mx3
      omega
  refine ok_of (X := fun _ => []) (Z := fun _ => false) (res := [ResultVar.tmp 2, ResultVar.tmp 3]) tok follows Tryz.func20 rfl rfl fine20 (by kernel_rfl) (by kernel_rfl) ?_
  simp only [evA, evT, evD, seval, cx_len]
  refine l_inv (fun i => ⟨[(9, .int i), (8, .int xs.length), (7, .sl 2 (cxRows xs)), (4, .int (gm xs i))], [], 0⟩) m ?_ (fun i hi K hK => ?_) (fun K => ?_)
  · refine weak_of (fun l => l) rfl trivial ?_
    simp only [evA, evB, evT, evD, seval, cx_free, Int.natCast_zero, gm]
  · have hil : i < xs.length := by omega
    have h1 : (i : Int) < xs.length := by omega
    have h2 : (0 : Int) ≤ i := by omega
    have h3 : IntKind.i64.wrap ((i : Int) + 1) = ((i + 1 : Nat) : Int) := by rw [wr (by omega)]; omega
    have hw := hok i hil hi
    rw [← getD_at (d := ((0 : Int), (0 : Int))) hil] at hw
    have hg := hgm i (by omega)
    have hw' := hw
    unfold win at hw'
    have g1 : ¬ (if (xs.getD i (0, 0)).2 < (xs.getD i (0, 0)).1 then (xs.getD i (0, 0)).2 else (xs.getD i (0, 0)).1) < -2147483648 := by split <;> omega
    have g2 : ¬ 2147483648 < (if (xs.getD i (0, 0)).1 < (xs.getD i (0, 0)).2 then (xs.getD i (0, 0)).2 else (xs.getD i (0, 0)).1) := by split <;> omega
    simp only [evA, evT, evD, seval, h1, h2, h3, cx_len, Int.toNat_natCast, cx_getD hil, g1, g2]
    refine call_ok (greatest.ok _ _ _ hg hw) rfl ?_
    simp only [evA, evT, evD, seval, h3]
    refine hK _ (weak_of (fun l => l) rfl trivial ?_)
    simp only [evA, evB, evT, evD, seval, cx_free, gm]
  · have h1 : (m : Int) < xs.length := by omega
    have h2 : (0 : Int) ≤ m := by omega
    rw [← getD_at (d := ((0 : Int), (0 : Int))) hm] at hbad
    unfold win at hbad
    by_cases g1 : (if (xs.getD m (0, 0)).2 < (xs.getD m (0, 0)).1 then (xs.getD m (0, 0)).2 else (xs.getD m (0, 0)).1) < -2147483648
    · simp only [evA, evT, evD, seval, h1, h2, cx_len, Int.toNat_natCast, cx_getD hm, g1]
    · have g2 : 2147483648 < (if (xs.getD m (0, 0)).1 < (xs.getD m (0, 0)).2 then (xs.getD m (0, 0)).2 else (xs.getD m (0, 0)).1) := by
        split at g1 <;> split <;> omega
      simp only [evA, evT, evD, seval, h1, h2, cx_len, Int.toNat_natCast, cx_getD hm, g1, g2]
theorem plain.ok (x : Int) (hx : -2147483648 ≤ x ∧ x ≤ 2147483648) : Ok Tryz.prog 93 [.int x] (.int (max x (-x))) := by
  refine ok_of (X := fun _ => []) (Z := fun _ => false) (res := [ResultVar.tmp 2]) tok follows Tryz.func93 rfl rfl fine93 (by kernel_rfl) (by kernel_rfl) ?_
  by_cases h : x < 0
  · have e : IntKind.i64.wrap (0 - x) = max x (-x) := by rw [wr (by omega)]; omega
    simp only [evA, evT, evD, seval, h, e]
  · have e : max x (-x) = x := by omega
    simp only [evA, evT, evD, seval, h, e]
theorem RMax.ok (xs : List (Int × Int)) (hl : xs.length ≤ 1000000) (hx : nears 2147483648 xs) : Ok Tryz.prog 55 [.sl 2 (cxRows xs)] (.int (gm xs xs.length)) := by
  refine ok_of (X := fun _ => []) (Z := fun _ => false) (res := [ResultVar.tmp 2]) tok follows Tryz.func55 rfl rfl fine55 (by kernel_rfl) (by kernel_rfl) ?_
  simp only [evA, evT, evD, seval, cx_len]
  refine l_inv (fun i => ⟨[(8, .int i), (7, .int xs.length), (6, .sl 2 (cxRows xs)), (3, .int (gm xs i))], [], 0⟩) xs.length ?_ (fun i hi K hK => ?_) (fun K => ?_)
  · refine weak_of (fun l => l) rfl trivial ?_
    simp only [evA, evB, evT, evD, seval, cx_free, Int.natCast_zero, gm]
  · have h1 : (i : Int) < xs.length := by omega
    have h2 : (0 : Int) ≤ i := by omega
    have h3 : IntKind.i64.wrap ((i : Int) + 1) = ((i + 1 : Nat) : Int) := by rw [wr (by omega)]; omega
    have hw := near_get hx hi
    have hg := gm_bd hx i (by omega)
    have e : gm xs (i + 1) = mx3 (gm xs i) (xs.getD i (0, 0)).1 (xs.getD i (0, 0)).2 := rfl
    unfold win at hw
    generalize gm xs (i + 1) = g1 at *
    generalize gm xs i = g at *
    have hp1 := plain.ok (xs.getD i (0, 0)).1 (by omega)
    have hp2 := plain.ok (xs.getD i (0, 0)).2 (by omega)
    generalize hA : (xs.getD i (0, 0)).1 = a at *
    generalize hB : (xs.getD i (0, 0)).2 = b at *
    unfold mx3 at e
    simp only [evA, evT, evD, seval, h1, h2, h3, cx_len, Int.toNat_natCast, cx_getD hi, hA, hB]
    refine call_ok hp1 rfl ?_
    by_cases c1 : g < max a (-a)
    · simp only [evA, evT, evD, seval, c1, hA, hB]
      refine call_ok hp1 rfl ?_
      simp only [evA, evT, evD, seval, hA, hB]
      refine call_ok hp2 rfl ?_
      by_cases c2 : max a (-a) < max b (-b)
      · obtain rfl : g1 = max b (-b) := by omega
        simp only [evA, evT, evD, seval, c2, hA, hB]
        refine call_ok hp2 rfl ?_
        simp only [evA, evT, evD, seval, h3]
        refine hK _ (weak_of (fun l => l) rfl trivial ?_)
        simp only [evA, evB, evT, evD, seval, cx_free]
      · obtain rfl : g1 = max a (-a) := by omega
        simp only [evA, evT, evD, seval, c2, h3]
        refine hK _ (weak_of (fun l => l) rfl trivial ?_)
        simp only [evA, evB, evT, evD, seval, cx_free]
    · simp only [evA, evT, evD, seval, c1, hA, hB]
      refine call_ok hp2 rfl ?_
      by_cases c2 : g < max b (-b)
      · obtain rfl : g1 = max b (-b) := by omega
        simp only [evA, evT, evD, seval, c2, hA, hB]
        refine call_ok hp2 rfl ?_
        simp only [evA, evT, evD, seval, h3]
        refine hK _ (weak_of (fun l => l) rfl trivial ?_)
        simp only [evA, evB, evT, evD, seval, cx_free]
      · obtain rfl : g1 = g := by omega
        simp only [evA, evT, evD, seval, c2, h3]
        refine hK _ (weak_of (fun l => l) rfl trivial ?_)
        simp only [evA, evB, evT, evD, seval, cx_free]
  · simp only [evA, evT, evD, seval]
end Go.Proofs.YtnnjjblgilibgaaGreatV

import Derived.Test.YtnnjjblgilibgaaGreatVtL
/- Contracts: a plan's transform by the document. -/
namespace Go.Proofs.YtnnjjblgilibgaaGreatV
open Go Go.RowKit
set_option linter.unusedVariables false
set_option linter.unusedSimpArgs false
set_option maxRecDepth 100000
set_option maxHeartbeats 40000000
theorem fine63 : Fine Tryz.prog 63 := fun _ _ => by kernel_rfl
theorem fine66 : Fine Tryz.prog 66 := fun _ _ => by kernel_rfl
theorem fine27 : Fine Tryz.prog 27 := fun _ _ => by kernel_rfl
theorem fine17 : Fine Tryz.prog 17 := fun _ _ => by kernel_rfl
theorem fine16 : Fine Tryz.prog 16 := fun _ _ => by kernel_rfl
theorem fine46 : Fine Tryz.prog 46 := fun _ _ => by kernel_rfl
theorem Parts.core (xs : List (Int × Int)) (a b : Int) (hl : xs.length ≤ 1000000000) (n : Nat) (hn : n ≤ xs.length) (hno : ∀ i, i < xs.length → i < n → inB a b (xs.getD i (0, 0))) (r : Bool) (hr : (n = xs.length ∧ r = true) ∨ n < xs.length ∧ ¬ inB a b (xs.getD n (0, 0)) ∧ r = false) :
    Ok Tryz.prog 45 [.sl 2 (cxRows xs), .int a, .int b] (.bool r) := by
  refine ok_of (X := fun _ => []) (Z := fun _ => false) (res := [ResultVar.tmp 6]) tok follows Tryz.func45 rfl rfl fine45 (by kernel_rfl) (by kernel_rfl) ?_
  simp only [evA, evT, evD, seval, cx_len, cx_free]
  refine l_inv (fun i => ⟨[(11, .int i), (10, .int xs.length), (9, .sl 2 (cxRows xs)), (1, .int a), (2, .int b)], [], 0⟩) n ?_ (fun i hi K hK => ?_) (fun K => ?_)
  · refine weak_of (fun l => l) rfl trivial ?_
    simp only [evA, evB, evT, evD, seval, cx_free, Int.natCast_zero]
  · have hil : i < xs.length := by omega
    have h1 : (i : Int) < xs.length := by omega
    have h2 : (0 : Int) ≤ i := by omega
    have h3 : IntKind.i64.wrap ((i : Int) + 1) = i + 1 := wr (by omega)
    have hi' := hno i hil hi
    unfold inB at hi'
    have c1 : ¬ (xs.getD i (0, 0)).1 < a := by omega
    have c2 : ¬ b < (xs.getD i (0, 0)).1 := by omega
    have c3 : ¬ (xs.getD i (0, 0)).2 < a := by omega
    have c4 : ¬ b < (xs.getD i (0, 0)).2 := by omega
    simp only [evA, evT, evD, seval, h1, h2, h3, cx_len, Int.toNat_natCast, cx_getD hil, c1, c2, c3, c4]
    refine hK _ (weak_of (fun l => l) rfl trivial ?_)
    simp only [evA, evB, evT, evD, seval, cx_free, Int.natCast_add, Int.natCast_one]
  · rcases hr with ⟨hr, rfl⟩ | ⟨hil, hp, rfl⟩
    · simp only [evA, evT, evD, seval, hr]
    · have h1 : (n : Int) < xs.length := by omega
      have h2 : (0 : Int) ≤ n := by omega
      unfold inB at hp
      by_cases c1 : (xs.getD n (0, 0)).1 < a
      · simp only [evA, evT, evD, seval, h1, h2, cx_len, Int.toNat_natCast, cx_getD hil, c1]
      by_cases c2 : b < (xs.getD n (0, 0)).1
      · simp only [evA, evT, evD, seval, h1, h2, cx_len, Int.toNat_natCast, cx_getD hil, c1, c2]
      by_cases c3 : (xs.getD n (0, 0)).2 < a
      · simp only [evA, evT, evD, seval, h1, h2, cx_len, Int.toNat_natCast, cx_getD hil, c1, c2, c3]
      have c4 : b < (xs.getD n (0, 0)).2 := by omega
      simp only [evA, evT, evD, seval, h1, h2, cx_len, Int.toNat_natCast, cx_getD hil, c1, c2, c3, c4]
theorem Parts.t (xs : List (Int × Int)) (a b : Int) (hl : xs.length ≤ 1000000000) (h : ∀ x ∈ xs, inB a b x) : Ok Tryz.prog 45 [.sl 2 (cxRows xs), .int a, .int b] (.bool true) :=
  Parts.core xs a b hl xs.length (Nat.le_refl _) (fun i hi _ => by rw [getD_at hi]; exact h _ (List.getElem_mem hi)) true (.inl ⟨rfl, rfl⟩)
theorem Parts.f (xs : List (Int × Int)) (a b : Int) (hl : xs.length ≤ 1000000000) (h : ¬ ∀ x ∈ xs, inB a b x) : Ok Tryz.prog 45 [.sl 2 (cxRows xs), .int a, .int b] (.bool false) := by
  obtain ⟨n, hn, h1, h2⟩ := first_not (p := fun x => inB a b x) xs h
  exact Parts.core xs a b hl n (by omega) (fun i hi hlt => by rw [getD_at hi]; exact h2 i hi hlt) false (.inr ⟨hn, by rw [getD_at hn]; exact h1, rfl⟩)
/-- The bound that open numbers have, and others. -/
def topM (f : Int) (o : Bool) : Int := if o = true then fM f else fM f - 1
theorem May15.ok (f l k s m : Int) (i o : Bool) (xs : List (Int × Int)) (hl : xs.length ≤ 1000000000) : Ok Tryz.prog 14 [.sl 2 (cxRows xs), plV f l k s m i, .bool o] (.int (whyM f l k s m (topM f o) xs)) := by
  refine ok_of (X := fun _ => []) (Z := fun _ => false) (res := [ResultVar.tmp 6]) tok follows Tryz.func14 rfl rfl fine14 (by kernel_rfl) (by kernel_rfl) ?_
  simp only [evA, evT, evD, seval, cx_free, cx_len]
  unfold whyM
  by_cases hp : pOk f l k s m
  · rw [if_neg (fun g => g hp)]
    have hf := fmt_of hp
    refine call_ok (Check13.ok f l k s m i hp) rfl ?_
    simp only [evA, evT, evD, seval, cx_free, cx_len]
    refine call_ok (Pow.ok l (by have := hp.2.1; omega)) rfl ?_
    by_cases hlen : (xs.length : Int) = 2 ^ l.toNat
    · rw [if_neg (fun g => g hlen)]
      simp only [evA, evT, evD, seval, hlen]
      refine call_ok (ROneS.ok f hf) rfl ?_
      cases o
      · by_cases hb : ∀ x ∈ xs, inB (-fM f) (topM f Bool.false) x
        · rw [if_neg (fun g => g hb)]
          simp only [evA, evT, evD, seval, neg_fM hf, fM_1 hf, cx_free]
          refine call_ok (Parts.t xs _ _ hl hb) rfl ?_
          simp only [evA, evT, evD, seval]
        · rw [if_pos hb]
          simp only [evA, evT, evD, seval, neg_fM hf, fM_1 hf, cx_free]
          refine call_ok (Parts.f xs _ _ hl hb) rfl ?_
          simp only [evA, evT, evD, seval]
      · by_cases hb : ∀ x ∈ xs, inB (-fM f) (topM f Bool.true) x
        · rw [if_neg (fun g => g hb)]
          simp only [evA, evT, evD, seval, neg_fM hf, fM_1 hf, cx_free]
          refine call_ok (Parts.t xs _ _ hl hb) rfl ?_
          simp only [evA, evT, evD, seval]
        · rw [if_pos hb]
          simp only [evA, evT, evD, seval, neg_fM hf, fM_1 hf, cx_free]
          refine call_ok (Parts.f xs _ _ hl hb) rfl ?_
          simp only [evA, evT, evD, seval]
    · rw [if_pos hlen]
      simp only [evA, evT, evD, seval, hlen]
  · rw [if_pos hp]
    refine call_ok (Check13.bad f l k s m i hp) rfl ?_
    simp only [evA, evT, evD, seval]
end Go.Proofs.YtnnjjblgilibgaaGreatV

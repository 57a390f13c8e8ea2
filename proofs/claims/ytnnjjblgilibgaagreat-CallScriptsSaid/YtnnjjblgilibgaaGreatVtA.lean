import Derived.Test.YtnnjjblgilibgaaGreatVgC
/- Contracts: plans that may be, and their passes; by the document too. -/
namespace Go.Proofs.YtnnjjblgilibgaaGreatV
open Go Go.RowKit
set_option linter.unusedVariables false
set_option linter.unusedSimpArgs false
set_option maxRecDepth 100000
set_option maxHeartbeats 40000000
theorem fine90 : Fine Tryz.prog 90 := fun _ _ => by kernel_rfl
theorem fine50 : Fine Tryz.prog 50 := fun _ _ => by kernel_rfl
theorem fine28 : Fine Tryz.prog 28 := fun _ _ => by kernel_rfl
theorem fine62 : Fine Tryz.prog 62 := fun _ _ => by kernel_rfl
theorem fine25 : Fine Tryz.prog 25 := fun _ _ => by kernel_rfl
theorem fine26 : Fine Tryz.prog 26 := fun _ _ => by kernel_rfl
/-- A plan. -/
abbrev plV (f l k s m : Int) (i : Bool) : AV := .agg [.int f, .int l, .int k, .int s, .int m, .bool i]
/-- A plan that may be. -/
def pOk (f l k s m : Int) : Prop := (0 ≤ f ∧ f ≤ 1) ∧ (2 ≤ l ∧ l ≤ 6) ∧ (0 ≤ k ∧ k ≤ 2) ∧ (0 ≤ s ∧ s ≤ 2) ∧ (0 ≤ m ∧ m ≤ 2) ∧ (k = 2 → s = 0)
instance (f l k s m : Int) : Decidable (pOk f l k s m) := by unfold pOk; infer_instance
theorem in.ok (n a b : Int) : Ok Tryz.prog 90 [.int n, .int a, .int b] (.bool (decide (a ≤ n ∧ n ≤ b))) := by
  refine ok_of (X := fun _ => []) (Z := fun _ => false) (res := [ResultVar.tmp 6]) tok follows Tryz.func90 rfl rfl fine90 (by kernel_rfl) (by kernel_rfl) ?_
  simp only [evA, evT, evD, seval]
  refine ⟨fun h => ?_, fun h => ?_⟩ <;> simp [h]
theorem in.t (n a b : Int) (h : a ≤ n ∧ n ≤ b) : Ok Tryz.prog 90 [.int n, .int a, .int b] (.bool Bool.true) := by
  have := in.ok n a b
  rwa [decide_eq_true h] at this
theorem in.f (n a b : Int) (h : ¬ (a ≤ n ∧ n ≤ b)) : Ok Tryz.prog 90 [.int n, .int a, .int b] (.bool Bool.false) := by
  have := in.ok n a b
  rwa [decide_eq_false h] at this
theorem Check.ok (f l k s m : Int) (i : Bool) (h : pOk f l k s m) : Ok Tryz.prog 50 [plV f l k s m i] (.int 0) := by
  obtain ⟨hf, hl, hk, hs, hm, hks⟩ := h
  refine ok_of (X := fun _ => []) (Z := fun _ => false) (res := [ResultVar.tmp 2]) tok follows Tryz.func50 rfl rfl fine50 (by kernel_rfl) (by kernel_rfl) ?_
  simp only [evA, evT, evD, seval]
  refine call_ok (in.t f 0 1 hf) rfl ?_; simp only [evA, evT, evD, seval]
  refine call_ok (in.t l 2 6 hl) rfl ?_; simp only [evA, evT, evD, seval]
  refine call_ok (in.t k 0 2 hk) rfl ?_; simp only [evA, evT, evD, seval]
  refine call_ok (in.t s 0 2 hs) rfl ?_; simp only [evA, evT, evD, seval]
  refine call_ok (in.t m 0 2 hm) rfl ?_; simp only [evA, evT, evD, seval]
  exact fun a b => absurd (hks a) b
theorem Check.bad (f l k s m : Int) (i : Bool) (h : ¬ pOk f l k s m) : Ok Tryz.prog 50 [plV f l k s m i] (.int 4) := by
  refine ok_of (X := fun _ => []) (Z := fun _ => false) (res := [ResultVar.tmp 2]) tok follows Tryz.func50 rfl rfl fine50 (by kernel_rfl) (by kernel_rfl) ?_
  simp only [evA, evT, evD, seval]
  by_cases hf : 0 ≤ f ∧ f ≤ 1
  case neg => refine call_ok (in.f f 0 1 hf) rfl ?_; simp only [evA, evT, evD, seval]
  refine call_ok (in.t f 0 1 hf) rfl ?_; simp only [evA, evT, evD, seval]
  by_cases hl : 2 ≤ l ∧ l ≤ 6
  case neg => refine call_ok (in.f l 2 6 hl) rfl ?_; simp only [evA, evT, evD, seval]
  refine call_ok (in.t l 2 6 hl) rfl ?_; simp only [evA, evT, evD, seval]
  by_cases hk : 0 ≤ k ∧ k ≤ 2
  case neg => refine call_ok (in.f k 0 2 hk) rfl ?_; simp only [evA, evT, evD, seval]
  refine call_ok (in.t k 0 2 hk) rfl ?_; simp only [evA, evT, evD, seval]
  by_cases hs : 0 ≤ s ∧ s ≤ 2
  case neg => refine call_ok (in.f s 0 2 hs) rfl ?_; simp only [evA, evT, evD, seval]
  refine call_ok (in.t s 0 2 hs) rfl ?_; simp only [evA, evT, evD, seval]
  by_cases hm : 0 ≤ m ∧ m ≤ 2
  case neg => refine call_ok (in.f m 0 2 hm) rfl ?_; simp only [evA, evT, evD, seval]
  refine call_ok (in.t m 0 2 hm) rfl ?_; simp only [evA, evT, evD, seval]
  have hks : k = 2 ∧ ¬ s = 0 := by
    by_cases h1 : k = 2 ∧ ¬ s = 0
    · exact h1
    · exact absurd ⟨hf, hl, hk, hs, hm, fun a => Decidable.byContradiction fun b => h1 ⟨a, b⟩⟩ h
  simp only [hks.1, hks.2, forall_const, not_false_eq_true, not_true, false_implies, and_true, true_and, imp_self, implies_true]
theorem one13.ok (n b : Int) : Ok Tryz.prog 62 [.int n, .int b] (.bool (decide (0 ≤ n ∧ n ≤ b))) := by
  refine ok_of (X := fun _ => []) (Z := fun _ => false) (res := [ResultVar.tmp 4]) tok follows Tryz.func62 rfl rfl fine62 (by kernel_rfl) (by kernel_rfl) ?_
  simp only [evA, evT, evD, seval]
  refine ⟨fun h => ?_, fun h => ?_⟩ <;> simp [h]
theorem one13.t (n b : Int) (h : 0 ≤ n ∧ n ≤ b) : Ok Tryz.prog 62 [.int n, .int b] (.bool Bool.true) := by
  have := one13.ok n b
  rwa [decide_eq_true h] at this
theorem one13.f (n b : Int) (h : ¬ (0 ≤ n ∧ n ≤ b)) : Ok Tryz.prog 62 [.int n, .int b] (.bool Bool.false) := by
  have := one13.ok n b
  rwa [decide_eq_false h] at this
theorem Check13.ok (f l k s m : Int) (i : Bool) (h : pOk f l k s m) : Ok Tryz.prog 25 [plV f l k s m i] (.bool Bool.true) := by
  obtain ⟨hf, hl, hk, hs, hm, hks⟩ := h
  refine ok_of (X := fun _ => []) (Z := fun _ => false) (res := [ResultVar.tmp 2]) tok follows Tryz.func25 rfl rfl fine25 (by kernel_rfl) (by kernel_rfl) ?_
  simp only [evA, evT, evD, seval]
  refine ⟨fun hk2 => ?_, fun hk2 => ?_⟩
  · simp only [hks hk2, evA, evT, evD, seval]
    refine call_ok (one13.t f 1 hf) rfl ?_; simp only [evA, evT, evD, seval, hl.1, hl.2, ge_iff_le]
    refine call_ok (one13.t k 2 hk) rfl ?_; simp only [evA, evT, evD, seval]
    refine call_ok (one13.t 0 2 (by decide)) rfl ?_; simp only [evA, evT, evD, seval]
    refine call_ok (one13.t m 2 hm) rfl ?_; simp only [evA, evT, evD, seval]
  · refine call_ok (one13.t f 1 hf) rfl ?_; simp only [evA, evT, evD, seval, hl.1, hl.2, ge_iff_le]
    refine call_ok (one13.t k 2 hk) rfl ?_; simp only [evA, evT, evD, seval]
    refine call_ok (one13.t s 2 hs) rfl ?_; simp only [evA, evT, evD, seval]
    refine call_ok (one13.t m 2 hm) rfl ?_; simp only [evA, evT, evD, seval]
theorem Check13.bad (f l k s m : Int) (i : Bool) (h : ¬ pOk f l k s m) : Ok Tryz.prog 25 [plV f l k s m i] (.bool Bool.false) := by
  refine ok_of (X := fun _ => []) (Z := fun _ => false) (res := [ResultVar.tmp 2]) tok follows Tryz.func25 rfl rfl fine25 (by kernel_rfl) (by kernel_rfl) ?_
  simp only [evA, evT, evD, seval]
  refine ⟨fun hk2 => ?_, fun hk2 => ?_⟩
  case' refine_1 => intro hs0
  case' refine_2 => have hs0 : 0 = 0 := rfl
  all_goals
    by_cases hf : 0 ≤ f ∧ f ≤ 1
    case neg => refine call_ok (one13.f f 1 hf) rfl ?_; simp only [evA, evT, evD, seval]
    refine call_ok (one13.t f 1 hf) rfl ?_; simp only [evA, evT, evD, seval]
    by_cases hl : 2 ≤ l
    case neg => simp only [evA, evT, evD, seval, hl, ge_iff_le]
    by_cases hl2 : l ≤ 6
    case neg => simp only [evA, evT, evD, seval, hl, hl2, ge_iff_le]
    simp only [evA, evT, evD, seval, hl, hl2, ge_iff_le]
    by_cases hk : 0 ≤ k ∧ k ≤ 2
    case neg => refine call_ok (one13.f k 2 hk) rfl ?_; simp only [evA, evT, evD, seval]
    refine call_ok (one13.t k 2 hk) rfl ?_; simp only [evA, evT, evD, seval]
    by_cases hs : 0 ≤ s ∧ s ≤ 2
    case neg => refine call_ok (one13.f s 2 hs) rfl ?_; simp only [evA, evT, evD, seval]
    refine call_ok (one13.t s 2 hs) rfl ?_; simp only [evA, evT, evD, seval]
    refine call_ok (one13.f m 2 fun hm => h ⟨hf, ⟨hl, hl2⟩, hk, hs, hm, ?_⟩) rfl ?_
    · first | exact fun _ => hs0 | exact fun e => absurd e hk2
    · simp only [evA, evT, evD, seval]
def passL (l k : Int) : List (Int × Int) :=
  if k = 0 then (if l = 2 then [(2, 1), (2, 2)] else if l = 3 then [(2, 1), (2, 2), (2, 4)] else if l = 4 then [(2, 1), (2, 2), (2, 4), (2, 8)] else if l = 5 then [(2, 1), (2, 2), (2, 4), (2, 8), (2, 16)] else [(2, 1), (2, 2), (2, 4), (2, 8), (2, 16), (2, 32)])
  else if k = 1 then (if l = 2 then [(4, 1)] else if l = 3 then [(2, 1), (4, 2)] else if l = 4 then [(4, 1), (4, 4)] else if l = 5 then [(2, 1), (4, 2), (4, 8)] else [(4, 1), (4, 4), (4, 16)])
  else []
abbrev pRow (p : Int × Int) : List AV := [.int p.1, .int p.2]
abbrev pRows (l : List (Int × Int)) : List (List AV) := l.map pRow
theorem an2 : bits .and .i64 2 1 = 0 := by decide
theorem an3 : bits .and .i64 3 1 = 1 := by decide
theorem an4 : bits .and .i64 4 1 = 0 := by decide
theorem an5 : bits .and .i64 5 1 = 1 := by decide
theorem an6 : bits .and .i64 6 1 = 0 := by decide
theorem Passes.ok (f l k s m : Int) (i : Bool) (h : pOk f l k s m) (hk : k = 0 ∨ k = 1) : Ok Tryz.prog 28 [plV f l k s m i] (.tup [.sl 2 (pRows (passL l k)), .int 0]) := by
  have hc := Check.ok f l k s m i h
  refine ok_of (X := fun _ => []) (Z := fun _ => false) (res := [ResultVar.tmp 2, ResultVar.tmp 3]) tok follows Tryz.func28 rfl rfl fine28 (by kernel_rfl) (by kernel_rfl) ?_
  simp only [evA, evT, evD, seval]
  refine call_ok hc rfl ?_
  rcases hk with rfl | rfl <;> rcases (show l = 2 ∨ l = 3 ∨ l = 4 ∨ l = 5 ∨ l = 6 by have := h.2.1; omega) with rfl | rfl | rfl | rfl | rfl
  all_goals
    simp only [evA, evT, evD, seval]
    refine ⟨8, l_succ ?_⟩
    simp only [evA, evT, evD, seval, sl2, sl3, sl4, sl5, sl6, an2, an3, an4, an5, an6, w_16, w_32, w_64]
    repeat (refine l_succ ?_; simp only [evA, evT, evD, seval, sl2, sl3, sl4, sl5, sl6, an2, an3, an4, an5, an6, w_16, w_32, w_64])
    rfl
theorem Passes.split (f l k s m : Int) (i : Bool) (h : pOk f l k s m) (hk : k = 2) : Ok Tryz.prog 28 [plV f l k s m i] (.tup [.raw (.slice none 0 0), .int 0]) := by
  have hc := Check.ok f l k s m i h
  refine ok_of (X := fun _ => []) (Z := fun _ => false) (res := [ResultVar.tmp 2, ResultVar.tmp 3]) tok follows Tryz.func28 rfl rfl fine28 (by kernel_rfl) (by kernel_rfl) ?_
  simp only [evA, evT, evD, seval]
  refine call_ok hc rfl ?_
  subst hk
  rcases (show l = 2 ∨ l = 3 ∨ l = 4 ∨ l = 5 ∨ l = 6 by have := h.2.1; omega) with rfl | rfl | rfl | rfl | rfl
  all_goals
    simp only [evA, evT, evD, seval]
    refine ⟨8, l_succ ?_⟩
    simp only [evA, evT, evD, seval, sl2, sl3, sl4, sl5, sl6]
theorem Passes.bad (f l k s m : Int) (i : Bool) (h : ¬ pOk f l k s m) : Ok Tryz.prog 28 [plV f l k s m i] (.tup [.raw (.slice none 0 0), .int 4]) := by
  have hc := Check.bad f l k s m i h
  refine ok_of (X := fun _ => []) (Z := fun _ => false) (res := [ResultVar.tmp 2, ResultVar.tmp 3]) tok follows Tryz.func28 rfl rfl fine28 (by kernel_rfl) (by kernel_rfl) ?_
  simp only [evA, evT, evD, seval]
  refine call_ok hc rfl ?_
  simp only [evA, evT, evD, seval]
theorem tdm2 : Int.tmod 2 2 = 0 := by decide
theorem tdm3 : Int.tmod 3 2 = 1 := by decide
theorem tdm4 : Int.tmod 4 2 = 0 := by decide
theorem tdm5 : Int.tmod 5 2 = 1 := by decide
theorem tdm6 : Int.tmod 6 2 = 0 := by decide
theorem Passes13.ok (f l k s m : Int) (i : Bool) (h : pOk f l k s m) : Ok Tryz.prog 26 [plV f l k s m i] (.sl 2 (pRows (passL l k))) := by
  refine ok_of (X := fun _ => []) (Z := fun _ => false) (res := [ResultVar.tmp 2]) tok follows Tryz.func26 rfl rfl fine26 (by kernel_rfl) (by kernel_rfl) ?_
  rcases (show k = 0 ∨ k = 1 ∨ k = 2 by have := h.2.2.1; omega) with rfl | rfl | rfl <;> rcases (show l = 2 ∨ l = 3 ∨ l = 4 ∨ l = 5 ∨ l = 6 by have := h.2.1; omega) with rfl | rfl | rfl | rfl | rfl
  all_goals
    simp only [evA, evT, evD, seval]
    refine call_ok (Pow.ok _ (by decide)) rfl ?_
    simp only [evA, evT, evD, seval, pw2, pw3, pw4, pw5, pw6, tdm2, tdm3, tdm4, tdm5, tdm6]
    try refine ⟨8, l_succ ?_⟩
    try simp only [evA, evT, evD, seval, w_16, w_32, w_64]
    repeat (refine l_succ ?_; simp only [evA, evT, evD, seval, w_16, w_32, w_64])
    rfl
end Go.Proofs.YtnnjjblgilibgaaGreatV

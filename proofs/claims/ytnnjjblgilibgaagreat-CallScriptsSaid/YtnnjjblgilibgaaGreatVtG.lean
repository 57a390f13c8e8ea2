import Derived.Test.YtnnjjblgilibgaaGreatVtF
/- Contract: numbers clamped. -/
namespace Go.Proofs.YtnnjjblgilibgaaGreatV
open Go Go.RowKit
set_option linter.unusedVariables false
set_option linter.unusedSimpArgs false
set_option maxRecDepth 100000
set_option maxHeartbeats 40000000
/-- A number clamped; numbers. -/
def clp (f : Int) (y : Int × Int) : Int × Int := (cl f y.1, cl f y.2)
def clL (f : Int) (ys : List (Int × Int)) : List (Int × Int) := ys.map (clp f)
/-- The first ones clamped. -/
def clM (f : Int) (xs : List (Int × Int)) (i : Nat) : List (Int × Int) := mix xs (fun j => clp f (xs.getD j (0, 0))) fun j => decide (j < i)
/-- Was one of the first ones another? -/
def smB (f : Int) (xs : List (Int × Int)) : Nat → Bool
  | 0 => Bool.false
  | i + 1 => smB f xs i || decide (¬ clp f (xs.getD i (0, 0)) = xs.getD i (0, 0))
theorem clM_0 {f : Int} {xs : List (Int × Int)} : clM f xs 0 = xs := mix_none fun i _ => by simp
theorem clM_len {f : Int} {xs : List (Int × Int)} {i : Nat} : (clM f xs i).length = xs.length := mix_len
theorem clM_at {f : Int} {xs : List (Int × Int)} {i : Nat} (h : i < xs.length) : (clM f xs i).getD i (0, 0) = xs.getD i (0, 0) := by
  unfold clM
  rw [mix_at h]
  simp
theorem clM_set {f : Int} {xs : List (Int × Int)} {i : Nat} (h : i < xs.length) : (clM f xs i).set i (cl f (xs.getD i (0, 0)).1, cl f (xs.getD i (0, 0)).2) = clM f xs (i + 1) := by
  unfold clM
  rw [mix_set (T := fun j => clp f (xs.getD j (0, 0))) (y := (cl f (xs.getD i (0, 0)).1, cl f (xs.getD i (0, 0)).2)) h rfl]
  refine mix_eq (fun j _ => ?_) fun _ _ _ => rfl
  rcases Nat.lt_trichotomy j i with g | g | g
  · simp [g, Nat.lt_succ_of_lt g]
  · simp [g]
  · have a : ¬ j < i := by omega
    have b : ¬ i = j := by omega
    have c : ¬ j < i + 1 := by omega
    simp [a, b, c]
theorem clM_all {f : Int} {xs : List (Int × Int)} : clM f xs xs.length = clL f xs := by
  refine ext_at (by rw [clM_len]; simp [clL]) fun i hi => ?_
  rw [clM_len] at hi
  unfold clM clL
  rw [mix_at hi]
  simp [hi, List.getD_eq_getElem?_getD, clp]
theorem smB_all {f : Int} {xs : List (Int × Int)} : smB f xs xs.length = decide (¬ clL f xs = xs) := by
  have key : ∀ n, n ≤ xs.length → (smB f xs n = Bool.false ↔ ∀ i, i < n → clp f (xs.getD i (0, 0)) = xs.getD i (0, 0)) := by
    intro n
    induction n with
    | zero => intro _; simp [smB]
    | succ n ih =>
      intro hn
      rw [smB, Bool.or_eq_false_iff, ih (by omega), decide_eq_false_iff_not, Decidable.not_not]
      constructor
      · rintro ⟨h1, h2⟩ i hi
        rcases Nat.lt_succ_iff_lt_or_eq.1 hi with h | rfl
        · exact h1 i h
        · exact h2
      · exact fun h => ⟨fun i hi => h i (by omega), h n (by omega)⟩
  have hk := key xs.length (Nat.le_refl _)
  have he : (∀ i, i < xs.length → clp f (xs.getD i (0, 0)) = xs.getD i (0, 0)) ↔ clL f xs = xs := by
    constructor
    · intro h
      refine ext_at (by simp [clL]) fun i hi => ?_
      have hi' : i < xs.length := by simpa [clL] using hi
      have := h i hi'
      rw [getD_at hi'] at this ⊢
      unfold clL
      rw [List.getD_eq_getElem?_getD, List.getElem?_map, List.getElem?_eq_getElem hi']
      exact this
    · intro h i hi
      have : (clL f xs).getD i (0, 0) = xs.getD i (0, 0) := by rw [h]
      unfold clL at this
      rw [List.getD_eq_getElem?_getD, List.getElem?_map, List.getElem?_eq_getElem hi] at this
      rw [getD_at hi] at this ⊢
      exact this
  rw [he] at hk
  by_cases h : clL f xs = xs
  · rw [hk.2 h, decide_eq_false (by simpa using h)]
  · rw [decide_eq_true h]
    cases e : smB f xs xs.length
    · exact absurd (hk.1 e) h
    · rfl
theorem clp_ne {f : Int} {y : Int × Int} : decide (¬ clp f y = y) = (decide (¬ cl f y.1 = y.1) || decide (¬ cl f y.2 = y.2)) := by
  have : clp f y = y ↔ cl f y.1 = y.1 ∧ cl f y.2 = y.2 := by
    unfold clp
    rw [Prod.ext_iff]
  by_cases h1 : cl f y.1 = y.1 <;> by_cases h2 : cl f y.2 = y.2 <;> simp [this, h1, h2]
theorem clamped.ok (f k s m l : Int) (i : Bool) (hf : fmt f) (hs : 0 ≤ s ∧ s ≤ 2) (xs : List (Int × Int)) (hl : xs.length ≤ 1000000) (h0 : 0 < xs.length) :
    Ok Tryz.prog 81 [rV f l k s m i, .sl 2 (cxRows xs)] (.tup [.sl 2 (cxRows (clL f xs)), .bool (decide (¬ clL f xs = xs))]) := by
  refine ok_of (X := fun r => if Nat.beq r 1 then [[], [.const (.bool true)]] else []) (Z := fun _ => false) (res := [ResultVar.tmp 4, ResultVar.tmp 5]) tok follows Tryz.func81 rfl rfl fine81 (by kernel_rfl) (by kernel_rfl) ?_
  have hsc : ∃ c : AV, scAV s f = c ∧ ((∃ T l, c = .iface T (.agg l) ∧ allFree l = true)) := by
    unfold scAV
    repeat' split
    all_goals exact ⟨_, rfl, _, _, rfl, rfl⟩
  obtain ⟨c, e, T, l', rfl, hfr⟩ := hsc
  unfold rV
  rw [e]
  simp only [evA, evB, evT, evD, seval, cx_free]
  refine call_eff [] (Clone.ok xs hl h0) rfl (by decide) ?_ ?_ rfl ?_ ?_ ?_ ?_ rfl rfl ?_
  all_goals simp only [evA, evB, evT, evD, seval, cx_free, cx_lt, cx_ren, lt_sl, cx_len]
  have key : ∀ (i' : Nat), i' < xs.length → smB f xs (i' + 1) = (smB f xs i' || (decide (¬ cl f (xs.getD i' (0, 0)).1 = (xs.getD i' (0, 0)).1) || decide (¬ cl f (xs.getD i' (0, 0)).2 = (xs.getD i' (0, 0)).2))) := fun i' _ => by rw [smB, clp_ne]
  refine l_inv (fun j => ⟨[(20, .int j), (19, .int xs.length), (6, .own 1), (7, .bool (smB f xs j)), (2, .loc 0 0)], [(1, some (.row 43 2 (cxRows (clM f xs j)))), (0, some (.box [.int f, .int l, .int k, .int s, .int m, .bool i, .iface T (.agg l'), .int (fB f), .sl 2 (cxRows (tabV l.toNat (fB f - 2)))]))], 2⟩) xs.length ?_ (fun j hj K hK => ?_) (fun K => ?_)
  · refine weak_of (fun l => l) rfl ?_ ?_
    all_goals simp only [evA, evB, evT, evD, seval, cx_free, hfr, clM_0, smB, Int.natCast_zero]
  · have q0 : (j : Int) < (xs.length : Int) := by omega
    have q1 : IntKind.i64.wrap ((j : Int) + 1) = ((j + 1 : Nat) : Int) := by rw [wr (by omega)]; omega
    have q2 : (0 : Int) ≤ (j : Int) := by omega
    have hat := clM_at (f := f) hj
    have hset := clM_set (f := f) hj
    have hsm := key j hj
    generalize hp : xs.getD j (0, 0) = p at hat hset hsm
    have hcl := clM_len (f := f) (xs := xs) (i := j)
    simp only [evA, evB, evT, evD, seval, q0, q2, cx_len, hcl, Int.toNat_natCast, cx_at (xs := clM f xs j) (i := j) (by rw [hcl]; exact hj), hat]
    have g1 : ∀ a b : Int, (cxRows ((clM f xs j).set j (a, b)))[j]? = some [.int a, .int b] := fun a b => by
      rw [cx_at (by rw [List.length_set, hcl]; exact hj), set_at (by rw [hcl]; exact hj) (by rw [hcl]; exact hj), if_pos rfl]
    refine call_ok (Clamp.ok p.1 f hf) rfl ?_
    simp only [evA, evB, evT, evD, seval, q0, q2, cx_len, hcl, Int.toNat_natCast, cx_at (xs := clM f xs j) (i := j) (by rw [hcl]; exact hj), hat]
    refine call_ok (Clamp.ok p.2 f hf) rfl ?_
    generalize smB f xs j = b at *
    by_cases h1 : cl f p.1 = p.1 <;> by_cases h2 : cl f p.2 = p.2 <;> cases b
    all_goals
      simp only [h1, h2, not_true_eq_false, not_false_eq_true, decide_true, decide_false, Bool.or_false, Bool.or_true, Bool.false_or, Bool.true_or] at hsm hset
      simp only [evA, evB, evT, evD, seval, h1, h2, q0, q1, q2, cx_len, hcl, Int.toNat_natCast, cx_at (xs := clM f xs j) (i := j) (by rw [hcl]; exact hj), hat, List.length_set, List.set_set, cx_set, g1]
      refine hK _ (weak_of (fun l => l) rfl ?_ ?_)
      all_goals simp only [evA, evB, evT, evD, seval, cx_free, hfr, hset, hsm]
  · simp only [evA, evB, evT, evD, seval, cx_len, cx_free, clM_all, smB_all]
end Go.Proofs.YtnnjjblgilibgaaGreatV

import Derived.Test.YtnnjjblgilibgaaGreatVqE
/- CallShapes answers true. -/
namespace Go.Proofs.YtnnjjblgilibgaaGreatV
open Go Go.RowKit
set_option linter.unusedVariables false
set_option linter.unusedSimpArgs false
set_option maxRecDepth 100000
set_option maxHeartbeats 40000000
theorem fine9 : Fine Tryz.prog 9 := fun _ _ => by kernel_rfl
/-- Arguments told more. -/
theorem Ok.args {P : Program} {F : FuncId} {args args' : List AV} {r : AV} (h : Ok P F args r) (hl : args'.length = args.length) (ha : ∀ (w : World) (N : Nat → Prop) (i : Nat) (x v), args[i]? = some x → (∃ x', args'[i]? = some x' ∧ Rep w (fun _ => none) N x' v) → Rep w (fun _ => none) N x v) : Ok P F args' r :=
  ⟨h.1, fun w N vs h1 h2 h3 => h.2 w N vs h1 (h2.trans hl) fun i x hx => ha w N i x _ hx (by
    have hi := getElem?_lt hx
    have hi' : i < args'.length := by omega
    exact ⟨args'[i], List.getElem?_eq_getElem hi', h3 i _ (List.getElem?_eq_getElem hi')⟩)⟩
theorem Shape.nil : Ok Tryz.prog 34 [.raw (.slice none 0 0), .raw (.slice none 0 0), .raw (.slice none 0 0), .agg [.int 0, .int 0, .int 0, .int 0, .int 0, .bool Bool.false]] (.int 4) := by
  have h := Shape.ok 0 0 0 0 0 Bool.false [] [] [] (by decide)
  have e : whyS 0 0 0 0 0 [] [] [] = 4 := by
    unfold whyS
    rw [if_pos (by decide)]
  rw [e] at h
  refine h.args rfl fun w N i x v hx => ?_
  rintro ⟨x', hx', hr⟩
  match i, hx, hx' with
  | 0, hx, hx' => cases hx; cases hx'; exact nil_sl hr
  | 1, hx, hx' => cases hx; cases hx'; exact nil_sl hr
  | 2, hx, hx' => cases hx; cases hx'; exact nil_sl hr
  | 3, hx, hx' => cases hx; cases hx'; exact hr
  | i + 4, hx, hx' => simp at hx
theorem tab_2 : tabV 2 13 = [(8192, 0), (0, -8192), (-8192, 0), (0, 8192)] := by decide +kernel
theorem a_e : (rnB 0 2 0 2 0 Bool.false [(1, 0), (2, 0), (3, 0), (4, 0)]).e = 0 := by decide +kernel
theorem alive23.ok : Ok Tryz.prog 35 [] (.bool true) := by
  have hw : whyS 0 (2 : Nat) 0 2 0 [(1, 0), (2, 0), (3, 0), (4, 0)] [(1, 0), (2, 0), (3, 0), (4, 0)] [(8192, 0), (0, -8192), (-8192, 0), (0, 8192)] = 0 := by
    unfold whyS
    rw [if_neg (fun g => g (by decide)), if_neg (fun g => g (by decide)), if_neg (fun g => g tab_2.symm), if_neg (fun g => g (by decide))]
  have hI := Into.ok 0 0 2 0 Bool.false 2 [(1, 0), (2, 0), (3, 0), (4, 0)] [(1, 0), (2, 0), (3, 0), (4, 0)] [(8192, 0), (0, -8192), (-8192, 0), (0, 8192)] (by decide) hw (by decide) rfl (by unfold mants; decide)
  rw [a_all.1, a_all.2, a_e] at hI
  have hI' : Ok Tryz.prog 33 [.sl 2 [[.int 1, .int 0], [.int 2, .int 0], [.int 3, .int 0], [.int 4, .int 0]], .sl 2 [[.int 1, .int 0], [.int 2, .int 0], [.int 3, .int 0], [.int 4, .int 0]], .sl 2 [[.int 8192, .int 0], [.int 0, .int (-8192)], [.int (-8192), .int 0], [.int 0, .int 8192]], .agg [.int 0, .int 2, .int 0, .int 2, .int 0, .bool Bool.false]]
      (.tup [.sl 2 [[.int 10, .int 0], [.int (-2), .int 2], [.int (-2), .int 0], [.int (-2), .int (-2)]], .int 0, .bool Bool.false, .int 0]) := hI
  clear hI
  refine ok_of (X := fun _ => []) (Z := fun r => Nat.beq r 3) (res := [ResultVar.tmp 0]) tok follows Tryz.func35 rfl rfl fine35 (by kernel_rfl) (by kernel_rfl) ?_
  simp only [evA, evB, evT, evD, seval]
  refine wk_of ⟨[(2, .sl 2 [[.int 8192, .int 0], [.int 0, .int (-8192)], [.int (-8192), .int 0], [.int 0, .int 8192]]), (1, .sl 2 [[.int 1, .int 0], [.int 2, .int 0], [.int 3, .int 0], [.int 4, .int 0]])], [], 0⟩ (weak_of (fun l => l) rfl ?_ ?_) ?_
  · simp only [evA, evB, evT, evD, seval]
  · simp only [evA, evB, evT, evD, seval]
  simp only [evA, evB, evT, evD, seval]
  refine call_ok hI' rfl ?_
  simp only [evA, evB, evT, evD, seval]
  refine call_ok Shape.nil rfl ?_
  simp only [evA, evB, evT, evD, seval]
theorem CallShapes.true (d x t : List (Int × Int)) (f l k s m : Int) (i : Bool) : Ok Tryz.prog 9 [.sl 2 (cxRows d), .sl 2 (cxRows x), .sl 2 (cxRows t), plV f l k s m i] (.bool true) := by
  have hd := take_lenT (xs := d)
  have hx := take_lenT (xs := x)
  have ht := take_lenT (xs := t)
  have hcd := cut.ok d
  have hcx := cut.ok x
  have hct := cut.ok t
  generalize d.take (min d.length 70) = D at *
  generalize x.take (min x.length 70) = X at *
  generalize t.take (min t.length 70) = T at *
  have hS := Shape.ok f l k s m i D X T (by omega)
  have hR := RShape23.ok f l k s m i D X T (by omega) (by omega)
  refine ok_of (X := fun _ => []) (Z := fun _ => false) (res := [ResultVar.tmp 8]) tok follows Tryz.func9 rfl rfl fine9 (by kernel_rfl) (by kernel_rfl) ?_
  simp only [evA, evT, evD, seval, cx_free]
  refine call_ok hcd (by simp only [evA, evT, evD, seval, cx_free]) ?_
  simp only [evA, evT, evD, seval, cx_free]
  refine call_ok hcx (by simp only [evA, evT, evD, seval, cx_free]) ?_
  simp only [evA, evT, evD, seval, cx_free]
  refine call_ok hct (by simp only [evA, evT, evD, seval, cx_free]) ?_
  simp only [evA, evT, evD, seval, cx_free]
  refine call_ok hR rfl ?_
  simp only [evA, evT, evD, seval, cx_free]
  rcases why_or_s f l k s m D X T with ⟨g, log, rfl, hp, hlx, hld, hn⟩ | g
  · have hI := Into.ok f k s m i log D X T (by omega) g hp hlx hn
    have hRR := Run15.ok f k s m i log hp X hlx hn
    have hlen := rn_len (i := i) hp hlx hn
    rw [g] at hS ⊢
    refine call_ok hI (by simp only [evA, evT, evD, seval, cx_free]) ?_
    simp only [evA, evT, evD, seval, cx_free]
    refine call_ok hS rfl ?_
    simp only [evA, evT, evD, seval, cx_free]
    refine call_ok alive23.ok rfl ?_
    simp only [evA, evT, evD, seval, cx_free]
    refine call_ok hRR (by simp only [evA, evT, evD, seval, cx_free, in_free]) ?_
    simp only [evA, evT, evD, seval, cx_free, in_free]
    refine call_ok (Same.ok (rnB f log k s m i X).xs (by omega)) rfl ?_
    simp only [evA, evT, evD, seval, cx_free, in_free, beq_self_eq_true]
  · have hI := Into.bad f l k s m i D X T (by omega) g
    generalize whyS f l k s m D X T = e at *
    refine call_ok hI (by simp only [evA, evT, evD, seval, cx_free]) ?_
    simp only [evA, evT, evD, seval, cx_free]
    refine call_ok hS rfl ?_
    simp only [evA, evT, evD, seval, cx_free]
    refine call_ok alive23.ok rfl ?_
    simp only [evA, evT, evD, seval, cx_free, g]
    refine call_ok (Same.ok D (by omega)) rfl ?_
    simp only [evA, evT, evD, seval, cx_free]
end Go.Proofs.YtnnjjblgilibgaaGreatV

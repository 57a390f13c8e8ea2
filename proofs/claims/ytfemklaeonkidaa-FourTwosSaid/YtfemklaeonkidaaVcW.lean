import Derived.Test.YtfemklaeonkidaaVcV
/- What the evaluator says of the model: what an operation hangs on. -/
namespace Go.Proofs.YtfemklaeonkidaaV
open Go Go.RowKit
set_option linter.unusedVariables false
set_option linter.unusedSimpArgs false

/-- 1: reads a label; 2: writes one; 3: makes a row grow; 4: calls; 5: makes memory; 0: none of these. -/
def opClass : Op → Nat
  | .load _ _ => 1
  | .indexAddr _ _ _ => 1
  | .slice _ _ _ _ _ => 1
  | .store _ _ _ => 2
  | .call c => match c.callee with
    | .builtin .len => 1
    | .builtin .min => 0
    | .builtin .max => 0
    | .builtin _ => 3
    | _ => 4
  | .alloc _ => 5
  | .box _ _ => 5
  | .buildSlice _ _ _ => 5
  | .makeSlice _ _ _ => 5
  | _ => 0
/-- The address that a reader reads at. -/
def rdOp : Op → Option Operand
  | .load _ x => some x
  | .indexAddr _ x _ => some x
  | .slice _ x _ _ _ => some x
  | .call c => c.args[0]?
  | _ => none

section
variable {tt : TypeId → Option TI}

theorem aop_ev {lb : Nat → Option LB} {ev ev' : Operand → AV} {op : Op} (h : ∀ x ∈ op.operands.toList, ev x = ev' x) : aop tt lb ev op = aop tt lb ev' op := by
  have hm : ∀ (l : List Operand), (∀ x ∈ l, ev x = ev' x) → l.map ev = l.map ev' := fun l hl => List.map_congr_left hl
  cases op with
  | move x => simp only [aop, h x (by simp [Op.operands])]
  | assign x => simp only [aop, h x (by simp [Op.operands])]
  | pick c a b => simp only [aop, h c (by simp [Op.operands]), h a (by simp [Op.operands]), h b (by simp [Op.operands])]
  | alloc e => rfl
  | box e x => simp only [aop, h x (by simp [Op.operands])]
  | build t parts =>
    have e : (parts.toList.map fun (i, x) => (i, ev x)) = (parts.toList.map fun (i, x) => (i, ev' x)) := List.map_congr_left fun p hp => by
      obtain ⟨i, x⟩ := p
      simp only
      rw [h x (by simp [Op.operands]; exact ⟨i, by simpa using hp⟩)]
    simp only [aop]
    rw [e]
  | buildSlice t len parts =>
    have e : (parts.toList.map fun (i, x) => (i, ev x)) = (parts.toList.map fun (i, x) => (i, ev' x)) := List.map_congr_left fun p hp => by
      obtain ⟨i, x⟩ := p
      simp only
      rw [h x (by simp [Op.operands]; exact ⟨i, by simpa using hp⟩)]
    simp only [aop]
    rw [e]
  | load t x => simp only [aop, h x (by simp [Op.operands])]
  | store t a v => simp only [aop, h a (by simp [Op.operands]), h v (by simp [Op.operands])]
  | nilCheck x => simp only [aop, h x (by simp [Op.operands])]
  | binOp o t x y u => simp only [aop, h x (by simp [Op.operands]), h y (by simp [Op.operands])]
  | unOp o t x => simp only [aop, h x (by simp [Op.operands])]
  | convert s d x => simp only [aop, h x (by simp [Op.operands])]
  | makeFunc fn first caps =>
    have e := hm caps.toList (fun x hx => h x (by simp [Op.operands]; right; simpa using hx))
    cases fn <;> simp only [aop, e]
  | makeSlice t l c => simp only [aop, h l (by simp [Op.operands]), h c (by simp [Op.operands])]
  | slice t x lo hi mx =>
    have e0 : ∀ (o : Option Operand), (∀ x ∈ o.toArray.toList, ev x = ev' x) → o.map ev = o.map ev' := by
      intro o ho
      cases o with
      | none => rfl
      | some x => simp [ho x (by simp)]
    simp only [aop, h x (by simp [Op.operands]), e0 lo (fun y hy => h y (by simp [Op.operands] at hy ⊢; simp [hy])), e0 hi (fun y hy => h y (by simp [Op.operands] at hy ⊢; simp [hy])), e0 mx (fun y hy => h y (by simp [Op.operands] at hy ⊢; simp [hy]))]
  | fieldAddr t x f => simp only [aop, h x (by simp [Op.operands])]
  | field t x f => simp only [aop, h x (by simp [Op.operands])]
  | indexAddr t x i => simp only [aop, h x (by simp [Op.operands]), h i (by simp [Op.operands])]
  | index t x i => simp only [aop, h x (by simp [Op.operands]), h i (by simp [Op.operands])]
  | extract t i => simp only [aop, h t (by simp [Op.operands])]
  | call c =>
    obtain ⟨cal, args, ats⟩ := c
    have ha : ∀ x ∈ args.toList, ev x = ev' x := fun x hx => h x (by simp [Op.operands, Call.operands]; right; simpa using hx)
    have e1 := hm args.toList ha
    have e2 : args.toList.map (fun x => snap lb 6 (ev x)) = args.toList.map (fun x => snap lb 6 (ev' x)) := List.map_congr_left fun x hx => by rw [ha x hx]
    simp only [aop]
    split
    · split
      · rename_i x hx
        split
        · split
          · rw [ha x (by rw [hx]; simp)]
          · rfl
        · rfl
      · rfl
    · rw [e1]
    · rw [e1]
    · split
      · rename_i x y t t' hx _
        rw [ha x (by rw [hx]; simp), ha y (by rw [hx]; simp)]
      · rfl
    · rename_i f
      rw [h f (by simp [Op.operands, Call.operands]), e2, e1]
    · rfl
  | _ => rfl

/-- What an operation of these classes comes to does not hang on labels. -/
theorem aop_none {lb lb' : Nat → Option LB} {ev : Operand → AV} {op : Op} (h : opClass op = 0 ∨ opClass op = 5) : aop tt lb ev op = aop tt lb' ev op := by
  cases op with
  | call c =>
    obtain ⟨cal, args, ats⟩ := c
    cases cal with
    | builtin b => cases b <;> first | rfl | (simp [opClass] at h)
    | value f => simp [opClass] at h
    | invoke r m => simp [opClass] at h
  | makeFunc fn first caps => cases fn <;> rfl
  | load t x => simp [opClass] at h
  | indexAddr t x i => simp [opClass] at h
  | slice t x lo hi mx => simp [opClass] at h
  | store t x i => simp [opClass] at h
  | _ => rfl

/-- A reader hangs on the label that it reads. -/
theorem aop_reader {lb lb' : Nat → Option LB} {ev : Operand → AV} {op : Op} (h : opClass op = 1) (hl : ∀ x l, rdOp op = some x → rlab (ev x) = some l → lb l = lb' l) : aop tt lb ev op = aop tt lb' ev op := by
  cases op with
  | load t x =>
    have hx := hl x
    simp only [aop, aload]
    split
    · rfl
    · split
      · rfl
      · rename_i l off e
        rw [hx l rfl (by rw [e]; rfl)]
      · rename_i l sz r f e
        rw [hx l rfl (by rw [e]; rfl)]
      · rfl
  | indexAddr t x i =>
    have hx := hl x
    simp only [aop, aindexAddr]
    split
    · split
      · rfl
      · rfl
      · rfl
      · rename_i l e
        rw [hx l rfl (by rw [e]; rfl)]
      · rfl
      · rfl
    · rfl
  | slice t x lo hi mx =>
    have hx := hl x
    simp only [aop, aslice]
    split
    · rfl
    · rename_i l e
      rw [hx l rfl (by rw [e]; rfl)]
    · rfl
    · rfl
    · rfl
  | call c =>
    obtain ⟨cal, args, ats⟩ := c
    cases cal with
    | value f => simp [opClass] at h
    | invoke r m => simp [opClass] at h
    | builtin b =>
      cases b <;> try (simp [opClass] at h; done)
      simp only [aop]
      split
      · rename_i x hx
        split
        · split
          · have e0 : rdOp (.call ⟨.builtin .len, args, ats⟩) = some x := by
              have : args = #[x] := by simpa using congrArg List.toArray hx
              subst this
              rfl
            have hx' := hl x
            unfold alen
            split
            · rfl
            · rename_i l e
              rw [hx' l e0 (by rw [e]; rfl)]
            · rfl
            · rfl
            · rfl
            · rfl
          · rfl
        · rfl
      · rfl
  | _ => simp [opClass] at h

theorem snap_congr {w w' : World} {φ φ' : Nat → Option Value} {N N' : Nat → Prop} {base base' : Nat} {L L' : Nat → Option LB} (hL : ∀ l B, L l = some B → Holds w φ N base l B) (hL' : ∀ l B, L' l = some B → Holds w' φ' N' base' l B) (hl : ∀ l, φ l ≠ none → φ' l ≠ none → L l = L' l) :
    ∀ (fuel : Nat) (x : AV) (v v' : Value), Rep w φ N x v → Rep w' φ' N' x v' → snap L fuel x = snap L' fuel x
  | 0, x, v, v', _, _ => rfl
  | fuel + 1, x, v, v', h, h' => by
    cases x with
    | loc l off =>
      have e : L l = L' l := by
        cases h with
        | loc _ _ _ hφ => cases h' with
          | loc _ _ _ hφ' => exact hl l (by rw [hφ]; simp) (by rw [hφ']; simp)
      simp only [snap, ← e]
      split
      · rename_i cells hc
        congr 1
        obtain ⟨b, ty, cs, _, _, _, hr, _⟩ := hL _ _ hc
        obtain ⟨b', ty', cs', _, _, _, hr', _⟩ := hL' _ _ (e ▸ hc)
        refine List.map_congr_left fun y hy => ?_
        obtain ⟨i, hi, rfl⟩ := List.getElem_of_mem hy
        exact snap_congr hL hL' hl fuel _ _ _ (hr i _ (List.getElem?_eq_getElem hi)) (hr' i _ (List.getElem?_eq_getElem hi))
      · rfl
    | own l =>
      have e : L l = L' l := by
        cases h with
        | own _ _ hφ _ => cases h' with
          | own _ _ hφ' _ => exact hl l (by rw [hφ]; simp) (by rw [hφ']; simp)
      simp only [snap, e]
    | lsl l off n sz =>
      have e : L l = L' l := by
        cases h with
        | lsl _ _ _ _ _ _ hφ _ => cases h' with
          | lsl _ _ _ _ _ _ hφ' _ => exact hl l (by rw [hφ]; simp) (by rw [hφ']; simp)
      simp only [snap, e]
    | osl l off n sz =>
      have e : L l = L' l := by
        cases h with
        | osl _ _ _ _ _ _ _ _ hφ _ _ => cases h' with
          | osl _ _ _ _ _ _ _ _ hφ' _ _ => exact hl l (by rw [hφ]; simp) (by rw [hφ']; simp)
      simp only [snap, e]
    | agg l' =>
      simp only [snap]
      congr 1
      cases h with
      | agg _ vs hlen hr => cases h' with
        | agg _ vs' hlen' hr' =>
          refine List.map_congr_left fun y hy => ?_
          obtain ⟨i, hi, rfl⟩ := List.getElem_of_mem hy
          exact snap_congr hL hL' hl fuel _ _ _ (hr i _ (List.getElem?_eq_getElem hi)) (hr' i _ (List.getElem?_eq_getElem hi))
    | tup l' =>
      simp only [snap]
      congr 1
      cases h with
      | tup _ vs hlen hr => cases h' with
        | tup _ vs' hlen' hr' =>
          refine List.map_congr_left fun y hy => ?_
          obtain ⟨i, hi, rfl⟩ := List.getElem_of_mem hy
          exact snap_congr hL hL' hl fuel _ _ _ (hr i _ (List.getElem?_eq_getElem hi)) (hr' i _ (List.getElem?_eq_getElem hi))
    | fn f caps =>
      simp only [snap]
      congr 1
      cases h with
      | fn _ _ vs hlen hr => cases h' with
        | fn _ _ vs' hlen' hr' =>
          refine List.map_congr_left fun y hy => ?_
          obtain ⟨i, hi, rfl⟩ := List.getElem_of_mem hy
          exact snap_congr hL hL' hl fuel _ _ _ (hr i _ (List.getElem?_eq_getElem hi)) (hr' i _ (List.getElem?_eq_getElem hi))
    | _ => rfl

/-- What an operation comes to hangs on labels that both states know. -/
theorem aop_both {w w' : World} {φ φ' : Nat → Option Value} {N N' : Nat → Prop} {base base' : Nat} {L L' : Nat → Option LB} {ev : Operand → AV} {ρ ρ' : Operand → Value} (hE : ∀ x, Rep w φ N (ev x) (ρ x)) (hE' : ∀ x, Rep w' φ' N' (ev x) (ρ' x)) (hL : ∀ l B, L l = some B → Holds w φ N base l B) (hL' : ∀ l B, L' l = some B → Holds w' φ' N' base' l B) (hl : ∀ l, φ l ≠ none → φ' l ≠ none → L l = L' l) {op : Op} (hc : opClass op ≠ 1) : aop tt L ev op = aop tt L' ev op := by
  have hloc : ∀ x l off, ev x = .loc l off → L l = L' l := by
    intro x l off e
    have h1 := hE x
    have h2 := hE' x
    rw [e] at h1 h2
    obtain ⟨u, hu⟩ : ∃ u, ρ x = u := ⟨_, rfl⟩
    obtain ⟨u', hu'⟩ : ∃ u, ρ' x = u := ⟨_, rfl⟩
    rw [hu] at h1
    rw [hu'] at h2
    cases h1 with
    | loc _ _ _ hφ => cases h2 with
      | loc _ _ _ hφ' => exact hl l (by rw [hφ]; simp) (by rw [hφ']; simp)
  have hrloc : ∀ x l sz r f, ev x = .rloc l sz r f → L l = L' l := by
    intro x l sz r f e
    have h1 := hE x
    have h2 := hE' x
    rw [e] at h1 h2
    obtain ⟨u, hu⟩ : ∃ u, ρ x = u := ⟨_, rfl⟩
    obtain ⟨u', hu'⟩ : ∃ u, ρ' x = u := ⟨_, rfl⟩
    rw [hu] at h1
    rw [hu'] at h2
    cases h1 with
    | rloc _ _ _ _ _ _ _ hφ => cases h2 with
      | rloc _ _ _ _ _ _ _ hφ' => exact hl l (by rw [hφ]; simp) (by rw [hφ']; simp)
  have hown : ∀ x l, ev x = .own l → L l = L' l := by
    intro x l e
    have h1 := hE x
    have h2 := hE' x
    rw [e] at h1 h2
    obtain ⟨u, hu⟩ : ∃ u, ρ x = u := ⟨_, rfl⟩
    obtain ⟨u', hu'⟩ : ∃ u, ρ' x = u := ⟨_, rfl⟩
    rw [hu] at h1
    rw [hu'] at h2
    cases h1 with
    | own _ _ hφ _ => cases h2 with
      | own _ _ hφ' _ => exact hl l (by rw [hφ]; simp) (by rw [hφ']; simp)
  cases op with
  | store t a x =>
    simp only [aop, astore]
    split
    · rfl
    · split
      · rename_i l off e
        rw [hloc a l off e]
      · rename_i l sz r f e
        rw [hrloc a l sz r f e]
      · rfl
  | call c =>
    obtain ⟨cal, args, ats⟩ := c
    cases cal with
    | builtin b =>
      cases b <;> try (first | rfl | (simp [opClass] at hc; done))
      simp only [aop]
      split
      · rename_i x y t t' _ _
        split
        · unfold aappend
          split
          · rfl
          · have e1 : newsOf L (ev y) = newsOf L' (ev y) := by
              unfold newsOf
              split
              · rfl
              · rename_i l e
                rw [hown y l e]
              · rfl
            rw [e1]
            split
            · rfl
            · split
              · rfl
              · rename_i l e
                rw [hown x l e]
              · rfl
        · rfl
      · rfl
    | value f =>
      simp only [aop]
      split
      · rename_i F caps hf
        have e1 : args.toList.map (fun x => snap L 6 (ev x)) = args.toList.map (fun x => snap L' 6 (ev x)) := List.map_congr_left fun x _ => snap_congr hL hL' hl 6 _ _ _ (hE x) (hE' x)
        have e2 : caps.map (snap L 6) = caps.map (snap L' 6) := by
          have h1 := hE f
          have h2 := hE' f
          rw [hf] at h1 h2
          obtain ⟨u, hu⟩ : ∃ u, ρ f = u := ⟨_, rfl⟩
          obtain ⟨u', hu'⟩ : ∃ u, ρ' f = u := ⟨_, rfl⟩
          rw [hu] at h1
          rw [hu'] at h2
          cases h1 with
          | fn _ _ vs hlen hr => cases h2 with
            | fn _ _ vs' hlen' hr' =>
              refine List.map_congr_left fun y hy => ?_
              obtain ⟨i, hi, rfl⟩ := List.getElem_of_mem hy
              exact snap_congr hL hL' hl 6 _ _ _ (hr i _ (List.getElem?_eq_getElem hi)) (hr' i _ (List.getElem?_eq_getElem hi))
        rw [e1, e2]
      · rfl
    | invoke r m => rfl
  | makeFunc fn first caps => cases fn <;> rfl
  | load t x => simp [opClass] at hc
  | indexAddr t x i => simp [opClass] at hc
  | slice t x lo hi mx => simp [opClass] at hc
  | _ => rfl

theorem aop_class {lb : Nat → Option LB} {ev : Operand → AV} {op : Op} : (aop tt lb ev op).kind = 0 ∨ ((aop tt lb ev op).kind = 1 ∧ opClass op = 5) ∨ ((aop tt lb ev op).kind = 2 ∧ opClass op = 2) ∨ ((aop tt lb ev op).kind = 3 ∧ opClass op = 3) ∨ ((aop tt lb ev op).kind = 4 ∧ opClass op = 4) := by
  rcases aop_kind (tt := tt) (lb := lb) (ev := ev) (op := op) with h | h
  · exact .inl h
  · cases op with
    | alloc e => exact .inr (.inl ⟨h, rfl⟩)
    | box e x => exact .inr (.inl ⟨h, rfl⟩)
    | buildSlice t l p => exact .inr (.inl ⟨h, rfl⟩)
    | makeSlice t l c => exact .inr (.inl ⟨h, rfl⟩)
    | store t a x => exact .inr (.inr (.inl ⟨h, rfl⟩))
    | call c =>
      obtain ⟨cal, args, ats⟩ := c
      cases cal with
      | builtin b =>
        cases b <;> first
          | exact .inr (.inr (.inr (.inl ⟨h, rfl⟩)))
          | (left; simp only [aop]; repeat' split
             all_goals first | exact k_len | rfl)
          | (left; exact k_minmax)
      | value f => exact .inr (.inr (.inr (.inr ⟨h, rfl⟩)))
      | invoke r m => exact .inr (.inr (.inr (.inr ⟨h, rfl⟩)))
    | _ => exact .inl (h.trans rfl)
end
end Go.Proofs.YtfemklaeonkidaaV

import Derived.Test.YtfemklaeonkidaaVcY
/- What the evaluator says of the model: regions in whatever order, the whole. -/
namespace Go.Proofs.YtfemklaeonkidaaV
open Go Go.RowKit
set_option linter.unusedVariables false
set_option linter.unusedSimpArgs false

section
variable {P : Program} {tt : TypeId → Option TI} (hT : TOk P tt) {n : Nat} {w0 : World} {M : Nat → Option Value} {N0 : NG}
variable {all : Array Oper} {crs : List (List Operand)} {U0 : Nat → Prop} {E0 : Nat → Option AV} {L0 : Nat → Option LB} {rs : List (Nat × Res)}

theorem used_of {φ : Nat → Option Value} {N U : Nat → Prop} {E : Nat → Option AV} {L : Nat → Option LB} {a : Act} {w : World} (R : Rel n w0 M N0 φ N U E L a w) {m : Nat} (h : φ m ≠ none) : U m :=
  Classical.byContradiction fun hn => h (R.fresh m hn)

theorem rlab_place {w : World} {φ : Nat → Option Value} {N : Nat → Prop} {x : AV} {v : Value} {m : Nat} (h : Rep w φ N x v) (hm : rlab x = some m) : φ m ≠ none := by
  cases h with
  | loc l off b hφ => simp only [rlab, Option.some.injEq] at hm; subst hm; rw [hφ]; simp
  | own l v hφ h1 => simp only [rlab, Option.some.injEq] at hm; subst hm; rw [hφ]; simp
  | rloc l sz i f b n c hφ => simp only [rlab, Option.some.injEq] at hm; subst hm; rw [hφ]; simp
  | osl l off n sz b m' c' c hφ _ _ => simp only [rlab, Option.some.injEq] at hm; subst hm; rw [hφ]; simp
  | _ => simp [rlab] at hm

theorem has_place {w : World} {φ : Nat → Option Value} {N : Nat → Prop} {m : Nat} {x : AV} {v : Value} (h : Rep w φ N x v) (hm : x.has m = true) : φ m ≠ none := by
  have hall : ∀ (l : List AV), allHas m l = true → ∃ (i : Nat) (y : AV), l[i]? = some y ∧ y.has m = true := by
    intro l
    induction l with
    | nil => intro h; cases h
    | cons a r ih =>
      intro h
      rw [allHas, Bool.or_eq_true] at h
      rcases h with h | h
      · exact ⟨0, a, rfl, h⟩
      · obtain ⟨i, y, h1, h2⟩ := ih h
        exact ⟨i + 1, y, by simpa using h1, h2⟩
  induction h with
  | agg l vs hl _ ih => obtain ⟨i, y, h1, h2⟩ := hall l hm; exact ih i y h1 h2
  | tup l vs hl _ ih => obtain ⟨i, y, h1, h2⟩ := hall l hm; exact ih i y h1 h2
  | fn f l vs hl _ ih => obtain ⟨i, y, h1, h2⟩ := hall l hm; exact ih i y h1 h2
  | loc l off b h => rw [← Nat.eq_of_beq_eq_true hm, h]; simp
  | own l v h h1 => rw [← Nat.eq_of_beq_eq_true hm, h]; simp
  | rloc l sz i f b n c h => rw [← Nat.eq_of_beq_eq_true hm, h]; simp
  | lsl l off n sz b c h hc => rw [← Nat.eq_of_beq_eq_true hm, h]; simp
  | osl l off n sz b m c' c h hc hc' => rw [← Nat.eq_of_beq_eq_true hm, h]; simp
  | _ => simp [AV.has] at hm
theorem allHas_place {w : World} {φ : Nat → Option Value} {N : Nat → Prop} {m : Nat} {l : List AV} {vs : List Value} (h : ∀ i x, l[i]? = some x → Rep w φ N x (vs.getD i undef)) (hm : allHas m l = true) : φ m ≠ none := by
  have h' : Rep w φ N (.tup l) (.tuple (vs.toArray.extract 0 l.length ++ Array.replicate (l.length - vs.length) undef)) := by
    refine .tup l _ (by simp; omega) fun i x hx => ?_
    have := h i x hx
    have hi := getElem?_lt hx
    rw [List.getD_eq_getElem?_getD] at this
    rw [Array.getD_eq_getD_getElem?, Array.getElem?_append]
    split
    · rename_i hlt
      simp at hlt
      rw [Array.getElem?_extract]
      simpa [hlt] using this
    · rename_i hlt
      simp at hlt
      rw [List.getElem?_eq_none (by omega)] at this
      rw [Array.getElem?_replicate]
      split <;> exact this
  exact has_place (m := m) h' hm
theorem run_raw {w : World} {φ : Nat → Option Value} {N : Nat → Prop} {P : Program} {tt : TypeId → Option TI} {lb : Nat → Option LB} {ev : Operand → AV} {ρ : Operand → Value} (hE : ∀ x, Rep w φ N (ev x) (ρ x)) {op : Op} {F : FuncId} {args : List AV} {fr : Bool} {raw : List AV} (h : aop tt lb ev op = .call F args fr raw) :
    ∃ vs : List Value, ∀ i x, raw[i]? = some x → Rep w φ N x (vs.getD i undef) := by
  have hk := aop_kind (tt := tt) (lb := lb) (ev := ev) (op := op)
  rw [h] at hk
  have hk : opKind op = 4 := by
    rcases hk with hk | hk
    · cases hk
    · exact hk.symm
  cases op with
  | call c =>
    obtain ⟨cal, as, ats⟩ := c
    simp only [aop] at h
    split at h
    · cases hk
    · cases hk
    · cases hk
    · cases hk
    · rename_i f _
      split at h
      · rename_i F' caps hf
        simp only [Out.call.injEq] at h
        obtain ⟨rfl, rfl, rfl, rfl⟩ := h
        have hfv := hE f
        rw [hf] at hfv
        obtain ⟨u, hu⟩ : ∃ u, ρ f = u := ⟨_, rfl⟩
        rw [hu] at hfv
        cases hfv with
        | fn _ _ vs hl hr =>
          refine ⟨as.toList.map ρ ++ vs.toList, fun i x hx => ?_⟩
          rw [List.getElem?_append] at hx
          rw [List.getD_eq_getElem?_getD, List.getElem?_append]
          simp only [List.length_map] at hx ⊢
          split at hx
          · rename_i hlt
            rw [if_pos hlt]
            rw [List.getElem?_map] at hx ⊢
            cases hp : as.toList[i]? with
            | none => rw [hp] at hx; cases hx
            | some r =>
              rw [hp] at hx
              obtain rfl := Option.some.inj hx
              exact hE r
          · rename_i hlt
            rw [if_neg hlt]
            have := hr _ x hx
            simpa [Array.getD_eq_getD_getElem?] using this
      · cases h
    · cases h
  | _ => cases hk
theorem rdOp_mem {op : Op} {x : Operand} (hc : opClass op = 1) (h : rdOp op = some x) : x ∈ op.operands.toList := by
  cases op with
  | load t y => simp only [rdOp, Option.some.injEq] at h; subst h; simp [Op.operands]
  | indexAddr t y i => simp only [rdOp, Option.some.injEq] at h; subst h; simp [Op.operands]
  | slice t y lo hi mx => simp only [rdOp, Option.some.injEq] at h; subst h; simp [Op.operands]
  | call c =>
    obtain ⟨cal, args, ats⟩ := c
    simp only [rdOp] at h
    have : x ∈ args := Array.mem_of_getElem? h
    simp [Op.operands, Call.operands, this]
  | _ => simp [opClass] at hc

include hT
/-- A label that is written, or a row that grows, was there. -/
theorem tgt_used {φ : Nat → Option Value} {N U : Nat → Prop} {E : Nat → Option AV} {L : Nat → Option LB} {a : Act} {w : World} (R : Rel n w0 M N0 φ N U E L a w) {op : Op} {lab m : Nat} {r : Res} (h : (aop tt L (evE E) op).to P L lab r) (ht : tgt lab m r) : (isNewR r = true ∧ m = lab) ∨ U m := by
  generalize hout : aop tt L (evE E) op = out at h
  cases out with
  | val p x => obtain ⟨_, rfl⟩ := h; exact ht.elim
  | new p B f => obtain ⟨_, rfl⟩ := h; exact .inl ⟨rfl, ht⟩
  | put p l B =>
    obtain ⟨hp, rfl⟩ := h
    obtain ⟨w', b, v, _, h2, _⟩ := run_put (d := none) (ty := 0) (po := "") (af := #[]) (g := none) hT R.ev R.lbl R.low hout hp
    have ht : m = l := ht
    subst ht
    exact .inr (used_of R (by rw [h2]; simp))
  | grow p l B =>
    obtain ⟨hp, rfl⟩ := h
    obtain ⟨v', w', row, _, _, _, _, h5, _⟩ := run_grow (d := none) (ty := 0) (po := "") (af := #[]) (g := none) hT R.ev R.lbl R.low (Nat.zero_le _) hout hp
    cases l with
    | none => exact .inl ⟨rfl, ht⟩
    | some l0 =>
      rcases ht with ht | ht
      · exact .inl ⟨rfl, ht⟩
      · right
        rcases h5 with ⟨h, _⟩ | ⟨l1, v0, h1, _, h2, _⟩
        · cases h
        · obtain rfl := Option.some.inj h1
          subst ht
          exact used_of R (by rw [h2]; simp)
  | call F args fr raw =>
    rcases h with ⟨x, _, _, rfl⟩ | ⟨ls, nw, x, ⟨ids, Ls, as, Ls', r', hok, q1, q2, q3, q4, q5, q6, q7, q8, q9, q10, rfl, rfl⟩, rfl⟩
    · exact ht.elim
    · rcases ht with ht | ⟨p, hp, ht⟩
      · exact .inl ⟨rfl, ht⟩
      · right
        obtain ⟨i, hi, hi'⟩ := List.getElem_of_mem (List.of_mem_zip (show (p.1, p.2) ∈ ids.zip Ls' from hp)).1
        rw [ht] at hi'
        have hL := q3 i m Ls[i] (by rw [List.getElem?_eq_getElem hi, hi']) (List.getElem?_eq_getElem (by omega))
        obtain ⟨u, hu, _⟩ := (R.lbl m _ hL).place
        exact used_of R (by rw [hu]; simp)
  | bad => exact h.elim

/-- An operation that may go next. -/
theorem RCtx.step (C : RCtx P tt n w0 M N0 all crs U0 E0 L0 rs) {l l' : Nat → Bool} (hc : Closed all l) {j : Nat} {o : Oper} (ho : all[j]? = some o) (hj : l j = false) (hr : ∀ i, edgeTo o i = true → l i = true) (hl' : ∀ i, l' i = if i = j then true else l i)
    {a : Act} {w : World} (ht : Tel n w0 M N0 (usedL rs l U0) (envL all.toList rs l E0) (lblL rs l L0) a w) {Q : Exit → Act → World → Prop} {next : Act → World → Prop} (hn : ∀ a w, Tel n w0 M N0 (usedL rs l' U0) (envL all.toList rs l' E0) (lblL rs l' L0) a w → next a w) : wpOp P all Q j next a w := by
  obtain ⟨lab, r, hrj, hf, Uc, ac, wc, htc, hlater⟩ := C.at_ j o ho
  obtain ⟨hops, hgd⟩ := C.op_at hc ho hj hr
  have htrue : l' j = true := by rw [hl']; simp
  have hother : ∀ i, i ≠ j → l i = l' i := fun i hi => by rw [hl', if_neg hi]
  have hol : all.toList[j]? = some o := by simpa using ho
  have hE : fE (envL all.toList rs l E0) o.dst r.x = envL all.toList rs l' E0 := by
    funext t
    by_cases hd : o.dst = some t
    · rw [envL_hit all.toList rs l' E0 j o lab r hol hd hrj htrue (fun i p hp hpd => C.unique (by simpa using hp) ho hpd hd)]
      simp [fE, hd]
    · have : fE (envL all.toList rs l E0) o.dst r.x t = envL all.toList rs l E0 t := by simp [fE, hd]
      rw [this]
      refine envL_congr _ _ _ _ _ _ (fun i p hp hpd => hother i (fun e => ?_)) rfl
      subst e
      rw [hol] at hp
      obtain rfl := Option.some.inj hp
      exact hd hpd
  have hUsed : ∀ m, usedL rs l U0 m → usedL rs l' U0 m := fun m hm => by
    rcases hm with h | ⟨i, lab', r', h1, h2, h3, h4⟩
    · exact .inl h
    · refine .inr ⟨i, lab', r', h1, ?_, h3, h4⟩
      rw [hl']
      split
      · rfl
      · exact h2
  unfold wpOp
  rw [ho]
  simp only
  obtain ⟨φ, N, R⟩ := ht
  rcases hf with ⟨hg, rfl⟩ | ⟨hg, hto, hcf⟩
  · rw [wanted_of R (hgd.trans hg)]
    simp only [Bool.false_eq_true, if_false]
    refine hn _ _ ⟨φ, N, ?_⟩
    have hL : lblL rs l' L0 = lblL rs l L0 := by
      funext m
      refine lblL_congr _ _ _ _ _ (fun i lab' r' hri hti => ?_) rfl
      by_cases hij : i = j
      · subst hij
        rw [hrj] at hri
        obtain ⟨rfl, rfl⟩ : lab = lab' ∧ Res.val (AV.raw undef) = r' := by simpa using hri
        exact hti.elim
      · exact (hother i hij).symm
    rw [hL, ← hE]
    exact (R.put (d := o.dst) (C.dsts j o ho) (.raw undef)).more hUsed
  · rw [wanted_of R (hgd.trans hg)]
    simp only [if_true]
    obtain ⟨φc, Nc, Rc⟩ := htc
    have hsame : aop tt (lblL rs l L0) (evE (envL all.toList rs l E0)) o.op = aop tt (lblL rs (fun i => decide (i < j)) L0) (evE (envL all.toList rs (fun i => decide (i < j)) E0)) o.op := by
      rw [aop_ev hops]
      by_cases h0 : opClass o.op = 0 ∨ opClass o.op = 5
      · exact aop_none h0
      · have htouch : touchC (opClass o.op) = true := by
          have hcls : opClass o.op = 0 ∨ opClass o.op = 1 ∨ opClass o.op = 2 ∨ opClass o.op = 3 ∨ opClass o.op = 4 ∨ opClass o.op = 5 := by
            cases o.op with
            | call c =>
              obtain ⟨cal, args, ats⟩ := c
              cases cal with
              | builtin b => cases b <;> simp [opClass]
              | value f => simp [opClass]
              | invoke r m => simp [opClass]
            | _ => simp [opClass]
          rcases hcls with h | h | h | h | h | h
          · exact absurd (.inl h) h0
          · rw [h]; rfl
          · rw [h]; rfl
          · rw [h]; rfl
          · rw [h]; rfl
          · exact absurd (.inr h) h0
        by_cases h1 : opClass o.op = 1
        · refine aop_reader h1 (fun x m hx hm => ?_)
          have hxm := rdOp_mem h1 hx
          have hc1 : φc m ≠ none := rlab_place (Rc.ev x) hm
          have hl1 : φ m ≠ none := rlab_place (R.ev x) (by rw [hops x hxm]; exact hm)
          refine C.lbl_at hc ho hj hr htouch (U := Uc) hlater (used_of Rc hc1) (used_of R hl1) (fun i p B labi hp hji hri h2 _ hcr => ?_)
          -- a writer that passed by writes elsewhere
          obtain ⟨labi', ri', hri', hfi, _⟩ := C.at_ i p hp
          rw [hri] at hri'
          obtain ⟨rfl, rfl⟩ : labi = labi' ∧ Res.put m B = ri' := by simpa using hri'
          rcases hfi with ⟨_, h⟩ | ⟨_, _, hcl⟩
          · cases h
          · unfold crossed at hcr
            rw [hx] at hcr
            cases x with
            | tmp t =>
              simp only [Bool.and_eq_true] at hcr
              obtain ⟨hmem, hst⟩ := hcr
              have hmem := hasN_mem.1 hmem
              have hEq : envL all.toList rs (fun k => decide (k < i)) E0 t = envL all.toList rs (fun k => decide (k < j)) E0 t := by
                refine envL_congr _ _ _ _ _ _ (fun k q hq hqd => ?_) rfl
                by_cases hkj : k < j
                · simp [hkj, show k < i by omega]
                · by_cases hki : k < i
                  · have := (List.all_eq_true.1 hst) k (List.mem_range.2 hki)
                    rw [hq] at this
                    simp only [Bool.or_eq_true, Bool.not_eq_true'] at this
                    rcases this with h | h
                    · have : k + 1 ≤ j := by simpa [Nat.blt] using h
                      omega
                    · unfold dstIn at h
                      rw [hqd] at h
                      simp [hasN, Nat.beq_refl] at h
                  · simp [hkj, hki]
              have hno : ∀ (cr : List Operand), noClash (evE (envL all.toList rs (fun k => decide (k < i)) E0)) m cr → t ∈ opTmps cr → False := by
                intro cr
                induction cr with
                | nil => intro _ h; simp [opTmps] at h
                | cons y r ih =>
                  intro h ht
                  cases y with
                  | tmp u =>
                    simp only [opTmps, List.mem_cons] at ht
                    rcases ht with rfl | ht
                    · refine h.1 ?_
                      have : evE (envL all.toList rs (fun k => decide (k < i)) E0) (.tmp t) = evE (envL all.toList rs (fun k => decide (k < j)) E0) (.tmp t) := by
                        show (envL all.toList rs (fun k => decide (k < i)) E0 t).getD .any = (envL all.toList rs (fun k => decide (k < j)) E0 t).getD .any
                        rw [hEq]
                      rw [this]
                      exact hm
                    · exact ih h.2 ht
                  | _ => exact ih h.2 (by simpa [opTmps] using ht)
              exact hno _ hcl hmem
            | _ => cases hcr
        · -- both states know what it looks at
          classical
          let ev : Operand → AV := fun x => if x ∈ o.op.operands.toList then evE (envL all.toList rs (fun i => decide (i < j)) E0) x else .any
          have hev : ∀ L, aop tt L (evE (envL all.toList rs (fun i => decide (i < j)) E0)) o.op = aop tt L ev o.op := fun L => aop_ev fun x hx => by
            show _ = (if x ∈ o.op.operands.toList then _ else _)
            rw [if_pos hx]
          rw [hev, hev]
          refine aop_both (ρ := a.eval) (ρ' := ac.eval) (fun x => ?_) (fun x => ?_) R.lbl Rc.lbl (fun m hm hm' => ?_) h1
          · show Rep w φ N (if x ∈ o.op.operands.toList then _ else _) _
            split
            · rename_i hx
              rw [← hops x hx]
              exact R.ev x
            · exact .any _
          · show Rep wc φc Nc (if x ∈ o.op.operands.toList then _ else _) _
            split
            · exact Rc.ev x
            · exact .any _
          · exact C.lbl_at hc ho hj hr htouch (U := Uc) hlater (used_of Rc hm') (used_of R hm) (fun i p B labi _ _ _ _ h _ => h1 h)
    have hto' : (aop tt (lblL rs l L0) (evE (envL all.toList rs l E0)) o.op).to P (lblL rs l L0) lab r := by
      rw [hsame]
      generalize hout : aop tt (lblL rs (fun i => decide (i < j)) L0) (evE (envL all.toList rs (fun i => decide (i < j)) E0)) o.op = out at hto
      cases out with
      | call F args fr raw =>
        rcases hto with h | ⟨ls, nw, x, ⟨ids, Ls, as, Ls', r', hok, q1, q2, q3, q4, q5, q6⟩, hr'⟩
        · exact .inl h
        · refine .inr ⟨ls, nw, x, ⟨ids, Ls, as, Ls', r', hok, q1, q2, fun i id B h1 h2 => ?_, q4, q5, q6⟩, hr'⟩
          obtain ⟨_, hraw⟩ := run_raw (P := P) Rc.ev hout
          obtain ⟨_, hraw'⟩ := run_raw (P := P) R.ev (hsame.trans hout)
          have hids := q5 id (List.mem_of_getElem? h1)
          have hcl : opClass o.op = 4 := by
            have hk := aop_class (tt := tt) (lb := lblL rs (fun i => decide (i < j)) L0) (ev := evE (envL all.toList rs (fun i => decide (i < j)) E0)) (op := o.op)
            rw [hout] at hk
            rcases hk with h | h | h | h | h
            · cases h
            · cases h.1
            · cases h.1
            · cases h.1
            · exact h.2
          rw [C.lbl_at hc ho hj hr (by rw [hcl]; rfl) (U := Uc) hlater (used_of Rc (allHas_place hraw hids)) (used_of R (allHas_place hraw' hids)) (fun _ _ _ _ _ _ _ _ h _ => by rw [hcl] at h; cases h)]
          exact q3 i id B h1 h2
      | _ => exact hto
    have hL : fL (lblL rs l L0) lab r = lblL rs l' L0 := by
      funext m
      by_cases htm : tgt lab m r
      · symm
        refine lblL_hit rs l' L0 (lblL rs l L0) j lab r hrj htm htrue (fun i lab' r' hri hji hli hti => ?_)
        have hli : l i = true := by rw [hother i (by omega)]; exact hli
        have hi : i < all.size := by
          rw [← C.len]
          exact getElem?_lt hri
        obtain ⟨p, hp⟩ : ∃ p, all[i]? = some p := ⟨all[i], by simp [hi]⟩
        rcases C.kinds hp hri hti with ⟨hnew, rfl, _⟩ | ⟨hmut, hput⟩
        · rcases tgt_used hT Rc hto htm with ⟨hnj, rfl⟩ | hu
          · have := C.mono j i _ _ _ _ hji hrj hri hnj
            omega
          · exact hlater _ ⟨i, _, r', by omega, hri, rfl⟩ hu
        · have hpair := C.pair ho hp hji
          rcases (pair_cases hpair).2 with he | he
          · have := he l hc (fun k hk => hc i p k hp hli hk)
            rw [hj] at this; cases this
          · have hcj : touchC (opClass o.op) = true ∨ newC (crs.getD j []) (opClass o.op) = true := by
              rcases C.kinds ho hrj htm with ⟨_, _, h⟩ | ⟨h, _⟩
              · exact .inr h
              · left
                unfold mutC at h
                unfold touchC
                simp only [Bool.or_eq_true, Bool.and_eq_true] at h ⊢
                rcases h with h | h | h
                · exact .inl (.inl (.inr h))
                · exact .inl (.inr h)
                · exact .inr h.1
            rcases he.2 with h' | h'
            · rw [hmut] at h'
              rcases hcj with h | h <;> rw [h] at h' <;> simp at h'
            · have h1 := Nat.eq_of_beq_eq_true h'.1.2
              rcases C.kinds ho hrj htm with ⟨_, _, h⟩ | ⟨h, _⟩ <;> rw [h1] at h <;> simp [newC, mutC] at h
      · rw [fL_not htm]
        refine lblL_congr _ _ _ _ _ (fun i lab' r' hri hti => ?_) rfl
        by_cases hij : i = j
        · subst hij
          rw [hrj] at hri
          obtain ⟨rfl, rfl⟩ : lab = lab' ∧ r = r' := by simpa using hri
          exact absurd hti htm
        · exact hother i hij
    have hlab : isNewR r = true → ¬ usedL rs l U0 lab := by
      intro hnew hu
      rcases hu with h0 | ⟨i, lab', r', hri, hli, hni, rfl⟩
      · exact C.new0 j _ r hrj h0
      · rcases Nat.lt_trichotomy i j with h | h | h
        · have := C.mono i j _ _ _ _ h hri hrj hni; omega
        · subst h; rw [hj] at hli; cases hli
        · have := C.mono j i _ _ _ _ h hrj hri hnew; omega
    refine .inl (Oper.wp_mono (fun a' w' h' => hn a' w' ?_) (op_sound hT R (C.dsts j o ho) hlab hto'))
    rw [hE, hL] at h'
    obtain ⟨φ', N', R'⟩ := h'
    refine ⟨φ', N', R'.more fun m hm => ?_⟩
    have hnew : isNewR r = true → m = lab → usedL rs l' U0 m := fun h e => .inr ⟨j, lab, r, hrj, htrue, h, e⟩
    cases r with
    | val x => exact hUsed m hm
    | put l B => exact hUsed m hm
    | new B x =>
      rcases hm with hm | hm
      · exact hUsed m hm
      · exact hnew rfl hm
    | grow l B x =>
      rcases hm with hm | hm
      · exact hUsed m hm
      · exact hnew rfl hm
    | eff l B x =>
      rcases hm with hm | hm
      · exact hUsed m hm
      · exact hnew rfl hm
end
end Go.Proofs.YtfemklaeonkidaaV

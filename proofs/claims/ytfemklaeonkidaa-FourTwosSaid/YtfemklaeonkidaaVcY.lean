import Derived.Test.YtfemklaeonkidaaVcX
/- What the evaluator says of the model: regions in whatever order. -/
namespace Go.Proofs.YtfemklaeonkidaaV
open Go Go.RowKit
set_option linter.unusedVariables false
set_option linter.unusedSimpArgs false

def edgeTo (o : Oper) (i : Nat) : Bool := o.after.toList.any fun e => Region.binds .any e && Nat.beq e.on i
def opTmps : List Operand → List Nat
  | [] => []
  | .tmp t :: r => t :: opTmps r
  | _ :: r => opTmps r
def guardT (all : Array Oper) (o : Oper) : List Nat :=
  match o.guard with
  | none => []
  | some (j, _) => match (all[j]?).bind (·.dst) with
    | some t => [t]
    | none => []
def hasN (t : Nat) : List Nat → Bool
  | [] => false
  | u :: r => Nat.beq t u || hasN t r
def usesT (all : Array Oper) (o : Oper) : List Nat := opTmps o.op.operands.toList ++ guardT all o
def dstIn (o : Oper) (l : List Nat) : Bool :=
  match o.dst with
  | none => false
  | some t => hasN t l
def dstSame (a b : Oper) : Bool :=
  match a.dst, b.dst with
  | some t, some u => Nat.beq t u
  | _, _ => false
def mutC (cr : List Operand) (c : Nat) : Bool := Nat.beq c 2 || (Nat.beq c 3 || (Nat.beq c 4 && marked cr))
def touchC (c : Nat) : Bool := Nat.beq c 1 || Nat.beq c 2 || Nat.beq c 3 || Nat.beq c 4
def newC (cr : List Operand) (c : Nat) : Bool := Nat.beq c 5 || (Nat.beq c 3 || (Nat.beq c 4 && marked cr))
/-- Must this operation wait for that one, by others between? -/
def reach (all : Array Oper) : Nat → Oper → Nat → Bool
  | 0, _, _ => false
  | n + 1, b, i => b.after.toList.any fun e => Region.binds .any e && (Nat.beq e.on i || match all[e.on]? with
    | some p => reach all n p i
    | none => false)
/-- A reader ahead of a writer, in whatever order: the address is among these, and stays. -/
def crossed (os : List Oper) (cr : List Operand) (i j : Nat) (a : Oper) : Bool :=
  match rdOp a.op with
  | some (.tmp t) => hasN t (opTmps cr) && (List.range j).all fun k => Nat.blt k i || (match os[k]? with | some p => !dstIn p [t] | none => true)
  | _ => false
def pairOk (all : Array Oper) (cra cr : List Operand) (i j : Nat) (a b : Oper) : Bool :=
  !dstSame a b && (edgeTo b i || ((!dstIn a (usesT all b) && !dstIn b (usesT all a) && !(mutC cra (opClass a.op) && touchC (opClass b.op)) && (!(mutC cr (opClass b.op) && (touchC (opClass a.op) || newC cra (opClass a.op))) || (Nat.beq (opClass b.op) 2 && Nat.beq (opClass a.op) 1 && crossed all.toList cr i j a))) || reach all 9 b i))
def selfOk (j : Nat) (b : Oper) : Bool := b.after.toList.all fun e => !Region.binds .any e || Nat.blt e.on j
/-- May a region's operations go in whatever order? -/
def drawOk (all : Array Oper) (crs : List (List Operand)) : Bool :=
  (List.range all.size).all fun j => match all[j]? with
    | none => true
    | some b => selfOk j b && (List.range j).all fun i => match all[i]? with
      | none => true
      | some a => pairOk all (crs.getD i []) (crs.getD j []) i j a b

theorem hasN_mem {t : Nat} : ∀ {l : List Nat}, hasN t l = true ↔ t ∈ l
  | [] => by simp [hasN]
  | u :: r => by
    rw [hasN, Bool.or_eq_true, hasN_mem, List.mem_cons]
    constructor
    · rintro (h | h)
      · exact .inl (Nat.eq_of_beq_eq_true h)
      · exact .inr h
    · rintro (rfl | h)
      · exact .inl (Nat.beq_refl t)
      · exact .inr h
theorem opTmps_mem {t : Nat} : ∀ {l : List Operand}, Operand.tmp t ∈ l → t ∈ opTmps l
  | x :: r, h => by
    rcases List.mem_cons.1 h with rfl | h
    · simp [opTmps]
    · have := opTmps_mem h
      cases x <;> simp [opTmps, this]

section
variable {P : Program} {tt : TypeId → Option TI} (hT : TOk P tt) {n : Nat} {w0 : World} {M : Nat → Option Value} {N0 : NG}

/-- What is known of a region. -/
structure RCtx (P : Program) (tt : TypeId → Option TI) (n : Nat) (w0 : World) (M : Nat → Option Value) (N0 : NG) (all : Array Oper) (crs : List (List Operand)) (U0 : Nat → Prop) (E0 : Nat → Option AV) (L0 : Nat → Option LB) (rs : List (Nat × Res)) : Prop where
  at_ : ∀ (j : Nat) (o : Oper), all[j]? = some o → ∃ lab r, rs[j]? = some (lab, r) ∧ Fact P tt n w0 M N0 all (crs.getD j []) (envL all.toList rs (fun i => decide (i < j)) E0) (lblL rs (fun i => decide (i < j)) L0) o lab r (fun l => ∃ i lab' r', j ≤ i ∧ rs[i]? = some (lab', r') ∧ l = lab')
  len : rs.length = all.size
  mono : ∀ (i j li : Nat) (ri : Res) (lj : Nat) (rj : Res), i < j → rs[i]? = some (li, ri) → rs[j]? = some (lj, rj) → isNewR ri = true → li < lj
  new0 : ∀ (i lab : Nat) (r : Res), rs[i]? = some (lab, r) → ¬ U0 lab
  dsts : ∀ (j : Nat) (o : Oper), all[j]? = some o → okDst n o.dst
  ok : drawOk all crs = true

variable {all : Array Oper} {crs : List (List Operand)} {U0 : Nat → Prop} {E0 : Nat → Option AV} {L0 : Nat → Option LB} {rs : List (Nat × Res)}

theorem RCtx.pair (C : RCtx P tt n w0 M N0 all crs U0 E0 L0 rs) {i j : Nat} {a b : Oper} (ha : all[i]? = some a) (hb : all[j]? = some b) (hij : i < j) : pairOk all (crs.getD i []) (crs.getD j []) i j a b = true := by
  have h := C.ok
  unfold drawOk at h
  rw [List.all_eq_true] at h
  have hj : j < all.size := by
    rcases Nat.lt_or_ge j all.size with h' | h'
    · exact h'
    · rw [Array.getElem?_eq_none h'] at hb; cases hb
  have h := h j (List.mem_range.2 hj)
  rw [hb] at h
  simp only [Bool.and_eq_true] at h
  have h := (List.all_eq_true.1 h.2) i (List.mem_range.2 hij)
  rw [ha] at h
  exact h

theorem RCtx.self (C : RCtx P tt n w0 M N0 all crs U0 E0 L0 rs) {j : Nat} {b : Oper} (hb : all[j]? = some b) : selfOk j b = true := by
  have h := C.ok
  unfold drawOk at h
  rw [List.all_eq_true] at h
  have hj : j < all.size := by
    rcases Nat.lt_or_ge j all.size with h' | h'
    · exact h'
    · rw [Array.getElem?_eq_none h'] at hb; cases hb
  have h := h j (List.mem_range.2 hj)
  rw [hb] at h
  simp only [Bool.and_eq_true] at h
  exact h.1

/-- An operation waits for that one. -/
def Pre (all : Array Oper) (b : Oper) (i : Nat) : Prop := ∀ (l : Nat → Bool), (∀ (j : Nat) (o : Oper) (k : Nat), all[j]? = some o → l j = true → edgeTo o k = true → l k = true) → (∀ k, edgeTo b k = true → l k = true) → l i = true
theorem reach_pre (all : Array Oper) : ∀ (n : Nat) (b : Oper) (i : Nat), reach all n b i = true → Pre all b i
  | 0, b, i, h => by cases h
  | n + 1, b, i, h => by
    intro l hc hl
    rw [reach, List.any_eq_true] at h
    obtain ⟨e, he, h⟩ := h
    simp only [Bool.and_eq_true, Bool.or_eq_true] at h
    obtain ⟨hb, h⟩ := h
    have h1 : l e.on = true := hl e.on (by
      unfold edgeTo
      rw [List.any_eq_true]
      exact ⟨e, he, by rw [hb, Nat.beq_refl]; rfl⟩)
    rcases h with h | h
    · rw [← Nat.eq_of_beq_eq_true h]; exact h1
    · split at h
      · rename_i p hp
        exact reach_pre all n p i h l hc (fun k hk => hc e.on p k hp h1 hk)
      · cases h
/-- Two operations: never to the same slot; the one waits for the other, or they do not meddle. -/
theorem pair_cases {all : Array Oper} {cra cr : List Operand} {i j : Nat} {a b : Oper} (h : pairOk all cra cr i j a b = true) : dstSame a b = false ∧ (Pre all b i ∨ (((dstIn a (usesT all b) = false ∧ dstIn b (usesT all a) = false) ∧ (mutC cra (opClass a.op) && touchC (opClass b.op)) = false) ∧ ((mutC cr (opClass b.op) && (touchC (opClass a.op) || newC cra (opClass a.op))) = false ∨ ((Nat.beq (opClass b.op) 2 = true ∧ Nat.beq (opClass a.op) 1 = true) ∧ crossed all.toList cr i j a = true)))) := by
  unfold pairOk at h
  rw [Bool.and_eq_true, Bool.not_eq_true', Bool.or_eq_true, Bool.or_eq_true] at h
  refine ⟨h.1, ?_⟩
  rcases h.2 with h | h | h
  · exact .inl fun l _ hl => hl i h
  · right
    simpa only [Bool.and_eq_true, Bool.or_eq_true, Bool.not_eq_true'] using h
  · exact .inl (reach_pre all 9 b i h)

/-- Done so far: with each operation what it must come after. -/
def Closed (all : Array Oper) (l : Nat → Bool) : Prop := ∀ j o i, all[j]? = some o → l j = true → edgeTo o i = true → l i = true

theorem same_false {a b : Oper} (h : dstSame a b = false) {t : Nat} (ha : a.dst = some t) (hb : b.dst = some t) : False := by
  unfold dstSame at h
  rw [ha, hb] at h
  simp [Nat.beq_refl] at h

theorem RCtx.unique (C : RCtx P tt n w0 M N0 all crs U0 E0 L0 rs) {i j : Nat} {a b : Oper} (ha : all[i]? = some a) (hb : all[j]? = some b) {t : Nat} (hat : a.dst = some t) (hbt : b.dst = some t) : i = j := by
  rcases Nat.lt_trichotomy i j with h | h | h
  · have := C.pair ha hb h
    exact (same_false (pair_cases this).1 hat hbt).elim
  · exact h
  · have := C.pair hb ha h
    exact (same_false (pair_cases this).1 hbt hat).elim

/-- A slot that an operation looks at is as it was in their order. -/
theorem RCtx.env_at (C : RCtx P tt n w0 M N0 all crs U0 E0 L0 rs) {l : Nat → Bool} (hc : Closed all l) {j : Nat} {o : Oper} (ho : all[j]? = some o) (hj : l j = false) (hr : ∀ i, edgeTo o i = true → l i = true) {t : Nat} (ht : t ∈ usesT all o) :
    envL all.toList rs l E0 t = envL all.toList rs (fun i => decide (i < j)) E0 t := by
  refine envL_congr _ _ _ _ _ _ (fun i p hp hd => ?_) rfl
  have hp : all[i]? = some p := by simpa using hp
  have hin : ∀ (l : List Nat), t ∈ l → dstIn p l = true := fun l h => by
    unfold dstIn
    rw [hd]
    exact hasN_mem.2 h
  rcases Nat.lt_trichotomy i j with h | h | h
  · have hpair := C.pair hp ho h
    rcases (pair_cases hpair).2 with he | he
    · rw [he l hc hr]; simp [h]
    · rw [hin _ ht] at he
      exact absurd he.1.1.1 (by simp)
  · subst h
    rw [hj]; simp
  · have hpair := C.pair ho hp h
    have hpair := pair_cases hpair
    have : l i = false := by
      cases hli : l i with
      | false => rfl
      | true =>
        rcases hpair.2 with he | he
        · have := he l hc (fun k hk => hc i p k hp hli hk)
          rw [hj] at this; cases this
        · rw [hin _ ht] at he
          exact absurd he.1.1.2 (by simp)
    rw [this]
    simp; omega

theorem gd_congr {E E' : Nat → Option AV} {o : Oper} (h : ∀ t ∈ guardT all o, E t = E' t) : gd all E o = gd all E' o := by
  unfold gd
  cases hg : o.guard with
  | none => rfl
  | some q =>
    obtain ⟨j, want⟩ := q
    simp only
    split
    · rfl
    · rename_i t ht
      rw [h t (by unfold guardT; rw [hg]; simp [ht])]

theorem RCtx.op_at (C : RCtx P tt n w0 M N0 all crs U0 E0 L0 rs) {l : Nat → Bool} (hc : Closed all l) {j : Nat} {o : Oper} (ho : all[j]? = some o) (hj : l j = false) (hr : ∀ i, edgeTo o i = true → l i = true) :
    (∀ x ∈ o.op.operands.toList, evE (envL all.toList rs l E0) x = evE (envL all.toList rs (fun i => decide (i < j)) E0) x) ∧ gd all (envL all.toList rs l E0) o = gd all (envL all.toList rs (fun i => decide (i < j)) E0) o := by
  refine ⟨fun x hx => ?_, gd_congr fun t ht => C.env_at hc ho hj hr (by unfold usesT; exact List.mem_append.2 (.inr ht))⟩
  cases x with
  | tmp t =>
    show (envL all.toList rs l E0 t).getD .any = _
    rw [C.env_at hc ho hj hr (by unfold usesT; exact List.mem_append.2 (.inl (opTmps_mem hx)))]
    rfl
  | _ => rfl

/-- What an operation came to tells its class. -/
theorem class_of {E : Nat → Option AV} {L : Nat → Option LB} {op : Op} {lab : Nat} {r : Res} (h : (aop tt L (evE E) op).to P L lab r) : (∀ B x, r = .new B x → opClass op = 5) ∧ (∀ l B, r = .put l B → opClass op = 2) ∧ (∀ l B x, r = .grow l B x → opClass op = 3) ∧ (∀ l B x, r = .eff l B x → opClass op = 4) := by
  have hk := aop_class (tt := tt) (lb := L) (ev := evE E) (op := op)
  generalize aop tt L (evE E) op = out at h hk
  cases out with
  | val p x => obtain ⟨_, rfl⟩ := h; exact ⟨fun _ _ e => (by cases e), fun _ _ e => (by cases e), fun _ _ _ e => (by cases e), fun _ _ _ e => (by cases e)⟩
  | new p B f =>
    obtain ⟨_, rfl⟩ := h
    refine ⟨fun _ _ _ => ?_, fun _ _ e => (by cases e), fun _ _ _ e => (by cases e), fun _ _ _ e => (by cases e)⟩
    rcases hk with h | h | h | h | h
    · cases h
    · exact h.2
    · cases h.1
    · cases h.1
    · cases h.1
  | put p l B =>
    obtain ⟨_, rfl⟩ := h
    refine ⟨fun _ _ e => (by cases e), fun _ _ _ => ?_, fun _ _ _ e => (by cases e), fun _ _ _ e => (by cases e)⟩
    rcases hk with h | h | h | h | h
    · cases h
    · cases h.1
    · exact h.2
    · cases h.1
    · cases h.1
  | grow p l B =>
    obtain ⟨_, rfl⟩ := h
    refine ⟨fun _ _ e => (by cases e), fun _ _ e => (by cases e), fun _ _ _ _ => ?_, fun _ _ _ e => (by cases e)⟩
    rcases hk with h | h | h | h | h
    · cases h
    · cases h.1
    · cases h.1
    · exact h.2
    · cases h.1
  | call F args fr raw =>
    rcases h with ⟨x, _, _, rfl⟩ | ⟨ls, nw, x, _, rfl⟩
    · exact ⟨fun _ _ e => (by cases e), fun _ _ e => (by cases e), fun _ _ _ e => (by cases e), fun _ _ _ e => (by cases e)⟩
    · refine ⟨fun _ _ e => (by cases e), fun _ _ e => (by cases e), fun _ _ _ e => (by cases e), fun _ _ _ _ => ?_⟩
      rcases hk with h | h | h | h | h
      · cases h
      · cases h.1
      · cases h.1
      · cases h.1
      · exact h.2
  | bad => exact h.elim

/-- An operation that turns a label, or makes one. -/
theorem RCtx.kinds (C : RCtx P tt n w0 M N0 all crs U0 E0 L0 rs) {i : Nat} {p : Oper} (hp : all[i]? = some p) {lab : Nat} {r : Res} (hr : rs[i]? = some (lab, r)) {m : Nat} (ht : tgt lab m r) :
    (isNewR r = true ∧ m = lab ∧ newC (crs.getD i []) (opClass p.op) = true) ∨ (mutC (crs.getD i []) (opClass p.op) = true ∧ (opClass p.op = 2 → ∃ B, r = .put m B)) := by
  obtain ⟨lab', r', hr', hf⟩ := C.at_ i p hp
  rw [hr] at hr'
  obtain ⟨rfl, rfl⟩ : lab = lab' ∧ r = r' := by simpa using hr'
  rcases hf.1 with ⟨_, rfl⟩ | ⟨_, hto, hcf⟩
  · exact ht.elim
  · obtain ⟨h1, h2, h3, h4⟩ := class_of hto
    cases r with
    | val x => exact ht.elim
    | new B x => exact .inl ⟨rfl, ht, by rw [h1 _ _ rfl]; rfl⟩
    | put l B => exact .inr ⟨by rw [h2 _ _ rfl]; rfl, fun _ => ⟨B, by rw [show m = l from ht]⟩⟩
    | grow l B x =>
      have hc := h3 _ _ _ rfl
      by_cases hm : m = lab
      · exact .inl ⟨rfl, hm, by rw [hc]; rfl⟩
      · exact .inr ⟨by rw [hc]; rfl, fun e => by rw [hc] at e; cases e⟩
    | eff ls nw x =>
      have hc := h4 _ _ _ rfl
      have hm : marked (crs.getD i []) = true := hcf
      by_cases he : m = lab
      · exact .inl ⟨rfl, he, by rw [hc]; unfold newC; rw [hm]; rfl⟩
      · exact .inr ⟨by rw [hc]; unfold mutC; rw [hm]; rfl, fun e => by rw [hc] at e; cases e⟩

/-- A label that both states know is as it was, if no writer has passed by. -/
theorem RCtx.lbl_at (C : RCtx P tt n w0 M N0 all crs U0 E0 L0 rs) {l : Nat → Bool} (hc : Closed all l) {j : Nat} {o : Oper} (ho : all[j]? = some o) (hj : l j = false) (hr : ∀ i, edgeTo o i = true → l i = true) (htouch : touchC (opClass o.op) = true) {U : Nat → Prop} (hU : ∀ m, (∃ i lab' r', j ≤ i ∧ rs[i]? = some (lab', r') ∧ m = lab') → ¬ U m) {m : Nat} (hm : U m) (hm' : usedL rs l U0 m)
    (hx : ∀ i p B lab, all[i]? = some p → j < i → rs[i]? = some (lab, .put m B) → opClass p.op = 2 → opClass o.op = 1 → crossed all.toList (crs.getD i []) j i o = true → False) :
    lblL rs l L0 m = lblL rs (fun i => decide (i < j)) L0 m := by
  refine lblL_congr _ _ _ _ _ (fun i lab r hri ht => ?_) rfl
  have hi : i < all.size := by
    rw [← C.len]
    exact getElem?_lt hri
  obtain ⟨p, hp⟩ : ∃ p, all[i]? = some p := ⟨all[i], by simp [hi]⟩
  have hk := C.kinds hp hri ht
  rcases Nat.lt_trichotomy i j with h | h | h
  · have : l i = true := by
      rcases hk with ⟨hn, rfl, _⟩ | ⟨hmut, _⟩
      · rcases hm' with h0 | ⟨k, lab', r', hrk, hlk, hnk, rfl⟩
        · exact absurd h0 (C.new0 i _ r hri)
        · have : i = k := by
            rcases Nat.lt_trichotomy i k with h | h | h
            · have := C.mono i k _ _ _ _ h hri hrk hn; omega
            · exact h
            · have := C.mono k i _ _ _ _ h hrk hri hnk; omega
          rw [this]
          exact hlk
      · have hpair := C.pair hp ho h
        rcases (pair_cases hpair).2 with he | he
        · exact he l hc hr
        · have := he.1.2
          rw [hmut, htouch] at this
          cases this
    rw [this]
    simp [h]
  · subst h
    rw [hj]
    simp
  · have : l i = false := by
      cases hli : l i with
      | false => rfl
      | true =>
        exfalso
        rcases hk with ⟨hn, rfl, _⟩ | ⟨hmut, hput⟩
        · exact hU _ ⟨i, _, r, by omega, hri, rfl⟩ hm
        · have hpair := C.pair ho hp h
          rcases (pair_cases hpair).2 with he | he
          · have := he l hc (fun k hk => hc i p k hp hli hk)
            rw [hj] at this; cases this
          · rcases he.2 with h' | h'
            · rw [hmut, htouch] at h'
              cases h'
            · obtain ⟨⟨h2, h1⟩, h3⟩ := h'
              have h2 := Nat.eq_of_beq_eq_true h2
              have h1 := Nat.eq_of_beq_eq_true h1
              obtain ⟨B, rfl⟩ := hput h2
              exact hx i p B lab hp h hri h2 h1 h3
    rw [this]
    simp; omega
end
end Go.Proofs.YtfemklaeonkidaaV

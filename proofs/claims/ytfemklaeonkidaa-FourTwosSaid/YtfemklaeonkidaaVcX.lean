import Derived.Test.YtfemklaeonkidaaVcW
/- What the evaluator says of the model: regions in whatever order; what holds at each operation. -/
namespace Go.Proofs.YtfemklaeonkidaaV
open Go Go.RowKit
set_option linter.unusedVariables false
set_option linter.unusedSimpArgs false

/-- Slots and labels behind some of the operations. -/
def envL : List Oper → List (Nat × Res) → (Nat → Bool) → (Nat → Option AV) → (Nat → Option AV)
  | o :: os, (_, r) :: rs, l, E => envL os rs (fun i => l (i + 1)) (if l 0 = true then fE E o.dst r.x else E)
  | _, _, _, E => E
def lblL : List (Nat × Res) → (Nat → Bool) → (Nat → Option LB) → (Nat → Option LB)
  | (lab, r) :: rs, l, L => lblL rs (fun i => l (i + 1)) (if l 0 = true then fL L lab r else L)
  | [], _, L => L
def tgt (lab m : Nat) : Res → Prop
  | .val _ => False
  | .new _ _ => m = lab
  | .put l _ => m = l
  | .grow none _ _ => m = lab
  | .grow (some l) _ _ => m = lab ∨ m = l
  | .eff ls _ _ => m = lab ∨ ∃ p ∈ ls, p.1 = m
def usedL (rs : List (Nat × Res)) (l : Nat → Bool) (U : Nat → Prop) : Nat → Prop := fun m => U m ∨ ∃ i lab r, rs[i]? = some (lab, r) ∧ l i = true ∧ isNewR r = true ∧ m = lab

theorem envL_none : ∀ (os : List Oper) (rs : List (Nat × Res)) (l : Nat → Bool) (E : Nat → Option AV), (∀ i, l i = false) → envL os rs l E = E
  | [], rs, l, E, _ => by cases rs <;> rfl
  | o :: os, [], l, E, _ => rfl
  | o :: os, (lab, r) :: rs, l, E, h => by
    rw [envL, h 0]
    exact envL_none os rs _ E (fun i => h (i + 1))
theorem lblL_none : ∀ (rs : List (Nat × Res)) (l : Nat → Bool) (L : Nat → Option LB), (∀ i, l i = false) → lblL rs l L = L
  | [], l, L, _ => rfl
  | (lab, r) :: rs, l, L, h => by
    rw [lblL, h 0]
    exact lblL_none rs _ L (fun i => h (i + 1))
theorem envL_all : ∀ (os : List Oper) (rs : List (Nat × Res)) (l : Nat → Bool) (E : Nat → Option AV), (∀ i, i < os.length → l i = true) → envL os rs l E = finE os rs E
  | [], rs, l, E, _ => by cases rs <;> rfl
  | o :: os, [], l, E, _ => rfl
  | o :: os, (lab, r) :: rs, l, E, h => by
    rw [envL, h 0 (by simp)]
    exact envL_all os rs _ _ (fun i hi => h (i + 1) (by simpa using hi))
theorem lblL_all : ∀ (rs : List (Nat × Res)) (l : Nat → Bool) (L : Nat → Option LB), (∀ i, i < rs.length → l i = true) → lblL rs l L = finL rs L
  | [], l, L, _ => rfl
  | (lab, r) :: rs, l, L, h => by
    rw [lblL, h 0 (by simp)]
    exact lblL_all rs _ _ (fun i hi => h (i + 1) (by simpa using hi))
theorem usedL_fin : ∀ (rs : List (Nat × Res)) (l : Nat → Bool) (U : Nat → Prop) (m : Nat), usedL rs l U m → finU rs U m
  | [], l, U, m, h => by
    rcases h with h | ⟨i, lab, r, hr, _⟩
    · exact h
    · simp at hr
  | (lab, r) :: rs, l, U, m, h => by
    refine usedL_fin rs (fun i => l (i + 1)) (fU U lab r) m ?_
    rcases h with h | ⟨i, lab', r', hr, hl, hn, hm⟩
    · left
      cases r <;> first | exact h | exact .inl h
    · cases i with
      | zero =>
        simp at hr
        obtain ⟨rfl, rfl⟩ := hr
        left
        cases r with
        | val x => cases hn
        | put l B => cases hn
        | new B x => exact .inr hm
        | grow l B x => exact .inr hm
        | eff l B x => exact .inr hm
      | succ i => exact .inr ⟨i, lab', r', by simpa using hr, hl, hn, hm⟩

theorem envL_congr {t : Nat} : ∀ (os : List Oper) (rs : List (Nat × Res)) (l l' : Nat → Bool) (E E' : Nat → Option AV), (∀ i o, os[i]? = some o → o.dst = some t → l i = l' i) → E t = E' t → envL os rs l E t = envL os rs l' E' t
  | [], rs, l, l', E, E', _, h => by cases rs <;> exact h
  | o :: os, [], l, l', E, E', _, h => h
  | o :: os, (lab, r) :: rs, l, l', E, E', hl, h => by
    rw [envL, envL]
    refine envL_congr os rs _ _ _ _ (fun i p hp hd => hl (i + 1) p (by simpa using hp) hd) ?_
    by_cases hd : o.dst = some t
    · rw [hl 0 o (by simp) hd]
      split
      · simp [fE, hd]
      · exact h
    · have e : ∀ (E : Nat → Option AV), fE E o.dst r.x t = E t := fun E => by simp [fE, hd]
      split <;> split <;> simp [e, h]

theorem envL_hit {t : Nat} : ∀ (os : List Oper) (rs : List (Nat × Res)) (l : Nat → Bool) (E : Nat → Option AV) (j : Nat) (o : Oper) (lab : Nat) (r : Res), os[j]? = some o → o.dst = some t → rs[j]? = some (lab, r) → l j = true → (∀ i p, os[i]? = some p → p.dst = some t → i = j) → envL os rs l E t = some r.x
  | [], rs, l, E, j, o, lab, r, ho, _, _, _, _ => by simp at ho
  | p :: os, [], l, E, j, o, lab, r, _, _, hr, _, _ => by simp at hr
  | p :: os, (lab', r') :: rs, l, E, 0, o, lab, r, ho, hd, hr, hl, hu => by
    simp at ho hr
    subst ho
    obtain ⟨rfl, rfl⟩ := hr
    rw [envL, hl]
    have : envL os rs (fun i => l (i + 1)) (if true = true then fE E p.dst r'.x else E) t = envL os rs (fun _ => false) (fE E p.dst r'.x) t := envL_congr os rs _ _ _ _ (fun i q hq hqd => absurd (hu (i + 1) q (by simpa using hq) hqd) (by omega)) rfl
    rw [this, envL_none _ _ _ _ (fun _ => rfl)]
    simp [fE, hd]
  | p :: os, (lab', r') :: rs, l, E, j + 1, o, lab, r, ho, hd, hr, hl, hu => by
    rw [envL]
    exact envL_hit os rs _ _ j o lab r (by simpa using ho) hd (by simpa using hr) hl (fun i q hq hqd => by have := hu (i + 1) q (by simpa using hq) hqd; omega)

theorem putF_in {ls : List (Nat × LB)} {m : Nat} : ∀ {L L' : Nat → Option LB}, (∃ p ∈ ls, p.1 = m) → putF ls L m = putF ls L' m := by
  induction ls with
  | nil => rintro L L' ⟨p, hp, _⟩; cases hp
  | cons q r ih =>
    intro L L' h
    obtain ⟨l, B⟩ := q
    rw [putF, putF]
    by_cases hin : ∃ p ∈ r, p.1 = m
    · exact ih hin
    · have hno : ∀ p ∈ r, p.1 ≠ m := fun p hp e => hin ⟨p, hp, e⟩
      rw [putF_not hno, putF_not hno]
      obtain ⟨p, hp, e⟩ := h
      rcases List.mem_cons.1 hp with rfl | hp
      · simp only at e
        subst e
        simp [fS]
      · exact absurd e (hno p hp)
theorem fL_not {L : Nat → Option LB} {lab m : Nat} {r : Res} (h : ¬ tgt lab m r) : fL L lab r m = L m := by
  cases r with
  | val x => rfl
  | new B x => exact if_neg h
  | put l B => exact if_neg h
  | grow l B x =>
    cases l with
    | none => exact if_neg h
    | some l =>
      have h' : ¬ (m = lab ∨ m = l) := h
      show fS (fS L l none) lab (some B) m = _
      unfold fS
      rw [if_neg (fun e => h' (.inl e)), if_neg (fun e => h' (.inr e))]
  | eff ls nw x =>
    have h' : ¬ (m = lab ∨ ∃ p ∈ ls, p.1 = m) := h
    show fS (putF ls L) lab nw m = _
    unfold fS
    rw [if_neg (fun e => h' (.inl e)), putF_not (fun p hp e => h' (.inr ⟨p, hp, e⟩))]
theorem fL_tgt {L L' : Nat → Option LB} {lab m : Nat} {r : Res} (h : tgt lab m r) : fL L lab r m = fL L' lab r m := by
  cases r with
  | val x => exact h.elim
  | new B x =>
    have h : m = lab := h
    subst h
    simp [fL, fS]
  | put l B =>
    have h : m = l := h
    subst h
    simp [fL, fS]
  | grow l B x =>
    cases l with
    | none =>
      have h : m = lab := h
      subst h
      simp [fL, fS]
    | some l =>
      show fS (fS L l none) lab (some B) m = fS (fS L' l none) lab (some B) m
      unfold fS
      split
      · rfl
      · rename_i hne
        rcases h with h | h
        · exact absurd h hne
        · rw [if_pos h, if_pos h]
  | eff ls nw x =>
    show fS (putF ls L) lab nw m = fS (putF ls L') lab nw m
    unfold fS
    split
    · rfl
    · rename_i hne
      rcases h with h | h
      · exact absurd h hne
      · exact putF_in h

theorem lblL_congr {m : Nat} : ∀ (rs : List (Nat × Res)) (l l' : Nat → Bool) (L L' : Nat → Option LB), (∀ i lab r, rs[i]? = some (lab, r) → tgt lab m r → l i = l' i) → L m = L' m → lblL rs l L m = lblL rs l' L' m
  | [], l, l', L, L', _, h => h
  | (lab, r) :: rs, l, l', L, L', hl, h => by
    rw [lblL, lblL]
    refine lblL_congr rs _ _ _ _ (fun i lab' r' hr ht => hl (i + 1) lab' r' (by simpa using hr) ht) ?_
    by_cases ht : tgt lab m r
    · rw [hl 0 lab r (by simp) ht]
      split
      · exact fL_tgt ht
      · exact h
    · have e : ∀ (L : Nat → Option LB), fL L lab r m = L m := fun L => fL_not ht
      split <;> split <;> simp [e, h]

theorem lblL_hit {m : Nat} : ∀ (rs : List (Nat × Res)) (l : Nat → Bool) (L X : Nat → Option LB) (j lab : Nat) (r : Res), rs[j]? = some (lab, r) → tgt lab m r → l j = true → (∀ i lab' r', rs[i]? = some (lab', r') → j < i → l i = true → ¬ tgt lab' m r') → lblL rs l L m = fL X lab r m
  | [], l, L, X, j, lab, r, hr, _, _, _ => by simp at hr
  | (lab', r') :: rs, l, L, X, 0, lab, r, hr, ht, hl, hu => by
    simp at hr
    obtain ⟨rfl, rfl⟩ := hr
    rw [lblL, hl]
    have : lblL rs (fun i => l (i + 1)) (if true = true then fL L lab' r' else L) m = lblL rs (fun _ => false) (fL L lab' r') m := lblL_congr rs _ _ _ _ (fun i lab2 r2 hr2 ht2 => by
      cases hli : l (i + 1) with
      | false => rfl
      | true => exact absurd ht2 (hu (i + 1) lab2 r2 (by simpa using hr2) (by omega) hli)) rfl
    rw [this, lblL_none _ _ _ (fun _ => rfl)]
    exact fL_tgt ht
  | (lab', r') :: rs, l, L, X, j + 1, lab, r, hr, ht, hl, hu => by
    rw [lblL]
    exact lblL_hit rs _ _ X j lab r (by simpa using hr) ht hl (fun i lab2 r2 hr2 hi => hu (i + 1) lab2 r2 (by simpa using hr2) (by omega))

theorem wp_some {P : Program} {o : Oper} {a : Act} {w : World} {next : Act → World → Prop} (h : o.wp P a w next (fun _ _ _ => False)) : ∃ a' w', next a' w' := by
  unfold Oper.wp at h
  generalize (execOp a.eval o).run P w = r at h
  cases r with
  | ok x w' =>
    cases x with
    | value v => exact ⟨_, _, h⟩
    | skip => exact ⟨_, _, h⟩
    | defer d => exact ⟨_, _, h⟩
    | enter f args =>
      obtain ⟨e, w'', fr, hR, _⟩ := h []
      cases e with
      | returned v => exact ⟨_, _, hR⟩
      | panicked c => exact hR.elim
      | outgrown =>
        obtain ⟨_, _, hf⟩ := hR
        exact hf.elim
    | row row args =>
      obtain ⟨v, w'', hR, _⟩ := h default []
      exact ⟨_, _, hR⟩
    | _ => exact h.elim
  | halt x w' => cases x <;> exact h.elim

section
variable {P : Program} {tt : TypeId → Option TI} (hT : TOk P tt) {n : Nat} {w0 : World} {M : Nat → Option Value} {N0 : NG}

theorem Trace.labs {all : Array Oper} {os : List Oper} {cr : List (List Operand)} {E : Nat → Option AV} {L : Nat → Option LB} {nx : Nat} {rs : List (Nat × Res)} (h : Trace P tt all os cr E L nx rs) :
    rs.length = os.length ∧ (∀ (i lab : Nat) (r : Res), rs[i]? = some (lab, r) → nx ≤ lab) ∧ (∀ (i j li : Nat) (ri : Res) (lj : Nat) (rj : Res), i < j → rs[i]? = some (li, ri) → rs[j]? = some (lj, rj) → isNewR ri = true → li < lj) := by
  induction h with
  | nil => exact ⟨rfl, by simp, by simp⟩
  | skip hg _ ih =>
    obtain ⟨h1, h2, h3⟩ := ih
    refine ⟨by simp [h1], fun i lab r hr => ?_, fun i j li ri lj rj hij hi hj hn => ?_⟩
    · cases i with
      | zero => simp at hr; omega
      | succ i => exact h2 i lab r (by simpa using hr)
    · cases j with
      | zero => omega
      | succ j =>
        cases i with
        | zero =>
          simp at hi
          obtain ⟨rfl, rfl⟩ := hi
          cases hn
        | succ i => exact h3 i j li ri lj rj (by omega) (by simpa using hi) (by simpa using hj) hn
  | exec hg hr hc _ ih =>
    rename_i nx rs r _
    obtain ⟨h1, h2, h3⟩ := ih
    have hnx : nx ≤ nxt nx r := by cases r <;> simp [nxt]
    refine ⟨by simp [h1], fun i lab r' hr => ?_, fun i j li ri lj rj hij hi hj hn => ?_⟩
    · cases i with
      | zero => simp at hr; omega
      | succ i =>
        have := h2 i lab r' (by simpa using hr)
        omega
    · cases j with
      | zero => omega
      | succ j =>
        cases i with
        | zero =>
          simp at hi
          obtain ⟨rfl, rfl⟩ := hi
          have := h2 j lj rj (by simpa using hj)
          cases r <;> first | (cases hn; done) | (simp [nxt] at this; omega)
        | succ i => exact h3 i j li ri lj rj (by omega) (by simpa using hi) (by simpa using hj) hn

/-- What holds at an operation, in their order. -/
def Fact (P : Program) (tt : TypeId → Option TI) (n : Nat) (w0 : World) (M : Nat → Option Value) (N0 : NG) (all : Array Oper) (cr : List Operand) (E : Nat → Option AV) (L : Nat → Option LB) (o : Oper) (lab : Nat) (r : Res) (later : Nat → Prop) : Prop :=
  ((gd all E o = some false ∧ r = .val (.raw undef)) ∨ (gd all E o = some true ∧ (aop tt L (evE E) o.op).to P L lab r ∧ clashFree (evE E) cr r)) ∧ ∃ U a w, Tel n w0 M N0 U E L a w ∧ ∀ l, later l → ¬ U l

include hT
theorem trace_at {all : Array Oper} : ∀ {os : List Oper} {cr : List (List Operand)} {E : Nat → Option AV} {L : Nat → Option LB} {nx : Nat} {rs : List (Nat × Res)}, Trace P tt all os cr E L nx rs → (∀ o ∈ os, okDst n o.dst) → ∀ (U : Nat → Prop) (a : Act) (w : World), Tel n w0 M N0 U E L a w → (∀ l, nx ≤ l → ¬ U l) →
    ∀ j o, os[j]? = some o → ∃ lab r, rs[j]? = some (lab, r) ∧ Fact P tt n w0 M N0 all (cr.getD j []) (envL os rs (fun i => decide (i < j)) E) (lblL rs (fun i => decide (i < j)) L) o lab r (fun l => ∃ i lab' r', j ≤ i ∧ rs[i]? = some (lab', r') ∧ l = lab')
  | _, _, _, _, _, _, .nil, _, _, _, _, _, _, j, o, ho => by simp at ho
  | _, _, _, _, _, _, .skip (o := o) (os := os) (cr := cr) (E := E) (L := L) (nx := nx) (rs := rs) hg h', hd, U, a, w, ht, hU, j, p, hp => by
    have hlab := (Trace.skip hg h').labs
    cases j with
    | zero =>
      simp at hp
      subst hp
      refine ⟨nx, .val (.raw undef), rfl, ?_⟩
      rw [envL_none _ _ _ _ (fun i => by simp), lblL_none _ _ _ (fun i => by simp)]
      exact ⟨.inl ⟨hg, rfl⟩, U, a, w, ht, fun l ⟨i, lab', r', _, hr, e⟩ => by rw [e]; exact hU _ (hlab.2.1 i lab' r' hr)⟩
    | succ j =>
      obtain ⟨lab, r, hr, hf⟩ := trace_at h' (fun o ho => hd o (by simp [ho])) U _ _ (ht.skip (d := o.dst) (hd o (by simp))) hU j p (by simpa using hp)
      refine ⟨lab, r, by simpa using hr, ?_⟩
      have e1 : envL (o :: os) ((nx, .val (.raw undef)) :: rs) (fun i => decide (i < j + 1)) E = envL os rs (fun i => decide (i < j)) (fE E o.dst (.raw undef)) := by
        rw [envL]
        simp [Res.x]
      have e2 : lblL ((nx, .val (.raw undef)) :: rs) (fun i => decide (i < j + 1)) L = lblL rs (fun i => decide (i < j)) L := by
        rw [lblL]
        simp [fL]
      rw [e1, e2]
      have e3 : cr.getD (j + 1) [] = cr.tail.getD j [] := by cases cr <;> simp
      rw [e3]
      obtain ⟨hA, U', a', w', ht', hl'⟩ := hf
      exact ⟨hA, U', a', w', ht', fun l ⟨i, lab', r', hi, hr', e⟩ => by
        cases i with
        | zero => omega
        | succ i => exact hl' l ⟨i, lab', r', by omega, by simpa using hr', e⟩⟩
  | _, _, _, _, _, _, .exec (o := o) (os := os) (cr := cr) (E := E) (L := L) (nx := nx) (rs := rs) (r := r0) hg hr0 hc h', hd, U, a, w, ht, hU, j, p, hp => by
    have hlab := (Trace.exec hg hr0 hc h').labs
    cases j with
    | zero =>
      simp at hp
      subst hp
      refine ⟨nx, r0, rfl, ?_⟩
      rw [envL_none _ _ _ _ (fun i => by simp), lblL_none _ _ _ (fun i => by simp)]
      have e3 : cr.getD 0 [] = cr.headD [] := by cases cr <;> rfl
      rw [e3]
      exact ⟨.inr ⟨hg, hr0, hc⟩, U, a, w, ht, fun l ⟨i, lab', r', _, hr, e⟩ => by rw [e]; exact hU _ (hlab.2.1 i lab' r' hr)⟩
    | succ j =>
      obtain ⟨φ, N, R⟩ := ht
      obtain ⟨a1, w1, ht1⟩ := wp_some (op_sound hT R (hd o (by simp)) (fun _ => hU nx (Nat.le_refl _)) hr0)
      have hU1 : ∀ l, nxt nx r0 ≤ l → ¬ fU U nx r0 l := by
        intro l hl hu
        cases r0 with
        | val x => exact hU l hl hu
        | put l' B => exact hU l hl hu
        | new B x =>
          have hl : nx + 1 ≤ l := hl
          rcases hu with hu | rfl
          · exact hU l (by omega) hu
          · omega
        | grow l' B x =>
          have hl : nx + 1 ≤ l := hl
          rcases hu with hu | rfl
          · exact hU l (by omega) hu
          · omega
        | eff l' B x =>
          have hl : nx + 1 ≤ l := hl
          rcases hu with hu | rfl
          · exact hU l (by omega) hu
          · omega
      obtain ⟨lab, r, hr, hf⟩ := trace_at h' (fun o ho => hd o (by simp [ho])) _ _ _ ht1 hU1 j p (by simpa using hp)
      refine ⟨lab, r, by simpa using hr, ?_⟩
      have e1 : envL (o :: os) ((nx, r0) :: rs) (fun i => decide (i < j + 1)) E = envL os rs (fun i => decide (i < j)) (fE E o.dst r0.x) := by
        rw [envL]
        simp
      have e2 : lblL ((nx, r0) :: rs) (fun i => decide (i < j + 1)) L = lblL rs (fun i => decide (i < j)) (fL L nx r0) := by
        rw [lblL]
        simp
      rw [e1, e2]
      have e3 : cr.getD (j + 1) [] = cr.tail.getD j [] := by cases cr <;> simp
      rw [e3]
      obtain ⟨hA, U', a', w', ht', hl'⟩ := hf
      exact ⟨hA, U', a', w', ht', fun l ⟨i, lab', r', hi, hr', e⟩ => by
        cases i with
        | zero => omega
        | succ i => exact hl' l ⟨i, lab', r', by omega, by simpa using hr', e⟩⟩
end
end Go.Proofs.YtfemklaeonkidaaV

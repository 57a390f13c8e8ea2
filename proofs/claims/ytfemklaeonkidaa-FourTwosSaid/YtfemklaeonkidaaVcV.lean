import Derived.Test.YtfemklaeonkidaaVcU
/- What the evaluator says of the model: regions in their order. -/
namespace Go.Proofs.YtfemklaeonkidaaV
open Go Go.RowKit
set_option linter.unusedVariables false
set_option linter.unusedSimpArgs false

/-- Is an operation done? -/
def gd (all : Array Oper) (E : Nat → Option AV) (o : Oper) : Option Bool :=
  match o.guard with
  | none => some true
  | some (j, want) =>
    match (all[j]?).bind (·.dst) with
    | none => none
    | some t => match E t with
      | some (.raw (.bool b)) => some (b == want)
      | some (.raw (.tuple _)) => some false
      | _ => none

def clashFree (ev : Operand → AV) (cr : List Operand) : Res → Prop
  | .put l _ => noClash ev l cr
  | .eff _ _ _ => marked cr = true
  | _ => True
def nxt (nx : Nat) : Res → Nat
  | .new _ _ => nx + 1
  | .grow _ _ _ => nx + 1
  | .eff _ _ _ => nx + 1
  | _ => nx

section
variable (P : Program) (tt : TypeId → Option TI)
/-- What each operation comes to, in their order. -/
inductive Trace (all : Array Oper) : List Oper → List (List Operand) → (Nat → Option AV) → (Nat → Option LB) → Nat → List (Nat × Res) → Prop
  | nil {cr E L nx} : Trace all [] cr E L nx []
  | skip {o os cr E L nx rs} (hg : gd all E o = some false) (h : Trace all os cr.tail (fE E o.dst (.raw undef)) L nx rs) : Trace all (o :: os) cr E L nx ((nx, .val (.raw undef)) :: rs)
  | exec {o os cr E L nx rs r} (hg : gd all E o = some true) (hr : (aop tt L (evE E) o.op).to P L nx r) (hc : clashFree (evE E) (cr.headD []) r) (h : Trace all os cr.tail (fE E o.dst r.x) (fL L nx r) (nxt nx r) rs) : Trace all (o :: os) cr E L nx ((nx, r) :: rs)
end

def finE : List Oper → List (Nat × Res) → (Nat → Option AV) → (Nat → Option AV)
  | o :: os, (_, r) :: rs, E => finE os rs (fE E o.dst r.x)
  | _, _, E => E
def finL : List (Nat × Res) → (Nat → Option LB) → (Nat → Option LB)
  | (lab, r) :: rs, L => finL rs (fL L lab r)
  | [], L => L
def finN : List (Nat × Res) → Nat → Nat
  | (lab, r) :: rs, nx => finN rs (nxt nx r)
  | [], nx => nx
def finU : List (Nat × Res) → (Nat → Prop) → (Nat → Prop)
  | (lab, r) :: rs, U => finU rs (fU U lab r)
  | [], U => U

def St.E (s : St) : Nat → Option AV := fun t => look t s.env

theorem evE_St (s : St) : evE s.E = s.ev := by
  funext x
  cases x <;> rfl
theorem look_if {α : Type} (t u : Nat) (x : α) (r : List (Nat × α)) : look t ((u, x) :: r) = if t = u then some x else look t r := by
  by_cases h : t = u
  · subst h
    rw [if_pos rfl]
    show (if Nat.beq t t then _ else _) = _
    rw [Nat.beq_refl]
    rfl
  · rw [if_neg h]
    show (if Nat.beq t u then _ else _) = _
    have hb : Nat.beq t u = false := by
      cases hb : Nat.beq t u with
      | false => rfl
      | true => exact absurd (Nat.eq_of_beq_eq_true hb) h
    rw [hb]
    rfl
theorem E_put (s : St) (d : Option Tmp) (x : AV) : (s.put d x).E = fE s.E d x := by
  funext t
  cases d with
  | none => simp [St.put, fE]
  | some u =>
    show look t ((u, x) :: s.env) = _
    rw [look_if]
    unfold fE
    by_cases h : t = u
    · subst h; simp
    · rw [if_neg h, if_neg (fun e => h (Option.some.inj e).symm)]
      rfl
theorem lb_put (s : St) (d : Option Tmp) (x : AV) : (s.put d x).lb = s.lb := by
  cases d <;> rfl
theorem next_put (s : St) (d : Option Tmp) (x : AV) : (s.put d x).next = s.next := by
  cases d <;> rfl
theorem E_know {s : St} {t : Nat} {x : AV} (h : look t s.env = some x) : St.E { s with env := (t, x) :: s.env } = s.E := by
  funext u
  show look u ((t, x) :: s.env) = look u s.env
  rw [look_if]
  split
  · rename_i e
    rw [e]
    exact h.symm
  · rfl
theorem lb_cons (env : List (Nat × AV)) (lbl : List (Nat × Option LB)) (nx l : Nat) (o : Option LB) : St.lb ⟨env, (l, o) :: lbl, nx⟩ = fS (St.lb ⟨env, lbl, nx⟩) l o := by
  funext k
  show (look k ((l, o) :: lbl)).getD none = _
  rw [look_if]
  unfold fS
  split
  · rfl
  · rfl

theorem lb_putAll (env : List (Nat × AV)) (nx nx' : Nat) : ∀ (ls : List (Nat × LB)) (lbl : List (Nat × Option LB)), St.lb ⟨env, putAll ls lbl, nx⟩ = putF ls (St.lb ⟨env, lbl, nx'⟩)
  | [], lbl => rfl
  | (l, B) :: r, lbl => by
    rw [putAll, lb_putAll env nx nx' r, lb_cons]
    rfl

section
variable {P : Program} {tt : TypeId → Option TI}

theorem k_trace {all : Array Oper} {o : Oper} {os : List Oper} {cr : List (List Operand)} {K : St → Prop} {s : St} (hg : gd all s.E o = some true)
    (h : (aop tt s.lb s.ev o.op).k P (cr.headD []) s o.dst fun s' => ∃ rs sf, Trace P tt all os cr.tail s'.E s'.lb s'.next rs ∧ sf.E = finE os rs s'.E ∧ sf.lb = finL rs s'.lb ∧ sf.next = finN rs s'.next ∧ K sf) :
    ∃ rs sf, Trace P tt all (o :: os) cr s.E s.lb s.next rs ∧ sf.E = finE (o :: os) rs s.E ∧ sf.lb = finL rs s.lb ∧ sf.next = finN rs s.next ∧ K sf := by
  generalize hout : aop tt s.lb s.ev o.op = out at h
  have go : ∀ (r : Res) (s' : St), out.to P s.lb s.next r → clashFree (evE s.E) (cr.headD []) r → s'.E = fE s.E o.dst r.x → s'.lb = fL s.lb s.next r → s'.next = nxt s.next r → (∃ rs sf, Trace P tt all os cr.tail s'.E s'.lb s'.next rs ∧ sf.E = finE os rs s'.E ∧ sf.lb = finL rs s'.lb ∧ sf.next = finN rs s'.next ∧ K sf) →
      ∃ rs sf, Trace P tt all (o :: os) cr s.E s.lb s.next rs ∧ sf.E = finE (o :: os) rs s.E ∧ sf.lb = finL rs s.lb ∧ sf.next = finN rs s.next ∧ K sf := by
    intro r s' hto hcf e1 e2 e3 ⟨rs, sf, ht, g1, g2, g3, hK⟩
    rw [e1, e2, e3] at ht
    rw [e1] at g1
    rw [e2] at g2
    rw [e3] at g3
    refine ⟨(s.next, r) :: rs, sf, .exec hg ?_ hcf ht, g1, g2, g3, hK⟩
    rw [evE_St, hout]
    exact hto
  cases out with
  | val p x => exact go (.val x) (s.put o.dst x) ⟨h.1, rfl⟩ trivial (E_put _ _ _) (lb_put _ _ _) (next_put _ _ _) h.2
  | new p B f => exact go (.new B (f s.next)) (St.put ⟨s.env, (s.next, some B) :: s.lbl, s.next + 1⟩ o.dst (f s.next)) ⟨h.1, rfl⟩ trivial (E_put _ _ _) (by rw [lb_put, lb_cons]; rfl) (next_put _ _ _) h.2
  | put p l B => exact go (.put l B) (St.put ⟨s.env, (l, some B) :: s.lbl, s.next⟩ o.dst .any) ⟨h.1, rfl⟩ (by rw [evE_St]; exact h.2.1) (E_put _ _ _) (by rw [lb_put, lb_cons]; rfl) (next_put _ _ _) h.2.2
  | grow p l B =>
    exact go (.grow l B (.own s.next)) (St.put ⟨s.env, (s.next, some B) :: kill l s.lbl, s.next + 1⟩ o.dst (.own s.next)) ⟨h.1, rfl⟩ trivial (E_put _ _ _) (by
      rw [lb_put, lb_cons]
      cases l with
      | none => rfl
      | some l =>
        show fS (St.lb ⟨s.env, (l, none) :: s.lbl, s.next + 1⟩) s.next (some B) = _
        rw [lb_cons]
        rfl) (next_put _ _ _) h.2
  | call F args fr raw =>
    rcases h with ⟨x, h1, h2, h3⟩ | ⟨ls, nw, x, h1, h2, h3⟩
    · exact go (.val x) (s.put o.dst x) (.inl ⟨x, h1, h2, rfl⟩) trivial (E_put _ _ _) (lb_put _ _ _) (next_put _ _ _) h3
    · exact go (.eff ls nw x) (St.put ⟨s.env, (s.next, nw) :: putAll ls s.lbl, s.next + 1⟩ o.dst x) (.inr ⟨ls, nw, x, h1, rfl⟩) h2 (E_put _ _ _) (by rw [lb_put, lb_cons, lb_putAll]; rfl) (next_put _ _ _) h3
  | bad => exact h.elim

theorem Out.k_mono {o : Out} {cr : List Operand} {s : St} {d : Option Tmp} {K K' : St → Prop} (hk : ∀ s, K s → K' s) (h : o.k P cr s d K) : o.k P cr s d K' := by
  cases o with
  | val p x => exact ⟨h.1, hk _ h.2⟩
  | new p B f => exact ⟨h.1, hk _ h.2⟩
  | put p l B => exact ⟨h.1, h.2.1, hk _ h.2.2⟩
  | grow p l B => exact ⟨h.1, hk _ h.2⟩
  | call F args fr raw =>
    rcases h with ⟨x, h1, h2, h3⟩ | ⟨ls, nw, x, h1, h2, h3⟩
    · exact .inl ⟨x, h1, h2, hk _ h3⟩
    · exact .inr ⟨ls, nw, x, h1, h2, hk _ h3⟩
  | bad => exact h

theorem evr_trace (all : Array Oper) {K : St → Prop} : ∀ (os : List Oper) (cr : List (List Operand)) (s : St), evr P tt all os cr s K → ∃ rs sf, Trace P tt all os cr s.E s.lb s.next rs ∧ sf.E = finE os rs s.E ∧ sf.lb = finL rs s.lb ∧ sf.next = finN rs s.next ∧ K sf
  | [], cr, s, h => ⟨[], s, .nil, rfl, rfl, rfl, h⟩
  | o :: os, cr, s, h => by
    unfold evr at h
    cases hg : o.guard with
    | none =>
      rw [hg] at h
      have hgd : gd all s.E o = some true := by unfold gd; rw [hg]
      exact k_trace hgd (Out.k_mono (fun s' h' => evr_trace all os cr.tail s' h') h)
    | some q =>
      obtain ⟨j, want⟩ := q
      rw [hg] at h
      simp only at h
      split at h
      · exact h.elim
      · rename_i t ht
        split at h
        · rename_i b hl
          have hgd : ∀ c, (b == want) = c → gd all s.E o = some c := by
            intro c hc
            have hl' : s.E t = some (.raw (.bool b)) := hl
            unfold gd
            rw [hg]
            simp only [ht, hl', hc]
          by_cases hb : b = want
          · subst hb
            have h1 := h.1 rfl
            have e := E_know hl
            have := k_trace (s := { s with env := (t, .raw (.bool b)) :: s.env }) (by rw [e]; exact hgd true (by simp)) (Out.k_mono (fun s' h' => evr_trace all os cr.tail s' h') h1)
            rw [e] at this
            exact this
          · have hb' : b = !want := by
              revert hb
              cases b <;> cases want <;> decide
            have h2 := h.2 hb'
            have e := E_know hl
            rw [← hb'] at h2
            obtain ⟨rs, sf, ht', g1, g2, g3, hK⟩ := evr_trace all os cr.tail _ h2
            rw [E_put, e, lb_put, next_put] at ht'
            rw [E_put, e] at g1
            rw [lb_put] at g2
            rw [next_put] at g3
            exact ⟨(s.next, .val (.raw undef)) :: rs, sf, .skip (hgd false (by rw [beq_eq_false_iff_ne]; exact hb)) ht', g1, g2, g3, hK⟩
        · rename_i z hl
          have hgd : gd all s.E o = some false := by
            have hl' : s.E t = some (.raw (.tuple z)) := hl
            unfold gd
            rw [hg]
            simp only [ht, hl']
          obtain ⟨rs, sf, ht', g1, g2, g3, hK⟩ := evr_trace all os cr.tail _ h
          rw [E_put, lb_put, next_put] at ht'
          rw [E_put] at g1
          rw [lb_put] at g2
          rw [next_put] at g3
          exact ⟨(s.next, .val (.raw undef)) :: rs, sf, .skip hgd ht', g1, g2, g3, hK⟩
        · exact h.elim
end

section
variable {P : Program} {tt : TypeId → Option TI} (hT : TOk P tt) {n : Nat} {w0 : World} {M : Nat → Option Value} {N0 : NG}

theorem wanted_of {φ : Nat → Option Value} {N U : Nat → Prop} {E : Nat → Option AV} {L : Nat → Option LB} {a : Act} {w : World} {all : Array Oper} {o : Oper} {c : Bool} (R : Rel n w0 M N0 φ N U E L a w) (hg : gd all E o = some c) : Region.wanted o (yielded all a.tmps) = c := by
  unfold gd at hg
  unfold Region.wanted
  cases hgu : o.guard with
  | none => rw [hgu] at hg; simpa using hg
  | some q =>
    obtain ⟨j, want⟩ := q
    rw [hgu] at hg
    simp only at hg
    split at hg
    · cases hg
    · rename_i t ht
      split at hg
      · rename_i b hl
        have hv := (R.env t _ hl).of_raw
        have hy : yielded all a.tmps j = some b := by
          unfold yielded
          rw [ht]
          rw [Array.getD_eq_getD_getElem?] at hv
          simp only [Option.bind_some]
          cases h : a.tmps[t]? with
          | none => rw [h] at hv; cases hv
          | some v => rw [h] at hv; simp only [Option.getD_some] at hv; rw [hv]
        simp only [hy]
        rw [← Option.some.inj hg]
        cases b <;> cases want <;> rfl
      · rename_i z hl
        have hv := (R.env t _ hl).of_raw
        have hy : yielded all a.tmps j = none := by
          unfold yielded
          rw [ht]
          rw [Array.getD_eq_getD_getElem?] at hv
          simp only [Option.bind_some]
          cases h : a.tmps[t]? with
          | none => rfl
          | some v => rw [h] at hv; simp only [Option.getD_some] at hv; rw [hv]
        simp only [hy]
        rw [← Option.some.inj hg]
        rfl
      · cases hg

theorem Tel.skip {U : Nat → Prop} {E : Nat → Option AV} {L : Nat → Option LB} {a : Act} {w : World} (R : Tel n w0 M N0 U E L a w) {d : Option Tmp} (hd : okDst n d) : Tel n w0 M N0 U (fE E d (.raw undef)) L (a.put d undef) w := by
  obtain ⟨φ, N, R⟩ := R
  exact ⟨φ, N, R.put hd (.raw undef)⟩

include hT
/-- The operations in their order. -/
theorem trace_seq (all : Array Oper) {Q : Exit → Act → World → Prop} : ∀ (os : List Oper) (k : Nat), all.toList.drop k = os → (∀ o ∈ os, okDst n o.dst) → ∀ (cr : List (List Operand)) (U : Nat → Prop) (E : Nat → Option AV) (L : Nat → Option LB) (nx : Nat) (rs : List (Nat × Res)), Trace P tt all os cr E L nx rs → (∀ l, nx ≤ l → ¬ U l) →
      (∀ a w, Tel n w0 M N0 (finU rs U) (finE os rs E) (finL rs L) a w → Q .normal a w) → ∀ (a : Act) (w : World), Tel n w0 M N0 U E L a w → wpOps P all Q (List.range' k os.length) a w
  | [], k, _, _, cr, U, E, L, nx, rs, ht, hU, hQ, a, w, h => by
    cases ht
    exact hQ a w h
  | o :: os, k, hk, hd, cr, U, E, L, nx, rs, ht, hU, hQ, a, w, h => by
    have ho : all[k]? = some o := by
      have : all.toList[k]? = some o := by
        have := congrArg (fun l => l[0]?) hk
        simpa using this
      simpa using this
    have hk' : all.toList.drop (k + 1) = os := by rw [← List.drop_drop, hk]; rfl
    have hd' : ∀ o ∈ os, okDst n o.dst := fun o ho => hd o (by simp [ho])
    have hdo := hd o (by simp)
    rw [List.length_cons, List.range'_succ, wpOps_cons]
    unfold wpOp
    rw [ho]
    simp only
    cases ht with
    | skip hg h' =>
      rename_i rs
      have hw := h
      obtain ⟨φ, N, R⟩ := h
      rw [wanted_of R hg]
      simp only [Bool.false_eq_true, if_false]
      exact trace_seq all os (k + 1) hk' hd' _ U _ _ _ rs h' hU hQ _ _ (hw.skip hdo)
    | exec hg hr hc h' =>
      rename_i rs r
      obtain ⟨φ, N, R⟩ := h
      rw [wanted_of R hg]
      simp only [if_true]
      refine .inl (Oper.wp_mono (fun a' w' hn => ?_) (op_sound hT R hdo (fun _ => hU nx (Nat.le_refl _)) hr))
      refine trace_seq all os (k + 1) hk' hd' _ _ _ _ _ rs h' ?_ hQ _ _ hn
      intro l hl hu
      cases r with
      | val x => exact hU l hl hu
      | put l' B => exact hU l hl hu
      | new B x =>
        have hl : nx + 1 ≤ l := hl
        rcases hu with hu | rfl
        · exact hU l (by omega) hu
        · omega
      | grow l' B x =>
        have hl : nx + 1 ≤ l := hl
        rcases hu with hu | rfl
        · exact hU l (by omega) hu
        · omega
      | eff l' B x =>
        have hl : nx + 1 ≤ l := hl
        rcases hu with hu | rfl
        · exact hU l (by omega) hu
        · omega
end
end Go.Proofs.YtfemklaeonkidaaV

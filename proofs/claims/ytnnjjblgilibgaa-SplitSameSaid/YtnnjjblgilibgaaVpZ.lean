import Derived.Test.YtnnjjblgilibgaaVcE
/- Regions by the evaluator, in a walk by hand: slots that are not written stay. -/
namespace Go.Proofs.YtnnjjblgilibgaaV
open Go Go.RowKit
set_option linter.unusedVariables false
set_option linter.unusedSimpArgs false
/-- Slots that stay as they are. -/
def Stay (T : List Nat) (a a' : Act) : Prop := a'.defers = a.defers ∧ ∀ t ∈ T, a'.tmps.getD t undef = a.tmps.getD t undef
def dstOff (T : List Nat) : Option Tmp → Bool
  | none => true
  | some t => !(T.any fun u => Nat.beq u t)
def ndCal (fs : List FuncId) (c : Call) : Bool := match c.callee with
    | .value (.func f) => fs.any fun g => Nat.beq g f
    | _ => false
/-- Operations that defer nothing. -/
def ndOp (fs : List FuncId) (o : Oper) : Bool :=
  match o.op with
  | .move _ => true
  | .assign _ => true
  | .alloc _ => true
  | .load _ _ => true
  | .store _ _ _ => true
  | .binOp _ _ _ _ _ => true
  | .unOp _ _ _ => true
  | .fieldAddr _ _ _ => true
  | .indexAddr _ _ _ => true
  | .call c => ndCal fs c
  | _ => false
theorem run_v_nd {P : Program} {s : Sem Value} {w w' : World} {c : Deferred} : (do pure (Next.value (← s)) : Sem Next).run P w ≠ .ok (.defer c) w' := by
  intro h
  rw [Sem.run_bind] at h
  generalize s.run P w = r at h
  cases r with
  | ok v w1 => simp [Result.andThen] at h
  | halt x w1 => simp [Result.andThen] at h
theorem run_u_nd {P : Program} {s : Sem Unit} {w w' : World} {c : Deferred} : (do s; pure Next.skip : Sem Next).run P w ≠ .ok (.defer c) w' := by
  intro h
  rw [Sem.run_bind] at h
  generalize s.run P w = r at h
  cases r with
  | ok v w1 => simp [Result.andThen] at h
  | halt x w1 => simp [Result.andThen] at h
theorem nd_call {fs : List FuncId} {c : Call} (h : ndCal fs c = true) : ∃ g ∈ fs, c.callee = .value (.func g) := by
  obtain ⟨cal, ars, tys⟩ := c
  unfold ndCal at h
  cases cal with
  | value x =>
    cases x with
    | func f =>
      obtain ⟨g, hg, hgf⟩ := List.any_eq_true.1 h
      obtain rfl := Nat.eq_of_beq_eq_true hgf
      exact ⟨g, hg, rfl⟩
    | _ => cases h
  | _ => cases h
theorem nd_callrun {P : Program} {g : FuncId} (hF : Fine P g) {c : Call} (h : c.callee = .value (.func g)) {dst ty po af gd} {a : Act} {w : World} : (execOp a.eval ⟨dst, .call c, ty, po, af, gd⟩).run P w = .ok (.enter g (c.args.map a.eval ++ #[])) w := by
  have := hF (c.args.map a.eval ++ #[]) w
  simp [execOp, resolve, h, Sem.run_bind, Act.eval, Deferred.ofValue, Result.andThen, invoke]
  simpa using this
theorem nd_run {P : Program} {fs : List FuncId} (hfs : ∀ f ∈ fs, Fine P f) {o : Oper} (h : ndOp fs o = true) {a : Act} {w w' : World} {c : Deferred} : (execOp a.eval o).run P w ≠ .ok (.defer c) w' := by
  obtain ⟨dst, op, ty, po, af, gd⟩ := o
  unfold ndOp at h
  split at h <;> rename_i e <;> (first | (simp only at e; subst e) | skip)
  · intro h; simp [execOp] at h
  · intro h; simp [execOp] at h
  · exact run_v_nd
  · exact run_v_nd
  · exact run_u_nd
  · exact run_v_nd
  · exact run_v_nd
  · exact run_v_nd
  · exact run_v_nd
  · obtain ⟨g, hg, hf⟩ := nd_call h
    intro hr
    rw [nd_callrun (hfs g hg) hf] at hr
    cases hr
  · cases h
theorem Stay.refl (T : List Nat) (a : Act) : Stay T a a := ⟨rfl, fun _ _ => rfl⟩
theorem Stay.put {T : List Nat} {a0 a : Act} {d : Option Tmp} {v : Value} (h : Stay T a0 a) (hd : dstOff T d = true) : Stay T a0 (a.put d v) := by
  cases d with
  | none => exact h
  | some t =>
    refine ⟨h.1, fun u hu => ?_⟩
    have hne : u ≠ t := by
      rintro rfl
      unfold dstOff at hd
      rw [Bool.not_eq_true', List.any_eq_false] at hd
      exact hd u hu (Nat.beq_refl u)
    exact (getD_set_ne hne).trans (h.2 u hu)
section
variable {P : Program} {T : List Nat} {fs : List FuncId} {Q Q' : Exit → Act → World → Prop} {a0 : Act}
theorem wp_stay (hfs : ∀ f ∈ fs, Fine P f) {o : Oper} {a : Act} {w : World} {K K' : Act → World → Prop} (hc : ndOp fs o = true) (hd : dstOff T o.dst = true) (ha : Stay T a0 a) (hK : ∀ a' w', Stay T a0 a' → K a' w' → K' a' w') (h : o.wp P a w K (onlyN Q)) : o.wp P a w K' (onlyN Q') := by
  unfold Oper.wp at *
  have hno : ∀ c w', (execOp a.eval o).run P w ≠ .ok (.defer c) w' := fun c w' => nd_run hfs hc
  generalize (execOp a.eval o).run P w = r at *
  cases r with
  | ok n w' =>
    cases n with
    | value v => exact hK _ _ (ha.put hd) h
    | skip => exact hK _ _ (ha.put hd) h
    | defer d => exact (hno _ _ rfl).elim
    | enter f args =>
      refine Calls.mono h fun e w'' he => ?_
      cases e with
      | returned v => exact hK _ _ (ha.put hd) he
      | panicked c => exact he.elim
      | outgrown => obtain ⟨_, _, he⟩ := he; exact he.elim
    | row row args => exact Rows.mono h fun v w'' he => hK _ _ (ha.put hd) he
    | _ => exact h.elim
  | halt x w' =>
    cases x <;> first | exact h.elim | exact h
theorem op_stay (hfs : ∀ f ∈ fs, Fine P f) {ops : Array Oper} (hc : ops.toList.all (fun o => ndOp fs o && dstOff T o.dst) = true) {i : Nat} {a : Act} {w : World} {K K' : Act → World → Prop} (ha : Stay T a0 a) (hK : ∀ a' w', Stay T a0 a' → K a' w' → K' a' w') (h : wpOp P ops (onlyN Q) i K a w) : wpOp P ops (onlyN Q') i K' a w := by
  unfold wpOp at *
  cases ho : ops[i]? with
  | none => rw [ho] at h; exact hK _ _ ha h
  | some o =>
    rw [ho] at h
    have hm : o ∈ ops.toList := by
      obtain ⟨hi, e⟩ := Array.getElem?_eq_some_iff.1 ho
      rw [← e]
      exact Array.getElem_mem_toList hi
    have hco := List.all_eq_true.1 hc o hm
    rw [Bool.and_eq_true] at hco
    simp only at h ⊢
    split
    · rename_i hw
      rw [if_pos hw] at h
      rcases h with h | ⟨_, h⟩
      · exact .inl (wp_stay hfs hco.1 hco.2 ha hK h)
      · exact (onlyN_lets h).elim
    · rename_i hw
      rw [if_neg hw] at h
      exact hK _ _ (ha.put hco.2) h
theorem ops_stay (hfs : ∀ f ∈ fs, Fine P f) {ops : Array Oper} (hc : ops.toList.all (fun o => ndOp fs o && dstOff T o.dst) = true) (hQ : ∀ a' w', Stay T a0 a' → Q .normal a' w' → Q' .normal a' w') : ∀ (is : List Nat) (a : Act) (w : World), Stay T a0 a → wpOps P ops (onlyN Q) is a w → wpOps P ops (onlyN Q') is a w
  | [], a, w, ha, h => hQ a w ha h
  | i :: rest, a, w, ha, h => by
    rw [wpOps_cons] at h ⊢
    exact op_stay hfs hc ha (fun a' w' ha' h' => ops_stay hfs hc hQ rest a' w' ha' h') h
theorem any_stay (hfs : ∀ f ∈ fs, Fine P f) {ops : Array Oper} (hc : ops.toList.all (fun o => ndOp fs o && dstOff T o.dst) = true) (hQ : ∀ a' w', Stay T a0 a' → Q .normal a' w' → Q' .normal a' w') : ∀ (fuel : Nat) (ls : Array Bool) (a : Act) (w : World), Stay T a0 a → wpAny P .any ops (onlyN Q) fuel ls a w → wpAny P .any ops (onlyN Q') fuel ls a w
  | 0, ls, a, w, ha, h => ⟨h.1, hQ a w ha h.2⟩
  | fuel + 1, ls, a, w, ha, h => ⟨fun h0 => hQ a w ha (h.1 h0), fun i hi => op_stay hfs hc ha (fun a' w' ha' h' => any_stay hfs hc hQ fuel _ a' w' ha' h') (h.2 i hi)⟩
end
/-- Where a piece ends. -/
def toK (k0 : Nat) (s1 : St) : Exit → St → Prop
  | .normal, s => Weak k0 s s1
  | _, _ => False
theorem tk_n {k0 : Nat} {s1 s : St} : toK k0 s1 .normal s = Weak k0 s s1 := rfl
/-- A region by the evaluator, in a walk by hand. -/
theorem piece {P : Program} {tt : TypeId → Option TI} (hT : TOk P tt) (hm : P.follows .mixedOrders = true) {X : Nat → List (List Operand)} {n m : Nat} {w0 : World} {M : Nat → Option Value} {N0 : NG} {id : Nat} {ops : Array Oper} {d : Bool} {fs : List FuncId} {k0 : Nat} (hM : ∀ l, k0 ≤ l → M l = none) {T : List Nat} {s s1 : St} {Q : Exit → Act → World → Prop}
    (hd : dstsOk n ops.toList = true) (hcalm : ops.toList.all calmOp = true) (hdraw : (!d || drawOk ops (X id)) = true) (hfs : ∀ f ∈ fs, Fine P f) (hst : ops.toList.all (fun o => ndOp fs o && dstOff T o.dst) = true) {a : Act} {w : World} (ht : TelS n w0 M N0 s a w) (h : evc P tt X (fun _ => false) k0 (.region id ops d) (toK k0 s1) s)
    (hQ : ∀ a' w', TelS n w0 M N0 s1 a' w' → Stay T a a' → Q .normal a' w') : (Code.region id ops d).wpIn Fence.wide m P Q a w := by
  have h : evr P tt ops ops.toList (X id) s (fun s' => Weak k0 s' s1) := h
  have hi := region_in hT hd hcalm hdraw (Q := fun e a' w' => e = .normal → TelS n w0 M N0 s1 a' w') (fun s' a' w' hw ht' _ => hw _ _ _ _ _ _ hM ht') h ht
  refine wpIn_wide.2 (wpM_region (md := none) hm hcalm (fun e => ?_) (fun e => ?_))
  · exact ops_stay hfs hst (fun a' w' hs ht' => hQ a' w' (ht' rfl) hs) _ _ _ (Stay.refl T a) (hi.1 e)
  · exact any_stay hfs hst (fun a' w' hs ht' => hQ a' w' (ht' rfl) hs) _ _ _ _ (Stay.refl T a) (hi.2 e)
/-- One label: a block's cells. -/
def phi (b : Nat) : Nat → Option Value := fun l => if l = 0 then some (.pointer (some ⟨b, 0, none⟩)) else none
theorem phi_none {b : Nat} : ∀ l, 1 ≤ l → phi b l = none := fun l hl => if_neg (by omega)
theorem PB_phi {b c : Nat} (h : PB (phi b) c) : c = b := by
  obtain ⟨l, v, h1, h2⟩ := h
  unfold phi at h1
  split at h1
  · obtain rfl := Option.some.inj h1
    exact (Option.some.inj h2).symm
  · cases h1
theorem look_mem {t : Nat} {x : AV} : ∀ {env : List (Nat × AV)}, look t env = some x → (t, x) ∈ env
  | (u, y) :: r, h => by
    rw [look_if] at h
    split at h
    · rename_i e
      subst e
      obtain rfl := Option.some.inj h
      exact List.mem_cons_self
    · exact List.mem_cons_of_mem _ (look_mem h)
theorem rel_here {n : Nat} {a : Act} {w : World} {N : Nat → Prop} {b : Nat} {ty : TypeId} {cs : Array Value} {cl : List Value} {env : List (Nat × AV)} (hd : a.defers = []) (hsz : a.tmps.size = n) (hlow : ∀ c, N c → c < w.heap.size) (hNb : ¬ N b) (hg : w.heap[b]? = some (.cells cs ty (0, 0))) (hcs : cs = cl.toArray) (henv : ∀ p ∈ env, Rep w (phi b) N p.2 (a.tmps.getD p.1 undef)) :
    Rel n w (phi b) ⟨N, fun _ => none, 0, 0⟩ (phi b) N (fun l => l < 1) (St.E ⟨env, [(0, rawB cl)], 1⟩) (St.lb ⟨env, [(0, rawB cl)], 1⟩) a w := by
  have hlb : ∀ l B, St.lb ⟨env, [(0, rawB cl)], 1⟩ l = some B → l = 0 ∧ B = .box (cl.map .raw) := by
    intro l B h
    unfold St.lb at h
    rw [look_if] at h
    split at h
    · rename_i e
      exact ⟨e, by simpa using h.symm⟩
    · cases h
  refine ⟨by rw [hd]; exact .none (Nat.zero_le _), hsz, But.refl _ _, fun _ _ h => h, hlow, fun c h => .inl h, fun t x hx => henv _ (look_mem hx), fun l B hB => ?_, fun l B v c hB hv hc => .inl ⟨l, v, hv, hc⟩, fun l l' B B' v v' c hne hB hB' => ?_, fun l hl => phi_none l (by have : ¬ l < 1 := hl; omega)⟩
  · obtain ⟨rfl, rfl⟩ := hlb l B hB
    have := raw_holds (φ := phi b) (N := N) (lab := 0) rfl hg hNb
    rw [hcs] at this
    simpa using this
  · exact absurd ((hlb l B hB).1.trans (hlb l' B' hB').1.symm) hne
/-- What a piece tells. -/
theorem tel_out {n : Nat} {a : Act} {w w' : World} {N0 : NG} {b : Nat} {cl : List Value} {env : List (Nat × AV)} {nx : Nat} (h : TelS n w (phi b) N0 ⟨env, [(0, rawB cl)], nx⟩ a w') :
    (∃ ty, w'.heap[b]? = some (.cells cl.toArray ty (0, 0))) ∧ But (fun x => x = b) w w' ∧ a.tmps.size = n ∧ ∀ t v, look t env = some (.raw v) → a.tmps.getD t undef = v := by
  obtain ⟨φ, N, R⟩ := h
  have hp : φ 0 = some (.pointer (some ⟨b, 0, none⟩)) := R.ext 0 _ rfl
  refine ⟨?_, ⟨R.bel.os, R.bel.tape, R.bel.output, R.bel.size, fun k hk hn => R.bel.block k hk (fun h => hn (PB_phi h))⟩, R.size, fun t v hv => (R.env t _ hv).of_raw⟩
  obtain ⟨b', ty, cs, hp', hg, hs, hr, _⟩ := R.lbl 0 (.box (cl.map .raw)) rfl
  rw [hp] at hp'
  obtain rfl : b = b' := by injection hp' with e; injection e with e; injection e with e; injection e
  refine ⟨ty, ?_⟩
  have : cs = cl.toArray := by
    refine Array.ext (by rw [hs]; simp) fun i h1 h2 => ?_
    have h2' : i < cl.length := by simpa using h2
    have := (hr i (.raw cl[i]) (by rw [List.getElem?_map, List.getElem?_eq_getElem h2']; rfl)).of_raw
    rw [Array.getD_eq_getD_getElem?, Array.getElem?_eq_getElem h1] at this
    simpa using this
  rw [hg, this]
theorem rounds_ind {F : Fence} {n : Nat} {P : Program} {c : Code} {Q : Exit → Act → World → Prop} {I : Nat → Act → World → Prop} (N : Nat) (h : ∀ j a w, j < N → I j a w → ∀ K : Act → World → Prop, (∀ a' w', I (j + 1) a' w' → K a' w') → c.wpIn F n P (Exit.then K Q) a w) (he : ∀ a w, I N a w → ∀ K, c.wpIn F n P (Exit.then K Q) a w) {a : Act} {w : World} (h0 : I 0 a w) : Code.roundsIn F n P c Q (N + 1) a w := by
  have key : ∀ r j a w, j + r = N → I j a w → Code.roundsIn F n P c Q (r + 1) a w := by
    intro r
    induction r with
    | zero => intro j a w hj hi; exact he a w (by rw [← hj]; exact hi) _
    | succ r ih => intro j a w hj hi; exact h j a w (by omega) hi _ (fun a' w' h' => ih (j + 1) a' w' (by omega) h')
  exact key N 0 a w (by omega) h0
theorem put_ne {a : Act} {t u : Nat} {v : Value} (h : t ≠ u) : (a.put (some u) v).tmps.getD t undef = a.tmps.getD t undef := getD_set_ne h
theorem put_eq {a : Act} {t : Nat} {v : Value} (h : t < a.tmps.size) : (a.put (some t) v).tmps.getD t undef = v := getD_set_eq h
theorem put_size {a : Act} {t : Nat} {v : Value} : (a.put (some t) v).tmps.size = a.tmps.size := Array.size_setIfInBounds
theorem put_defers {a : Act} {t : Nat} {v : Value} : (a.put (some t) v).defers = a.defers := rfl
theorem exit_out {id : Nat} {K1 K2 : Act → World → Prop} {Q : Exit → Act → World → Prop} {a : Act} {w : World} (h : Q .normal a w) : Exit.then K1 (Exit.then K2 (Exit.inBlock id Q)) (.exit id) a w := by
  simp only [Exit.then, Exit.inBlock, if_true]
  exact h
/-- An operation, by hand. -/
theorem step_val {P : Program} {m : Nat} {ops : Array Oper} {Q : Exit → Act → World → Prop} {i : Nat} {rest : List Nat} {o : Oper} {a : Act} {w w' : World} {v : Value} (ho : ops[i]? = some o) (hg : o.guard = none) (hrun : (execOp a.eval o).run P w = .ok (.value v) w') (K : wpOpsIn Fence.wide m P ops Q rest (a.put o.dst v) w') : wpOpsIn Fence.wide m P ops Q (i :: rest) a w := by
  rw [wpOpsIn_cons]
  unfold wpOpIn
  rw [ho]
  have hw : Region.wanted o (yielded ops a.tmps) = true := by
    unfold Region.wanted
    rw [hg]
  simp only
  rw [if_pos hw]
  refine ⟨fun _ _ => trivial, ?_⟩
  rw [show Fence.wide.round = none from rfl, Oper.semAt_none, hrun]
  exact K
/-- The same, as the evaluator tells. -/
theorem step_tel {P : Program} {tt : TypeId → Option TI} (hT : TOk P tt) {n m : Nat} {w0 : World} {M : Nat → Option Value} {N0 : NG} {φ : Nat → Option Value} {N U : Nat → Prop} {s : St} {ops : Array Oper} {Q : Exit → Act → World → Prop} {i : Nat} {rest : List Nat} {o : Oper} {a : Act} {w : World} (R : Rel n w0 M N0 φ N U s.E s.lb a w) {p : Prop} {x : AV} (ho : ops[i]? = some o) (hg : o.guard = none) (hd : okDst n o.dst) (h : aop tt s.lb s.ev o.op = .val p x) (hp : p)
    (K : ∀ v, Rep w φ N x v → Rel n w0 M N0 φ N U (s.put o.dst x).E s.lb (a.put o.dst v) w → wpOpsIn Fence.wide m P ops Q rest (a.put o.dst v) w) : wpOpsIn Fence.wide m P ops Q (i :: rest) a w := by
  obtain ⟨dst, op, ty, po, af, gd⟩ := o
  obtain ⟨v, hrun, hr⟩ := run_val (P := P) hT (w := w) (φ := φ) (N := N) (lb := s.lb) (ev := s.ev) (ρ := a.eval) (base := 0) (fun y => by have := R.ev y; rwa [evE_St] at this) (fun l B hl => R.lbl l B hl) h hp (d := dst) (ty := ty) (po := po) (af := af) (g := gd)
  refine step_val ho hg hrun (K v hr ?_)
  have := R.put hd hr
  rwa [← E_put] at this
/-- The round: what is given is taken, and it goes on. -/
theorem step_yield {P : Program} {m : Nat} {ops : Array Oper} {Q : Exit → Act → World → Prop} {i : Nat} {rest : List Nat} {o : Oper} {a : Act} {w : World} {l : Nat} {x : Operand} {ars : Array Operand} {tys : Array TypeId} {R : Ending → World → Prop} (ho : ops[i]? = some o) (hg : o.guard = none) (hop : o.op = .call ⟨.value x, ars, tys⟩) (hx : a.eval x = .func (.yield l) #[] #[]) (hy : YieldAt Fence.wide (m - 1) P l (ars.map a.eval) w R)
    (K : ∀ e w', R e w' → ∃ v, e = .returned v ∧ wpOpsIn Fence.wide m P ops Q rest (a.put o.dst v) w') : wpOpsIn Fence.wide m P ops Q (i :: rest) a w := by
  obtain ⟨fn, tmps, assign, body, hrun, hR⟩ := hy
  rw [wpOpsIn_cons]
  unfold wpOpIn
  rw [ho]
  have hw : Region.wanted o (yielded ops a.tmps) = true := by
    unfold Region.wanted
    rw [hg]
  simp only
  rw [if_pos hw]
  refine ⟨fun _ _ => trivial, ?_⟩
  obtain ⟨dst, op, ty, po, af, gd⟩ := o
  simp only at hop
  subst hop
  have : (execOp a.eval ⟨dst, .call ⟨.value x, ars, tys⟩, ty, po, af, gd⟩).run P w = .ok (.round l fn tmps assign body) w := by
    simp [execOp, resolve, Sem.run_bind, hx, Deferred.ofValue, Result.andThen, invoke]
    simpa using hrun
  rw [show Fence.wide.round = none from rfl, Oper.semAt_none, this, Oper.uponIn_round]
  refine ⟨fun h => (Bool.false_ne_true h).elim, hR.mono fun e w' he => ?_⟩
  obtain ⟨v, rfl, hk⟩ := K e w' he
  exact hk
end Go.Proofs.YtnnjjblgilibgaaV

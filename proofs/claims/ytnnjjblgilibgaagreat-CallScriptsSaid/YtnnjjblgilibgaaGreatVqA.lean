import Derived.Test.YtnnjjblgilibgaaGreatVtQ
/- Functions that end by a panic of their own. -/
namespace Go.Proofs.YtnnjjblgilibgaaGreatV
open Go Go.RowKit
set_option linter.unusedVariables false
set_option linter.unusedSimpArgs false
set_option maxRecDepth 100000
set_option maxHeartbeats 40000000
/-- A region that ends by this exit, shown by hand. -/
def RegX (P : Program) (ops : Array Oper) (ex : Exit) (s s' : St) : Prop :=
  ∀ (n : Nat) (w0 : World) (M : Nat → Option Value) (N0 : NG) (a : Act) (w : World) (Q : Exit → Act → World → Prop), dstsOk n ops.toList = true → TelS n w0 M N0 s a w → (∀ a' w', TelS n w0 M N0 s' a' w' → Q ex a' w') → wpOps P ops Q (List.range ops.size) a w
section
variable (P : Program) (tt : TypeId → Option TI) (X : Nat → List (List Operand)) (Y : Nat → Bool)
/-- What a code comes to, of which these regions are shown by hand. -/
def evp : Code → (Exit → St → Prop) → St → Prop
  | .skip, Q, s => Q .normal s
  | .region id ops d, Q, s => match Y id with
    | true => d = false ∧ ∃ ex s', RegX P ops ex s s' ∧ Q ex s'
    | false => evc P tt X (fun _ => false) 0 (.region id ops d) Q s
  | .seq a b, Q, s => evp a (thenK (evp b Q) Q) s
  | .cond c x y, Q, s => match s.ev c with
    | .raw (.bool b) => (b = true → evp x Q s) ∧ (b = false → evp y Q s)
    | _ => False
  | .block id c, Q, s => evp c (blockK id Q) s
  | .loop c, Q, s => ∃ k, loopN 0 (evp c) Q k s
  | .exit id, Q, s => Q (.exit id) s
  | .ret, Q, s => Q .ret s
  | _, _, _ => False
end
section
variable {P : Program} {tt : TypeId → Option TI} (hT : TOk P tt) {X : Nat → List (List Operand)} {Y : Nat → Bool} {n : Nat} {w0 : World} {M : Nat → Option Value} {N0 : NG} (hM : ∀ l, 0 ≤ l → M l = none)
include hT hM
theorem evp_sound (hm : P.follows .mixedOrders = true) : ∀ (c : Code) (Q : Exit → St → Prop) (Q' : Exit → Act → World → Prop), codeOk X n c = true → (∀ e s a w, Q e s → TelS n w0 M N0 s a w → Q' e a w) → ∀ s a w, evp P tt X Y c Q s → TelS n w0 M N0 s a w → wpM none P c Q' a w
  | .skip, Q, Q', _, hQ, s, a, w, h, ht => wpM_skip (hQ _ s a w h ht)
  | .region id ops d, Q, Q', hc, hQ, s, a, w, h, ht => by
    unfold evp at h
    split at h
    · obtain ⟨rfl, ex, s', hh, hq⟩ := h
      rw [codeOk, Bool.and_eq_true, Bool.and_eq_true] at hc
      exact wp_region (hh n w0 M N0 a w Q' hc.1 ht (fun a' w' h' => hQ ex s' a' w' hq h'))
    · exact evc_sound hT hm (.region id ops d) 0 none M N0 hM (.inl rfl) Q Q' hc hQ s a w h ht
  | .seq x y, Q, Q', hc, hQ, s, a, w, h, ht => by
    rw [codeOk, Bool.and_eq_true] at hc
    refine wpM_seq (evp_sound hm x _ _ hc.1 (fun e s a w hq ht => ?_) s a w h ht)
    cases e with
    | normal => exact evp_sound hm y Q Q' hc.2 hQ s a w hq ht
    | _ => exact hQ _ s a w hq ht
  | .cond c x y, Q, Q', hc, hQ, s, a, w, h, ht => by
    rw [codeOk, Bool.and_eq_true] at hc
    have hev : s.ev c = evE s.E c := by rw [evE_St]
    unfold evp at h
    split at h
    · rename_i b hb
      have hv : a.eval c = .bool b := by
        obtain ⟨φ, N, R⟩ := ht
        have := R.ev c
        rw [← hev, hb] at this
        exact this.of_raw
      refine wpM_cond_split hv (fun e => ?_) (fun e => ?_)
      · exact evp_sound hm x Q Q' hc.1 hQ s a w (h.1 e) ht
      · exact evp_sound hm y Q Q' hc.2 hQ s a w (h.2 e) ht
    · exact h.elim
  | .block id c, Q, Q', hc, hQ, s, a, w, h, ht => by
    refine wpM_block (evp_sound hm c _ _ hc (fun e s a w hq ht => ?_) s a w h ht)
    cases e with
    | exit id' =>
      show if id' = id then _ else _
      unfold blockK at hq
      by_cases hid : id' = id
      · subst hid
        rw [if_pos rfl]
        simp only [Nat.beq_refl, if_true] at hq
        exact hQ _ s a w hq ht
      · rw [if_neg hid]
        have : Nat.beq id' id = false := by
          cases hb : Nat.beq id' id with
          | false => rfl
          | true => exact absurd (Nat.eq_of_beq_eq_true hb) hid
        simp only [this, Bool.false_eq_true, if_false] at hq
        exact hQ _ s a w hq ht
    | _ => exact hQ _ s a w hq ht
  | .loop c, Q, Q', hc, hQ, s, a, w, h, ht => by
    obtain ⟨k, h⟩ := h
    refine wpM_loop k ?_
    have hc' : codeOk X n c = true := hc
    have key : ∀ k s a w, loopN 0 (evp P tt X Y c) Q k s → TelS n w0 M N0 s a w → roundsM none P c Q' k a w := by
      intro k
      induction k with
      | zero => intro s a w h _; exact h.elim
      | succ k ih =>
        intro s a w h ht
        obtain ⟨s', hw, h⟩ := h
        refine evp_sound hm c _ _ hc' (fun e s a w hq ht => ?_) s' a w h (hw _ _ _ _ _ _ hM ht)
        cases e with
        | normal => exact ih s a w hq ht
        | _ => exact hQ _ s a w hq ht
    exact key k s a w h ht
  | .exit id, Q, Q', _, hQ, s, a, w, h, ht => wpM_exit (hQ _ s a w h ht)
  | .ret, Q, Q', _, hQ, s, a, w, h, ht => wpM_ret (hQ _ s a w h ht)
  | .label _, Q, Q', _, hQ, s, a, w, h, ht => h.elim
  | .rangeFunc _ _ _ _, Q, Q', _, hQ, s, a, w, h, ht => h.elim
  | .scope _, Q, Q', _, hQ, s, a, w, h, ht => h.elim
  | .goto _, Q, Q', _, hQ, s, a, w, h, ht => h.elim
  | .refuse _, Q, Q', _, hQ, s, a, w, h, ht => h.elim
end
/-- A contract: of so many arguments this panic. -/
def OkP (P : Program) (F : FuncId) (args : List AV) (pv : Value) : Prop :=
  Fine P F ∧ ∀ (w : World) (N : Nat → Prop) (vs : List Value), (∀ b, N b → b < w.heap.size) → vs.length = args.length → (∀ i x, args[i]? = some x → Rep w (fun _ => none) N x (vs.getD i undef)) →
    Calls P F vs.toArray w fun e w' => e = .panicked [{ v := pv, recovered := false }] ∧ Below w.heap.size w w'
section
variable {P : Program} {tt : TypeId → Option TI} (hT : TOk P tt)
theorem leavesP_of {n : Nat} {w0 w1 : World} {M : Nat → Option Value} {N0 : NG} {φ : Nat → Option Value} {N U : Nat → Prop} {E : Nat → Option AV} {L : Nat → Option LB} {a : Act} (R0 : Rel n w0 M N0 φ N U E L a w1) (hlo : w0.heap.size ≤ N0.lo) {fn : Func} {RR : Ending → World → Prop} {chain : List PanicEntry}
    (h : ∀ w', Rel n w0 M ⟨N0.p, fun _ => none, 0, 0⟩ φ N U E L { tmps := a.tmps, defers := [] } w' → RR (.panicked chain) w') : LeavesInM Fence.wide 9 P fn a.tmps RR a.defers (.panicking chain) w1 := by
  have hstart : Rel n w0 M ⟨N0.p, fun _ => none, 0, 0⟩ φ N U E L { tmps := a.tmps, defers := [] } w1 := ⟨.none (Nat.zero_le _), R0.size, R0.bel, R0.ext, R0.low, R0.nb, R0.env, R0.lbl, R0.mine, R0.disj, R0.fresh⟩
  obtain ⟨hx, g, hy, h2, h3, h4⟩ := R0.defers
  have hds : ∀ d ∈ a.defers, ∃ D, d = { target := .collected D, args := #[] } ∧ w0.heap.size ≤ D ∧ w1.heap[D]? = some (.deferred (some [])) := fun d hd => by
    obtain ⟨D, e, hD, hl⟩ := h4 d hd
    exact ⟨D, e, Nat.le_trans hlo hl, (h2 D _ hD).2⟩
  clear R0 h2 h4 hx hy
  generalize a.defers = ds at *
  induction ds generalizing w1 with
  | nil => exact h w1 hstart
  | cons d ds ih =>
    obtain ⟨D, rfl, hb, hK⟩ := hds d (by simp)
    obtain ⟨hn1, hn2⟩ := List.nodup_cons.1 h3
    refine ⟨by simp, .inl ⟨D, _, rfl, run_takeDeferred hK, ih (w1 := w1.putObj D (.deferred none)) ?_ hn2 (fun d' hd' => ?_)⟩⟩
    · exact hstart.own (grownBy_putObj' w1 D _) (fun r e => by cases e; exact ⟨hb, _, hK, rfl⟩) (.none (Nat.zero_le _))
    · obtain ⟨D', e, hb', hK'⟩ := hds d' (by simp [hd'])
      refine ⟨D', e, hb', (World.putObj_heap_other (fun e' => hn1 ?_)).trans hK'⟩
      rw [← e', ← e]
      exact hd'
/-- It ends by this panic. -/
def endP (pv : Value) : Exit → St → Prop := fun e _ => e = .panic [{ v := pv, recovered := false }]
include hT
theorem okp_of (hm : P.follows .mixedOrders = true) {X : Nat → List (List Operand)} {Y : Nat → Bool} {F : FuncId} {fn : Func} {c : Code} {args : List AV} {pv : Value} (hf : P.funcs[F]? = some fn) (hb : fn.body = some c) (hF : Fine P F) (hc : codeOk X fn.ntmps c = true) (hn : Nat.ble args.length fn.ntmps = true) (h : evp P tt X Y c (endP pv) (entry args)) : OkP P F args pv := by
  refine ⟨hF, fun w N vs hN hl hr => ?_⟩
  refine (callsIn_wide (n := 9)).1 (callsIn_of_wp_marks hf hb trivial (wpIn_wide.2 ?_) rfl)
  have hn := Nat.le_of_ble_eq_true hn
  have ht : TelS fn.ntmps w (fun _ => none) ⟨N, fun _ => none, 0, w.heap.size⟩ (entry args) { tmps := vs.toArray ++ Array.replicate (fn.ntmps - vs.toArray.size) undef, defers := [] } w := by
    refine ⟨fun _ => none, N, ⟨.none (Nat.le_refl _), by simp; omega, But.refl _ _, (fun l v h => by cases h), hN, fun b h => .inl h, fun t x hx => entry_env hl hr hx, (fun l B hl => by cases hl), (fun l B v b hl => by cases hl), (fun l l' B B' v v' b _ hl => by cases hl), fun _ _ => rfl⟩⟩
  refine evp_sound hT (fun _ _ => rfl) hm c _ _ hc (fun e s a w1 hq ht => ?_) _ _ _ h ht
  obtain rfl : e = .panic [{ v := pv, recovered := false }] := hq
  obtain ⟨φ, N', R0⟩ := ht
  refine leavesP_of R0 (Nat.le_refl _) fun w' R => ?_
  exact ⟨rfl, R.bel.os, R.bel.tape, R.bel.output, R.bel.size, fun k hk => R.bel.block k hk (by rintro ⟨_, _, h, _⟩; cases h)⟩
end
/-! The words. -/
section
variable {P : Program} {tt : TypeId → Option TI} {X : Nat → List (List Operand)} {Y : Nat → Bool} {s : St} {Q : Exit → St → Prop}
theorem p_skip : evp P tt X Y .skip Q s = Q .normal s := rfl
theorem p_seq {x y : Code} : evp P tt X Y (.seq x y) Q s = evp P tt X Y x (thenK (evp P tt X Y y Q) Q) s := rfl
theorem p_block {id : Nat} {x : Code} : evp P tt X Y (.block id x) Q s = evp P tt X Y x (blockK id Q) s := rfl
theorem p_exit {id : Nat} : evp P tt X Y (.exit id) Q s = Q (.exit id) s := rfl
theorem p_ret : evp P tt X Y .ret Q s = Q .ret s := rfl
theorem p_loop {x : Code} : evp P tt X Y (.loop x) Q s = ∃ k, loopN 0 (evp P tt X Y x) Q k s := rfl
def RegP (P : Program) (tt : TypeId → Option TI) (X : Nat → List (List Operand)) (b : Bool) (id : Nat) (ops : Array Oper) (d : Bool) (Q : Exit → St → Prop) (s : St) : Prop := match b with
  | true => d = false ∧ ∃ ex s', RegX P ops ex s s' ∧ Q ex s'
  | false => evc P tt X (fun _ => false) 0 (.region id ops d) Q s
theorem p_region {id : Nat} {ops : Array Oper} {d : Bool} : evp P tt X Y (.region id ops d) Q s = RegP P tt X (Y id) id ops d Q s := rfl
theorem rp_f {id : Nat} {ops : Array Oper} {d : Bool} : RegP P tt X false id ops d Q s = evc P tt X (fun _ => false) 0 (.region id ops d) Q s := rfl
def CondP (P : Program) (tt : TypeId → Option TI) (X : Nat → List (List Operand)) (Y : Nat → Bool) (x y : Code) (Q : Exit → St → Prop) (s : St) (v : AV) : Prop := match v with
  | .raw (.bool b) => (b = true → evp P tt X Y x Q s) ∧ (b = false → evp P tt X Y y Q s)
  | _ => False
theorem p_cond {c : Operand} {x y : Code} : evp P tt X Y (.cond c x y) Q s = CondP P tt X Y x y Q s (s.ev c) := rfl
theorem cp_t {x y : Code} : CondP P tt X Y x y Q s (.raw (.bool true)) = evp P tt X Y x Q s := by simp [CondP]
theorem cp_f {x y : Code} : CondP P tt X Y x y Q s (.raw (.bool false)) = evp P tt X Y y Q s := by simp [CondP]
end
end Go.Proofs.YtnnjjblgilibgaaGreatV

import Derived.Test.YtfemklaeonkidaaVcM
/- Loops over functions: what the evaluator says of them is so. -/
namespace Go.Proofs.YtfemklaeonkidaaV
open Go Go.RowKit
set_option linter.unusedVariables false
set_option linter.unusedSimpArgs false

def TelS (n : Nat) (w0 : World) (M : Nat → Option Value) (N0 : NG) (s : St) (a : Act) (w : World) : Prop := Tel n w0 M N0 (fun l => l < s.next) s.E s.lb a w
/-- What is told by the one is told by the other. -/
def Weak (k0 : Nat) (s s' : St) : Prop := ∀ n w0 M N0 a w, (∀ l, k0 ≤ l → M l = none) → TelS n w0 M N0 s a w → TelS n w0 M N0 s' a w
theorem Weak.refl (k0 : Nat) (s : St) : Weak k0 s s := fun _ _ _ _ _ _ _ h => h
def dstLt (n : Nat) (d : Option Tmp) : Bool :=
  match d with
  | none => true
  | some t => Nat.blt t n
theorem dstLt_ok {n : Nat} {d : Option Tmp} (h : dstLt n d = true) : okDst n d := by
  cases d with
  | none => trivial
  | some t =>
    have h : Nat.ble (t + 1) n = true := h
    exact Nat.le_of_ble_eq_true h

mutual
/-- A value that is told whole. -/
def AV.toV : AV → Value
  | .raw v => v
  | .agg l => .agg (toVs l).toArray
  | .tup l => .tuple (toVs l).toArray
  | _ => undef
def toVs : List AV → List Value
  | [] => []
  | x :: r => x.toV :: toVs r
end
theorem toVs_len : ∀ (l : List AV), (toVs l).length = l.length
  | [] => rfl
  | x :: r => by rw [toVs, List.length_cons, toVs_len r, List.length_cons]
mutual
theorem rep_toV {w : World} {φ : Nat → Option Value} {N : Nat → Prop} : ∀ (x : AV), x.pure = true → Rep w φ N x x.toV
  | .raw v, _ => .raw v
  | .agg l, h => .agg l _ (by simp [toVs_len]) fun i x hx => by
    have := rep_toVs (w := w) (φ := φ) (N := N) l h i x hx
    simpa [Array.getD_eq_getD_getElem?, List.getD_eq_getElem?_getD] using this
  | .tup l, h => .tup l _ (by simp [toVs_len]) fun i x hx => by
    have := rep_toVs (w := w) (φ := φ) (N := N) l h i x hx
    simpa [Array.getD_eq_getD_getElem?, List.getD_eq_getElem?_getD] using this
theorem rep_toVs {w : World} {φ : Nat → Option Value} {N : Nat → Prop} : ∀ (l : List AV), allPure l = true → ∀ i x, l[i]? = some x → Rep w φ N x ((toVs l).getD i undef)
  | [], _, i, x, hx => by simp at hx
  | y :: r, h, 0, x, hx => by
    rw [allPure, Bool.and_eq_true] at h
    simp at hx
    subst hx
    exact rep_toV y h.1
  | y :: r, h, i + 1, x, hx => by
    rw [allPure, Bool.and_eq_true] at h
    exact rep_toVs r h.2 i x (by simpa using hx)
end
mutual
theorem ren_id : ∀ (x : AV), x.ren (fun l => l) = x
  | .any => rfl
  | .raw _ => rfl
  | .agg l => by rw [AV.ren, renAll_id l]
  | .tup l => by rw [AV.ren, renAll_id l]
  | .sl sz l => by rw [AV.ren, renRows_id l]
  | .fn f l => by rw [AV.ren, renAll_id l]
  | .iface t v => by rw [AV.ren, ren_id v]
  | .box l off => by rw [AV.ren, renAll_id l]
  | .loc _ _ => rfl
  | .own _ => rfl
  | .rloc _ _ _ _ => rfl
  | .lsl _ _ _ _ => rfl
  | .osl _ _ _ _ => rfl
theorem renAll_id : ∀ (l : List AV), renAll (fun l => l) l = l
  | [] => rfl
  | x :: r => by rw [renAll, ren_id x, renAll_id r]
theorem renRows_id : ∀ (l : List (List AV)), renRows (fun l => l) l = l
  | [] => rfl
  | x :: r => by rw [renRows, renAll_id x, renRows_id r]
end

def KpN (N : Nat → Prop) (A B : World) : Prop := ∀ k, N k → B.heap[k]? = A.heap[k]?
/-- A function that is gone through gives these values, in order. -/
def OkSeq (P : Program) (F : FuncId) (caps : List AV) {α : Type} (dec : α → List AV) (vals : List α) : Prop :=
  Fine P F ∧ (∀ x, allPure (dec x) = true) ∧ ∀ (w : World) (N : Nat → Prop) (vs : List Value), (∀ b, N b → b < w.heap.size) → vs.length = caps.length → (∀ i x, caps[i]? = some x → Rep w (fun _ => none) N x (vs.getD i undef)) →
    ∀ m, 4 ≤ m → ∃ B, SeqStopsK Fence.wide m P F vs.toArray (fun x => (toVs (dec x)).toArray) (KpN N) (fun xs => xs = vals) (fun _ => True) B w

/-! What a round begins with. -/
def asgOp (o : Oper) : Option Operand :=
  match o.guard, o.op with
  | none, .assign x => some x
  | none, .move x => some x
  | _, _ => none
def asgOps (n : Nat) : List Oper → Bool
  | [] => true
  | o :: os => (asgOp o).isSome && (dstLt n o.dst && asgOps n os)
def asgOk (n : Nat) : Code → Bool
  | .skip => true
  | .region _ ops d => !d && asgOps n ops.toList
  | .seq a b => asgOk n a && asgOk n b
  | _ => false
def asgL : List Oper → St → St
  | [], s => s
  | o :: os, s => asgL os (match asgOp o with | some x => s.put o.dst (s.ev x) | none => s)
def asgS : Code → St → St
  | .region _ ops _, s => asgL ops.toList s
  | .seq a b, s => asgS b (asgS a s)
  | _, s => s
def asgAL : List Oper → Act → Act
  | [], a => a
  | o :: os, a => asgAL os (match asgOp o with | some x => a.put o.dst (a.eval x) | none => a)
def asgA : Code → Act → Act
  | .region _ ops _, a => asgAL ops.toList a
  | .seq x y, a => asgA y (asgA x a)
  | _, a => a
def bindS : List Tmp → List AV → St → St
  | p :: ps, v :: vs, s => bindS ps vs (s.put (some p) v)
  | _, _, s => s
def bindA : List Tmp → List Value → Array Value → Array Value
  | p :: ps, v :: vs, t => bindA ps vs (t.setIfInBounds p v)
  | _, _, t => t
theorem bindA_zip : ∀ (ps : List Tmp) (vs : List Value) (t : Array Value), (ps.zip vs).foldl (fun t (q : Tmp × Value) => t.setIfInBounds q.1 q.2) t = bindA ps vs t
  | [], vs, t => by simp [bindA]
  | p :: ps, [], t => by simp [bindA]
  | p :: ps, v :: vs, t => by
    rw [List.zip_cons_cons, List.foldl_cons, bindA]
    exact bindA_zip ps vs _
theorem asg_run {P : Program} {o : Oper} {x : Operand} (h : asgOp o = some x) {a : Act} {w : World} {K : Act → World → Prop} {Q : Exit → Act → World → Prop} (hK : K (a.put o.dst (a.eval x)) w) : o.guard = none ∧ o.wp P a w K Q := by
  obtain ⟨dst, op, ty, po, af, gd⟩ := o
  unfold asgOp at h
  simp only at h
  split at h
  · obtain rfl := Option.some.inj h
    refine ⟨rfl, ?_⟩
    unfold Oper.wp
    exact hK
  · obtain rfl := Option.some.inj h
    refine ⟨rfl, ?_⟩
    unfold Oper.wp
    exact hK
  · cases h
theorem asg_ops {P : Program} (all : Array Oper) {n : Nat} {w : World} {Q : Exit → Act → World → Prop} : ∀ (os : List Oper) (k : Nat), all.toList.drop k = os → asgOps n os = true → ∀ (a : Act), Q .normal (asgAL os a) w → wpOps P all Q (List.range' k os.length) a w
  | [], k, _, _, a, h => h
  | o :: os, k, hk, ho', a, h => by
    have ho : all[k]? = some o := by
      have : all.toList[k]? = some o := by
        have := congrArg (fun l => l[0]?) hk
        simpa using this
      simpa using this
    have hk' : all.toList.drop (k + 1) = os := by rw [← List.drop_drop, hk]; rfl
    rw [asgOps, Bool.and_eq_true, Bool.and_eq_true] at ho'
    obtain ⟨x, hx⟩ := Option.isSome_iff_exists.1 ho'.1
    rw [List.length_cons, List.range'_succ, wpOps_cons]
    unfold wpOp
    rw [ho]
    simp only
    have h : Q .normal (asgAL os (match asgOp o with | some x => a.put o.dst (a.eval x) | none => a)) w := h
    rw [hx] at h
    have ih := asg_ops (P := P) all os (k + 1) hk' ho'.2.2 (a.put o.dst (a.eval x)) h
    have hr := asg_run (P := P) hx (a := a) (w := w) (K := wpOps P all Q (List.range' (k + 1) os.length)) (Q := Q) ih
    have hw : Region.wanted o (yielded all a.tmps) = true := by
      unfold Region.wanted
      rw [hr.1]
    rw [if_pos hw]
    exact .inl hr.2
theorem asg_calm {n : Nat} : ∀ (os : List Oper), asgOps n os = true → os.all calmOp = true
  | [], _ => rfl
  | o :: os, h => by
    rw [asgOps, Bool.and_eq_true, Bool.and_eq_true] at h
    rw [List.all_cons, asg_calm os h.2.2, Bool.and_true]
    obtain ⟨x, hx⟩ := Option.isSome_iff_exists.1 h.1
    unfold asgOp at hx
    unfold calmOp
    split at hx
    · rename_i h2; rw [h2]
    · rename_i h2; rw [h2]
    · cases hx
theorem asg_wp {md : Option (Nat × Nat)} {P : Program} (hm : P.follows .mixedOrders = true) {n : Nat} : ∀ (c : Code) (a : Act) (w : World) (Q : Exit → Act → World → Prop), asgOk n c = true → Q .normal (asgA c a) w → wpM md P c Q a w
  | .skip, a, w, Q, _, h => wpM_skip h
  | .region id ops d, a, w, Q, hc, h => by
    rw [asgOk, Bool.and_eq_true] at hc
    refine wpM_region hm (asg_calm _ hc.2) (fun _ => ?_) (fun e => ?_)
    · have := asg_ops (P := P) ops (Q := onlyN Q) ops.toList 0 rfl hc.2 a h
      rwa [Array.length_toList, ← List.range_eq_range'] at this
    · rw [e] at hc
      simp at hc
  | .seq x y, a, w, Q, hc, h => by
    rw [asgOk, Bool.and_eq_true] at hc
    exact wpM_seq (asg_wp hm x a w _ hc.1 (asg_wp hm y _ w Q hc.2 h))
  | .label _, _, _, _, hc, _ => by cases hc
  | .cond _ _ _, _, _, _, hc, _ => by cases hc
  | .block _ _, _, _, _, hc, _ => by cases hc
  | .loop _, _, _, _, hc, _ => by cases hc
  | .exit _, _, _, _, hc, _ => by cases hc
  | .ret, _, _, _, hc, _ => by cases hc
  | .rangeFunc _ _ _ _, _, _, _, hc, _ => by cases hc
  | .scope _, _, _, _, hc, _ => by cases hc
  | .goto _, _, _, _, hc, _ => by cases hc
  | .refuse _, _, _, _, hc, _ => by cases hc
section
variable {n : Nat} {w0 : World} {M : Nat → Option Value} {N0 : NG}
theorem asgL_tel : ∀ (os : List Oper) (s : St) (a : Act) (w : World), asgOps n os = true → TelS n w0 M N0 s a w → TelS n w0 M N0 (asgL os s) (asgAL os a) w
  | [], s, a, w, _, h => h
  | o :: os, s, a, w, ho, h => by
    rw [asgOps, Bool.and_eq_true, Bool.and_eq_true] at ho
    obtain ⟨x, hx⟩ := Option.isSome_iff_exists.1 ho.1
    rw [asgL, asgAL, hx]
    refine asgL_tel os _ _ w ho.2.2 ?_
    obtain ⟨φ, N, R⟩ := h
    have := R.put (dstLt_ok ho.2.1) (R.ev x)
    rw [evE_St] at this
    refine ⟨φ, N, ?_⟩
    cases hd : o.dst with
    | none =>
      rw [hd] at this
      have e : fE s.E none (s.ev x) = s.E := by funext t; simp [fE]
      rw [e] at this
      exact this
    | some t =>
      rw [hd] at this
      have e : fE s.E (some t) (s.ev x) = (s.put (some t) (s.ev x)).E := by
        funext u
        show _ = look u ((t, s.ev x) :: s.env)
        rw [look_if]
        unfold fE
        by_cases hu : u = t
        · subst hu; simp
        · rw [if_neg hu, if_neg (fun e => hu (Option.some.inj e).symm)]
          rfl
      rw [e] at this
      exact this
theorem asgS_tel : ∀ (c : Code) (s : St) (a : Act) (w : World), asgOk n c = true → TelS n w0 M N0 s a w → TelS n w0 M N0 (asgS c s) (asgA c a) w
  | .skip, s, a, w, _, h => h
  | .region _ ops d, s, a, w, hc, h => by
    rw [asgOk, Bool.and_eq_true] at hc
    exact asgL_tel _ s a w hc.2 h
  | .seq x y, s, a, w, hc, h => by
    rw [asgOk, Bool.and_eq_true] at hc
    exact asgS_tel y _ _ w hc.2 (asgS_tel x s a w hc.1 h)
  | .label _, _, _, _, hc, _ => by cases hc
  | .cond _ _ _, _, _, _, hc, _ => by cases hc
  | .block _ _, _, _, _, hc, _ => by cases hc
  | .loop _, _, _, _, hc, _ => by cases hc
  | .exit _, _, _, _, hc, _ => by cases hc
  | .ret, _, _, _, hc, _ => by cases hc
  | .rangeFunc _ _ _ _, _, _, _, hc, _ => by cases hc
  | .scope _, _, _, _, hc, _ => by cases hc
  | .goto _, _, _, _, hc, _ => by cases hc
  | .refuse _, _, _, _, hc, _ => by cases hc
theorem bind_tel : ∀ (ps : List Tmp) (vs : List AV) (s : St) (a : Act) (w : World), (∀ p ∈ ps, p < n) → allPure vs = true → TelS n w0 M N0 s a w → TelS n w0 M N0 (bindS ps vs s) { tmps := bindA ps (toVs vs) a.tmps, defers := a.defers } w
  | [], vs, s, a, w, _, _, h => by cases vs <;> exact h
  | p :: ps, [], s, a, w, _, _, h => h
  | p :: ps, v :: vs, s, a, w, hp, hv, h => by
    rw [allPure, Bool.and_eq_true] at hv
    rw [bindS, toVs, bindA]
    obtain ⟨φ, N, R⟩ := h
    have := R.put (d := some p) (hp p (by simp)) (rep_toV (w := w) (φ := φ) (N := N) v hv.1)
    refine bind_tel ps vs (s.put (some p) v) (a.put (some p) v.toV) w (fun q hq => hp q (by simp [hq])) hv.2 ⟨φ, N, ?_⟩
    have e : fE s.E (some p) v = (s.put (some p) v).E := by
      funext u
      show _ = look u ((p, v) :: s.env)
      rw [look_if]
      unfold fE
      by_cases hu : u = p
      · subst hu; simp
      · rw [if_neg hu, if_neg (fun e => hu (Option.some.inj e).symm)]
        rfl
    rw [e] at this
    exact this
end
end Go.Proofs.YtfemklaeonkidaaV

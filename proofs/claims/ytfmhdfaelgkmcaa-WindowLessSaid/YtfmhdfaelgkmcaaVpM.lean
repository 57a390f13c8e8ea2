import Derived.Test.YtfmhdfaelgkmcaaVpA
import Derived.Test.YtfmhdfaelgkmcaaVcE
import Derived.Test.YtfmhdfaelgkmcaaProg
import Derived.Below
import Derived.WalkKit
import Derived.KernelRfl
import Derived.MapKept
import Derived.OwnWalk
/- Maps that a call makes: regions that are shown by hand. -/
namespace Go.Proofs.YtfmhdfaelgkmcaaV
open Go Go.RowKit
set_option linter.unusedVariables false
set_option linter.unusedSimpArgs false
set_option maxRecDepth 100000
section
variable {P : Program}
theorem getObj_map {w : World} {r : Nat} {es : Array MapEntry} {clock : Nat} (hb : w.heap[r]? = some (.map es clock)) : (getObj r).run P w = .ok (.map es clock) w := by
  simp [getObj, Sem.run, hb]
theorem setObj_map (w : World) (es : Array MapEntry) (clock : Nat) (o' : Obj) : (setObj w.heap.size o').run P (w.alloc (.map es clock)) = .ok () (w.alloc o') := by
  rw [MapKept.run_setObj_map o' (heap_alloc_new w _)]
  congr 1
  unfold World.alloc
  have : (w.heap.push (Obj.map es clock)).setIfInBounds w.heap.size o' = w.heap.push o' := by
    apply Array.ext_getElem?
    intro i
    rw [Array.getElem?_setIfInBounds, Array.getElem?_push, Array.getElem?_push]
    by_cases h : i = w.heap.size
    · subst h; simp
    · rw [if_neg (Ne.symm h), if_neg h, if_neg h]
  simp only [this]
theorem key_int {w : World} {kt : TypeId} {k : IntKind} {n : Int} {e : Bool} {m : Nat} (hd : P.underlying kt = some (.int k)) : (Instr.checkKey e (m + 1) kt (.int k n)).run P w = .ok () w := by
  simp [Instr.checkKey, run_underlying hd]
/-- An entry is put to a map that was made last. -/
theorem mapPut (W : World) {t kt et : TypeId} (es : Array MapEntry) (clock : Nat) (k : Int) (v : Value) (hu : P.underlying t = some (.map kt et)) (hk : P.underlying kt = some (.int .i64)) (hf : Instr.findNow (.int .i64) (.int .i64 k) es.toList 0 = some none) : (Instr.mapUpdate t (.map (some W.heap.size)) (.int .i64 k) v).run P (W.alloc (.map es clock)) = .ok () (W.alloc (.map (es.push ⟨.int .i64 k, v, clock⟩) (clock + 1))) := by
  simp [Instr.mapUpdate, run_underlying hu, run_underlying hk, getObj_map (heap_alloc_new W _), Instr.findKey, hf, key_int (m := 9999) hk, setObj_map]
/-- What is looked up: there it is. -/
theorem mapHit {W : World} {r : Nat} {t kt et : TypeId} {es : Array MapEntry} {clock : Nat} (k : Int) {v : Value} {i : Nat} (ok : Bool) (hr : W.heap[r]? = some (.map es clock)) (hu : P.underlying t = some (.map kt et)) (hk : P.underlying kt = some (.int .i64)) (hf : Instr.findNow (.int .i64) (.int .i64 k) es.toList 0 = some (some (i, v))) : (Instr.lookup t (.map (some r)) (.int .i64 k) ok).run P W = .ok (if ok then .tuple #[v, .bool true] else v) W := by
  cases ok <;> simp [Instr.lookup, run_underlying hu, run_underlying hk, getObj_map hr, Instr.findKey, hf, key_int (m := 9999) hk]
/-- Or not. -/
theorem mapMiss {W : World} {r : Nat} {t kt et : TypeId} {es : Array MapEntry} {clock : Nat} (k : Int) {z : Value} (ok : Bool) (hr : W.heap[r]? = some (.map es clock)) (hu : P.underlying t = some (.map kt et)) (hk : P.underlying kt = some (.int .i64)) (hz : ∀ w, (zeroValue et).run P w = .ok z w) (hf : Instr.findNow (.int .i64) (.int .i64 k) es.toList 0 = some none) : (Instr.lookup t (.map (some r)) (.int .i64 k) ok).run P W = .ok (if ok then .tuple #[z, .bool false] else z) W := by
  cases ok <;> simp [Instr.lookup, run_underlying hu, run_underlying hk, getObj_map hr, Instr.findKey, hf, key_int (m := 9999) hk, hz]
theorem hand_op {ops : Array Oper} {Q : Exit → Act → World → Prop} {i : Nat} {rest : List Nat} {a : Act} {w : World} {o : Oper} (ho : ops[i]? = some o) (hg : o.guard = none) (h : o.wp P a w (wpOps P ops Q rest) Q) : wpOps P ops Q (i :: rest) a w := by
  rw [wpOps_cons]
  unfold wpOp
  rw [ho]
  simp only
  have hw : Region.wanted o (yielded ops a.tmps) = true := by
    unfold Region.wanted
    rw [hg]
  rw [if_pos hw]
  exact .inl h
theorem hand_val {o : Oper} {a : Act} {w w' : World} {v : Value} {K : Act → World → Prop} {Q : Exit → Act → World → Prop} (h : (execOp a.eval o).run P w = .ok (.value v) w') (hK : K (a.put o.dst v) w') : o.wp P a w K Q := by
  unfold Oper.wp
  rw [h]
  exact hK
theorem hand_call {o : Oper} {a : Act} {w : World} {F : FuncId} {args : Array Value} {K : Act → World → Prop} {Q : Exit → Act → World → Prop} (h : (execOp a.eval o).run P w = .ok (.enter F args) w) (hc : Calls P F args w fun e w' => ∃ v, e = .returned v ∧ K (a.put o.dst v) w') : o.wp P a w K Q := by
  unfold Oper.wp
  rw [h]
  refine hc.mono ?_
  rintro e w' ⟨v, rfl, hK⟩
  exact hK
end
section
variable {n : Nat} {w0 : World} {M : Nat → Option Value} {N0 : NG} {s : St} {a : Act} {w : World}
theorem tel_put {t : Nat} {x : AV} {v : Value} (h : TelS n w0 M N0 s a w) (ht : t < n) (hx : ∀ φ N, Rep w φ N x v) : TelS n w0 M N0 (s.put (some t) x) (a.put (some t) v) w := by
  obtain ⟨φ, N, R⟩ := h
  have := R.put (d := some t) ht (hx φ N)
  refine ⟨φ, N, ?_⟩
  have e : fE s.E (some t) x = (s.put (some t) x).E := by
    funext u
    show _ = look u ((t, x) :: s.env)
    rw [look_if]
    unfold fE
    by_cases hu : u = t
    · subst hu; simp
    · rw [if_neg hu, if_neg (fun e => hu (Option.some.inj e).symm)]
      rfl
  rw [e] at this
  exact this
theorem put_E {t : Nat} {x : AV} : fE s.E (some t) x = (s.put (some t) x).E := by
  funext u
  show _ = look u ((t, x) :: s.env)
  rw [look_if]
  unfold fE
  by_cases hu : u = t
  · subst hu; simp
  · rw [if_neg hu, if_neg (fun e => hu (Option.some.inj e).symm)]
    rfl
theorem tel_move {t u : Nat} {x : AV} (h : TelS n w0 M N0 s a w) (ht : t < n) (hx : look u s.env = some x) : TelS n w0 M N0 (s.put (some t) x) (a.put (some t) (a.eval (.tmp u))) w := by
  obtain ⟨φ, N, R⟩ := h
  have := R.put (d := some t) ht (R.env u x hx)
  rw [put_E] at this
  exact ⟨φ, N, this⟩
theorem tel_any {env env' : List (Nat × AV)} {lbl : List (Nat × Option LB)} {nx : Nat} (h : TelS n w0 M N0 ⟨env, lbl, nx⟩ a w) (he : ∀ t x, look t env' = some x → look t env = some x ∨ x = .any) : TelS n w0 M N0 ⟨env', lbl, nx⟩ a w := by
  obtain ⟨φ, N, R⟩ := h
  refine ⟨φ, N, ⟨R.defers, R.size, R.bel, R.ext, R.low, R.nb, fun t x hx => ?_, R.lbl, R.mine, R.disj, R.fresh⟩⟩
  rcases he t x hx with h | rfl
  · exact R.env t x h
  · exact .any _
theorem look_cons {t u : Nat} {x : AV} {env : List (Nat × AV)} : look t ((u, x) :: env) = if t = u then some x else look t env := look_if t u x env
def Less (env env' : List (Nat × AV)) : Prop := ∀ t x, look t env' = some x → look t env = some x ∨ x = .any
theorem Less.refl (env : List (Nat × AV)) : Less env env := fun _ _ h => .inl h
theorem Less.cons {env env' : List (Nat × AV)} (u : Nat) {y y' : AV} (h : Less env env') (hy : y' = y ∨ y' = .any) : Less ((u, y) :: env) ((u, y') :: env') := by
  intro t x hx
  rw [look_cons] at hx ⊢
  by_cases e : t = u
  · rw [if_pos e] at hx ⊢
    obtain rfl := Option.some.inj hx
    rcases hy with rfl | rfl
    · exact .inl rfl
    · exact .inr rfl
  · rw [if_neg e] at hx ⊢
    exact h t x hx
theorem tel_below {w' : World} (h : TelS n w0 M N0 s a w) (hb : Below w.heap.size w w') : TelS n w0 M N0 s a w' := by
  obtain ⟨φ, N, R⟩ := h
  exact ⟨φ, N, R.below hb⟩
theorem tel_raw {t : Nat} {v : Value} (h : TelS n w0 M N0 s a w) (hx : look t s.env = some (.raw v)) : a.eval (.tmp t) = v := by
  obtain ⟨φ, N, R⟩ := h
  have h1 : Rep w φ N (.raw v) (a.tmps.getD t undef) := R.env t _ hx
  exact h1.of_raw
end
section
variable {P : Program} {n : Nat} {w0 : World} {M : Nat → Option Value} {N0 : NG} {ops : Array Oper} {Q : Exit → Act → World → Prop} {i : Nat} {rest : List Nat} {a : Act} {w : World} {s : St} {t : Nat} {op : Op} {ty : TypeId} {po : String} {af : Array Edge}
theorem step_val (x : AV) (v : Value) (ho : ops[i]? = some ⟨some t, op, ty, po, af, none⟩) (ht : t < n) (hr : (execOp a.eval ⟨some t, op, ty, po, af, none⟩).run P w = .ok (.value v) w) (hx : ∀ φ N, Rep w φ N x v) (h : TelS n w0 M N0 s a w) (hK : ∀ a', TelS n w0 M N0 (s.put (some t) x) a' w → wpOps P ops Q rest a' w) : wpOps P ops Q (i :: rest) a w :=
  hand_op ho rfl (hand_val hr (hK _ (tel_put h ht hx)))
theorem step_raw (v : Value) (ho : ops[i]? = some ⟨some t, op, ty, po, af, none⟩) (ht : t < n) (hr : (execOp a.eval ⟨some t, op, ty, po, af, none⟩).run P w = .ok (.value v) w) (h : TelS n w0 M N0 s a w) (hK : ∀ a', TelS n w0 M N0 (s.put (some t) (.raw v)) a' w → wpOps P ops Q rest a' w) : wpOps P ops Q (i :: rest) a w :=
  step_val (.raw v) v ho ht hr (fun _ _ => .raw v) h hK
theorem step_move (x : AV) {u : Nat} (ho : ops[i]? = some ⟨some t, .move (.tmp u), ty, po, af, none⟩) (ht : t < n) (hu : look u s.env = some x) (h : TelS n w0 M N0 s a w) (hK : ∀ a', TelS n w0 M N0 (s.put (some t) x) a' w → wpOps P ops Q rest a' w) : wpOps P ops Q (i :: rest) a w :=
  hand_op ho rfl (hand_val rfl (hK _ (tel_move h ht hu)))
theorem step_assign (x : AV) {u : Nat} (ho : ops[i]? = some ⟨some t, .assign (.tmp u), ty, po, af, none⟩) (ht : t < n) (hu : look u s.env = some x) (h : TelS n w0 M N0 s a w) (hK : ∀ a', TelS n w0 M N0 (s.put (some t) x) a' w → wpOps P ops Q rest a' w) : wpOps P ops Q (i :: rest) a w :=
  hand_op ho rfl (hand_val rfl (hK _ (tel_move h ht hu)))
theorem ext_run {u : Operand} {k : Nat} {l : Array Value} (hk : k < l.size) (h : a.eval u = .tuple l) {d : Option Tmp} : (execOp a.eval ⟨d, .extract u k, ty, po, af, none⟩).run P w = .ok (.value l[k]) w := by
  simp [execOp, h, Instr.extract, hk]
end
theorem fine72 : Fine Try.prog 72 := fun _ _ => by kernel_rfl
/-- A window's formulas. -/
def FM : Array MapEntry := #[⟨.int .i64 0, .func (.func 109) #[] #[], 0⟩, ⟨.int .i64 1, .func (.func 110) #[] #[], 1⟩, ⟨.int .i64 2, .func (.func 112) #[] #[], 2⟩, ⟨.int .i64 3, .func (.func 114) #[] #[], 3⟩]
set_option maxRecDepth 100000 in
set_option maxHeartbeats 4000000 in
theorem formulas.run (w : World) : Calls Try.prog 72 #[] w fun e w' => e = .returned (.map (some w.heap.size)) ∧ w' = w.alloc (.map FM 4) := by
  have hmk := @run_makeMap Try.prog
  have hp0 : (Instr.mapUpdate 86 (.map (some w.heap.size)) (.int .i64 0) (.func (.func 109) #[] #[])).run Try.prog (w.alloc (.map #[] 0)) = .ok () (w.alloc (.map #[⟨.int .i64 0, .func (.func 109) #[] #[], 0⟩] 1)) := mapPut w #[] 0 0 _ Try.underlying86 Try.underlying3 rfl
  have hp1 : (Instr.mapUpdate 86 (.map (some w.heap.size)) (.int .i64 1) (.func (.func 110) #[] #[])).run Try.prog (w.alloc (.map #[⟨.int .i64 0, .func (.func 109) #[] #[], 0⟩] 1)) = .ok () (w.alloc (.map #[⟨.int .i64 0, .func (.func 109) #[] #[], 0⟩, ⟨.int .i64 1, .func (.func 110) #[] #[], 1⟩] 2)) := mapPut w #[⟨.int .i64 0, .func (.func 109) #[] #[], 0⟩] 1 1 _ Try.underlying86 Try.underlying3 rfl
  have hp2 : (Instr.mapUpdate 86 (.map (some w.heap.size)) (.int .i64 2) (.func (.func 112) #[] #[])).run Try.prog (w.alloc (.map #[⟨.int .i64 0, .func (.func 109) #[] #[], 0⟩, ⟨.int .i64 1, .func (.func 110) #[] #[], 1⟩] 2)) = .ok () (w.alloc (.map #[⟨.int .i64 0, .func (.func 109) #[] #[], 0⟩, ⟨.int .i64 1, .func (.func 110) #[] #[], 1⟩, ⟨.int .i64 2, .func (.func 112) #[] #[], 2⟩] 3)) := mapPut w #[⟨.int .i64 0, .func (.func 109) #[] #[], 0⟩, ⟨.int .i64 1, .func (.func 110) #[] #[], 1⟩] 2 2 _ Try.underlying86 Try.underlying3 rfl
  have hp3 : (Instr.mapUpdate 86 (.map (some w.heap.size)) (.int .i64 3) (.func (.func 114) #[] #[])).run Try.prog (w.alloc (.map #[⟨.int .i64 0, .func (.func 109) #[] #[], 0⟩, ⟨.int .i64 1, .func (.func 110) #[] #[], 1⟩, ⟨.int .i64 2, .func (.func 112) #[] #[], 2⟩] 3)) = .ok () (w.alloc (.map #[⟨.int .i64 0, .func (.func 109) #[] #[], 0⟩, ⟨.int .i64 1, .func (.func 110) #[] #[], 1⟩, ⟨.int .i64 2, .func (.func 112) #[] #[], 2⟩, ⟨.int .i64 3, .func (.func 114) #[] #[], 3⟩] 4)) := mapPut w #[⟨.int .i64 0, .func (.func 109) #[] #[], 0⟩, ⟨.int .i64 1, .func (.func 110) #[] #[], 1⟩, ⟨.int .i64 2, .func (.func 112) #[] #[], 2⟩] 3 3 _ Try.underlying86 Try.underlying3 rfl
  go_enter Try.func72, Try.ntmps72
  go_wp2_with (fail)
  go_ret
  exact ⟨rfl, rfl⟩
def fA (k : Int) : AV := if k = 0 then .fn 109 [] else if k = 1 then .fn 110 [] else if k = 2 then .fn 112 [] else if k = 3 then .fn 114 [] else .any
theorem formulas.look (k : Int) (W : World) (r : Nat) (hr : W.heap[r]? = some (.map FM 4)) : ∃ v, (Instr.lookup 86 (.map (some r)) (.int .i64 k) true).run Try.prog W = .ok (.tuple #[v, .bool (decide (0 ≤ k ∧ k ≤ 3))]) W ∧ ∀ w φ N, Rep w φ N (fA k) v := by
  obtain ⟨z, hz⟩ : ∃ z, ∀ w, (zeroValue 84).run Try.prog w = .ok z w := ⟨.nilFunc, fun w => by kernel_rfl⟩
  have hit : ∀ (i : Nat) (F : Nat), Instr.findNow (.int .i64) (.int .i64 k) FM.toList 0 = some (some (i, .func (.func F) #[] #[])) → 0 ≤ k ∧ k ≤ 3 → fA k = .fn F [] → ∃ v, (Instr.lookup 86 (.map (some r)) (.int .i64 k) true).run Try.prog W = .ok (.tuple #[v, .bool (decide (0 ≤ k ∧ k ≤ 3))]) W ∧ ∀ w φ N, Rep w φ N (fA k) v := fun i F hf hk hA => by
    refine ⟨.func (.func F) #[] #[], ?_, fun w φ N => ?_⟩
    · rw [decide_eq_true hk]
      exact mapHit k true hr Try.underlying86 Try.underlying3 hf
    · rw [hA]
      exact .fn _ _ _ rfl (fun i x hx => by simp at hx)
  by_cases h0 : k = 0
  · subst h0; exact hit 0 _ rfl (by decide) rfl
  by_cases h1 : k = 1
  · subst h1; exact hit 1 _ rfl (by decide) rfl
  by_cases h2 : k = 2
  · subst h2; exact hit 2 _ rfl (by decide) rfl
  by_cases h3 : k = 3
  · subst h3; exact hit 3 _ rfl (by decide) rfl
  refine ⟨z, ?_, fun w φ N => ?_⟩
  · rw [decide_eq_false (by omega)]
    refine mapMiss k true hr Try.underlying86 Try.underlying3 hz ?_
    have e0 : (k == 0) = false := by simpa using h0
    have e1 : (k == 1) = false := by simpa using h1
    have e2 : (k == 2) = false := by simpa using h2
    have e3 : (k == 3) = false := by simpa using h3
    simp [Instr.findNow, Instr.sameNow, FM, e0, e1, e2, e3]
  · have : fA k = .any := by unfold fA; rw [if_neg h0, if_neg h1, if_neg h2, if_neg h3]
    rw [this]
    exact .any _
/-- The region that looks for a window's formula. -/
theorem tab_hand (k0 : Nat) (kind : Int) (env : List (Nat × AV)) (lbl : List (Nat × Option LB)) (nx : Nat) (h : look 0 env = some (.int kind)) {t0 t1 t2 t3 t4 t5 t6 t7 : TypeId} {p0 p1 p2 p3 p4 p5 p6 p7 : String} {a0 a1 a2 a3 a4 a5 a6 a7 : Array Edge} :
    RegH Try.prog k0 #[⟨some 15, .call { callee := .value (.func 72), args := #[], argTypes := #[] }, t0, p0, a0, none⟩, ⟨some 16, .move (.tmp 0), t1, p1, a1, none⟩, ⟨some 17, .lookup 86 (.tmp 15) (.tmp 16) true, t2, p2, a2, none⟩, ⟨some 14, .move (.tmp 17), t3, p3, a3, none⟩, ⟨some 18, .extract (.tmp 14) 0, t4, p4, a4, none⟩, ⟨some 19, .extract (.tmp 14) 1, t5, p5, a5, none⟩, ⟨some 8, .assign (.tmp 18), t6, p6, a6, none⟩, ⟨some 9, .assign (.tmp 19), t7, p7, a7, none⟩] false
      ⟨env, lbl, nx⟩ ⟨(9, .bool (decide (0 ≤ kind ∧ kind ≤ 3))) :: (8, fA kind) :: (19, .bool (decide (0 ≤ kind ∧ kind ≤ 3))) :: (18, fA kind) :: (14, .any) :: (17, .any) :: (16, .any) :: (15, .any) :: env, lbl, nx⟩ := by
  intro n w0 M N0 a w Q hM hd ht hQ
  refine ⟨fun _ => ?_, fun h => by cases h⟩
  have hd' := dstsOk_mem hd
  have lt : ∀ t : Nat, t < n ∨ True := fun _ => .inr trivial
  simp only [dstsOk, dstLt, Bool.and_eq_true] at hd
  obtain ⟨d0, d1, d2, d3, d4, d5, d6, d7, _⟩ := hd
  have d0 := blt_lt d0
  have d1 := blt_lt d1
  have d2 := blt_lt d2
  have d3 := blt_lt d3
  have d4 := blt_lt d4
  have d5 := blt_lt d5
  have d6 := blt_lt d6
  have d7 := blt_lt d7
  have hk : a.eval (.tmp 0) = .int .i64 kind := tel_raw ht h
  show wpOps _ _ _ [0, 1, 2, 3, 4, 5, 6, 7] a w
  have hen : (execOp a.eval ⟨some 15, .call { callee := .value (.func 72), args := #[], argTypes := #[] }, t0, p0, a0, none⟩).run Try.prog w = .ok (.enter 72 #[]) w := by
    simp [execOp, resolve, Deferred.ofValue, Act.eval, invoke]
  refine hand_op (o := ⟨some 15, _, t0, p0, a0, none⟩) rfl rfl (hand_call hen ((formulas.run w).mono ?_))
  rintro e w1 ⟨rfl, hw1⟩
  refine ⟨_, rfl, ?_⟩
  have hb : Below w.heap.size w w1 := by rw [hw1]; exact (Below.refl _ w).alloc (Nat.le_refl _) _
  have hr : w1.heap[w.heap.size]? = some (.map FM 4) := by rw [hw1]; exact heap_alloc_new w _
  obtain ⟨v, hl, hv⟩ := formulas.look kind w1 w.heap.size hr
  have u1 := tel_put (t := 15) (tel_below ht hb) d0 (fun _ _ => .raw (.map (some w.heap.size)))
  clear ht hk hen
  show wpOps _ _ _ _ (a.put (some 15) _) w1
  generalize a.put (some 15) (Value.map (some w.heap.size)) = b1 at *
  generalize hT : Value.tuple #[v, .bool (decide (0 ≤ kind ∧ kind ≤ 3))] = T at *
  refine step_move (.raw (.int .i64 kind)) (u := 0) rfl d1 (by show look 0 ((15, _) :: env) = _; rw [look_cons, if_neg (by decide)]; exact h) u1 fun b2 u2 => ?_
  have e2 := tel_raw u2 (t := 15) (v := .map (some w.heap.size)) (by show look 15 ((16, _) :: (15, _) :: env) = _; rw [look_cons, if_neg (by decide), look_cons, if_pos rfl])
  have e3 := tel_raw u2 (t := 16) (v := .int .i64 kind) (by show look 16 ((16, _) :: (15, _) :: env) = _; rw [look_cons, if_pos rfl])
  refine step_raw T rfl d2 (by rw [← e2, ← e3] at hl; simp [execOp, hl]) u2 fun b3 u3 => ?_
  refine step_move (.raw T) (u := 17) rfl d3 (by show look 17 ((17, _) :: _) = _; rw [look_cons, if_pos rfl]) u3 fun b4 u4 => ?_
  have e5 := tel_raw u4 (t := 14) (v := T) (by show look 14 ((14, _) :: _) = _; rw [look_cons, if_pos rfl])
  rw [← hT] at e5
  refine step_val (fA kind) v rfl d4 (ext_run (k := 0) (by simp) e5) (fun φ N => hv w1 φ N) u4 fun b5 u5 => ?_
  have e6 := tel_raw u5 (t := 14) (v := T) (by show look 14 ((18, _) :: (14, _) :: _) = _; rw [look_cons, if_neg (by decide), look_cons, if_pos rfl])
  rw [← hT] at e6
  refine step_raw (.bool (decide (0 ≤ kind ∧ kind ≤ 3))) rfl d5 (ext_run (k := 1) (by simp) e6) u5 fun b6 u6 => ?_
  refine step_assign (fA kind) (u := 18) rfl d6 (by show look 18 ((19, _) :: (18, _) :: _) = _; rw [look_cons, if_neg (by decide), look_cons, if_pos rfl]) u6 fun b7 u7 => ?_
  refine step_assign (.raw (.bool (decide (0 ≤ kind ∧ kind ≤ 3)))) (u := 19) rfl d7 (by show look 19 ((8, _) :: (19, _) :: _) = _; rw [look_cons, if_neg (by decide), look_cons, if_pos rfl]) u7 fun b8 u8 => ?_
  show Q .normal b8 w1
  refine hQ _ _ (tel_any u8 ?_)
  refine Less.cons 9 (Less.cons 8 (Less.cons 19 (Less.cons 18 (Less.cons 14 (Less.cons 17 (Less.cons 16 (Less.cons 15 (Less.refl _) (.inr rfl)) (.inr rfl)) (.inr rfl)) (.inr rfl)) (.inl rfl)) (.inl rfl)) (.inl rfl)) (.inl rfl)
end Go.Proofs.YtfmhdfaelgkmcaaV

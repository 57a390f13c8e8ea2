import Derived.Test.YtfemklaeonkidaaVcR7
/- What the evaluator says of the model: an operation. -/
namespace Go.Proofs.YtfemklaeonkidaaV
open Go Go.RowKit
set_option linter.unusedVariables false
set_option linter.unusedSimpArgs false

/-! What an operation may come to, by its form. -/
def Out.kind : Out → Nat
  | .val _ _ => 0
  | .bad => 0
  | .new _ _ _ => 1
  | .put _ _ _ => 2
  | .grow _ _ _ => 3
  | .call _ _ _ _ => 4
def opKind : Op → Nat
  | .alloc _ => 1
  | .box _ _ => 1
  | .buildSlice _ _ _ => 1
  | .makeSlice _ _ _ => 1
  | .store _ _ _ => 2
  | .call c => match c.callee with
    | .builtin _ => 3
    | _ => 4
  | _ => 0
section
variable {tt : TypeId → Option TI} {lb : Nat → Option LB}
theorem k_abin {b te ts op x y} : (abin b te ts op x y).kind = 0 := by
  unfold abin
  split
  · unfold aints
    split
    · rfl
    · rfl
    · split
      · unfold aint; split <;> rfl
      · rfl
  · unfold abools
    repeat' split
    all_goals rfl
  · unfold aaggs
    split
    · unfold aeqs
      split <;> rfl
    · rfl
  · unfold anil
    repeat' split
    all_goals rfl
  · rfl
theorem k_aun {op x} : (aun op x).kind = 0 := by unfold aun; split <;> rfl
theorem k_piece {ts l o} : (pieceOf ts l o).kind = 0 := by unfold pieceOf; split <;> rfl
theorem k_load {t a} : (aload tt lb t a).kind = 0 := by
  unfold aload
  repeat' split
  all_goals first | rfl | exact k_piece
theorem k_store {t a x} : (astore tt lb t a x).kind = 0 ∨ (astore tt lb t a x).kind = 2 := by
  unfold astore
  repeat' split
  all_goals first | (left; rfl) | (right; rfl)
theorem k_fieldAddr {t a x} : (afieldAddr tt t a x).kind = 0 := by
  unfold afieldAddr
  repeat' split
  all_goals rfl
theorem k_field {t a x} : (afield tt t a x).kind = 0 := by
  unfold afield
  repeat' split
  all_goals first | rfl | exact k_piece
theorem k_index {t a x} : (aindex tt t a x).kind = 0 := by
  unfold aindex
  repeat' split
  all_goals rfl
theorem k_indexAddr {t a x} : (aindexAddr tt lb t a x).kind = 0 := by
  unfold aindexAddr
  repeat' split
  all_goals rfl
theorem k_build {t a} : (abuild tt t a).kind = 0 := by
  unfold abuild
  repeat' split
  all_goals rfl
theorem k_buildSlice {t a l} : (abuildSlice tt t a l).kind = 0 ∨ (abuildSlice tt t a l).kind = 1 := by
  unfold abuildSlice
  repeat' split
  all_goals first | (left; rfl) | (right; rfl)
theorem k_makeSlice {t a l} : (amakeSlice tt t a l).kind = 0 ∨ (amakeSlice tt t a l).kind = 1 := by
  unfold amakeSlice
  repeat' split
  all_goals first | (left; rfl) | (right; rfl)
theorem k_apart {l off n sz ei lo hi mx} : (apart l off n sz ei lo hi mx).kind = 0 := by
  unfold apart
  repeat' split
  all_goals rfl
theorem k_slice {t a l h m} : (aslice tt lb t a l h m).kind = 0 := by
  unfold aslice
  repeat' split
  all_goals first | rfl | exact k_apart
theorem k_ext {a i} : (aext a i).kind = 0 := by
  unfold aext
  repeat' split
  all_goals rfl
theorem k_len {a} : (alen lb a).kind = 0 := by
  unfold alen
  repeat' split
  all_goals rfl
theorem k_minmaxGo {b k} : ∀ (l : List AV) (a : Int), (minmaxGo b k a l).kind = 0
  | [], _ => rfl
  | x :: r, a => by
    unfold minmaxGo
    split
    · rfl
    · rename_i heq
      obtain ⟨rfl, rfl⟩ := List.cons.inj heq
      exact k_minmaxGo _ _
    · rfl
theorem k_minmax {b l} : (aminmax b l).kind = 0 := by
  unfold aminmax
  split
  · exact k_minmaxGo _ _
  · rfl
theorem k_append {t a l} : (aappend tt lb t a l).kind = 0 ∨ (aappend tt lb t a l).kind = 3 := by
  unfold aappend
  repeat' split
  all_goals first | (left; rfl) | (right; rfl)
theorem aop_kind {ev : Operand → AV} {op : Op} : (aop tt lb ev op).kind = 0 ∨ (aop tt lb ev op).kind = opKind op := by
  unfold aop
  split
  all_goals first
    | (left; rfl)
    | (right; rfl)
    | (left; first | exact k_abin | exact k_aun | exact k_load | exact k_fieldAddr | exact k_field | exact k_index | exact k_indexAddr | exact k_build | exact k_slice | exact k_ext)
    | exact k_store
    | exact k_buildSlice
    | exact k_makeSlice
    | (repeat' split
       all_goals first | (left; rfl) | (right; rfl))
    | skip
  rename_i c
  obtain ⟨cal, args, ats⟩ := c
  simp only
  split
  · repeat' split
    all_goals first | (left; exact k_len) | (left; rfl)
  · left; exact k_minmax
  · left; exact k_minmax
  · repeat' split
    all_goals first | exact k_append | (left; rfl)
  · split
    · right; rfl
    · left; rfl
  · left; rfl
end

section
variable {P : Program} {tt : TypeId → Option TI} (hT : TOk P tt) {w : World} {φ : Nat → Option Value} {N : Nat → Prop} {base : Nat} {lb : Nat → Option LB} {ev : Operand → AV} {ρ : Operand → Value}
variable (hE : ∀ x, Rep w φ N (ev x) (ρ x)) (hL : ∀ l B, lb l = some B → Holds w φ N base l B)
include hE

theorem parts_rep (parts : Array (Nat × Operand)) : (parts.toList.map fun (i, x) => (i, ev x)).length = (parts.map fun (i, x) => (i, ρ x)).toList.length ∧
    ∀ (j : Nat) q, (parts.toList.map fun (i, x) => (i, ev x))[j]? = some q → ∃ v, (parts.map fun (i, x) => (i, ρ x)).toList[j]? = some (q.1, v) ∧ Rep w φ N q.2 v := by
  refine ⟨by simp, fun j q hq => ?_⟩
  rw [List.getElem?_map] at hq
  cases hp : parts.toList[j]? with
  | none => rw [hp] at hq; cases hq
  | some r =>
    rw [hp] at hq
    obtain rfl := Option.some.inj hq
    refine ⟨ρ r.2, ?_, hE _⟩
    rw [Array.toList_map, List.getElem?_map, hp]
    rfl

theorem args_rep (args : List Operand) : (args.map ev).length = (args.map ρ).length ∧ ∀ (i : Nat) y, (args.map ev)[i]? = some y → Rep w φ N y ((args.map ρ).getD i undef) := by
  refine ⟨by simp, fun i y hy => ?_⟩
  rw [List.getElem?_map] at hy
  cases hp : args[i]? with
  | none => rw [hp] at hy; cases hy
  | some r =>
    rw [hp] at hy
    obtain rfl := Option.some.inj hy
    rw [List.getD_eq_getElem?_getD, List.getElem?_map, hp]
    exact hE _

theorem opt_rep (o : Option Operand) : (∀ y, o.map ev = some y → ∃ v, o.map ρ = some v ∧ Rep w φ N y v) ∧ (o.map ev = none → o.map ρ = none) := by
  cases o with
  | none => simp
  | some x => exact ⟨fun y hy => ⟨_, rfl, by obtain rfl := Option.some.inj hy; exact hE x⟩, fun h => by cases h⟩

include hT hL
theorem run_val {op : Op} {p : Prop} {x : AV} (h : aop tt lb ev op = .val p x) (hp : p) {d : Option Tmp} {ty : TypeId} {po : String} {af : Array Edge} {g : Option (Nat × Bool)} :
    ∃ v, (execOp ρ ⟨d, op, ty, po, af, g⟩).run P w = .ok (.value v) w ∧ Rep w φ N x v := by
  unfold aop at h
  split at h
  · -- move
    simp only [Out.val.injEq] at h
    obtain ⟨rfl, rfl⟩ := h
    exact ⟨_, by simp [execOp], hE _⟩
  · simp only [Out.val.injEq] at h
    obtain ⟨rfl, rfl⟩ := h
    exact ⟨_, by simp [execOp], hE _⟩
  · -- pick
    rename_i c a b
    split at h
    · rename_i t hc
      have hcv := hE c
      rw [hc] at hcv
      have e := hcv.of_raw
      have ha := hE a
      have hb := hE b
      split at h
      · rename_i q r h1 h2
        simp only [Out.val.injEq] at h
        obtain ⟨rfl, rfl⟩ := h
        rw [h1] at ha
        rw [h2] at hb
        have e1 := ha.of_raw
        have e2 := hb.of_raw
        refine ⟨if t = true then ρ a else ρ b, by simp [execOp, e, asBool], ?_⟩
        cases t
        · simpa [e2] using Rep.raw (Value.bool r)
        · simpa [e1] using Rep.raw (Value.bool q)
      · simp only [Out.val.injEq] at h
        obtain ⟨rfl, rfl⟩ := h
        refine ⟨if t = true then ρ a else ρ b, by simp [execOp, e, asBool], ?_⟩
        cases t
        · exact hb
        · exact ha
    · cases h
  · -- binOp
    rename_i op' t' x' y' yt
    obtain ⟨v, h1, h2⟩ := abin_ok (X := x') (Y := y') (w := w) hT h hp (hE _) (hE _)
    refine ⟨v, ?_, h2⟩
    show ((do eqGuard op' t' x' y' (ρ x') (ρ y'); binOp op' t' (ρ x') (ρ y') : Sem Value) >>= fun v => Pure.pure (Next.value v)).run P w = _
    rw [Sem.run_bind, h1]
    rfl
  · obtain ⟨v, h1, h2⟩ := aun_ok (P := P) (w := w) h hp (hE _)
    exact ⟨v, by simp [execOp, h1], h2⟩
  · -- convert
    rename_i src dst x'
    split at h
    · rename_i k k0 k' n h1 h2 h3
      simp only [Out.val.injEq] at h
      obtain ⟨rfl, rfl⟩ := h
      have hx := hE x'
      rw [h3] at hx
      have e := hx.of_raw
      exact ⟨_, by simp [execOp, e, aconv_ok hT h1 h2], .raw _⟩
    · cases h
  · split at h <;> cases h
  · cases h
  · -- build
    rename_i t parts
    obtain ⟨g1, g2⟩ := parts_rep hE parts
    obtain ⟨v, h1, h2⟩ := abuild_ok hT h hp g1 g2
    exact ⟨v, by simp [execOp, h1], h2⟩
  · unfold abuildSlice at h
    split at h
    · split at h <;> cases h
    · cases h
  · obtain ⟨v, h1, h2⟩ := aload_ok hT hL h hp (hE _)
    exact ⟨v, by simp [execOp, h1], h2⟩
  · unfold astore at h
    split at h
    · cases h
    · split at h
      · split at h <;> cases h
      · split at h
        · split at h <;> cases h
        · cases h
      · cases h
  · -- nilCheck
    rename_i x'
    have hx := hE x'
    obtain ⟨u, hu⟩ : ∃ u, ρ x' = u := ⟨_, rfl⟩
    rw [hu] at hx
    split at h <;> first
      | (cases h; done)
      | (rename_i hh
         rw [hh] at hx
         simp only [Out.val.injEq] at h
         obtain ⟨rfl, rfl⟩ := h
         refine ⟨u, ?_, hx⟩
         cases hx <;> simp [execOp, hu])
  · obtain ⟨v, h1, h2⟩ := afieldAddr_ok hT h hp (hE _)
    exact ⟨v, by simp [execOp, h1], h2⟩
  · obtain ⟨v, h1, h2⟩ := afield_ok hT h hp (hE _)
    exact ⟨v, by simp [execOp, h1], h2⟩
  · obtain ⟨v, h1, h2⟩ := aindexAddr_ok hT hL h hp (hE _) (hE _)
    exact ⟨v, by simp [execOp, h1], h2⟩
  · obtain ⟨v, h1, h2⟩ := aindex_ok hT h hp (hE _) (hE _)
    exact ⟨v, by simp [execOp, h1], h2⟩
  · rename_i t x' lo hi mx
    obtain ⟨a1, a2⟩ := opt_rep hE lo
    obtain ⟨b1, b2⟩ := opt_rep hE hi
    obtain ⟨c1, c2⟩ := opt_rep hE mx
    obtain ⟨v, h1, h2⟩ := aslice_ok hT hL h hp (hE _) a1 b1 c1 c2 a2 b2
    exact ⟨v, by simp [execOp, h1], h2⟩
  · unfold amakeSlice at h
    split at h <;> cases h
  · -- makeFunc
    rename_i f first caps
    split at h
    · rename_i hf
      simp only [Out.val.injEq] at h
      obtain ⟨rfl, rfl⟩ := h
      obtain ⟨g1, g2⟩ := args_rep hE caps.toList
      refine ⟨.func (.func f) #[] (caps.map ρ), ?_, .fn f _ _ (by simp) fun i x hx => ?_⟩
      · have : first = #[] := Array.eq_empty_of_size_eq_zero hf
        subst this
        simp [execOp, Instr.makeFunc]
      · have := g2 i x hx
        simpa [Array.getD_eq_getD_getElem?, List.getD_eq_getElem?_getD] using this
    · cases h
  · obtain ⟨v, h1, h2⟩ := aext_ok (P := P) (w := w) h hp (hE _)
    exact ⟨v, by simp [execOp, h1], h2⟩
  · -- call
    rename_i c
    obtain ⟨cal, args, ats⟩ := c
    simp only at h
    split at h
    · split at h
      · rename_i x' ha
        split at h
        · rename_i t hat
          split at h
          · rename_i q hq
            obtain ⟨e, ei⟩ := q
            obtain ⟨v, h1, h2⟩ := alen_ok (w := w) hT hL (ty := ty) hq h hp (hE x')
            have e1 : args = #[x'] := by simpa using congrArg List.toArray ha
            have e2 : ats = #[t] := by simpa using congrArg List.toArray hat
            subst e1 e2
            exact ⟨v, by simp [execOp, resolve, invoke, builtin, h1], h2⟩
          · cases h
        · cases h
      · cases h
    · obtain ⟨g1, g2⟩ := args_rep hE args.toList
      obtain ⟨v, h1, h2⟩ := aminmax_ok (P := P) (isMin := true) (ts := ats) (t := ty) h g1 g2
      refine ⟨v, ?_, h2⟩
      have e : args.map ρ = (args.toList.map ρ).toArray := by rw [← Array.toList_map, Array.toArray_toList]
      have h1 : (Builtin.min_ ats ty (args.toList.map ρ).toArray).run P w = .ok v w := h1
      simp [execOp, resolve, invoke, builtin]
      rw [e, h1]
      rfl
    · obtain ⟨g1, g2⟩ := args_rep hE args.toList
      obtain ⟨v, h1, h2⟩ := aminmax_ok (P := P) (isMin := false) (ts := ats) (t := ty) h g1 g2
      refine ⟨v, ?_, h2⟩
      have e : args.map ρ = (args.toList.map ρ).toArray := by rw [← Array.toList_map, Array.toArray_toList]
      have h1 : (Builtin.max_ ats ty (args.toList.map ρ).toArray).run P w = .ok v w := h1
      simp [execOp, resolve, invoke, builtin]
      rw [e, h1]
      rfl
    · split at h
      · split at h
        · unfold aappend at h
          split at h
          · cases h
          · split at h
            · cases h
            · split at h
              · cases h
              · split at h <;> cases h
              · cases h
        · cases h
      · cases h
    · split at h <;> cases h
    · cases h
  · cases h

omit hL in
theorem run_new {op : Op} {p : Prop} {B : LB} {f : Nat → AV} (hN : ∀ b, N b → b < w.heap.size) (hb : base ≤ w.heap.size) (h : aop tt lb ev op = .new p B f) (hp : p) {d : Option Tmp} {ty : TypeId} {po : String} {af : Array Edge} {g : Option (Nat × Bool)} :
    ∃ v o', (execOp ρ ⟨d, op, ty, po, af, g⟩).run P w = .ok (.value v) (w.alloc o') ∧ Made w φ N base B f v o' := by
  have hk := aop_kind (tt := tt) (lb := lb) (ev := ev) (op := op)
  rw [h] at hk
  have hk : opKind op = 1 := by
    rcases hk with hk | hk
    · cases hk
    · exact hk.symm
  cases op with
  | alloc e =>
    simp only [aop] at h
    split at h
    · rename_i z hz
      simp only [Out.new.injEq] at h
      obtain ⟨rfl, rfl, rfl⟩ := h
      obtain ⟨v, o', h1, h2⟩ := alloc_ok (w := w) (φ := φ) (N := N) hT hN hb hz
      exact ⟨v, o', by simp [execOp, h1], h2⟩
    · cases h
  | box e x =>
    simp only [aop, Out.new.injEq] at h
    obtain ⟨rfl, rfl, rfl⟩ := h
    obtain ⟨v, o', h1, h2⟩ := box_ok (P := P) (e := e) hN hb (hE x) hp
    exact ⟨v, o', by simp [execOp, h1], h2⟩
  | buildSlice t len parts =>
    obtain ⟨g1, g2⟩ := parts_rep hE parts
    obtain ⟨v, o', h1, h2⟩ := buildSlice_ok hT hN hb h hp g1 g2
    exact ⟨v, o', by simp [execOp, h1], h2⟩
  | makeSlice t l c =>
    obtain ⟨v, o', h1, h2⟩ := makeSlice_ok hT hN hb h hp (hE l) (hE c)
    exact ⟨v, o', by simp [execOp, h1], h2⟩
  | call c =>
    simp only [opKind] at hk
    split at hk <;> cases hk
  | _ => cases hk

/-- The label that is written, and its block. -/
theorem run_put {op : Op} {p : Prop} {l : Nat} {B : LB} (hN : ∀ b, N b → b < w.heap.size) (h : aop tt lb ev op = .put p l B) (hp : p) {d : Option Tmp} {ty : TypeId} {po : String} {af : Array Edge} {g : Option (Nat × Bool)} :
    ∃ w' b v, (execOp ρ ⟨d, op, ty, po, af, g⟩).run P w = .ok .skip w' ∧ φ l = some v ∧ vblock v = some b ∧ base ≤ b ∧ b < w.heap.size ∧ ¬ N b ∧ Turned w w' b ∧ Holds w' φ N base l B ∧ ∃ B0, lb l = some B0 := by
  have hk := aop_kind (tt := tt) (lb := lb) (ev := ev) (op := op)
  rw [h] at hk
  have hk : opKind op = 2 := by
    rcases hk with hk | hk
    · cases hk
    · exact hk.symm
  cases op with
  | store t a x =>
    obtain ⟨w', b, v, h1, h2⟩ := astore_ok hT hL hN h hp (hE a) (hE x)
    exact ⟨w', b, v, by simp [execOp, h1], h2⟩
  | call c =>
    simp only [opKind] at hk
    split at hk <;> cases hk
  | _ => cases hk

theorem run_grow {op : Op} {p : Prop} {l : Option Nat} {B : LB} (hN : ∀ b, N b → b < w.heap.size) (hb : base ≤ w.heap.size) (h : aop tt lb ev op = .grow p l B) (hp : p) {d : Option Tmp} {ty : TypeId} {po : String} {af : Array Edge} {g : Option (Nat × Bool)} :
    ∃ v' w' row, (execOp ρ ⟨d, op, ty, po, af, g⟩).run P w = .ok (.value v') w' ∧ w.grownBy w' row ∧ (∀ b, row = some b → base ≤ b ∧ b < w.heap.size ∧ ¬ N b) ∧ (∀ k, φ k = none → Holds w' (upd φ k v') N base k B ∧ Rep w' (upd φ k v') N (.own k) v') ∧
      ((l = none ∧ row = none) ∨ ∃ l0 v0, l = some l0 ∧ (∃ B0, lb l0 = some B0) ∧ φ l0 = some v0 ∧ vblock v0 = row) ∧ (vblock v' = row ∨ vblock v' = some w.heap.size) := by
  have hk := aop_kind (tt := tt) (lb := lb) (ev := ev) (op := op)
  rw [h] at hk
  have hk : opKind op = 3 := by
    rcases hk with hk | hk
    · cases hk
    · exact hk.symm
  cases op with
  | call c =>
    obtain ⟨cal, args, ats⟩ := c
    simp only [aop] at h
    split at h
    · have hk := congrArg Out.kind h
      split at hk
      · split at hk
        · split at hk
          · rw [k_len] at hk; cases hk
          · cases hk
        · cases hk
      · cases hk
    · have hk := congrArg Out.kind h
      rw [k_minmax] at hk
      cases hk
    · have hk := congrArg Out.kind h
      rw [k_minmax] at hk
      cases hk
    · split at h
      · rename_i x y t t' ha hat
        split at h
        · rename_i htt
          subst htt
          have e1 : args = #[x, y] := by simpa using congrArg List.toArray ha
          have e2 : ats = #[t, t] := by simpa using congrArg List.toArray hat
          subst e1 e2
          obtain ⟨v', w', row, h1, h2⟩ := aappend_ok (ty := ty) hT hL hN hb h hp (hE x) (hE y)
          exact ⟨v', w', row, by simp [execOp, resolve, invoke, builtin, h1], h2⟩
        · cases h
      · cases h
    · split at h <;> cases h
    · cases h
  | _ => cases hk

omit hT in
theorem run_call {op : Op} {F : FuncId} {args : List AV} {fr : Bool} {raw : List AV} (h : aop tt lb ev op = .call F args fr raw) (hF : Fine P F) {d : Option Tmp} {ty : TypeId} {po : String} {af : Array Edge} {g : Option (Nat × Bool)} :
    ∃ vs : List Value, (execOp ρ ⟨d, op, ty, po, af, g⟩).run P w = .ok (.enter F vs.toArray) w ∧ vs.length = args.length ∧ (∀ i x, args[i]? = some x → Rep w (fun _ => none) (NL N φ lb) x (vs.getD i undef)) ∧ (fr = true → ∀ i x, args[i]? = some x → Rep w (fun _ => none) N x (vs.getD i undef)) ∧ vs.length = raw.length ∧ ∀ i x, raw[i]? = some x → Rep w φ N x (vs.getD i undef) := by
  have hk := aop_kind (tt := tt) (lb := lb) (ev := ev) (op := op)
  rw [h] at hk
  have hk : opKind op = 4 := by
    rcases hk with hk | hk
    · cases hk
    · exact hk.symm
  cases op with
  | call c =>
    obtain ⟨cal, as, ats⟩ := c
    simp only [aop] at h
    split at h
    · cases hk
    · cases hk
    · cases hk
    · cases hk
    · rename_i f _
      split at h
      · rename_i F' caps hf
        simp only [Out.call.injEq] at h
        obtain ⟨rfl, rfl, rfl, rfl⟩ := h
        have hfv := hE f
        rw [hf] at hfv
        obtain ⟨u, hu⟩ : ∃ u, ρ f = u := ⟨_, rfl⟩
        rw [hu] at hfv
        cases hfv with
        | fn _ _ vs hl hr =>
          have key : ∀ (N' : Nat → Prop), (∀ x ∈ as.toList, Rep w (fun _ => none) N' (snap lb 6 (ev x)) (ρ x)) → (∀ i r, caps[i]? = some r → Rep w (fun _ => none) N' (snap lb 6 r) (vs.getD i undef)) → ∀ i x, (as.toList.map (fun x => snap lb 6 (ev x)) ++ caps.map (snap lb 6))[i]? = some x → Rep w (fun _ => none) N' x ((as.toList.map ρ ++ vs.toList).getD i undef) := by
            intro N' ka kc i x hx
            rw [List.getElem?_append] at hx
            rw [List.getD_eq_getElem?_getD, List.getElem?_append]
            simp only [List.length_map] at hx ⊢
            split at hx
            · rename_i hlt
              rw [if_pos hlt]
              rw [List.getElem?_map] at hx ⊢
              cases hp : as.toList[i]? with
              | none => rw [hp] at hx; cases hx
              | some r =>
                rw [hp] at hx
                obtain rfl := Option.some.inj hx
                exact ka r (List.mem_of_getElem? hp)
            · rename_i hlt
              rw [if_neg hlt]
              rw [List.getElem?_map] at hx
              cases hp : caps[i - as.toList.length]? with
              | none => rw [hp] at hx; cases hx
              | some r =>
                rw [hp] at hx
                obtain rfl := Option.some.inj hx
                have := kc _ r hp
                simpa [Array.getD_eq_getD_getElem?] using this
          have raw : ∀ i x, (as.toList.map ev ++ caps)[i]? = some x → Rep w φ N x ((as.toList.map ρ ++ vs.toList).getD i undef) := by
            intro i x hx
            rw [List.getElem?_append] at hx
            rw [List.getD_eq_getElem?_getD, List.getElem?_append]
            simp only [List.length_map] at hx ⊢
            split at hx
            · rename_i hlt
              rw [if_pos hlt]
              rw [List.getElem?_map] at hx ⊢
              cases hp : as.toList[i]? with
              | none => rw [hp] at hx; cases hx
              | some r =>
                rw [hp] at hx
                obtain rfl := Option.some.inj hx
                exact hE r
            · rename_i hlt
              rw [if_neg hlt]
              have := hr _ x hx
              simpa [Array.getD_eq_getD_getElem?] using this
          refine ⟨as.toList.map ρ ++ vs.toList, ?_, by simp [hl], key _ (fun x _ => snap_ok hL 6 _ _ (hE x)) (fun i r hp => snap_ok hL 6 _ _ (hr _ r hp)), fun hfr => ?_, by simp [hl], raw⟩
          · have e : (as.toList.map ρ ++ vs.toList).toArray = as.map ρ ++ vs := by simp
            rw [e]
            simp [execOp, resolve, Deferred.ofValue, hu, invoke]
            exact hF _ w
          · rw [Bool.and_eq_true] at hfr
            exact key _ (fun x hx => snap_free 6 _ _ (hE x) (allFree_mem hfr.1 _ (List.mem_map.2 ⟨x, hx, rfl⟩))) (fun i r hp => snap_free 6 _ _ (hr _ r hp) (allFree_mem hfr.2 _ (List.mem_of_getElem? hp)))
      · cases h
    · cases h
  | _ => cases hk
end
end Go.Proofs.YtfemklaeonkidaaV

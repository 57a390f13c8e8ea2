import Derived.Test.YtfemklaeonkidaaVcT
/- What the evaluator says of the model: states, an operation. -/
namespace Go.Proofs.YtfemklaeonkidaaV
open Go Go.RowKit
set_option linter.unusedVariables false
set_option linter.unusedSimpArgs false

def okDst (n : Nat) : Option Tmp → Prop
  | none => True
  | some t => t < n

/-- What an operation came to. -/
inductive Res where
  | val (x : AV)
  | new (B : LB) (x : AV)
  | put (l : Nat) (B : LB)
  | grow (l : Option Nat) (B : LB) (x : AV)
  | eff (ls : List (Nat × LB)) (nw : Option LB) (x : AV)
def Res.x : Res → AV
  | .val x => x
  | .new _ x => x
  | .put _ _ => .any
  | .grow _ _ x => x
  | .eff _ _ x => x

def isNewR : Res → Bool
  | .new _ _ => true
  | .grow _ _ _ => true
  | .eff _ _ _ => true
  | _ => false

def fE (E : Nat → Option AV) (d : Option Tmp) (x : AV) : Nat → Option AV := fun t => if d = some t then some x else E t
def fS (L : Nat → Option LB) (l : Nat) (B : Option LB) : Nat → Option LB := fun k => if k = l then B else L k
def putF (ls : List (Nat × LB)) (L : Nat → Option LB) : Nat → Option LB :=
  match ls with
  | [] => L
  | (l, B) :: r => putF r (fS L l (some B))
def fL (L : Nat → Option LB) (lab : Nat) : Res → (Nat → Option LB)
  | .val _ => L
  | .new B _ => fS L lab (some B)
  | .put l B => fS L l (some B)
  | .grow none B _ => fS L lab (some B)
  | .grow (some l) B _ => fS (fS L l none) lab (some B)
  | .eff ls nw _ => fS (putF ls L) lab nw
def evE (E : Nat → Option AV) : Operand → AV
  | .tmp t => (E t).getD .any
  | .const v => .raw v
  | .global _ => .any
  | .func f => .fn f []

/-- An operation may come to this. -/
def Out.to (P : Program) (L : Nat → Option LB) (lab : Nat) (r : Res) : Out → Prop
  | .val p x => p ∧ r = .val x
  | .new p B f => p ∧ r = .new B (f lab)
  | .put p l B => p ∧ r = .put l B
  | .grow p l B => p ∧ r = .grow l B (.own lab)
  | .call F args fr raw => (∃ x, Ok P F args x ∧ (x.pure || fr && x.free) = true ∧ r = .val x) ∨ ∃ ls nw x, EffC P F L raw lab ls nw x ∧ r = .eff ls nw x
  | .bad => False

theorem But.refl (M : Nat → Prop) (w : World) : But M w w := ⟨rfl, rfl, rfl, Nat.le_refl _, fun _ _ _ => rfl⟩
theorem But.trans {M M' : Nat → Prop} {a b c : World} (h : But M a b) (k : But M' b c) (hm : ∀ x, M' x → M x ∨ a.heap.size ≤ x) : But M a c :=
  ⟨k.os.trans h.os, k.tape.trans h.tape, k.output.trans h.output, Nat.le_trans h.size k.size, fun x hx hn => (k.block x (Nat.lt_of_lt_of_le hx h.size) (fun e => by rcases hm x e with h' | h'; exact hn h'; omega)).trans (h.block x hx hn)⟩
theorem But.below {M : Nat → Prop} {a b c : World} (h : But M a b) (k : Below b.heap.size b c) : But M a c :=
  ⟨k.os.trans h.os, k.tape.trans h.tape, k.output.trans h.output, Nat.le_trans h.size k.size, fun x hx hn => (k.block x (Nat.lt_of_lt_of_le hx h.size)).trans (h.block x hx hn)⟩
theorem But.alloc {M : Nat → Prop} {a b : World} (h : But M a b) (o : Obj) : But M a (b.alloc o) :=
  h.below ((Below.refl _ _).alloc (Nat.le_refl _) o)
theorem But.drew {M : Nat → Prop} {a w : World} (h : But M a w) : But M a w.drew := ⟨h.os, h.tape, h.output, h.size, h.block⟩
theorem But.grown {M : Nat → Prop} {a w w' : World} {row : Option Nat} (h : But M a w) (hg : w.grownBy w' row) (hr : ∀ k, row = some k → M k ∨ a.heap.size ≤ k) : But M a w' :=
  ⟨hg.os.trans h.os, hg.tape.trans h.tape, hg.output.trans h.output, Nat.le_trans h.size hg.size, fun x hx hn => (hg.block x (Nat.lt_of_lt_of_le hx h.size) (fun e => by rcases hr x e.symm with h' | h'; exact hn h'; omega)).trans (h.block x hx hn)⟩
theorem But.toBelow {w w' : World} (h : But (fun _ => False) w w') : Below w.heap.size w w' := ⟨h.os, h.tape, h.output, h.size, fun k hk => h.block k hk (fun h => h)⟩

/-- Blocks of places. -/
def PB (φ : Nat → Option Value) : Nat → Prop := fun b => ∃ l v, φ l = some v ∧ vblock v = some b
/-- Blocks that may be told of; blocks that are to stay. -/
structure NG where
  p : Nat → Prop
  g : Nat → Option Obj
  sz : Nat
  lo : Nat
/-- What stays: among it the marks of loops over functions. -/
def GSt (N0 : NG) (N : Nat → Prop) (ds : List Deferred) (w : World) : Prop :=
  (N0.sz ≤ w.heap.size ∧ N0.lo ≤ w.heap.size) ∧ ∃ g : Nat → Option Obj, (∀ k o, N0.g k = some o → g k = some o) ∧ (∀ k o, g k = some o → N k ∧ w.heap[k]? = some o) ∧ ds.Nodup ∧ ∀ d ∈ ds, ∃ D, d = { target := .collected D, args := #[] } ∧ g D = some (.deferred (some [])) ∧ N0.lo ≤ D
theorem GSt.keep {N0 : NG} {N N' : Nat → Prop} {ds : List Deferred} {w w' : World} (h : GSt N0 N ds w) (hs : w.heap.size ≤ w'.heap.size) (hN : ∀ b, N b → N' b) (hw : ∀ b, N b → w'.heap[b]? = w.heap[b]?) : GSt N0 N' ds w' := by
  obtain ⟨h0, g, h1, h2, h3, h4⟩ := h
  exact ⟨⟨Nat.le_trans h0.1 hs, Nat.le_trans h0.2 hs⟩, g, h1, fun k o hk => ⟨hN k (h2 k o hk).1, (hw k (h2 k o hk).1).trans (h2 k o hk).2⟩, h3, h4⟩
theorem GSt.none {N : Nat → Prop} {p : Nat → Prop} {w : World} {k : Nat} (h : k ≤ w.heap.size) : GSt ⟨p, fun _ => none, 0, k⟩ N [] w := ⟨⟨Nat.zero_le _, h⟩, fun _ => Option.none, (fun k o h => by cases h), (fun k o h => by cases h), List.nodup_nil, (fun d h => by cases h)⟩
/-- A state of the model is as slots and labels tell. -/
structure Rel (n : Nat) (w0 : World) (M : Nat → Option Value) (N0 : NG) (φ : Nat → Option Value) (N : Nat → Prop) (U : Nat → Prop) (E : Nat → Option AV) (L : Nat → Option LB) (a : Act) (w : World) : Prop where
  defers : GSt N0 N a.defers w
  size : a.tmps.size = n
  bel : But (PB M) w0 w
  ext : ∀ l v, M l = some v → φ l = some v
  low : ∀ b, N b → b < w.heap.size
  nb : ∀ b, N b → N0.p b ∨ w0.heap.size ≤ b
  env : ∀ t x, E t = some x → Rep w φ N x (a.tmps.getD t undef)
  lbl : ∀ l B, L l = some B → Holds w φ N 0 l B
  mine : ∀ l B v b, L l = some B → φ l = some v → vblock v = some b → PB M b ∨ w0.heap.size ≤ b
  disj : ∀ l l' B B' v v' b, l ≠ l' → L l = some B → L l' = some B' → φ l = some v → φ l' = some v' → vblock v = some b → vblock v' ≠ some b
  fresh : ∀ l, ¬ U l → φ l = none

section
variable {n : Nat} {w0 : World} {M : Nat → Option Value} {N0 : NG} {φ : Nat → Option Value} {N : Nat → Prop} {U : Nat → Prop} {E : Nat → Option AV} {L : Nat → Option LB} {a : Act} {w : World}

theorem Holds.place {l : Nat} {B : LB} {base : Nat} (h : Holds w φ N base l B) : ∃ v, φ l = some v ∧ v.oneCell' = true ∧ (∀ b, vblock v = some b → base ≤ b ∧ b < w.heap.size ∧ ¬ N b) := by
  cases B with
  | box cells =>
    obtain ⟨b, ty, cs, hφ, hg, hs, hr, hb, hN⟩ := h
    refine ⟨_, hφ, rfl, fun c hc => ?_⟩
    obtain rfl := Option.some.inj hc
    exact ⟨hb, (Array.getElem?_eq_some_iff.1 hg).1, hN⟩
  | row e sz rows =>
    obtain ⟨v, xs, hφ, h1, ho, hs, hr, hN⟩ := h
    refine ⟨v, hφ, h1, fun c hc => ?_⟩
    have hv : vblock v = v.ownBlock := by
      rcases ho.2 with ⟨rfl, _⟩ | ⟨g, cap, cur, rfl, _⟩ <;> rfl
    rw [hv] at hc
    exact ⟨(ho.lt c hc).1, (ho.lt c hc).2, hN c hc⟩

/-- A label's cells in another world, in which its block and the contents' blocks are as they were. -/
theorem Holds.keep {w' : World} {φ' : Nat → Option Value} {N' : Nat → Prop} {l : Nat} {B : LB} {base : Nat} (h : Holds w φ N base l B) (hr : ∀ x v, Rep w φ N x v → Rep w' φ' N' x v) (hb : ∀ v b, φ l = some v → vblock v = some b → w'.heap[b]? = w.heap[b]? ∧ ¬ N' b) (hφ : ∀ v, φ l = some v → φ' l = some v) : Holds w' φ' N' base l B := by
  cases B with
  | box cells =>
    obtain ⟨b, ty, cs, hp, hg, hs, hr', hb', hN⟩ := h
    obtain ⟨h1, h2⟩ := hb _ b hp rfl
    exact ⟨b, ty, cs, hφ _ hp, h1.trans hg, hs, fun i x hx => hr _ _ (hr' i x hx), hb', h2⟩
  | row e sz rows =>
    obtain ⟨v, xs, hp, h1, ho, hs, hr', hN⟩ := h
    refine ⟨v, xs, hφ _ hp, h1, ⟨ho.1, ?_⟩, hs, fun i x hx => hr _ _ (hr' i x hx), fun b hbv => ?_⟩
    · rcases ho.2 with hn | ⟨g, cap, cur, rfl, hb', hg, rest⟩
      · exact .inl hn
      · exact .inr ⟨g, cap, cur, rfl, hb', ((hb _ g hp rfl).1).trans hg, rest⟩
    · have hv : vblock v = some b := by
        rcases ho.2 with ⟨rfl, _⟩ | ⟨g, cap, cur, rfl, _⟩ <;> exact hbv
      exact (hb _ b hp hv).2

theorem Rel.ev (R : Rel n w0 M N0 φ N U E L a w) (x : Operand) : Rep w φ N (evE E x) (a.eval x) := by
  cases x with
  | tmp t =>
    show Rep w φ N ((E t).getD .any) _
    cases h : E t with
    | none => exact .any _
    | some x => exact R.env t x h
  | const v => exact .raw v
  | global g => exact .any _
  | func f => exact .fn f [] #[] rfl (by simp)

theorem getD_set_ne {vs : Array Value} {t u : Nat} {v : Value} (h : t ≠ u) : (vs.setIfInBounds u v).getD t undef = vs.getD t undef := by
  rw [Array.getD_eq_getD_getElem?, Array.getD_eq_getD_getElem?, Array.getElem?_setIfInBounds, if_neg (fun e => h e.symm)]
theorem getD_set_eq {vs : Array Value} {t : Nat} {v : Value} (h : t < vs.size) : (vs.setIfInBounds t v).getD t undef = v := by
  rw [Array.getD_eq_getD_getElem?, Array.getElem?_setIfInBounds, if_pos rfl, if_pos h]
  rfl

theorem Rel.put (R : Rel n w0 M N0 φ N U E L a w) {d : Option Tmp} (hd : okDst n d) {x : AV} {v : Value} (hx : Rep w φ N x v) : Rel n w0 M N0 φ N U (fE E d x) L (a.put d v) w := by
  cases d with
  | none =>
    have : fE E none x = E := by funext t; simp [fE]
    rw [this]
    exact R
  | some t =>
    refine ⟨R.defers, by simpa [Act.put] using R.size, R.bel, R.ext, R.low, R.nb, fun u y hy => ?_, R.lbl, R.mine, R.disj, R.fresh⟩
    have ht : t < a.tmps.size := by rw [R.size]; exact hd
    unfold fE at hy
    split at hy
    · rename_i e
      obtain rfl := Option.some.inj e
      obtain rfl := Option.some.inj hy
      show Rep w φ N x ((a.tmps.setIfInBounds t v).getD t undef)
      rw [getD_set_eq ht]
      exact hx
    · rename_i e
      show Rep w φ N y ((a.tmps.setIfInBounds t v).getD u undef)
      rw [getD_set_ne (fun h => e (by rw [h]))]
      exact R.env u y hy

theorem Rel.base_le (R : Rel n w0 M N0 φ N U E L a w) : w0.heap.size ≤ w.heap.size := R.bel.size

theorem fS_some {l k : Nat} {o : Option LB} {B : LB} (h : fS L l o k = some B) : (k = l ∧ o = some B) ∨ (k ≠ l ∧ L k = some B) := by
  unfold fS at h
  split at h
  · rename_i e; exact .inl ⟨e, h⟩
  · rename_i e; exact .inr ⟨e, h⟩

theorem Rel.made (R : Rel n w0 M N0 φ N U E L a w) {B : LB} {f : Nat → AV} {v : Value} {o' : Obj} (hm : Made w φ N 0 B f v o') {lab : Nat} (hlab : ¬ U lab) :
    Rel n w0 M N0 (upd φ lab v) N (fun l => U l ∨ l = lab) E (fS L lab (some B)) a (w.alloc o') ∧ Rep (w.alloc o') (upd φ lab v) N (f lab) v := by
  have hf := R.fresh lab hlab
  obtain ⟨hv, hh⟩ := hm
  obtain ⟨h1, h2⟩ := hh lab hf
  have hmono : ∀ x u, Rep w φ N x u → Rep (w.alloc o') (upd φ lab v) N x u := fun x u h => h.mono (fun b o u' hb hc => cell_alloc (R.low b hb) hc) (upd_ext hf) (fun _ h => h)
  have hold : ∀ l B, L l = some B → ∃ u, φ l = some u ∧ l ≠ lab ∧ (∀ b, vblock u = some b → b < w.heap.size) := by
    intro l B hl
    obtain ⟨u, hu, _, hub⟩ := (R.lbl l B hl).place
    exact ⟨u, hu, (fun e => by subst e; rw [hf] at hu; cases hu), fun b hb => (hub b hb).2.1⟩
  refine ⟨⟨R.defers.keep (by simp) (fun _ h => h) (fun b hb => Below.heap_alloc w o' b (R.low b hb)), R.size, R.bel.alloc o', fun l u h => upd_ext hf _ _ (R.ext l u h), fun b hb => by simpa using Nat.lt_succ_of_lt (R.low b hb), R.nb, fun t x hx => hmono _ _ (R.env t x hx), fun l B' hl => ?_, fun l B' u b hl hu hb => ?_, ?_, fun l hl => ?_⟩, h2⟩
  · rcases fS_some hl with ⟨rfl, hB⟩ | ⟨hne, hl⟩
    · obtain rfl := Option.some.inj hB
      exact h1
    · exact (R.lbl l B' hl).keep hmono (fun u b hu hb => by
        have hp := (R.lbl l B' hl).place
        obtain ⟨u', hu', _, hub⟩ := hp
        rw [hu] at hu'
        obtain rfl := Option.some.inj hu'
        obtain ⟨_, hlt, hn⟩ := hub b hb
        exact ⟨Below.heap_alloc w o' b hlt, hn⟩) (fun u hu => upd_ext hf _ _ hu)
  · rcases fS_some hl with ⟨rfl, _⟩ | ⟨hne, hl⟩
    · rw [upd_same] at hu
      obtain rfl := Option.some.inj hu
      rw [hv] at hb
      obtain rfl := Option.some.inj hb
      exact .inr R.base_le
    · obtain ⟨q, hq, _, _⟩ := hold l B' hl
      rw [upd_ext hf _ _ hq] at hu
      obtain rfl := Option.some.inj hu
      exact R.mine l B' _ b hl hq hb
  · intro l l' B1 B2 u u' b hne hl hl' hu hu' hb hb'
    rcases fS_some hl with ⟨rfl, _⟩ | ⟨hn1, hl⟩
    · rcases fS_some hl' with ⟨rfl, _⟩ | ⟨hn2, hl'⟩
      · exact hne rfl
      · obtain ⟨q, hq, _, hqb⟩ := hold l' B2 hl'
        rw [upd_same] at hu
        obtain rfl := Option.some.inj hu
        rw [upd_ext hf _ _ hq] at hu'
        obtain rfl := Option.some.inj hu'
        rw [hv] at hb
        have := hqb b hb'
        have := Option.some.inj hb
        omega
    · obtain ⟨q, hq, _, hqb⟩ := hold l B1 hl
      rw [upd_ext hf _ _ hq] at hu
      obtain rfl := Option.some.inj hu
      rcases fS_some hl' with ⟨rfl, _⟩ | ⟨hn2, hl'⟩
      · rw [upd_same] at hu'
        obtain rfl := Option.some.inj hu'
        rw [hv] at hb'
        have := hqb b hb
        have := Option.some.inj hb'
        omega
      · obtain ⟨q', hq', _, _⟩ := hold l' B2 hl'
        rw [upd_ext hf _ _ hq'] at hu'
        obtain rfl := Option.some.inj hu'
        exact R.disj l l' B1 B2 _ _ b hne hl hl' hq hq' hb hb'
  · unfold upd
    rw [if_neg (fun e => hl (.inr e))]
    exact R.fresh l (fun h => hl (.inl h))

/-- A block of a label turns. -/
theorem Rel.turn (R : Rel n w0 M N0 φ N U E L a w) {w' : World} {l b : Nat} {v : Value} {B B0 : LB} (hl : L l = some B0) (hv : φ l = some v) (hb : vblock v = some b) (hbase : PB M b ∨ w0.heap.size ≤ b) (hN : ¬ N b) (ht : Turned w w' b) (hB : Holds w' φ N 0 l B) :
    Rel n w0 M N0 φ N U E (fS L l (some B)) a w' := by
  have hmono : ∀ x u, Rep w φ N x u → Rep w' φ N x u := fun x u h => h.turned ht.grown R.low hN
  refine ⟨R.defers.keep (Nat.le_of_eq ht.size.symm) (fun _ h => h) (fun c hc => ht.grown.block c (R.low c hc) (fun e => by obtain rfl := Option.some.inj e; exact hN hc)), R.size, R.bel.grown ht.grown (fun k hk => by obtain rfl := Option.some.inj hk; exact hbase), R.ext, fun c hc => by rw [ht.size]; exact R.low c hc, R.nb, fun t x hx => hmono _ _ (R.env t x hx), fun k B' hk => ?_, fun k B' u c hk hu hc => ?_, ?_, R.fresh⟩
  · rcases fS_some hk with ⟨rfl, hB'⟩ | ⟨hne, hk'⟩
    · obtain rfl := Option.some.inj hB'
      exact hB
    · exact (R.lbl k B' hk').keep hmono (fun u c hu hc => by
        obtain ⟨u', hu', _, hub⟩ := (R.lbl k B' hk').place
        rw [hu] at hu'
        obtain rfl := Option.some.inj hu'
        obtain ⟨_, hlt, hn⟩ := hub c hc
        refine ⟨ht.grown.block c hlt (fun e => ?_), hn⟩
        obtain rfl := Option.some.inj e
        exact R.disj l k B0 B' v u c (fun e => hne e.symm) hl hk' hv hu hb hc) (fun _ h => h)
  · rcases fS_some hk with ⟨rfl, _⟩ | ⟨_, hk⟩
    · exact R.mine k B0 u c hl hu hc
    · exact R.mine k B' u c hk hu hc
  · have hsome : ∀ k B', fS L l (some B) k = some B' → ∃ B'', L k = some B'' := by
      intro k B' hk
      rcases fS_some hk with ⟨rfl, _⟩ | ⟨_, hk⟩
      · exact ⟨_, hl⟩
      · exact ⟨_, hk⟩
    intro k k' B1 B2 u u' c hne h1 h2
    obtain ⟨B1', h1⟩ := hsome k B1 h1
    obtain ⟨B2', h2⟩ := hsome k' B2 h2
    exact R.disj k k' B1' B2' u u' c hne h1 h2

/-- Labels, one of them dead. -/
def fKill (L : Nat → Option LB) : Option Nat → (Nat → Option LB)
  | none => L
  | some l => fS L l none

/-- A row has grown: a label more, the old one is dead. -/
theorem Rel.grow (R : Rel n w0 M N0 φ N U E L a w) {w' : World} {l : Option Nat} {row : Option Nat} {v' : Value} {B : LB} (hg : w.grownBy w' row) (hrow : ∀ b, row = some b → (PB M b ∨ w0.heap.size ≤ b) ∧ b < w.heap.size ∧ ¬ N b)
    (hB : ∀ k, φ k = none → Holds w' (upd φ k v') N 0 k B ∧ Rep w' (upd φ k v') N (.own k) v')
    (hl : (l = none ∧ row = none) ∨ ∃ l0 v0, l = some l0 ∧ (∃ B0, L l0 = some B0) ∧ φ l0 = some v0 ∧ vblock v0 = row) (hv' : vblock v' = row ∨ vblock v' = some w.heap.size) {lab : Nat} (hlab : ¬ U lab) :
    Rel n w0 M N0 (upd φ lab v') N (fun l => U l ∨ l = lab) E (fS (fKill L l) lab (some B)) a w' ∧ Rep w' (upd φ lab v') N (.own lab) v' := by
  have hf := R.fresh lab hlab
  obtain ⟨h1, h2⟩ := hB lab hf
  have hmono : ∀ x u, Rep w φ N x u → Rep w' (upd φ lab v') N x u := fun x u h => h.mono (fun b o u' hb hc => (World.cell?_of_block (w := w) (w' := w') (a := ⟨b, o, none⟩) (hg.block b (R.low b hb) (fun e => (hrow b e.symm).2.2 hb))).trans hc) (upd_ext hf) (fun _ h => h)
  -- what lives on
  have hold : ∀ k B', fKill L l k = some B' → L k = some B' ∧ k ≠ lab ∧ ∃ u, φ k = some u ∧ (∀ b, vblock u = some b → b < w.heap.size ∧ ¬ N b ∧ some b ≠ row) := by
    intro k B' hk
    have hk' : L k = some B' ∧ l ≠ some k := by
      cases l with
      | none => exact ⟨hk, by simp⟩
      | some l0 =>
        rcases fS_some hk with ⟨rfl, h⟩ | ⟨hne, hk⟩
        · cases h
        · exact ⟨hk, fun e => hne (Option.some.inj e).symm⟩
    obtain ⟨hk1, hk2⟩ := hk'
    obtain ⟨u, hu, _, hub⟩ := (R.lbl k B' hk1).place
    refine ⟨hk1, (fun e => by subst e; rw [hf] at hu; cases hu), u, hu, fun b hb => ⟨(hub b hb).2.1, (hub b hb).2.2, fun e => ?_⟩⟩
    rcases hl with ⟨_, hr⟩ | ⟨l0, v0, rfl, ⟨B0, hB0⟩, hv0, hr⟩
    · rw [hr] at e; cases e
    · exact R.disj l0 k B0 B' v0 u b (fun e => hk2 (by rw [e])) hB0 hk1 hv0 hu (by rw [hr, ← e]) hb
  refine ⟨⟨R.defers.keep hg.size (fun _ h => h) (fun c hc => hg.block c (R.low c hc) (fun e => (hrow c e.symm).2.2 hc)), R.size, R.bel.grown hg (fun k hk => (hrow k hk).1), fun l u h => upd_ext hf _ _ (R.ext l u h), fun c hc => Nat.lt_of_lt_of_le (R.low c hc) hg.size, R.nb, fun t x hx => hmono _ _ (R.env t x hx), fun k B' hk => ?_, fun k B' u c hk hu hc => ?_, ?_, fun k hk => ?_⟩, h2⟩
  · rcases fS_some hk with ⟨rfl, hB'⟩ | ⟨hne, hk⟩
    · obtain rfl := Option.some.inj hB'
      exact h1
    · obtain ⟨hk1, _, u, hu, hub⟩ := hold k B' hk
      exact (R.lbl k B' hk1).keep hmono (fun u' b hu' hb => by
        rw [hu] at hu'
        obtain rfl := Option.some.inj hu'
        obtain ⟨q1, q2, q3⟩ := hub b hb
        exact ⟨hg.block b q1 q3, q2⟩) (fun u hu => upd_ext hf _ _ hu)
  · rcases fS_some hk with ⟨rfl, _⟩ | ⟨hne, hk⟩
    · rw [upd_same] at hu
      obtain rfl := Option.some.inj hu
      rcases hv' with e | e
      · exact (hrow c (by rw [← e, hc])).1
      · rw [e] at hc
        obtain rfl := Option.some.inj hc
        exact .inr R.base_le
    · obtain ⟨hk1, _, q, hq, _⟩ := hold k B' hk
      rw [upd_ext hf _ _ hq] at hu
      obtain rfl := Option.some.inj hu
      exact R.mine k B' _ c hk1 hq hc
  · intro k k' B1 B2 u u' b hne h3 h4 hu hu' hb hb'
    rcases fS_some h3 with ⟨rfl, _⟩ | ⟨hn1, h3⟩
    · rcases fS_some h4 with ⟨rfl, _⟩ | ⟨hn2, h4⟩
      · exact hne rfl
      · obtain ⟨_, _, q, hq, hqb⟩ := hold k' B2 h4
        rw [upd_same] at hu
        obtain rfl := Option.some.inj hu
        rw [upd_ext hf _ _ hq] at hu'
        obtain rfl := Option.some.inj hu'
        obtain ⟨q1, q2, q3⟩ := hqb b hb'
        rcases hv' with e | e
        · exact q3 (by rw [← hb, e])
        · rw [e] at hb; have := Option.some.inj hb; omega
    · obtain ⟨hk1, _, q, hq, hqb⟩ := hold k B1 h3
      rw [upd_ext hf _ _ hq] at hu
      obtain rfl := Option.some.inj hu
      rcases fS_some h4 with ⟨rfl, _⟩ | ⟨hn2, h4⟩
      · rw [upd_same] at hu'
        obtain rfl := Option.some.inj hu'
        obtain ⟨q1, q2, q3⟩ := hqb b hb
        rcases hv' with e | e
        · exact q3 (by rw [← hb', e])
        · rw [e] at hb'; have := Option.some.inj hb'; omega
      · obtain ⟨hk2, _, q', hq', _⟩ := hold k' B2 h4
        rw [upd_ext hf _ _ hq'] at hu'
        obtain rfl := Option.some.inj hu'
        exact R.disj k k' B1 B2 _ _ b hne hk1 hk2 hq hq' hb hb'
  · unfold upd
    rw [if_neg (fun e => hk (.inr e))]
    exact R.fresh k (fun h => hk (.inl h))

/-- Behind a call. -/
theorem Rel.below (R : Rel n w0 M N0 φ N U E L a w) {w' : World} (hb : Below w.heap.size w w') : Rel n w0 M N0 φ N U E L a w' := by
  have hmono : ∀ x u, Rep w φ N x u → Rep w' φ N x u := fun x u h => h.keep hb R.low
  exact ⟨R.defers.keep hb.size (fun _ h => h) (fun c hc => hb.block c (R.low c hc)), R.size, R.bel.below hb, R.ext, fun c hc => Nat.lt_of_lt_of_le (R.low c hc) hb.size, R.nb, fun t x hx => hmono _ _ (R.env t x hx), fun k B' hk => (R.lbl k B' hk).keep hmono (fun u c hu hc => by
    obtain ⟨u', hu', _, hub⟩ := (R.lbl k B' hk).place
    rw [hu] at hu'
    obtain rfl := Option.some.inj hu'
    exact ⟨hb.block c (hub c hc).2.1, (hub c hc).2.2⟩) (fun _ h => h), R.mine, R.disj, R.fresh⟩

/-- Behind a call whose result lies in new blocks too. -/
theorem Rel.belowN (R : Rel n w0 M N0 φ N U E L a w) {w' : World} (hb : Below w.heap.size w w') : Rel n w0 M N0 φ (fun b => N b ∨ (w.heap.size ≤ b ∧ b < w'.heap.size)) U E L a w' := by
  have hmono : ∀ x u, Rep w φ N x u → Rep w' φ (fun b => N b ∨ (w.heap.size ≤ b ∧ b < w'.heap.size)) x u := fun x u h => (h.keep hb R.low).mono (fun _ _ _ _ h => h) (fun _ _ h => h) (fun _ h => .inl h)
  exact ⟨R.defers.keep hb.size (fun _ h => .inl h) (fun c hc => hb.block c (R.low c hc)), R.size, R.bel.below hb, R.ext, fun c hc => by
    rcases hc with hc | hc
    · exact Nat.lt_of_lt_of_le (R.low c hc) hb.size
    · exact hc.2, fun c hc => by
    rcases hc with hc | hc
    · exact R.nb c hc
    · exact .inr (Nat.le_trans R.base_le hc.1), fun t x hx => hmono _ _ (R.env t x hx), fun k B' hk => (R.lbl k B' hk).keep hmono (fun u c hu hc => by
    obtain ⟨u', hu', _, hub⟩ := (R.lbl k B' hk).place
    rw [hu] at hu'
    obtain rfl := Option.some.inj hu'
    obtain ⟨_, hlt, hn⟩ := hub c hc
    exact ⟨hb.block c hlt, fun h => h.elim hn (fun h => by omega)⟩) (fun _ h => h), R.mine, R.disj, R.fresh⟩

theorem Rel.more (R : Rel n w0 M N0 φ N U E L a w) {U' : Nat → Prop} (h : ∀ l, U l → U' l) : Rel n w0 M N0 φ N U' E L a w :=
  ⟨R.defers, R.size, R.bel, R.ext, R.low, R.nb, R.env, R.lbl, R.mine, R.disj, fun l hl => R.fresh l (fun hu => hl (h l hu))⟩

theorem renAll_map (ρ : Nat → Nat) : ∀ (l : List AV), renAll ρ l = l.map (AV.ren ρ)
  | [] => rfl
  | x :: r => by rw [renAll, renAll_map ρ r]; rfl
theorem renRows_map (ρ : Nat → Nat) : ∀ (l : List (List AV)), renRows ρ l = l.map (List.map (AV.ren ρ))
  | [] => rfl
  | x :: r => by rw [renRows, renRows_map ρ r, renAll_map]; rfl
theorem renRows_flat (ρ : Nat → Nat) (l : List (List AV)) : (renRows ρ l).flatten = l.flatten.map (AV.ren ρ) := by
  rw [renRows_map, List.map_flatten]
theorem allLt_mem {k : Nat} {l : List AV} (h : allLt k l = true) : ∀ x ∈ l, x.lt k = true := by
  induction l with
  | nil => intro x hx; cases hx
  | cons a r ih =>
    rw [allLt, Bool.and_eq_true] at h
    intro x hx
    rcases List.mem_cons.1 hx with rfl | hx
    · exact h.1
    · exact ih h.2 x hx
theorem rowsLt_mem {k : Nat} {l : List (List AV)} (h : rowsLt k l = true) : ∀ x ∈ l.flatten, x.lt k = true := by
  induction l with
  | nil => intro x hx; cases hx
  | cons a r ih =>
    rw [rowsLt, Bool.and_eq_true] at h
    intro x hx
    rw [List.flatten_cons] at hx
    rcases List.mem_append.1 hx with hx | hx
    · exact allLt_mem h.1 x hx
    · exact ih h.2 x hx
theorem blt_lt {a b : Nat} (h : Nat.blt a b = true) : a < b := Nat.le_of_ble_eq_true h

/-- Labels named anew. -/
theorem Rep.ren {w : World} {φ φ' : Nat → Option Value} {N N' : Nat → Prop} {k : Nat} {ρ : Nat → Nat} (hφ : ∀ j u, j < k → φ j = some u → φ' (ρ j) = some u) (hN : ∀ b, N b → N' b) {x : AV} {v : Value} (h : Rep w φ N x v) (hk : x.lt k = true) : Rep w φ' N' (x.ren ρ) v := by
  induction h with
  | any v => exact .any v
  | raw v => exact .raw v
  | agg l vs hl _ ih =>
    show Rep w φ' N' (.agg (renAll ρ l)) _
    rw [renAll_map]
    refine .agg _ vs (by simpa using hl) fun i x hx => ?_
    rw [List.getElem?_map] at hx
    cases hc : l[i]? with
    | none => rw [hc] at hx; cases hx
    | some y => rw [hc] at hx; obtain rfl := Option.some.inj hx; exact ih i y hc (allLt_mem hk y (List.mem_of_getElem? hc))
  | tup l vs hl _ ih =>
    show Rep w φ' N' (.tup (renAll ρ l)) _
    rw [renAll_map]
    refine .tup _ vs (by simpa using hl) fun i x hx => ?_
    rw [List.getElem?_map] at hx
    cases hc : l[i]? with
    | none => rw [hc] at hx; cases hx
    | some y => rw [hc] at hx; obtain rfl := Option.some.inj hx; exact ih i y hc (allLt_mem hk y (List.mem_of_getElem? hc))
  | fn f l vs hl _ ih =>
    show Rep w φ' N' (.fn f (renAll ρ l)) _
    rw [renAll_map]
    refine .fn f _ vs (by simpa using hl) fun i x hx => ?_
    rw [List.getElem?_map] at hx
    cases hc : l[i]? with
    | none => rw [hc] at hx; cases hx
    | some y => rw [hc] at hx; obtain rfl := Option.some.inj hx; exact ih i y hc (allLt_mem hk y (List.mem_of_getElem? hc))
  | iface t x v _ ih => exact .iface t _ v (ih hk)
  | slnil sz => exact .slnil sz
  | sl sz rows b o c cell hc hb hsz hc' _ ih =>
    show Rep w φ' N' (.sl sz (renRows ρ rows)) _
    have e : rows.length = (renRows ρ rows).length := by rw [renRows_map]; simp
    rw [e] at hc ⊢
    refine .sl sz _ b o c cell hc (hN b hb) (fun r hr => ?_) (fun k' hk' => hc' k' (by rw [renRows_flat, List.length_map] at hk'; exact hk')) fun i x hx => ?_
    · rw [renRows_map] at hr
      obtain ⟨r', hr', rfl⟩ := List.mem_map.1 hr
      rw [List.length_map]
      exact hsz r' hr'
    · rw [renRows_flat, List.getElem?_map] at hx
      cases hcc : rows.flatten[i]? with
      | none => rw [hcc] at hx; cases hx
      | some y => rw [hcc] at hx; obtain rfl := Option.some.inj hx; exact ih i y hcc (rowsLt_mem hk y (List.mem_of_getElem? hcc))
  | box cells off b o cell hb hc' _ ih =>
    show Rep w φ' N' (.box (renAll ρ cells) off) _
    rw [renAll_map]
    refine .box _ off b o cell (hN b hb) (fun k' hk' => hc' k' (by simpa using hk')) fun i x hx => ?_
    rw [List.getElem?_map] at hx
    cases hc : cells[i]? with
    | none => rw [hc] at hx; cases hx
    | some y => rw [hc] at hx; obtain rfl := Option.some.inj hx; exact ih i y hc (allLt_mem hk y (List.mem_of_getElem? hc))
  | loc l off b h => exact .loc _ off b (hφ _ _ (blt_lt hk) h)
  | own l v h h1 => exact .own _ v (hφ _ _ (blt_lt hk) h) h1
  | rloc l sz i f b n c h => exact .rloc _ sz i f b n c (hφ _ _ (blt_lt hk) h)
  | lsl l off n sz b c h hc => exact .lsl _ off n sz b c (hφ _ _ (blt_lt hk) h) hc
  | osl l off n sz b m c' c h hc hc' => exact .osl _ off n sz b m c' c (hφ _ _ (blt_lt hk) h) hc hc'

theorem Rep.unren {w : World} {φ φ' : Nat → Option Value} {N : Nat → Prop} {k : Nat} {ρ : Nat → Nat} (hφ : ∀ j u, j < k → φ (ρ j) = some u → φ' j = some u) {x : AV} {v : Value} (h : Rep w φ N (x.ren ρ) v) (hk : x.lt k = true) : Rep w φ' N x v := by
  generalize hy : x.ren ρ = y at h
  induction h generalizing x with
  | any v => cases x <;> simp [AV.ren] at hy; exact .any v
  | raw v => cases x <;> simp [AV.ren] at hy; subst hy; exact .raw _
  | agg l vs hl _ ih =>
    cases x <;> simp [AV.ren] at hy
    rename_i l'
    rw [renAll_map] at hy
    subst hy
    exact .agg _ vs (by simpa using hl) fun i x hx => ih i (x.ren ρ) (by rw [List.getElem?_map, hx]; rfl) (allLt_mem hk x (List.mem_of_getElem? hx)) rfl
  | tup l vs hl _ ih =>
    cases x <;> simp [AV.ren] at hy
    rename_i l'
    rw [renAll_map] at hy
    subst hy
    exact .tup _ vs (by simpa using hl) fun i x hx => ih i (x.ren ρ) (by rw [List.getElem?_map, hx]; rfl) (allLt_mem hk x (List.mem_of_getElem? hx)) rfl
  | fn f l vs hl _ ih =>
    cases x <;> simp [AV.ren] at hy
    rename_i f' l'
    obtain ⟨rfl, hy⟩ := hy
    rw [renAll_map] at hy
    subst hy
    exact .fn _ _ vs (by simpa using hl) fun i x hx => ih i (x.ren ρ) (by rw [List.getElem?_map, hx]; rfl) (allLt_mem hk x (List.mem_of_getElem? hx)) rfl
  | iface t z v _ ih =>
    cases x <;> simp [AV.ren] at hy
    obtain ⟨rfl, rfl⟩ := hy
    exact .iface _ _ v (ih hk rfl)
  | slnil sz =>
    cases x <;> simp [AV.ren] at hy
    obtain ⟨rfl, hy⟩ := hy
    rw [renRows_map] at hy
    obtain rfl := List.map_eq_nil_iff.1 hy
    exact .slnil _
  | sl sz rows b o c cell hc hb hsz hc' _ ih =>
    cases x <;> simp [AV.ren] at hy
    rename_i sz' rows'
    obtain ⟨rfl, rfl⟩ := hy
    have e : (renRows ρ rows').length = rows'.length := by rw [renRows_map]; simp
    rw [e] at hc ⊢
    refine .sl _ rows' b o c cell hc hb (fun r hr => ?_) (fun k' hk' => hc' k' (by rw [renRows_flat, List.length_map]; exact hk')) fun i x hx => ih i (x.ren ρ) (by rw [renRows_flat, List.getElem?_map, hx]; rfl) (rowsLt_mem hk x (List.mem_of_getElem? hx)) rfl
    have := hsz (r.map (AV.ren ρ)) (by rw [renRows_map]; exact List.mem_map.2 ⟨r, hr, rfl⟩)
    simpa using this
  | box cells off b o cell hb hc' _ ih =>
    cases x <;> simp [AV.ren] at hy
    rename_i cells' off'
    obtain ⟨hy, rfl⟩ := hy
    rw [renAll_map] at hy
    subst hy
    exact .box _ _ b o cell hb (fun k' hk' => hc' k' (by simpa using hk')) fun i x hx => ih i (x.ren ρ) (by rw [List.getElem?_map, hx]; rfl) (allLt_mem hk x (List.mem_of_getElem? hx)) rfl
  | loc l off b h =>
    cases x <;> simp [AV.ren] at hy
    obtain ⟨rfl, rfl⟩ := hy
    exact .loc _ _ b (hφ _ _ (blt_lt hk) h)
  | own l v h h1 =>
    cases x <;> simp [AV.ren] at hy
    subst hy
    exact .own _ v (hφ _ _ (blt_lt hk) h) h1
  | rloc l sz i f b n c h =>
    cases x <;> simp [AV.ren] at hy
    obtain ⟨rfl, rfl, rfl, rfl⟩ := hy
    exact .rloc _ _ _ _ b n c (hφ _ _ (blt_lt hk) h)
  | lsl l off n sz b c h hc =>
    cases x <;> simp [AV.ren] at hy
    obtain ⟨rfl, rfl, rfl, rfl⟩ := hy
    exact .lsl _ _ _ _ b c (hφ _ _ (blt_lt hk) h) hc
  | osl l off n sz b m c' c h hc hc' =>
    cases x <;> simp [AV.ren] at hy
    obtain ⟨rfl, rfl, rfl, rfl⟩ := hy
    exact .osl _ _ _ _ b m c' c (hφ _ _ (blt_lt hk) h) hc hc'

theorem Rep.any_of_free {w : World} {φ φ' : Nat → Option Value} {N N' : Nat → Prop} {x : AV} {v : Value} (h : Rep w φ N x v) (hf : x.free = true) (hN : ∀ b, N b → N' b) : Rep w φ' N' x v :=
  (h.free hf).mono (φ := fun _ => none) (fun _ _ _ _ h => h) (fun _ _ h => by cases h) hN

/-- What a label holds, by another name. -/
theorem Holds.conv {w : World} {φ φ' : Nat → Option Value} {N N' : Nat → Prop} {l l' : Nat} {B : LB} (h : Holds w φ N 0 l B) (hf : B.free = true) (hφ : φ' l' = φ l) (hb : ∀ v b, φ l = some v → vblock v = some b → ¬ N' b) (hN : ∀ b, N b → N' b) : Holds w φ' N' 0 l' B := by
  cases B with
  | box cells =>
    obtain ⟨b, ty, cs, hp, hg, hs, hr, h0, hn⟩ := h
    exact ⟨b, ty, cs, hφ.trans hp, hg, hs, fun i x hx => (hr i x hx).any_of_free (allFree_mem hf x (List.mem_of_getElem? hx)) hN, h0, hb _ b hp rfl⟩
  | row e sz rows =>
    obtain ⟨v, xs, hp, h1, ho, hs, hr, hn⟩ := h
    refine ⟨v, xs, hφ.trans hp, h1, ho, hs, fun i x hx => (hr i x hx).any_of_free (rowsFree_mem hf x (List.mem_of_getElem? hx)) hN, fun b hbv => hb v b hp ?_⟩
    rcases ho.2 with ⟨rfl, _⟩ | ⟨g, cap, cur, rfl, _⟩ <;> exact hbv

/-- Labels as a callee is given them. -/
def give (φ : Nat → Option Value) (ids : List Nat) (lab : Nat) : Nat → Option Value := fun i => if i < ids.length then φ (ids.getD i lab) else none

theorem getD_of {α : Type} {l : List α} {i : Nat} {x d : α} (h : l[i]? = some x) : l.getD i d = x := by rw [List.getD_eq_getElem?_getD, h]; rfl

theorem Rel.entry (R : Rel n w0 M N0 φ N U E L a w) {ids : List Nat} {Ls : List LB} {lab : Nat} (q1 : ids.length = Ls.length) (q2 : ids.Nodup) (q3 : ∀ (i id : Nat) (B : LB), ids[i]? = some id → Ls[i]? = some B → L id = some B) (q7 : ∀ B ∈ Ls, B.free = true) :
    (∀ l B, Ls[l]? = some B → Holds w (give φ ids lab) N 0 l B) ∧ Apart (give φ ids lab) Ls.length ∧ ∀ l, Ls.length ≤ l → give φ ids lab l = none := by
  have hid : ∀ i, i < Ls.length → ∃ id B, ids[i]? = some id ∧ Ls[i]? = some B ∧ L id = some B ∧ give φ ids lab i = φ id := by
    intro i hi
    have h1 : i < ids.length := by omega
    refine ⟨ids[i], Ls[i], List.getElem?_eq_getElem h1, List.getElem?_eq_getElem hi, q3 i _ _ (List.getElem?_eq_getElem h1) (List.getElem?_eq_getElem hi), ?_⟩
    unfold give
    rw [if_pos h1, getD_of (List.getElem?_eq_getElem h1)]
  refine ⟨fun l B hl => ?_, ?_, fun l hl => ?_⟩
  · obtain ⟨id, B', h1, h2, h3, h4⟩ := hid l (getElem?_lt hl)
    rw [hl] at h2
    obtain rfl := Option.some.inj h2
    obtain ⟨u, hu, _, hub⟩ := (R.lbl id B h3).place
    exact (R.lbl id B h3).conv (q7 B (List.mem_of_getElem? hl)) h4 (fun v b hv hb => by
      rw [hu] at hv
      obtain rfl := Option.some.inj hv
      exact (hub b hb).2.2) (fun _ h => h)
  · intro i j v v' b hne hi hj hv hv' hb hb'
    obtain ⟨id, B, h1, h2, h3, h4⟩ := hid i hi
    obtain ⟨id', B', h1', h2', h3', h4'⟩ := hid j hj
    rw [h4] at hv
    rw [h4'] at hv'
    refine R.disj id id' B B' v v' b (fun e => hne ?_) h3 h3' hv hv' hb hb'
    subst e
    have hi1 := getElem?_lt h1
    have hj1 := getElem?_lt h1'
    rw [List.getElem?_eq_getElem hi1] at h1
    rw [List.getElem?_eq_getElem hj1] at h1'
    have he := Option.some.inj (h1.trans h1'.symm)
    have hp := List.pairwise_iff_getElem.1 q2
    rcases Nat.lt_trichotomy i j with hlt | heq | hlt
    · exact absurd he (hp i j hi1 hj1 hlt)
    · exact heq
    · exact absurd he.symm (hp j i hj1 hi1 hlt)
  · unfold give
    rw [if_neg (by omega)]

theorem putF_not {ls : List (Nat × LB)} {m : Nat} : ∀ {L : Nat → Option LB}, (∀ p ∈ ls, p.1 ≠ m) → putF ls L m = L m := by
  induction ls with
  | nil => intro L _; rfl
  | cons p r ih =>
    intro L h
    obtain ⟨l, B⟩ := p
    rw [putF, ih (fun q hq => h q (by simp [hq]))]
    unfold fS
    rw [if_neg (fun e => h (l, B) (by simp) e.symm)]
theorem putF_zip {ids : List Nat} : ∀ {Ls : List LB} {L : Nat → Option LB} {i m : Nat} {B : LB}, ids.Nodup → ids[i]? = some m → Ls[i]? = some B → putF (ids.zip Ls) L m = some B := by
  induction ids with
  | nil => intro Ls L i m B _ h; simp at h
  | cons a r ih =>
    intro Ls L i m B hn h hB
    cases Ls with
    | nil => simp at hB
    | cons B0 Ls =>
      rw [List.zip_cons_cons, putF]
      rw [List.nodup_cons] at hn
      cases i with
      | zero =>
        simp at h hB
        subst h hB
        rw [putF_not (fun p hp => ?_)]
        · simp [fS]
        · intro e
          have := (List.of_mem_zip (show (p.1, p.2) ∈ r.zip Ls from hp)).1
          rw [e] at this
          exact hn.1 this
      | succ i => exact ih hn.2 (by simpa using h) (by simpa using hB)

/-- Behind a call that writes. -/
theorem Rel.eff (R : Rel n w0 M N0 φ N U E L a w) {ids : List Nat} {Ls Ls' : List LB} {lab : Nat} {nw : Option LB} {r : AV} {v : Value} {w' : World} {φ' : Nat → Option Value} {N' : Nat → Prop} (q1 : ids.length = Ls.length) (q2 : ids.Nodup) (q3 : ∀ (i id : Nat) (B : LB), ids[i]? = some id → Ls[i]? = some B → L id = some B) (hlen : Ls'.length = Ls.length)
    (q8 : ∀ B ∈ Ls', B.free = true) (q9 : ∀ B, nw = some B → B.free = true) (q10 : r.lt (ids.length + 1) = true) (hlab : ¬ U lab)
    (g1 : But (blocks (give φ ids lab) Ls.length) w w') (g2 : ∀ b, N' b → N b ∨ (w.heap.size ≤ b ∧ b < w'.heap.size)) (g3 : ∀ l, l < Ls.length → φ' l = give φ ids lab l) (g4 : ∀ l, Ls.length < l → φ' l = none)
    (g5 : ∀ l B, Ls'[l]? = some B → Holds w' φ' N' 0 l B) (g6 : ∀ B, nw = some B → Holds w' φ' N' 0 Ls.length B ∧ ∀ v b, φ' Ls.length = some v → vblock v = some b → w.heap.size ≤ b) (g7 : nw = none → φ' Ls.length = none) (g8 : Rep w' φ' N' r v) :
    Rel n w0 M N0 (fun l => if l = lab then φ' Ls.length else φ l) (fun b => N b ∨ N' b) (fun l => U l ∨ l = lab) E (fS (putF (ids.zip Ls') L) lab nw) a w' ∧ Rep w' (fun l => if l = lab then φ' Ls.length else φ l) (fun b => N b ∨ N' b) (r.ren fun i => ids.getD i lab) v := by
  have hf := R.fresh lab hlab
  have hid : ∀ i, i < Ls.length → ∃ id B, ids[i]? = some id ∧ Ls[i]? = some B ∧ L id = some B ∧ give φ ids lab i = φ id ∧ id ≠ lab := by
    intro i hi
    have h1 : i < ids.length := by omega
    have hL := q3 i _ _ (List.getElem?_eq_getElem h1) (List.getElem?_eq_getElem hi)
    refine ⟨ids[i], Ls[i], List.getElem?_eq_getElem h1, List.getElem?_eq_getElem hi, hL, ?_, fun e => ?_⟩
    · unfold give
      rw [if_pos h1, getD_of (List.getElem?_eq_getElem h1)]
    · obtain ⟨u, hu, _⟩ := (R.lbl _ _ hL).place
      rw [e, hf] at hu
      cases hu
  have hNb : ∀ b, N b → ¬ blocks (give φ ids lab) Ls.length b := by
    rintro b hb ⟨i, u, hi, hu, hub⟩
    obtain ⟨id, B, h1, h2, h3, h4, _⟩ := hid i hi
    rw [h4] at hu
    obtain ⟨u', hu', _, hub'⟩ := (R.lbl id B h3).place
    rw [hu] at hu'
    obtain rfl := Option.some.inj hu'
    exact (hub' b hub).2.2 hb
  have hmono : ∀ x u, Rep w φ N x u → Rep w' (fun l => if l = lab then φ' Ls.length else φ l) (fun b => N b ∨ N' b) x u := fun x u h => h.mono (fun b o u' hb hc => (World.cell?_of_block (w := w) (w' := w') (a := ⟨b, o, none⟩) (g1.block b (R.low b hb) (hNb b hb))).trans hc) (fun l u hu => by
      have : l ≠ lab := fun e => by rw [e, hf] at hu; cases hu
      show (if l = lab then _ else _) = _
      rw [if_neg this]
      exact hu) (fun b hb => .inl hb)
  -- what a label is, behind it
  have hcase : ∀ l B, fS (putF (ids.zip Ls') L) lab nw l = some B → (l = lab ∧ nw = some B) ∨ (l ≠ lab ∧ ∃ (i : Nat) (B0 : LB), i < Ls.length ∧ ids[i]? = some l ∧ Ls'[i]? = some B ∧ L l = some B0) ∨ (l ≠ lab ∧ (∀ i : Nat, ids[i]? ≠ some l) ∧ L l = some B) := by
    intro l B hl
    rcases fS_some hl with ⟨rfl, h⟩ | ⟨hne, h⟩
    · exact .inl ⟨rfl, h⟩
    · right
      by_cases hin : l ∈ ids
      · left
        obtain ⟨i, hi, rfl⟩ := List.getElem_of_mem hin
        have hi' : i < Ls'.length := by omega
        have hi2 : i < Ls.length := by omega
        rw [putF_zip q2 (List.getElem?_eq_getElem hi) (List.getElem?_eq_getElem hi')] at h
        obtain rfl := Option.some.inj h
        exact ⟨hne, i, Ls[i], hi2, List.getElem?_eq_getElem hi, List.getElem?_eq_getElem hi', q3 i _ _ (List.getElem?_eq_getElem hi) (List.getElem?_eq_getElem hi2)⟩
      · right
        refine ⟨hne, fun i hi => hin (List.mem_of_getElem? hi), ?_⟩
        rwa [putF_not (fun p hp e => hin (by have := (List.of_mem_zip (show (p.1, p.2) ∈ ids.zip Ls' from hp)).1; rwa [e] at this))] at h
  have hold : ∀ l B, l ≠ lab → fS (putF (ids.zip Ls') L) lab nw l = some B → ∃ B0, L l = some B0 := by
    intro l B hne hl
    rcases hcase l B hl with ⟨h, _⟩ | ⟨_, i, B0, _, _, _, h⟩ | ⟨_, _, h⟩
    · exact absurd h hne
    · exact ⟨B0, h⟩
    · exact ⟨B, h⟩
  have hφ : ∀ l, l ≠ lab → (if l = lab then φ' Ls.length else φ l) = φ l := fun l h => if_neg h
  refine ⟨⟨R.defers.keep g1.size (fun _ h => .inl h) (fun c hc => g1.block c (R.low c hc) (hNb c hc)), R.size, R.bel.trans g1 ?_, fun l u h => (hφ l (fun e => by have := R.ext l u h; rw [e, hf] at this; cases this)).trans (R.ext l u h), ?_, ?_, fun t x hx => hmono _ _ (R.env t x hx), fun l B hl => ?_, fun l B u b hl hu hb => ?_, ?_, fun l hl => ?_⟩, ?_⟩
  · rintro b ⟨i, u, hi, hu, hub⟩
    obtain ⟨id, B, h1, h2, h3, h4, _⟩ := hid i hi
    rw [h4] at hu
    exact R.mine id B u b h3 hu hub
  · rintro b (hb | hb)
    · exact Nat.lt_of_lt_of_le (R.low b hb) g1.size
    · rcases g2 b hb with h | h
      · exact Nat.lt_of_lt_of_le (R.low b h) g1.size
      · exact h.2
  · rintro b (hb | hb)
    · exact R.nb b hb
    · rcases g2 b hb with h | h
      · exact R.nb b h
      · exact .inr (Nat.le_trans R.base_le h.1)
  · rcases hcase l B hl with ⟨rfl, hB⟩ | ⟨hne, i, B0, hi, hil, hB, hL0⟩ | ⟨hne, hni, hL⟩
    · obtain ⟨g, gb⟩ := g6 B hB
      refine g.conv (q9 B hB) (if_pos rfl) (fun u b hu hb => ?_) (fun b hb => .inr hb)
      obtain ⟨u', hu', _, hub⟩ := g.place
      rw [hu] at hu'
      obtain rfl := Option.some.inj hu'
      have h1 := gb u b hu hb
      have h2 := (hub b hb).2.2
      rintro (h | h)
      · have := R.low b h; omega
      · exact h2 h
    · have g := g5 i B hB
      obtain ⟨id, B', e1, e2, e3, e4, _⟩ := hid i hi
      rw [hil] at e1
      obtain rfl := Option.some.inj e1
      have hφi : φ' i = φ l := (g3 i hi).trans e4
      refine g.conv (q8 B (List.mem_of_getElem? hB)) ((hφ l hne).trans hφi.symm) (fun u b hu hb => ?_) (fun b hb => .inr hb)
      obtain ⟨u', hu', _, hub⟩ := g.place
      rw [hu] at hu'
      obtain rfl := Option.some.inj hu'
      rw [hφi] at hu
      obtain ⟨u2, hu2, _, hub2⟩ := (R.lbl l B0 hL0).place
      rw [hu] at hu2
      obtain rfl := Option.some.inj hu2
      rintro (h | h)
      · exact (hub2 b hb).2.2 h
      · exact (hub b hb).2.2 h
    · refine (R.lbl l B hL).keep hmono (fun u b hu hb => ?_) (fun u hu => (hφ l hne).trans hu)
      obtain ⟨u', hu', _, hub⟩ := (R.lbl l B hL).place
      rw [hu] at hu'
      obtain rfl := Option.some.inj hu'
      refine ⟨g1.block b (hub b hb).2.1 ?_, ?_⟩
      · rintro ⟨i, u2, hi, hu2, hb2⟩
        obtain ⟨id, B', e1, e2, e3, e4, _⟩ := hid i hi
        rw [e4] at hu2
        exact R.disj l id B B' u u2 b (fun e => hni i (by rw [e]; exact e1)) hL e3 hu hu2 hb hb2
      · rintro (h | h)
        · exact (hub b hb).2.2 h
        · rcases g2 b h with h' | h'
          · exact (hub b hb).2.2 h'
          · have := (hub b hb).2.1; omega
  · by_cases he : l = lab
    · subst he
      rcases hcase l B hl with ⟨_, hB⟩ | ⟨hne, _⟩ | ⟨hne, _⟩
      · have hu : (if l = l then φ' Ls.length else φ l) = some u := hu
        rw [if_pos rfl] at hu
        exact .inr (Nat.le_trans R.base_le ((g6 B hB).2 u b hu hb))
      · exact absurd rfl hne
      · exact absurd rfl hne
    · have hu : (if l = lab then φ' Ls.length else φ l) = some u := hu
      rw [if_neg he] at hu
      obtain ⟨B0, hB0⟩ := hold l B he hl
      exact R.mine l B0 u b hB0 hu hb
  · intro l l' B B' u u' b hne hl hl' hu hu' hb hb'
    have key : ∀ l l' B B' u u', l ≠ l' → l = lab → fS (putF (ids.zip Ls') L) lab nw l = some B → fS (putF (ids.zip Ls') L) lab nw l' = some B' → (if l = lab then φ' Ls.length else φ l) = some u → (if l' = lab then φ' Ls.length else φ l') = some u' → vblock u = some b → vblock u' = some b → False := by
      intro l l' B B' u u' hne he hl hl' hu hu' hb hb'
      subst he
      rw [if_pos rfl] at hu
      have hne' : l' ≠ l := fun e => hne e.symm
      rw [if_neg hne'] at hu'
      obtain ⟨B0, hB0⟩ := hold l' B' hne' hl'
      obtain ⟨u2, hu2, _, hub⟩ := (R.lbl l' B0 hB0).place
      rw [hu'] at hu2
      obtain rfl := Option.some.inj hu2
      rcases hcase l B hl with ⟨_, hB⟩ | ⟨h, _⟩ | ⟨h, _⟩
      · have := (g6 B hB).2 u b hu hb
        have := (hub b hb').2.1
        omega
      · exact h rfl
      · exact h rfl
    by_cases h1 : l = lab
    · exact key l l' B B' u u' hne h1 hl hl' hu hu' hb hb'
    · by_cases h2 : l' = lab
      · exact key l' l B' B u' u (fun e => hne e.symm) h2 hl' hl hu' hu hb' hb
      · have hu : (if l = lab then φ' Ls.length else φ l) = some u := hu
        have hu' : (if l' = lab then φ' Ls.length else φ l') = some u' := hu'
        rw [if_neg h1] at hu
        rw [if_neg h2] at hu'
        obtain ⟨B0, hB0⟩ := hold l B h1 hl
        obtain ⟨B1, hB1⟩ := hold l' B' h2 hl'
        exact R.disj l l' B0 B1 u u' b hne hB0 hB1 hu hu' hb hb'
  · show (if l = lab then _ else _) = _
    rw [if_neg (fun e => hl (.inr e))]
    exact R.fresh l (fun h => hl (.inl h))
  · refine g8.ren (fun j u hj hu => ?_) (fun b hb => .inr hb) q10
    show (if ids.getD j lab = lab then _ else _) = _
    by_cases hjk : j < Ls.length
    · obtain ⟨id, B, e1, e2, e3, e4, e5⟩ := hid j hjk
      rw [getD_of e1, if_neg e5, ← e4, ← g3 j hjk]
      exact hu
    · have hj' : j = Ls.length := by omega
      subst hj'
      have : ids[Ls.length]? = none := List.getElem?_eq_none (by omega)
      rw [List.getD_eq_getElem?_getD, this]
      simpa using hu
end

section
variable {P : Program} {tt : TypeId → Option TI} (hT : TOk P tt) {n : Nat} {w0 : World} {M : Nat → Option Value} {N0 : NG} {φ : Nat → Option Value} {N : Nat → Prop} {U : Nat → Prop} {E : Nat → Option AV} {L : Nat → Option LB} {a : Act} {w : World}

/-- The labels that are in use. -/
def fU (U : Nat → Prop) (lab : Nat) : Res → (Nat → Prop)
  | .val _ => U
  | .put _ _ => U
  | .new _ _ => fun l => U l ∨ l = lab
  | .grow _ _ _ => fun l => U l ∨ l = lab
  | .eff _ _ _ => fun l => U l ∨ l = lab

/-- What is told of a state, for some places. -/
def Tel (n : Nat) (w0 : World) (M : Nat → Option Value) (N0 : NG) (U : Nat → Prop) (E : Nat → Option AV) (L : Nat → Option LB) (a : Act) (w : World) : Prop := ∃ φ N, Rel n w0 M N0 φ N U E L a w

include hT
theorem op_sound (R : Rel n w0 M N0 φ N U E L a w) {o : Oper} {r : Res} {lab : Nat} (hd : okDst n o.dst) (hlab : isNewR r = true → ¬ U lab) (h : (aop tt L (evE E) o.op).to P L lab r) {Q : Exit → Act → World → Prop} : o.wp P a w (Tel n w0 M N0 (fU U lab r) (fE E o.dst r.x) (fL L lab r)) Q := by
  obtain ⟨d, op, ty, po, af, g⟩ := o
  have hE := R.ev
  have hL := R.lbl
  unfold Oper.wp
  generalize hout : aop tt L (evE E) op = out at h
  cases out with
  | val p x =>
    obtain ⟨hp, rfl⟩ := h
    obtain ⟨v, h1, h2⟩ := run_val (d := d) (ty := ty) (po := po) (af := af) (g := g) hT hE hL hout hp
    rw [h1]
    exact ⟨φ, N, R.put hd h2⟩
  | new p B f =>
    obtain ⟨hp, rfl⟩ := h
    obtain ⟨v, o', h1, h2⟩ := run_new (d := d) (ty := ty) (po := po) (af := af) (g := g) hT hE R.low (Nat.zero_le _) hout hp
    rw [h1]
    obtain ⟨R', hr⟩ := R.made h2 (hlab rfl)
    exact ⟨_, N, R'.put hd hr⟩
  | put p l B =>
    obtain ⟨hp, rfl⟩ := h
    obtain ⟨w', b, v, h1, h2, h3, h4, h5, h6, h7, h8, B0, h9⟩ := run_put (d := d) (ty := ty) (po := po) (af := af) (g := g) hT hE hL R.low hout hp
    rw [h1]
    exact ⟨φ, N, (R.turn h9 h2 h3 (R.mine l B0 v b h9 h2 h3) h6 h7 h8).put hd (.any _)⟩
  | grow p l B =>
    obtain ⟨hp, rfl⟩ := h
    obtain ⟨v', w', row, h1, h2, h3, h4, h5, h6⟩ := run_grow (d := d) (ty := ty) (po := po) (af := af) (g := g) hT hE hL R.low (Nat.zero_le _) hout hp
    rw [h1]
    have h3' : ∀ b, row = some b → (PB M b ∨ w0.heap.size ≤ b) ∧ b < w.heap.size ∧ ¬ N b := fun b hb => ⟨by
      rcases h5 with ⟨_, e⟩ | ⟨l0, v0, _, ⟨B0, hB0⟩, e2, e3⟩
      · rw [e] at hb; cases hb
      · exact R.mine l0 B0 v0 b hB0 e2 (by rw [e3, hb]), (h3 b hb).2⟩
    obtain ⟨R', hr⟩ := R.grow h2 h3' h4 h5 h6 (hlab rfl)
    have e : fL L lab (.grow l B (.own lab)) = fS (fKill L l) lab (some B) := by cases l <;> rfl
    rw [e]
    exact ⟨_, N, R'.put hd hr⟩
  | call F args fr raw =>
    rcases h with h | ⟨ls, nw, x, ⟨ids, Ls, args', Ls', r', ⟨hF, hlen, hok⟩, q⟩, rfl⟩
    rotate_left
    · obtain ⟨vs, h1, h2, h3, h4, h5, h6⟩ := run_call (d := d) (ty := ty) (po := po) (af := af) (g := g) hE hL hout hF
      rw [h1]
      obtain ⟨q1, q2, q3, q4, q5, q6, q7, q8, q9, q10, rfl, rfl⟩ := q
      have hentry := R.entry q1 q2 q3 q7 (lab := lab)
      refine (hok w (give φ ids lab) N vs R.low (by rw [h5, q6, renAll_map]; simp) (fun i x hx => ?_) hentry.1 hentry.2.1 hentry.2.2).mono fun e w' he => ?_
      · have := h6 i (x.ren fun i => ids.getD i lab) (by rw [q6, renAll_map, List.getElem?_map, hx]; rfl)
        refine this.unren (fun j u hj hu => ?_) (allLt_mem q4 x (List.mem_of_getElem? hx))
        unfold give
        rw [if_pos hj]
        exact hu
      · obtain ⟨v, φ', N', rfl, g1, g2, g3, g4, g5, g6, g7, g8⟩ := he
        obtain ⟨R', hr⟩ := R.eff q1 q2 q3 hlen q8 q9 q10 (hlab rfl) g1 g2 g3 g4 g5 g6 g7 g8
        exact ⟨_, _, R'.put hd hr⟩
    obtain ⟨x, ⟨hF, hok⟩, hp, rfl⟩ := h
    obtain ⟨vs, h1, h2, h3, h4, _, _⟩ := run_call (d := d) (ty := ty) (po := po) (af := af) (g := g) hE hL hout hF
    rw [h1]
    by_cases hpure : x.pure = true
    · refine (hok w (NL N φ L) vs (fun b hb => ?_) h2 h3).mono fun e w' he => ?_
      · rcases hb with hb | ⟨l, v, B, hl, hv, hb⟩
        · exact R.low b hb
        · obtain ⟨u, hu, _, hub⟩ := (R.lbl l B hl).place
          rw [hv] at hu
          obtain rfl := Option.some.inj hu
          exact (hub b hb).2.1
      · obtain ⟨v, rfl, hb, hr⟩ := he
        exact ⟨φ, N, (R.below hb).put hd (hr.pure hpure)⟩
    · have hp : fr = true ∧ x.free = true := by
        rw [Bool.or_eq_true, Bool.and_eq_true] at hp
        exact hp.resolve_left hpure
      refine (hok w N vs R.low h2 (h4 hp.1)).mono fun e w' he => ?_
      obtain ⟨v, rfl, hb, hr⟩ := he
      exact ⟨φ, _, (R.belowN hb).put hd (hr.mono (fun _ _ _ _ h => h) (fun _ _ h => by cases h) (fun _ h => h))⟩
  | bad => exact h.elim
end
end Go.Proofs.YtfemklaeonkidaaV

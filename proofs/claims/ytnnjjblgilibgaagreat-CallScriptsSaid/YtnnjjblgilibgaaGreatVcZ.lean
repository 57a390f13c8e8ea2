import Derived.Test.YtnnjjblgilibgaaGreatVcT
/- The evaluator: states, regions, whatever order they draw. -/
/- What the evaluator says of the model: states, an operation. -/
namespace Go.Proofs.YtnnjjblgilibgaaGreatV
open Go Go.RowKit
set_option linter.unusedVariables false
set_option linter.unusedSimpArgs false

def okDst (n : Nat) : Option Tmp → Prop
  | none => True
  | some t => t < n

/-- What an operation came to. -/
inductive Res where
  | val (x : AV)
  | new (B : LB) (x : AV)
  | put (l : Nat) (B : LB)
  | grow (l : Option Nat) (B : LB) (x : AV)
  | eff (ls : List (Nat × LB)) (nw : Option LB) (x : AV)
def Res.x : Res → AV
  | .val x => x
  | .new _ x => x
  | .put _ _ => .any
  | .grow _ _ x => x
  | .eff _ _ x => x

def isNewR : Res → Bool
  | .new _ _ => true
  | .grow _ _ _ => true
  | .eff _ _ _ => true
  | _ => false

def fE (E : Nat → Option AV) (d : Option Tmp) (x : AV) : Nat → Option AV := fun t => if d = some t then some x else E t
def fS (L : Nat → Option LB) (l : Nat) (B : Option LB) : Nat → Option LB := fun k => if k = l then B else L k
def putF (ls : List (Nat × LB)) (L : Nat → Option LB) : Nat → Option LB :=
  match ls with
  | [] => L
  | (l, B) :: r => putF r (fS L l (some B))
def fL (L : Nat → Option LB) (lab : Nat) : Res → (Nat → Option LB)
  | .val _ => L
  | .new B _ => fS L lab (some B)
  | .put l B => fS L l (some B)
  | .grow none B _ => fS L lab (some B)
  | .grow (some l) B _ => fS (fS L l none) lab (some B)
  | .eff ls nw _ => fS (putF ls L) lab nw
def evE (E : Nat → Option AV) : Operand → AV
  | .tmp t => (E t).getD .any
  | .const v => .raw v
  | .global _ => .any
  | .func f => .fn f []

/-- An operation may come to this. -/
def Out.to (P : Program) (L : Nat → Option LB) (lab : Nat) (r : Res) : Out → Prop
  | .val p x => p ∧ r = .val x
  | .new p B f => p ∧ r = .new B (f lab)
  | .put p l B => p ∧ r = .put l B
  | .grow p l B => p ∧ r = .grow l B (.own lab)
  | .call F args fr raw => (∃ x, Ok P F args x ∧ (x.pure || fr && x.free) = true ∧ r = .val x) ∨ ∃ ls nw x, EffC P F L raw lab ls nw x ∧ r = .eff ls nw x
  | .bad => False

theorem But.refl (M : Nat → Prop) (w : World) : But M w w := ⟨rfl, rfl, rfl, Nat.le_refl _, fun _ _ _ => rfl⟩
theorem But.trans {M M' : Nat → Prop} {a b c : World} (h : But M a b) (k : But M' b c) (hm : ∀ x, M' x → M x ∨ a.heap.size ≤ x) : But M a c :=
  ⟨k.os.trans h.os, k.tape.trans h.tape, k.output.trans h.output, Nat.le_trans h.size k.size, fun x hx hn => (k.block x (Nat.lt_of_lt_of_le hx h.size) (fun e => by rcases hm x e with h' | h'; exact hn h'; omega)).trans (h.block x hx hn)⟩
theorem But.below {M : Nat → Prop} {a b c : World} (h : But M a b) (k : Below b.heap.size b c) : But M a c :=
  ⟨k.os.trans h.os, k.tape.trans h.tape, k.output.trans h.output, Nat.le_trans h.size k.size, fun x hx hn => (k.block x (Nat.lt_of_lt_of_le hx h.size)).trans (h.block x hx hn)⟩
theorem But.alloc {M : Nat → Prop} {a b : World} (h : But M a b) (o : Obj) : But M a (b.alloc o) :=
  h.below ((Below.refl _ _).alloc (Nat.le_refl _) o)
theorem But.drew {M : Nat → Prop} {a w : World} (h : But M a w) : But M a w.drew := ⟨h.os, h.tape, h.output, h.size, h.block⟩
theorem But.grown {M : Nat → Prop} {a w w' : World} {row : Option Nat} (h : But M a w) (hg : w.grownBy w' row) (hr : ∀ k, row = some k → M k ∨ a.heap.size ≤ k) : But M a w' :=
  ⟨hg.os.trans h.os, hg.tape.trans h.tape, hg.output.trans h.output, Nat.le_trans h.size hg.size, fun x hx hn => (hg.block x (Nat.lt_of_lt_of_le hx h.size) (fun e => by rcases hr x e.symm with h' | h'; exact hn h'; omega)).trans (h.block x hx hn)⟩
theorem But.toBelow {w w' : World} (h : But (fun _ => False) w w') : Below w.heap.size w w' := ⟨h.os, h.tape, h.output, h.size, fun k hk => h.block k hk (fun h => h)⟩

/-- Blocks of places. -/
def PB (φ : Nat → Option Value) : Nat → Prop := fun b => ∃ l v, φ l = some v ∧ vblock v = some b
/-- Blocks that may be told of; blocks that are to stay. -/
structure NG where
  p : Nat → Prop
  g : Nat → Option Obj
  sz : Nat
  lo : Nat
/-- What stays: among it the marks of loops over functions. -/
def GSt (N0 : NG) (N : Nat → Prop) (ds : List Deferred) (w : World) : Prop :=
  (N0.sz ≤ w.heap.size ∧ N0.lo ≤ w.heap.size) ∧ ∃ g : Nat → Option Obj, (∀ k o, N0.g k = some o → g k = some o) ∧ (∀ k o, g k = some o → N k ∧ w.heap[k]? = some o) ∧ ds.Nodup ∧ ∀ d ∈ ds, ∃ D, d = { target := .collected D, args := #[] } ∧ g D = some (.deferred (some [])) ∧ N0.lo ≤ D
theorem GSt.keep {N0 : NG} {N N' : Nat → Prop} {ds : List Deferred} {w w' : World} (h : GSt N0 N ds w) (hs : w.heap.size ≤ w'.heap.size) (hN : ∀ b, N b → N' b) (hw : ∀ b, N b → w'.heap[b]? = w.heap[b]?) : GSt N0 N' ds w' := by
  obtain ⟨h0, g, h1, h2, h3, h4⟩ := h
  exact ⟨⟨Nat.le_trans h0.1 hs, Nat.le_trans h0.2 hs⟩, g, h1, fun k o hk => ⟨hN k (h2 k o hk).1, (hw k (h2 k o hk).1).trans (h2 k o hk).2⟩, h3, h4⟩
theorem GSt.none {N : Nat → Prop} {p : Nat → Prop} {w : World} {k : Nat} (h : k ≤ w.heap.size) : GSt ⟨p, fun _ => none, 0, k⟩ N [] w := ⟨⟨Nat.zero_le _, h⟩, fun _ => Option.none, (fun k o h => by cases h), (fun k o h => by cases h), List.nodup_nil, (fun d h => by cases h)⟩
/-- A state of the model is as slots and labels tell. -/
structure Rel (n : Nat) (w0 : World) (M : Nat → Option Value) (N0 : NG) (φ : Nat → Option Value) (N : Nat → Prop) (U : Nat → Prop) (E : Nat → Option AV) (L : Nat → Option LB) (a : Act) (w : World) : Prop where
  defers : GSt N0 N a.defers w
  size : a.tmps.size = n
  bel : But (PB M) w0 w
  ext : ∀ l v, M l = some v → φ l = some v
  low : ∀ b, N b → b < w.heap.size
  nb : ∀ b, N b → N0.p b ∨ w0.heap.size ≤ b
  env : ∀ t x, E t = some x → Rep w φ N x (a.tmps.getD t undef)
  lbl : ∀ l B, L l = some B → Holds w φ N 0 l B
  mine : ∀ l B v b, L l = some B → φ l = some v → vblock v = some b → PB M b ∨ w0.heap.size ≤ b
  disj : ∀ l l' B B' v v' b, l ≠ l' → L l = some B → L l' = some B' → φ l = some v → φ l' = some v' → vblock v = some b → vblock v' ≠ some b
  fresh : ∀ l, ¬ U l → φ l = none

section
variable {n : Nat} {w0 : World} {M : Nat → Option Value} {N0 : NG} {φ : Nat → Option Value} {N : Nat → Prop} {U : Nat → Prop} {E : Nat → Option AV} {L : Nat → Option LB} {a : Act} {w : World}

theorem Holds.place {l : Nat} {B : LB} {base : Nat} (h : Holds w φ N base l B) : ∃ v, φ l = some v ∧ v.oneCell' = true ∧ (∀ b, vblock v = some b → base ≤ b ∧ b < w.heap.size ∧ ¬ N b) := by
  cases B with
  | box cells =>
    obtain ⟨b, ty, cs, hφ, hg, hs, hr, hb, hN⟩ := h
    refine ⟨_, hφ, rfl, fun c hc => ?_⟩
    obtain rfl := Option.some.inj hc
    exact ⟨hb, (Array.getElem?_eq_some_iff.1 hg).1, hN⟩
  | row e sz rows =>
    obtain ⟨v, xs, hφ, h1, ho, hs, hr, hN⟩ := h
    refine ⟨v, hφ, h1, fun c hc => ?_⟩
    have hv : vblock v = v.ownBlock := by
      rcases ho.2 with ⟨rfl, _⟩ | ⟨g, cap, cur, rfl, _⟩ <;> rfl
    rw [hv] at hc
    exact ⟨(ho.lt c hc).1, (ho.lt c hc).2, hN c hc⟩

/-- A label's cells in another world, in which its block and the contents' blocks are as they were. -/
theorem Holds.keep {w' : World} {φ' : Nat → Option Value} {N' : Nat → Prop} {l : Nat} {B : LB} {base : Nat} (h : Holds w φ N base l B) (hr : ∀ x v, Rep w φ N x v → Rep w' φ' N' x v) (hb : ∀ v b, φ l = some v → vblock v = some b → w'.heap[b]? = w.heap[b]? ∧ ¬ N' b) (hφ : ∀ v, φ l = some v → φ' l = some v) : Holds w' φ' N' base l B := by
  cases B with
  | box cells =>
    obtain ⟨b, ty, cs, hp, hg, hs, hr', hb', hN⟩ := h
    obtain ⟨h1, h2⟩ := hb _ b hp rfl
    exact ⟨b, ty, cs, hφ _ hp, h1.trans hg, hs, fun i x hx => hr _ _ (hr' i x hx), hb', h2⟩
  | row e sz rows =>
    obtain ⟨v, xs, hp, h1, ho, hs, hr', hN⟩ := h
    refine ⟨v, xs, hφ _ hp, h1, ⟨ho.1, ?_⟩, hs, fun i x hx => hr _ _ (hr' i x hx), fun b hbv => ?_⟩
    · rcases ho.2 with hn | ⟨g, cap, cur, rfl, hb', hg, rest⟩
      · exact .inl hn
      · exact .inr ⟨g, cap, cur, rfl, hb', ((hb _ g hp rfl).1).trans hg, rest⟩
    · have hv : vblock v = some b := by
        rcases ho.2 with ⟨rfl, _⟩ | ⟨g, cap, cur, rfl, _⟩ <;> exact hbv
      exact (hb _ b hp hv).2

theorem Rel.ev (R : Rel n w0 M N0 φ N U E L a w) (x : Operand) : Rep w φ N (evE E x) (a.eval x) := by
  cases x with
  | tmp t =>
    show Rep w φ N ((E t).getD .any) _
    cases h : E t with
    | none => exact .any _
    | some x => exact R.env t x h
  | const v => exact .raw v
  | global g => exact .any _
  | func f => exact .fn f [] #[] rfl (by simp)

theorem getD_set_ne {vs : Array Value} {t u : Nat} {v : Value} (h : t ≠ u) : (vs.setIfInBounds u v).getD t undef = vs.getD t undef := by
  rw [Array.getD_eq_getD_getElem?, Array.getD_eq_getD_getElem?, Array.getElem?_setIfInBounds, if_neg (fun e => h e.symm)]
theorem getD_set_eq {vs : Array Value} {t : Nat} {v : Value} (h : t < vs.size) : (vs.setIfInBounds t v).getD t undef = v := by
  rw [Array.getD_eq_getD_getElem?, Array.getElem?_setIfInBounds, if_pos rfl, if_pos h]
  rfl

theorem Rel.put (R : Rel n w0 M N0 φ N U E L a w) {d : Option Tmp} (hd : okDst n d) {x : AV} {v : Value} (hx : Rep w φ N x v) : Rel n w0 M N0 φ N U (fE E d x) L (a.put d v) w := by
  cases d with
  | none =>
    have : fE E none x = E := by funext t; simp [fE]
    rw [this]
    exact R
  | some t =>
    refine ⟨R.defers, by simpa [Act.put] using R.size, R.bel, R.ext, R.low, R.nb, fun u y hy => ?_, R.lbl, R.mine, R.disj, R.fresh⟩
    have ht : t < a.tmps.size := by rw [R.size]; exact hd
    unfold fE at hy
    split at hy
    · rename_i e
      obtain rfl := Option.some.inj e
      obtain rfl := Option.some.inj hy
      show Rep w φ N x ((a.tmps.setIfInBounds t v).getD t undef)
      rw [getD_set_eq ht]
      exact hx
    · rename_i e
      show Rep w φ N y ((a.tmps.setIfInBounds t v).getD u undef)
      rw [getD_set_ne (fun h => e (by rw [h]))]
      exact R.env u y hy

theorem Rel.base_le (R : Rel n w0 M N0 φ N U E L a w) : w0.heap.size ≤ w.heap.size := R.bel.size

theorem fS_some {l k : Nat} {o : Option LB} {B : LB} (h : fS L l o k = some B) : (k = l ∧ o = some B) ∨ (k ≠ l ∧ L k = some B) := by
  unfold fS at h
  split at h
  · rename_i e; exact .inl ⟨e, h⟩
  · rename_i e; exact .inr ⟨e, h⟩

theorem Rel.made (R : Rel n w0 M N0 φ N U E L a w) {B : LB} {f : Nat → AV} {v : Value} {o' : Obj} (hm : Made w φ N 0 B f v o') {lab : Nat} (hlab : ¬ U lab) :
    Rel n w0 M N0 (upd φ lab v) N (fun l => U l ∨ l = lab) E (fS L lab (some B)) a (w.alloc o') ∧ Rep (w.alloc o') (upd φ lab v) N (f lab) v := by
  have hf := R.fresh lab hlab
  obtain ⟨hv, hh⟩ := hm
  obtain ⟨h1, h2⟩ := hh lab hf
  have hmono : ∀ x u, Rep w φ N x u → Rep (w.alloc o') (upd φ lab v) N x u := fun x u h => h.mono (fun b o u' hb hc => cell_alloc (R.low b hb) hc) (upd_ext hf) (fun _ h => h)
  have hold : ∀ l B, L l = some B → ∃ u, φ l = some u ∧ l ≠ lab ∧ (∀ b, vblock u = some b → b < w.heap.size) := by
    intro l B hl
    obtain ⟨u, hu, _, hub⟩ := (R.lbl l B hl).place
    exact ⟨u, hu, (fun e => by subst e; rw [hf] at hu; cases hu), fun b hb => (hub b hb).2.1⟩
  refine ⟨⟨R.defers.keep (by simp) (fun _ h => h) (fun b hb => Below.heap_alloc w o' b (R.low b hb)), R.size, R.bel.alloc o', fun l u h => upd_ext hf _ _ (R.ext l u h), fun b hb => by simpa using Nat.lt_succ_of_lt (R.low b hb), R.nb, fun t x hx => hmono _ _ (R.env t x hx), fun l B' hl => ?_, fun l B' u b hl hu hb => ?_, ?_, fun l hl => ?_⟩, h2⟩
  · rcases fS_some hl with ⟨rfl, hB⟩ | ⟨hne, hl⟩
    · obtain rfl := Option.some.inj hB
      exact h1
    · exact (R.lbl l B' hl).keep hmono (fun u b hu hb => by
        have hp := (R.lbl l B' hl).place
        obtain ⟨u', hu', _, hub⟩ := hp
        rw [hu] at hu'
        obtain rfl := Option.some.inj hu'
        obtain ⟨_, hlt, hn⟩ := hub b hb
        exact ⟨Below.heap_alloc w o' b hlt, hn⟩) (fun u hu => upd_ext hf _ _ hu)
  · rcases fS_some hl with ⟨rfl, _⟩ | ⟨hne, hl⟩
    · rw [upd_same] at hu
      obtain rfl := Option.some.inj hu
      rw [hv] at hb
      obtain rfl := Option.some.inj hb
      exact .inr R.base_le
    · obtain ⟨q, hq, _, _⟩ := hold l B' hl
      rw [upd_ext hf _ _ hq] at hu
      obtain rfl := Option.some.inj hu
      exact R.mine l B' _ b hl hq hb
  · intro l l' B1 B2 u u' b hne hl hl' hu hu' hb hb'
    rcases fS_some hl with ⟨rfl, _⟩ | ⟨hn1, hl⟩
    · rcases fS_some hl' with ⟨rfl, _⟩ | ⟨hn2, hl'⟩
      · exact hne rfl
      · obtain ⟨q, hq, _, hqb⟩ := hold l' B2 hl'
        rw [upd_same] at hu
        obtain rfl := Option.some.inj hu
        rw [upd_ext hf _ _ hq] at hu'
        obtain rfl := Option.some.inj hu'
        rw [hv] at hb
        have := hqb b hb'
        have := Option.some.inj hb
        omega
    · obtain ⟨q, hq, _, hqb⟩ := hold l B1 hl
      rw [upd_ext hf _ _ hq] at hu
      obtain rfl := Option.some.inj hu
      rcases fS_some hl' with ⟨rfl, _⟩ | ⟨hn2, hl'⟩
      · rw [upd_same] at hu'
        obtain rfl := Option.some.inj hu'
        rw [hv] at hb'
        have := hqb b hb
        have := Option.some.inj hb'
        omega
      · obtain ⟨q', hq', _, _⟩ := hold l' B2 hl'
        rw [upd_ext hf _ _ hq'] at hu'
        obtain rfl := Option.some.inj hu'
        exact R.disj l l' B1 B2 _ _ b hne hl hl' hq hq' hb hb'
  · unfold upd
    rw [if_neg (fun e => hl (.inr e))]
    exact R.fresh l (fun h => hl (.inl h))

/-- A block of a label turns. -/
theorem Rel.turn (R : Rel n w0 M N0 φ N U E L a w) {w' : World} {l b : Nat} {v : Value} {B B0 : LB} (hl : L l = some B0) (hv : φ l = some v) (hb : vblock v = some b) (hbase : PB M b ∨ w0.heap.size ≤ b) (hN : ¬ N b) (ht : Turned w w' b) (hB : Holds w' φ N 0 l B) :
    Rel n w0 M N0 φ N U E (fS L l (some B)) a w' := by
  have hmono : ∀ x u, Rep w φ N x u → Rep w' φ N x u := fun x u h => h.turned ht.grown R.low hN
  refine ⟨R.defers.keep (Nat.le_of_eq ht.size.symm) (fun _ h => h) (fun c hc => ht.grown.block c (R.low c hc) (fun e => by obtain rfl := Option.some.inj e; exact hN hc)), R.size, R.bel.grown ht.grown (fun k hk => by obtain rfl := Option.some.inj hk; exact hbase), R.ext, fun c hc => by rw [ht.size]; exact R.low c hc, R.nb, fun t x hx => hmono _ _ (R.env t x hx), fun k B' hk => ?_, fun k B' u c hk hu hc => ?_, ?_, R.fresh⟩
  · rcases fS_some hk with ⟨rfl, hB'⟩ | ⟨hne, hk'⟩
    · obtain rfl := Option.some.inj hB'
      exact hB
    · exact (R.lbl k B' hk').keep hmono (fun u c hu hc => by
        obtain ⟨u', hu', _, hub⟩ := (R.lbl k B' hk').place
        rw [hu] at hu'
        obtain rfl := Option.some.inj hu'
        obtain ⟨_, hlt, hn⟩ := hub c hc
        refine ⟨ht.grown.block c hlt (fun e => ?_), hn⟩
        obtain rfl := Option.some.inj e
        exact R.disj l k B0 B' v u c (fun e => hne e.symm) hl hk' hv hu hb hc) (fun _ h => h)
  · rcases fS_some hk with ⟨rfl, _⟩ | ⟨_, hk⟩
    · exact R.mine k B0 u c hl hu hc
    · exact R.mine k B' u c hk hu hc
  · have hsome : ∀ k B', fS L l (some B) k = some B' → ∃ B'', L k = some B'' := by
      intro k B' hk
      rcases fS_some hk with ⟨rfl, _⟩ | ⟨_, hk⟩
      · exact ⟨_, hl⟩
      · exact ⟨_, hk⟩
    intro k k' B1 B2 u u' c hne h1 h2
    obtain ⟨B1', h1⟩ := hsome k B1 h1
    obtain ⟨B2', h2⟩ := hsome k' B2 h2
    exact R.disj k k' B1' B2' u u' c hne h1 h2

/-- Labels, one of them dead. -/
def fKill (L : Nat → Option LB) : Option Nat → (Nat → Option LB)
  | none => L
  | some l => fS L l none

/-- A row has grown: a label more, the old one is dead. -/
theorem Rel.grow (R : Rel n w0 M N0 φ N U E L a w) {w' : World} {l : Option Nat} {row : Option Nat} {v' : Value} {B : LB} (hg : w.grownBy w' row) (hrow : ∀ b, row = some b → (PB M b ∨ w0.heap.size ≤ b) ∧ b < w.heap.size ∧ ¬ N b)
    (hB : ∀ k, φ k = none → Holds w' (upd φ k v') N 0 k B ∧ Rep w' (upd φ k v') N (.own k) v')
    (hl : (l = none ∧ row = none) ∨ ∃ l0 v0, l = some l0 ∧ (∃ B0, L l0 = some B0) ∧ φ l0 = some v0 ∧ vblock v0 = row) (hv' : vblock v' = row ∨ vblock v' = some w.heap.size) {lab : Nat} (hlab : ¬ U lab) :
    Rel n w0 M N0 (upd φ lab v') N (fun l => U l ∨ l = lab) E (fS (fKill L l) lab (some B)) a w' ∧ Rep w' (upd φ lab v') N (.own lab) v' := by
  have hf := R.fresh lab hlab
  obtain ⟨h1, h2⟩ := hB lab hf
  have hmono : ∀ x u, Rep w φ N x u → Rep w' (upd φ lab v') N x u := fun x u h => h.mono (fun b o u' hb hc => (World.cell?_of_block (w := w) (w' := w') (a := ⟨b, o, none⟩) (hg.block b (R.low b hb) (fun e => (hrow b e.symm).2.2 hb))).trans hc) (upd_ext hf) (fun _ h => h)
  -- what lives on
  have hold : ∀ k B', fKill L l k = some B' → L k = some B' ∧ k ≠ lab ∧ ∃ u, φ k = some u ∧ (∀ b, vblock u = some b → b < w.heap.size ∧ ¬ N b ∧ some b ≠ row) := by
    intro k B' hk
    have hk' : L k = some B' ∧ l ≠ some k := by
      cases l with
      | none => exact ⟨hk, by simp⟩
      | some l0 =>
        rcases fS_some hk with ⟨rfl, h⟩ | ⟨hne, hk⟩
        · cases h
        · exact ⟨hk, fun e => hne (Option.some.inj e).symm⟩
    obtain ⟨hk1, hk2⟩ := hk'
    obtain ⟨u, hu, _, hub⟩ := (R.lbl k B' hk1).place
    refine ⟨hk1, (fun e => by subst e; rw [hf] at hu; cases hu), u, hu, fun b hb => ⟨(hub b hb).2.1, (hub b hb).2.2, fun e => ?_⟩⟩
    rcases hl with ⟨_, hr⟩ | ⟨l0, v0, rfl, ⟨B0, hB0⟩, hv0, hr⟩
    · rw [hr] at e; cases e
    · exact R.disj l0 k B0 B' v0 u b (fun e => hk2 (by rw [e])) hB0 hk1 hv0 hu (by rw [hr, ← e]) hb
  refine ⟨⟨R.defers.keep hg.size (fun _ h => h) (fun c hc => hg.block c (R.low c hc) (fun e => (hrow c e.symm).2.2 hc)), R.size, R.bel.grown hg (fun k hk => (hrow k hk).1), fun l u h => upd_ext hf _ _ (R.ext l u h), fun c hc => Nat.lt_of_lt_of_le (R.low c hc) hg.size, R.nb, fun t x hx => hmono _ _ (R.env t x hx), fun k B' hk => ?_, fun k B' u c hk hu hc => ?_, ?_, fun k hk => ?_⟩, h2⟩
  · rcases fS_some hk with ⟨rfl, hB'⟩ | ⟨hne, hk⟩
    · obtain rfl := Option.some.inj hB'
      exact h1
    · obtain ⟨hk1, _, u, hu, hub⟩ := hold k B' hk
      exact (R.lbl k B' hk1).keep hmono (fun u' b hu' hb => by
        rw [hu] at hu'
        obtain rfl := Option.some.inj hu'
        obtain ⟨q1, q2, q3⟩ := hub b hb
        exact ⟨hg.block b q1 q3, q2⟩) (fun u hu => upd_ext hf _ _ hu)
  · rcases fS_some hk with ⟨rfl, _⟩ | ⟨hne, hk⟩
    · rw [upd_same] at hu
      obtain rfl := Option.some.inj hu
      rcases hv' with e | e
      · exact (hrow c (by rw [← e, hc])).1
      · rw [e] at hc
        obtain rfl := Option.some.inj hc
        exact .inr R.base_le
    · obtain ⟨hk1, _, q, hq, _⟩ := hold k B' hk
      rw [upd_ext hf _ _ hq] at hu
      obtain rfl := Option.some.inj hu
      exact R.mine k B' _ c hk1 hq hc
  · intro k k' B1 B2 u u' b hne h3 h4 hu hu' hb hb'
    rcases fS_some h3 with ⟨rfl, _⟩ | ⟨hn1, h3⟩
    · rcases fS_some h4 with ⟨rfl, _⟩ | ⟨hn2, h4⟩
      · exact hne rfl
      · obtain ⟨_, _, q, hq, hqb⟩ := hold k' B2 h4
        rw [upd_same] at hu
        obtain rfl := Option.some.inj hu
        rw [upd_ext hf _ _ hq] at hu'
        obtain rfl := Option.some.inj hu'
        obtain ⟨q1, q2, q3⟩ := hqb b hb'
        rcases hv' with e | e
        · exact q3 (by rw [← hb, e])
        · rw [e] at hb; have := Option.some.inj hb; omega
    · obtain ⟨hk1, _, q, hq, hqb⟩ := hold k B1 h3
      rw [upd_ext hf _ _ hq] at hu
      obtain rfl := Option.some.inj hu
      rcases fS_some h4 with ⟨rfl, _⟩ | ⟨hn2, h4⟩
      · rw [upd_same] at hu'
        obtain rfl := Option.some.inj hu'
        obtain ⟨q1, q2, q3⟩ := hqb b hb
        rcases hv' with e | e
        · exact q3 (by rw [← hb', e])
        · rw [e] at hb'; have := Option.some.inj hb'; omega
      · obtain ⟨hk2, _, q', hq', _⟩ := hold k' B2 h4
        rw [upd_ext hf _ _ hq'] at hu'
        obtain rfl := Option.some.inj hu'
        exact R.disj k k' B1 B2 _ _ b hne hk1 hk2 hq hq' hb hb'
  · unfold upd
    rw [if_neg (fun e => hk (.inr e))]
    exact R.fresh k (fun h => hk (.inl h))

/-- Behind a call. -/
theorem Rel.below (R : Rel n w0 M N0 φ N U E L a w) {w' : World} (hb : Below w.heap.size w w') : Rel n w0 M N0 φ N U E L a w' := by
  have hmono : ∀ x u, Rep w φ N x u → Rep w' φ N x u := fun x u h => h.keep hb R.low
  exact ⟨R.defers.keep hb.size (fun _ h => h) (fun c hc => hb.block c (R.low c hc)), R.size, R.bel.below hb, R.ext, fun c hc => Nat.lt_of_lt_of_le (R.low c hc) hb.size, R.nb, fun t x hx => hmono _ _ (R.env t x hx), fun k B' hk => (R.lbl k B' hk).keep hmono (fun u c hu hc => by
    obtain ⟨u', hu', _, hub⟩ := (R.lbl k B' hk).place
    rw [hu] at hu'
    obtain rfl := Option.some.inj hu'
    exact ⟨hb.block c (hub c hc).2.1, (hub c hc).2.2⟩) (fun _ h => h), R.mine, R.disj, R.fresh⟩

/-- Behind a call whose result lies in new blocks too. -/
theorem Rel.belowN (R : Rel n w0 M N0 φ N U E L a w) {w' : World} (hb : Below w.heap.size w w') : Rel n w0 M N0 φ (fun b => N b ∨ (w.heap.size ≤ b ∧ b < w'.heap.size)) U E L a w' := by
  have hmono : ∀ x u, Rep w φ N x u → Rep w' φ (fun b => N b ∨ (w.heap.size ≤ b ∧ b < w'.heap.size)) x u := fun x u h => (h.keep hb R.low).mono (fun _ _ _ _ h => h) (fun _ _ h => h) (fun _ h => .inl h)
  exact ⟨R.defers.keep hb.size (fun _ h => .inl h) (fun c hc => hb.block c (R.low c hc)), R.size, R.bel.below hb, R.ext, fun c hc => by
    rcases hc with hc | hc
    · exact Nat.lt_of_lt_of_le (R.low c hc) hb.size
    · exact hc.2, fun c hc => by
    rcases hc with hc | hc
    · exact R.nb c hc
    · exact .inr (Nat.le_trans R.base_le hc.1), fun t x hx => hmono _ _ (R.env t x hx), fun k B' hk => (R.lbl k B' hk).keep hmono (fun u c hu hc => by
    obtain ⟨u', hu', _, hub⟩ := (R.lbl k B' hk).place
    rw [hu] at hu'
    obtain rfl := Option.some.inj hu'
    obtain ⟨_, hlt, hn⟩ := hub c hc
    exact ⟨hb.block c hlt, fun h => h.elim hn (fun h => by omega)⟩) (fun _ h => h), R.mine, R.disj, R.fresh⟩

theorem Rel.more (R : Rel n w0 M N0 φ N U E L a w) {U' : Nat → Prop} (h : ∀ l, U l → U' l) : Rel n w0 M N0 φ N U' E L a w :=
  ⟨R.defers, R.size, R.bel, R.ext, R.low, R.nb, R.env, R.lbl, R.mine, R.disj, fun l hl => R.fresh l (fun hu => hl (h l hu))⟩

theorem renAll_map (ρ : Nat → Nat) : ∀ (l : List AV), renAll ρ l = l.map (AV.ren ρ)
  | [] => rfl
  | x :: r => by rw [renAll, renAll_map ρ r]; rfl
theorem renRows_map (ρ : Nat → Nat) : ∀ (l : List (List AV)), renRows ρ l = l.map (List.map (AV.ren ρ))
  | [] => rfl
  | x :: r => by rw [renRows, renRows_map ρ r, renAll_map]; rfl
theorem renRows_flat (ρ : Nat → Nat) (l : List (List AV)) : (renRows ρ l).flatten = l.flatten.map (AV.ren ρ) := by
  rw [renRows_map, List.map_flatten]
theorem allLt_mem {k : Nat} {l : List AV} (h : allLt k l = true) : ∀ x ∈ l, x.lt k = true := by
  induction l with
  | nil => intro x hx; cases hx
  | cons a r ih =>
    rw [allLt, Bool.and_eq_true] at h
    intro x hx
    rcases List.mem_cons.1 hx with rfl | hx
    · exact h.1
    · exact ih h.2 x hx
theorem rowsLt_mem {k : Nat} {l : List (List AV)} (h : rowsLt k l = true) : ∀ x ∈ l.flatten, x.lt k = true := by
  induction l with
  | nil => intro x hx; cases hx
  | cons a r ih =>
    rw [rowsLt, Bool.and_eq_true] at h
    intro x hx
    rw [List.flatten_cons] at hx
    rcases List.mem_append.1 hx with hx | hx
    · exact allLt_mem h.1 x hx
    · exact ih h.2 x hx
theorem blt_lt {a b : Nat} (h : Nat.blt a b = true) : a < b := Nat.le_of_ble_eq_true h

/-- Labels named anew. -/
theorem Rep.ren {w : World} {φ φ' : Nat → Option Value} {N N' : Nat → Prop} {k : Nat} {ρ : Nat → Nat} (hφ : ∀ j u, j < k → φ j = some u → φ' (ρ j) = some u) (hN : ∀ b, N b → N' b) {x : AV} {v : Value} (h : Rep w φ N x v) (hk : x.lt k = true) : Rep w φ' N' (x.ren ρ) v := by
  induction h with
  | any v => exact .any v
  | raw v => exact .raw v
  | agg l vs hl _ ih =>
    show Rep w φ' N' (.agg (renAll ρ l)) _
    rw [renAll_map]
    refine .agg _ vs (by simpa using hl) fun i x hx => ?_
    rw [List.getElem?_map] at hx
    cases hc : l[i]? with
    | none => rw [hc] at hx; cases hx
    | some y => rw [hc] at hx; obtain rfl := Option.some.inj hx; exact ih i y hc (allLt_mem hk y (List.mem_of_getElem? hc))
  | tup l vs hl _ ih =>
    show Rep w φ' N' (.tup (renAll ρ l)) _
    rw [renAll_map]
    refine .tup _ vs (by simpa using hl) fun i x hx => ?_
    rw [List.getElem?_map] at hx
    cases hc : l[i]? with
    | none => rw [hc] at hx; cases hx
    | some y => rw [hc] at hx; obtain rfl := Option.some.inj hx; exact ih i y hc (allLt_mem hk y (List.mem_of_getElem? hc))
  | fn f l vs hl _ ih =>
    show Rep w φ' N' (.fn f (renAll ρ l)) _
    rw [renAll_map]
    refine .fn f _ vs (by simpa using hl) fun i x hx => ?_
    rw [List.getElem?_map] at hx
    cases hc : l[i]? with
    | none => rw [hc] at hx; cases hx
    | some y => rw [hc] at hx; obtain rfl := Option.some.inj hx; exact ih i y hc (allLt_mem hk y (List.mem_of_getElem? hc))
  | iface t x v _ ih => exact .iface t _ v (ih hk)
  | slnil sz => exact .slnil sz
  | slz sz a => exact .slz sz a
  | sl sz rows b o c cell hc hb hsz hc' _ ih =>
    show Rep w φ' N' (.sl sz (renRows ρ rows)) _
    have e : rows.length = (renRows ρ rows).length := by rw [renRows_map]; simp
    rw [e] at hc ⊢
    refine .sl sz _ b o c cell hc (hN b hb) (fun r hr => ?_) (fun k' hk' => hc' k' (by rw [renRows_flat, List.length_map] at hk'; exact hk')) fun i x hx => ?_
    · rw [renRows_map] at hr
      obtain ⟨r', hr', rfl⟩ := List.mem_map.1 hr
      rw [List.length_map]
      exact hsz r' hr'
    · rw [renRows_flat, List.getElem?_map] at hx
      cases hcc : rows.flatten[i]? with
      | none => rw [hcc] at hx; cases hx
      | some y => rw [hcc] at hx; obtain rfl := Option.some.inj hx; exact ih i y hcc (rowsLt_mem hk y (List.mem_of_getElem? hcc))
  | box cells off b o cell hb hc' _ ih =>
    show Rep w φ' N' (.box (renAll ρ cells) off) _
    rw [renAll_map]
    refine .box _ off b o cell (hN b hb) (fun k' hk' => hc' k' (by simpa using hk')) fun i x hx => ?_
    rw [List.getElem?_map] at hx
    cases hc : cells[i]? with
    | none => rw [hc] at hx; cases hx
    | some y => rw [hc] at hx; obtain rfl := Option.some.inj hx; exact ih i y hc (allLt_mem hk y (List.mem_of_getElem? hc))
  | loc l off b h => exact .loc _ off b (hφ _ _ (blt_lt hk) h)
  | own l v h h1 => exact .own _ v (hφ _ _ (blt_lt hk) h) h1
  | rloc l sz i f b n c h => exact .rloc _ sz i f b n c (hφ _ _ (blt_lt hk) h)
  | lsl l off n sz b c h hc => exact .lsl _ off n sz b c (hφ _ _ (blt_lt hk) h) hc
  | osl l off n sz b m c' c h hc hc' => exact .osl _ off n sz b m c' c (hφ _ _ (blt_lt hk) h) hc hc'
  | csl sz rows v _ hc ih => exact .csl _ _ v (ih hk) hc

theorem Rep.unren {w : World} {φ φ' : Nat → Option Value} {N : Nat → Prop} {k : Nat} {ρ : Nat → Nat} (hφ : ∀ j u, j < k → φ (ρ j) = some u → φ' j = some u) {x : AV} {v : Value} (h : Rep w φ N (x.ren ρ) v) (hk : x.lt k = true) : Rep w φ' N x v := by
  generalize hy : x.ren ρ = y at h
  induction h generalizing x with
  | any v => cases x <;> simp [AV.ren] at hy; exact .any v
  | raw v => cases x <;> simp [AV.ren] at hy; subst hy; exact .raw _
  | agg l vs hl _ ih =>
    cases x <;> simp [AV.ren] at hy
    rename_i l'
    rw [renAll_map] at hy
    subst hy
    exact .agg _ vs (by simpa using hl) fun i x hx => ih i (x.ren ρ) (by rw [List.getElem?_map, hx]; rfl) (allLt_mem hk x (List.mem_of_getElem? hx)) rfl
  | tup l vs hl _ ih =>
    cases x <;> simp [AV.ren] at hy
    rename_i l'
    rw [renAll_map] at hy
    subst hy
    exact .tup _ vs (by simpa using hl) fun i x hx => ih i (x.ren ρ) (by rw [List.getElem?_map, hx]; rfl) (allLt_mem hk x (List.mem_of_getElem? hx)) rfl
  | fn f l vs hl _ ih =>
    cases x <;> simp [AV.ren] at hy
    rename_i f' l'
    obtain ⟨rfl, hy⟩ := hy
    rw [renAll_map] at hy
    subst hy
    exact .fn _ _ vs (by simpa using hl) fun i x hx => ih i (x.ren ρ) (by rw [List.getElem?_map, hx]; rfl) (allLt_mem hk x (List.mem_of_getElem? hx)) rfl
  | iface t z v _ ih =>
    cases x <;> simp [AV.ren] at hy
    obtain ⟨rfl, rfl⟩ := hy
    exact .iface _ _ v (ih hk rfl)
  | csl sz rows v _ hc ih =>
    cases x <;> simp [AV.ren] at hy
    obtain ⟨rfl, rfl⟩ := hy
    exact .csl _ _ v (ih (x := .sl _ _) hk rfl) hc
  | slnil sz =>
    cases x <;> simp [AV.ren] at hy
    obtain ⟨rfl, hy⟩ := hy
    rw [renRows_map] at hy
    obtain rfl := List.map_eq_nil_iff.1 hy
    exact .slnil _
  | slz sz a =>
    cases x <;> simp [AV.ren] at hy
    obtain ⟨rfl, hy⟩ := hy
    rw [renRows_map] at hy
    obtain rfl := List.map_eq_nil_iff.1 hy
    exact .slz _ a
  | sl sz rows b o c cell hc hb hsz hc' _ ih =>
    cases x <;> simp [AV.ren] at hy
    rename_i sz' rows'
    obtain ⟨rfl, rfl⟩ := hy
    have e : (renRows ρ rows').length = rows'.length := by rw [renRows_map]; simp
    rw [e] at hc ⊢
    refine .sl _ rows' b o c cell hc hb (fun r hr => ?_) (fun k' hk' => hc' k' (by rw [renRows_flat, List.length_map]; exact hk')) fun i x hx => ih i (x.ren ρ) (by rw [renRows_flat, List.getElem?_map, hx]; rfl) (rowsLt_mem hk x (List.mem_of_getElem? hx)) rfl
    have := hsz (r.map (AV.ren ρ)) (by rw [renRows_map]; exact List.mem_map.2 ⟨r, hr, rfl⟩)
    simpa using this
  | box cells off b o cell hb hc' _ ih =>
    cases x <;> simp [AV.ren] at hy
    rename_i cells' off'
    obtain ⟨hy, rfl⟩ := hy
    rw [renAll_map] at hy
    subst hy
    exact .box _ _ b o cell hb (fun k' hk' => hc' k' (by simpa using hk')) fun i x hx => ih i (x.ren ρ) (by rw [List.getElem?_map, hx]; rfl) (allLt_mem hk x (List.mem_of_getElem? hx)) rfl
  | loc l off b h =>
    cases x <;> simp [AV.ren] at hy
    obtain ⟨rfl, rfl⟩ := hy
    exact .loc _ _ b (hφ _ _ (blt_lt hk) h)
  | own l v h h1 =>
    cases x <;> simp [AV.ren] at hy
    subst hy
    exact .own _ v (hφ _ _ (blt_lt hk) h) h1
  | rloc l sz i f b n c h =>
    cases x <;> simp [AV.ren] at hy
    obtain ⟨rfl, rfl, rfl, rfl⟩ := hy
    exact .rloc _ _ _ _ b n c (hφ _ _ (blt_lt hk) h)
  | lsl l off n sz b c h hc =>
    cases x <;> simp [AV.ren] at hy
    obtain ⟨rfl, rfl, rfl, rfl⟩ := hy
    exact .lsl _ _ _ _ b c (hφ _ _ (blt_lt hk) h) hc
  | osl l off n sz b m c' c h hc hc' =>
    cases x <;> simp [AV.ren] at hy
    obtain ⟨rfl, rfl, rfl, rfl⟩ := hy
    exact .osl _ _ _ _ b m c' c (hφ _ _ (blt_lt hk) h) hc hc'

theorem Rep.any_of_free {w : World} {φ φ' : Nat → Option Value} {N N' : Nat → Prop} {x : AV} {v : Value} (h : Rep w φ N x v) (hf : x.free = true) (hN : ∀ b, N b → N' b) : Rep w φ' N' x v :=
  (h.free hf).mono (φ := fun _ => none) (fun _ _ _ _ h => h) (fun _ _ h => by cases h) hN

/-- What a label holds, by another name. -/
theorem Holds.conv {w : World} {φ φ' : Nat → Option Value} {N N' : Nat → Prop} {l l' : Nat} {B : LB} (h : Holds w φ N 0 l B) (hf : B.free = true) (hφ : φ' l' = φ l) (hb : ∀ v b, φ l = some v → vblock v = some b → ¬ N' b) (hN : ∀ b, N b → N' b) : Holds w φ' N' 0 l' B := by
  cases B with
  | box cells =>
    obtain ⟨b, ty, cs, hp, hg, hs, hr, h0, hn⟩ := h
    exact ⟨b, ty, cs, hφ.trans hp, hg, hs, fun i x hx => (hr i x hx).any_of_free (allFree_mem hf x (List.mem_of_getElem? hx)) hN, h0, hb _ b hp rfl⟩
  | row e sz rows =>
    obtain ⟨v, xs, hp, h1, ho, hs, hr, hn⟩ := h
    refine ⟨v, xs, hφ.trans hp, h1, ho, hs, fun i x hx => (hr i x hx).any_of_free (rowsFree_mem hf x (List.mem_of_getElem? hx)) hN, fun b hbv => hb v b hp ?_⟩
    rcases ho.2 with ⟨rfl, _⟩ | ⟨g, cap, cur, rfl, _⟩ <;> exact hbv

/-- Labels as a callee is given them. -/
def give (φ : Nat → Option Value) (ids : List Nat) (lab : Nat) : Nat → Option Value := fun i => if i < ids.length then φ (ids.getD i lab) else none

theorem getD_of {α : Type} {l : List α} {i : Nat} {x d : α} (h : l[i]? = some x) : l.getD i d = x := by rw [List.getD_eq_getElem?_getD, h]; rfl

theorem Rel.entry (R : Rel n w0 M N0 φ N U E L a w) {ids : List Nat} {Ls : List LB} {lab : Nat} (q1 : ids.length = Ls.length) (q2 : ids.Nodup) (q3 : ∀ (i id : Nat) (B : LB), ids[i]? = some id → Ls[i]? = some B → L id = some B) (q7 : ∀ B ∈ Ls, B.free = true) :
    (∀ l B, Ls[l]? = some B → Holds w (give φ ids lab) N 0 l B) ∧ Apart (give φ ids lab) Ls.length ∧ ∀ l, Ls.length ≤ l → give φ ids lab l = none := by
  have hid : ∀ i, i < Ls.length → ∃ id B, ids[i]? = some id ∧ Ls[i]? = some B ∧ L id = some B ∧ give φ ids lab i = φ id := by
    intro i hi
    have h1 : i < ids.length := by omega
    refine ⟨ids[i], Ls[i], List.getElem?_eq_getElem h1, List.getElem?_eq_getElem hi, q3 i _ _ (List.getElem?_eq_getElem h1) (List.getElem?_eq_getElem hi), ?_⟩
    unfold give
    rw [if_pos h1, getD_of (List.getElem?_eq_getElem h1)]
  refine ⟨fun l B hl => ?_, ?_, fun l hl => ?_⟩
  · obtain ⟨id, B', h1, h2, h3, h4⟩ := hid l (getElem?_lt hl)
    rw [hl] at h2
    obtain rfl := Option.some.inj h2
    obtain ⟨u, hu, _, hub⟩ := (R.lbl id B h3).place
    exact (R.lbl id B h3).conv (q7 B (List.mem_of_getElem? hl)) h4 (fun v b hv hb => by
      rw [hu] at hv
      obtain rfl := Option.some.inj hv
      exact (hub b hb).2.2) (fun _ h => h)
  · intro i j v v' b hne hi hj hv hv' hb hb'
    obtain ⟨id, B, h1, h2, h3, h4⟩ := hid i hi
    obtain ⟨id', B', h1', h2', h3', h4'⟩ := hid j hj
    rw [h4] at hv
    rw [h4'] at hv'
    refine R.disj id id' B B' v v' b (fun e => hne ?_) h3 h3' hv hv' hb hb'
    subst e
    have hi1 := getElem?_lt h1
    have hj1 := getElem?_lt h1'
    rw [List.getElem?_eq_getElem hi1] at h1
    rw [List.getElem?_eq_getElem hj1] at h1'
    have he := Option.some.inj (h1.trans h1'.symm)
    have hp := List.pairwise_iff_getElem.1 q2
    rcases Nat.lt_trichotomy i j with hlt | heq | hlt
    · exact absurd he (hp i j hi1 hj1 hlt)
    · exact heq
    · exact absurd he.symm (hp j i hj1 hi1 hlt)
  · unfold give
    rw [if_neg (by omega)]

theorem putF_not {ls : List (Nat × LB)} {m : Nat} : ∀ {L : Nat → Option LB}, (∀ p ∈ ls, p.1 ≠ m) → putF ls L m = L m := by
  induction ls with
  | nil => intro L _; rfl
  | cons p r ih =>
    intro L h
    obtain ⟨l, B⟩ := p
    rw [putF, ih (fun q hq => h q (by simp [hq]))]
    unfold fS
    rw [if_neg (fun e => h (l, B) (by simp) e.symm)]
theorem putF_zip {ids : List Nat} : ∀ {Ls : List LB} {L : Nat → Option LB} {i m : Nat} {B : LB}, ids.Nodup → ids[i]? = some m → Ls[i]? = some B → putF (ids.zip Ls) L m = some B := by
  induction ids with
  | nil => intro Ls L i m B _ h; simp at h
  | cons a r ih =>
    intro Ls L i m B hn h hB
    cases Ls with
    | nil => simp at hB
    | cons B0 Ls =>
      rw [List.zip_cons_cons, putF]
      rw [List.nodup_cons] at hn
      cases i with
      | zero =>
        simp at h hB
        subst h hB
        rw [putF_not (fun p hp => ?_)]
        · simp [fS]
        · intro e
          have := (List.of_mem_zip (show (p.1, p.2) ∈ r.zip Ls from hp)).1
          rw [e] at this
          exact hn.1 this
      | succ i => exact ih hn.2 (by simpa using h) (by simpa using hB)

/-- Behind a call that writes. -/
theorem Rel.eff (R : Rel n w0 M N0 φ N U E L a w) {ids : List Nat} {Ls Ls' : List LB} {lab : Nat} {nw : Option LB} {r : AV} {v : Value} {w' : World} {φ' : Nat → Option Value} {N' : Nat → Prop} (q1 : ids.length = Ls.length) (q2 : ids.Nodup) (q3 : ∀ (i id : Nat) (B : LB), ids[i]? = some id → Ls[i]? = some B → L id = some B) (hlen : Ls'.length = Ls.length)
    (q8 : ∀ B ∈ Ls', B.free = true) (q9 : ∀ B, nw = some B → B.free = true) (q10 : r.lt (ids.length + 1) = true) (hlab : ¬ U lab)
    (g1 : But (blocks (give φ ids lab) Ls.length) w w') (g2 : ∀ b, N' b → N b ∨ (w.heap.size ≤ b ∧ b < w'.heap.size)) (g3 : ∀ l, l < Ls.length → φ' l = give φ ids lab l) (g4 : ∀ l, Ls.length < l → φ' l = none)
    (g5 : ∀ l B, Ls'[l]? = some B → Holds w' φ' N' 0 l B) (g6 : ∀ B, nw = some B → Holds w' φ' N' 0 Ls.length B ∧ ∀ v b, φ' Ls.length = some v → vblock v = some b → w.heap.size ≤ b) (g7 : nw = none → φ' Ls.length = none) (g8 : Rep w' φ' N' r v) :
    Rel n w0 M N0 (fun l => if l = lab then φ' Ls.length else φ l) (fun b => N b ∨ N' b) (fun l => U l ∨ l = lab) E (fS (putF (ids.zip Ls') L) lab nw) a w' ∧ Rep w' (fun l => if l = lab then φ' Ls.length else φ l) (fun b => N b ∨ N' b) (r.ren fun i => ids.getD i lab) v := by
  have hf := R.fresh lab hlab
  have hid : ∀ i, i < Ls.length → ∃ id B, ids[i]? = some id ∧ Ls[i]? = some B ∧ L id = some B ∧ give φ ids lab i = φ id ∧ id ≠ lab := by
    intro i hi
    have h1 : i < ids.length := by omega
    have hL := q3 i _ _ (List.getElem?_eq_getElem h1) (List.getElem?_eq_getElem hi)
    refine ⟨ids[i], Ls[i], List.getElem?_eq_getElem h1, List.getElem?_eq_getElem hi, hL, ?_, fun e => ?_⟩
    · unfold give
      rw [if_pos h1, getD_of (List.getElem?_eq_getElem h1)]
    · obtain ⟨u, hu, _⟩ := (R.lbl _ _ hL).place
      rw [e, hf] at hu
      cases hu
  have hNb : ∀ b, N b → ¬ blocks (give φ ids lab) Ls.length b := by
    rintro b hb ⟨i, u, hi, hu, hub⟩
    obtain ⟨id, B, h1, h2, h3, h4, _⟩ := hid i hi
    rw [h4] at hu
    obtain ⟨u', hu', _, hub'⟩ := (R.lbl id B h3).place
    rw [hu] at hu'
    obtain rfl := Option.some.inj hu'
    exact (hub' b hub).2.2 hb
  have hmono : ∀ x u, Rep w φ N x u → Rep w' (fun l => if l = lab then φ' Ls.length else φ l) (fun b => N b ∨ N' b) x u := fun x u h => h.mono (fun b o u' hb hc => (World.cell?_of_block (w := w) (w' := w') (a := ⟨b, o, none⟩) (g1.block b (R.low b hb) (hNb b hb))).trans hc) (fun l u hu => by
      have : l ≠ lab := fun e => by rw [e, hf] at hu; cases hu
      show (if l = lab then _ else _) = _
      rw [if_neg this]
      exact hu) (fun b hb => .inl hb)
  -- what a label is, behind it
  have hcase : ∀ l B, fS (putF (ids.zip Ls') L) lab nw l = some B → (l = lab ∧ nw = some B) ∨ (l ≠ lab ∧ ∃ (i : Nat) (B0 : LB), i < Ls.length ∧ ids[i]? = some l ∧ Ls'[i]? = some B ∧ L l = some B0) ∨ (l ≠ lab ∧ (∀ i : Nat, ids[i]? ≠ some l) ∧ L l = some B) := by
    intro l B hl
    rcases fS_some hl with ⟨rfl, h⟩ | ⟨hne, h⟩
    · exact .inl ⟨rfl, h⟩
    · right
      by_cases hin : l ∈ ids
      · left
        obtain ⟨i, hi, rfl⟩ := List.getElem_of_mem hin
        have hi' : i < Ls'.length := by omega
        have hi2 : i < Ls.length := by omega
        rw [putF_zip q2 (List.getElem?_eq_getElem hi) (List.getElem?_eq_getElem hi')] at h
        obtain rfl := Option.some.inj h
        exact ⟨hne, i, Ls[i], hi2, List.getElem?_eq_getElem hi, List.getElem?_eq_getElem hi', q3 i _ _ (List.getElem?_eq_getElem hi) (List.getElem?_eq_getElem hi2)⟩
      · right
        refine ⟨hne, fun i hi => hin (List.mem_of_getElem? hi), ?_⟩
        rwa [putF_not (fun p hp e => hin (by have := (List.of_mem_zip (show (p.1, p.2) ∈ ids.zip Ls' from hp)).1; rwa [e] at this))] at h
  have hold : ∀ l B, l ≠ lab → fS (putF (ids.zip Ls') L) lab nw l = some B → ∃ B0, L l = some B0 := by
    intro l B hne hl
    rcases hcase l B hl with ⟨h, _⟩ | ⟨_, i, B0, _, _, _, h⟩ | ⟨_, _, h⟩
    · exact absurd h hne
    · exact ⟨B0, h⟩
    · exact ⟨B, h⟩
  have hφ : ∀ l, l ≠ lab → (if l = lab then φ' Ls.length else φ l) = φ l := fun l h => if_neg h
  refine ⟨⟨R.defers.keep g1.size (fun _ h => .inl h) (fun c hc => g1.block c (R.low c hc) (hNb c hc)), R.size, R.bel.trans g1 ?_, fun l u h => (hφ l (fun e => by have := R.ext l u h; rw [e, hf] at this; cases this)).trans (R.ext l u h), ?_, ?_, fun t x hx => hmono _ _ (R.env t x hx), fun l B hl => ?_, fun l B u b hl hu hb => ?_, ?_, fun l hl => ?_⟩, ?_⟩
  · rintro b ⟨i, u, hi, hu, hub⟩
    obtain ⟨id, B, h1, h2, h3, h4, _⟩ := hid i hi
    rw [h4] at hu
    exact R.mine id B u b h3 hu hub
  · rintro b (hb | hb)
    · exact Nat.lt_of_lt_of_le (R.low b hb) g1.size
    · rcases g2 b hb with h | h
      · exact Nat.lt_of_lt_of_le (R.low b h) g1.size
      · exact h.2
  · rintro b (hb | hb)
    · exact R.nb b hb
    · rcases g2 b hb with h | h
      · exact R.nb b h
      · exact .inr (Nat.le_trans R.base_le h.1)
  · rcases hcase l B hl with ⟨rfl, hB⟩ | ⟨hne, i, B0, hi, hil, hB, hL0⟩ | ⟨hne, hni, hL⟩
    · obtain ⟨g, gb⟩ := g6 B hB
      refine g.conv (q9 B hB) (if_pos rfl) (fun u b hu hb => ?_) (fun b hb => .inr hb)
      obtain ⟨u', hu', _, hub⟩ := g.place
      rw [hu] at hu'
      obtain rfl := Option.some.inj hu'
      have h1 := gb u b hu hb
      have h2 := (hub b hb).2.2
      rintro (h | h)
      · have := R.low b h; omega
      · exact h2 h
    · have g := g5 i B hB
      obtain ⟨id, B', e1, e2, e3, e4, _⟩ := hid i hi
      rw [hil] at e1
      obtain rfl := Option.some.inj e1
      have hφi : φ' i = φ l := (g3 i hi).trans e4
      refine g.conv (q8 B (List.mem_of_getElem? hB)) ((hφ l hne).trans hφi.symm) (fun u b hu hb => ?_) (fun b hb => .inr hb)
      obtain ⟨u', hu', _, hub⟩ := g.place
      rw [hu] at hu'
      obtain rfl := Option.some.inj hu'
      rw [hφi] at hu
      obtain ⟨u2, hu2, _, hub2⟩ := (R.lbl l B0 hL0).place
      rw [hu] at hu2
      obtain rfl := Option.some.inj hu2
      rintro (h | h)
      · exact (hub2 b hb).2.2 h
      · exact (hub b hb).2.2 h
    · refine (R.lbl l B hL).keep hmono (fun u b hu hb => ?_) (fun u hu => (hφ l hne).trans hu)
      obtain ⟨u', hu', _, hub⟩ := (R.lbl l B hL).place
      rw [hu] at hu'
      obtain rfl := Option.some.inj hu'
      refine ⟨g1.block b (hub b hb).2.1 ?_, ?_⟩
      · rintro ⟨i, u2, hi, hu2, hb2⟩
        obtain ⟨id, B', e1, e2, e3, e4, _⟩ := hid i hi
        rw [e4] at hu2
        exact R.disj l id B B' u u2 b (fun e => hni i (by rw [e]; exact e1)) hL e3 hu hu2 hb hb2
      · rintro (h | h)
        · exact (hub b hb).2.2 h
        · rcases g2 b h with h' | h'
          · exact (hub b hb).2.2 h'
          · have := (hub b hb).2.1; omega
  · by_cases he : l = lab
    · subst he
      rcases hcase l B hl with ⟨_, hB⟩ | ⟨hne, _⟩ | ⟨hne, _⟩
      · have hu : (if l = l then φ' Ls.length else φ l) = some u := hu
        rw [if_pos rfl] at hu
        exact .inr (Nat.le_trans R.base_le ((g6 B hB).2 u b hu hb))
      · exact absurd rfl hne
      · exact absurd rfl hne
    · have hu : (if l = lab then φ' Ls.length else φ l) = some u := hu
      rw [if_neg he] at hu
      obtain ⟨B0, hB0⟩ := hold l B he hl
      exact R.mine l B0 u b hB0 hu hb
  · intro l l' B B' u u' b hne hl hl' hu hu' hb hb'
    have key : ∀ l l' B B' u u', l ≠ l' → l = lab → fS (putF (ids.zip Ls') L) lab nw l = some B → fS (putF (ids.zip Ls') L) lab nw l' = some B' → (if l = lab then φ' Ls.length else φ l) = some u → (if l' = lab then φ' Ls.length else φ l') = some u' → vblock u = some b → vblock u' = some b → False := by
      intro l l' B B' u u' hne he hl hl' hu hu' hb hb'
      subst he
      rw [if_pos rfl] at hu
      have hne' : l' ≠ l := fun e => hne e.symm
      rw [if_neg hne'] at hu'
      obtain ⟨B0, hB0⟩ := hold l' B' hne' hl'
      obtain ⟨u2, hu2, _, hub⟩ := (R.lbl l' B0 hB0).place
      rw [hu'] at hu2
      obtain rfl := Option.some.inj hu2
      rcases hcase l B hl with ⟨_, hB⟩ | ⟨h, _⟩ | ⟨h, _⟩
      · have := (g6 B hB).2 u b hu hb
        have := (hub b hb').2.1
        omega
      · exact h rfl
      · exact h rfl
    by_cases h1 : l = lab
    · exact key l l' B B' u u' hne h1 hl hl' hu hu' hb hb'
    · by_cases h2 : l' = lab
      · exact key l' l B' B u' u (fun e => hne e.symm) h2 hl' hl hu' hu hb' hb
      · have hu : (if l = lab then φ' Ls.length else φ l) = some u := hu
        have hu' : (if l' = lab then φ' Ls.length else φ l') = some u' := hu'
        rw [if_neg h1] at hu
        rw [if_neg h2] at hu'
        obtain ⟨B0, hB0⟩ := hold l B h1 hl
        obtain ⟨B1, hB1⟩ := hold l' B' h2 hl'
        exact R.disj l l' B0 B1 u u' b hne hB0 hB1 hu hu' hb hb'
  · show (if l = lab then _ else _) = _
    rw [if_neg (fun e => hl (.inr e))]
    exact R.fresh l (fun h => hl (.inl h))
  · refine g8.ren (fun j u hj hu => ?_) (fun b hb => .inr hb) q10
    show (if ids.getD j lab = lab then _ else _) = _
    by_cases hjk : j < Ls.length
    · obtain ⟨id, B, e1, e2, e3, e4, e5⟩ := hid j hjk
      rw [getD_of e1, if_neg e5, ← e4, ← g3 j hjk]
      exact hu
    · have hj' : j = Ls.length := by omega
      subst hj'
      have : ids[Ls.length]? = none := List.getElem?_eq_none (by omega)
      rw [List.getD_eq_getElem?_getD, this]
      simpa using hu
end

section
variable {P : Program} {tt : TypeId → Option TI} (hT : TOk P tt) {n : Nat} {w0 : World} {M : Nat → Option Value} {N0 : NG} {φ : Nat → Option Value} {N : Nat → Prop} {U : Nat → Prop} {E : Nat → Option AV} {L : Nat → Option LB} {a : Act} {w : World}

/-- The labels that are in use. -/
def fU (U : Nat → Prop) (lab : Nat) : Res → (Nat → Prop)
  | .val _ => U
  | .put _ _ => U
  | .new _ _ => fun l => U l ∨ l = lab
  | .grow _ _ _ => fun l => U l ∨ l = lab
  | .eff _ _ _ => fun l => U l ∨ l = lab

/-- What is told of a state, for some places. -/
def Tel (n : Nat) (w0 : World) (M : Nat → Option Value) (N0 : NG) (U : Nat → Prop) (E : Nat → Option AV) (L : Nat → Option LB) (a : Act) (w : World) : Prop := ∃ φ N, Rel n w0 M N0 φ N U E L a w

include hT
theorem op_sound (R : Rel n w0 M N0 φ N U E L a w) {o : Oper} {r : Res} {lab : Nat} (hd : okDst n o.dst) (hlab : isNewR r = true → ¬ U lab) (h : (aop tt L (evE E) o.op).to P L lab r) {Q : Exit → Act → World → Prop} : o.wp P a w (Tel n w0 M N0 (fU U lab r) (fE E o.dst r.x) (fL L lab r)) Q := by
  obtain ⟨d, op, ty, po, af, g⟩ := o
  have hE := R.ev
  have hL := R.lbl
  unfold Oper.wp
  generalize hout : aop tt L (evE E) op = out at h
  cases out with
  | val p x =>
    obtain ⟨hp, rfl⟩ := h
    obtain ⟨v, h1, h2⟩ := run_val (d := d) (ty := ty) (po := po) (af := af) (g := g) hT hE hL hout hp
    rw [h1]
    exact ⟨φ, N, R.put hd h2⟩
  | new p B f =>
    obtain ⟨hp, rfl⟩ := h
    obtain ⟨v, o', h1, h2⟩ := run_new (d := d) (ty := ty) (po := po) (af := af) (g := g) hT hE R.low (Nat.zero_le _) hout hp
    rw [h1]
    obtain ⟨R', hr⟩ := R.made h2 (hlab rfl)
    exact ⟨_, N, R'.put hd hr⟩
  | put p l B =>
    obtain ⟨hp, rfl⟩ := h
    obtain ⟨w', b, v, h1, h2, h3, h4, h5, h6, h7, h8, B0, h9⟩ := run_put (d := d) (ty := ty) (po := po) (af := af) (g := g) hT hE hL R.low hout hp
    rw [h1]
    exact ⟨φ, N, (R.turn h9 h2 h3 (R.mine l B0 v b h9 h2 h3) h6 h7 h8).put hd (.any _)⟩
  | grow p l B =>
    obtain ⟨hp, rfl⟩ := h
    obtain ⟨v', w', row, h1, h2, h3, h4, h5, h6⟩ := run_grow (d := d) (ty := ty) (po := po) (af := af) (g := g) hT hE hL R.low (Nat.zero_le _) hout hp
    rw [h1]
    have h3' : ∀ b, row = some b → (PB M b ∨ w0.heap.size ≤ b) ∧ b < w.heap.size ∧ ¬ N b := fun b hb => ⟨by
      rcases h5 with ⟨_, e⟩ | ⟨l0, v0, _, ⟨B0, hB0⟩, e2, e3⟩
      · rw [e] at hb; cases hb
      · exact R.mine l0 B0 v0 b hB0 e2 (by rw [e3, hb]), (h3 b hb).2⟩
    obtain ⟨R', hr⟩ := R.grow h2 h3' h4 h5 h6 (hlab rfl)
    have e : fL L lab (.grow l B (.own lab)) = fS (fKill L l) lab (some B) := by cases l <;> rfl
    rw [e]
    exact ⟨_, N, R'.put hd hr⟩
  | call F args fr raw =>
    rcases h with h | ⟨ls, nw, x, ⟨ids, Ls, args', Ls', r', ⟨hF, hlen, hok⟩, q⟩, rfl⟩
    rotate_left
    · obtain ⟨vs, h1, h2, h3, h4, h5, h6⟩ := run_call (d := d) (ty := ty) (po := po) (af := af) (g := g) hT hE hL hout hF
      rw [h1]
      obtain ⟨q1, q2, q3, q4, q5, q6, q7, q8, q9, q10, rfl, rfl⟩ := q
      have hentry := R.entry q1 q2 q3 q7 (lab := lab)
      refine (hok w (give φ ids lab) N vs R.low (by rw [h5, q6, renAll_map]; simp) (fun i x hx => ?_) hentry.1 hentry.2.1 hentry.2.2).mono fun e w' he => ?_
      · have := h6 i (x.ren fun i => ids.getD i lab) (by rw [q6, renAll_map, List.getElem?_map, hx]; rfl)
        refine this.unren (fun j u hj hu => ?_) (allLt_mem q4 x (List.mem_of_getElem? hx))
        unfold give
        rw [if_pos hj]
        exact hu
      · obtain ⟨v, φ', N', rfl, g1, g2, g3, g4, g5, g6, g7, g8⟩ := he
        obtain ⟨R', hr⟩ := R.eff q1 q2 q3 hlen q8 q9 q10 (hlab rfl) g1 g2 g3 g4 g5 g6 g7 g8
        exact ⟨_, _, R'.put hd hr⟩
    obtain ⟨x, ⟨hF, hok⟩, hp, rfl⟩ := h
    obtain ⟨vs, h1, h2, h3, h4, _, _⟩ := run_call (d := d) (ty := ty) (po := po) (af := af) (g := g) hT hE hL hout hF
    rw [h1]
    by_cases hpure : x.pure = true
    · refine (hok w (NL N φ L) vs (fun b hb => ?_) h2 h3).mono fun e w' he => ?_
      · rcases hb with hb | ⟨l, v, B, hl, hv, hb⟩
        · exact R.low b hb
        · obtain ⟨u, hu, _, hub⟩ := (R.lbl l B hl).place
          rw [hv] at hu
          obtain rfl := Option.some.inj hu
          exact (hub b hb).2.1
      · obtain ⟨v, rfl, hb, hr⟩ := he
        exact ⟨φ, N, (R.below hb).put hd (hr.pure hpure)⟩
    · have hp : fr = true ∧ x.free = true := by
        rw [Bool.or_eq_true, Bool.and_eq_true] at hp
        exact hp.resolve_left hpure
      refine (hok w N vs R.low h2 (h4 hp.1)).mono fun e w' he => ?_
      obtain ⟨v, rfl, hb, hr⟩ := he
      exact ⟨φ, _, (R.belowN hb).put hd (hr.mono (fun _ _ _ _ h => h) (fun _ _ h => by cases h) (fun _ h => h))⟩
  | bad => exact h.elim
end
end Go.Proofs.YtnnjjblgilibgaaGreatV
/- What the evaluator says of the model: regions in their order. -/
namespace Go.Proofs.YtnnjjblgilibgaaGreatV
open Go Go.RowKit
set_option linter.unusedVariables false
set_option linter.unusedSimpArgs false

/-- Is an operation done? -/
def gd (all : Array Oper) (E : Nat → Option AV) (o : Oper) : Option Bool :=
  match o.guard with
  | none => some true
  | some (j, want) =>
    match (all[j]?).bind (·.dst) with
    | none => none
    | some t => match E t with
      | some (.raw (.bool b)) => some (b == want)
      | some (.raw (.tuple _)) => some false
      | _ => none

def clashFree (ev : Operand → AV) (cr : List Operand) : Res → Prop
  | .put l _ => noClash ev l cr
  | .eff _ _ _ => marked cr = true
  | .grow l _ _ => growOk l cr = true
  | _ => True
def nxt (nx : Nat) : Res → Nat
  | .new _ _ => nx + 1
  | .grow _ _ _ => nx + 1
  | .eff _ _ _ => nx + 1
  | _ => nx

section
variable (P : Program) (tt : TypeId → Option TI)
/-- What each operation comes to, in their order. -/
inductive Trace (all : Array Oper) : List Oper → List (List Operand) → (Nat → Option AV) → (Nat → Option LB) → Nat → List (Nat × Res) → Prop
  | nil {cr E L nx} : Trace all [] cr E L nx []
  | skip {o os cr E L nx rs} (hg : gd all E o = some false) (h : Trace all os cr.tail (fE E o.dst (.raw undef)) L nx rs) : Trace all (o :: os) cr E L nx ((nx, .val (.raw undef)) :: rs)
  | exec {o os cr E L nx rs r} (hg : gd all E o = some true) (hr : (aop tt L (evE E) o.op).to P L nx r) (hc : clashFree (evE E) (cr.headD []) r) (h : Trace all os cr.tail (fE E o.dst r.x) (fL L nx r) (nxt nx r) rs) : Trace all (o :: os) cr E L nx ((nx, r) :: rs)
end

def finE : List Oper → List (Nat × Res) → (Nat → Option AV) → (Nat → Option AV)
  | o :: os, (_, r) :: rs, E => finE os rs (fE E o.dst r.x)
  | _, _, E => E
def finL : List (Nat × Res) → (Nat → Option LB) → (Nat → Option LB)
  | (lab, r) :: rs, L => finL rs (fL L lab r)
  | [], L => L
def finN : List (Nat × Res) → Nat → Nat
  | (lab, r) :: rs, nx => finN rs (nxt nx r)
  | [], nx => nx
def finU : List (Nat × Res) → (Nat → Prop) → (Nat → Prop)
  | (lab, r) :: rs, U => finU rs (fU U lab r)
  | [], U => U

def St.E (s : St) : Nat → Option AV := fun t => look t s.env

theorem evE_St (s : St) : evE s.E = s.ev := by
  funext x
  cases x <;> rfl
theorem look_if {α : Type} (t u : Nat) (x : α) (r : List (Nat × α)) : look t ((u, x) :: r) = if t = u then some x else look t r := by
  by_cases h : t = u
  · subst h
    rw [if_pos rfl]
    show (if Nat.beq t t then _ else _) = _
    rw [Nat.beq_refl]
    rfl
  · rw [if_neg h]
    show (if Nat.beq t u then _ else _) = _
    have hb : Nat.beq t u = false := by
      cases hb : Nat.beq t u with
      | false => rfl
      | true => exact absurd (Nat.eq_of_beq_eq_true hb) h
    rw [hb]
    rfl
theorem E_put (s : St) (d : Option Tmp) (x : AV) : (s.put d x).E = fE s.E d x := by
  funext t
  cases d with
  | none => simp [St.put, fE]
  | some u =>
    show look t ((u, x) :: s.env) = _
    rw [look_if]
    unfold fE
    by_cases h : t = u
    · subst h; simp
    · rw [if_neg h, if_neg (fun e => h (Option.some.inj e).symm)]
      rfl
theorem lb_put (s : St) (d : Option Tmp) (x : AV) : (s.put d x).lb = s.lb := by
  cases d <;> rfl
theorem next_put (s : St) (d : Option Tmp) (x : AV) : (s.put d x).next = s.next := by
  cases d <;> rfl
theorem E_know {s : St} {t : Nat} {x : AV} (h : look t s.env = some x) : St.E { s with env := (t, x) :: s.env } = s.E := by
  funext u
  show look u ((t, x) :: s.env) = look u s.env
  rw [look_if]
  split
  · rename_i e
    rw [e]
    exact h.symm
  · rfl
theorem lb_cons (env : List (Nat × AV)) (lbl : List (Nat × Option LB)) (nx l : Nat) (o : Option LB) : St.lb ⟨env, (l, o) :: lbl, nx⟩ = fS (St.lb ⟨env, lbl, nx⟩) l o := by
  funext k
  show (look k ((l, o) :: lbl)).getD none = _
  rw [look_if]
  unfold fS
  split
  · rfl
  · rfl

theorem lb_putAll (env : List (Nat × AV)) (nx nx' : Nat) : ∀ (ls : List (Nat × LB)) (lbl : List (Nat × Option LB)), St.lb ⟨env, putAll ls lbl, nx⟩ = putF ls (St.lb ⟨env, lbl, nx'⟩)
  | [], lbl => rfl
  | (l, B) :: r, lbl => by
    rw [putAll, lb_putAll env nx nx' r, lb_cons]
    rfl

section
variable {P : Program} {tt : TypeId → Option TI}

theorem k_trace {all : Array Oper} {o : Oper} {os : List Oper} {cr : List (List Operand)} {K : St → Prop} {s : St} (hg : gd all s.E o = some true)
    (h : (aop tt s.lb s.ev o.op).k P (cr.headD []) s o.dst fun s' => ∃ rs sf, Trace P tt all os cr.tail s'.E s'.lb s'.next rs ∧ sf.E = finE os rs s'.E ∧ sf.lb = finL rs s'.lb ∧ sf.next = finN rs s'.next ∧ K sf) :
    ∃ rs sf, Trace P tt all (o :: os) cr s.E s.lb s.next rs ∧ sf.E = finE (o :: os) rs s.E ∧ sf.lb = finL rs s.lb ∧ sf.next = finN rs s.next ∧ K sf := by
  generalize hout : aop tt s.lb s.ev o.op = out at h
  have go : ∀ (r : Res) (s' : St), out.to P s.lb s.next r → clashFree (evE s.E) (cr.headD []) r → s'.E = fE s.E o.dst r.x → s'.lb = fL s.lb s.next r → s'.next = nxt s.next r → (∃ rs sf, Trace P tt all os cr.tail s'.E s'.lb s'.next rs ∧ sf.E = finE os rs s'.E ∧ sf.lb = finL rs s'.lb ∧ sf.next = finN rs s'.next ∧ K sf) →
      ∃ rs sf, Trace P tt all (o :: os) cr s.E s.lb s.next rs ∧ sf.E = finE (o :: os) rs s.E ∧ sf.lb = finL rs s.lb ∧ sf.next = finN rs s.next ∧ K sf := by
    intro r s' hto hcf e1 e2 e3 ⟨rs, sf, ht, g1, g2, g3, hK⟩
    rw [e1, e2, e3] at ht
    rw [e1] at g1
    rw [e2] at g2
    rw [e3] at g3
    refine ⟨(s.next, r) :: rs, sf, .exec hg ?_ hcf ht, g1, g2, g3, hK⟩
    rw [evE_St, hout]
    exact hto
  cases out with
  | val p x => exact go (.val x) (s.put o.dst x) ⟨h.1, rfl⟩ trivial (E_put _ _ _) (lb_put _ _ _) (next_put _ _ _) h.2
  | new p B f => exact go (.new B (f s.next)) (St.put ⟨s.env, (s.next, some B) :: s.lbl, s.next + 1⟩ o.dst (f s.next)) ⟨h.1, rfl⟩ trivial (E_put _ _ _) (by rw [lb_put, lb_cons]; rfl) (next_put _ _ _) h.2
  | put p l B => exact go (.put l B) (St.put ⟨s.env, (l, some B) :: s.lbl, s.next⟩ o.dst .any) ⟨h.1, rfl⟩ (by rw [evE_St]; exact h.2.1) (E_put _ _ _) (by rw [lb_put, lb_cons]; rfl) (next_put _ _ _) h.2.2
  | grow p l B =>
    exact go (.grow l B (.own s.next)) (St.put ⟨s.env, (s.next, some B) :: kill l s.lbl, s.next + 1⟩ o.dst (.own s.next)) ⟨h.1, rfl⟩ h.2.1 (E_put _ _ _) (by
      rw [lb_put, lb_cons]
      cases l with
      | none => rfl
      | some l =>
        show fS (St.lb ⟨s.env, (l, none) :: s.lbl, s.next + 1⟩) s.next (some B) = _
        rw [lb_cons]
        rfl) (next_put _ _ _) h.2.2
  | call F args fr raw =>
    rcases h with ⟨x, h1, h2, h3⟩ | ⟨ls, nw, x, h1, h2, h3⟩
    · exact go (.val x) (s.put o.dst x) (.inl ⟨x, h1, h2, rfl⟩) trivial (E_put _ _ _) (lb_put _ _ _) (next_put _ _ _) h3
    · exact go (.eff ls nw x) (St.put ⟨s.env, (s.next, nw) :: putAll ls s.lbl, s.next + 1⟩ o.dst x) (.inr ⟨ls, nw, x, h1, rfl⟩) h2 (E_put _ _ _) (by rw [lb_put, lb_cons, lb_putAll]; rfl) (next_put _ _ _) h3
  | bad => exact h.elim

theorem Out.k_mono {o : Out} {cr : List Operand} {s : St} {d : Option Tmp} {K K' : St → Prop} (hk : ∀ s, K s → K' s) (h : o.k P cr s d K) : o.k P cr s d K' := by
  cases o with
  | val p x => exact ⟨h.1, hk _ h.2⟩
  | new p B f => exact ⟨h.1, hk _ h.2⟩
  | put p l B => exact ⟨h.1, h.2.1, hk _ h.2.2⟩
  | grow p l B => exact ⟨h.1, h.2.1, hk _ h.2.2⟩
  | call F args fr raw =>
    rcases h with ⟨x, h1, h2, h3⟩ | ⟨ls, nw, x, h1, h2, h3⟩
    · exact .inl ⟨x, h1, h2, hk _ h3⟩
    · exact .inr ⟨ls, nw, x, h1, h2, hk _ h3⟩
  | bad => exact h

theorem evr_trace (all : Array Oper) {K : St → Prop} : ∀ (os : List Oper) (cr : List (List Operand)) (s : St), evr P tt all os cr s K → ∃ rs sf, Trace P tt all os cr s.E s.lb s.next rs ∧ sf.E = finE os rs s.E ∧ sf.lb = finL rs s.lb ∧ sf.next = finN rs s.next ∧ K sf
  | [], cr, s, h => ⟨[], s, .nil, rfl, rfl, rfl, h⟩
  | o :: os, cr, s, h => by
    unfold evr at h
    cases hg : o.guard with
    | none =>
      rw [hg] at h
      have hgd : gd all s.E o = some true := by unfold gd; rw [hg]
      exact k_trace hgd (Out.k_mono (fun s' h' => evr_trace all os cr.tail s' h') h)
    | some q =>
      obtain ⟨j, want⟩ := q
      rw [hg] at h
      simp only at h
      split at h
      · exact h.elim
      · rename_i t ht
        split at h
        · rename_i b hl
          have hgd : ∀ c, (b == want) = c → gd all s.E o = some c := by
            intro c hc
            have hl' : s.E t = some (.raw (.bool b)) := hl
            unfold gd
            rw [hg]
            simp only [ht, hl', hc]
          by_cases hb : b = want
          · subst hb
            have h1 := h.1 rfl
            have e := E_know hl
            have := k_trace (s := { s with env := (t, .raw (.bool b)) :: s.env }) (by rw [e]; exact hgd true (by simp)) (Out.k_mono (fun s' h' => evr_trace all os cr.tail s' h') h1)
            rw [e] at this
            exact this
          · have hb' : b = !want := by
              revert hb
              cases b <;> cases want <;> decide
            have h2 := h.2 hb'
            have e := E_know hl
            rw [← hb'] at h2
            obtain ⟨rs, sf, ht', g1, g2, g3, hK⟩ := evr_trace all os cr.tail _ h2
            rw [E_put, e, lb_put, next_put] at ht'
            rw [E_put, e] at g1
            rw [lb_put] at g2
            rw [next_put] at g3
            exact ⟨(s.next, .val (.raw undef)) :: rs, sf, .skip (hgd false (by rw [beq_eq_false_iff_ne]; exact hb)) ht', g1, g2, g3, hK⟩
        · rename_i z hl
          have hgd : gd all s.E o = some false := by
            have hl' : s.E t = some (.raw (.tuple z)) := hl
            unfold gd
            rw [hg]
            simp only [ht, hl']
          obtain ⟨rs, sf, ht', g1, g2, g3, hK⟩ := evr_trace all os cr.tail _ h
          rw [E_put, lb_put, next_put] at ht'
          rw [E_put] at g1
          rw [lb_put] at g2
          rw [next_put] at g3
          exact ⟨(s.next, .val (.raw undef)) :: rs, sf, .skip hgd ht', g1, g2, g3, hK⟩
        · exact h.elim
end

section
variable {P : Program} {tt : TypeId → Option TI} (hT : TOk P tt) {n : Nat} {w0 : World} {M : Nat → Option Value} {N0 : NG}

theorem wanted_of {φ : Nat → Option Value} {N U : Nat → Prop} {E : Nat → Option AV} {L : Nat → Option LB} {a : Act} {w : World} {all : Array Oper} {o : Oper} {c : Bool} (R : Rel n w0 M N0 φ N U E L a w) (hg : gd all E o = some c) : Region.wanted o (yielded all a.tmps) = c := by
  unfold gd at hg
  unfold Region.wanted
  cases hgu : o.guard with
  | none => rw [hgu] at hg; simpa using hg
  | some q =>
    obtain ⟨j, want⟩ := q
    rw [hgu] at hg
    simp only at hg
    split at hg
    · cases hg
    · rename_i t ht
      split at hg
      · rename_i b hl
        have hv := (R.env t _ hl).of_raw
        have hy : yielded all a.tmps j = some b := by
          unfold yielded
          rw [ht]
          rw [Array.getD_eq_getD_getElem?] at hv
          simp only [Option.bind_some]
          cases h : a.tmps[t]? with
          | none => rw [h] at hv; cases hv
          | some v => rw [h] at hv; simp only [Option.getD_some] at hv; rw [hv]
        simp only [hy]
        rw [← Option.some.inj hg]
        cases b <;> cases want <;> rfl
      · rename_i z hl
        have hv := (R.env t _ hl).of_raw
        have hy : yielded all a.tmps j = none := by
          unfold yielded
          rw [ht]
          rw [Array.getD_eq_getD_getElem?] at hv
          simp only [Option.bind_some]
          cases h : a.tmps[t]? with
          | none => rfl
          | some v => rw [h] at hv; simp only [Option.getD_some] at hv; rw [hv]
        simp only [hy]
        rw [← Option.some.inj hg]
        rfl
      · cases hg

theorem Tel.skip {U : Nat → Prop} {E : Nat → Option AV} {L : Nat → Option LB} {a : Act} {w : World} (R : Tel n w0 M N0 U E L a w) {d : Option Tmp} (hd : okDst n d) : Tel n w0 M N0 U (fE E d (.raw undef)) L (a.put d undef) w := by
  obtain ⟨φ, N, R⟩ := R
  exact ⟨φ, N, R.put hd (.raw undef)⟩

include hT
/-- The operations in their order. -/
theorem trace_seq (all : Array Oper) {Q : Exit → Act → World → Prop} : ∀ (os : List Oper) (k : Nat), all.toList.drop k = os → (∀ o ∈ os, okDst n o.dst) → ∀ (cr : List (List Operand)) (U : Nat → Prop) (E : Nat → Option AV) (L : Nat → Option LB) (nx : Nat) (rs : List (Nat × Res)), Trace P tt all os cr E L nx rs → (∀ l, nx ≤ l → ¬ U l) →
      (∀ a w, Tel n w0 M N0 (finU rs U) (finE os rs E) (finL rs L) a w → Q .normal a w) → ∀ (a : Act) (w : World), Tel n w0 M N0 U E L a w → wpOps P all Q (List.range' k os.length) a w
  | [], k, _, _, cr, U, E, L, nx, rs, ht, hU, hQ, a, w, h => by
    cases ht
    exact hQ a w h
  | o :: os, k, hk, hd, cr, U, E, L, nx, rs, ht, hU, hQ, a, w, h => by
    have ho : all[k]? = some o := by
      have : all.toList[k]? = some o := by
        have := congrArg (fun l => l[0]?) hk
        simpa using this
      simpa using this
    have hk' : all.toList.drop (k + 1) = os := by rw [← List.drop_drop, hk]; rfl
    have hd' : ∀ o ∈ os, okDst n o.dst := fun o ho => hd o (by simp [ho])
    have hdo := hd o (by simp)
    rw [List.length_cons, List.range'_succ, wpOps_cons]
    unfold wpOp
    rw [ho]
    simp only
    cases ht with
    | skip hg h' =>
      rename_i rs
      have hw := h
      obtain ⟨φ, N, R⟩ := h
      rw [wanted_of R hg]
      simp only [Bool.false_eq_true, if_false]
      exact trace_seq all os (k + 1) hk' hd' _ U _ _ _ rs h' hU hQ _ _ (hw.skip hdo)
    | exec hg hr hc h' =>
      rename_i rs r
      obtain ⟨φ, N, R⟩ := h
      rw [wanted_of R hg]
      simp only [if_true]
      refine .inl (Oper.wp_mono (fun a' w' hn => ?_) (op_sound hT R hdo (fun _ => hU nx (Nat.le_refl _)) hr))
      refine trace_seq all os (k + 1) hk' hd' _ _ _ _ _ rs h' ?_ hQ _ _ hn
      intro l hl hu
      cases r with
      | val x => exact hU l hl hu
      | put l' B => exact hU l hl hu
      | new B x =>
        have hl : nx + 1 ≤ l := hl
        rcases hu with hu | rfl
        · exact hU l (by omega) hu
        · omega
      | grow l' B x =>
        have hl : nx + 1 ≤ l := hl
        rcases hu with hu | rfl
        · exact hU l (by omega) hu
        · omega
      | eff l' B x =>
        have hl : nx + 1 ≤ l := hl
        rcases hu with hu | rfl
        · exact hU l (by omega) hu
        · omega
end
end Go.Proofs.YtnnjjblgilibgaaGreatV
/- What the evaluator says of the model: what an operation hangs on. -/
namespace Go.Proofs.YtnnjjblgilibgaaGreatV
open Go Go.RowKit
set_option linter.unusedVariables false
set_option linter.unusedSimpArgs false

/-- 1: reads a label; 2: writes one; 3: makes a row grow; 4: calls; 5: makes memory; 0: none of these. -/
def opClass : Op → Nat
  | .load _ _ => 1
  | .indexAddr _ _ _ => 1
  | .slice _ _ _ _ _ => 1
  | .store _ _ _ => 2
  | .call c => match c.callee with
    | .builtin .len => 1
    | .builtin .min => 0
    | .builtin .max => 0
    | .builtin _ => 3
    | _ => 4
  | .alloc _ => 5
  | .box _ _ => 5
  | .buildSlice _ _ _ => 5
  | .makeSlice _ _ _ => 5
  | _ => 0
/-- The address that a reader reads at. -/
def rdOp : Op → Option Operand
  | .load _ x => some x
  | .indexAddr _ x _ => some x
  | .slice _ x _ _ _ => some x
  | .call c => c.args[0]?
  | _ => none

section
variable {tt : TypeId → Option TI}

theorem aop_ev {lb : Nat → Option LB} {ev ev' : Operand → AV} {op : Op} (h : ∀ x ∈ op.operands.toList, ev x = ev' x) : aop tt lb ev op = aop tt lb ev' op := by
  have hm : ∀ (l : List Operand), (∀ x ∈ l, ev x = ev' x) → l.map ev = l.map ev' := fun l hl => List.map_congr_left hl
  cases op with
  | move x => simp only [aop, h x (by simp [Op.operands])]
  | assign x => simp only [aop, h x (by simp [Op.operands])]
  | pick c a b => simp only [aop, h c (by simp [Op.operands]), h a (by simp [Op.operands]), h b (by simp [Op.operands])]
  | alloc e => rfl
  | box e x => simp only [aop, h x (by simp [Op.operands])]
  | build t parts =>
    have e : (parts.toList.map fun (i, x) => (i, ev x)) = (parts.toList.map fun (i, x) => (i, ev' x)) := List.map_congr_left fun p hp => by
      obtain ⟨i, x⟩ := p
      simp only
      rw [h x (by simp [Op.operands]; exact ⟨i, by simpa using hp⟩)]
    simp only [aop]
    rw [e]
  | buildSlice t len parts =>
    have e : (parts.toList.map fun (i, x) => (i, ev x)) = (parts.toList.map fun (i, x) => (i, ev' x)) := List.map_congr_left fun p hp => by
      obtain ⟨i, x⟩ := p
      simp only
      rw [h x (by simp [Op.operands]; exact ⟨i, by simpa using hp⟩)]
    simp only [aop]
    rw [e]
  | load t x => simp only [aop, h x (by simp [Op.operands])]
  | store t a v => simp only [aop, h a (by simp [Op.operands]), h v (by simp [Op.operands])]
  | nilCheck x => simp only [aop, h x (by simp [Op.operands])]
  | binOp o t x y u => simp only [aop, h x (by simp [Op.operands]), h y (by simp [Op.operands])]
  | unOp o t x => simp only [aop, h x (by simp [Op.operands])]
  | convert s d x => simp only [aop, h x (by simp [Op.operands])]
  | makeFunc fn first caps =>
    have e := hm caps.toList (fun x hx => h x (by simp [Op.operands]; right; simpa using hx))
    cases fn <;> simp only [aop, e]
  | makeSlice t l c => simp only [aop, h l (by simp [Op.operands]), h c (by simp [Op.operands])]
  | slice t x lo hi mx =>
    have e0 : ∀ (o : Option Operand), (∀ x ∈ o.toArray.toList, ev x = ev' x) → o.map ev = o.map ev' := by
      intro o ho
      cases o with
      | none => rfl
      | some x => simp [ho x (by simp)]
    simp only [aop, h x (by simp [Op.operands]), e0 lo (fun y hy => h y (by simp [Op.operands] at hy ⊢; simp [hy])), e0 hi (fun y hy => h y (by simp [Op.operands] at hy ⊢; simp [hy])), e0 mx (fun y hy => h y (by simp [Op.operands] at hy ⊢; simp [hy]))]
  | fieldAddr t x f => simp only [aop, h x (by simp [Op.operands])]
  | field t x f => simp only [aop, h x (by simp [Op.operands])]
  | indexAddr t x i => simp only [aop, h x (by simp [Op.operands]), h i (by simp [Op.operands])]
  | index t x i => simp only [aop, h x (by simp [Op.operands]), h i (by simp [Op.operands])]
  | extract t i => simp only [aop, h t (by simp [Op.operands])]
  | call c =>
    obtain ⟨cal, args, ats⟩ := c
    have ha : ∀ x ∈ args.toList, ev x = ev' x := fun x hx => h x (by simp [Op.operands, Call.operands]; right; simpa using hx)
    have e1 := hm args.toList ha
    have e2 : args.toList.map (fun x => snap lb 6 (ev x)) = args.toList.map (fun x => snap lb 6 (ev' x)) := List.map_congr_left fun x hx => by rw [ha x hx]
    simp only [aop]
    split
    · split
      · rename_i x hx
        split
        · split
          · rw [ha x (by rw [hx]; simp)]
          · rfl
        · rfl
      · rfl
    · rw [e1]
    · rw [e1]
    · split
      · rename_i x y t t' hx _
        rw [ha x (by rw [hx]; simp), ha y (by rw [hx]; simp)]
      · rfl
    · rename_i f
      rw [h f (by simp [Op.operands, Call.operands]), e2, e1]
    · rename_i r m
      rw [h r (by simp [Op.operands, Call.operands]), e2, e1]
    · rfl
  | _ => rfl

/-- What an operation of these classes comes to does not hang on labels. -/
theorem aop_none {lb lb' : Nat → Option LB} {ev : Operand → AV} {op : Op} (h : opClass op = 0 ∨ opClass op = 5) : aop tt lb ev op = aop tt lb' ev op := by
  cases op with
  | call c =>
    obtain ⟨cal, args, ats⟩ := c
    cases cal with
    | builtin b => cases b <;> first | rfl | (simp [opClass] at h)
    | value f => simp [opClass] at h
    | invoke r m => simp [opClass] at h
  | makeFunc fn first caps => cases fn <;> rfl
  | load t x => simp [opClass] at h
  | indexAddr t x i => simp [opClass] at h
  | slice t x lo hi mx => simp [opClass] at h
  | store t x i => simp [opClass] at h
  | _ => rfl

/-- A reader hangs on the label that it reads. -/
theorem aop_reader {lb lb' : Nat → Option LB} {ev : Operand → AV} {op : Op} (h : opClass op = 1) (hl : ∀ x l, rdOp op = some x → rlab (ev x) = some l → lb l = lb' l) : aop tt lb ev op = aop tt lb' ev op := by
  cases op with
  | load t x =>
    have hx := hl x
    simp only [aop, aload]
    split
    · rfl
    · split
      · rfl
      · rename_i l off e
        rw [hx l rfl (by rw [e]; rfl)]
      · rename_i l sz r f e
        rw [hx l rfl (by rw [e]; rfl)]
      · rfl
  | indexAddr t x i =>
    have hx := hl x
    simp only [aop, aindexAddr]
    split
    · split
      · rfl
      · rfl
      · rfl
      · rename_i l e
        rw [hx l rfl (by rw [e]; rfl)]
      · rfl
      · rfl
    · rfl
  | slice t x lo hi mx =>
    have hx := hl x
    simp only [aop, aslice]
    split
    · rfl
    · rename_i l e
      rw [hx l rfl (by rw [e]; rfl)]
    · rfl
    · rfl
    · rfl
  | call c =>
    obtain ⟨cal, args, ats⟩ := c
    cases cal with
    | value f => simp [opClass] at h
    | invoke r m => simp [opClass] at h
    | builtin b =>
      cases b <;> try (simp [opClass] at h; done)
      simp only [aop]
      split
      · rename_i x hx
        split
        · split
          · have e0 : rdOp (.call ⟨.builtin .len, args, ats⟩) = some x := by
              have : args = #[x] := by simpa using congrArg List.toArray hx
              subst this
              rfl
            have hx' := hl x
            unfold alen
            split
            · rfl
            · rename_i l e
              rw [hx' l e0 (by rw [e]; rfl)]
            · rfl
            · rfl
            · rfl
            · rfl
          · rfl
        · rfl
      · rfl
  | _ => simp [opClass] at h

theorem snap_congr {w w' : World} {φ φ' : Nat → Option Value} {N N' : Nat → Prop} {base base' : Nat} {L L' : Nat → Option LB} (hL : ∀ l B, L l = some B → Holds w φ N base l B) (hL' : ∀ l B, L' l = some B → Holds w' φ' N' base' l B) (hl : ∀ l, φ l ≠ none → φ' l ≠ none → L l = L' l) :
    ∀ (fuel : Nat) (x : AV) (v v' : Value), Rep w φ N x v → Rep w' φ' N' x v' → snap L fuel x = snap L' fuel x
  | 0, x, v, v', _, _ => rfl
  | fuel + 1, x, v, v', h, h' => by
    cases x with
    | loc l off =>
      have e : L l = L' l := by
        cases h with
        | loc _ _ _ hφ => cases h' with
          | loc _ _ _ hφ' => exact hl l (by rw [hφ]; simp) (by rw [hφ']; simp)
      simp only [snap, ← e]
      split
      · rename_i cells hc
        congr 1
        obtain ⟨b, ty, cs, _, _, _, hr, _⟩ := hL _ _ hc
        obtain ⟨b', ty', cs', _, _, _, hr', _⟩ := hL' _ _ (e ▸ hc)
        refine List.map_congr_left fun y hy => ?_
        obtain ⟨i, hi, rfl⟩ := List.getElem_of_mem hy
        exact snap_congr hL hL' hl fuel _ _ _ (hr i _ (List.getElem?_eq_getElem hi)) (hr' i _ (List.getElem?_eq_getElem hi))
      · rfl
    | own l =>
      have e : L l = L' l := by
        cases h with
        | own _ _ hφ _ => cases h' with
          | own _ _ hφ' _ => exact hl l (by rw [hφ]; simp) (by rw [hφ']; simp)
      simp only [snap, e]
    | lsl l off n sz =>
      have e : L l = L' l := by
        cases h with
        | lsl _ _ _ _ _ _ hφ _ => cases h' with
          | lsl _ _ _ _ _ _ hφ' _ => exact hl l (by rw [hφ]; simp) (by rw [hφ']; simp)
      simp only [snap, e]
    | osl l off n sz =>
      have e : L l = L' l := by
        cases h with
        | osl _ _ _ _ _ _ _ _ hφ _ _ => cases h' with
          | osl _ _ _ _ _ _ _ _ hφ' _ _ => exact hl l (by rw [hφ]; simp) (by rw [hφ']; simp)
      simp only [snap, e]
    | agg l' =>
      simp only [snap]
      congr 1
      cases h with
      | agg _ vs hlen hr => cases h' with
        | agg _ vs' hlen' hr' =>
          refine List.map_congr_left fun y hy => ?_
          obtain ⟨i, hi, rfl⟩ := List.getElem_of_mem hy
          exact snap_congr hL hL' hl fuel _ _ _ (hr i _ (List.getElem?_eq_getElem hi)) (hr' i _ (List.getElem?_eq_getElem hi))
    | tup l' =>
      simp only [snap]
      congr 1
      cases h with
      | tup _ vs hlen hr => cases h' with
        | tup _ vs' hlen' hr' =>
          refine List.map_congr_left fun y hy => ?_
          obtain ⟨i, hi, rfl⟩ := List.getElem_of_mem hy
          exact snap_congr hL hL' hl fuel _ _ _ (hr i _ (List.getElem?_eq_getElem hi)) (hr' i _ (List.getElem?_eq_getElem hi))
    | fn f caps =>
      simp only [snap]
      congr 1
      cases h with
      | fn _ _ vs hlen hr => cases h' with
        | fn _ _ vs' hlen' hr' =>
          refine List.map_congr_left fun y hy => ?_
          obtain ⟨i, hi, rfl⟩ := List.getElem_of_mem hy
          exact snap_congr hL hL' hl fuel _ _ _ (hr i _ (List.getElem?_eq_getElem hi)) (hr' i _ (List.getElem?_eq_getElem hi))
    | _ => rfl

/-- What an operation comes to hangs on labels that both states know. -/
theorem aop_both {w w' : World} {φ φ' : Nat → Option Value} {N N' : Nat → Prop} {base base' : Nat} {L L' : Nat → Option LB} {ev : Operand → AV} {ρ ρ' : Operand → Value} (hE : ∀ x, Rep w φ N (ev x) (ρ x)) (hE' : ∀ x, Rep w' φ' N' (ev x) (ρ' x)) (hL : ∀ l B, L l = some B → Holds w φ N base l B) (hL' : ∀ l B, L' l = some B → Holds w' φ' N' base' l B) (hl : ∀ l, φ l ≠ none → φ' l ≠ none → L l = L' l) {op : Op} (hc : opClass op ≠ 1) : aop tt L ev op = aop tt L' ev op := by
  have hloc : ∀ x l off, ev x = .loc l off → L l = L' l := by
    intro x l off e
    have h1 := hE x
    have h2 := hE' x
    rw [e] at h1 h2
    obtain ⟨u, hu⟩ : ∃ u, ρ x = u := ⟨_, rfl⟩
    obtain ⟨u', hu'⟩ : ∃ u, ρ' x = u := ⟨_, rfl⟩
    rw [hu] at h1
    rw [hu'] at h2
    cases h1 with
    | loc _ _ _ hφ => cases h2 with
      | loc _ _ _ hφ' => exact hl l (by rw [hφ]; simp) (by rw [hφ']; simp)
  have hrloc : ∀ x l sz r f, ev x = .rloc l sz r f → L l = L' l := by
    intro x l sz r f e
    have h1 := hE x
    have h2 := hE' x
    rw [e] at h1 h2
    obtain ⟨u, hu⟩ : ∃ u, ρ x = u := ⟨_, rfl⟩
    obtain ⟨u', hu'⟩ : ∃ u, ρ' x = u := ⟨_, rfl⟩
    rw [hu] at h1
    rw [hu'] at h2
    cases h1 with
    | rloc _ _ _ _ _ _ _ hφ => cases h2 with
      | rloc _ _ _ _ _ _ _ hφ' => exact hl l (by rw [hφ]; simp) (by rw [hφ']; simp)
  have hown : ∀ x l, ev x = .own l → L l = L' l := by
    intro x l e
    have h1 := hE x
    have h2 := hE' x
    rw [e] at h1 h2
    obtain ⟨u, hu⟩ : ∃ u, ρ x = u := ⟨_, rfl⟩
    obtain ⟨u', hu'⟩ : ∃ u, ρ' x = u := ⟨_, rfl⟩
    rw [hu] at h1
    rw [hu'] at h2
    cases h1 with
    | own _ _ hφ _ => cases h2 with
      | own _ _ hφ' _ => exact hl l (by rw [hφ]; simp) (by rw [hφ']; simp)
  cases op with
  | store t a x =>
    simp only [aop, astore]
    split
    · rfl
    · split
      · rename_i l off e
        rw [hloc a l off e]
      · rename_i l sz r f e
        rw [hrloc a l sz r f e]
      · rfl
  | call c =>
    obtain ⟨cal, args, ats⟩ := c
    cases cal with
    | builtin b =>
      cases b <;> try (first | rfl | (simp [opClass] at hc; done))
      simp only [aop]
      split
      · rename_i x y t t' _ _
        split
        · unfold aappend
          split
          · rfl
          · have e1 : newsOf L (ev y) = newsOf L' (ev y) := by
              unfold newsOf
              split
              · rfl
              · rename_i l e
                rw [hown y l e]
              · rfl
            rw [e1]
            split
            · rfl
            · split
              · rfl
              · rfl
              · rename_i l e
                rw [hown x l e]
              · rfl
        · rfl
      · rfl
    | value f =>
      simp only [aop]
      split
      · rename_i F caps hf
        have e1 : args.toList.map (fun x => snap L 6 (ev x)) = args.toList.map (fun x => snap L' 6 (ev x)) := List.map_congr_left fun x _ => snap_congr hL hL' hl 6 _ _ _ (hE x) (hE' x)
        have e2 : caps.map (snap L 6) = caps.map (snap L' 6) := by
          have h1 := hE f
          have h2 := hE' f
          rw [hf] at h1 h2
          obtain ⟨u, hu⟩ : ∃ u, ρ f = u := ⟨_, rfl⟩
          obtain ⟨u', hu'⟩ : ∃ u, ρ' f = u := ⟨_, rfl⟩
          rw [hu] at h1
          rw [hu'] at h2
          cases h1 with
          | fn _ _ vs hlen hr => cases h2 with
            | fn _ _ vs' hlen' hr' =>
              refine List.map_congr_left fun y hy => ?_
              obtain ⟨i, hi, rfl⟩ := List.getElem_of_mem hy
              exact snap_congr hL hL' hl 6 _ _ _ (hr i _ (List.getElem?_eq_getElem hi)) (hr' i _ (List.getElem?_eq_getElem hi))
        rw [e1, e2]
      · rfl
    | invoke r m =>
      simp only [aop]
      split
      · rename_i t v hv
        have e1 : args.toList.map (fun x => snap L 6 (ev x)) = args.toList.map (fun x => snap L' 6 (ev x)) := List.map_congr_left fun x _ => snap_congr hL hL' hl 6 _ _ _ (hE x) (hE' x)
        have h1 := hE r
        have h2 := hE' r
        rw [hv] at h1 h2
        obtain ⟨u, hu⟩ : ∃ u, ρ r = u := ⟨_, rfl⟩
        obtain ⟨u', hu'⟩ : ∃ u, ρ' r = u := ⟨_, rfl⟩
        rw [hu] at h1
        rw [hu'] at h2
        cases h1 with
        | iface _ _ y hy => cases h2 with
          | iface _ _ y' hy' => rw [e1, snap_congr hL hL' hl 6 _ _ _ hy hy']
      · rfl
  | makeFunc fn first caps => cases fn <;> rfl
  | load t x => simp [opClass] at hc
  | indexAddr t x i => simp [opClass] at hc
  | slice t x lo hi mx => simp [opClass] at hc
  | _ => rfl

theorem aop_class {lb : Nat → Option LB} {ev : Operand → AV} {op : Op} : (aop tt lb ev op).kind = 0 ∨ ((aop tt lb ev op).kind = 1 ∧ opClass op = 5) ∨ ((aop tt lb ev op).kind = 2 ∧ opClass op = 2) ∨ ((aop tt lb ev op).kind = 3 ∧ opClass op = 3) ∨ ((aop tt lb ev op).kind = 4 ∧ opClass op = 4) := by
  rcases aop_kind (tt := tt) (lb := lb) (ev := ev) (op := op) with h | h
  · exact .inl h
  · cases op with
    | alloc e => exact .inr (.inl ⟨h, rfl⟩)
    | box e x => exact .inr (.inl ⟨h, rfl⟩)
    | buildSlice t l p => exact .inr (.inl ⟨h, rfl⟩)
    | makeSlice t l c => exact .inr (.inl ⟨h, rfl⟩)
    | store t a x => exact .inr (.inr (.inl ⟨h, rfl⟩))
    | call c =>
      obtain ⟨cal, args, ats⟩ := c
      cases cal with
      | builtin b =>
        cases b <;> first
          | exact .inr (.inr (.inr (.inl ⟨h, rfl⟩)))
          | (left; simp only [aop]; repeat' split
             all_goals first | exact k_len | rfl)
          | (left; exact k_minmax)
      | value f => exact .inr (.inr (.inr (.inr ⟨h, rfl⟩)))
      | invoke r m => exact .inr (.inr (.inr (.inr ⟨h, rfl⟩)))
    | _ => exact .inl (h.trans rfl)
end
end Go.Proofs.YtnnjjblgilibgaaGreatV
/- What the evaluator says of the model: regions in whatever order; what holds at each operation. -/
namespace Go.Proofs.YtnnjjblgilibgaaGreatV
open Go Go.RowKit
set_option linter.unusedVariables false
set_option linter.unusedSimpArgs false

/-- Slots and labels behind some of the operations. -/
def envL : List Oper → List (Nat × Res) → (Nat → Bool) → (Nat → Option AV) → (Nat → Option AV)
  | o :: os, (_, r) :: rs, l, E => envL os rs (fun i => l (i + 1)) (if l 0 = true then fE E o.dst r.x else E)
  | _, _, _, E => E
def lblL : List (Nat × Res) → (Nat → Bool) → (Nat → Option LB) → (Nat → Option LB)
  | (lab, r) :: rs, l, L => lblL rs (fun i => l (i + 1)) (if l 0 = true then fL L lab r else L)
  | [], _, L => L
def tgt (lab m : Nat) : Res → Prop
  | .val _ => False
  | .new _ _ => m = lab
  | .put l _ => m = l
  | .grow none _ _ => m = lab
  | .grow (some l) _ _ => m = lab ∨ m = l
  | .eff ls _ _ => m = lab ∨ ∃ p ∈ ls, p.1 = m
def usedL (rs : List (Nat × Res)) (l : Nat → Bool) (U : Nat → Prop) : Nat → Prop := fun m => U m ∨ ∃ i lab r, rs[i]? = some (lab, r) ∧ l i = true ∧ isNewR r = true ∧ m = lab

theorem envL_none : ∀ (os : List Oper) (rs : List (Nat × Res)) (l : Nat → Bool) (E : Nat → Option AV), (∀ i, l i = false) → envL os rs l E = E
  | [], rs, l, E, _ => by cases rs <;> rfl
  | o :: os, [], l, E, _ => rfl
  | o :: os, (lab, r) :: rs, l, E, h => by
    rw [envL, h 0]
    exact envL_none os rs _ E (fun i => h (i + 1))
theorem lblL_none : ∀ (rs : List (Nat × Res)) (l : Nat → Bool) (L : Nat → Option LB), (∀ i, l i = false) → lblL rs l L = L
  | [], l, L, _ => rfl
  | (lab, r) :: rs, l, L, h => by
    rw [lblL, h 0]
    exact lblL_none rs _ L (fun i => h (i + 1))
theorem envL_all : ∀ (os : List Oper) (rs : List (Nat × Res)) (l : Nat → Bool) (E : Nat → Option AV), (∀ i, i < os.length → l i = true) → envL os rs l E = finE os rs E
  | [], rs, l, E, _ => by cases rs <;> rfl
  | o :: os, [], l, E, _ => rfl
  | o :: os, (lab, r) :: rs, l, E, h => by
    rw [envL, h 0 (by simp)]
    exact envL_all os rs _ _ (fun i hi => h (i + 1) (by simpa using hi))
theorem lblL_all : ∀ (rs : List (Nat × Res)) (l : Nat → Bool) (L : Nat → Option LB), (∀ i, i < rs.length → l i = true) → lblL rs l L = finL rs L
  | [], l, L, _ => rfl
  | (lab, r) :: rs, l, L, h => by
    rw [lblL, h 0 (by simp)]
    exact lblL_all rs _ _ (fun i hi => h (i + 1) (by simpa using hi))
theorem usedL_fin : ∀ (rs : List (Nat × Res)) (l : Nat → Bool) (U : Nat → Prop) (m : Nat), usedL rs l U m → finU rs U m
  | [], l, U, m, h => by
    rcases h with h | ⟨i, lab, r, hr, _⟩
    · exact h
    · simp at hr
  | (lab, r) :: rs, l, U, m, h => by
    refine usedL_fin rs (fun i => l (i + 1)) (fU U lab r) m ?_
    rcases h with h | ⟨i, lab', r', hr, hl, hn, hm⟩
    · left
      cases r <;> first | exact h | exact .inl h
    · cases i with
      | zero =>
        simp at hr
        obtain ⟨rfl, rfl⟩ := hr
        left
        cases r with
        | val x => cases hn
        | put l B => cases hn
        | new B x => exact .inr hm
        | grow l B x => exact .inr hm
        | eff l B x => exact .inr hm
      | succ i => exact .inr ⟨i, lab', r', by simpa using hr, hl, hn, hm⟩

theorem envL_congr {t : Nat} : ∀ (os : List Oper) (rs : List (Nat × Res)) (l l' : Nat → Bool) (E E' : Nat → Option AV), (∀ i o, os[i]? = some o → o.dst = some t → l i = l' i) → E t = E' t → envL os rs l E t = envL os rs l' E' t
  | [], rs, l, l', E, E', _, h => by cases rs <;> exact h
  | o :: os, [], l, l', E, E', _, h => h
  | o :: os, (lab, r) :: rs, l, l', E, E', hl, h => by
    rw [envL, envL]
    refine envL_congr os rs _ _ _ _ (fun i p hp hd => hl (i + 1) p (by simpa using hp) hd) ?_
    by_cases hd : o.dst = some t
    · rw [hl 0 o (by simp) hd]
      split
      · simp [fE, hd]
      · exact h
    · have e : ∀ (E : Nat → Option AV), fE E o.dst r.x t = E t := fun E => by simp [fE, hd]
      split <;> split <;> simp [e, h]

theorem envL_hit {t : Nat} : ∀ (os : List Oper) (rs : List (Nat × Res)) (l : Nat → Bool) (E : Nat → Option AV) (j : Nat) (o : Oper) (lab : Nat) (r : Res), os[j]? = some o → o.dst = some t → rs[j]? = some (lab, r) → l j = true → (∀ i p, os[i]? = some p → p.dst = some t → i = j) → envL os rs l E t = some r.x
  | [], rs, l, E, j, o, lab, r, ho, _, _, _, _ => by simp at ho
  | p :: os, [], l, E, j, o, lab, r, _, _, hr, _, _ => by simp at hr
  | p :: os, (lab', r') :: rs, l, E, 0, o, lab, r, ho, hd, hr, hl, hu => by
    simp at ho hr
    subst ho
    obtain ⟨rfl, rfl⟩ := hr
    rw [envL, hl]
    have : envL os rs (fun i => l (i + 1)) (if true = true then fE E p.dst r'.x else E) t = envL os rs (fun _ => false) (fE E p.dst r'.x) t := envL_congr os rs _ _ _ _ (fun i q hq hqd => absurd (hu (i + 1) q (by simpa using hq) hqd) (by omega)) rfl
    rw [this, envL_none _ _ _ _ (fun _ => rfl)]
    simp [fE, hd]
  | p :: os, (lab', r') :: rs, l, E, j + 1, o, lab, r, ho, hd, hr, hl, hu => by
    rw [envL]
    exact envL_hit os rs _ _ j o lab r (by simpa using ho) hd (by simpa using hr) hl (fun i q hq hqd => by have := hu (i + 1) q (by simpa using hq) hqd; omega)

theorem putF_in {ls : List (Nat × LB)} {m : Nat} : ∀ {L L' : Nat → Option LB}, (∃ p ∈ ls, p.1 = m) → putF ls L m = putF ls L' m := by
  induction ls with
  | nil => rintro L L' ⟨p, hp, _⟩; cases hp
  | cons q r ih =>
    intro L L' h
    obtain ⟨l, B⟩ := q
    rw [putF, putF]
    by_cases hin : ∃ p ∈ r, p.1 = m
    · exact ih hin
    · have hno : ∀ p ∈ r, p.1 ≠ m := fun p hp e => hin ⟨p, hp, e⟩
      rw [putF_not hno, putF_not hno]
      obtain ⟨p, hp, e⟩ := h
      rcases List.mem_cons.1 hp with rfl | hp
      · simp only at e
        subst e
        simp [fS]
      · exact absurd e (hno p hp)
theorem fL_not {L : Nat → Option LB} {lab m : Nat} {r : Res} (h : ¬ tgt lab m r) : fL L lab r m = L m := by
  cases r with
  | val x => rfl
  | new B x => exact if_neg h
  | put l B => exact if_neg h
  | grow l B x =>
    cases l with
    | none => exact if_neg h
    | some l =>
      have h' : ¬ (m = lab ∨ m = l) := h
      show fS (fS L l none) lab (some B) m = _
      unfold fS
      rw [if_neg (fun e => h' (.inl e)), if_neg (fun e => h' (.inr e))]
  | eff ls nw x =>
    have h' : ¬ (m = lab ∨ ∃ p ∈ ls, p.1 = m) := h
    show fS (putF ls L) lab nw m = _
    unfold fS
    rw [if_neg (fun e => h' (.inl e)), putF_not (fun p hp e => h' (.inr ⟨p, hp, e⟩))]
theorem fL_tgt {L L' : Nat → Option LB} {lab m : Nat} {r : Res} (h : tgt lab m r) : fL L lab r m = fL L' lab r m := by
  cases r with
  | val x => exact h.elim
  | new B x =>
    have h : m = lab := h
    subst h
    simp [fL, fS]
  | put l B =>
    have h : m = l := h
    subst h
    simp [fL, fS]
  | grow l B x =>
    cases l with
    | none =>
      have h : m = lab := h
      subst h
      simp [fL, fS]
    | some l =>
      show fS (fS L l none) lab (some B) m = fS (fS L' l none) lab (some B) m
      unfold fS
      split
      · rfl
      · rename_i hne
        rcases h with h | h
        · exact absurd h hne
        · rw [if_pos h, if_pos h]
  | eff ls nw x =>
    show fS (putF ls L) lab nw m = fS (putF ls L') lab nw m
    unfold fS
    split
    · rfl
    · rename_i hne
      rcases h with h | h
      · exact absurd h hne
      · exact putF_in h

theorem lblL_congr {m : Nat} : ∀ (rs : List (Nat × Res)) (l l' : Nat → Bool) (L L' : Nat → Option LB), (∀ i lab r, rs[i]? = some (lab, r) → tgt lab m r → l i = l' i) → L m = L' m → lblL rs l L m = lblL rs l' L' m
  | [], l, l', L, L', _, h => h
  | (lab, r) :: rs, l, l', L, L', hl, h => by
    rw [lblL, lblL]
    refine lblL_congr rs _ _ _ _ (fun i lab' r' hr ht => hl (i + 1) lab' r' (by simpa using hr) ht) ?_
    by_cases ht : tgt lab m r
    · rw [hl 0 lab r (by simp) ht]
      split
      · exact fL_tgt ht
      · exact h
    · have e : ∀ (L : Nat → Option LB), fL L lab r m = L m := fun L => fL_not ht
      split <;> split <;> simp [e, h]

theorem lblL_hit {m : Nat} : ∀ (rs : List (Nat × Res)) (l : Nat → Bool) (L X : Nat → Option LB) (j lab : Nat) (r : Res), rs[j]? = some (lab, r) → tgt lab m r → l j = true → (∀ i lab' r', rs[i]? = some (lab', r') → j < i → l i = true → ¬ tgt lab' m r') → lblL rs l L m = fL X lab r m
  | [], l, L, X, j, lab, r, hr, _, _, _ => by simp at hr
  | (lab', r') :: rs, l, L, X, 0, lab, r, hr, ht, hl, hu => by
    simp at hr
    obtain ⟨rfl, rfl⟩ := hr
    rw [lblL, hl]
    have : lblL rs (fun i => l (i + 1)) (if true = true then fL L lab' r' else L) m = lblL rs (fun _ => false) (fL L lab' r') m := lblL_congr rs _ _ _ _ (fun i lab2 r2 hr2 ht2 => by
      cases hli : l (i + 1) with
      | false => rfl
      | true => exact absurd ht2 (hu (i + 1) lab2 r2 (by simpa using hr2) (by omega) hli)) rfl
    rw [this, lblL_none _ _ _ (fun _ => rfl)]
    exact fL_tgt ht
  | (lab', r') :: rs, l, L, X, j + 1, lab, r, hr, ht, hl, hu => by
    rw [lblL]
    exact lblL_hit rs _ _ X j lab r (by simpa using hr) ht hl (fun i lab2 r2 hr2 hi => hu (i + 1) lab2 r2 (by simpa using hr2) (by omega))

theorem wp_some {P : Program} {o : Oper} {a : Act} {w : World} {next : Act → World → Prop} (h : o.wp P a w next (fun _ _ _ => False)) : ∃ a' w', next a' w' := by
  unfold Oper.wp at h
  generalize (execOp a.eval o).run P w = r at h
  cases r with
  | ok x w' =>
    cases x with
    | value v => exact ⟨_, _, h⟩
    | skip => exact ⟨_, _, h⟩
    | defer d => exact ⟨_, _, h⟩
    | enter f args =>
      obtain ⟨e, w'', fr, hR, _⟩ := h []
      cases e with
      | returned v => exact ⟨_, _, hR⟩
      | panicked c => exact hR.elim
      | outgrown =>
        obtain ⟨_, _, hf⟩ := hR
        exact hf.elim
    | row row args =>
      obtain ⟨v, w'', hR, _⟩ := h default []
      exact ⟨_, _, hR⟩
    | _ => exact h.elim
  | halt x w' => cases x <;> exact h.elim

section
variable {P : Program} {tt : TypeId → Option TI} (hT : TOk P tt) {n : Nat} {w0 : World} {M : Nat → Option Value} {N0 : NG}

theorem Trace.labs {all : Array Oper} {os : List Oper} {cr : List (List Operand)} {E : Nat → Option AV} {L : Nat → Option LB} {nx : Nat} {rs : List (Nat × Res)} (h : Trace P tt all os cr E L nx rs) :
    rs.length = os.length ∧ (∀ (i lab : Nat) (r : Res), rs[i]? = some (lab, r) → nx ≤ lab) ∧ (∀ (i j li : Nat) (ri : Res) (lj : Nat) (rj : Res), i < j → rs[i]? = some (li, ri) → rs[j]? = some (lj, rj) → isNewR ri = true → li < lj) := by
  induction h with
  | nil => exact ⟨rfl, by simp, by simp⟩
  | skip hg _ ih =>
    obtain ⟨h1, h2, h3⟩ := ih
    refine ⟨by simp [h1], fun i lab r hr => ?_, fun i j li ri lj rj hij hi hj hn => ?_⟩
    · cases i with
      | zero => simp at hr; omega
      | succ i => exact h2 i lab r (by simpa using hr)
    · cases j with
      | zero => omega
      | succ j =>
        cases i with
        | zero =>
          simp at hi
          obtain ⟨rfl, rfl⟩ := hi
          cases hn
        | succ i => exact h3 i j li ri lj rj (by omega) (by simpa using hi) (by simpa using hj) hn
  | exec hg hr hc _ ih =>
    rename_i nx rs r _
    obtain ⟨h1, h2, h3⟩ := ih
    have hnx : nx ≤ nxt nx r := by cases r <;> simp [nxt]
    refine ⟨by simp [h1], fun i lab r' hr => ?_, fun i j li ri lj rj hij hi hj hn => ?_⟩
    · cases i with
      | zero => simp at hr; omega
      | succ i =>
        have := h2 i lab r' (by simpa using hr)
        omega
    · cases j with
      | zero => omega
      | succ j =>
        cases i with
        | zero =>
          simp at hi
          obtain ⟨rfl, rfl⟩ := hi
          have := h2 j lj rj (by simpa using hj)
          cases r <;> first | (cases hn; done) | (simp [nxt] at this; omega)
        | succ i => exact h3 i j li ri lj rj (by omega) (by simpa using hi) (by simpa using hj) hn

/-- What holds at an operation, in their order. -/
def Fact (P : Program) (tt : TypeId → Option TI) (n : Nat) (w0 : World) (M : Nat → Option Value) (N0 : NG) (all : Array Oper) (cr : List Operand) (E : Nat → Option AV) (L : Nat → Option LB) (o : Oper) (lab : Nat) (r : Res) (later : Nat → Prop) : Prop :=
  ((gd all E o = some false ∧ r = .val (.raw undef)) ∨ (gd all E o = some true ∧ (aop tt L (evE E) o.op).to P L lab r ∧ clashFree (evE E) cr r)) ∧ ∃ U a w, Tel n w0 M N0 U E L a w ∧ ∀ l, later l → ¬ U l

include hT
theorem trace_at {all : Array Oper} : ∀ {os : List Oper} {cr : List (List Operand)} {E : Nat → Option AV} {L : Nat → Option LB} {nx : Nat} {rs : List (Nat × Res)}, Trace P tt all os cr E L nx rs → (∀ o ∈ os, okDst n o.dst) → ∀ (U : Nat → Prop) (a : Act) (w : World), Tel n w0 M N0 U E L a w → (∀ l, nx ≤ l → ¬ U l) →
    ∀ j o, os[j]? = some o → ∃ lab r, rs[j]? = some (lab, r) ∧ Fact P tt n w0 M N0 all (cr.getD j []) (envL os rs (fun i => decide (i < j)) E) (lblL rs (fun i => decide (i < j)) L) o lab r (fun l => ∃ i lab' r', j ≤ i ∧ rs[i]? = some (lab', r') ∧ l = lab')
  | _, _, _, _, _, _, .nil, _, _, _, _, _, _, j, o, ho => by simp at ho
  | _, _, _, _, _, _, .skip (o := o) (os := os) (cr := cr) (E := E) (L := L) (nx := nx) (rs := rs) hg h', hd, U, a, w, ht, hU, j, p, hp => by
    have hlab := (Trace.skip hg h').labs
    cases j with
    | zero =>
      simp at hp
      subst hp
      refine ⟨nx, .val (.raw undef), rfl, ?_⟩
      rw [envL_none _ _ _ _ (fun i => by simp), lblL_none _ _ _ (fun i => by simp)]
      exact ⟨.inl ⟨hg, rfl⟩, U, a, w, ht, fun l ⟨i, lab', r', _, hr, e⟩ => by rw [e]; exact hU _ (hlab.2.1 i lab' r' hr)⟩
    | succ j =>
      obtain ⟨lab, r, hr, hf⟩ := trace_at h' (fun o ho => hd o (by simp [ho])) U _ _ (ht.skip (d := o.dst) (hd o (by simp))) hU j p (by simpa using hp)
      refine ⟨lab, r, by simpa using hr, ?_⟩
      have e1 : envL (o :: os) ((nx, .val (.raw undef)) :: rs) (fun i => decide (i < j + 1)) E = envL os rs (fun i => decide (i < j)) (fE E o.dst (.raw undef)) := by
        rw [envL]
        simp [Res.x]
      have e2 : lblL ((nx, .val (.raw undef)) :: rs) (fun i => decide (i < j + 1)) L = lblL rs (fun i => decide (i < j)) L := by
        rw [lblL]
        simp [fL]
      rw [e1, e2]
      have e3 : cr.getD (j + 1) [] = cr.tail.getD j [] := by cases cr <;> simp
      rw [e3]
      obtain ⟨hA, U', a', w', ht', hl'⟩ := hf
      exact ⟨hA, U', a', w', ht', fun l ⟨i, lab', r', hi, hr', e⟩ => by
        cases i with
        | zero => omega
        | succ i => exact hl' l ⟨i, lab', r', by omega, by simpa using hr', e⟩⟩
  | _, _, _, _, _, _, .exec (o := o) (os := os) (cr := cr) (E := E) (L := L) (nx := nx) (rs := rs) (r := r0) hg hr0 hc h', hd, U, a, w, ht, hU, j, p, hp => by
    have hlab := (Trace.exec hg hr0 hc h').labs
    cases j with
    | zero =>
      simp at hp
      subst hp
      refine ⟨nx, r0, rfl, ?_⟩
      rw [envL_none _ _ _ _ (fun i => by simp), lblL_none _ _ _ (fun i => by simp)]
      have e3 : cr.getD 0 [] = cr.headD [] := by cases cr <;> rfl
      rw [e3]
      exact ⟨.inr ⟨hg, hr0, hc⟩, U, a, w, ht, fun l ⟨i, lab', r', _, hr, e⟩ => by rw [e]; exact hU _ (hlab.2.1 i lab' r' hr)⟩
    | succ j =>
      obtain ⟨φ, N, R⟩ := ht
      obtain ⟨a1, w1, ht1⟩ := wp_some (op_sound hT R (hd o (by simp)) (fun _ => hU nx (Nat.le_refl _)) hr0)
      have hU1 : ∀ l, nxt nx r0 ≤ l → ¬ fU U nx r0 l := by
        intro l hl hu
        cases r0 with
        | val x => exact hU l hl hu
        | put l' B => exact hU l hl hu
        | new B x =>
          have hl : nx + 1 ≤ l := hl
          rcases hu with hu | rfl
          · exact hU l (by omega) hu
          · omega
        | grow l' B x =>
          have hl : nx + 1 ≤ l := hl
          rcases hu with hu | rfl
          · exact hU l (by omega) hu
          · omega
        | eff l' B x =>
          have hl : nx + 1 ≤ l := hl
          rcases hu with hu | rfl
          · exact hU l (by omega) hu
          · omega
      obtain ⟨lab, r, hr, hf⟩ := trace_at h' (fun o ho => hd o (by simp [ho])) _ _ _ ht1 hU1 j p (by simpa using hp)
      refine ⟨lab, r, by simpa using hr, ?_⟩
      have e1 : envL (o :: os) ((nx, r0) :: rs) (fun i => decide (i < j + 1)) E = envL os rs (fun i => decide (i < j)) (fE E o.dst r0.x) := by
        rw [envL]
        simp
      have e2 : lblL ((nx, r0) :: rs) (fun i => decide (i < j + 1)) L = lblL rs (fun i => decide (i < j)) (fL L nx r0) := by
        rw [lblL]
        simp
      rw [e1, e2]
      have e3 : cr.getD (j + 1) [] = cr.tail.getD j [] := by cases cr <;> simp
      rw [e3]
      obtain ⟨hA, U', a', w', ht', hl'⟩ := hf
      exact ⟨hA, U', a', w', ht', fun l ⟨i, lab', r', hi, hr', e⟩ => by
        cases i with
        | zero => omega
        | succ i => exact hl' l ⟨i, lab', r', by omega, by simpa using hr', e⟩⟩
end
end Go.Proofs.YtnnjjblgilibgaaGreatV
/- What the evaluator says of the model: regions in whatever order. -/
namespace Go.Proofs.YtnnjjblgilibgaaGreatV
open Go Go.RowKit
set_option linter.unusedVariables false
set_option linter.unusedSimpArgs false

def edgeTo (o : Oper) (i : Nat) : Bool := o.after.toList.any fun e => Region.binds .any e && Nat.beq e.on i
def opTmps : List Operand → List Nat
  | [] => []
  | .tmp t :: r => t :: opTmps r
  | _ :: r => opTmps r
def guardT (all : Array Oper) (o : Oper) : List Nat :=
  match o.guard with
  | none => []
  | some (j, _) => match (all[j]?).bind (·.dst) with
    | some t => [t]
    | none => []
def hasN (t : Nat) : List Nat → Bool
  | [] => false
  | u :: r => Nat.beq t u || hasN t r
def usesT (all : Array Oper) (o : Oper) : List Nat := opTmps o.op.operands.toList ++ guardT all o
def dstIn (o : Oper) (l : List Nat) : Bool :=
  match o.dst with
  | none => false
  | some t => hasN t l
def dstSame (a b : Oper) : Bool :=
  match a.dst, b.dst with
  | some t, some u => Nat.beq t u
  | _, _ => false
def mutC (cr : List Operand) (c : Nat) : Bool := Nat.beq c 2 || ((Nat.beq c 3 && !marked cr) || (Nat.beq c 4 && marked cr))
def touchC (c : Nat) : Bool := Nat.beq c 1 || Nat.beq c 2 || Nat.beq c 3 || Nat.beq c 4
def newC (cr : List Operand) (c : Nat) : Bool := Nat.beq c 5 || (Nat.beq c 3 || (Nat.beq c 4 && marked cr))
/-- Must this operation wait for that one, by others between? -/
def reach (all : Array Oper) : Nat → Oper → Nat → Bool
  | 0, _, _ => false
  | n + 1, b, i => b.after.toList.any fun e => Region.binds .any e && (Nat.beq e.on i || match all[e.on]? with
    | some p => reach all n p i
    | none => false)
/-- A reader ahead of a writer, in whatever order: the address is among these, and stays. -/
def crossed (os : List Oper) (cr : List Operand) (i j : Nat) (a : Oper) : Bool :=
  match rdOp a.op with
  | some (.tmp t) => hasN t (opTmps cr) && (List.range j).all fun k => Nat.blt k i || (match os[k]? with | some p => !dstIn p [t] | none => true)
  | _ => false
def pairOk (all : Array Oper) (cra cr : List Operand) (i j : Nat) (a b : Oper) : Bool :=
  !dstSame a b && (edgeTo b i || ((!dstIn a (usesT all b) && !dstIn b (usesT all a) && !(mutC cra (opClass a.op) && touchC (opClass b.op)) && (!(mutC cr (opClass b.op) && (touchC (opClass a.op) || newC cra (opClass a.op))) || (Nat.beq (opClass b.op) 2 && Nat.beq (opClass a.op) 1 && crossed all.toList cr i j a))) || reach all 9 b i))
def selfOk (j : Nat) (b : Oper) : Bool := b.after.toList.all fun e => !Region.binds .any e || Nat.blt e.on j
/-- May a region's operations go in whatever order? -/
def drawOk (all : Array Oper) (crs : List (List Operand)) : Bool :=
  (List.range all.size).all fun j => match all[j]? with
    | none => true
    | some b => selfOk j b && (List.range j).all fun i => match all[i]? with
      | none => true
      | some a => pairOk all (crs.getD i []) (crs.getD j []) i j a b

theorem hasN_mem {t : Nat} : ∀ {l : List Nat}, hasN t l = true ↔ t ∈ l
  | [] => by simp [hasN]
  | u :: r => by
    rw [hasN, Bool.or_eq_true, hasN_mem, List.mem_cons]
    constructor
    · rintro (h | h)
      · exact .inl (Nat.eq_of_beq_eq_true h)
      · exact .inr h
    · rintro (rfl | h)
      · exact .inl (Nat.beq_refl t)
      · exact .inr h
theorem opTmps_mem {t : Nat} : ∀ {l : List Operand}, Operand.tmp t ∈ l → t ∈ opTmps l
  | x :: r, h => by
    rcases List.mem_cons.1 h with rfl | h
    · simp [opTmps]
    · have := opTmps_mem h
      cases x <;> simp [opTmps, this]

section
variable {P : Program} {tt : TypeId → Option TI} (hT : TOk P tt) {n : Nat} {w0 : World} {M : Nat → Option Value} {N0 : NG}

/-- What is known of a region. -/
structure RCtx (P : Program) (tt : TypeId → Option TI) (n : Nat) (w0 : World) (M : Nat → Option Value) (N0 : NG) (all : Array Oper) (crs : List (List Operand)) (U0 : Nat → Prop) (E0 : Nat → Option AV) (L0 : Nat → Option LB) (rs : List (Nat × Res)) : Prop where
  at_ : ∀ (j : Nat) (o : Oper), all[j]? = some o → ∃ lab r, rs[j]? = some (lab, r) ∧ Fact P tt n w0 M N0 all (crs.getD j []) (envL all.toList rs (fun i => decide (i < j)) E0) (lblL rs (fun i => decide (i < j)) L0) o lab r (fun l => ∃ i lab' r', j ≤ i ∧ rs[i]? = some (lab', r') ∧ l = lab')
  len : rs.length = all.size
  mono : ∀ (i j li : Nat) (ri : Res) (lj : Nat) (rj : Res), i < j → rs[i]? = some (li, ri) → rs[j]? = some (lj, rj) → isNewR ri = true → li < lj
  new0 : ∀ (i lab : Nat) (r : Res), rs[i]? = some (lab, r) → ¬ U0 lab
  dsts : ∀ (j : Nat) (o : Oper), all[j]? = some o → okDst n o.dst
  ok : drawOk all crs = true

variable {all : Array Oper} {crs : List (List Operand)} {U0 : Nat → Prop} {E0 : Nat → Option AV} {L0 : Nat → Option LB} {rs : List (Nat × Res)}

theorem RCtx.pair (C : RCtx P tt n w0 M N0 all crs U0 E0 L0 rs) {i j : Nat} {a b : Oper} (ha : all[i]? = some a) (hb : all[j]? = some b) (hij : i < j) : pairOk all (crs.getD i []) (crs.getD j []) i j a b = true := by
  have h := C.ok
  unfold drawOk at h
  rw [List.all_eq_true] at h
  have hj : j < all.size := by
    rcases Nat.lt_or_ge j all.size with h' | h'
    · exact h'
    · rw [Array.getElem?_eq_none h'] at hb; cases hb
  have h := h j (List.mem_range.2 hj)
  rw [hb] at h
  simp only [Bool.and_eq_true] at h
  have h := (List.all_eq_true.1 h.2) i (List.mem_range.2 hij)
  rw [ha] at h
  exact h

theorem RCtx.self (C : RCtx P tt n w0 M N0 all crs U0 E0 L0 rs) {j : Nat} {b : Oper} (hb : all[j]? = some b) : selfOk j b = true := by
  have h := C.ok
  unfold drawOk at h
  rw [List.all_eq_true] at h
  have hj : j < all.size := by
    rcases Nat.lt_or_ge j all.size with h' | h'
    · exact h'
    · rw [Array.getElem?_eq_none h'] at hb; cases hb
  have h := h j (List.mem_range.2 hj)
  rw [hb] at h
  simp only [Bool.and_eq_true] at h
  exact h.1

/-- An operation waits for that one. -/
def Pre (all : Array Oper) (b : Oper) (i : Nat) : Prop := ∀ (l : Nat → Bool), (∀ (j : Nat) (o : Oper) (k : Nat), all[j]? = some o → l j = true → edgeTo o k = true → l k = true) → (∀ k, edgeTo b k = true → l k = true) → l i = true
theorem reach_pre (all : Array Oper) : ∀ (n : Nat) (b : Oper) (i : Nat), reach all n b i = true → Pre all b i
  | 0, b, i, h => by cases h
  | n + 1, b, i, h => by
    intro l hc hl
    rw [reach, List.any_eq_true] at h
    obtain ⟨e, he, h⟩ := h
    simp only [Bool.and_eq_true, Bool.or_eq_true] at h
    obtain ⟨hb, h⟩ := h
    have h1 : l e.on = true := hl e.on (by
      unfold edgeTo
      rw [List.any_eq_true]
      exact ⟨e, he, by rw [hb, Nat.beq_refl]; rfl⟩)
    rcases h with h | h
    · rw [← Nat.eq_of_beq_eq_true h]; exact h1
    · split at h
      · rename_i p hp
        exact reach_pre all n p i h l hc (fun k hk => hc e.on p k hp h1 hk)
      · cases h
/-- Two operations: never to the same slot; the one waits for the other, or they do not meddle. -/
theorem pair_cases {all : Array Oper} {cra cr : List Operand} {i j : Nat} {a b : Oper} (h : pairOk all cra cr i j a b = true) : dstSame a b = false ∧ (Pre all b i ∨ (((dstIn a (usesT all b) = false ∧ dstIn b (usesT all a) = false) ∧ (mutC cra (opClass a.op) && touchC (opClass b.op)) = false) ∧ ((mutC cr (opClass b.op) && (touchC (opClass a.op) || newC cra (opClass a.op))) = false ∨ ((Nat.beq (opClass b.op) 2 = true ∧ Nat.beq (opClass a.op) 1 = true) ∧ crossed all.toList cr i j a = true)))) := by
  unfold pairOk at h
  rw [Bool.and_eq_true, Bool.not_eq_true', Bool.or_eq_true, Bool.or_eq_true] at h
  refine ⟨h.1, ?_⟩
  rcases h.2 with h | h | h
  · exact .inl fun l _ hl => hl i h
  · right
    simpa only [Bool.and_eq_true, Bool.or_eq_true, Bool.not_eq_true'] using h
  · exact .inl (reach_pre all 9 b i h)

/-- Done so far: with each operation what it must come after. -/
def Closed (all : Array Oper) (l : Nat → Bool) : Prop := ∀ j o i, all[j]? = some o → l j = true → edgeTo o i = true → l i = true

theorem same_false {a b : Oper} (h : dstSame a b = false) {t : Nat} (ha : a.dst = some t) (hb : b.dst = some t) : False := by
  unfold dstSame at h
  rw [ha, hb] at h
  simp [Nat.beq_refl] at h

theorem RCtx.unique (C : RCtx P tt n w0 M N0 all crs U0 E0 L0 rs) {i j : Nat} {a b : Oper} (ha : all[i]? = some a) (hb : all[j]? = some b) {t : Nat} (hat : a.dst = some t) (hbt : b.dst = some t) : i = j := by
  rcases Nat.lt_trichotomy i j with h | h | h
  · have := C.pair ha hb h
    exact (same_false (pair_cases this).1 hat hbt).elim
  · exact h
  · have := C.pair hb ha h
    exact (same_false (pair_cases this).1 hbt hat).elim

/-- A slot that an operation looks at is as it was in their order. -/
theorem RCtx.env_at (C : RCtx P tt n w0 M N0 all crs U0 E0 L0 rs) {l : Nat → Bool} (hc : Closed all l) {j : Nat} {o : Oper} (ho : all[j]? = some o) (hj : l j = false) (hr : ∀ i, edgeTo o i = true → l i = true) {t : Nat} (ht : t ∈ usesT all o) :
    envL all.toList rs l E0 t = envL all.toList rs (fun i => decide (i < j)) E0 t := by
  refine envL_congr _ _ _ _ _ _ (fun i p hp hd => ?_) rfl
  have hp : all[i]? = some p := by simpa using hp
  have hin : ∀ (l : List Nat), t ∈ l → dstIn p l = true := fun l h => by
    unfold dstIn
    rw [hd]
    exact hasN_mem.2 h
  rcases Nat.lt_trichotomy i j with h | h | h
  · have hpair := C.pair hp ho h
    rcases (pair_cases hpair).2 with he | he
    · rw [he l hc hr]; simp [h]
    · rw [hin _ ht] at he
      exact absurd he.1.1.1 (by simp)
  · subst h
    rw [hj]; simp
  · have hpair := C.pair ho hp h
    have hpair := pair_cases hpair
    have : l i = false := by
      cases hli : l i with
      | false => rfl
      | true =>
        rcases hpair.2 with he | he
        · have := he l hc (fun k hk => hc i p k hp hli hk)
          rw [hj] at this; cases this
        · rw [hin _ ht] at he
          exact absurd he.1.1.2 (by simp)
    rw [this]
    simp; omega

theorem gd_congr {E E' : Nat → Option AV} {o : Oper} (h : ∀ t ∈ guardT all o, E t = E' t) : gd all E o = gd all E' o := by
  unfold gd
  cases hg : o.guard with
  | none => rfl
  | some q =>
    obtain ⟨j, want⟩ := q
    simp only
    split
    · rfl
    · rename_i t ht
      rw [h t (by unfold guardT; rw [hg]; simp [ht])]

theorem RCtx.op_at (C : RCtx P tt n w0 M N0 all crs U0 E0 L0 rs) {l : Nat → Bool} (hc : Closed all l) {j : Nat} {o : Oper} (ho : all[j]? = some o) (hj : l j = false) (hr : ∀ i, edgeTo o i = true → l i = true) :
    (∀ x ∈ o.op.operands.toList, evE (envL all.toList rs l E0) x = evE (envL all.toList rs (fun i => decide (i < j)) E0) x) ∧ gd all (envL all.toList rs l E0) o = gd all (envL all.toList rs (fun i => decide (i < j)) E0) o := by
  refine ⟨fun x hx => ?_, gd_congr fun t ht => C.env_at hc ho hj hr (by unfold usesT; exact List.mem_append.2 (.inr ht))⟩
  cases x with
  | tmp t =>
    show (envL all.toList rs l E0 t).getD .any = _
    rw [C.env_at hc ho hj hr (by unfold usesT; exact List.mem_append.2 (.inl (opTmps_mem hx)))]
    rfl
  | _ => rfl

/-- What an operation came to tells its class. -/
theorem class_of {E : Nat → Option AV} {L : Nat → Option LB} {op : Op} {lab : Nat} {r : Res} (h : (aop tt L (evE E) op).to P L lab r) : (∀ B x, r = .new B x → opClass op = 5) ∧ (∀ l B, r = .put l B → opClass op = 2) ∧ (∀ l B x, r = .grow l B x → opClass op = 3) ∧ (∀ l B x, r = .eff l B x → opClass op = 4) := by
  have hk := aop_class (tt := tt) (lb := L) (ev := evE E) (op := op)
  generalize aop tt L (evE E) op = out at h hk
  cases out with
  | val p x => obtain ⟨_, rfl⟩ := h; exact ⟨fun _ _ e => (by cases e), fun _ _ e => (by cases e), fun _ _ _ e => (by cases e), fun _ _ _ e => (by cases e)⟩
  | new p B f =>
    obtain ⟨_, rfl⟩ := h
    refine ⟨fun _ _ _ => ?_, fun _ _ e => (by cases e), fun _ _ _ e => (by cases e), fun _ _ _ e => (by cases e)⟩
    rcases hk with h | h | h | h | h
    · cases h
    · exact h.2
    · cases h.1
    · cases h.1
    · cases h.1
  | put p l B =>
    obtain ⟨_, rfl⟩ := h
    refine ⟨fun _ _ e => (by cases e), fun _ _ _ => ?_, fun _ _ _ e => (by cases e), fun _ _ _ e => (by cases e)⟩
    rcases hk with h | h | h | h | h
    · cases h
    · cases h.1
    · exact h.2
    · cases h.1
    · cases h.1
  | grow p l B =>
    obtain ⟨_, rfl⟩ := h
    refine ⟨fun _ _ e => (by cases e), fun _ _ e => (by cases e), fun _ _ _ _ => ?_, fun _ _ _ e => (by cases e)⟩
    rcases hk with h | h | h | h | h
    · cases h
    · cases h.1
    · cases h.1
    · exact h.2
    · cases h.1
  | call F args fr raw =>
    rcases h with ⟨x, _, _, rfl⟩ | ⟨ls, nw, x, _, rfl⟩
    · exact ⟨fun _ _ e => (by cases e), fun _ _ e => (by cases e), fun _ _ _ e => (by cases e), fun _ _ _ e => (by cases e)⟩
    · refine ⟨fun _ _ e => (by cases e), fun _ _ e => (by cases e), fun _ _ _ e => (by cases e), fun _ _ _ _ => ?_⟩
      rcases hk with h | h | h | h | h
      · cases h
      · cases h.1
      · cases h.1
      · cases h.1
      · exact h.2
  | bad => exact h.elim

/-- An operation that turns a label, or makes one. -/
theorem RCtx.kinds (C : RCtx P tt n w0 M N0 all crs U0 E0 L0 rs) {i : Nat} {p : Oper} (hp : all[i]? = some p) {lab : Nat} {r : Res} (hr : rs[i]? = some (lab, r)) {m : Nat} (ht : tgt lab m r) :
    (isNewR r = true ∧ m = lab ∧ newC (crs.getD i []) (opClass p.op) = true) ∨ (mutC (crs.getD i []) (opClass p.op) = true ∧ (opClass p.op = 2 → ∃ B, r = .put m B)) := by
  obtain ⟨lab', r', hr', hf⟩ := C.at_ i p hp
  rw [hr] at hr'
  obtain ⟨rfl, rfl⟩ : lab = lab' ∧ r = r' := by simpa using hr'
  rcases hf.1 with ⟨_, rfl⟩ | ⟨_, hto, hcf⟩
  · exact ht.elim
  · obtain ⟨h1, h2, h3, h4⟩ := class_of hto
    cases r with
    | val x => exact ht.elim
    | new B x => exact .inl ⟨rfl, ht, by rw [h1 _ _ rfl]; rfl⟩
    | put l B => exact .inr ⟨by rw [h2 _ _ rfl]; rfl, fun _ => ⟨B, by rw [show m = l from ht]⟩⟩
    | grow l B x =>
      have hc := h3 _ _ _ rfl
      by_cases hm : m = lab
      · exact .inl ⟨rfl, hm, by rw [hc]; rfl⟩
      · cases l with
        | none => exact absurd ht hm
        | some l =>
          have hg : (!marked (crs.getD i [])) = true := hcf
          exact .inr ⟨by rw [hc]; unfold mutC; rw [hg]; rfl, fun e => by rw [hc] at e; cases e⟩
    | eff ls nw x =>
      have hc := h4 _ _ _ rfl
      have hm : marked (crs.getD i []) = true := hcf
      by_cases he : m = lab
      · exact .inl ⟨rfl, he, by rw [hc]; unfold newC; rw [hm]; rfl⟩
      · exact .inr ⟨by rw [hc]; unfold mutC; rw [hm]; rfl, fun e => by rw [hc] at e; cases e⟩

/-- A label that both states know is as it was, if no writer has passed by. -/
theorem RCtx.lbl_at (C : RCtx P tt n w0 M N0 all crs U0 E0 L0 rs) {l : Nat → Bool} (hc : Closed all l) {j : Nat} {o : Oper} (ho : all[j]? = some o) (hj : l j = false) (hr : ∀ i, edgeTo o i = true → l i = true) (htouch : touchC (opClass o.op) = true) {U : Nat → Prop} (hU : ∀ m, (∃ i lab' r', j ≤ i ∧ rs[i]? = some (lab', r') ∧ m = lab') → ¬ U m) {m : Nat} (hm : U m) (hm' : usedL rs l U0 m)
    (hx : ∀ i p B lab, all[i]? = some p → j < i → rs[i]? = some (lab, .put m B) → opClass p.op = 2 → opClass o.op = 1 → crossed all.toList (crs.getD i []) j i o = true → False) :
    lblL rs l L0 m = lblL rs (fun i => decide (i < j)) L0 m := by
  refine lblL_congr _ _ _ _ _ (fun i lab r hri ht => ?_) rfl
  have hi : i < all.size := by
    rw [← C.len]
    exact getElem?_lt hri
  obtain ⟨p, hp⟩ : ∃ p, all[i]? = some p := ⟨all[i], by simp [hi]⟩
  have hk := C.kinds hp hri ht
  rcases Nat.lt_trichotomy i j with h | h | h
  · have : l i = true := by
      rcases hk with ⟨hn, rfl, _⟩ | ⟨hmut, _⟩
      · rcases hm' with h0 | ⟨k, lab', r', hrk, hlk, hnk, rfl⟩
        · exact absurd h0 (C.new0 i _ r hri)
        · have : i = k := by
            rcases Nat.lt_trichotomy i k with h | h | h
            · have := C.mono i k _ _ _ _ h hri hrk hn; omega
            · exact h
            · have := C.mono k i _ _ _ _ h hrk hri hnk; omega
          rw [this]
          exact hlk
      · have hpair := C.pair hp ho h
        rcases (pair_cases hpair).2 with he | he
        · exact he l hc hr
        · have := he.1.2
          rw [hmut, htouch] at this
          cases this
    rw [this]
    simp [h]
  · subst h
    rw [hj]
    simp
  · have : l i = false := by
      cases hli : l i with
      | false => rfl
      | true =>
        exfalso
        rcases hk with ⟨hn, rfl, _⟩ | ⟨hmut, hput⟩
        · exact hU _ ⟨i, _, r, by omega, hri, rfl⟩ hm
        · have hpair := C.pair ho hp h
          rcases (pair_cases hpair).2 with he | he
          · have := he l hc (fun k hk => hc i p k hp hli hk)
            rw [hj] at this; cases this
          · rcases he.2 with h' | h'
            · rw [hmut, htouch] at h'
              cases h'
            · obtain ⟨⟨h2, h1⟩, h3⟩ := h'
              have h2 := Nat.eq_of_beq_eq_true h2
              have h1 := Nat.eq_of_beq_eq_true h1
              obtain ⟨B, rfl⟩ := hput h2
              exact hx i p B lab hp h hri h2 h1 h3
    rw [this]
    simp; omega
end
end Go.Proofs.YtnnjjblgilibgaaGreatV
/- What the evaluator says of the model: regions in whatever order, the whole. -/
namespace Go.Proofs.YtnnjjblgilibgaaGreatV
open Go Go.RowKit
set_option linter.unusedVariables false
set_option linter.unusedSimpArgs false

section
variable {P : Program} {tt : TypeId → Option TI} (hT : TOk P tt) {n : Nat} {w0 : World} {M : Nat → Option Value} {N0 : NG}
variable {all : Array Oper} {crs : List (List Operand)} {U0 : Nat → Prop} {E0 : Nat → Option AV} {L0 : Nat → Option LB} {rs : List (Nat × Res)}

theorem used_of {φ : Nat → Option Value} {N U : Nat → Prop} {E : Nat → Option AV} {L : Nat → Option LB} {a : Act} {w : World} (R : Rel n w0 M N0 φ N U E L a w) {m : Nat} (h : φ m ≠ none) : U m :=
  Classical.byContradiction fun hn => h (R.fresh m hn)

theorem rlab_place {w : World} {φ : Nat → Option Value} {N : Nat → Prop} {x : AV} {v : Value} {m : Nat} (h : Rep w φ N x v) (hm : rlab x = some m) : φ m ≠ none := by
  cases h with
  | loc l off b hφ => simp only [rlab, Option.some.injEq] at hm; subst hm; rw [hφ]; simp
  | own l v hφ h1 => simp only [rlab, Option.some.injEq] at hm; subst hm; rw [hφ]; simp
  | rloc l sz i f b n c hφ => simp only [rlab, Option.some.injEq] at hm; subst hm; rw [hφ]; simp
  | osl l off n sz b m' c' c hφ _ _ => simp only [rlab, Option.some.injEq] at hm; subst hm; rw [hφ]; simp
  | _ => simp [rlab] at hm

theorem has_place {w : World} {φ : Nat → Option Value} {N : Nat → Prop} {m : Nat} {x : AV} {v : Value} (h : Rep w φ N x v) (hm : x.has m = true) : φ m ≠ none := by
  have hall : ∀ (l : List AV), allHas m l = true → ∃ (i : Nat) (y : AV), l[i]? = some y ∧ y.has m = true := by
    intro l
    induction l with
    | nil => intro h; cases h
    | cons a r ih =>
      intro h
      rw [allHas, Bool.or_eq_true] at h
      rcases h with h | h
      · exact ⟨0, a, rfl, h⟩
      · obtain ⟨i, y, h1, h2⟩ := ih h
        exact ⟨i + 1, y, by simpa using h1, h2⟩
  induction h with
  | agg l vs hl _ ih => obtain ⟨i, y, h1, h2⟩ := hall l hm; exact ih i y h1 h2
  | tup l vs hl _ ih => obtain ⟨i, y, h1, h2⟩ := hall l hm; exact ih i y h1 h2
  | fn f l vs hl _ ih => obtain ⟨i, y, h1, h2⟩ := hall l hm; exact ih i y h1 h2
  | loc l off b h => rw [← Nat.eq_of_beq_eq_true hm, h]; simp
  | own l v h h1 => rw [← Nat.eq_of_beq_eq_true hm, h]; simp
  | rloc l sz i f b n c h => rw [← Nat.eq_of_beq_eq_true hm, h]; simp
  | lsl l off n sz b c h hc => rw [← Nat.eq_of_beq_eq_true hm, h]; simp
  | osl l off n sz b m c' c h hc hc' => rw [← Nat.eq_of_beq_eq_true hm, h]; simp
  | _ => simp [AV.has] at hm
theorem allHas_place {w : World} {φ : Nat → Option Value} {N : Nat → Prop} {m : Nat} {l : List AV} {vs : List Value} (h : ∀ i x, l[i]? = some x → Rep w φ N x (vs.getD i undef)) (hm : allHas m l = true) : φ m ≠ none := by
  have h' : Rep w φ N (.tup l) (.tuple (vs.toArray.extract 0 l.length ++ Array.replicate (l.length - vs.length) undef)) := by
    refine .tup l _ (by simp; omega) fun i x hx => ?_
    have := h i x hx
    have hi := getElem?_lt hx
    rw [List.getD_eq_getElem?_getD] at this
    rw [Array.getD_eq_getD_getElem?, Array.getElem?_append]
    split
    · rename_i hlt
      simp at hlt
      rw [Array.getElem?_extract]
      simpa [hlt] using this
    · rename_i hlt
      simp at hlt
      rw [List.getElem?_eq_none (by omega)] at this
      rw [Array.getElem?_replicate]
      split <;> exact this
  exact has_place (m := m) h' hm
theorem run_raw {w : World} {φ : Nat → Option Value} {N : Nat → Prop} {P : Program} {tt : TypeId → Option TI} {lb : Nat → Option LB} {ev : Operand → AV} {ρ : Operand → Value} (hE : ∀ x, Rep w φ N (ev x) (ρ x)) {op : Op} {F : FuncId} {args : List AV} {fr : Bool} {raw : List AV} (h : aop tt lb ev op = .call F args fr raw) :
    ∃ vs : List Value, ∀ i x, raw[i]? = some x → Rep w φ N x (vs.getD i undef) := by
  have hk := aop_kind (tt := tt) (lb := lb) (ev := ev) (op := op)
  rw [h] at hk
  have hk : opKind op = 4 := by
    rcases hk with hk | hk
    · cases hk
    · exact hk.symm
  cases op with
  | call c =>
    obtain ⟨cal, as, ats⟩ := c
    simp only [aop] at h
    split at h
    · cases hk
    · cases hk
    · cases hk
    · cases hk
    · rename_i f _
      split at h
      · rename_i F' caps hf
        simp only [Out.call.injEq] at h
        obtain ⟨rfl, rfl, rfl, rfl⟩ := h
        have hfv := hE f
        rw [hf] at hfv
        obtain ⟨u, hu⟩ : ∃ u, ρ f = u := ⟨_, rfl⟩
        rw [hu] at hfv
        cases hfv with
        | fn _ _ vs hl hr =>
          refine ⟨as.toList.map ρ ++ vs.toList, fun i x hx => ?_⟩
          rw [List.getElem?_append] at hx
          rw [List.getD_eq_getElem?_getD, List.getElem?_append]
          simp only [List.length_map] at hx ⊢
          split at hx
          · rename_i hlt
            rw [if_pos hlt]
            rw [List.getElem?_map] at hx ⊢
            cases hp : as.toList[i]? with
            | none => rw [hp] at hx; cases hx
            | some r =>
              rw [hp] at hx
              obtain rfl := Option.some.inj hx
              exact hE r
          · rename_i hlt
            rw [if_neg hlt]
            have := hr _ x hx
            simpa [Array.getD_eq_getD_getElem?] using this
      · cases h
    · rename_i r m _
      split at h
      · rename_i t v hrv
        split at h
        · simp only [Out.call.injEq] at h
          obtain ⟨rfl, rfl, rfl, rfl⟩ := h
          have hfv := hE r
          rw [hrv] at hfv
          obtain ⟨u, hu⟩ : ∃ u, ρ r = u := ⟨_, rfl⟩
          rw [hu] at hfv
          cases hfv with
          | iface _ _ vv hvv =>
            refine ⟨vv :: as.toList.map ρ, fun i x hx => ?_⟩
            cases i with
            | zero => simp at hx; subst hx; exact hvv
            | succ i =>
              simp only [List.getElem?_cons_succ] at hx
              rw [List.getD_cons_succ, List.getD_eq_getElem?_getD]
              rw [List.getElem?_map] at hx ⊢
              cases hp : as.toList[i]? with
              | none => rw [hp] at hx; cases hx
              | some r =>
                rw [hp] at hx
                obtain rfl := Option.some.inj hx
                exact hE r
        · cases h
      · cases h
    · cases h
  | _ => cases hk
theorem rdOp_mem {op : Op} {x : Operand} (hc : opClass op = 1) (h : rdOp op = some x) : x ∈ op.operands.toList := by
  cases op with
  | load t y => simp only [rdOp, Option.some.injEq] at h; subst h; simp [Op.operands]
  | indexAddr t y i => simp only [rdOp, Option.some.injEq] at h; subst h; simp [Op.operands]
  | slice t y lo hi mx => simp only [rdOp, Option.some.injEq] at h; subst h; simp [Op.operands]
  | call c =>
    obtain ⟨cal, args, ats⟩ := c
    simp only [rdOp] at h
    have : x ∈ args := Array.mem_of_getElem? h
    simp [Op.operands, Call.operands, this]
  | _ => simp [opClass] at hc

include hT
/-- A label that is written, or a row that grows, was there. -/
theorem tgt_used {φ : Nat → Option Value} {N U : Nat → Prop} {E : Nat → Option AV} {L : Nat → Option LB} {a : Act} {w : World} (R : Rel n w0 M N0 φ N U E L a w) {op : Op} {lab m : Nat} {r : Res} (h : (aop tt L (evE E) op).to P L lab r) (ht : tgt lab m r) : (isNewR r = true ∧ m = lab) ∨ U m := by
  generalize hout : aop tt L (evE E) op = out at h
  cases out with
  | val p x => obtain ⟨_, rfl⟩ := h; exact ht.elim
  | new p B f => obtain ⟨_, rfl⟩ := h; exact .inl ⟨rfl, ht⟩
  | put p l B =>
    obtain ⟨hp, rfl⟩ := h
    obtain ⟨w', b, v, _, h2, _⟩ := run_put (d := none) (ty := 0) (po := "") (af := #[]) (g := none) hT R.ev R.lbl R.low hout hp
    have ht : m = l := ht
    subst ht
    exact .inr (used_of R (by rw [h2]; simp))
  | grow p l B =>
    obtain ⟨hp, rfl⟩ := h
    obtain ⟨v', w', row, _, _, _, _, h5, _⟩ := run_grow (d := none) (ty := 0) (po := "") (af := #[]) (g := none) hT R.ev R.lbl R.low (Nat.zero_le _) hout hp
    cases l with
    | none => exact .inl ⟨rfl, ht⟩
    | some l0 =>
      rcases ht with ht | ht
      · exact .inl ⟨rfl, ht⟩
      · right
        rcases h5 with ⟨h, _⟩ | ⟨l1, v0, h1, _, h2, _⟩
        · cases h
        · obtain rfl := Option.some.inj h1
          subst ht
          exact used_of R (by rw [h2]; simp)
  | call F args fr raw =>
    rcases h with ⟨x, _, _, rfl⟩ | ⟨ls, nw, x, ⟨ids, Ls, as, Ls', r', hok, q1, q2, q3, q4, q5, q6, q7, q8, q9, q10, rfl, rfl⟩, rfl⟩
    · exact ht.elim
    · rcases ht with ht | ⟨p, hp, ht⟩
      · exact .inl ⟨rfl, ht⟩
      · right
        obtain ⟨i, hi, hi'⟩ := List.getElem_of_mem (List.of_mem_zip (show (p.1, p.2) ∈ ids.zip Ls' from hp)).1
        rw [ht] at hi'
        have hL := q3 i m Ls[i] (by rw [List.getElem?_eq_getElem hi, hi']) (List.getElem?_eq_getElem (by omega))
        obtain ⟨u, hu, _⟩ := (R.lbl m _ hL).place
        exact used_of R (by rw [hu]; simp)
  | bad => exact h.elim

/-- An operation that may go next. -/
theorem RCtx.step (C : RCtx P tt n w0 M N0 all crs U0 E0 L0 rs) {l l' : Nat → Bool} (hc : Closed all l) {j : Nat} {o : Oper} (ho : all[j]? = some o) (hj : l j = false) (hr : ∀ i, edgeTo o i = true → l i = true) (hl' : ∀ i, l' i = if i = j then true else l i)
    {a : Act} {w : World} (ht : Tel n w0 M N0 (usedL rs l U0) (envL all.toList rs l E0) (lblL rs l L0) a w) {Q : Exit → Act → World → Prop} {next : Act → World → Prop} (hn : ∀ a w, Tel n w0 M N0 (usedL rs l' U0) (envL all.toList rs l' E0) (lblL rs l' L0) a w → next a w) : wpOp P all Q j next a w := by
  obtain ⟨lab, r, hrj, hf, Uc, ac, wc, htc, hlater⟩ := C.at_ j o ho
  obtain ⟨hops, hgd⟩ := C.op_at hc ho hj hr
  have htrue : l' j = true := by rw [hl']; simp
  have hother : ∀ i, i ≠ j → l i = l' i := fun i hi => by rw [hl', if_neg hi]
  have hol : all.toList[j]? = some o := by simpa using ho
  have hE : fE (envL all.toList rs l E0) o.dst r.x = envL all.toList rs l' E0 := by
    funext t
    by_cases hd : o.dst = some t
    · rw [envL_hit all.toList rs l' E0 j o lab r hol hd hrj htrue (fun i p hp hpd => C.unique (by simpa using hp) ho hpd hd)]
      simp [fE, hd]
    · have : fE (envL all.toList rs l E0) o.dst r.x t = envL all.toList rs l E0 t := by simp [fE, hd]
      rw [this]
      refine envL_congr _ _ _ _ _ _ (fun i p hp hpd => hother i (fun e => ?_)) rfl
      subst e
      rw [hol] at hp
      obtain rfl := Option.some.inj hp
      exact hd hpd
  have hUsed : ∀ m, usedL rs l U0 m → usedL rs l' U0 m := fun m hm => by
    rcases hm with h | ⟨i, lab', r', h1, h2, h3, h4⟩
    · exact .inl h
    · refine .inr ⟨i, lab', r', h1, ?_, h3, h4⟩
      rw [hl']
      split
      · rfl
      · exact h2
  unfold wpOp
  rw [ho]
  simp only
  obtain ⟨φ, N, R⟩ := ht
  rcases hf with ⟨hg, rfl⟩ | ⟨hg, hto, hcf⟩
  · rw [wanted_of R (hgd.trans hg)]
    simp only [Bool.false_eq_true, if_false]
    refine hn _ _ ⟨φ, N, ?_⟩
    have hL : lblL rs l' L0 = lblL rs l L0 := by
      funext m
      refine lblL_congr _ _ _ _ _ (fun i lab' r' hri hti => ?_) rfl
      by_cases hij : i = j
      · subst hij
        rw [hrj] at hri
        obtain ⟨rfl, rfl⟩ : lab = lab' ∧ Res.val (AV.raw undef) = r' := by simpa using hri
        exact hti.elim
      · exact (hother i hij).symm
    rw [hL, ← hE]
    exact (R.put (d := o.dst) (C.dsts j o ho) (.raw undef)).more hUsed
  · rw [wanted_of R (hgd.trans hg)]
    simp only [if_true]
    obtain ⟨φc, Nc, Rc⟩ := htc
    have hsame : aop tt (lblL rs l L0) (evE (envL all.toList rs l E0)) o.op = aop tt (lblL rs (fun i => decide (i < j)) L0) (evE (envL all.toList rs (fun i => decide (i < j)) E0)) o.op := by
      rw [aop_ev hops]
      by_cases h0 : opClass o.op = 0 ∨ opClass o.op = 5
      · exact aop_none h0
      · have htouch : touchC (opClass o.op) = true := by
          have hcls : opClass o.op = 0 ∨ opClass o.op = 1 ∨ opClass o.op = 2 ∨ opClass o.op = 3 ∨ opClass o.op = 4 ∨ opClass o.op = 5 := by
            cases o.op with
            | call c =>
              obtain ⟨cal, args, ats⟩ := c
              cases cal with
              | builtin b => cases b <;> simp [opClass]
              | value f => simp [opClass]
              | invoke r m => simp [opClass]
            | _ => simp [opClass]
          rcases hcls with h | h | h | h | h | h
          · exact absurd (.inl h) h0
          · rw [h]; rfl
          · rw [h]; rfl
          · rw [h]; rfl
          · rw [h]; rfl
          · exact absurd (.inr h) h0
        by_cases h1 : opClass o.op = 1
        · refine aop_reader h1 (fun x m hx hm => ?_)
          have hxm := rdOp_mem h1 hx
          have hc1 : φc m ≠ none := rlab_place (Rc.ev x) hm
          have hl1 : φ m ≠ none := rlab_place (R.ev x) (by rw [hops x hxm]; exact hm)
          refine C.lbl_at hc ho hj hr htouch (U := Uc) hlater (used_of Rc hc1) (used_of R hl1) (fun i p B labi hp hji hri h2 _ hcr => ?_)
          -- a writer that passed by writes elsewhere
          obtain ⟨labi', ri', hri', hfi, _⟩ := C.at_ i p hp
          rw [hri] at hri'
          obtain ⟨rfl, rfl⟩ : labi = labi' ∧ Res.put m B = ri' := by simpa using hri'
          rcases hfi with ⟨_, h⟩ | ⟨_, _, hcl⟩
          · cases h
          · unfold crossed at hcr
            rw [hx] at hcr
            cases x with
            | tmp t =>
              simp only [Bool.and_eq_true] at hcr
              obtain ⟨hmem, hst⟩ := hcr
              have hmem := hasN_mem.1 hmem
              have hEq : envL all.toList rs (fun k => decide (k < i)) E0 t = envL all.toList rs (fun k => decide (k < j)) E0 t := by
                refine envL_congr _ _ _ _ _ _ (fun k q hq hqd => ?_) rfl
                by_cases hkj : k < j
                · simp [hkj, show k < i by omega]
                · by_cases hki : k < i
                  · have := (List.all_eq_true.1 hst) k (List.mem_range.2 hki)
                    rw [hq] at this
                    simp only [Bool.or_eq_true, Bool.not_eq_true'] at this
                    rcases this with h | h
                    · have : k + 1 ≤ j := by simpa [Nat.blt] using h
                      omega
                    · unfold dstIn at h
                      rw [hqd] at h
                      simp [hasN, Nat.beq_refl] at h
                  · simp [hkj, hki]
              have hno : ∀ (cr : List Operand), noClash (evE (envL all.toList rs (fun k => decide (k < i)) E0)) m cr → t ∈ opTmps cr → False := by
                intro cr
                induction cr with
                | nil => intro _ h; simp [opTmps] at h
                | cons y r ih =>
                  intro h ht
                  cases y with
                  | tmp u =>
                    simp only [opTmps, List.mem_cons] at ht
                    rcases ht with rfl | ht
                    · refine h.1 ?_
                      have : evE (envL all.toList rs (fun k => decide (k < i)) E0) (.tmp t) = evE (envL all.toList rs (fun k => decide (k < j)) E0) (.tmp t) := by
                        show (envL all.toList rs (fun k => decide (k < i)) E0 t).getD .any = (envL all.toList rs (fun k => decide (k < j)) E0 t).getD .any
                        rw [hEq]
                      rw [this]
                      exact hm
                    · exact ih h.2 ht
                  | _ => exact ih h.2 (by simpa [opTmps] using ht)
              exact hno _ hcl hmem
            | _ => cases hcr
        · -- both states know what it looks at
          classical
          let ev : Operand → AV := fun x => if x ∈ o.op.operands.toList then evE (envL all.toList rs (fun i => decide (i < j)) E0) x else .any
          have hev : ∀ L, aop tt L (evE (envL all.toList rs (fun i => decide (i < j)) E0)) o.op = aop tt L ev o.op := fun L => aop_ev fun x hx => by
            show _ = (if x ∈ o.op.operands.toList then _ else _)
            rw [if_pos hx]
          rw [hev, hev]
          refine aop_both (ρ := a.eval) (ρ' := ac.eval) (fun x => ?_) (fun x => ?_) R.lbl Rc.lbl (fun m hm hm' => ?_) h1
          · show Rep w φ N (if x ∈ o.op.operands.toList then _ else _) _
            split
            · rename_i hx
              rw [← hops x hx]
              exact R.ev x
            · exact .any _
          · show Rep wc φc Nc (if x ∈ o.op.operands.toList then _ else _) _
            split
            · exact Rc.ev x
            · exact .any _
          · exact C.lbl_at hc ho hj hr htouch (U := Uc) hlater (used_of Rc hm') (used_of R hm) (fun i p B labi _ _ _ _ h _ => h1 h)
    have hto' : (aop tt (lblL rs l L0) (evE (envL all.toList rs l E0)) o.op).to P (lblL rs l L0) lab r := by
      rw [hsame]
      generalize hout : aop tt (lblL rs (fun i => decide (i < j)) L0) (evE (envL all.toList rs (fun i => decide (i < j)) E0)) o.op = out at hto
      cases out with
      | call F args fr raw =>
        rcases hto with h | ⟨ls, nw, x, ⟨ids, Ls, as, Ls', r', hok, q1, q2, q3, q4, q5, q6⟩, hr'⟩
        · exact .inl h
        · refine .inr ⟨ls, nw, x, ⟨ids, Ls, as, Ls', r', hok, q1, q2, fun i id B h1 h2 => ?_, q4, q5, q6⟩, hr'⟩
          obtain ⟨_, hraw⟩ := run_raw (P := P) Rc.ev hout
          obtain ⟨_, hraw'⟩ := run_raw (P := P) R.ev (hsame.trans hout)
          have hids := q5 id (List.mem_of_getElem? h1)
          have hcl : opClass o.op = 4 := by
            have hk := aop_class (tt := tt) (lb := lblL rs (fun i => decide (i < j)) L0) (ev := evE (envL all.toList rs (fun i => decide (i < j)) E0)) (op := o.op)
            rw [hout] at hk
            rcases hk with h | h | h | h | h
            · cases h
            · cases h.1
            · cases h.1
            · cases h.1
            · exact h.2
          rw [C.lbl_at hc ho hj hr (by rw [hcl]; rfl) (U := Uc) hlater (used_of Rc (allHas_place hraw hids)) (used_of R (allHas_place hraw' hids)) (fun _ _ _ _ _ _ _ _ h _ => by rw [hcl] at h; cases h)]
          exact q3 i id B h1 h2
      | _ => exact hto
    have hL : fL (lblL rs l L0) lab r = lblL rs l' L0 := by
      funext m
      by_cases htm : tgt lab m r
      · symm
        refine lblL_hit rs l' L0 (lblL rs l L0) j lab r hrj htm htrue (fun i lab' r' hri hji hli hti => ?_)
        have hli : l i = true := by rw [hother i (by omega)]; exact hli
        have hi : i < all.size := by
          rw [← C.len]
          exact getElem?_lt hri
        obtain ⟨p, hp⟩ : ∃ p, all[i]? = some p := ⟨all[i], by simp [hi]⟩
        rcases C.kinds hp hri hti with ⟨hnew, rfl, _⟩ | ⟨hmut, hput⟩
        · rcases tgt_used hT Rc hto htm with ⟨hnj, rfl⟩ | hu
          · have := C.mono j i _ _ _ _ hji hrj hri hnj
            omega
          · exact hlater _ ⟨i, _, r', by omega, hri, rfl⟩ hu
        · have hpair := C.pair ho hp hji
          rcases (pair_cases hpair).2 with he | he
          · have := he l hc (fun k hk => hc i p k hp hli hk)
            rw [hj] at this; cases this
          · have hcj : touchC (opClass o.op) = true ∨ newC (crs.getD j []) (opClass o.op) = true := by
              rcases C.kinds ho hrj htm with ⟨_, _, h⟩ | ⟨h, _⟩
              · exact .inr h
              · left
                unfold mutC at h
                unfold touchC
                simp only [Bool.or_eq_true, Bool.and_eq_true] at h ⊢
                rcases h with h | h | h
                · exact .inl (.inl (.inr h))
                · exact .inl (.inr h.1)
                · exact .inr h.1
            rcases he.2 with h' | h'
            · rw [hmut] at h'
              rcases hcj with h | h <;> rw [h] at h' <;> simp at h'
            · have h1 := Nat.eq_of_beq_eq_true h'.1.2
              rcases C.kinds ho hrj htm with ⟨_, _, h⟩ | ⟨h, _⟩ <;> rw [h1] at h <;> simp [newC, mutC] at h
      · rw [fL_not htm]
        refine lblL_congr _ _ _ _ _ (fun i lab' r' hri hti => ?_) rfl
        by_cases hij : i = j
        · subst hij
          rw [hrj] at hri
          obtain ⟨rfl, rfl⟩ : lab = lab' ∧ r = r' := by simpa using hri
          exact absurd hti htm
        · exact hother i hij
    have hlab : isNewR r = true → ¬ usedL rs l U0 lab := by
      intro hnew hu
      rcases hu with h0 | ⟨i, lab', r', hri, hli, hni, rfl⟩
      · exact C.new0 j _ r hrj h0
      · rcases Nat.lt_trichotomy i j with h | h | h
        · have := C.mono i j _ _ _ _ h hri hrj hni; omega
        · subst h; rw [hj] at hli; cases hli
        · have := C.mono j i _ _ _ _ h hrj hri hnew; omega
    refine .inl (Oper.wp_mono (fun a' w' h' => hn a' w' ?_) (op_sound hT R (C.dsts j o ho) hlab hto'))
    rw [hE, hL] at h'
    obtain ⟨φ', N', R'⟩ := h'
    refine ⟨φ', N', R'.more fun m hm => ?_⟩
    have hnew : isNewR r = true → m = lab → usedL rs l' U0 m := fun h e => .inr ⟨j, lab, r, hrj, htrue, h, e⟩
    cases r with
    | val x => exact hUsed m hm
    | put l B => exact hUsed m hm
    | new B x =>
      rcases hm with hm | hm
      · exact hUsed m hm
      · exact hnew rfl hm
    | grow l B x =>
      rcases hm with hm | hm
      · exact hUsed m hm
      · exact hnew rfl hm
    | eff l B x =>
      rcases hm with hm | hm
      · exact hUsed m hm
      · exact hnew rfl hm
end
end Go.Proofs.YtnnjjblgilibgaaGreatV

import Derived.Test.YtfemklaeonkidaaVcN
/- Loops over functions: the law. -/
namespace Go.Proofs.YtfemklaeonkidaaV
open Go Go.RowKit
set_option linter.unusedVariables false
set_option linter.unusedSimpArgs false

def envLt (k : Nat) : List (Nat × AV) → Bool
  | [] => true
  | (_, x) :: r => x.lt k && envLt k r
theorem envLt_look {k : Nat} : ∀ {env : List (Nat × AV)} {t : Nat} {x : AV}, envLt k env = true → look t env = some x → x.lt k = true
  | [], _, _, _, h => by cases h
  | (u, y) :: r, t, x, he, h => by
    rw [envLt, Bool.and_eq_true] at he
    rw [look_if] at h
    split at h
    · obtain rfl := Option.some.inj h
      exact he.1
    · exact envLt_look he.2 h
def liveN (k : Nat) (lbl : List (Nat × Option LB)) : Bool := (List.range k).all fun l => ((look l lbl).getD none).isSome
def rndK (kst nx : Nat) (lbl : List (Nat × Option LB)) : Exit → St → Prop
  | .normal, s => Weak kst s ⟨[], lbl, nx⟩
  | _, _ => False
/-- A loop over a function. -/
def rngK (P : Program) (k0 : Nat) (ev : Nat → (Exit → St → Prop) → St → Prop) (g : Operand) (ps : Array Tmp) (as : Code) (Q : Exit → St → Prop) (s : St) : Prop :=
  ∃ (α : Type) (dec : α → List AV) (vals : List α) (env : List (Nat × AV)) (lbl : List α → List (Nat × Option LB)) (nx kst : Nat) (F : FuncId) (caps : List AV),
    St.ev ⟨env, lbl [], nx⟩ g = .fn F caps ∧ allFree caps = true ∧ OkSeq P F caps dec vals ∧ (∀ x, (dec x).length = ps.size) ∧ Nat.ble k0 kst = true ∧ envLt kst env = true ∧ (∀ pre, liveN kst (lbl pre) = true) ∧ Weak k0 s ⟨env, lbl [], nx⟩ ∧
    (∀ pre x, ev kst (rndK kst nx (lbl (pre ++ [x]))) (asgS as (bindS ps.toList (dec x) ⟨env, lbl pre, nx⟩))) ∧ Q .normal ⟨env, lbl vals, nx⟩

section
variable {n : Nat} {w0 : World} {M : Nat → Option Value} {N0 : NG} {φ : Nat → Option Value} {N : Nat → Prop} {U : Nat → Prop} {E : Nat → Option AV} {L : Nat → Option LB} {a : Act} {w : World}
theorem Holds.cells {base l : Nat} {B : LB} (h : Holds w φ N base l B) {v : Value} {b : Nat} (hv : φ l = some v) (hb : vblock v = some b) : ∃ o, w.heap[b]? = some o ∧ o.isCells = true := by
  cases B with
  | box cells =>
    obtain ⟨c, ty, cs, hp, hg, _⟩ := h
    rw [hv] at hp
    obtain rfl := Option.some.inj hp
    obtain rfl := Option.some.inj hb
    exact ⟨_, hg, rfl⟩
  | row e sz rows =>
    obtain ⟨u, xs, hp, _, ho, _⟩ := h
    rw [hv] at hp
    obtain rfl := Option.some.inj hp
    rcases ho.2 with ⟨rfl, _⟩ | ⟨g, cap, cur, rfl, _, hg, _⟩
    · cases hb
    · obtain rfl := Option.some.inj hb
      exact ⟨_, hg, rfl⟩
theorem Rel.own (R : Rel n w0 M N0 φ N U E L a w) {w' : World} {row : Option Nat} (hg : w.grownBy w' row) (hr : ∀ r, row = some r → w0.heap.size ≤ r ∧ ∃ o : Obj, w.heap[r]? = some o ∧ o.isCells = false) (hd : GSt N0 N a.defers w') : Rel n w0 M N0 φ N U E L a w' := by
  have hmono : ∀ x u, Rep w φ N x u → Rep w' φ N x u := fun x u h => h.mono (fun b o u hb hc => Go.cell_kept hc hg (fun r e => (hr r e).2)) (fun _ _ h => h) (fun _ h => h)
  exact ⟨hd, R.size, R.bel.grown hg (fun k hk => .inr (hr k hk).1), R.ext, fun c hc => Nat.lt_of_lt_of_le (R.low c hc) hg.size, R.nb, fun t x hx => hmono _ _ (R.env t x hx), fun k B' hk => (R.lbl k B' hk).keep hmono (fun u c hu hc => by
    obtain ⟨u', hu', _, hub⟩ := (R.lbl k B' hk).place
    rw [hu] at hu'
    obtain rfl := Option.some.inj hu'
    refine ⟨hg.block c (hub c hc).2.1 (fun e => ?_), (hub c hc).2.2⟩
    obtain ⟨_, o, ho, hn⟩ := hr c e.symm
    obtain ⟨o', ho', hy⟩ := (R.lbl k B' hk).cells hu hc
    rw [ho] at ho'
    obtain rfl := Option.some.inj ho'
    rw [hn] at hy
    cases hy) (fun _ h => h), R.mine, R.disj, R.fresh⟩
theorem GSt.get {ds : List Deferred} (h : GSt N0 N ds w) {k : Nat} {o : Obj} (hk : N0.g k = some o) : N k ∧ w.heap[k]? = some o := by
  obtain ⟨_, g, h1, h2, _⟩ := h
  exact h2 k o (h1 k o hk)
theorem live_of {kst : Nat} {lbl : List (Nat × Option LB)} (h : liveN kst lbl = true) {l : Nat} (hl : l < kst) : ∃ B, (look l lbl).getD none = some B := by
  have := (List.all_eq_true.1 h) l (List.mem_range.2 hl)
  exact Option.isSome_iff_exists.1 this
end

open Classical in
theorem rng_sound {P : Program} (hm : P.follows .mixedOrders = true) {n : Nat} {w0 : World} {M : Nat → Option Value} {N0 : NG} {k0 : Nat} {ev : Nat → (Exit → St → Prop) → St → Prop} {g : Operand} {ps : Array Tmp} {as body : Code}
    (hB : ∀ (l m : Nat) (M' : Nat → Option Value) (N0' : NG) (kst : Nat) (Qb : Exit → St → Prop) (Q' : Exit → Act → World → Prop), (∀ l, kst ≤ l → M' l = none) → (∀ e s a w, Qb e s → TelS n w0 M' N0' s a w → Q' e a w) → ∀ s a w, ev kst Qb s → TelS n w0 M' N0' s a w → body.wpIn (Fence.wide.inRound l) m P Q' a w)
    (hps : ∀ p ∈ ps.toList, p < n) (has : asgOk n as = true) (hM : ∀ l, k0 ≤ l → M l = none) {Q : Exit → St → Prop} {Q' : Exit → Act → World → Prop} (hQ : ∀ e s a w, Q e s → TelS n w0 M N0 s a w → Q' e a w) {s : St} {a : Act} {w : World} (h : rngK P k0 ev g ps as Q s) (ht : TelS n w0 M N0 s a w) : (Code.rangeFunc g ps as body).wp P Q' a w := by
  obtain ⟨α, dec, vals, env, lbl, nx, kst, F, caps, hg, hcf, hseq, hdl, hk0, henv, hlive, hweak, hround, hend⟩ := h
  have hk0 := Nat.le_of_ble_eq_true hk0
  obtain ⟨φ, N, R⟩ := hweak _ _ _ _ _ _ hM ht
  obtain ⟨vs, hval, hvl, hvr⟩ : ∃ vs : Array Value, a.eval g = .func (.func F) #[] vs ∧ caps.length = vs.size ∧ ∀ i x, caps[i]? = some x → Rep w φ N x (vs.getD i undef) := by
    have := R.ev g
    rw [evE_St, hg] at this
    generalize a.eval g = v at this
    cases this with
    | fn _ _ vs h1 h2 => exact ⟨vs, rfl, h1, h2⟩
  obtain ⟨G, hG⟩ : ∃ G : NG, G = ⟨N0.p, fun k => if N k then w.heap[k]? else none, w.heap.size, N0.lo⟩ := ⟨_, rfl⟩
  have hGp : G.p = N0.p := by rw [hG]
  have hGs : G.sz = w.heap.size := by rw [hG]
  have hGl : G.lo = N0.lo := by rw [hG]
  have hGg : ∀ k o, G.g k = some o ↔ N k ∧ w.heap[k]? = some o := by
    intro k o
    rw [hG]
    show (if N k then w.heap[k]? else none) = some o ↔ _
    split
    · rename_i hk; exact ⟨fun h => ⟨hk, h⟩, fun h => h.2⟩
    · rename_i hk; exact ⟨fun h => (by cases h), fun h => absurd h.1 hk⟩
  have hdef : a.defers.Nodup ∧ ∀ d ∈ a.defers, ∃ D, d = { target := .collected D, args := #[] } ∧ G.g D = some (.deferred (some [])) ∧ N0.lo ≤ D := by
    obtain ⟨_, g, h1, h2, h3, h4⟩ := R.defers
    refine ⟨h3, fun d hd => ?_⟩
    obtain ⟨D, e, hD, hlo⟩ := h4 d hd
    exact ⟨D, e, (hGg D _).2 (h2 D _ hD), hlo⟩
  have hgst : ∀ (N' : Nat → Prop) (W : World), w.heap.size ≤ W.heap.size → (∀ k o, G.g k = some o → N' k ∧ W.heap[k]? = some o) → GSt G N' a.defers W := fun N' W hs hh => ⟨⟨by rw [hGs]; exact hs, by rw [hGl]; exact Nat.le_trans R.defers.1.2 hs⟩, G.g, fun _ _ h => h, hh, hdef.1, by rw [hGl]; exact hdef.2⟩
  have hbase : w0.heap.size ≤ w.heap.size := R.base_le
  have hI0 : TelS n w0 M G ⟨env, lbl [], nx⟩ a w := ⟨φ, N, ⟨hgst N w (Nat.le_refl _) fun k o hk => (hGg k o).1 hk, R.size, R.bel, R.ext, R.low, fun b hb => by rw [hGp]; exact R.nb b hb, R.env, R.lbl, R.mine, R.disj, R.fresh⟩⟩
  obtain ⟨Bd, hsq⟩ : ∃ B, SeqStopsK Fence.wide 8 P F vs (fun x => (toVs (dec x)).toArray) (KpN N) (fun xs => xs = vals) (fun _ => True) B w := by
    have := hseq.2.2 w N vs.toList R.low (by rw [Array.length_toList, hvl]) (fun i x hx => by
      have h1 := hvr i x hx
      have h2 := h1.any_of_free (φ' := fun _ => none) (allFree_mem hcf x (List.mem_of_getElem? hx)) (fun _ h => h)
      simpa [Array.getD_eq_getD_getElem?, List.getD_eq_getElem?_getD] using h2) 8 (by decide)
    simpa using this
  refine (wpIn_wide (n := 9)).1 ?_
  refine wpIn_rangeFunc_ownF (F := Fence.wide) (n := 9) rfl (by decide) (gf := F) (lb := vs) hval trivial hseq.1 (encs := fun x => (toVs (dec x)).toArray) (Kp := KpN N) (S := fun xs => xs = vals) (Sp := fun _ => True) (N := Bd) (w0 := w) hsq (fun h k => fun b hb => (k b hb).trans (h b hb)) ?_ (Below.refl _ _) (fun x => by simp [toVs_len, hdl]) (fun pre W => TelS n w0 M G ⟨env, lbl pre, nx⟩ a W) (fun _ _ _ => False) ?_ (fun _ _ _ _ _ hs _ _ => hs) hI0
    (fun x => asgA as { tmps := bindA ps.toList (toVs (dec x)) a.tmps, defers := [] }) ?_ ?_ ?_ (fun D c pre W _ _ h _ => h.elim)
  · intro W l o o' hl ho hc _ k hk
    have : k ≠ l := by have := R.low k hk; omega
    exact World.putObj_heap_other this
  · intro pre W W' row ⟨φ1, N1, R1⟩ hgr hr
    refine ⟨φ1, N1, R1.own hgr (fun r e => ⟨Nat.le_trans hbase (hr r e).1, (hr r e).2⟩) ?_⟩
    have hsz : w.heap.size ≤ W.heap.size := by have := R1.defers.1.1; rwa [hGs] at this
    refine hgst N1 W' (Nat.le_trans hsz hgr.size) fun k o hk => ?_
    have h1 := R1.defers.get hk
    have hkw : k < w.heap.size := R.low k ((hGg k o).1 hk).1
    exact ⟨h1.1, (hgr.block k (R1.low k h1.1) (fun e => by have := (hr k e.symm).1; omega)).trans h1.2⟩
  · intro l x W K hK
    have e : (ps.zip ((toVs (dec x)).toArray)).foldl (fun t (q : Tmp × Value) => t.setIfInBounds q.1 q.2) a.tmps = bindA ps.toList (toVs (dec x)) a.tmps := by
      rw [← Array.foldl_toList, Array.toList_zip, bindA_zip]
    have hK' : K (asgA as { tmps := (ps.zip ((toVs (dec x)).toArray)).foldl (fun t (q : Tmp × Value) => t.setIfInBounds q.1 q.2) a.tmps, defers := [] }) W := by rw [e]; exact hK
    exact asg_wp (md := some (l, _)) hm as _ W _ has hK'
  · intro l pre x W ⟨φ1, N1, R1⟩ _
    have hsz : w.heap.size ≤ W.heap.size := by have := R1.defers.1.1; rwa [hGs] at this
    have hlv : ∀ l, l < kst → ∃ B, (St.lb ⟨env, lbl pre, nx⟩ l) = some B := fun l hl => live_of (hlive pre) hl
    obtain ⟨M', hM'⟩ : ∃ M' : Nat → Option Value, M' = fun l => if l < kst then φ1 l else none := ⟨_, rfl⟩
    have hM1 : ∀ l, kst ≤ l → M' l = none := fun l hl => by rw [hM']; exact if_neg (by omega)
    have hM2 : ∀ l v, M' l = some v → l < kst ∧ φ1 l = some v := by
      intro l v hv
      rw [hM'] at hv
      have hv : (if l < kst then φ1 l else none) = some v := hv
      split at hv
      · exact ⟨by assumption, hv⟩
      · cases hv
    have hM3 : ∀ l v, M l = some v → M' l = some v := by
      intro l v hv
      have hl : l < kst := by
        rcases Nat.lt_or_ge l k0 with h | h
        · omega
        · rw [hM l h] at hv; cases hv
      rw [hM']
      show (if l < kst then φ1 l else none) = some v
      rw [if_pos hl]
      exact R1.ext l v hv
    have hPB : ∀ b, PB M b → PB M' b := fun b ⟨l, v, h1, h2⟩ => ⟨l, v, hM3 l v h1, h2⟩
    have hPB' : ∀ b, PB M' b → (PB M b ∨ w0.heap.size ≤ b) ∧ ∃ o, W.heap[b]? = some o ∧ o.isCells = true := by
      rintro b ⟨l, v, h1, h2⟩
      obtain ⟨h3, h4⟩ := hM2 l v h1
      obtain ⟨B, hB⟩ := hlv l h3
      exact ⟨R1.mine l B v b hB h4 h2, (R1.lbl l B hB).cells h4 h2⟩
    obtain ⟨N2, hN2⟩ : ∃ N2 : Nat → Prop, N2 = fun k => N1 k ∨ (w0.heap.size ≤ k ∧ ∃ o, W.heap[k]? = some o ∧ o.isCells = false) := ⟨_, rfl⟩
    have hN12 : ∀ k, N1 k → N2 k := fun k h => by rw [hN2]; exact .inl h
    have hN2lt : ∀ k, N2 k → k < W.heap.size := by
      intro k h
      rw [hN2] at h
      rcases h with h | ⟨_, o, ho, _⟩
      · exact R1.low k h
      · exact (Array.getElem?_eq_some_iff.1 ho).1
    obtain ⟨X, hX⟩ : ∃ X : NG, X = ⟨N0.p, fun k => if N2 k then W.heap[k]? else none, W.heap.size, 0⟩ := ⟨_, rfl⟩
    have hXp : X.p = N0.p := by rw [hX]
    have hXs : X.sz = W.heap.size := by rw [hX]
    have hXg : ∀ k o, X.g k = some o ↔ N2 k ∧ W.heap[k]? = some o := by
      intro k o
      rw [hX]
      show (if N2 k then W.heap[k]? else none) = some o ↔ _
      split
      · rename_i hk; exact ⟨fun h => ⟨hk, h⟩, fun h => h.2⟩
      · rename_i hk; exact ⟨fun h => (by cases h), fun h => absurd h.1 hk⟩
    have hbel : But (PB M') w0 W := ⟨R1.bel.os, R1.bel.tape, R1.bel.output, R1.bel.size, fun k hk hn => R1.bel.block k hk (fun h => hn (hPB k h))⟩
    have hmono : ∀ y v, Rep W φ1 N1 y v → Rep W φ1 N2 y v := fun y v h => h.mono (fun _ _ _ _ h => h) (fun _ _ h => h) hN12
    have ht0 : TelS n w0 M' X ⟨env, lbl pre, nx⟩ { tmps := a.tmps, defers := [] } W := by
      refine ⟨φ1, N2, ⟨⟨⟨by rw [hXs]; exact Nat.le_refl _, by rw [hX]; exact Nat.zero_le _⟩, X.g, fun _ _ h => h, fun k o hk => (hXg k o).1 hk, List.nodup_nil, fun d hd => by cases hd⟩, R1.size, hbel, fun l v h => (hM2 l v h).2, hN2lt, ?_, fun t y hy => hmono _ _ (R1.env t y hy), fun k B hk => (R1.lbl k B hk).keep hmono (fun v b hv hb => ⟨rfl, ?_⟩) (fun _ h => h), fun k B v b hk hv hb => (R1.mine k B v b hk hv hb).imp (hPB b) id, R1.disj, R1.fresh⟩⟩
      · intro b hb
        rw [hXp]
        rw [hN2] at hb
        rcases hb with h | h
        · have := R1.nb b h
          rwa [hGp] at this
        · exact .inr h.1
      · intro hb'
        rw [hN2] at hb'
        rcases hb' with h | ⟨_, o, ho, hc⟩
        · obtain ⟨u', hu', _, hub⟩ := (R1.lbl k B hk).place
          rw [hv] at hu'
          obtain rfl := Option.some.inj hu'
          exact (hub b hb).2.2 h
        · obtain ⟨o', ho', hy⟩ := (R1.lbl k B hk).cells hv hb
          rw [ho] at ho'
          obtain rfl := Option.some.inj ho'
          rw [hc] at hy
          cases hy
    have ht1 := bind_tel ps.toList (dec x) _ _ W hps (hseq.2.1 x) ht0
    have ht2 := asgS_tel as _ _ W has ht1
    refine hB l _ M' X kst _ _ hM1 (fun e s2 a2 w2 hq ht3 => ?_) _ _ W (hround pre x) ht2
    cases e with
    | normal =>
      obtain ⟨φ3, N3, R3⟩ := (show Weak kst s2 ⟨[], lbl (pre ++ [x]), nx⟩ from hq) _ _ _ _ _ _ hM1 ht3
      have hsz3 : W.heap.size ≤ w2.heap.size := by have := R3.defers.1.1; rwa [hXs] at this
      have hkeep : ∀ k, N2 k → N3 k ∧ w2.heap[k]? = W.heap[k]? := by
        intro k hk
        have hlt := hN2lt k hk
        have := R3.defers.get ((hXg k W.heap[k]).2 ⟨hk, Array.getElem?_eq_getElem hlt⟩)
        exact ⟨this.1, this.2.trans (Array.getElem?_eq_getElem hlt).symm⟩
      have hst1 : ∀ k o, G.g k = some o → N3 k ∧ w2.heap[k]? = some o := by
        intro k o hk
        have h1 := R1.defers.get hk
        have h2 := hkeep k (hN12 k h1.1)
        exact ⟨h2.1, h2.2.trans h1.2⟩
      refine ⟨⟨hsz3, fun k o hk hc => ?_⟩, fun k hk => ?_, φ3, N3, ⟨hgst N3 w2 (Nat.le_trans hsz hsz3) hst1, R1.size, ⟨R3.bel.os, R3.bel.tape, R3.bel.output, R3.bel.size, fun k hk hn => R3.bel.block k hk (fun h => ?_)⟩, fun l v h => R3.ext l v (hM3 l v h), R3.low, fun b hb => by have := R3.nb b hb; rw [hXp] at this; rw [hGp]; exact this, fun t y hy => ?_, R3.lbl, fun k B v b hk hv hb => ?_, R3.disj, R3.fresh⟩⟩
      · rcases Nat.lt_or_ge k w0.heap.size with h | h
        · have hn : ¬ PB M' k := by
            intro hp
            obtain ⟨_, o', ho', hy⟩ := hPB' k hp
            rw [hk] at ho'
            obtain rfl := Option.some.inj ho'
            rw [hc] at hy
            cases hy
          rw [R3.bel.block k h hn, ← hbel.block k h hn]
          exact hk
        · rw [(hkeep k (by rw [hN2]; exact .inr ⟨h, o, hk, hc⟩)).2]
          exact hk
      · have hkw : k < w.heap.size := R.low k hk
        have hgk := (hGg k w.heap[k]).2 ⟨hk, Array.getElem?_eq_getElem hkw⟩
        rw [(hst1 k _ hgk).2, (R1.defers.get hgk).2]
      · rcases (hPB' k h).1 with h' | h'
        · exact hn h'
        · omega
      · have hlt := envLt_look henv hy
        have h1 : Rep W φ1 N1 y (a.tmps.getD t undef) := R1.env t y hy
        rw [← ren_id y] at h1
        have h2 : Rep W M' N1 y (a.tmps.getD t undef) := h1.unren (fun j u hj hu => by rw [hM']; show (if j < kst then φ1 j else none) = some u; rw [if_pos hj]; exact hu) hlt
        exact h2.mono (fun b o u hb hc => (World.cell?_of_block (w := W) (w' := w2) (a := ⟨b, o, none⟩) (hkeep b (hN12 b hb)).2).trans hc) (fun l v h => R3.ext l v h) (fun b hb => (hkeep b (hN12 b hb)).1)
      · rcases R3.mine k B v b hk hv hb with h | h
        · exact (hPB' b h).1
        · exact .inr h
    | _ => exact hq.elim
  · rintro D xs W hD rfl ⟨φ1, N1, R1⟩ hK
    have hsz : w.heap.size ≤ W.heap.size := by have := R1.defers.1.1; rwa [hGs] at this
    have hDlt : D < W.heap.size := (Array.getElem?_eq_some_iff.1 hK).1
    have hne : ∀ k o, G.g k = some o → k ≠ D := fun k o hk => by have := R.low k ((hGg k o).1 hk).1; omega
    have hmono : ∀ y v, Rep W φ1 N1 y v → Rep W φ1 (fun k => N1 k ∨ k = D) y v := fun y v h => h.mono (fun _ _ _ _ h => h) (fun _ _ h => h) (fun _ h => .inl h)
    refine hQ .normal _ _ W hend ⟨φ1, fun k => N1 k ∨ k = D, ⟨?_, R1.size, R1.bel, R1.ext, ?_, ?_, fun t y hy => hmono _ _ (R1.env t y hy), fun k B hk => (R1.lbl k B hk).keep hmono (fun v b hv hb => ⟨rfl, ?_⟩) (fun _ h => h), R1.mine, R1.disj, R1.fresh⟩⟩
    · refine ⟨⟨Nat.le_trans R.defers.1.1 hsz, Nat.le_trans R.defers.1.2 hsz⟩, fun k => if k = D then some (.deferred (some [])) else G.g k, fun k o hk => ?_, fun k o hk => ?_, ?_, fun d hd => ?_⟩
      · have h1 := R.defers.get hk
        have : k ≠ D := by have := R.low k h1.1; omega
        show (if k = D then _ else _) = _
        rw [if_neg this]
        exact (hGg k o).2 h1
      · have hk' : (if k = D then some (.deferred (some [])) else G.g k) = some o := hk
        by_cases e : k = D
        · rw [if_pos e] at hk'
          obtain rfl := Option.some.inj hk'
          exact ⟨.inr e, by rw [e]; exact hK⟩
        · rw [if_neg e] at hk'
          have := R1.defers.get hk'
          exact ⟨.inl this.1, this.2⟩
      · refine List.nodup_cons.2 ⟨fun hmem => ?_, hdef.1⟩
        obtain ⟨D', e, hD', _⟩ := hdef.2 _ hmem
        have : D = D' := by injection e with e1; injection e1
        exact hne D' _ hD' this.symm
      · rcases List.mem_cons.1 hd with rfl | hd
        · exact ⟨D, rfl, if_pos rfl, Nat.le_trans R.defers.1.2 hD⟩
        · obtain ⟨D', e, hD', hlo⟩ := hdef.2 d hd
          refine ⟨D', e, ?_, hlo⟩
          show (if D' = D then _ else _) = _
          rw [if_neg (hne D' _ hD')]
          exact hD'
    · rintro b (hb | rfl)
      · exact R1.low b hb
      · exact hDlt
    · rintro b (hb | rfl)
      · have := R1.nb b hb; rwa [hGp] at this
      · exact .inr (Nat.le_trans hbase hD)
    · rintro (h | rfl)
      · obtain ⟨u', hu', _, hub⟩ := (R1.lbl k B hk).place
        rw [hv] at hu'
        obtain rfl := Option.some.inj hu'
        exact (hub b hb).2.2 h
      · obtain ⟨o', ho', hy⟩ := (R1.lbl k B hk).cells hv hb
        rw [hK] at ho'
        obtain rfl := Option.some.inj ho'
        cases hy
end Go.Proofs.YtfemklaeonkidaaV

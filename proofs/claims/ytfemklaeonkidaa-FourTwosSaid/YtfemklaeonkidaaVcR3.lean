import Derived.Test.YtfemklaeonkidaaVcR2
import Derived.Great.BuildSlice
import Derived.Laws.MakeOwn
/- What the evaluator says of the model: aggregates, parts of slices, and the rest that makes nothing. -/
namespace Go.Proofs.YtfemklaeonkidaaV
open Go Go.RowKit
set_option linter.unusedVariables false
set_option linter.unusedSimpArgs false

/-- Cells, one by one. -/
def RepL (w : World) (φ : Nat → Option Value) (N : Nat → Prop) (l : List AV) (cs : Array Value) : Prop := cs.size = l.length ∧ ∀ i x, l[i]? = some x → Rep w φ N x (cs.getD i undef)

section
variable {w : World} {φ : Nat → Option Value} {N : Nat → Prop}
theorem RepL.set {l : List AV} {cs : Array Value} (h : RepL w φ N l cs) {x : AV} {v : Value} (hx : Rep w φ N x v) (o : Nat) : RepL w φ N (l.set o x) (cs.setIfInBounds o v) := by
  refine ⟨by simp [h.1], fun i y hy => ?_⟩
  rw [List.getElem?_set] at hy
  by_cases ho : o = i
  · subst ho
    rw [if_pos rfl] at hy
    split at hy
    · rename_i hl
      obtain rfl := Option.some.inj hy
      have : o < cs.size := by rw [h.1]; exact hl
      simpa [Array.getD, this] using hx
    · cases hy
  · rw [if_neg ho] at hy
    have := h.2 i y hy
    rw [Array.getD_eq_getD_getElem?] at this ⊢
    rw [Array.getElem?_setIfInBounds, if_neg ho]
    exact this

theorem RepL.setCells : ∀ (xs : List AV) (vs : List Value) (l : List AV) (cs : Array Value) (o k : Nat), xs.length = vs.length → (∀ i x, xs[i]? = some x → Rep w φ N x (vs.getD i undef)) → RepL w φ N l cs →
    RepL w φ N (Go.Proofs.YtfemklaeonkidaaV.setCells l (o + k) xs) ((vs.zipIdx k).foldl (fun cs p => cs.setIfInBounds (o + p.2) p.1) cs)
  | [], [], l, cs, o, k, _, _, h => by simpa [Go.Proofs.YtfemklaeonkidaaV.setCells] using h
  | x :: xs, v :: vs, l, cs, o, k, hl, hx, h => by
    have h0 := hx 0 x (by simp)
    have := RepL.setCells xs vs (l.set (o + k) x) (cs.setIfInBounds (o + k) v) o (k + 1) (by simpa using hl) (fun i y hy => by simpa using hx (i + 1) y (by simpa using hy)) (h.set (by simpa using h0) (o + k))
    simpa [Go.Proofs.YtfemklaeonkidaaV.setCells, Nat.add_assoc] using this
  | [], _ :: _, _, _, _, _, hl, _, _ => by simp at hl
  | _ :: _, [], _, _, _, _, hl, _, _ => by simp at hl

theorem setCells_length : ∀ (xs l : List AV) (o : Nat), (Go.Proofs.YtfemklaeonkidaaV.setCells l o xs).length = l.length
  | [], l, o => rfl
  | x :: xs, l, o => by rw [Go.Proofs.YtfemklaeonkidaaV.setCells, setCells_length xs]; simp

theorem fill_ok {place place' : Nat → Option (Nat × Nat)} (hpl : ∀ i p, place i = some p → place' i = some p) : ∀ (parts : List (Nat × AV)) (parts' : List (Nat × Value)) (l l' : List AV) (cs : Array Value), parts.length = parts'.length →
    (∀ (j : Nat) q, parts[j]? = some q → ∃ v, parts'[j]? = some (q.1, v) ∧ Rep w φ N q.2 v) → RepL w φ N l cs → buildCells place l parts = some l' → ∃ cs', Instr.fill place' cs parts' = some cs' ∧ RepL w φ N l' cs'
  | [], [], l, l', cs, _, _, h, he => by
    simp [buildCells] at he
    subst he
    exact ⟨cs, rfl, h⟩
  | (i, x) :: parts, (i', v) :: parts', l, l', cs, hl, hp, h, he => by
    obtain ⟨v', hv, hr⟩ := hp 0 (i, x) (by simp)
    simp at hv
    obtain ⟨rfl, rfl⟩ := hv
    unfold buildCells at he
    split at he
    · cases he
    · rename_i off size hpi
      split at he
      · rename_i hc
        simp only [Bool.and_eq_true] at hc
        obtain ⟨hc1, hc2, hc3⟩ := hc
        have hc1 := Nat.eq_of_beq_eq_true hc1
        have hc2 := Nat.le_of_ble_eq_true hc2
        obtain ⟨g1, g2, g3⟩ := hr.cells hc3
        have hs := RepL.setCells x.cells v.cells.toList l cs off 0 (by simp [g1]) (fun i y hy => by simpa using g2 i y hy) h
        obtain ⟨cs', e1, e2⟩ := fill_ok hpl parts parts' _ l' _ (by simpa using hl) (fun j q hq => by simpa using hp (j + 1) q (by simpa using hq)) hs he
        refine ⟨cs', ?_, e2⟩
        unfold Instr.fill
        rw [hpl _ _ hpi]
        simp only [g1, hc1, h.1]
        rw [if_neg (by simp; omega)]
        rw [← e1]
        congr 1
        have ez : ∀ (a : Array (Value × Nat)) (n : Nat), n = a.size → Array.foldl (fun cs x => cs.setIfInBounds (off + x.snd) x.fst) cs a 0 n = List.foldl (fun cs x => cs.setIfInBounds (off + x.snd) x.fst) cs a.toList := by
          intro a n hn
          subst hn
          exact (Array.foldl_toList _).symm
        rw [← Array.toList_zipIdx]
        exact ez _ _ (by simp)
      · cases he
  | [], _ :: _, _, _, _, hl, _, _, _ => by simp at hl
  | _ :: _, [], _, _, _, hl, _, _, _ => by simp at hl

theorem mapM_get {α β : Type} {f : α → Option β} : ∀ {l : List α} {r : List β}, l.mapM f = some r → ∀ (i : Nat) (x : α), l[i]? = some x → ∃ y, f x = some y ∧ r[i]? = some y
  | [], r, _, i, x, h => by simp at h
  | a :: l, r, hm, i, x, h => by
    simp only [List.mapM_cons, Option.bind_eq_bind, Option.pure_def] at hm
    cases ha : f a with
    | none => simp [ha] at hm
    | some b =>
      cases hr : l.mapM f with
      | none => simp [ha, hr] at hm
      | some r' =>
        simp [ha, hr] at hm
        subst hm
        cases i with
        | zero => simp at h; subst h; exact ⟨b, ha, rfl⟩
        | succ i => simpa using mapM_get hr i x (by simpa using h)
end

section
variable {P : Program} {tt : TypeId → Option TI} (hT : TOk P tt) {w : World} {φ : Nat → Option Value} {N : Nat → Prop} {base : Nat} {lb : Nat → Option LB}
include hT

theorem zero_rep {t : TypeId} {z : List AV} (h : tZero tt t = some z) : ∃ info v, P.info? t = some info ∧ info.zero = some v ∧ v.cells.size = info.size ∧ RepL w φ N z v.cells ∧ z.length = info.size := by
  unfold tZero at h
  split at h
  · cases h
  · rename_i i hi
    obtain rfl := Option.some.inj h
    obtain ⟨hu, info, v, h1, h2, h3, h4, h5, h6, h7, h8, _⟩ := hT t i hi
    have hsz : v.cells.size = i.zero.length := by rw [← h5]; simp
    refine ⟨info, v, h1, h4, by omega, ⟨by simp [hsz], fun j x hx => ?_⟩, by simp; omega⟩
    rw [List.getElem?_map] at hx
    cases hz : i.zero[j]? with
    | none => rw [hz] at hx; cases hx
    | some u =>
      rw [hz] at hx
      obtain rfl := Option.some.inj hx
      rw [← h5] at hz
      have : v.cells.getD j undef = u := by
        rw [Array.getD_eq_getD_getElem?]
        have hz' : v.cells[j]? = some u := by simpa using hz
        rw [hz']
        rfl
      rw [this]
      exact .raw u

theorem abuild_ok {t : TypeId} {parts : List (Nat × AV)} {x : AV} {p : Prop} {parts' : Array (Nat × Value)} (h : abuild tt t parts = .val p x) (hp : p) (hl : parts.length = parts'.toList.length)
    (hr : ∀ (j : Nat) q, parts[j]? = some q → ∃ v, parts'.toList[j]? = some (q.1, v) ∧ Rep w φ N q.2 v) : ∃ v, (Instr.build t parts').run P w = .ok v w ∧ Rep w φ N x v := by
  unfold abuild at h
  split at h
  · rename_i z n hz hs
    split at h
    · rename_i cells hb
      simp only [Out.val.injEq] at h
      obtain ⟨rfl, rfl⟩ := h
      obtain ⟨info, v, h1, h2, h3, h4, h5⟩ := zero_rep (w := w) (φ := φ) (N := N) hT hz
      have hti : ∃ i, tt t = some i := by
        unfold tZero at hz
        split at hz
        · cases hz
        · exact ⟨_, by assumption⟩
      obtain ⟨i, hi⟩ := hti
      obtain ⟨hu, _, _, _, _, _, _, _, _, _, _, hfo, _⟩ := hT t i hi
      have hagg : isAggD i.desc = true := by
        unfold tSize at hs
        rw [hi] at hs
        simp only [Option.some.injEq, Prod.mk.injEq] at hs
        exact hs.1
      cases hd : i.desc with
      | struct fs =>
        rw [hd] at hu hfo
        obtain ⟨places, hpl⟩ := hfo
        obtain ⟨cs', e1, e2⟩ := fill_ok (place' := (places.toArray[·]?)) (fun j q hq => by
          unfold placeOf at hq
          split at hq
          · rename_i o a n' hf
            obtain rfl := Option.some.inj hq
            obtain ⟨fs', fd, hu', hfd, ho, hts⟩ := tField_ok hT hf
            rw [hu] at hu'
            obtain rfl : fs = fs' := by simpa using hu'
            obtain ⟨_, _, _, ⟨inf, hinf, hn⟩, _⟩ := tSize_ok hT hts
            obtain ⟨y, hy1, hy2⟩ := mapM_get hpl j fd (by simpa using hfd)
            rw [hinf] at hy1
            simp only [Option.map_some, Option.some.injEq] at hy1
            subst hy1
            simpa [ho, hn] using hy2
          · split at hq
            · rename_i n' a m hA
              obtain ⟨e, hu', _⟩ := tArr_ok hT hA
              rw [hu] at hu'
              cases hu'
            · cases hq) parts parts'.toList z cells v.cells hl hr h4 hb
        refine ⟨.agg cs', run_build w t parts' cs' ?_, .agg _ _ e2.1.symm e2.2⟩
        simp [Program.built, h1, hu, h2, hpl]
        simpa using e1
      | array n e =>
        rw [hd] at hu
        cases hie : P.info? e with
        | none =>
          rw [hd] at hfo
          obtain ⟨_, hfo⟩ := hfo
          rw [hie] at hfo
          cases hfo
        | some ie =>
          obtain ⟨cs', e1, e2⟩ := fill_ok (place' := fun i => some (i * ie.size, ie.size)) (fun j q hq => by
            unfold placeOf at hq
            split at hq
            · rename_i o a n' hf
              obtain ⟨fs', fd, hu', hfd, ho, hts⟩ := tField_ok hT hf
              rw [hu] at hu'
              cases hu'
            · split at hq
              · rename_i n' a m hA
                obtain rfl := Option.some.inj hq
                obtain ⟨e', hu', hse⟩ := tArr_ok hT hA
                rw [hu] at hu'
                obtain ⟨rfl, rfl⟩ : n = n' ∧ e = e' := by simpa using hu'
                obtain ⟨_, _, _, ⟨inf, hinf, hn⟩, _⟩ := tSize_ok hT hse
                rw [hie] at hinf
                obtain rfl := Option.some.inj hinf
                rw [hn]
              · cases hq) parts parts'.toList z cells v.cells hl hr h4 hb
          refine ⟨.agg cs', run_build w t parts' cs' ?_, .agg _ _ e2.1.symm e2.2⟩
          simp [Program.built, h1, hu, h2, hie, e1]
      | _ => rw [hd] at hagg; simp [isAggD] at hagg
    · cases h
  · cases h

omit hT in
theorem aext_ok {a x : AV} {i : Nat} {p : Prop} {va : Value} (h : aext a i = .val p x) (hp : p) (ha : Rep w φ N a va) : ∃ v, (Instr.extract va i).run P w = .ok v w ∧ Rep w φ N x v := by
  unfold aext at h
  split at h
  · rename_i l
    split at h
    · rename_i y hy
      simp only [Out.val.injEq] at h
      obtain ⟨rfl, rfl⟩ := h
      cases ha with
      | tup l vs hl hr =>
        have := hr i _ hy
        have hlt : i < vs.size := by
          rw [← hl]
          rcases Nat.lt_or_ge i l.length with h | h
          · exact h
          · rw [List.getElem?_eq_none h] at hy; cases hy
        refine ⟨vs[i], by simp [Instr.extract, hlt], ?_⟩
        simpa [Array.getD, hlt] using this
    · cases h
  · cases h

theorem alen_ok (hL : ∀ l B, lb l = some B → Holds w φ N base l B) {t e : TypeId} {ei : TI} {ty : TypeId} {a x : AV} {p : Prop} {va : Value} (hS : tSlice tt t = some (e, ei)) (h : alen lb a = .val p x) (hp : p) (ha : Rep w φ N a va) : ∃ v, (Builtin.len_ #[t] ty #[va]).run P w = .ok v w ∧ Rep w φ N x v := by
  obtain ⟨hu, _⟩ := tSlice_ok hT hS
  have key : ∀ A n c, (Builtin.len_ #[t] ty #[.slice A n c]).run P w = .ok (.int .i64 n) w := by
    intro A n c
    simp [Builtin.len_, run_underlying hu, goInt]
  cases ha with
  | slnil sz =>
    simp only [alen, Out.val.injEq] at h
    obtain ⟨rfl, rfl⟩ := h
    exact ⟨_, key _ _ _, .raw _⟩
  | sl sz rows b o c cell hc hN hsz hw hr =>
    simp only [alen, Out.val.injEq] at h
    obtain ⟨rfl, rfl⟩ := h
    exact ⟨_, key _ _ _, .raw _⟩
  | own l v hφ h1 =>
    simp only [alen] at h
    split at h
    · rename_i e' sz rows hl
      simp only [Out.val.injEq] at h
      obtain ⟨rfl, rfl⟩ := h
      obtain ⟨v', xs, hφ', _, ho, _⟩ := hL l _ hl
      rw [hφ] at hφ'
      obtain rfl := Option.some.inj hφ'
      rcases ho.2 with ⟨rfl, hz⟩ | ⟨g, cap, cur, rfl, _⟩
      · rw [hz]; exact ⟨_, key _ _ _, .raw _⟩
      · exact ⟨_, key _ _ _, .raw _⟩
    · cases h
  | lsl l off n sz b c hφ hc =>
    simp only [alen, Out.val.injEq] at h
    obtain ⟨rfl, rfl⟩ := h
    exact ⟨_, key _ _ _, .raw _⟩
  | osl l off n sz b m c' c hφ hc hc' =>
    simp only [alen, Out.val.injEq] at h
    obtain ⟨rfl, rfl⟩ := h
    exact ⟨_, key _ _ _, .raw _⟩
  | raw v =>
    simp only [alen] at h
    split at h
    · rename_i heq; cases heq
    · rename_i heq; cases heq
    · rename_i heq; cases heq
    · rename_i heq; cases heq
    · rename_i heq
      simp only [AV.raw.injEq] at heq
      subst heq
      simp only [Out.val.injEq] at h
      obtain ⟨rfl, rfl⟩ := h
      exact ⟨_, key _ _ _, .raw _⟩
    · cases h
  | _ => simp [alen] at h

omit hT in
theorem minmaxGo_ok {isMin : Bool} {k : IntKind} : ∀ (l : List AV) (vs : List Value) (a : Int) (p : Prop) (x : AV), minmaxGo isMin k a l = .val p x → l.length = vs.length → (∀ (i : Nat) y, l[i]? = some y → Rep w φ N y (vs.getD i undef)) →
    ∃ v, (vs.foldlM (if isMin then Builtin.min2 else Builtin.max2) (.int k a)).run P w = .ok v w ∧ Rep w φ N x v
  | [], [], a, p, x, h, _, _ => by
    simp only [minmaxGo, Out.val.injEq] at h
    obtain ⟨rfl, rfl⟩ := h
    exact ⟨_, by simp, .raw _⟩
  | y :: l, u :: vs, a, p, x, h, hl, hr => by
    have h0 := hr 0 y (by simp)
    simp only [List.getD_cons_zero] at h0
    unfold minmaxGo at h
    split at h
    · rename_i heq; cases heq
    · rename_i k' b r heq
      obtain ⟨rfl, rfl⟩ := List.cons.inj heq
      have e := h0.of_raw
      subst e
      obtain ⟨v, h1, h2⟩ := minmaxGo_ok l vs _ p x h (by simpa using hl) (fun i y hy => by simpa using hr (i + 1) y (by simpa using hy))
      refine ⟨v, ?_, h2⟩
      rw [List.foldlM_cons]
      cases isMin
      · simpa [Builtin.max2] using h1
      · simpa [Builtin.min2] using h1
    · cases h
  | [], _ :: _, _, _, _, _, hl, _ => by simp at hl
  | _ :: _, [], _, _, _, _, hl, _ => by simp at hl

omit hT in
theorem aminmax_ok {isMin : Bool} {l : List AV} {vs : List Value} {p : Prop} {x : AV} (h : aminmax isMin l = .val p x) (hl : l.length = vs.length) (hr : ∀ (i : Nat) y, l[i]? = some y → Rep w φ N y (vs.getD i undef)) {ts : Array TypeId} {t : TypeId} :
    ∃ v, ((if isMin then Builtin.min_ else Builtin.max_) ts t vs.toArray).run P w = .ok v w ∧ Rep w φ N x v := by
  unfold aminmax at h
  split at h
  · rename_i k a r
    cases vs with
    | nil => simp at hl
    | cons u vs =>
      have h0 := hr 0 (.raw (.int k a)) (by simp)
      simp only [List.getD_cons_zero] at h0
      have e := h0.of_raw
      subst e
      obtain ⟨v, h1, h2⟩ := minmaxGo_ok (P := P) r vs a p x h (by simpa using hl) (fun i y hy => by simpa using hr (i + 1) y (by simpa using hy))
      refine ⟨v, ?_, h2⟩
      cases isMin
      · simpa [Builtin.max_] using h1
      · simpa [Builtin.min_] using h1
  · cases h
end
end Go.Proofs.YtfemklaeonkidaaV

import Derived.Test.YtfemklaeonkidaaVcR5
/- What the evaluator says of the model: stores, append, calls. -/
namespace Go.Proofs.YtfemklaeonkidaaV
open Go Go.RowKit
set_option linter.unusedVariables false
set_option linter.unusedSimpArgs false

theorem setCells_eq : ∀ (xs l : List AV) (o : Nat), o + xs.length ≤ l.length → setCells l o xs = l.take o ++ xs ++ l.drop (o + xs.length)
  | [], l, o, _ => by simp [setCells]
  | x :: xs, l, o, h => by
    simp only [List.length_cons] at h
    rw [setCells, setCells_eq xs (l.set o x) (o + 1) (by simp; omega)]
    have e1 : (l.set o x).take (o + 1) = l.take o ++ [x] := by
      rw [List.take_set, List.take_add_one, List.getElem?_eq_getElem (by omega)]
      rw [List.set_append, if_neg (by simp; omega), List.length_take, Nat.min_eq_left (by omega), Nat.sub_self]
      rfl
    have e2 : (l.set o x).drop (o + 1 + xs.length) = l.drop (o + (xs.length + 1)) := by
      rw [List.drop_set_of_lt (by omega)]
      congr 1
      omega
    rw [e1, e2]
    simp

theorem splice_take {α : Type} (l us : List α) (o k m : Nat) (hl : m ≤ l.length) (h : o + us.length ≤ m) : (l.take o ++ us ++ l.drop (o + us.length)).take m = (l.take m).take o ++ us ++ (l.take m).drop (o + us.length) := by
  rw [List.take_append, List.take_append, List.take_take, List.take_take]
  simp only [List.length_append, List.length_take]
  rw [Nat.min_eq_left (show o ≤ l.length by omega), Nat.min_eq_right (show o ≤ m by omega), Nat.min_eq_left (show o ≤ m by omega), List.take_of_length_le (show us.length ≤ m - o by omega), List.drop_take]

theorem flatten_set {α : Type} (sz : Nat) : ∀ (rows : List (List α)) (r : Nat) (row : List α), (∀ x ∈ rows, x.length = sz) → r < rows.length → (rows.set r row).flatten = rows.flatten.take (r * sz) ++ row ++ rows.flatten.drop ((r + 1) * sz)
  | [], r, row, _, h => by simp at h
  | a :: rows, 0, row, hs, _ => by
    have ha := hs a (by simp)
    simp [List.drop_append, ha]
  | a :: rows, r + 1, row, hs, h => by
    have ha := hs a (by simp)
    have ih := flatten_set sz rows r row (fun x hx => hs x (by simp [hx])) (by simpa using h)
    rw [List.set_cons_succ, List.flatten_cons, List.flatten_cons, ih, List.take_append, List.drop_append, ha]
    have e1 : a.take ((r + 1) * sz) = a := List.take_of_length_le (by rw [ha, Nat.add_mul]; omega)
    have e2 : a.drop ((r + 1 + 1) * sz) = [] := List.drop_eq_nil_of_le (by rw [ha, Nat.add_mul, Nat.add_mul]; omega)
    have e3 : (r + 1) * sz - sz = r * sz := by rw [Nat.add_mul]; omega
    have e4 : (r + 1 + 1) * sz - sz = (r + 1) * sz := by simp only [Nat.add_mul]; omega
    rw [e1, e2, e3, e4]
    simp

section
variable {w : World} {φ : Nat → Option Value} {N : Nat → Prop}
theorem rep_splice {l xs : List AV} {vs us : List Value} {o : Nat} (hl : l.length ≤ vs.length) (h : ∀ i x, l[i]? = some x → Rep w φ N x (vs.getD i undef)) (hx : us.length = xs.length) (h' : ∀ i x, xs[i]? = some x → Rep w φ N x (us.getD i undef)) (ho : o + xs.length ≤ l.length) :
    ∀ i y, (l.take o ++ xs ++ l.drop (o + xs.length))[i]? = some y → Rep w φ N y ((vs.take o ++ us ++ vs.drop (o + us.length)).getD i undef) := by
  intro i y hy
  have hlo : (l.take o).length = o := by rw [List.length_take]; omega
  have hvo : (vs.take o).length = o := by rw [List.length_take]; omega
  rw [List.append_assoc] at hy ⊢
  rw [List.getD_eq_getElem?_getD]
  rw [List.getElem?_append] at hy ⊢
  rw [hlo] at hy
  rw [hvo]
  by_cases hi : i < o
  · rw [if_pos hi] at hy ⊢
    rw [List.getElem?_take, if_pos hi] at hy ⊢
    have := h i y hy
    rwa [List.getD_eq_getElem?_getD] at this
  · rw [if_neg hi] at hy ⊢
    rw [List.getElem?_append] at hy ⊢
    rw [hx]
    by_cases hi2 : i - o < xs.length
    · rw [if_pos hi2] at hy ⊢
      have := h' _ y hy
      rwa [List.getD_eq_getElem?_getD] at this
    · rw [if_neg hi2] at hy ⊢
      rw [List.getElem?_drop] at hy ⊢
      have := h _ y hy
      rwa [List.getD_eq_getElem?_getD] at this
end

section
variable {P : Program} {tt : TypeId → Option TI} (hT : TOk P tt) {w : World} {φ : Nat → Option Value} {N : Nat → Prop} {base : Nat} {lb : Nat → Option LB}

/-- One block of the call's own has turned. -/
structure Turned (w w' : World) (b : Nat) : Prop where
  grown : w.grownBy w' (some b)
  size : w'.heap.size = w.heap.size

theorem turned_setRow (w : World) (b : Nat) (cs : Array Value) : Turned w (w.setRow b cs) b :=
  ⟨⟨rfl, rfl, rfl, by simp [World.setRow], fun k _ hk => setRow_other w b k cs (fun e => hk (by rw [e]))⟩, by simp [World.setRow]⟩

theorem Rep.turned {w' : World} {b : Nat} (ht : w.grownBy w' (some b)) (hN : ∀ b, N b → b < w.heap.size) (hb : ¬ N b) {x : AV} {v : Value} (h : Rep w φ N x v) : Rep w' φ N x v :=
  h.mono (fun c o v hc hv => (World.cell?_of_block (w := w) (w' := w') (a := ⟨c, o, none⟩) (ht.block c (hN c hc) (by intro e; injection e with e; subst e; exact hb hc))).trans hv) (fun _ _ h => h) (fun _ h => h)

include hT
theorem storeVar_ok {t : TypeId} {a : Bool} {n : Nat} (ht : tSize tt t = some (a, n)) {b o : Nat} {cs : Array Value} {ty : TypeId} (hg : w.heap[b]? = some (.cells cs ty (0, 0))) {v : Value} (hv : v.cells.size = n) (h1 : ∀ u ∈ v.cells.toList, u.oneCell' = true) (ho : o + n ≤ cs.size) :
    (Instr.storeAt t (.pointer (some ⟨b, o, none⟩)) v).run P w = .ok () (w.setRow b (cs.toList.take o ++ v.cells.toList ++ cs.toList.drop (o + v.cells.toList.length)).toArray) := by
  obtain ⟨d, hd, _, ⟨info, hin, hn⟩, _⟩ := tSize_ok hT ht
  have hs := run_storeCells_at P b o ty v.cells.toList 0 cs w hg (by simp; omega) h1
  simp only [Nat.add_zero] at hs
  simp [Instr.storeAt, Instr.sureAddr, storeVar, run_sizeOf' hin, hv, hn]
  simpa [hv] using hs

theorem astore_ok (hL : ∀ l B, lb l = some B → Holds w φ N base l B) (hN : ∀ b, N b → b < w.heap.size) {t : TypeId} {a x : AV} {va vx : Value} {p : Prop} {l : Nat} {B : LB} (h : astore tt lb t a x = .put p l B) (hp : p) (ha : Rep w φ N a va) (hx : Rep w φ N x vx) :
    ∃ w' b v, (Instr.storeAt t va vx).run P w = .ok () w' ∧ φ l = some v ∧ vblock v = some b ∧ base ≤ b ∧ b < w.heap.size ∧ ¬ N b ∧ Turned w w' b ∧ Holds w' φ N base l B ∧ ∃ B0, lb l = some B0 := by
  unfold astore at h
  split at h
  · cases h
  · rename_i ag n ht
    cases ha with
    | loc l' off b hφ =>
      simp only at h
      split at h
      · rename_i cells hl
        simp only [Out.put.injEq] at h
        obtain ⟨rfl, rfl, rfl⟩ := h
        obtain ⟨p1, p2, p3⟩ := hp
        obtain ⟨b', ty, cs, hφ', hg, hs, hr, hb, hNb⟩ := hL _ _ hl
        rw [hφ] at hφ'
        simp only [Option.some.injEq, Value.pointer.injEq, Addr.mk.injEq, and_true] at hφ'
        subst hφ'
        obtain ⟨g1, g2, g3⟩ := hx.cells p2
        have hrun := storeVar_ok hT ht hg (v := vx) (o := off) (by omega) g3 (by omega)
        have htn := turned_setRow w b (cs.toList.take off ++ vx.cells.toList ++ cs.toList.drop (off + vx.cells.toList.length)).toArray
        have hlt := (Array.getElem?_eq_some_iff.1 hg).1
        refine ⟨_, b, _, hrun, hφ, rfl, hb, hlt, hNb, htn, ⟨b, ty, _, hφ, setRow_heap w b cs _ ty (0, 0) hg, ?_, fun i y hy => ?_, hb, hNb⟩, _, hl⟩
        · rw [setCells_length]
          simp
          omega
        · rw [setCells_eq _ _ _ (by omega)] at hy
          have := rep_splice (w := w) (φ := φ) (N := N) (l := cells) (vs := cs.toList) (us := vx.cells.toList) (xs := x.cells) (o := off) (by simp; omega) (fun i x hx => by simpa using hr i x hx) (by simpa using g1) (fun i x hx => by simpa using g2 i x hx) (by omega) i y hy
          have := this.turned htn.grown hN hNb
          simpa using this
      · cases h
    | rloc l' sz i f b n' c hφ =>
      simp only at h
      split at h
      · rename_i e sz' rows hl
        split at h
        · rename_i cells hi
          simp only [Out.put.injEq] at h
          obtain ⟨rfl, rfl, rfl⟩ := h
          obtain ⟨rfl, p1, p2, p3⟩ := hp
          obtain ⟨v, xs, hφ', h1', ho, hs, hr, hNb⟩ := hL _ _ hl
          have hi' := getElem?_lt hi
          have hcl : cells.length = sz := hs cells (List.mem_of_getElem? hi)
          rcases ho.2 with ⟨_, h0⟩ | ⟨g, cap, cur, hv, hb, hg, hnc, hcm, hcs, htake⟩
          · omega
          · rw [hφ, hv] at hφ'
            simp only [Option.some.injEq, Value.slice.injEq, Addr.mk.injEq, and_true] at hφ'
            obtain ⟨rfl, rfl, rfl⟩ := hφ'
            have hNb := hNb b (by rw [hv]; rfl)
            obtain ⟨g1, g2, g3⟩ := hx.cells p2
            have hle : (i + 1) * sz ≤ rows.length * sz := Nat.mul_le_mul_right _ hi'
            have hle2 : rows.length * sz ≤ c * sz := Nat.mul_le_mul_right _ hnc
            rw [Nat.add_mul] at hle
            have hrun := storeVar_ok hT ht hg (v := vx) (o := i * sz + f) (by omega) g3 (by omega)
            have htn := turned_setRow w b (cur.toList.take (i * sz + f) ++ vx.cells.toList ++ cur.toList.drop (i * sz + f + vx.cells.toList.length)).toArray
            have hlt := (Array.getElem?_eq_some_iff.1 hg).1
            have hxl : xs.length = rows.length * sz := ho.1
            have hul : vx.cells.toList.length = x.cells.length := by simpa using g1
            have hsp := splice_take cur.toList vx.cells.toList (i * sz + f) 0 (rows.length * sz) (by simp; omega) (by omega)
            rw [htake] at hsp
            have hfl : (rows.set i (setCells cells f x.cells)).flatten = rows.flatten.take (i * sz + f) ++ x.cells ++ rows.flatten.drop (i * sz + f + x.cells.length) := by
              have hrl := flat_len sz rows hs
              rw [flatten_set sz rows i _ hs hi', setCells_eq _ _ _ (by omega)]
              have hce : cells = (rows.flatten.drop (i * sz)).take sz := by
                apply List.ext_getElem?
                intro k
                rw [List.getElem?_take]
                split
                · rename_i hk
                  rw [List.getElem?_drop, flat_get sz rows i cells hs hi k hk]
                · rw [List.getElem?_eq_none (by omega)]
              have e1 : rows.flatten.take (i * sz) ++ cells.take f = rows.flatten.take (i * sz + f) := by
                rw [List.take_add, hce, List.take_take, Nat.min_eq_left (by omega)]
              have e2 : cells.drop (f + x.cells.length) ++ rows.flatten.drop ((i + 1) * sz) = rows.flatten.drop (i * sz + f + x.cells.length) := by
                rw [hce, List.drop_take, List.drop_drop]
                have e3 : rows.flatten.drop ((i + 1) * sz) = (rows.flatten.drop (i * sz + (f + x.cells.length))).drop (sz - (f + x.cells.length)) := by
                  rw [List.drop_drop]
                  congr 1
                  rw [Nat.add_mul]
                  omega
                rw [e3, List.take_append_drop, Nat.add_assoc]
              rw [← e1, ← e2]
              simp only [List.append_assoc]
            refine ⟨_, b, _, hrun, hφ, rfl, hb, hlt, hNb, htn, ⟨_, xs.take (i * sz + f) ++ vx.cells.toList ++ xs.drop (i * sz + f + vx.cells.toList.length), hφ, rfl, ⟨?_, .inr ⟨b, c, _, by rw [List.length_set], hb, setRow_heap w b cur _ e (0, 0) hg, by rw [List.length_set]; exact hnc, hcm, ?_, ?_⟩⟩, ?_, fun j y hy => ?_, ?_⟩, _, hl⟩
            · rw [List.length_set]
              simp
              omega
            · simp
              omega
            · rw [List.length_set]
              exact hsp
            · intro r hr'
              rcases List.mem_or_eq_of_mem_set hr' with h | rfl
              · exact hs r h
              · rw [setCells_length, hcl]
            · rw [hfl] at hy
              have := rep_splice (w := w) (φ := φ) (N := N) (l := rows.flatten) (vs := xs) (us := vx.cells.toList) (xs := x.cells) (o := i * sz + f) (by rw [flat_len sz rows hs]; omega) hr (by simpa using g1) (fun i x hx => by simpa using g2 i x hx) (by rw [flat_len sz rows hs]; omega) j y hy
              exact this.turned htn.grown hN hNb
            · intro b' hb'
              simp only [Value.ownBlock, Option.some.injEq] at hb'
              subst hb'
              exact hNb
        · cases h
      · cases h
    | _ => simp at h
end
end Go.Proofs.YtfemklaeonkidaaV

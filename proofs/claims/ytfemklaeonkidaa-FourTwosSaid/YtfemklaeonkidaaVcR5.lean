import Derived.Test.YtfemklaeonkidaaVcR4
/- What the evaluator says of the model: what makes memory, writes it, or calls. -/
namespace Go.Proofs.YtfemklaeonkidaaV
open Go Go.RowKit
set_option linter.unusedVariables false
set_option linter.unusedSimpArgs false

def upd (φ : Nat → Option Value) (l : Nat) (v : Value) : Nat → Option Value := fun k => if k = l then some v else φ k
theorem upd_same {φ : Nat → Option Value} {l : Nat} {v : Value} : upd φ l v l = some v := by simp [upd]
theorem upd_ext {φ : Nat → Option Value} {l : Nat} {v : Value} (h : φ l = none) : ∀ k u, φ k = some u → upd φ l v k = some u := by
  intro k u hk
  unfold upd
  split
  · rename_i e
    subst e
    rw [h] at hk
    cases hk
  · exact hk

theorem cell_alloc {w : World} {o : Obj} {b off : Nat} {v : Value} (hb : b < w.heap.size) (h : w.cell? ⟨b, off, none⟩ = some v) : (w.alloc o).cell? ⟨b, off, none⟩ = some v := by
  rw [← h]
  exact World.cell?_of_block (w := w) (Below.heap_alloc w o b hb)

section
variable {P : Program} {tt : TypeId → Option TI} (hT : TOk P tt) {w : World} {φ : Nat → Option Value} {N : Nat → Prop} {base : Nat} {lb : Nat → Option LB} {ev : Operand → AV} {ρ : Operand → Value}

/-- What is made: a block, and a value that points to it. -/
def Made (w : World) (φ : Nat → Option Value) (N : Nat → Prop) (base : Nat) (B : LB) (f : Nat → AV) (v : Value) (o' : Obj) : Prop :=
  vblock v = some w.heap.size ∧ ∀ l, φ l = none → Holds (w.alloc o') (upd φ l v) N base l B ∧ Rep (w.alloc o') (upd φ l v) N (f l) v

theorem made_box (hN : ∀ b, N b → b < w.heap.size) (hb : base ≤ w.heap.size) {cells : List AV} {cs : Array Value} {ty : TypeId} (h : RepL w φ N cells cs) : Made w φ N base (.box cells) (fun l => .loc l 0) (.pointer (some ⟨w.heap.size, 0, none⟩)) (.cells cs ty) := by
  refine ⟨rfl, fun l hl => ⟨⟨w.heap.size, ty, cs, upd_same, heap_alloc_new w _, h.1, fun i x hx => (h.2 i x hx).mono (fun b o v hb' hc => cell_alloc (hN b hb') hc) (upd_ext hl) (fun _ h => h), hb, fun hn => Nat.lt_irrefl _ (hN _ hn)⟩, .loc l 0 _ upd_same⟩⟩

theorem made_row (hN : ∀ b, N b → b < w.heap.size) (hb : base ≤ w.heap.size) {rows : List (List AV)} {cs : Array Value} {e : TypeId} {sz cap : Nat} (hs : ∀ r ∈ rows, r.length = sz) (hcap : rows.length ≤ cap) (hm : cap ≤ maxLen) (hcs : cs.size = cap * sz)
    (h : ∀ i x, rows.flatten[i]? = some x → Rep w φ N x (cs.getD i undef)) : Made w φ N base (.row e sz rows) .own (.slice (some ⟨w.heap.size, 0, none⟩) rows.length cap) (.cells cs e) := by
  have hfl := flat_len sz rows hs
  have hle : rows.length * sz ≤ cap * sz := Nat.mul_le_mul_right _ hcap
  refine ⟨rfl, fun l hl => ⟨⟨_, cs.toList.take (rows.length * sz), upd_same, rfl, ⟨by rw [List.length_take, show cs.toList.length = cap * sz by simp [hcs]]; exact Nat.min_eq_left hle, .inr ⟨w.heap.size, cap, cs, rfl, hb, heap_alloc_new w _, hcap, hm, hcs, rfl⟩⟩, hs, fun i x hx => ?_, fun b hb' => ?_⟩, .own l _ upd_same rfl⟩⟩
  · have hi := getElem?_lt hx
    have := (h i x hx).mono (w' := w.alloc (.cells cs e)) (φ' := upd φ l (.slice (some ⟨w.heap.size, 0, none⟩) rows.length cap)) (N' := N) (fun b o v hb' hc => cell_alloc (hN b hb') hc) (upd_ext hl) (fun _ h => h)
    have hlt : i < cs.size := by omega
    have e : (cs.toList.take (rows.length * sz)).getD i undef = cs.getD i undef := by
      rw [List.getD_eq_getElem?_getD, List.getElem?_take, if_pos (by omega), Array.getD_eq_getD_getElem?]
      simp
    rw [e]
    exact this
  · simp only [Value.ownBlock, Option.some.injEq] at hb'
    subst hb'
    exact fun hn => Nat.lt_irrefl _ (hN _ hn)

include hT
theorem alloc_ok (hN : ∀ b, N b → b < w.heap.size) (hb : base ≤ w.heap.size) {e : TypeId} {z : List AV} (h : tZero tt e = some z) : ∃ v o', (Instr.alloc e true (.tuple #[])).run P w = .ok v (w.alloc o') ∧ Made w φ N base (.box z) (fun l => .loc l 0) v o' := by
  obtain ⟨info, v, h1, h2, h3, h4, h5⟩ := zero_rep (w := w) (φ := φ) (N := N) hT h
  refine ⟨_, .cells v.cells e, ?_, made_box hN hb h4⟩
  simp [Instr.alloc, zeroValue, typeInfo, h1, h2, newVar, newRow]

omit hT in
theorem box_ok (hN : ∀ b, N b → b < w.heap.size) (hb : base ≤ w.heap.size) {e : TypeId} {x : AV} {v : Value} (hx : Rep w φ N x v) (h1 : allOne x.cells = true) : ∃ u o', (Instr.box e v).run P w = .ok u (w.alloc o') ∧ Made w φ N base (.box x.cells) (fun l => .loc l 0) u o' := by
  obtain ⟨g1, g2, g3⟩ := hx.cells h1
  refine ⟨_, .cells v.cells e, ?_, made_box hN hb ⟨g1, g2⟩⟩
  simp [Instr.box, newVar, newRow]

theorem reps_rep {e : TypeId} {ei : TI} (he : tt e = some ei) (hpos : 0 < ei.size) (n : Nat) : ∃ info z, P.info? e = some info ∧ info.size = ei.size ∧ info.bytes = ei.bytes ∧ info.zero = some z ∧ z.cells.size = ei.size ∧
    (reps n (ei.zero.map .raw)).length = n * ei.size ∧ ∀ m, n * ei.size ≤ m → ∀ i x, (reps n (ei.zero.map .raw))[i]? = some x → Rep w φ N x ((madeCells z.cells m).getD i undef) := by
  obtain ⟨_, info, z, h1, h2, h3, h4, h5, h6, h7, h8, _⟩ := hT e ei he
  have hzs : z.cells.size = ei.size := by
    rw [← h7, ← h5]
    simp
  have hlen : (reps n (ei.zero.map AV.raw)).length = n * ei.size := by simp [reps, h7]
  refine ⟨info, z, h1, h2, h3, h4, hzs, hlen, fun m hm i x hx => ?_⟩
  have hi := getElem?_lt hx
  rw [hlen] at hi
  have hx' : (ei.zero.map AV.raw)[i % ei.size]? = some x := by
    have hd : i = (i / ei.size) * ei.size + i % ei.size := by
      have := Nat.div_add_mod i ei.size
      rw [Nat.mul_comm] at this
      exact this.symm
    have hq : i / ei.size < n := (Nat.div_lt_iff_lt_mul hpos).2 hi
    rw [hd] at hx
    have := flat_get ei.size (List.replicate n (ei.zero.map AV.raw)) (i / ei.size) (ei.zero.map AV.raw) (fun r hr => by rw [List.eq_of_mem_replicate hr]; simp [h7]) (by rw [List.getElem?_replicate, if_pos hq]) (i % ei.size) (Nat.mod_lt _ hpos)
    unfold reps at hx
    rw [this] at hx
    exact hx
  rw [List.getElem?_map] at hx'
  have hml : i % ei.size < z.cells.size := by rw [hzs]; exact Nat.mod_lt _ hpos
  have hv : (madeCells z.cells m).getD i undef = z.cells[i % ei.size] := by
    have hm' : i < m := by omega
    rw [Array.getD_eq_getD_getElem?, madeCells, Array.getElem?_map, Array.getElem?_range, if_pos hm', hzs]
    simp [hml]
  rw [hv]
  have hz : ei.zero[i % ei.size]? = some z.cells[i % ei.size] := by
    rw [← h5]
    simp [hml]
  rw [hz] at hx'
  obtain rfl := Option.some.inj hx'
  exact .raw _

theorem buildSlice_ok (hN : ∀ b, N b → b < w.heap.size) (hb : base ≤ w.heap.size) {t : TypeId} {len : Nat} {parts : List (Nat × AV)} {parts' : Array (Nat × Value)} {p : Prop} {B : LB} {f : Nat → AV} (h : abuildSlice tt t len parts = .new p B f) (hp : p) (hl : parts.length = parts'.toList.length)
    (hr : ∀ (j : Nat) q, parts[j]? = some q → ∃ v, parts'.toList[j]? = some (q.1, v) ∧ Rep w φ N q.2 v) : ∃ v o', (Instr.buildSlice t len parts').run P w = .ok v (w.alloc o') ∧ Made w φ N base B f v o' := by
  unfold abuildSlice at h
  split at h
  · rename_i e ei hS
    obtain ⟨hu, he⟩ := tSlice_ok hT hS
    split at h
    · rename_i cells hbc
      simp only [Out.new.injEq] at h
      obtain ⟨rfl, rfl, rfl⟩ := h
      obtain ⟨p1, p2, p3⟩ := hp
      obtain ⟨info, z, h1, h2, h3, h4, h5, h6, h7⟩ := reps_rep (w := w) (φ := φ) (N := N) hT he p3 len
      have hbl : ∀ (parts : List (Nat × AV)) (l l' : List AV), buildCells (fun i => some (i * ei.size, ei.size)) l parts = some l' → l'.length = l.length := by
        intro parts
        induction parts with
        | nil => intro l l' h; simp [buildCells] at h; rw [h]
        | cons q r ih =>
          intro l l' h
          obtain ⟨i, x⟩ := q
          unfold buildCells at h
          simp only at h
          split at h
          · rw [ih _ _ h, setCells_length]
          · cases h
      have hcl : cells.length = len * ei.size := by rw [hbl _ _ _ hbc, h6]
      obtain ⟨c1, c2, c3⟩ := cutRows_ok ei.size len cells (by omega)
      obtain ⟨cs', e1, e2⟩ := fill_ok (place' := fun i => some (i * info.size, info.size)) (fun i q hq => by rw [h2]; exact hq) parts parts'.toList _ cells (madeCells z.cells (len * info.size)) hl hr ⟨by rw [size_madeCells, h6, h2], h7 _ (by rw [h2]; exact Nat.le_refl _)⟩ hbc
      have hrow := made_row (w := w) (φ := φ) (N := N) (base := base) (e := e) (sz := ei.size) (cap := len) hN hb c2 (by omega) (by
        simp only [maxLen]
        have : len * 1 ≤ len * ei.size := Nat.mul_le_mul_left _ p3
        omega) (by rw [e2.1, hcl]) (fun i x hx => e2.2 i x (by
          rw [c3, List.getElem?_take] at hx
          split at hx
          · exact hx
          · cases hx))
      rw [c1] at hrow
      by_cases hz : len * info.size = 0
      · have hl0 : len = 0 := by
          rcases Nat.mul_eq_zero.1 hz with h | h
          · exact h
          · omega
        refine ⟨_, _, ?_, hrow⟩
        subst hl0
        have e1' : Instr.fill (fun i => some (i * info.size, info.size)) #[] parts'.toList = some cs' := by
          rw [← e1]
          congr 1
          simp [madeCells]
        have e1'' : Instr.fill (fun i => some (i * info.size, info.size)) (Array.map (fun x => (default : Value)) (Array.range 0)) parts'.toList = some cs' := by
          rw [← e1']
          congr 1
          exact Array.eq_empty_of_size_eq_zero (by simp)
        simp [Instr.buildSlice, run_underlying hu, sizeOf, typeInfo, h1, e1'', newRow]
      · exact ⟨_, _, run_buildSlice w t e len parts' cs' info z hu h1 h4 (by rw [h2]; omega) hz e1, hrow⟩
    · cases h
  · cases h

theorem makeSlice_ok (hN : ∀ b, N b → b < w.heap.size) (hb : base ≤ w.heap.size) {t : TypeId} {l c : AV} {vl vc : Value} {p : Prop} {B : LB} {f : Nat → AV} (h : amakeSlice tt t l c = .new p B f) (hp : p) (hl : Rep w φ N l vl) (hc : Rep w φ N c vc) :
    ∃ v o', (Instr.makeSlice t vl vc).run P w = .ok v (w.alloc o') ∧ Made w φ N base B f v o' := by
  unfold amakeSlice at h
  split at h
  · rename_i e ei k n k' m hS
    have e1 := hl.of_raw
    have e2 := hc.of_raw
    subst e1 e2
    obtain ⟨hu, he⟩ := tSlice_ok hT hS
    simp only [Out.new.injEq] at h
    obtain ⟨rfl, rfl, rfl⟩ := h
    obtain ⟨p1, p2, p3, p4, p5, p6⟩ := hp
    obtain ⟨info, z, h1, h2, h3, h4, h5, h6, h7⟩ := reps_rep (w := w) (φ := φ) (N := N) hT he p5 n.toNat
    have hrun := run_make (P := P) w t e info z hu h1 h4 k k' n m p1 p2 (by rw [h3]; exact p3) p4
    have hs : ∀ r ∈ List.replicate n.toNat (ei.zero.map AV.raw), r.length = ei.size := by
      intro r hr
      rw [List.eq_of_mem_replicate hr]
      obtain ⟨_, _, _, _, _, _, _, _, _, h, _⟩ := hT e ei he
      simp [h]
    have hrow := made_row (w := w) (φ := φ) (N := N) (base := base) (e := e) (sz := ei.size) (cap := m.toNat) hN hb hs (by simp; omega) (by simp only [maxLen]; omega) (cs := madeCells z.cells (m.toNat * info.size)) (by rw [size_madeCells, h2])
      (fun i x hx => h7 _ (by rw [h2]; exact Nat.mul_le_mul_right _ (by omega)) i x hx)
    rw [List.length_replicate] at hrow
    exact ⟨_, _, hrun, hrow⟩
  · cases h
end
end Go.Proofs.YtfemklaeonkidaaV

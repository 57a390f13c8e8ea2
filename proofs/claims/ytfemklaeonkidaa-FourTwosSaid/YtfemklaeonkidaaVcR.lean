import Derived.Test.YtfemklaeonkidaaVcA
/- What the evaluator says of the model: values, and operations that make nothing. -/
namespace Go.Proofs.YtfemklaeonkidaaV
open Go Go.RowKit
set_option linter.unusedVariables false
set_option linter.unusedSimpArgs false

theorem Rep.mono {w w' : World} {φ φ' : Nat → Option Value} {N N' : Nat → Prop} (hw : ∀ b o v, N b → w.cell? ⟨b, o, none⟩ = some v → w'.cell? ⟨b, o, none⟩ = some v) (hφ : ∀ l v, φ l = some v → φ' l = some v) (hN : ∀ b, N b → N' b)
    {x : AV} {v : Value} (h : Rep w φ N x v) : Rep w' φ' N' x v := by
  induction h with
  | any v => exact .any v
  | raw v => exact .raw v
  | agg l vs hl _ ih => exact .agg l vs hl ih
  | tup l vs hl _ ih => exact .tup l vs hl ih
  | fn f caps vs hl _ ih => exact .fn f caps vs hl ih
  | iface t x v _ ih => exact .iface t x v ih
  | slnil sz => exact .slnil sz
  | sl sz rows b o c cell hc hb hsz hc' _ ih => exact .sl sz rows b o c cell hc (hN b hb) hsz (fun k hk => hw _ _ _ hb (hc' k hk)) ih
  | box cells off b o cell hb hc' _ ih => exact .box cells off b o cell (hN b hb) (fun k hk => hw _ _ _ hb (hc' k hk)) ih
  | loc l off b h => exact .loc l off b (hφ _ _ h)
  | own l v h h1 => exact .own l v (hφ _ _ h) h1
  | rloc l sz i f b n c h => exact .rloc l sz i f b n c (hφ _ _ h)
  | lsl l off n sz b c h hc => exact .lsl l off n sz b c (hφ _ _ h) hc
  | osl l off n sz b m c' c h hc hc' => exact .osl l off n sz b m c' c (hφ _ _ h) hc hc'

theorem Rep.keep {w w' : World} {φ : Nat → Option Value} {N : Nat → Prop} (hb : Below w.heap.size w w') (hN : ∀ b, N b → b < w.heap.size) {x : AV} {v : Value} (h : Rep w φ N x v) : Rep w' φ N x v :=
  h.mono (fun b o v hb' hc => (hb.cell (p := ⟨b, o, none⟩) (hN b hb')).trans hc) (fun _ _ h => h) (fun _ h => h)

theorem Rep.one {w : World} {φ : Nat → Option Value} {N : Nat → Prop} {x : AV} {v : Value} (h : Rep w φ N x v) (h1 : x.one = true) : v.oneCell' = true := by
  cases h <;> first | exact h1 | rfl | assumption | (simp [AV.one] at h1)

theorem Rep.of_raw {w : World} {φ : Nat → Option Value} {N : Nat → Prop} {u v : Value} (h : Rep w φ N (.raw u) v) : v = u := by cases h; rfl

theorem allOne_mem {l : List AV} (h : allOne l = true) : ∀ x ∈ l, x.one = true := by
  induction l with
  | nil => intro x hx; cases hx
  | cons a r ih =>
    rw [allOne, Bool.and_eq_true] at h
    intro x hx
    rcases List.mem_cons.1 hx with rfl | hx
    · exact h.1
    · exact ih h.2 x hx

theorem cells_of_one {v : Value} (h : v.oneCell' = true) : v.cells = #[v] := by
  cases v <;> first | rfl | (simp [Value.oneCell'] at h)

/-- A value's cells, one by one. -/
theorem Rep.cells {w : World} {φ : Nat → Option Value} {N : Nat → Prop} {x : AV} {v : Value} (h : Rep w φ N x v) (h1 : allOne x.cells = true) :
    v.cells.size = x.cells.length ∧ (∀ i y, x.cells[i]? = some y → Rep w φ N y (v.cells.getD i undef)) ∧ (∀ u ∈ v.cells.toList, u.oneCell' = true) := by
  by_cases hx : ∃ l, x = .agg l
  · obtain ⟨l, rfl⟩ := hx
    cases h with
    | agg l vs hl h =>
      refine ⟨hl.symm, h, fun u hu => ?_⟩
      have hu : u ∈ vs.toList := hu
      obtain ⟨i, hi, rfl⟩ := List.getElem_of_mem hu
      have hi' : i < vs.size := by simpa using hi
      have hil : i < l.length := by omega
      have := (h i l[i] (List.getElem?_eq_getElem hil)).one (allOne_mem h1 _ (List.getElem_mem hil))
      simpa [Array.getD, hi'] using this
  · have hc : x.cells = [x] := by
      cases x <;> first | rfl | (exact (hx ⟨_, rfl⟩).elim)
    rw [hc] at h1 ⊢
    have ho : x.one = true := by simpa [allOne] using h1
    have hv := h.one ho
    rw [cells_of_one hv]
    refine ⟨rfl, fun i y hy => ?_, fun u hu => ?_⟩
    · cases i with
      | zero => simp at hy; subst hy; exact h
      | succ i => simp at hy
    · simp at hu; subst hu; exact hv

/-- A struct's fields, where they lie. -/
def fieldsOk (P : Program) : TypeDesc → Prop
  | .struct fs => ∃ places, fs.toList.mapM (fun f => (P.info? f.type).map fun i => (f.offset, i.size)) = some places
  | .array _ e => ∃ info, P.info? e = some info
  | _ => True
/-- Values of ints alone are compared cell by cell. -/
def EqT (P : Program) (t : TypeId) (n : Nat) : Prop := P.eqGuardType P.depth t = false ∧ ∃ m, m ≤ 9 ∧ ∀ (d : Nat) (l l' : List Int) (w : World), l.length = n → l'.length = n → (Op.equalIn (d + m) t (.agg (l.map (Value.int .i64)).toArray) (.agg (l'.map (Value.int .i64)).toArray)).run P w = .ok (decide (l = l')) w
/-- A type's row, as told, is the program's. -/
def Tok (P : Program) (t : TypeId) (i : TI) : Prop :=
  P.underlying t = some i.desc ∧ ∃ info z, P.info? t = some info ∧ info.size = i.size ∧ info.bytes = i.bytes ∧ info.zero = some z ∧ z.cells.toList = i.zero ∧ (isAggD i.desc = true → z = .agg i.zero.toArray) ∧ i.zero.length = i.size ∧ (isAggD i.desc = false → i.size = 1) ∧ fieldsOk P i.desc ∧ (i.eq = true → EqT P t i.size)
def TOk (P : Program) (tt : TypeId → Option TI) : Prop := ∀ t i, tt t = some i → Tok P t i

section
variable {P : Program} {tt : TypeId → Option TI} (hT : TOk P tt) {w : World} {φ : Nat → Option Value} {N : Nat → Prop}
include hT

theorem tSize_ok {t : TypeId} {a : Bool} {n : Nat} (h : tSize tt t = some (a, n)) : ∃ d, P.underlying t = some d ∧ isAggD d = a ∧ (∃ info, P.info? t = some info ∧ info.size = n) ∧ (a = false → n = 1) := by
  unfold tSize at h
  cases hi : tt t with
  | none => rw [hi] at h; cases h
  | some i =>
    rw [hi] at h
    simp only [Option.some.injEq, Prod.mk.injEq] at h
    obtain ⟨rfl, rfl⟩ := h
    obtain ⟨hu, info, z, h1, h2, h3, h4, h5, h6, h7, h8, _⟩ := hT t i hi
    exact ⟨_, hu, rfl, ⟨info, h1, h2⟩, h8⟩

omit hT in
theorem run_isAgg {t : TypeId} {d : TypeDesc} (h : P.underlying t = some d) : (isAgg t).run P w = .ok (isAggD d) w := by
  unfold isAgg
  simp only [Sem.run_bind, run_underlying h]
  cases d <;> rfl
omit hT in
theorem run_sizeOf' {t : TypeId} {info : TypeInfo} (h : P.info? t = some info) : (sizeOf t).run P w = .ok info.size w := by
  simp [sizeOf, typeInfo, h]
end

theorem addr_add (b o k : Nat) : (⟨b, o, none⟩ : Addr).add k = ⟨b, o + k, none⟩ := by
  unfold Addr.add
  split
  · next h => subst h; rfl
  · rfl

section
variable {P : Program} {tt : TypeId → Option TI} (hT : TOk P tt) {w : World} {φ : Nat → Option Value} {N : Nat → Prop}
include hT

/-- What is read of cells. -/
theorem load_ok {t : TypeId} {ts : Bool × Nat} (ht : tSize tt t = some ts) {cells : List AV} {off b o : Nat} {cell : Nat → Value} (hw : ∀ k, k < cells.length → w.cell? ⟨b, o + k, none⟩ = some (cell k)) (h : ∀ k x, cells[k]? = some x → Rep w φ N x (cell k))
    {p : Prop} {x : AV} (he : pieceOf ts cells off = .val p x) (hp : p) : ∃ v, (loadVar t ⟨b, o + off, none⟩).run P w = .ok v w ∧ Rep w φ N x v := by
  obtain ⟨a, n⟩ := ts
  obtain ⟨d, hd, ha, ⟨info, hi, hn⟩, h1⟩ := tSize_ok hT ht
  unfold loadVar
  simp only [Sem.run_bind, run_isAgg hd, ha, Result.andThen]
  cases a with
  | true =>
    simp only [pieceOf, Out.val.injEq] at he
    obtain ⟨rfl, rfl⟩ := he
    simp only [if_true, Sem.run_bind, run_sizeOf' hi, hn, Result.andThen]
    have hl := run_loadCells (P := P) w (⟨b, o + off, none⟩ : Addr) n (fun k => cell (off + k)) (fun j hj => by
      rw [addr_add, Nat.add_assoc]
      exact hw _ (by omega))
    rw [hl]
    refine ⟨_, rfl, .agg _ _ (by simp; omega) fun i x hx => ?_⟩
    rw [List.getElem?_take] at hx
    split at hx
    · rename_i hin
      rw [List.getElem?_drop] at hx
      have := h _ _ hx
      simpa [Array.getD, hin] using this
    · cases hx
  | false =>
    simp only [pieceOf, Out.val.injEq] at he
    obtain ⟨rfl, rfl⟩ := he
    have hc := hw off (by omega)
    refine ⟨cell off, ?_, ?_⟩
    · simp [load, Sem.run, hc]
    · rw [List.getD_eq_getElem?_getD, List.getElem?_eq_getElem hp]
      exact h _ _ (List.getElem?_eq_getElem hp)
end
end Go.Proofs.YtfemklaeonkidaaV

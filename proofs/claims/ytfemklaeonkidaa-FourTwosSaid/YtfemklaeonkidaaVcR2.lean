import Derived.Test.YtfemklaeonkidaaVcR
/- What the evaluator says of the model: operations that make nothing. -/
namespace Go.Proofs.YtfemklaeonkidaaV
open Go Go.RowKit
set_option linter.unusedVariables false
set_option linter.unusedSimpArgs false

theorem flat_get {α : Type} (sz : Nat) : ∀ (rows : List (List α)) (i : Nat) (r : List α), (∀ r ∈ rows, r.length = sz) → rows[i]? = some r → ∀ k, k < sz → rows.flatten[i * sz + k]? = r[k]?
  | [], i, r, _, h, _, _ => by simp at h
  | a :: rows, 0, r, hs, h, k, hk => by
    simp at h
    subst h
    have := hs a (by simp)
    simp [List.getElem?_append, this, hk]
  | a :: rows, i + 1, r, hs, h, k, hk => by
    have ha := hs a (by simp)
    have ih := flat_get sz rows i r (fun x hx => hs x (by simp [hx])) (by simpa using h) k hk
    rw [List.flatten_cons, List.getElem?_append, if_neg (by rw [ha, Nat.add_mul]; omega), ← ih, ha]
    congr 1
    rw [Nat.add_mul]
    omega

theorem flat_len {α : Type} (sz : Nat) : ∀ (rows : List (List α)), (∀ r ∈ rows, r.length = sz) → rows.flatten.length = rows.length * sz
  | [], _ => by simp
  | a :: rows, hs => by
    have := flat_len sz rows (fun x hx => hs x (by simp [hx]))
    simp only [List.flatten_cons, List.length_append, List.length_cons, this, hs a (by simp), Nat.add_mul]
    omega

section
variable {P : Program} {tt : TypeId → Option TI} (hT : TOk P tt) {w : World} {φ : Nat → Option Value} {N : Nat → Prop} {base : Nat} {lb : Nat → Option LB} {ev : Operand → AV} {ρ : Operand → Value}

/-- The cells of a row's element. -/
theorem row_cells {l e sz : Nat} {rows : List (List AV)} (h : Holds w φ N base l (.row e sz rows)) {i : Nat} {r : List AV} (hr : rows[i]? = some r) :
    r.length = sz ∧ ∃ (b n c : Nat) (xs : Nat → Value), φ l = some (.slice (some ⟨b, 0, none⟩) n c) ∧ (∀ k, k < r.length → w.cell? ⟨b, i * sz + k, none⟩ = some (xs (i * sz + k))) ∧ (∀ k x, r[k]? = some x → Rep w φ N x (xs (i * sz + k))) := by
  obtain ⟨v, xs, hφ, h1, ho, hs, hr', hN⟩ := h
  have hi : i < rows.length := by
    rcases Nat.lt_or_ge i rows.length with h | h
    · exact h
    · rw [List.getElem?_eq_none h] at hr; cases hr
  have hlen : r.length = sz := hs r (List.mem_of_getElem? hr)
  refine ⟨hlen, ?_⟩
  rcases ho.2 with ⟨_, h0⟩ | ⟨g, cap, cur, hv, hb, hg, hnc, hcm, hcs, htake⟩
  · omega
  · refine ⟨g, rows.length, cap, fun k => xs.getD k undef, by rw [hφ, hv], fun k hk => ?_, fun k x hx => ?_⟩
    · have hxl : i * sz + k < xs.length := by
        rw [ho.1]
        have : (i + 1) * sz ≤ rows.length * sz := Nat.mul_le_mul_right _ hi
        rw [Nat.add_mul] at this
        omega
      have hc := ho.cells (g := g) (by rw [hv]; rfl) (i * sz + k) _ (List.getElem?_eq_getElem hxl)
      rw [addr_add, Nat.zero_add] at hc
      rw [hc]
      show _ = some (xs.getD (i * sz + k) undef)
      rw [List.getD_eq_getElem?_getD, List.getElem?_eq_getElem hxl]
      rfl
    · have hk : k < sz := by
        rw [← hlen]
        rcases Nat.lt_or_ge k r.length with h | h
        · exact h
        · rw [List.getElem?_eq_none h] at hx; cases hx
      exact hr' _ x (by rw [flat_get sz rows i r hs hr k hk]; exact hx)

theorem box_cells {l : Nat} {cells : List AV} (h : Holds w φ N base l (.box cells)) : ∃ (b : Nat) (cs : Nat → Value), φ l = some (.pointer (some ⟨b, 0, none⟩)) ∧ (∀ k, k < cells.length → w.cell? ⟨b, 0 + k, none⟩ = some (cs k)) ∧ (∀ k x, cells[k]? = some x → Rep w φ N x (cs k)) := by
  obtain ⟨b, ty, cs, hφ, hg, hs, hr, _⟩ := h
  refine ⟨b, fun k => cs.getD k undef, hφ, fun k hk => ?_, hr⟩
  have hk' : k < cs.size := by omega
  simp [World.cell?, hg, Array.getD, hk']

include hT
theorem aload_ok (hL : ∀ l B, lb l = some B → Holds w φ N base l B) {t : TypeId} {a x : AV} {p : Prop} {va : Value} (h : aload tt lb t a = .val p x) (hp : p) (ha : Rep w φ N a va) : ∃ v, (Instr.loadAt t va).run P w = .ok v w ∧ Rep w φ N x v := by
  unfold aload at h
  split at h
  · cases h
  · rename_i ts ht
    cases ha with
    | box cells off b o cell hN hw hr =>
      obtain ⟨v, h1, h2⟩ := load_ok hT ht hw hr h hp
      exact ⟨v, by simp [Instr.loadAt, Instr.sureAddr, h1], h2⟩
    | loc l off b hφ =>
      simp only at h
      split at h
      · rename_i cells hl
        obtain ⟨b', cs, hφ', hw, hr⟩ := box_cells (hL l _ hl)
        rw [hφ] at hφ'
        simp only [Option.some.injEq, Value.pointer.injEq, Addr.mk.injEq, and_true] at hφ'
        subst hφ'
        obtain ⟨v, h1, h2⟩ := load_ok hT ht hw hr h hp
        rw [Nat.zero_add] at h1
        exact ⟨v, by simp [Instr.loadAt, Instr.sureAddr, h1], h2⟩
      · cases h
    | rloc l sz i f b n c hφ =>
      simp only at h
      split at h
      · rename_i e sz' rows hl
        split at h
        · rename_i cells hi
          split at h
          · rename_i hsz
            subst hsz
            obtain ⟨hlen, b', n', c', xs, hφ', hw, hr⟩ := row_cells (hL l _ hl) hi
            rw [hφ] at hφ'
            simp only [Option.some.injEq, Value.slice.injEq, Addr.mk.injEq, and_true] at hφ'
            obtain ⟨rfl, _, _⟩ := hφ'
            obtain ⟨v, h1, h2⟩ := load_ok (cell := fun k => xs (i * sz + k)) hT ht hw hr h hp
            exact ⟨v, by simp [Instr.loadAt, Instr.sureAddr, h1], h2⟩
          · cases h
        · cases h
      · cases h
    | _ => simp at h

omit hT in
theorem equalIn_bool {d : Nat} {t : TypeId} {a b : Bool} (hu : P.underlying t = some .bool) : (Op.equalIn (d + 1) t (.bool a) (.bool b)).run P w = .ok (a == b) w := by
  unfold Op.equalIn
  simp only [Sem.run_bind, run_underlying hu, Result.andThen]
  rfl
omit hT in
theorem equal_bool {t : TypeId} {a b : Bool} (hu : P.underlying t = some .bool) : (Op.equal t (.bool a) (.bool b)).run P w = .ok (a == b) w := equalIn_bool (d := 9999) hu
theorem abin_ok {op : BinOp} {t : TypeId} {X Y : Operand} {x y z : AV} {vx vy : Value} {p : Prop} (h : abin (tBool tt t) (tEq tt t) (tSl tt t) op x y = .val p z) (hp : p) (hx : Rep w φ N x vx) (hy : Rep w φ N y vy) :
    ∃ v, (do eqGuard op t X Y vx vy; binOp op t vx vy : Sem Value).run P w = .ok v w ∧ Rep w φ N z v := by
  unfold abin at h
  split at h
  · rename_i k a k' b
    have e1 := hx.of_raw
    have e2 := hy.of_raw
    subst e1 e2
    have hg : (eqGuard op t X Y (.int k a) (.int k' b)).run P w = .ok () w := by
      unfold eqGuard
      cases op <;> rfl
    unfold aints at h
    split at h
    · simp only [Out.val.injEq] at h
      obtain ⟨rfl, rfl⟩ := h
      exact ⟨_, by simp [hg, binOp, Op.shift, show ¬ b < 0 by omega], .raw _⟩
    · simp only [Out.val.injEq] at h
      obtain ⟨rfl, rfl⟩ := h
      exact ⟨_, by simp [hg, binOp, Op.shift, show ¬ b < 0 by omega], .raw _⟩
    · rename_i h1 h2
      split at h
      · rename_i hk
        subst hk
        unfold aint at h
        split at h <;> first
          | (cases h; done)
          | (simp only [Out.val.injEq] at h
             obtain ⟨rfl, rfl⟩ := h
             refine ⟨_, ?_, .raw _⟩
             simp [hg, binOp, Op.intArith, Op.intDiv, Op.intBits, Op.intCmp, bits, hp]
             done)
      · cases h
  · rename_i a b
    have e1 := hx.of_raw
    have e2 := hy.of_raw
    subst e1 e2
    have hb : ∀ q, (if tBool tt t = true then q else Out.bad) = .val p z → P.underlying t = some .bool := by
      intro q hq
      split at hq
      · rename_i ht
        unfold tBool at ht
        split at ht
        · cases ht
        · rename_i i hi
          split at ht
          · rename_i hd
            rw [← hd]
            exact (hT t i hi).1
          · cases ht
      · cases hq
    unfold abools at h
    split at h
    · have hu := hb _ h
      split at h
      · simp only [Out.val.injEq] at h
        obtain ⟨rfl, rfl⟩ := h
        refine ⟨.bool (a == b), ?_, .raw _⟩
        show ((pure PUnit.unit : Sem PUnit) >>= fun _ => (Op.equal t (.bool a) (.bool b)) >>= fun r => pure (Value.bool r)).run P w = _
        simp [equal_bool hu]
      · cases h
    · have hu := hb _ h
      split at h
      · simp only [Out.val.injEq] at h
        obtain ⟨rfl, rfl⟩ := h
        refine ⟨.bool (a != b), ?_, .raw _⟩
        show ((pure PUnit.unit : Sem PUnit) >>= fun _ => (Op.equal t (.bool a) (.bool b)) >>= fun r => pure (Value.bool (!r))).run P w = _
        simp [equal_bool hu, bne]
      · cases h
    · cases h
  · rename_i l l'
    unfold aaggs at h
    split at h
    · rename_i n as bs hte ha hb
      unfold aeqs at h
      have heq : EqT P t n := by
        unfold tEq at hte
        split at hte
        · cases hte
        · rename_i i hi
          split at hte
          · rename_i he
            obtain rfl := Option.some.inj hte
            obtain ⟨_, _, _, _, _, _, _, _, _, _, _, _, h⟩ := hT t i hi
            exact h he
          · cases hte
      obtain ⟨q1, qm, q3, q2⟩ := heq
      have hval : ∀ (l : List AV) (as : List Int) (v : Value), intsOf l = some as → Rep w φ N (.agg l) v → v = .agg (as.map (Value.int .i64)).toArray := by
        intro l as v hl hv
        cases hv with
        | agg _ vs hlen hr =>
          clear ha hb hte q1 q2 q3
          have key : ∀ (l : List AV) (as : List Int) (us : List Value), intsOf l = some as → l.length = us.length → (∀ (i : Nat) x, l[i]? = some x → Rep w φ N x (us.getD i undef)) → us = as.map (Value.int .i64) := by
            intro l
            induction l with
            | nil =>
              intro as us h1 h2 _
              simp [intsOf] at h1
              subst h1
              cases us with
              | nil => rfl
              | cons _ _ => simp at h2
            | cons x r ih =>
              intro as us h1 h2 h3
              unfold intsOf at h1
              split at h1
              · rename_i heq; cases heq
              · rename_i a r' heq
                obtain ⟨rfl, rfl⟩ := List.cons.inj heq
                split at h1
                · rename_i l2 hl2
                  obtain rfl := Option.some.inj h1
                  cases us with
                  | nil => simp at h2
                  | cons u us =>
                    have h0 := h3 0 (.raw (.int .i64 a)) (by simp)
                    simp only [List.getD_cons_zero] at h0
                    have e := h0.of_raw
                    have := ih l2 us hl2 (by simpa using h2) (fun i y hy => by simpa using h3 (i + 1) y (by simpa using hy))
                    rw [e, this]
                    rfl
                · cases h1
              · cases h1
          have hk := key l as vs.toList hl (by simpa using hlen) (fun i x hx => by
            have := hr i x hx
            simpa [Array.getD_eq_getD_getElem?, List.getD_eq_getElem?_getD] using this)
          rw [← hk]
      have e1 := hval l as vx ha hx
      have e2 := hval l' bs vy hb hy
      subst e1 e2
      have hrun : as.length = n → bs.length = n → (Op.equalIn 10000 t (.agg (as.map (Value.int .i64)).toArray) (.agg (bs.map (Value.int .i64)).toArray)).run P w = .ok (decide (as = bs)) w := fun l1 l2 => by
        have := q2 (10000 - qm) as bs w l1 l2
        rwa [show 10000 - qm + qm = 10000 by omega] at this
      split at h
      · simp only [Out.val.injEq] at h
        obtain ⟨rfl, rfl⟩ := h
        refine ⟨.bool (decide (as = bs)), ?_, .raw _⟩
        rw [Sem.run_bind, run_eqGuard_agg w .eql t X Y _ _ q1]
        simp only [Result.andThen_ok]
        rw [run_eql_struct, hrun hp.1 hp.2]
        rfl
      · simp only [Out.val.injEq] at h
        obtain ⟨rfl, rfl⟩ := h
        refine ⟨.bool (!decide (as = bs)), ?_, .raw _⟩
        rw [Sem.run_bind, run_eqGuard_agg w .neq t X Y _ _ q1]
        simp only [Result.andThen_ok]
        rw [run_neq_struct, hrun hp.1 hp.2]
        rfl
      · cases h
    · cases h
  · rename_i sz rows n c
    have e2 := hy.of_raw
    subst e2
    have hu : tSl tt t = true → ∃ e, P.underlying t = some (.slice e) := fun ht => by
      unfold tSl at ht
      split at ht
      · cases ht
      · rename_i i hi
        split at ht
        · rename_i e he
          exact ⟨e, by rw [← he]; exact (hT t i hi).1⟩
        · cases ht
    have hrun : tSl tt t = true → 0 < rows.length → ∃ b o n' c', vx = .slice (some ⟨b, o, none⟩) n' c' ∧ (Op.equal t vx (.slice none n c)).run P w = .ok false w := fun ht hpos => by
      obtain ⟨e, he⟩ := hu ht
      cases hx with
      | slnil => simp at hpos
      | sl _ _ b o c' cell => exact ⟨b, o, _, _, rfl, by
          show (Op.equalIn 10000 t _ _).run P w = _
          unfold Op.equalIn
          simp only [Sem.run_bind, run_underlying he, Result.andThen]
          rfl⟩
    unfold anil at h
    split at h
    · split at h
      · rename_i ht
        simp only [Out.val.injEq] at h
        obtain ⟨rfl, rfl⟩ := h
        obtain ⟨b, o, n', c', rfl, hr⟩ := hrun ht hp
        refine ⟨.bool false, ?_, .raw _⟩
        show ((pure PUnit.unit : Sem PUnit) >>= fun _ => (Op.equal t _ _) >>= fun r => pure (Value.bool r)).run P w = _
        simp [hr]
      · cases h
    · split at h
      · rename_i ht
        simp only [Out.val.injEq] at h
        obtain ⟨rfl, rfl⟩ := h
        obtain ⟨b, o, n', c', rfl, hr⟩ := hrun ht hp
        refine ⟨.bool true, ?_, .raw _⟩
        show ((pure PUnit.unit : Sem PUnit) >>= fun _ => (Op.equal t _ _) >>= fun r => pure (Value.bool (!r))).run P w = _
        simp [hr]
      · cases h
    · cases h
  · cases h
omit hT in
theorem aun_ok {op : UnOp} {x z : AV} {vx : Value} {p : Prop} (h : aun op x = .val p z) (hp : p) (hx : Rep w φ N x vx) : ∃ v, (Op.unary op vx).run P w = .ok v w ∧ Rep w φ N z v := by
  unfold aun at h
  split at h
  · have e := hx.of_raw
    subst e
    simp only [Out.val.injEq] at h
    obtain ⟨rfl, rfl⟩ := h
    exact ⟨_, by simp [Op.unary, Op.intArith], .raw _⟩
  · have e := hx.of_raw
    subst e
    simp only [Out.val.injEq] at h
    obtain ⟨rfl, rfl⟩ := h
    exact ⟨_, by simp [Op.unary], .raw _⟩
  · cases h

theorem tInt_ok {t : TypeId} {k : IntKind} (h : tInt tt t = some k) : P.underlying t = some (.int k) := by
  unfold tInt at h
  split at h
  · cases h
  · rename_i i hi
    split at h
    · rename_i hd
      simp only [Option.some.injEq] at h
      subst h
      rw [← hd]
      exact (hT t i hi).1
    · cases h
theorem aconv_ok {src dst : TypeId} {k k0 k' : IntKind} {n : Int} (h1 : tInt tt dst = some k) (h2 : tInt tt src = some k0) : (convert src dst (.int k' n)).run P w = .ok (.int k (k.wrap n)) w := by
  have e1 := tInt_ok hT h1
  have e2 := tInt_ok hT h2
  simp [convert, run_underlying e1, run_underlying e2, Conv.intToInt]

theorem tField_ok {t : TypeId} {f o : Nat} {ts : Bool × Nat} (h : tField tt t f = some (o, ts)) : ∃ fs fd, P.underlying t = some (.struct fs) ∧ fs[f]? = some fd ∧ fd.offset = o ∧ tSize tt fd.type = some ts := by
  unfold tField at h
  split at h
  · cases h
  · rename_i i hi
    split at h
    · rename_i fs hd
      split at h
      · cases h
      · rename_i fd hf
        split at h
        · cases h
        · rename_i a n hs
          simp only [Option.some.injEq, Prod.mk.injEq] at h
          obtain ⟨rfl, rfl⟩ := h
          exact ⟨fs, fd, by rw [← hd]; exact (hT t i hi).1, hf, rfl, hs⟩
    · cases h

theorem tArr_ok {t : TypeId} {n : Nat} {a : Bool} {m : Nat} (h : tArr tt t = some (n, a, m)) : ∃ e, P.underlying t = some (.array n e) ∧ tSize tt e = some (a, m) := by
  unfold tArr at h
  split at h
  · cases h
  · rename_i i hi
    split at h
    · rename_i k e hd
      split at h
      · cases h
      · rename_i a' n' hs
        simp only [Option.some.injEq, Prod.mk.injEq] at h
        obtain ⟨rfl, rfl, rfl⟩ := h
        exact ⟨e, by rw [← hd]; exact (hT t i hi).1, hs⟩
    · cases h

theorem tSlice_ok {t e : TypeId} {ei : TI} (h : tSlice tt t = some (e, ei)) : P.underlying t = some (.slice e) ∧ tt e = some ei := by
  unfold tSlice at h
  split at h
  · cases h
  · rename_i i hi
    split at h
    · rename_i e' hd
      split at h
      · cases h
      · rename_i ei' hs
        simp only [Option.some.injEq, Prod.mk.injEq] at h
        obtain ⟨rfl, rfl⟩ := h
        exact ⟨by rw [← hd]; exact (hT t i hi).1, hs⟩
    · cases h

theorem afieldAddr_ok {t : TypeId} {a x : AV} {f : Nat} {p : Prop} {va : Value} (h : afieldAddr tt t a f = .val p x) (hp : p) (ha : Rep w φ N a va) : ∃ v, (Instr.fieldAt t va f).run P w = .ok v w ∧ Rep w φ N x v := by
  unfold afieldAddr at h
  split at h
  · cases h
  · rename_i o a' n hf
    obtain ⟨fs, fd, hu, hfd, ho, hs⟩ := tField_ok hT hf
    obtain ⟨d, hd, _, ⟨info, hi, hn⟩, _⟩ := tSize_ok hT hs
    cases ha with
    | box cells off b o' cell hN hw hr =>
      simp only [Out.val.injEq] at h
      obtain ⟨rfl, rfl⟩ := h
      refine ⟨_, ?_, Rep.box cells (off + o) b o' cell hN hw hr⟩
      simp [Instr.fieldAt, run_underlying hu, hfd, Instr.sureAddr, fieldPlace, run_sizeOf' hi, hn, hp, addr_add, ho, Nat.add_assoc]
    | loc l off b hφ =>
      simp only [Out.val.injEq] at h
      obtain ⟨rfl, rfl⟩ := h
      refine ⟨_, ?_, Rep.loc l (off + o) b hφ⟩
      simp [Instr.fieldAt, run_underlying hu, hfd, Instr.sureAddr, fieldPlace, run_sizeOf' hi, hn, hp, addr_add, ho, Nat.add_assoc]
    | rloc l sz i f b n c hφ =>
      simp only [Out.val.injEq] at h
      obtain ⟨rfl, rfl⟩ := h
      refine ⟨_, ?_, Rep.rloc l sz i (f + o) b n c hφ⟩
      simp [Instr.fieldAt, run_underlying hu, hfd, Instr.sureAddr, fieldPlace, run_sizeOf' hi, hn, hp, addr_add, ho, Nat.add_assoc]
    | _ => simp at h

/-- A part of a value. -/
theorem part_ok {t : TypeId} {ts : Bool × Nat} (ht : tSize tt t = some ts) {l : List AV} {vs : Array Value} (hl : l.length = vs.size) (hr : ∀ i x, l[i]? = some x → Rep w φ N x (vs.getD i undef)) {off : Nat} {p : Prop} {x : AV} (h : pieceOf ts l off = .val p x) (hp : p) :
    ∃ v, (part t vs off).run P w = .ok v w ∧ Rep w φ N x v := by
  obtain ⟨a, n⟩ := ts
  obtain ⟨d, hd, ha, ⟨info, hi, hn⟩, h1⟩ := tSize_ok hT ht
  unfold part
  simp only [Sem.run_bind, run_isAgg hd, ha, Result.andThen]
  cases a with
  | true =>
    simp only [pieceOf, Out.val.injEq] at h
    obtain ⟨rfl, rfl⟩ := h
    simp only [if_true, Sem.run_bind, run_sizeOf' hi, hn, Result.andThen]
    refine ⟨_, rfl, .agg _ _ (by simp; omega) fun i x hx => ?_⟩
    rw [List.getElem?_take] at hx
    split at hx
    · rename_i hin
      rw [List.getElem?_drop] at hx
      have := hr _ _ hx
      have hlt : off + i < vs.size := by omega
      have hm : i < min (off + n) vs.size - off := by omega
      simpa [Array.getD, hlt, hm] using this
    · cases hx
  | false =>
    simp only [pieceOf, Out.val.injEq] at h
    obtain ⟨rfl, rfl⟩ := h
    have hlt : off < vs.size := by omega
    refine ⟨vs[off], by simp [hlt], ?_⟩
    rw [List.getD_eq_getElem?_getD, List.getElem?_eq_getElem hp]
    have := hr _ _ (List.getElem?_eq_getElem hp)
    simpa [Array.getD, hlt] using this

theorem afield_ok {t : TypeId} {a x : AV} {f : Nat} {p : Prop} {va : Value} (h : afield tt t a f = .val p x) (hp : p) (ha : Rep w φ N a va) : ∃ v, (Instr.field t va f).run P w = .ok v w ∧ Rep w φ N x v := by
  unfold afield at h
  split at h
  · cases h
  · rename_i o ts hf
    obtain ⟨fs, fd, hu, hfd, ho, hs⟩ := tField_ok hT hf
    split at h
    · rename_i l
      cases ha with
      | agg l vs hl hr =>
        obtain ⟨v, h1, h2⟩ := part_ok hT hs hl hr h hp
        exact ⟨v, by simp [Instr.field, run_underlying hu, hfd, asAgg, ho, h1], h2⟩
    · cases h

theorem aindex_ok {t : TypeId} {a i x : AV} {p : Prop} {va vi : Value} (h : aindex tt t a i = .val p x) (hp : p) (ha : Rep w φ N a va) (hi : Rep w φ N i vi) : ∃ v, (Instr.index t va vi).run P w = .ok v w ∧ Rep w φ N x v := by
  unfold aindex at h
  split at h
  · rename_i n ag m k j hA
    have e := hi.of_raw
    subst e
    obtain ⟨e, hu, hs⟩ := tArr_ok hT hA
    obtain ⟨d, hd, _, ⟨info, hin, hn⟩, _⟩ := tSize_ok hT hs
    split at h
    · rename_i l
      cases ha with
      | agg l vs hl hr =>
        split at h
        · rename_i p' v' hpc
          simp only [Out.val.injEq] at h
          obtain ⟨rfl, rfl⟩ := h
          obtain ⟨v, h1, h2⟩ := part_ok hT hs hl hr hpc hp.2.2
          refine ⟨v, ?_, h2⟩
          simp [Instr.index, asIntOf, run_underlying hu, hp.1, hp.2.1, run_sizeOf' hin, hn, h1]
        · cases h
    · cases h
  · cases h

theorem aindexAddr_ok (hL : ∀ l B, lb l = some B → Holds w φ N base l B) {t : TypeId} {a i x : AV} {p : Prop} {va vi : Value} (h : aindexAddr tt lb t a i = .val p x) (hp : p) (ha : Rep w φ N a va) (hi : Rep w φ N i vi) : ∃ v, (Instr.indexAt t va vi).run P w = .ok v w ∧ Rep w φ N x v := by
  unfold aindexAddr at h
  split at h
  · rename_i k j
    have e := hi.of_raw
    subst e
    cases ha with
    | box cells off b o cell hN hw hr =>
      simp only at h
      split at h
      · rename_i n ag m hA
        obtain ⟨e, hu, hs⟩ := tArr_ok hT hA
        obtain ⟨d, hd, _, ⟨info, hin, hn⟩, _⟩ := tSize_ok hT hs
        simp only [Out.val.injEq] at h
        obtain ⟨rfl, rfl⟩ := h
        refine ⟨_, ?_, Rep.box cells (off + j.toNat * m) b o cell hN hw hr⟩
        simp [Instr.indexAt, asIntOf, run_underlying hu, Instr.sureAddr, hp.1, hp.2, run_sizeOf' hin, hn, addr_add, Nat.add_assoc]
      · cases h
    | loc l off b hφ =>
      simp only at h
      split at h
      · rename_i n ag m hA
        obtain ⟨e, hu, hs⟩ := tArr_ok hT hA
        obtain ⟨d, hd, _, ⟨info, hin, hn⟩, _⟩ := tSize_ok hT hs
        simp only [Out.val.injEq] at h
        obtain ⟨rfl, rfl⟩ := h
        refine ⟨_, ?_, Rep.loc l (off + j.toNat * m) b hφ⟩
        simp [Instr.indexAt, asIntOf, run_underlying hu, Instr.sureAddr, hp.1, hp.2, run_sizeOf' hin, hn, addr_add, Nat.add_assoc]
      · cases h
    | slnil sz =>
      simp only at h
      split at h
      · simp only [Out.val.injEq] at h
        obtain ⟨rfl, rfl⟩ := h
        exact absurd hp.2.1 (by simp; omega)
      · cases h
    | sl sz rows b o c cell hc hN hsz hw hr =>
      simp only at h
      split at h
      · rename_i e ei hS
        obtain ⟨hu, he⟩ := tSlice_ok hT hS
        obtain ⟨_, info, z, hin, hn, _⟩ := hT e ei he
        simp only [Out.val.injEq] at h
        obtain ⟨rfl, rfl⟩ := h
        obtain ⟨h0, h1, rfl⟩ := hp
        have hlt : j.toNat < rows.length := by omega
        have hrow : rows[j.toNat]? = some rows[j.toNat] := List.getElem?_eq_getElem hlt
        have hlen := hsz _ (List.getElem_mem hlt)
        have hfl := flat_len ei.size rows hsz
        have hle : (j.toNat + 1) * ei.size ≤ rows.length * ei.size := Nat.mul_le_mul_right _ hlt
        rw [Nat.add_mul] at hle
        rw [List.getD_eq_getElem?_getD, hrow]
        refine ⟨.pointer (some ⟨b, o + j.toNat * ei.size + 0, none⟩), ?_, Rep.box _ 0 b (o + j.toNat * ei.size) (fun k => cell (j.toNat * ei.size + k)) hN (fun k hk => ?_) (fun k x hx => ?_)⟩
        · simp [Instr.indexAt, asIntOf, run_underlying hu, h0, h1, run_sizeOf' hin, hn, addr_add]
        · simp only [Option.getD_some] at hk
          rw [Nat.add_assoc]
          exact hw _ (by omega)
        · simp only [Option.getD_some] at hx
          have hk : k < ei.size := by
            rw [← hlen]
            rcases Nat.lt_or_ge k rows[j.toNat].length with h | h
            · exact h
            · rw [List.getElem?_eq_none h] at hx; cases hx
          exact hr _ x (by rw [flat_get ei.size rows _ _ hsz hrow k hk]; exact hx)
      · cases h
    | own l v hφ h1 =>
      simp only at h
      split at h
      · rename_i e ei hS
        obtain ⟨hu, he⟩ := tSlice_ok hT hS
        obtain ⟨_, info, z, hin, hn, _⟩ := hT e ei he
        split at h
        · rename_i e' sz rows hl
          simp only [Out.val.injEq] at h
          obtain ⟨rfl, rfl⟩ := h
          obtain ⟨h0, h1', rfl⟩ := hp
          obtain ⟨v', xs, hφ', _, ho, _⟩ := hL l _ hl
          rw [hφ] at hφ'
          obtain rfl := Option.some.inj hφ'
          rcases ho.2 with ⟨_, hz⟩ | ⟨g, cap, cur, rfl, _⟩
          · omega
          · refine ⟨_, ?_, Rep.rloc l ei.size j.toNat 0 g rows.length cap hφ⟩
            simp [Instr.indexAt, asIntOf, run_underlying hu, h0, h1', run_sizeOf' hin, hn, addr_add]
        · cases h
      · cases h
    | osl l off n sz b m c' c hφ hc hc' =>
      simp only at h
      split at h
      · rename_i e ei hS
        obtain ⟨hu, he⟩ := tSlice_ok hT hS
        obtain ⟨_, info, z, hin, hn, _⟩ := hT e ei he
        simp only [Out.val.injEq] at h
        obtain ⟨rfl, rfl⟩ := h
        obtain ⟨h0, h1', rfl⟩ := hp
        refine ⟨.pointer (some ⟨b, (off + j.toNat) * ei.size + 0, none⟩), ?_, Rep.rloc l ei.size (off + j.toNat) 0 b m c' hφ⟩
        simp [Instr.indexAt, asIntOf, run_underlying hu, h0, h1', run_sizeOf' hin, hn, addr_add, Nat.add_mul]
      · cases h
    | _ => simp at h
  · cases h
end
end Go.Proofs.YtfemklaeonkidaaV

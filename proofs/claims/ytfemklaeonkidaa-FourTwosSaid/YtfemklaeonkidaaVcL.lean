import Derived.Test.YtfemklaeonkidaaVcK
/- Small laws for a seat's types, and for what the evaluator comes to. -/
namespace Go.Proofs.YtfemklaeonkidaaV
open Go Go.RowKit
set_option linter.unusedVariables false
set_option linter.unusedSimpArgs false

theorem some_of {α : Type} {x : Option α} (h : x.isSome = true) : ∃ y, x = some y := Option.isSome_iff_exists.1 h
theorem tok_of {P : Program} {t : TypeId} {i : TI} (z : Value) (hu : P.underlying t = some i.desc) (hi : (P.info? t).map (fun j => (j.zero, j.size, j.bytes)) = some (some z, i.size, i.bytes)) (hz : z.cells.toList = i.zero) (ha : isAggD i.desc = true → z = .agg i.zero.toArray) (hl : i.zero.length = i.size) (h1 : isAggD i.desc = false → i.size = 1) (hf : fieldsOk P i.desc) (he : i.eq = true → EqT P t i.size) : Tok P t i := by
  cases hinf : P.info? t with
  | none => rw [hinf] at hi; cases hi
  | some info =>
    rw [hinf] at hi
    simp only [Option.map_some, Option.some.injEq, Prod.mk.injEq] at hi
    exact ⟨hu, info, z, hinf, hi.2.1, hi.2.2, hi.1, hz, ha, hl, h1, hf, he⟩
/-! Values of ints alone, compared. -/
def IntFields (P : Program) (n : Nat) : Nat → List Field → Prop
  | k, [] => k = n
  | k, f :: fs => f.offset = k ∧ P.underlying f.type = some (.int .i64) ∧ (f.name == "_") = false ∧ IntFields P n (k + 1) fs
theorem part_int {P : Program} {w : World} {t : TypeId} {l : List Int} {k : Nat} (hu : P.underlying t = some (.int .i64)) (hk : k < l.length) : (part t (l.map (Value.int .i64)).toArray k).run P w = .ok (.int .i64 l[k]) w := by
  unfold part
  simp only [Sem.run_bind, run_isAgg hu, isAggD, Result.andThen_ok]
  simp [hk]
theorem eqFields_ints {P : Program} {n d : Nat} {l l' : List Int} (h1 : l.length = n) (h2 : l'.length = n) {w : World} : ∀ (fs : List Field) (k : Nat), IntFields P n k fs → k ≤ n →
    (Op.eqFields (d + 1) (l.map (Value.int .i64)).toArray (l'.map (Value.int .i64)).toArray fs).run P w = .ok (decide (l.drop k = l'.drop k)) w
  | [], k, h, hk => by
    have h : k = n := h
    simp [Op.eqFields, List.drop_eq_nil_of_le (show l.length ≤ k by omega), List.drop_eq_nil_of_le (show l'.length ≤ k by omega)]
  | f :: fs, k, h, hk => by
    obtain ⟨h3, h4, h5, h6⟩ := h
    have hkn : k < n := by
      rcases Nat.lt_or_ge k n with h | h
      · exact h
      · exfalso
        have : ∀ (fs : List Field) (j : Nat), IntFields P n j fs → j ≤ n := by
          intro fs
          induction fs with
          | nil => intro j h; exact Nat.le_of_eq h
          | cons g gs ih => intro j h; have := ih (j + 1) h.2.2.2; omega
        have := this fs (k + 1) h6
        omega
    have hn' : f.name ≠ "_" := by simpa using h5
    have ih := eqFields_ints h1 h2 (w := w) (d := d) fs (k + 1) h6 (by omega)
    have e1 := part_int (P := P) (w := w) (l := l) h4 (show k < l.length by omega)
    have e2 := part_int (P := P) (w := w) (l := l') h4 (show k < l'.length by omega)
    have e3 : l.drop k = l[k] :: l.drop (k + 1) := List.drop_eq_getElem_cons (by omega)
    have e4 : l'.drop k = l'[k] :: l'.drop (k + 1) := List.drop_eq_getElem_cons (by omega)
    rw [Op.eqFields, if_pos hn', h3]
    simp only [Sem.run_bind, e1, e2, Result.andThen_ok, run_equalIn_int (P := P) (w := w) d f.type .i64 .i64 _ _ h4]
    have e5 : decide (l.drop k = l'.drop k) = (decide (l[k] = l'[k]) && decide (l.drop (k + 1) = l'.drop (k + 1))) := by
      rw [e3, e4, ← Bool.decide_and]
      simp only [List.cons.injEq]
    have e6 : (l[k] == l'[k]) = decide (l[k] = l'[k]) := by
      by_cases he : l[k] = l'[k]
      · simp [he]
      · simp [he]
    rw [e5, e6]
    cases decide (l[k] = l'[k])
    · simp
    · simpa using ih
theorem eqT_struct {P : Program} {t : TypeId} {n : Nat} {fs : Array Field} (hg : P.eqGuardType P.depth t = false) (hu : P.underlying t = some (.struct fs)) (hs : P.stoodInHeld t = false) (hf : IntFields P n 0 fs.toList) : EqT P t n := by
  refine ⟨hg, 2, by decide, fun d l l' w h1 h2 => ?_⟩
  have hfs : P.fieldsOf t = fs := by simp [Program.fieldsOf, hu]
  rw [run_equalIn_struct (P := P) w (d + 1) t _ _ (by rw [hfs]; exact hu) hs, hfs, eqFields_ints (d := d) h1 h2 fs.toList 0 hf (Nat.zero_le _)]
  simp
theorem part_agg {P : Program} {w : World} {t : TypeId} {l : List Int} {k n : Nat} {d : TypeDesc} {info : TypeInfo} (hu : P.underlying t = some d) (ha : isAggD d = true) (hi : P.info? t = some info) (hn : info.size = n) : (part t (l.map (Value.int .i64)).toArray k).run P w = .ok (.agg (((l.drop k).take n).map (Value.int .i64)).toArray) w := by
  unfold part
  simp only [Sem.run_bind, run_isAgg hu, ha, Result.andThen_ok, if_true, run_sizeOf' hi, hn, Sem.run_pure]
  congr 2
  apply Array.ext'
  simp [List.map_drop, List.map_take, List.take_drop]
theorem eqItems_ints {P : Program} {e : TypeId} {n c d : Nat} {l l' : List Int} (h1 : l.length = n) (h2 : l'.length = n) {w : World} {m : Nat} (hm : m * c = n)
    (hp : ∀ k, k < m → ∃ a b, (part e (l.map (Value.int .i64)).toArray (k * c)).run P w = .ok a w ∧ (part e (l'.map (Value.int .i64)).toArray (k * c)).run P w = .ok b w ∧ (Op.equalIn d e a b).run P w = .ok (decide ((l.drop (k * c)).take c = (l'.drop (k * c)).take c)) w) :
    ∀ (j k : Nat), k + j = m → (Op.eqItems d e c (l.map (Value.int .i64)).toArray (l'.map (Value.int .i64)).toArray (List.range' k j)).run P w = .ok (decide (l.drop (k * c) = l'.drop (k * c))) w
  | 0, k, h => by
    have : k * c = n := by rw [← hm, ← h]; rfl
    simp [Op.eqItems, List.drop_eq_nil_of_le (show l.length ≤ k * c by omega), List.drop_eq_nil_of_le (show l'.length ≤ k * c by omega)]
  | j + 1, k, h => by
    obtain ⟨a, b, e1, e2, e3⟩ := hp k (by omega)
    have ih := eqItems_ints h1 h2 hm hp j (k + 1) (by omega)
    rw [List.range'_succ, Op.eqItems]
    simp only [Sem.run_bind, e1, e2, e3, Result.andThen_ok]
    have s1 : l.drop (k * c) = (l.drop (k * c)).take c ++ l.drop ((k + 1) * c) := by
      rw [Nat.add_mul, Nat.one_mul, ← List.drop_drop, List.take_append_drop]
    have s2 : l'.drop (k * c) = (l'.drop (k * c)).take c ++ l'.drop ((k + 1) * c) := by
      rw [Nat.add_mul, Nat.one_mul, ← List.drop_drop, List.take_append_drop]
    by_cases he : (l.drop (k * c)).take c = (l'.drop (k * c)).take c
    · simp only [he, decide_true, Bool.not_true, Bool.false_eq_true, if_false, ih]
      congr 1
      rw [decide_eq_decide, s1, s2, he]
      simp
    · simp only [he, decide_false, Bool.not_false, if_true, Sem.run_pure]
      congr 1
      symm
      exact decide_eq_false fun hh => he (by rw [hh])
theorem eqT_array {P : Program} {t e : TypeId} {m c : Nat} {d : TypeDesc} (hg : P.eqGuardType P.depth t = false) (hu : P.underlying t = some (.array m e)) (hue : P.underlying e = some d) (ha : isAggD d = true) (hi : (P.info? e).map (·.size) = some c) (he : ∃ q, q ≤ 8 ∧ ∀ (d : Nat) (l l' : List Int) (w : World), l.length = c → l'.length = c → (Op.equalIn (d + q) e (.agg (l.map (Value.int .i64)).toArray) (.agg (l'.map (Value.int .i64)).toArray)).run P w = .ok (decide (l = l')) w) : EqT P t (m * c) := by
  obtain ⟨q, hq, he⟩ := he
  refine ⟨hg, q + 1, by omega, fun dd l l' w h1 h2 => ?_⟩
  cases hinf : P.info? e with
  | none => rw [hinf] at hi; cases hi
  | some info =>
    rw [hinf] at hi
    simp only [Option.map_some, Option.some.injEq] at hi
    have hco : P.cellsOf e = c := by simp [Program.cellsOf, hinf, hi]
    rw [← Nat.add_assoc, run_equalIn_array (P := P) w (dd + q) _ _ hu hinf, hco, List.range_eq_range']
    have := eqItems_ints (P := P) (e := e) (c := c) (d := dd + q) h1 h2 (w := w) (m := m) rfl (fun k hk => by
      refine ⟨_, _, part_agg hue ha hinf hi, part_agg hue ha hinf hi, ?_⟩
      have hle : (k + 1) * c ≤ m * c := Nat.mul_le_mul_right _ hk
      rw [Nat.add_mul] at hle
      exact he dd _ _ w (by simp; omega) (by simp; omega)) m 0 (by simp)
    simpa using this
theorem eqT_small {P : Program} {t : TypeId} {n : Nat} {fs : Array Field} (hu : P.underlying t = some (.struct fs)) (hs : P.stoodInHeld t = false) (hf : IntFields P n 0 fs.toList) : ∃ q, q ≤ 8 ∧ ∀ (d : Nat) (l l' : List Int) (w : World), l.length = n → l'.length = n → (Op.equalIn (d + q) t (.agg (l.map (Value.int .i64)).toArray) (.agg (l'.map (Value.int .i64)).toArray)).run P w = .ok (decide (l = l')) w := by
  refine ⟨2, by decide, fun d l l' w h1 h2 => ?_⟩
  have hfs : P.fieldsOf t = fs := by simp [Program.fieldsOf, hu]
  rw [run_equalIn_struct (P := P) w (d + 1) t _ _ (by rw [hfs]; exact hu) hs, hfs, eqFields_ints (d := d) h1 h2 fs.toList 0 hf (Nat.zero_le _)]
  simp
theorem eqT_ints {P : Program} {t e : TypeId} {m : Nat} (hg : P.eqGuardType P.depth t = false) (hu : P.underlying t = some (.array m e)) (hue : P.underlying e = some (.int .i64)) (hi : (P.info? e).map (·.size) = some 1) : EqT P t m := by
  refine ⟨hg, 2, by decide, fun dd l l' w h1 h2 => ?_⟩
  cases hinf : P.info? e with
  | none => rw [hinf] at hi; cases hi
  | some info =>
    rw [hinf] at hi
    simp only [Option.map_some, Option.some.injEq] at hi
    have hco : P.cellsOf e = 1 := by simp [Program.cellsOf, hinf, hi]
    rw [run_equalIn_array (P := P) w (dd + 1) _ _ hu hinf, hco, List.range_eq_range']
    have := eqItems_ints (P := P) (e := e) (c := 1) (d := dd + 1) h1 h2 (w := w) (m := m) (by simp) (fun k hk => by
      refine ⟨_, _, part_int hue (by omega), part_int hue (by omega), ?_⟩
      rw [run_equalIn_int (P := P) (w := w) dd e .i64 .i64 _ _ hue]
      congr 1
      have hk1 : k * 1 < l.length := by omega
      have hk2 : k * 1 < l'.length := by omega
      have g1 : (l.drop (k * 1)).take 1 = [l[k * 1]] := by rw [List.drop_eq_getElem_cons hk1]; rfl
      have g2 : (l'.drop (k * 1)).take 1 = [l'[k * 1]] := by rw [List.drop_eq_getElem_cons hk2]; rfl
      rw [g1, g2, Bool.eq_iff_iff]
      simp) m 0 (by simp)
    simpa using this
def TokL (P : Program) (l : List (Nat × TI)) : Prop := ∀ t i, look t l = some i → Tok P t i
def givenK (lb : Nat → Option LB) : List Nat → List LB → Prop
  | i :: r, B :: L => lb i = some B ∧ givenK lb r L
  | _, _ => True
theorem given_get {lb : Nat → Option LB} : ∀ {ids : List Nat} {L : List LB}, givenK lb ids L → ∀ (i id : Nat) (B : LB), ids[i]? = some id → L[i]? = some B → lb id = some B
  | [], L, _, i, id, B, h, _ => by simp at h
  | j :: r, [], _, i, id, B, _, h => by simp at h
  | j :: r, C :: L, hg, 0, id, B, h, hB => by
    simp at h hB
    subst h hB
    exact hg.1
  | j :: r, C :: L, hg, i + 1, id, B, h, hB => given_get hg.2 i id B (by simpa using h) (by simpa using hB)
def freeK : List LB → Prop
  | [] => True
  | B :: r => B.free = true ∧ freeK r
theorem freeK_mem : ∀ {L : List LB}, freeK L → ∀ B ∈ L, B.free = true
  | [], _, B, h => by cases h
  | C :: r, hf, B, h => by
    rcases List.mem_cons.1 h with rfl | h
    · exact hf.1
    · exact freeK_mem hf.2 B h
theorem tok_nil {P : Program} : TokL P [] := fun t i h => by cases h
theorem tok_cons {P : Program} {t : Nat} {i : TI} {l : List (Nat × TI)} (h : Tok P t i) (hl : TokL P l) : TokL P ((t, i) :: l) := fun u j hj => by
  rw [look_if] at hj
  split at hj
  · rename_i e
    obtain rfl := Option.some.inj hj
    rw [e]
    exact h
  · exact hl u j hj
theorem tok_list {P : Program} {l : List (Nat × TI)} (h : TokL P l) : TOk P (fun t => look t l) := h

section
variable {P : Program} {tt : TypeId → Option TI} {X : Nat → List (List Operand)} {Z : Nat → Bool} {k0 : Nat} {all : Array Oper} {os : List Oper} {cr : List (List Operand)} {c : List Operand} {s : St} {K : St → Prop} {Q : Exit → St → Prop} {d : Option Tmp} {ty : TypeId} {po : String} {af : Array Edge}

/-! The evaluator, step by step. -/
def Out.go (P : Program) (tt : TypeId → Option TI) (all : Array Oper) (os : List Oper) (cr : List (List Operand)) (c : List Operand) (K : St → Prop) (s : St) (d : Option Tmp) (o : Out) : Prop := o.k P c s d fun s' => evr P tt all os cr s' K
theorem e_nil : evr P tt all [] cr s K = K s := rfl
theorem e_cons {op : Op} : evr P tt all (⟨d, op, ty, po, af, none⟩ :: os) cr s K = (aop tt s.lb s.ev op).go P tt all os cr.tail (cr.headD []) K s d := rfl
theorem g_val {p : Prop} {v : AV} : (Out.val p v).go P tt all os cr c K s d = (p ∧ evr P tt all os cr (s.put d v) K) := rfl
theorem g_new {p : Prop} {B : LB} {f : Nat → AV} {env lbl nx} : (Out.new p B f).go P tt all os cr c K ⟨env, lbl, nx⟩ d = (p ∧ evr P tt all os cr (St.put ⟨env, (nx, some B) :: lbl, nx + 1⟩ d (f nx)) K) := rfl
theorem g_put {p : Prop} {B : LB} {l env lbl nx} : (Out.put p l B).go P tt all os cr c K ⟨env, lbl, nx⟩ d = (p ∧ noClash (St.ev ⟨env, lbl, nx⟩) l c ∧ evr P tt all os cr (St.put ⟨env, (l, some B) :: lbl, nx⟩ d .any) K) := rfl
theorem g_grow {p : Prop} {B : LB} {l env lbl nx} : (Out.grow p l B).go P tt all os cr c K ⟨env, lbl, nx⟩ d = (p ∧ evr P tt all os cr (St.put ⟨env, (nx, some B) :: kill l lbl, nx + 1⟩ d (.own nx)) K) := rfl
/-- A call: here the contract is to be given. -/
def CallG (P : Program) (tt : TypeId → Option TI) (all : Array Oper) (os : List Oper) (cr : List (List Operand)) (c : List Operand) (K : St → Prop) (s : St) (d : Option Tmp) (F : FuncId) (args : List AV) (fr : Bool) (raw : List AV) : Prop := (Out.call F args fr raw).k P c s d fun s' => evr P tt all os cr s' K
theorem g_call {F : FuncId} {args : List AV} {fr : Bool} {raw : List AV} : (Out.call F args fr raw).go P tt all os cr c K s d = CallG P tt all os cr c K s d F args fr raw := rfl
theorem call_ok {F : FuncId} {args : List AV} {fr : Bool} {raw : List AV} {r : AV} (h : Ok P F args r) (hp : (r.pure || fr && r.free) = true) (hK : evr P tt all os cr (s.put d r) K) : CallG P tt all os cr c K s d F args fr raw := .inl ⟨r, h, hp, hK⟩
/-- A call that writes: to these labels. -/
theorem call_eff {F : FuncId} {args : List AV} {fr : Bool} {raw : List AV} {env lbl nx} {L : List LB} {as : List AV} {L' : List LB} {nw : Option LB} {r : AV} (ids : List Nat) (h : OkG P F L as L' nw r) (h1 : ids.length = L.length) (h2 : ids.Nodup) (h3 : givenK (St.lb ⟨env, lbl, nx⟩) ids L) (h4 : allLt ids.length as = true) (h5 : (ids.all fun i => allHas i raw) = true) (h6 : raw = renAll (fun i => ids.getD i nx) as)
    (h7 : freeK L) (h8 : freeK L') (h9 : freeK nw.toList) (h10 : r.lt (ids.length + 1) = true) (hm : marked c = true) (hK : evr P tt all os cr (St.put ⟨env, (nx, nw) :: putAll (ids.zip L') lbl, nx + 1⟩ d (r.ren fun i => ids.getD i nx)) K) : CallG P tt all os cr c K ⟨env, lbl, nx⟩ d F args fr raw :=
  .inr ⟨ids.zip L', nw, _, ⟨ids, L, as, L', r, h, h1, h2, fun i id B => given_get h3 i id B, h4, fun i hi => (List.all_eq_true.1 h5) i hi, h6, freeK_mem h7, freeK_mem h8, fun B hB => freeK_mem h9 B (by rw [hB]; simp), h10, rfl, rfl⟩, hm, hK⟩
theorem mk_t {v : Value} {r : List Operand} : marked (.const v :: r) = true := rfl
/-- An operation that is done or not, as b tells. -/
def GuardB (P : Program) (tt : TypeId → Option TI) (all : Array Oper) (os : List Oper) (cr : List (List Operand)) (K : St → Prop) (s : St) (d : Option Tmp) (op : Op) (ty : TypeId) (po : String) (af : Array Edge) (want : Bool) (t : Nat) (b : Bool) : Prop :=
  (b = want → evr P tt all (⟨d, op, ty, po, af, none⟩ :: os) cr { s with env := (t, .raw (.bool want)) :: s.env } K) ∧ (b = !want → evr P tt all os cr.tail ({ s with env := (t, .raw (.bool !want)) :: s.env }.put d (.raw undef)) K)
def GuardE (P : Program) (tt : TypeId → Option TI) (all : Array Oper) (os : List Oper) (cr : List (List Operand)) (K : St → Prop) (s : St) (d : Option Tmp) (op : Op) (ty : TypeId) (po : String) (af : Array Edge) (want : Bool) : Option (Nat × AV) → Prop
  | some (t, .raw (.bool b)) => GuardB P tt all os cr K s d op ty po af want t b
  | some (_, .raw (.tuple _)) => evr P tt all os cr.tail (s.put d (.raw undef)) K
  | _ => False
theorem e_guard {op : Op} {j : Nat} {want : Bool} : evr P tt all (⟨d, op, ty, po, af, some (j, want)⟩ :: os) cr s K = GuardE P tt all os cr K s d op ty po af want (((all[j]?).bind (·.dst)).bind fun t => (look t s.env).map fun v => (t, v)) := by
  show (match (all[j]?).bind (·.dst) with
      | none => False
      | some t => match look t s.env with
        | some (.raw (.bool b)) => _
        | some (.raw (.tuple _)) => _
        | _ => False) = _
  cases (all[j]?).bind (·.dst) with
  | none => rfl
  | some t =>
    simp only [Option.bind_some]
    cases look t s.env with
    | none => rfl
    | some v => cases v with
      | raw v => cases v <;> rfl
      | _ => rfl
theorem ge_b {op : Op} {want : Bool} {t : Nat} {b : Bool} : GuardE P tt all os cr K s d op ty po af want (some (t, .raw (.bool b))) = GuardB P tt all os cr K s d op ty po af want t b := rfl
theorem ge_u {op : Op} {want : Bool} {t : Nat} {z : Array Value} : GuardE P tt all os cr K s d op ty po af want (some (t, .raw (.tuple z))) = evr P tt all os cr.tail (s.put d (.raw undef)) K := rfl
theorem ge_u' {op : Op} {want : Bool} {t : Nat} : GuardE P tt all os cr K s d op ty po af want (some (t, .raw undef)) = evr P tt all os cr.tail (s.put d (.raw undef)) K := rfl
theorem gb_tt {op : Op} {t : Nat} : GuardB P tt all os cr K s d op ty po af true t true = evr P tt all (⟨d, op, ty, po, af, none⟩ :: os) cr { s with env := (t, .raw (.bool true)) :: s.env } K := by simp [GuardB]
theorem gb_tf {op : Op} {t : Nat} : GuardB P tt all os cr K s d op ty po af true t false = evr P tt all os cr.tail ({ s with env := (t, .raw (.bool false)) :: s.env }.put d (.raw undef)) K := by simp [GuardB]
theorem gb_ft {op : Op} {t : Nat} : GuardB P tt all os cr K s d op ty po af false t true = evr P tt all os cr.tail ({ s with env := (t, .raw (.bool true)) :: s.env }.put d (.raw undef)) K := by simp [GuardB]
theorem gb_ff {op : Op} {t : Nat} : GuardB P tt all os cr K s d op ty po af false t false = evr P tt all (⟨d, op, ty, po, af, none⟩ :: os) cr { s with env := (t, .raw (.bool false)) :: s.env } K := by simp [GuardB]
theorem gb_dt {op : Op} {t : Nat} {p : Prop} [Decidable p] : GuardB P tt all os cr K s d op ty po af true t (decide p) = ((p → evr P tt all (⟨d, op, ty, po, af, none⟩ :: os) cr { s with env := (t, .raw (.bool true)) :: s.env } K) ∧ (¬ p → evr P tt all os cr.tail ({ s with env := (t, .raw (.bool false)) :: s.env }.put d (.raw undef)) K)) := by simp [GuardB]
theorem gb_df {op : Op} {t : Nat} {p : Prop} [Decidable p] : GuardB P tt all os cr K s d op ty po af false t (decide p) = ((¬ p → evr P tt all (⟨d, op, ty, po, af, none⟩ :: os) cr { s with env := (t, .raw (.bool false)) :: s.env } K) ∧ (p → evr P tt all os cr.tail ({ s with env := (t, .raw (.bool true)) :: s.env }.put d (.raw undef)) K)) := by simp [GuardB]
theorem gb_nt {op : Op} {t : Nat} {p : Prop} [Decidable p] : GuardB P tt all os cr K s d op ty po af true t (!decide p) = ((¬ p → evr P tt all (⟨d, op, ty, po, af, none⟩ :: os) cr { s with env := (t, .raw (.bool true)) :: s.env } K) ∧ (p → evr P tt all os cr.tail ({ s with env := (t, .raw (.bool false)) :: s.env }.put d (.raw undef)) K)) := by simp [GuardB]
theorem gb_nf {op : Op} {t : Nat} {p : Prop} [Decidable p] : GuardB P tt all os cr K s d op ty po af false t (!decide p) = ((p → evr P tt all (⟨d, op, ty, po, af, none⟩ :: os) cr { s with env := (t, .raw (.bool false)) :: s.env } K) ∧ (¬ p → evr P tt all os cr.tail ({ s with env := (t, .raw (.bool true)) :: s.env }.put d (.raw undef)) K)) := by simp [GuardB]
theorem p_some {t : Tmp} {x : AV} {env lbl nx} : St.put ⟨env, lbl, nx⟩ (some t) x = ⟨(t, x) :: env, lbl, nx⟩ := rfl
theorem p_none {x : AV} : St.put s none x = s := rfl
theorem v_tmp {t : Tmp} {env lbl nx} : St.ev ⟨env, lbl, nx⟩ (.tmp t) = (look t env).getD .any := rfl
theorem v_const {v : Value} : St.ev s (.const v) = .raw v := rfl
theorem v_func {f : FuncId} : St.ev s (.func f) = .fn f [] := rfl
theorem s_lb {l : Nat} {env lbl nx} : St.lb ⟨env, lbl, nx⟩ l = (look l lbl).getD none := rfl
theorem look_hit {α : Type} {t : Nat} {x : α} {r : List (Nat × α)} : look t ((t, x) :: r) = some x := by rw [look_if, if_pos rfl]
theorem look_miss {α : Type} {t u : Nat} {x : α} {r : List (Nat × α)} (h : (t == u) = false) : look t ((u, x) :: r) = look t r := by rw [look_if, if_neg (by simpa using h)]
theorem k_none {lbl : List (Nat × Option LB)} : kill none lbl = lbl := rfl
theorem k_some {l : Nat} {lbl : List (Nat × Option LB)} : kill (some l) lbl = (l, none) :: lbl := rfl
theorem n_nil {ev : Operand → AV} {l : Nat} : noClash ev l [] = True := rfl
theorem n_cons {ev : Operand → AV} {l : Nat} {x : Operand} {r : List Operand} : noClash ev l (x :: r) = (rlab (ev x) ≠ some l ∧ noClash ev l r) := rfl
variable {lb : Nat → Option LB} {ev : Operand → AV}
theorem o_move {x} : aop tt lb ev (.move x) = .val True (ev x) := rfl
theorem o_assign {x} : aop tt lb ev (.assign x) = .val True (ev x) := rfl
theorem o_bin {op t x y u} : aop tt lb ev (.binOp op t x y u) = abin (tBool tt t) (tEq tt t) (tSl tt t) op (ev x) (ev y) := rfl
theorem o_un {op t x} : aop tt lb ev (.unOp op t x) = aun op (ev x) := rfl
theorem o_alloc {e} : aop tt lb ev (.alloc e) = (match tZero tt e with | some z => .new (allOne z = true) (.box z) (fun l => .loc l 0) | none => .bad) := rfl
theorem o_box {e x} : aop tt lb ev (.box e x) = .new (allOne (ev x).cells = true) (.box (ev x).cells) (fun l => .loc l 0) := rfl
theorem o_build {e} {ps : List (Nat × Operand)} : aop tt lb ev (.build e ps.toArray) = abuild tt e (ps.map fun (i, x) => (i, ev x)) := rfl
theorem o_buildSlice {e n} {ps : List (Nat × Operand)} : aop tt lb ev (.buildSlice e n ps.toArray) = abuildSlice tt e n (ps.map fun (i, x) => (i, ev x)) := rfl
theorem o_load {t x} : aop tt lb ev (.load t x) = aload tt lb t (ev x) := rfl
theorem o_store {t x y} : aop tt lb ev (.store t x y) = astore tt lb t (ev x) (ev y) := rfl
theorem o_fieldAddr {t x f} : aop tt lb ev (.fieldAddr t x f) = afieldAddr tt t (ev x) f := rfl
theorem o_field {t x f} : aop tt lb ev (.field t x f) = afield tt t (ev x) f := rfl
theorem o_indexAddr {t x i} : aop tt lb ev (.indexAddr t x i) = aindexAddr tt lb t (ev x) (ev i) := rfl
theorem o_index {t x i} : aop tt lb ev (.index t x i) = aindex tt t (ev x) (ev i) := rfl
theorem o_slice {t x lo hi mx} : aop tt lb ev (.slice t x lo hi mx) = aslice tt lb t (ev x) (lo.map ev) (hi.map ev) (mx.map ev) := rfl
theorem o_makeSlice {t l c} : aop tt lb ev (.makeSlice t l c) = amakeSlice tt t (ev l) (ev c) := rfl
theorem o_makeFunc {f} {caps : List Operand} : aop tt lb ev (.makeFunc (.func f) #[] caps.toArray) = .val True (.fn f (caps.map ev)) := rfl
theorem o_extract {x i} : aop tt lb ev (.extract x i) = aext (ev x) i := rfl
theorem o_nilCheck {x} : aop tt lb ev (.nilCheck x) = (match ev x with
    | .box cells off => .val True (.box cells off)
    | .loc l off => .val True (.loc l off)
    | .rloc l sz i f => .val True (.rloc l sz i f)
    | .fn f caps => .val True (.fn f caps)
    | _ => .bad) := rfl
theorem o_convert {a b x} : aop tt lb ev (.convert a b x) = (match tInt tt b, tInt tt a, ev x with
    | some k, some _, .raw (.int _ n) => .val True (.raw (.int k (k.wrap n)))
    | _, _, _ => .bad) := rfl
theorem o_pick {a b c} : aop tt lb ev (.pick c a b) = (match ev c with
    | .raw (.bool t) => match ev a, ev b with
      | .raw (.bool p), .raw (.bool q) => .val True (.raw (.bool (bif t then p else q)))
      | x, y => .val True (bif t then x else y)
    | _ => .bad) := rfl
theorem o_len {x t} : aop tt lb ev (.call ⟨.builtin .len, #[x], #[t]⟩) = (match tSlice tt t with | some _ => alen lb (ev x) | none => .bad) := rfl
theorem o_min {l : List Operand} {ts} : aop tt lb ev (.call ⟨.builtin .min, l.toArray, ts⟩) = aminmax true (l.map ev) := rfl
theorem o_max {l : List Operand} {ts} : aop tt lb ev (.call ⟨.builtin .max, l.toArray, ts⟩) = aminmax false (l.map ev) := rfl
theorem o_append {x y t} : aop tt lb ev (.call ⟨.builtin .append, #[x, y], #[t, t]⟩) = aappend tt lb t (ev x) (ev y) := by
  show (if t = t then aappend tt lb t (ev x) (ev y) else .bad) = _
  rw [if_pos rfl]
theorem o_call {f} {l : List Operand} {ts} : aop tt lb ev (.call ⟨.value f, l.toArray, ts⟩) = (match ev f with
      | .fn F caps => .call F (l.map (fun x => snap lb 6 (ev x)) ++ caps.map (snap lb 6)) (allFree (l.map ev) && allFree caps) (l.map ev ++ caps)
      | _ => .bad) := rfl
theorem sn6_raw {v : Value} : snap lb 6 (.raw v) = .raw v := rfl
theorem sn6_any : snap lb 6 .any = .any := rfl
theorem sn6_agg {l : List AV} : snap lb 6 (.agg l) = .agg (l.map (snap lb 5)) := rfl
theorem sn6_tup {l : List AV} : snap lb 6 (.tup l) = .tup (l.map (snap lb 5)) := rfl
theorem sn6_fn {f : FuncId} {l : List AV} : snap lb 6 (.fn f l) = .fn f (l.map (snap lb 5)) := rfl
theorem sn6_loc {l off : Nat} : snap lb 6 (.loc l off) = (match lb l with | some (.box cells) => .box (cells.map (snap lb 5)) off | _ => .any) := rfl
theorem sn6_own {l : Nat} : snap lb 6 (.own l) = (match lb l with | some (.row _ sz rows) => if rowsFree rows then .sl sz rows else .any | _ => .any) := rfl
theorem sn6_osl {l off n sz : Nat} : snap lb 6 (.osl l off n sz) = (match lb l with | some (.row _ sz' rows) => if Nat.beq sz' sz && (Nat.ble (off + n) rows.length && rowsFree ((rows.drop off).take n)) then .sl sz ((rows.drop off).take n) else .any | _ => .any) := rfl
theorem sn6_lsl {l off n sz : Nat} : snap lb 6 (.lsl l off n sz) = (match lb l with | some (.box cells) => if Nat.ble (off + n * sz) cells.length && allFree cells then .sl sz (cutRows sz n (cells.drop off)) else .any | _ => .any) := rfl
theorem sn6_sl {sz : Nat} {rows : List (List AV)} : snap lb 6 (.sl sz rows) = if rowsFree rows then .sl sz rows else .any := rfl
theorem sn6_box {l : List AV} {off : Nat} : snap lb 6 (.box l off) = if allFree l then .box l off else .any := rfl
theorem sn5_raw {v : Value} : snap lb 5 (.raw v) = .raw v := rfl
theorem sn5_any : snap lb 5 .any = .any := rfl
theorem sn5_agg {l : List AV} : snap lb 5 (.agg l) = .agg (l.map (snap lb 4)) := rfl
theorem sn5_tup {l : List AV} : snap lb 5 (.tup l) = .tup (l.map (snap lb 4)) := rfl
theorem sn5_fn {f : FuncId} {l : List AV} : snap lb 5 (.fn f l) = .fn f (l.map (snap lb 4)) := rfl
theorem sn5_loc {l off : Nat} : snap lb 5 (.loc l off) = (match lb l with | some (.box cells) => .box (cells.map (snap lb 4)) off | _ => .any) := rfl
theorem sn5_own {l : Nat} : snap lb 5 (.own l) = (match lb l with | some (.row _ sz rows) => if rowsFree rows then .sl sz rows else .any | _ => .any) := rfl
theorem sn5_osl {l off n sz : Nat} : snap lb 5 (.osl l off n sz) = (match lb l with | some (.row _ sz' rows) => if Nat.beq sz' sz && (Nat.ble (off + n) rows.length && rowsFree ((rows.drop off).take n)) then .sl sz ((rows.drop off).take n) else .any | _ => .any) := rfl
theorem sn5_lsl {l off n sz : Nat} : snap lb 5 (.lsl l off n sz) = (match lb l with | some (.box cells) => if Nat.ble (off + n * sz) cells.length && allFree cells then .sl sz (cutRows sz n (cells.drop off)) else .any | _ => .any) := rfl
theorem sn5_sl {sz : Nat} {rows : List (List AV)} : snap lb 5 (.sl sz rows) = if rowsFree rows then .sl sz rows else .any := rfl
theorem sn5_box {l : List AV} {off : Nat} : snap lb 5 (.box l off) = if allFree l then .box l off else .any := rfl
theorem sn4_raw {v : Value} : snap lb 4 (.raw v) = .raw v := rfl
theorem sn4_any : snap lb 4 .any = .any := rfl
theorem sn4_agg {l : List AV} : snap lb 4 (.agg l) = .agg (l.map (snap lb 3)) := rfl
theorem sn4_tup {l : List AV} : snap lb 4 (.tup l) = .tup (l.map (snap lb 3)) := rfl
theorem sn4_fn {f : FuncId} {l : List AV} : snap lb 4 (.fn f l) = .fn f (l.map (snap lb 3)) := rfl
theorem sn4_loc {l off : Nat} : snap lb 4 (.loc l off) = (match lb l with | some (.box cells) => .box (cells.map (snap lb 3)) off | _ => .any) := rfl
theorem sn4_own {l : Nat} : snap lb 4 (.own l) = (match lb l with | some (.row _ sz rows) => if rowsFree rows then .sl sz rows else .any | _ => .any) := rfl
theorem sn4_osl {l off n sz : Nat} : snap lb 4 (.osl l off n sz) = (match lb l with | some (.row _ sz' rows) => if Nat.beq sz' sz && (Nat.ble (off + n) rows.length && rowsFree ((rows.drop off).take n)) then .sl sz ((rows.drop off).take n) else .any | _ => .any) := rfl
theorem sn4_lsl {l off n sz : Nat} : snap lb 4 (.lsl l off n sz) = (match lb l with | some (.box cells) => if Nat.ble (off + n * sz) cells.length && allFree cells then .sl sz (cutRows sz n (cells.drop off)) else .any | _ => .any) := rfl
theorem sn4_sl {sz : Nat} {rows : List (List AV)} : snap lb 4 (.sl sz rows) = if rowsFree rows then .sl sz rows else .any := rfl
theorem sn4_box {l : List AV} {off : Nat} : snap lb 4 (.box l off) = if allFree l then .box l off else .any := rfl
theorem sn3_raw {v : Value} : snap lb 3 (.raw v) = .raw v := rfl
theorem sn3_any : snap lb 3 .any = .any := rfl
theorem sn3_agg {l : List AV} : snap lb 3 (.agg l) = .agg (l.map (snap lb 2)) := rfl
theorem sn3_tup {l : List AV} : snap lb 3 (.tup l) = .tup (l.map (snap lb 2)) := rfl
theorem sn3_fn {f : FuncId} {l : List AV} : snap lb 3 (.fn f l) = .fn f (l.map (snap lb 2)) := rfl
theorem sn3_loc {l off : Nat} : snap lb 3 (.loc l off) = (match lb l with | some (.box cells) => .box (cells.map (snap lb 2)) off | _ => .any) := rfl
theorem sn3_own {l : Nat} : snap lb 3 (.own l) = (match lb l with | some (.row _ sz rows) => if rowsFree rows then .sl sz rows else .any | _ => .any) := rfl
theorem sn3_osl {l off n sz : Nat} : snap lb 3 (.osl l off n sz) = (match lb l with | some (.row _ sz' rows) => if Nat.beq sz' sz && (Nat.ble (off + n) rows.length && rowsFree ((rows.drop off).take n)) then .sl sz ((rows.drop off).take n) else .any | _ => .any) := rfl
theorem sn3_lsl {l off n sz : Nat} : snap lb 3 (.lsl l off n sz) = (match lb l with | some (.box cells) => if Nat.ble (off + n * sz) cells.length && allFree cells then .sl sz (cutRows sz n (cells.drop off)) else .any | _ => .any) := rfl
theorem sn3_sl {sz : Nat} {rows : List (List AV)} : snap lb 3 (.sl sz rows) = if rowsFree rows then .sl sz rows else .any := rfl
theorem sn3_box {l : List AV} {off : Nat} : snap lb 3 (.box l off) = if allFree l then .box l off else .any := rfl
theorem sn2_raw {v : Value} : snap lb 2 (.raw v) = .raw v := rfl
theorem sn2_any : snap lb 2 .any = .any := rfl
theorem sn2_agg {l : List AV} : snap lb 2 (.agg l) = .agg (l.map (snap lb 1)) := rfl
theorem sn2_tup {l : List AV} : snap lb 2 (.tup l) = .tup (l.map (snap lb 1)) := rfl
theorem sn2_fn {f : FuncId} {l : List AV} : snap lb 2 (.fn f l) = .fn f (l.map (snap lb 1)) := rfl
theorem sn2_loc {l off : Nat} : snap lb 2 (.loc l off) = (match lb l with | some (.box cells) => .box (cells.map (snap lb 1)) off | _ => .any) := rfl
theorem sn2_own {l : Nat} : snap lb 2 (.own l) = (match lb l with | some (.row _ sz rows) => if rowsFree rows then .sl sz rows else .any | _ => .any) := rfl
theorem sn2_osl {l off n sz : Nat} : snap lb 2 (.osl l off n sz) = (match lb l with | some (.row _ sz' rows) => if Nat.beq sz' sz && (Nat.ble (off + n) rows.length && rowsFree ((rows.drop off).take n)) then .sl sz ((rows.drop off).take n) else .any | _ => .any) := rfl
theorem sn2_lsl {l off n sz : Nat} : snap lb 2 (.lsl l off n sz) = (match lb l with | some (.box cells) => if Nat.ble (off + n * sz) cells.length && allFree cells then .sl sz (cutRows sz n (cells.drop off)) else .any | _ => .any) := rfl
theorem sn2_sl {sz : Nat} {rows : List (List AV)} : snap lb 2 (.sl sz rows) = if rowsFree rows then .sl sz rows else .any := rfl
theorem sn2_box {l : List AV} {off : Nat} : snap lb 2 (.box l off) = if allFree l then .box l off else .any := rfl
theorem nbeq {a b : Nat} : Nat.beq a b = decide (a = b) := by
  by_cases h : a = b
  · subst h; simp [Nat.beq_refl]
  · cases hb : Nat.beq a b with
    | false => simp [h]
    | true => exact absurd (Nat.eq_of_beq_eq_true hb) h
theorem nble {a b : Nat} : Nat.ble a b = decide (a ≤ b) := by
  by_cases h : a ≤ b
  · simp [h, Nat.ble_eq]
  · cases hb : Nat.ble a b with
    | false => simp [h]
    | true => exact absurd (Nat.le_of_ble_eq_true hb) h
theorem rt1 {x : AV} : retAV [x] = x := rfl
theorem rt2 {x y : AV} {l : List AV} : retAV (x :: y :: l) = .tup (x :: y :: l) := rfl
variable {k k' : IntKind} {a b : Int} {tb : Bool} {te : Option Nat} {ts : Bool}
theorem a_add : abin tb te ts .add (.raw (.int k a)) (.raw (.int k b)) = .val True (.raw (.int k (k.wrap (a + b)))) := by simp [abin, aints, aint]
theorem a_sub : abin tb te ts .sub (.raw (.int k a)) (.raw (.int k b)) = .val True (.raw (.int k (k.wrap (a - b)))) := by simp [abin, aints, aint]
theorem a_mul : abin tb te ts .mul (.raw (.int k a)) (.raw (.int k b)) = .val True (.raw (.int k (k.wrap (a * b)))) := by simp [abin, aints, aint]
theorem a_quo : abin tb te ts .quo (.raw (.int k a)) (.raw (.int k b)) = .val (b ≠ 0) (.raw (.int k (k.wrap (a.tdiv b)))) := by simp [abin, aints, aint]
theorem a_rem : abin tb te ts .rem (.raw (.int k a)) (.raw (.int k b)) = .val (b ≠ 0) (.raw (.int k (a.tmod b))) := by simp [abin, aints, aint]
theorem a_and : abin tb te ts .and (.raw (.int k a)) (.raw (.int k b)) = .val True (.raw (.int k (bits .and k a b))) := by simp [abin, aints, aint]
theorem a_or : abin tb te ts .or (.raw (.int k a)) (.raw (.int k b)) = .val True (.raw (.int k (bits .or k a b))) := by simp [abin, aints, aint]
theorem a_xor : abin tb te ts .xor (.raw (.int k a)) (.raw (.int k b)) = .val True (.raw (.int k (bits .xor k a b))) := by simp [abin, aints, aint]
theorem a_eql : abin tb te ts .eql (.raw (.int k a)) (.raw (.int k b)) = .val True (.raw (.bool (decide (a = b)))) := by simp [abin, aints, aint]; rfl
theorem a_neq : abin tb te ts .neq (.raw (.int k a)) (.raw (.int k b)) = .val True (.raw (.bool (!decide (a = b)))) := by simp [abin, aints, aint]; rfl
theorem a_lss : abin tb te ts .lss (.raw (.int k a)) (.raw (.int k b)) = .val True (.raw (.bool (decide (a < b)))) := by simp [abin, aints, aint]
theorem a_leq : abin tb te ts .leq (.raw (.int k a)) (.raw (.int k b)) = .val True (.raw (.bool (decide (a ≤ b)))) := by simp [abin, aints, aint]
theorem a_gtr : abin tb te ts .gtr (.raw (.int k a)) (.raw (.int k b)) = .val True (.raw (.bool (decide (b < a)))) := by simp [abin, aints, aint]
theorem a_geq : abin tb te ts .geq (.raw (.int k a)) (.raw (.int k b)) = .val True (.raw (.bool (decide (b ≤ a)))) := by simp [abin, aints, aint]
theorem a_shl : abin tb te ts .shl (.raw (.int k a)) (.raw (.int k' b)) = .val (0 ≤ b) (.raw (.int k (k.wrap (a * 2 ^ (min b.toNat k.bits))))) := rfl
theorem a_shr : abin tb te ts .shr (.raw (.int k a)) (.raw (.int k' b)) = .val (0 ≤ b) (.raw (.int k (a.fdiv (2 ^ (min b.toNat k.bits))))) := rfl
theorem a_beql {p q : Bool} : abin true te ts .eql (.raw (.bool p)) (.raw (.bool q)) = .val True (.raw (.bool (p == q))) := rfl
theorem a_bneq {p q : Bool} : abin true te ts .neq (.raw (.bool p)) (.raw (.bool q)) = .val True (.raw (.bool (p != q))) := rfl
theorem a_agg {op n} {l l' : List AV} : abin tb (some n) ts op (.agg l) (.agg l') = (match intsOf l, intsOf l' with | some a, some b => aeqs op n a b | _, _ => .bad) := by
  show aaggs (some n) op l l' = _
  unfold aaggs
  cases intsOf l <;> cases intsOf l' <;> rfl
theorem a_nil {sz : Nat} {rows : List (List AV)} {n c : Nat} : abin tb te true .eql (.sl sz rows) (.raw (.slice none n c)) = .val (0 < rows.length) (.raw (.bool false)) := rfl
theorem a_nnil {sz : Nat} {rows : List (List AV)} {n c : Nat} : abin tb te true .neq (.sl sz rows) (.raw (.slice none n c)) = .val (0 < rows.length) (.raw (.bool true)) := rfl
theorem a_eqs {n : Nat} {a b : List Int} : aeqs .eql n a b = .val (a.length = n ∧ b.length = n) (.raw (.bool (decide (a = b)))) := rfl
theorem a_nes {n : Nat} {a b : List Int} : aeqs .neq n a b = .val (a.length = n ∧ b.length = n) (.raw (.bool (!decide (a = b)))) := rfl
theorem i_nil : intsOf [] = some [] := rfl
theorem i_cons {x : Int} {r : List AV} : intsOf (.raw (.int .i64 x) :: r) = (match intsOf r with | some l => some (x :: l) | none => none) := rfl
theorem a_neg : aun .neg (.raw (.int k a)) = .val True (.raw (.int k (k.wrap (0 - a)))) := rfl
theorem a_not {p : Bool} : aun .not (.raw (.bool p)) = .val True (.raw (.bool (!p))) := rfl
theorem pc_t {n : Nat} {cells : List AV} {off : Nat} : pieceOf (true, n) cells off = .val (off + n ≤ cells.length) (.agg ((cells.drop off).take n)) := rfl
theorem pc_f {n : Nat} {cells : List AV} {off : Nat} : pieceOf (false, n) cells off = .val (off < cells.length) (cells.getD off .any) := rfl
theorem c_skip : evc P tt X Z k0 .skip Q s = Q .normal s := rfl
theorem c_region {id : Nat} {ops : List Oper} {b : Bool} : evc P tt X Z k0 (.region id ops.toArray b) Q s = wkK k0 (Z id) s (fun s => evr P tt ops.toArray ops (X id) s (Q .normal)) := rfl
theorem w_f {K : St → Prop} : wkK k0 false s K = K s := rfl
theorem w_t {K : St → Prop} : wkK k0 true s K = ∃ s', Weak k0 s s' ∧ K s' := rfl
theorem c_loop {x : Code} : evc P tt X Z k0 (.loop x) Q s = ∃ k, loopN k0 (evc P tt X Z k0 x) Q k s := rfl
theorem c_seq {x y : Code} : evc P tt X Z k0 (.seq x y) Q s = evc P tt X Z k0 x (thenK (evc P tt X Z k0 y Q) Q) s := rfl
/-- Two ways. -/
def CondB (P : Program) (tt : TypeId → Option TI) (X : Nat → List (List Operand)) (Z : Nat → Bool) (k0 : Nat) (x y : Code) (Q : Exit → St → Prop) (s : St) (b : Bool) : Prop := (b = true → evc P tt X Z k0 x Q s) ∧ (b = false → evc P tt X Z k0 y Q s)
def CondE (P : Program) (tt : TypeId → Option TI) (X : Nat → List (List Operand)) (Z : Nat → Bool) (k0 : Nat) (x y : Code) (Q : Exit → St → Prop) (s : St) : AV → Prop
  | .raw (.bool b) => CondB P tt X Z k0 x y Q s b
  | _ => False
theorem c_cond {c : Operand} {x y : Code} : evc P tt X Z k0 (.cond c x y) Q s = CondE P tt X Z k0 x y Q s (s.ev c) := by
  show (match s.ev c with
    | .raw (.bool b) => (b = true → evc P tt X Z k0 x Q s) ∧ (b = false → evc P tt X Z k0 y Q s)
    | _ => False) = _
  cases s.ev c with
  | raw v => cases v <;> rfl
  | _ => rfl
theorem ce_b {x y : Code} {b : Bool} : CondE P tt X Z k0 x y Q s (.raw (.bool b)) = CondB P tt X Z k0 x y Q s b := rfl
theorem cb_t {x y : Code} : CondB P tt X Z k0 x y Q s true = evc P tt X Z k0 x Q s := by simp [CondB]
theorem cb_f {x y : Code} : CondB P tt X Z k0 x y Q s false = evc P tt X Z k0 y Q s := by simp [CondB]
theorem cb_d {x y : Code} {p : Prop} [Decidable p] : CondB P tt X Z k0 x y Q s (decide p) = ((p → evc P tt X Z k0 x Q s) ∧ (¬ p → evc P tt X Z k0 y Q s)) := by simp [CondB]
theorem cb_n {x y : Code} {p : Prop} [Decidable p] : CondB P tt X Z k0 x y Q s (!decide p) = ((¬ p → evc P tt X Z k0 x Q s) ∧ (p → evc P tt X Z k0 y Q s)) := by simp [CondB]
theorem c_block {id : Nat} {x : Code} : evc P tt X Z k0 (.block id x) Q s = evc P tt X Z k0 x (blockK id Q) s := rfl
theorem c_exit {id : Nat} : evc P tt X Z k0 (.exit id) Q s = Q (.exit id) s := rfl
theorem c_rng {g : Operand} {ps : Array Tmp} {as b : Code} : evc P tt X Z k0 (.rangeFunc g ps as b) Q s = rngK P k0 (fun k => evc P tt X Z k b) g ps as Q s := rfl
theorem bs_nil {vs : List AV} : bindS [] vs s = s := by cases vs <;> rfl
theorem bs_cons {p : Tmp} {ps : List Tmp} {v : AV} {vs : List AV} : bindS (p :: ps) (v :: vs) s = bindS ps vs (s.put (some p) v) := rfl
theorem as_skip : asgS .skip s = s := rfl
theorem as_region {id : Nat} {l : List Oper} {b : Bool} : asgS (.region id l.toArray b) s = asgL l s := rfl
theorem as_seq {a b : Code} : asgS (.seq a b) s = asgS b (asgS a s) := rfl
theorem asl_nil : asgL [] s = s := rfl
theorem asl_assign {x : Operand} : asgL (⟨d, .assign x, ty, po, af, none⟩ :: os) s = asgL os (s.put d (s.ev x)) := rfl
theorem asl_move {x : Operand} : asgL (⟨d, .move x, ty, po, af, none⟩ :: os) s = asgL os (s.put d (s.ev x)) := rfl
theorem rk_n {kst nx : Nat} {l : List (Nat × Option LB)} : rndK kst nx l .normal s = Weak kst s ⟨[], l, nx⟩ := rfl
theorem el_nil {k : Nat} : envLt k [] = true := rfl
theorem el_cons {k t : Nat} {x : AV} {r : List (Nat × AV)} : envLt k ((t, x) :: r) = (x.lt k && envLt k r) := rfl
theorem c_ret : evc P tt X Z k0 .ret Q s = Q .ret s := rfl
theorem t_normal {K : St → Prop} : thenK K Q .normal s = K s := rfl
theorem t_ret {K : St → Prop} : thenK K Q .ret s = Q .ret s := rfl
theorem t_exit {K : St → Prop} {id : Nat} : thenK K Q (.exit id) s = Q (.exit id) s := rfl
theorem b_normal {id : Nat} : blockK id Q .normal s = Q .normal s := rfl
theorem b_ret {id : Nat} : blockK id Q .ret s = Q .ret s := rfl
theorem b_hit {id : Nat} : blockK id Q (.exit id) s = Q .normal s := by
  show (if Nat.beq id id then _ else _) = _
  rw [Nat.beq_refl]
  rfl
theorem b_miss {id id' : Nat} (h : (id' == id) = false) : blockK id Q (.exit id') s = Q (.exit id') s := by
  show (if Nat.beq id' id then _ else _) = _
  have hb : Nat.beq id' id = false := by
    cases hb : Nat.beq id' id with
    | false => rfl
    | true => rw [Nat.eq_of_beq_eq_true hb] at h; simp at h
  rw [hb]
  rfl
theorem en_nil {k : Nat} : entryEnv k [] = [] := rfl
theorem en_cons {k : Nat} {x : AV} {r : List AV} : entryEnv k (x :: r) = (k, x) :: entryEnv (k + 1) r := rfl
theorem en_entry {l : List AV} : entry l = ⟨entryEnv 0 l, [], 0⟩ := rfl
theorem f_normal {res : List ResultVar} {r : AV} : endK tt res r .normal s = resK tt s (fun l => retAV (l.map (snap s.lb 6)) = r) res [] := rfl
theorem f_ret {res : List ResultVar} {r : AV} : endK tt res r .ret s = resK tt s (fun l => retAV (l.map (snap s.lb 6)) = r) res [] := rfl
theorem r_nil {K : List AV → Prop} {acc : List AV} : resK tt s K [] acc = K acc.reverse := rfl
theorem r_tmp {K : List AV → Prop} {acc : List AV} {t : Tmp} {r} : resK tt s K (.tmp t :: r) acc = resK tt s K r (s.ev (.tmp t) :: acc) := rfl
theorem r_cell {K : List AV → Prop} {acc : List AV} {t : Tmp} {ty r} : resK tt s K (.cell t ty :: r) acc = (match aload tt s.lb ty (s.ev (.tmp t)) with
    | .val p x => p ∧ resK tt s K r (x :: acc)
    | _ => False) := rfl
/-- A round. -/
theorem l_succ {B : (Exit → St → Prop) → St → Prop} {n : Nat} (h : B (fun e s1 => match e with | .normal => loopN k0 B Q n s1 | e => Q e s1) s) : loopN k0 B Q (n + 1) s := ⟨s, Weak.refl k0 s, h⟩
/-- A loop, by its states. -/
theorem l_inv {B : (Exit → St → Prop) → St → Prop} (S : Nat → St) (n : Nat) (h0 : Weak k0 s (S 0)) (hs : ∀ i, i < n → ∀ K : St → Prop, (∀ s1, Weak k0 s1 (S (i + 1)) → K s1) → B (fun e s1 => match e with | .normal => K s1 | e => Q e s1) (S i)) (he : ∀ K : St → Prop, B (fun e s1 => match e with | .normal => K s1 | e => Q e s1) (S n)) : ∃ k, loopN k0 B Q k s := by
  have key : ∀ j, j ≤ n → ∀ s1, Weak k0 s1 (S (n - j)) → loopN k0 B Q (j + 1) s1 := by
    intro j
    induction j with
    | zero => intro _ s1 h; exact ⟨S n, h, he _⟩
    | succ j ih =>
      intro hj s1 h
      refine ⟨_, h, hs (n - (j + 1)) (by omega) _ fun s2 h2 => ih (by omega) s2 ?_⟩
      rw [show n - j = n - (j + 1) + 1 by omega]
      exact h2
  exact ⟨n + 1, key n (Nat.le_refl _) s (by rw [Nat.sub_self]; exact h0)⟩
theorem en_entryG {L : List LB} {l : List AV} : entryG L l = ⟨entryEnv 0 l, lblsOf 0 L, L.length⟩ := rfl
theorem lo_nil {k : Nat} : lblsOf k [] = [] := rfl
theorem lo_cons {k : Nat} {B : LB} {r : List LB} : lblsOf k (B :: r) = (k, some B) :: lblsOf (k + 1) r := rfl
theorem fg_normal {res : List ResultVar} {L' : List LB} {id : Option Nat} {nw : Option LB} {r : AV} : endG tt res L' id nw r .normal s = resK tt s (fun l => keptK s.lb 0 L' ∧ newK s.lb L'.length id nw ∧ retAV (l.map (outG L'.length id s.lb)) = r) res [] := rfl
theorem fg_ret {res : List ResultVar} {L' : List LB} {id : Option Nat} {nw : Option LB} {r : AV} : endG tt res L' id nw r .ret s = resK tt s (fun l => keptK s.lb 0 L' ∧ newK s.lb L'.length id nw ∧ retAV (l.map (outG L'.length id s.lb)) = r) res [] := rfl
theorem kk_nil {i : Nat} : keptK lb i [] = True := rfl
theorem kk_cons {i : Nat} {B : LB} {r : List LB} : keptK lb i (B :: r) = (lb i = some B ∧ B.free = true ∧ keptK lb (i + 1) r) := rfl
theorem nk_none {k : Nat} : newK lb k none none = True := rfl
theorem nk_some {k i : Nat} {B : LB} : newK lb k (some i) (some B) = (lb i = some B ∧ B.free = true ∧ Nat.ble k i = true) := rfl
theorem og_raw {k : Nat} {id : Option Nat} {v : Value} : outG k id lb (.raw v) = .raw v := by cases id <;> rfl
theorem og_agg {k : Nat} {id : Option Nat} {l : List AV} : outG k id lb (.agg l) = snap (hide k id lb) 6 (.agg l) := by cases id <;> rfl
theorem og_sl {k : Nat} {id : Option Nat} {sz : Nat} {l : List (List AV)} : outG k id lb (.sl sz l) = snap (hide k id lb) 6 (.sl sz l) := by cases id <;> rfl
theorem og_own {k l : Nat} : outG k none lb (.own l) = snap (hide k none lb) 6 (.own l) := rfl
theorem og_own' {k l i : Nat} : outG k (some i) lb (.own l) = if Nat.beq l i then .own k else snap (hide k (some i) lb) 6 (.own l) := rfl
theorem hd_def {k l : Nat} {id : Option Nat} : hide k id lb l = if Nat.blt l k then none else match id with
  | none => lb l
  | some i => if Nat.beq l i then none else lb l := rfl
theorem lf_box {l : List AV} : LB.free (.box l) = allFree l := rfl
theorem lf_row {e sz : Nat} {l : List (List AV)} : LB.free (.row e sz l) = rowsFree l := rfl
theorem pa_nil {lbl : List (Nat × Option LB)} : putAll [] lbl = lbl := rfl
theorem pa_cons {l : Nat} {B : LB} {r : List (Nat × LB)} {lbl : List (Nat × Option LB)} : putAll ((l, B) :: r) lbl = putAll r ((l, some B) :: lbl) := rfl
theorem gk_nil {L : List LB} : givenK lb [] L = True := rfl
theorem gk_cons {i : Nat} {r : List Nat} {B : LB} {L : List LB} : givenK lb (i :: r) (B :: L) = (lb i = some B ∧ givenK lb r L) := rfl
theorem fk_nil : freeK [] = True := rfl
theorem fk_cons {B : LB} {r : List LB} : freeK (B :: r) = (B.free = true ∧ freeK r) := rfl
theorem o_slice_osl {t : TypeId} {l off n sz : Nat} {lo hi mx : Option AV} : aslice tt lb t (.osl l off n sz) lo hi mx = (match tSlice tt t with | some (_, ei) => apart l off n sz ei lo hi mx | none => .bad) := rfl
theorem w_0 : IntKind.i64.wrap 0 = 0 := by decide
theorem w_1 : IntKind.i64.wrap 1 = 1 := by decide
theorem w_2 : IntKind.i64.wrap 2 = 2 := by decide
theorem w_3 : IntKind.i64.wrap 3 = 3 := by decide
theorem w_4 : IntKind.i64.wrap 4 = 4 := by decide
theorem w_5 : IntKind.i64.wrap 5 = 5 := by decide
theorem w_6 : IntKind.i64.wrap 6 = 6 := by decide
theorem w_7 : IntKind.i64.wrap 7 = 7 := by decide
theorem w_8 : IntKind.i64.wrap 8 = 8 := by decide
theorem w_9 : IntKind.i64.wrap 9 = 9 := by decide
theorem w_10 : IntKind.i64.wrap 10 = 10 := by decide
theorem w_11 : IntKind.i64.wrap 11 = 11 := by decide
theorem w_12 : IntKind.i64.wrap 12 = 12 := by decide
theorem w_13 : IntKind.i64.wrap 13 = 13 := by decide
theorem w_14 : IntKind.i64.wrap 14 = 14 := by decide
theorem w_15 : IntKind.i64.wrap 15 = 15 := by decide
theorem w_16 : IntKind.i64.wrap 16 = 16 := by decide
theorem w_17 : IntKind.i64.wrap 17 = 17 := by decide
theorem w_18 : IntKind.i64.wrap 18 = 18 := by decide
theorem w_19 : IntKind.i64.wrap 19 = 19 := by decide
theorem w_20 : IntKind.i64.wrap 20 = 20 := by decide
theorem w_21 : IntKind.i64.wrap 21 = 21 := by decide
theorem w_22 : IntKind.i64.wrap 22 = 22 := by decide
theorem w_23 : IntKind.i64.wrap 23 = 23 := by decide
theorem w_24 : IntKind.i64.wrap 24 = 24 := by decide
theorem w_25 : IntKind.i64.wrap 25 = 25 := by decide
theorem w_26 : IntKind.i64.wrap 26 = 26 := by decide
theorem w_27 : IntKind.i64.wrap 27 = 27 := by decide
theorem w_28 : IntKind.i64.wrap 28 = 28 := by decide
theorem w_29 : IntKind.i64.wrap 29 = 29 := by decide
theorem w_30 : IntKind.i64.wrap 30 = 30 := by decide
theorem w_31 : IntKind.i64.wrap 31 = 31 := by decide
theorem w_32 : IntKind.i64.wrap 32 = 32 := by decide
theorem w_33 : IntKind.i64.wrap 33 = 33 := by decide
theorem w_34 : IntKind.i64.wrap 34 = 34 := by decide
theorem w_35 : IntKind.i64.wrap 35 = 35 := by decide
theorem w_36 : IntKind.i64.wrap 36 = 36 := by decide
theorem w_37 : IntKind.i64.wrap 37 = 37 := by decide
theorem w_38 : IntKind.i64.wrap 38 = 38 := by decide
theorem w_39 : IntKind.i64.wrap 39 = 39 := by decide
theorem w_40 : IntKind.i64.wrap 40 = 40 := by decide
theorem w_41 : IntKind.i64.wrap 41 = 41 := by decide
theorem w_42 : IntKind.i64.wrap 42 = 42 := by decide
theorem w_43 : IntKind.i64.wrap 43 = 43 := by decide
theorem w_44 : IntKind.i64.wrap 44 = 44 := by decide
theorem w_45 : IntKind.i64.wrap 45 = 45 := by decide
theorem w_46 : IntKind.i64.wrap 46 = 46 := by decide
theorem w_47 : IntKind.i64.wrap 47 = 47 := by decide
theorem w_48 : IntKind.i64.wrap 48 = 48 := by decide
theorem w_49 : IntKind.i64.wrap 49 = 49 := by decide
theorem w_50 : IntKind.i64.wrap 50 = 50 := by decide
theorem w_51 : IntKind.i64.wrap 51 = 51 := by decide
theorem w_52 : IntKind.i64.wrap 52 = 52 := by decide
theorem w_53 : IntKind.i64.wrap 53 = 53 := by decide
theorem w_54 : IntKind.i64.wrap 54 = 54 := by decide
theorem w_55 : IntKind.i64.wrap 55 = 55 := by decide
theorem w_56 : IntKind.i64.wrap 56 = 56 := by decide
theorem w_57 : IntKind.i64.wrap 57 = 57 := by decide
theorem w_58 : IntKind.i64.wrap 58 = 58 := by decide
theorem w_59 : IntKind.i64.wrap 59 = 59 := by decide
theorem w_60 : IntKind.i64.wrap 60 = 60 := by decide
theorem w_61 : IntKind.i64.wrap 61 = 61 := by decide
theorem w_62 : IntKind.i64.wrap 62 = 62 := by decide
theorem w_63 : IntKind.i64.wrap 63 = 63 := by decide
theorem w_64 : IntKind.i64.wrap 64 = 64 := by decide
theorem w_65 : IntKind.i64.wrap 65 = 65 := by decide
theorem w_66 : IntKind.i64.wrap 66 = 66 := by decide
theorem w_67 : IntKind.i64.wrap 67 = 67 := by decide
theorem w_68 : IntKind.i64.wrap 68 = 68 := by decide
theorem w_69 : IntKind.i64.wrap 69 = 69 := by decide
theorem w_70 : IntKind.i64.wrap 70 = 70 := by decide
theorem w_m1 : IntKind.i64.wrap (-1) = -1 := by decide
theorem w_m2 : IntKind.i64.wrap (-2) = -2 := by decide
theorem w_m3 : IntKind.i64.wrap (-3) = -3 := by decide
theorem w_m4 : IntKind.i64.wrap (-4) = -4 := by decide
theorem rn_raw {ρ : Nat → Nat} {v : Value} : AV.ren ρ (.raw v) = .raw v := rfl
theorem rn_any {ρ : Nat → Nat} : AV.ren ρ .any = .any := rfl
theorem rn_agg {ρ : Nat → Nat} {l : List AV} : AV.ren ρ (.agg l) = .agg (renAll ρ l) := rfl
theorem rn_tup {ρ : Nat → Nat} {l : List AV} : AV.ren ρ (.tup l) = .tup (renAll ρ l) := rfl
theorem rn_fn {ρ : Nat → Nat} {f : FuncId} {l : List AV} : AV.ren ρ (.fn f l) = .fn f (renAll ρ l) := rfl
theorem rn_loc {ρ : Nat → Nat} {l off : Nat} : AV.ren ρ (.loc l off) = .loc (ρ l) off := rfl
theorem rn_own {ρ : Nat → Nat} {l : Nat} : AV.ren ρ (.own l) = .own (ρ l) := rfl
theorem rn_rloc {ρ : Nat → Nat} {l sz i f : Nat} : AV.ren ρ (.rloc l sz i f) = .rloc (ρ l) sz i f := rfl
theorem rn_lsl {ρ : Nat → Nat} {l off n sz : Nat} : AV.ren ρ (.lsl l off n sz) = .lsl (ρ l) off n sz := rfl
theorem rn_osl {ρ : Nat → Nat} {l off n sz : Nat} : AV.ren ρ (.osl l off n sz) = .osl (ρ l) off n sz := rfl
theorem rn_sl {ρ : Nat → Nat} {sz : Nat} {l : List (List AV)} : AV.ren ρ (.sl sz l) = .sl sz (renRows ρ l) := rfl
theorem rn_box {ρ : Nat → Nat} {l : List AV} {off : Nat} : AV.ren ρ (.box l off) = .box (renAll ρ l) off := rfl
theorem ra_nil {ρ : Nat → Nat} : renAll ρ [] = [] := rfl
theorem ra_cons {ρ : Nat → Nat} {x : AV} {l : List AV} : renAll ρ (x :: l) = x.ren ρ :: renAll ρ l := rfl
theorem rr_nil {ρ : Nat → Nat} : renRows ρ [] = [] := rfl
theorem rr_cons {ρ : Nat → Nat} {x : List AV} {l : List (List AV)} : renRows ρ (x :: l) = renAll ρ x :: renRows ρ l := rfl
mutual
theorem ren_free (ρ : Nat → Nat) : ∀ (x : AV), x.free = true → x.ren ρ = x
  | .any, _ => rfl
  | .raw _, _ => rfl
  | .agg l, h => by show AV.agg (renAll ρ l) = _; rw [renAll_free ρ l h]
  | .tup l, h => by show AV.tup (renAll ρ l) = _; rw [renAll_free ρ l h]
  | .sl sz l, h => by show AV.sl sz (renRows ρ l) = _; rw [renRows_free ρ l h]
  | .fn f l, h => by show AV.fn f (renAll ρ l) = _; rw [renAll_free ρ l h]
  | .iface t v, h => by show AV.iface t (v.ren ρ) = _; rw [ren_free ρ v h]
  | .box l off, h => by show AV.box (renAll ρ l) off = _; rw [renAll_free ρ l h]
theorem renAll_free (ρ : Nat → Nat) : ∀ (l : List AV), allFree l = true → renAll ρ l = l
  | [], _ => rfl
  | x :: r, h => by
    rw [allFree, Bool.and_eq_true] at h
    rw [ra_cons, ren_free ρ x h.1, renAll_free ρ r h.2]
theorem renRows_free (ρ : Nat → Nat) : ∀ (l : List (List AV)), rowsFree l = true → renRows ρ l = l
  | [], _ => rfl
  | x :: r, h => by
    rw [rowsFree, Bool.and_eq_true] at h
    rw [rr_cons, renAll_free ρ x h.1, renRows_free ρ r h.2]
end
theorem lt_raw {k : Nat} {v : Value} : AV.lt k (.raw v) = true := rfl
theorem lt_any {k : Nat} : AV.lt k .any = true := rfl
theorem lt_agg {k : Nat} {l : List AV} : AV.lt k (.agg l) = allLt k l := rfl
theorem lt_tup {k : Nat} {l : List AV} : AV.lt k (.tup l) = allLt k l := rfl
theorem lt_fn {k : Nat} {f : FuncId} {l : List AV} : AV.lt k (.fn f l) = allLt k l := rfl
theorem lt_loc {k l off : Nat} : AV.lt k (.loc l off) = Nat.blt l k := rfl
theorem lt_own {k l : Nat} : AV.lt k (.own l) = Nat.blt l k := rfl
theorem lt_rloc {k l sz i f : Nat} : AV.lt k (.rloc l sz i f) = Nat.blt l k := rfl
theorem lt_lsl {k l off n sz : Nat} : AV.lt k (.lsl l off n sz) = Nat.blt l k := rfl
theorem lt_osl {k l off n sz : Nat} : AV.lt k (.osl l off n sz) = Nat.blt l k := rfl
theorem lt_box {k off : Nat} {l : List AV} : AV.lt k (.box l off) = allLt k l := rfl
theorem al_nil {k : Nat} : allLt k [] = true := rfl
theorem al_cons {k : Nat} {x : AV} {l : List AV} : allLt k (x :: l) = (x.lt k && allLt k l) := rfl
theorem rl_loc {l o : Nat} : rlab (.loc l o) = some l := rfl
theorem rl_own {l : Nat} : rlab (.own l) = some l := rfl
theorem rl_rloc {l sz i f : Nat} : rlab (.rloc l sz i f) = some l := rfl
theorem rl_osl {l off n sz : Nat} : rlab (.osl l off n sz) = some l := rfl
theorem rl_box {l : List AV} {o : Nat} : rlab (.box l o) = none := rfl
theorem rl_sl {l : List (List AV)} {o : Nat} : rlab (.sl o l) = none := rfl
theorem nblt {a b : Nat} : Nat.blt a b = decide (a < b) := by
  unfold Nat.blt
  rw [nble]
  by_cases h : a < b
  · rw [decide_eq_true h, decide_eq_true (Nat.succ_le_of_lt h)]
  · rw [decide_eq_false h, decide_eq_false (fun h' => h (Nat.lt_of_succ_le h'))]
/-! Slots. -/
theorem we_nil {σ : Nat → Nat} {k : Nat} {lbH : Nat → Option LB} {env : List (Nat × AV)} : wkEnv σ k lbH env [] = True := rfl
theorem we_cons {σ : Nat → Nat} {k : Nat} {lbH : Nat → Option LB} {env r : List (Nat × AV)} {t : Nat} {x : AV} : wkEnv σ k lbH env ((t, x) :: r) = (wkO σ k lbH x (look t env) ∧ wkEnv σ k lbH env r) := rfl
theorem wo_some {σ : Nat → Nat} {k : Nat} {lbH : Nat → Option LB} {x y : AV} : wkO σ k lbH x (some y) = ((y = x ∧ x.free = true) ∨ (y = x.ren σ ∧ x.lt k = true) ∨ x = snap lbH 6 y) := rfl
theorem wob_some {σ : Nat → Nat} {k : Nat} {x y : LB} : wkOB σ k x (some y) = ((y = x ∧ x.free = true) ∨ (y = x.ren σ ∧ x.lt k = true)) := rfl
theorem hl_def {ids : List Nat} {l : Nat} : hideL ids lb l = if inN l ids then none else lb l := rfl
theorem in_nil {l : Nat} : inN l [] = false := rfl
theorem in_cons {l m : Nat} {r : List Nat} : inN l (m :: r) = (Nat.beq l m || inN l r) := rfl
theorem wl_nil {σ : Nat → Nat} {k : Nat} : wkLbl σ k lb [] = True := rfl
theorem wl_cons {σ : Nat → Nat} {k l : Nat} {B : LB} {r : List (Nat × Option LB)} : wkLbl σ k lb ((l, some B) :: r) = ((Nat.blt l k = true ∧ wkOB σ k B (lb (σ l)) ∧ (r.all fun p => !Nat.beq (σ p.1) (σ l)) = true) ∧ wkLbl σ k lb r) := rfl
end
end Go.Proofs.YtfemklaeonkidaaV

import Derived.Below
import Derived.WalkKit
import Derived.KernelRfl
import Derived.Orders
import Derived.LoopN
import Derived.Laws.AppendOwn
import Derived.Laws.Cells
import Derived.Deep.Draws
import Derived.Laws.StructEq
import Derived.ChangeKeysEq
import Derived.Great.BuildSlice
import Derived.Laws.MakeOwn
/- An evaluator of the model's code over abstract values; its operations. -/
/- An evaluator of the model's code over abstract values (what is read is told by its contents, what a call makes for itself by labels). -/
namespace Go.Proofs.YtnnjjblgilibgaaGreatV
open Go Go.RowKit
set_option linter.unusedVariables false
set_option linter.unusedSimpArgs false

/-- A value, with what it points to: contents, not places. -/
inductive AV where
  | any
  | raw (v : Value)
  | agg (l : List AV)
  | tup (l : List AV)
  | sl (sz : Nat) (rows : List (List AV))
  | fn (f : FuncId) (caps : List AV)
  | iface (t : TypeId) (v : AV)
  | box (cells : List AV) (off : Nat)
  | loc (l off : Nat)
  | own (l : Nat)
  | rloc (l sz i f : Nat)
  | lsl (l off n sz : Nat)
  | osl (l off n sz : Nat)
  | csl (sz : Nat) (rows : List (List AV))
  deriving Inhabited

abbrev AV.int (n : Int) : AV := .raw (.int .i64 n)
abbrev AV.bool (b : Bool) : AV := .raw (.bool b)

/-- What a label holds: cells of a variable, or the rows of a slice of the call's own. -/
inductive LB where
  | box (cells : List AV)
  | row (e : TypeId) (sz : Nat) (rows : List (List AV))
  deriving Inhabited

/-- What is told of a type. -/
structure TI where
  desc : TypeDesc
  size : Nat
  bytes : Nat
  zero : List Value
  eq : Bool := false
  meth : List (String × FuncId) := []
  deriving Inhabited

structure St where
  env : List (Nat × AV)
  lbl : List (Nat × Option LB)
  next : Nat

def look {α : Type} (t : Nat) : List (Nat × α) → Option α
  | [] => none
  | (u, x) :: r => if Nat.beq t u then some x else look t r

def St.put (s : St) (d : Option Tmp) (x : AV) : St :=
  match d with
  | none => s
  | some t => { s with env := (t, x) :: s.env }

def St.ev (s : St) : Operand → AV
  | .tmp t => (look t s.env).getD .any
  | .const v => .raw v
  | .global _ => .any
  | .func f => .fn f []

def St.lb (s : St) (l : Nat) : Option LB := (look l s.lbl).getD none

def AV.cells : AV → List AV
  | .agg l => l
  | x => [x]

def AV.one : AV → Bool
  | .raw v => v.oneCell'
  | .agg _ => false
  | .tup _ => false
  | .any => false
  | _ => true

def allOne : List AV → Bool
  | [] => true
  | x :: r => x.one && allOne r

mutual
/-- Without any memory. -/
def AV.pure : AV → Bool
  | .raw _ => true
  | .agg l => allPure l
  | .tup l => allPure l
  | _ => false
def allPure : List AV → Bool
  | [] => true
  | x :: r => x.pure && allPure r
end

mutual
/-- Without labels of the call's own. -/
def AV.free : AV → Bool
  | .any => true
  | .raw _ => true
  | .agg l => allFree l
  | .tup l => allFree l
  | .sl _ rows => rowsFree rows
  | .csl _ rows => rowsFree rows
  | .fn _ caps => allFree caps
  | .iface _ v => v.free
  | .box cells _ => allFree cells
  | _ => false
def allFree : List AV → Bool
  | [] => true
  | x :: r => x.free && allFree r
def rowsFree : List (List AV) → Bool
  | [] => true
  | x :: r => allFree x && rowsFree r
end

/-- A slice without room behind it. -/
def vclip : Value → Bool
  | .slice _ n c => Nat.beq n c
  | _ => false
def vblock : Value → Option Nat
  | .pointer (some a) => some a.block
  | .slice (some a) _ _ => some a.block
  | _ => none

/-- A value of the model is one of these, in this world: labels are placed by φ, contents lie in the blocks N. -/
inductive Rep (w : World) (φ : Nat → Option Value) (N : Nat → Prop) : AV → Value → Prop
  | any (v : Value) : Rep w φ N .any v
  | raw (v : Value) : Rep w φ N (.raw v) v
  | agg (l : List AV) (vs : Array Value) (hl : l.length = vs.size) (h : ∀ i x, l[i]? = some x → Rep w φ N x (vs.getD i undef)) : Rep w φ N (.agg l) (.agg vs)
  | tup (l : List AV) (vs : Array Value) (hl : l.length = vs.size) (h : ∀ i x, l[i]? = some x → Rep w φ N x (vs.getD i undef)) : Rep w φ N (.tup l) (.tuple vs)
  | fn (f : FuncId) (caps : List AV) (vs : Array Value) (hl : caps.length = vs.size) (h : ∀ i x, caps[i]? = some x → Rep w φ N x (vs.getD i undef)) : Rep w φ N (.fn f caps) (.func (.func f) #[] vs)
  | iface (t : TypeId) (x : AV) (v : Value) (h : Rep w φ N x v) : Rep w φ N (.iface t x) (.iface t v)
  | slnil (sz : Nat) : Rep w φ N (.sl sz []) (.slice none 0 0)
  | slz (sz : Nat) (a : Addr) : Rep w φ N (.sl sz []) (.slice (some a) 0 0)
  | sl (sz : Nat) (rows : List (List AV)) (b o c : Nat) (cell : Nat → Value) (hc : rows.length ≤ c) (hN : N b) (hsz : ∀ r ∈ rows, r.length = sz)
      (hw : ∀ k, k < rows.flatten.length → w.cell? ⟨b, o + k, none⟩ = some (cell k)) (h : ∀ k x, rows.flatten[k]? = some x → Rep w φ N x (cell k)) : Rep w φ N (.sl sz rows) (.slice (some ⟨b, o, none⟩) rows.length c)
  | box (cells : List AV) (off b o : Nat) (cell : Nat → Value) (hN : N b) (hw : ∀ k, k < cells.length → w.cell? ⟨b, o + k, none⟩ = some (cell k)) (h : ∀ k x, cells[k]? = some x → Rep w φ N x (cell k)) : Rep w φ N (.box cells off) (.pointer (some ⟨b, o + off, none⟩))
  | loc (l off b : Nat) (h : φ l = some (.pointer (some ⟨b, 0, none⟩))) : Rep w φ N (.loc l off) (.pointer (some ⟨b, off, none⟩))
  | own (l : Nat) (v : Value) (h : φ l = some v) (h1 : v.oneCell' = true) : Rep w φ N (.own l) v
  | rloc (l sz i f b n c : Nat) (h : φ l = some (.slice (some ⟨b, 0, none⟩) n c)) : Rep w φ N (.rloc l sz i f) (.pointer (some ⟨b, i * sz + f, none⟩))
  | lsl (l off n sz b c : Nat) (h : φ l = some (.pointer (some ⟨b, 0, none⟩))) (hc : n ≤ c) : Rep w φ N (.lsl l off n sz) (.slice (some ⟨b, off, none⟩) n c)
  | osl (l off n sz b m c' c : Nat) (h : φ l = some (.slice (some ⟨b, 0, none⟩) m c')) (hc : n ≤ c) (hc' : off + c ≤ c') : Rep w φ N (.osl l off n sz) (.slice (some ⟨b, off * sz, none⟩) n c)
  | csl (sz : Nat) (rows : List (List AV)) (v : Value) (h : Rep w φ N (.sl sz rows) v) (hc : vclip v = true) : Rep w φ N (.csl sz rows) v

/-- A function that has a body. -/
def Fine (P : Program) (F : FuncId) : Prop := ∀ (args : Array Value) (w : World), (callFunc F args).run P w = .ok (.enter F args) w
/-- A contract: of so many arguments this result; nothing that was there turns. -/
def Ok (P : Program) (F : FuncId) (args : List AV) (r : AV) : Prop :=
  Fine P F ∧ ∀ (w : World) (N : Nat → Prop) (vs : List Value), (∀ b, N b → b < w.heap.size) → vs.length = args.length → (∀ i x, args[i]? = some x → Rep w (fun _ => none) N x (vs.getD i undef)) →
    Calls P F vs.toArray w fun e w' => ∃ v, e = .returned v ∧ Below w.heap.size w w' ∧ Rep w' (fun _ => none) (fun b => N b ∨ (w.heap.size ≤ b ∧ b < w'.heap.size)) r v

def setCells : List AV → Nat → List AV → List AV
  | l, _, [] => l
  | l, o, x :: xs => setCells (l.set o x) (o + 1) xs

def isAggD : TypeDesc → Bool
  | .struct _ => true
  | .array _ _ => true
  | _ => false

inductive Out where
  | val (p : Prop) (v : AV)
  | new (p : Prop) (B : LB) (f : Nat → AV)
  | put (p : Prop) (l : Nat) (B : LB)
  | grow (p : Prop) (l : Option Nat) (B : LB)
  | call (f : FuncId) (args : List AV) (fr : Bool) (raw : List AV)
  | bad

/-- Whole numbers' operations. -/
def aint (op : BinOp) (k : IntKind) (a b : Int) : Out :=
  match op with
  | .add => .val True (.raw (.int k (k.wrap (a + b))))
  | .sub => .val True (.raw (.int k (k.wrap (a - b))))
  | .mul => .val True (.raw (.int k (k.wrap (a * b))))
  | .quo => .val (b ≠ 0) (.raw (.int k (k.wrap (a.tdiv b))))
  | .rem => .val (b ≠ 0) (.raw (.int k (a.tmod b)))
  | .and => .val True (.raw (.int k (bits .and k a b)))
  | .or => .val True (.raw (.int k (bits .or k a b)))
  | .xor => .val True (.raw (.int k (bits .xor k a b)))
  | .eql => .val True (.raw (.bool (a == b)))
  | .neq => .val True (.raw (.bool (a != b)))
  | .lss => .val True (.raw (.bool (decide (a < b))))
  | .leq => .val True (.raw (.bool (decide (a ≤ b))))
  | .gtr => .val True (.raw (.bool (decide (a > b))))
  | .geq => .val True (.raw (.bool (decide (a ≥ b))))
  | _ => .bad

/-- Cells that are ints. -/
def intsOf : List AV → Option (List Int)
  | [] => some []
  | .raw (.int .i64 a) :: r => match intsOf r with
    | some l => some (a :: l)
    | none => none
  | _ => none

def aints (op : BinOp) (k : IntKind) (a : Int) (k' : IntKind) (b : Int) : Out :=
  match op with
  | .shl => .val (0 ≤ b) (.raw (.int k (k.wrap (a * 2 ^ (min b.toNat k.bits)))))
  | .shr => .val (0 ≤ b) (.raw (.int k (a.fdiv (2 ^ (min b.toNat k.bits)))))
  | _ => if k = k' then aint op k a b else .bad
def abools (tb : Bool) (op : BinOp) (a b : Bool) : Out :=
  match op with
  | .eql => if tb then .val True (.raw (.bool (a == b))) else .bad
  | .neq => if tb then .val True (.raw (.bool (a != b))) else .bad
  | _ => .bad
def aeqs (op : BinOp) (n : Nat) (a b : List Int) : Out :=
  match op with
  | .eql => .val (a.length = n ∧ b.length = n) (.raw (.bool (decide (a = b))))
  | .neq => .val (a.length = n ∧ b.length = n) (.raw (.bool (!decide (a = b))))
  | _ => .bad
def aaggs (te : Option Nat) (op : BinOp) (l l' : List AV) : Out :=
  match te, intsOf l, intsOf l' with
  | some n, some a, some b => aeqs op n a b
  | _, _, _ => .bad
/-- A slice that has rows, and none. -/
def anil (ts : Bool) (op : BinOp) (rows : List (List AV)) : Out :=
  match op with
  | .eql => if ts then .val (0 < rows.length) (.raw (.bool false)) else .bad
  | .neq => if ts then .val (0 < rows.length) (.raw (.bool true)) else .bad
  | _ => .bad
def abin (tb : Bool) (te : Option Nat) (ts : Bool) (op : BinOp) (x y : AV) : Out :=
  match x, y with
  | .raw (.int k a), .raw (.int k' b) => aints op k a k' b
  | .raw (.bool a), .raw (.bool b) => abools tb op a b
  | .agg l, .agg l' => aaggs te op l l'
  | .sl _ rows, .raw (.slice none _ _) => anil ts op rows
  | _, _ => .bad

def aun (op : UnOp) (x : AV) : Out :=
  match op, x with
  | .neg, .raw (.int k n) => .val True (.raw (.int k (k.wrap (0 - n))))
  | .not, .raw (.bool b) => .val True (.raw (.bool (!b)))
  | _, _ => .bad

section
variable (tt : TypeId → Option TI) (lb : Nat → Option LB)

/-! What is asked of types. -/
def tSize (t : TypeId) : Option (Bool × Nat) :=
  match tt t with
  | none => none
  | some i => some (isAggD i.desc, i.size)
def tField (t : TypeId) (f : Nat) : Option (Nat × Bool × Nat) :=
  match tt t with
  | none => none
  | some i => match i.desc with
    | .struct fs => match fs[f]? with
      | none => none
      | some fd => match tSize tt fd.type with
        | none => none
        | some (a, n) => some (fd.offset, a, n)
    | _ => none
def tArr (t : TypeId) : Option (Nat × Bool × Nat) :=
  match tt t with
  | none => none
  | some i => match i.desc with
    | .array n e => match tSize tt e with
      | none => none
      | some (a, m) => some (n, a, m)
    | _ => none
def tSlice (t : TypeId) : Option (TypeId × TI) :=
  match tt t with
  | none => none
  | some i => match i.desc with
    | .slice e => match tt e with
      | none => none
      | some ei => some (e, ei)
    | _ => none
def tZero (t : TypeId) : Option (List AV) :=
  match tt t with
  | none => none
  | some i => some (i.zero.map .raw)
def tInt (t : TypeId) : Option IntKind :=
  match tt t with
  | none => none
  | some i => match i.desc with
    | .int k => some k
    | _ => none

def tBool (t : TypeId) : Bool :=
  match tt t with
  | none => false
  | some i => match i.desc with
    | .bool => true
    | _ => false

def tSl (t : TypeId) : Bool :=
  match tt t with
  | none => false
  | some i => match i.desc with
    | .slice _ => true
    | _ => false
def tEq (t : TypeId) : Option Nat :=
  match tt t with
  | none => none
  | some i => if i.eq then some i.size else none

def tMeth (t : TypeId) (m : String) : Option FuncId :=
  match tt t with
  | none => none
  | some i => (i.meth.find? fun p => p.1 == m).map Prod.snd

def pieceOf (ts : Bool × Nat) (cells : List AV) (off : Nat) : Out :=
  match ts with
  | (true, size) => .val (off + size ≤ cells.length) (.agg ((cells.drop off).take size))
  | (false, _) => .val (off < cells.length) (cells.getD off .any)

def aload (t : TypeId) (a : AV) : Out :=
  match tSize tt t with
  | none => .bad
  | some ts =>
    match a with
    | .box cells off => pieceOf ts cells off
    | .loc l off => match lb l with
      | some (.box cells) => pieceOf ts cells off
      | _ => .bad
    | .rloc l sz r f => match lb l with
      | some (.row _ sz' rows) => match rows[r]? with
        | some cells => if sz = sz' then pieceOf ts cells f else .bad
        | none => .bad
      | _ => .bad
    | _ => .bad

def astore (t : TypeId) (a x : AV) : Out :=
  match tSize tt t with
  | none => .bad
  | some (_, size) =>
    match a with
    | .loc l off => match lb l with
      | some (.box cells) => .put (x.cells.length = size ∧ allOne x.cells = true ∧ off + size ≤ cells.length) l (.box (setCells cells off x.cells))
      | _ => .bad
    | .rloc l sz' r f => match lb l with
      | some (.row e sz rows) => match rows[r]? with
        | some cells => .put (sz' = sz ∧ x.cells.length = size ∧ allOne x.cells = true ∧ f + size ≤ sz) l (.row e sz (rows.set r (setCells cells f x.cells)))
        | none => .bad
      | _ => .bad
    | _ => .bad

def afieldAddr (t : TypeId) (a : AV) (f : Nat) : Out :=
  match tField tt t f with
  | none => .bad
  | some (o, _, n) =>
    match a with
    | .box cells off => .val (n ≠ 0) (.box cells (off + o))
    | .loc l off => .val (n ≠ 0) (.loc l (off + o))
    | .rloc l sz r off => .val (n ≠ 0) (.rloc l sz r (off + o))
    | _ => .bad

def afield (t : TypeId) (x : AV) (f : Nat) : Out :=
  match tField tt t f with
  | none => .bad
  | some (o, ts) =>
    match x with
    | .agg l => pieceOf ts l o
    | _ => .bad

def aindex (t : TypeId) (x i : AV) : Out :=
  match tArr tt t, i with
  | some (n, a, m), .raw (.int _ i) =>
    match x with
    | .agg l => match pieceOf (a, m) l (i.toNat * m) with
      | .val p v => .val (0 ≤ i ∧ i < n ∧ p) v
      | _ => .bad
    | _ => .bad
  | _, _ => .bad

def aindexAddr (t : TypeId) (x i : AV) : Out :=
  match i with
  | .raw (.int _ i) =>
    match x with
    | .box cells off => match tArr tt t with
      | some (n, _, m) => .val (0 ≤ i ∧ i < n) (.box cells (off + i.toNat * m))
      | none => .bad
    | .loc l off => match tArr tt t with
      | some (n, _, m) => .val (0 ≤ i ∧ i < n) (.loc l (off + i.toNat * m))
      | none => .bad
    | .sl sz rows => match tSlice tt t with
      | some (_, ei) => .val (0 ≤ i ∧ i < rows.length ∧ sz = ei.size) (.box (rows.getD i.toNat []) 0)
      | none => .bad
    | .own l => match tSlice tt t with
      | some (_, ei) => match lb l with
        | some (.row _ sz rows) => .val (0 ≤ i ∧ i < rows.length ∧ sz = ei.size) (.rloc l sz i.toNat 0)
        | _ => .bad
      | none => .bad
    | .osl l off n sz => match tSlice tt t with
      | some (_, ei) => .val (0 ≤ i ∧ i < n ∧ sz = ei.size) (.rloc l sz (off + i.toNat) 0)
      | none => .bad
    | _ => .bad
  | _ => .bad

/-- An aggregate out of parts. -/
def buildCells (place : Nat → Option (Nat × Nat)) : List AV → List (Nat × AV) → Option (List AV)
  | cells, [] => some cells
  | cells, (i, x) :: r =>
    match place i with
    | none => none
    | some (off, size) => if Nat.beq x.cells.length size && (Nat.ble (off + size) cells.length && allOne x.cells) then buildCells place (setCells cells off x.cells) r else none

def placeOf (t : TypeId) : Nat → Option (Nat × Nat) := fun i =>
  match tField tt t i with
  | some (o, _, n) => some (o, n)
  | none => match tArr tt t with
    | some (_, _, m) => some (i * m, m)
    | none => none

def abuild (t : TypeId) (parts : List (Nat × AV)) : Out :=
  match tZero tt t, tSize tt t with
  | some z, some (true, _) => match buildCells (placeOf tt t) z parts with
    | some cells => .val True (.agg cells)
    | none => .bad
  | _, _ => .bad

/-- Rows cut out of cells. -/
def cutRows (sz : Nat) : Nat → List AV → List (List AV)
  | 0, _ => []
  | n + 1, l => l.take sz :: cutRows sz n (l.drop sz)

def reps (n : Nat) (z : List AV) : List AV := (List.replicate n z).flatten

def abuildSlice (t : TypeId) (len : Nat) (parts : List (Nat × AV)) : Out :=
  match tSlice tt t with
  | some (e, ei) => match buildCells (fun i => some (i * ei.size, ei.size)) (reps len (ei.zero.map .raw)) parts with
      | some cells => .new (len * ei.size ≤ 16777216 ∧ allOne cells = true ∧ 0 < ei.size) (.row e ei.size (cutRows ei.size len cells)) .own
      | none => .bad
  | none => .bad

/-- A slice made anew. -/
def amakeSlice (t : TypeId) (len cap : AV) : Out :=
  match tSlice tt t, len, cap with
  | some (e, ei), .raw (.int _ n), .raw (.int _ c) => .new (0 ≤ n ∧ n ≤ c ∧ ei.bytes * c ≤ 281474976710656 ∧ c ≤ 9223372036854775807 ∧ 0 < ei.size ∧ allOne (ei.zero.map .raw) = true) (.row e ei.size (List.replicate n.toNat (ei.zero.map .raw))) .own
  | _, _, _ => .bad

/-- A bound of a slice, or what stands for it. -/
def bnd (d : Int) : Option AV → Option Int
  | none => some d
  | some (.raw (.int _ l)) => some l
  | _ => none
/-- A part of a slice of the call's own. -/
def apart (l off n sz : Nat) (ei : TI) (lo hi mx : Option AV) : Out :=
  match bnd 0 lo, bnd n hi, bnd n mx with
  | some a, some b, some c => if hi.isSome || mx.isNone then .val (sz = ei.size ∧ 0 ≤ a ∧ a < b ∧ b ≤ c ∧ c ≤ n) (.osl l (off + a.toNat) (b - a).toNat sz) else .bad
  | _, _, _ => .bad
/-- A part of a slice, or of an array. -/
def aslice (t : TypeId) (x : AV) (lo hi mx : Option AV) : Out :=
  match x with
  | .sl sz rows => match tSlice tt t, lo, hi, mx with
    | some (_, ei), none, none, none => .val (sz = ei.size) (.sl sz rows)
    | some (_, ei), some (.raw (.int _ l)), none, none => .val (sz = ei.size ∧ 0 ≤ l ∧ l ≤ rows.length) (.sl sz (rows.drop l.toNat))
    | some (_, ei), none, some (.raw (.int _ h)), none => .val (sz = ei.size ∧ 0 ≤ h ∧ h ≤ rows.length) (.sl sz (rows.take h.toNat))
    | some (_, ei), some (.raw (.int _ l)), some (.raw (.int _ h)), none => .val (sz = ei.size ∧ 0 ≤ l ∧ l ≤ h ∧ h ≤ rows.length) (.sl sz ((rows.take h.toNat).drop l.toNat))
    | some (_, ei), none, some (.raw (.int _ h)), some (.raw (.int _ m)) => .val (sz = ei.size ∧ h = rows.length ∧ m = rows.length) (.csl sz rows)
    | _, _, _, _ => .bad
  | .own l => match tSlice tt t, lb l with
    | some (_, ei), some (.row _ sz rows) => apart l 0 rows.length sz ei lo hi mx
    | _, _ => .bad
  | .osl l off n sz => match tSlice tt t with
    | some (_, ei) => apart l off n sz ei lo hi mx
    | none => .bad
  | .loc l off => match tArr tt t, lo, hi, mx with
    | some (n, _, m), none, none, none => .val True (.lsl l off n m)
    | some (n, _, m), some (.raw (.int _ lo)), none, none => .val (0 ≤ lo ∧ lo < n) (.lsl l (off + lo.toNat * m) (n - lo.toNat) m)
    | _, _, _, _ => .bad
  | _ => .bad

def aext (x : AV) (i : Nat) : Out :=
  match x with
  | .tup l => match l[i]? with
    | some y => .val True y
    | none => .bad
  | _ => .bad

def alen (x : AV) : Out :=
  match x with
  | .sl _ rows => .val True (.int rows.length)
  | .own l => match lb l with
    | some (.row _ _ rows) => .val True (.int rows.length)
    | _ => .bad
  | .lsl _ _ n _ => .val True (.int n)
  | .osl _ _ n _ => .val True (.int n)
  | .raw (.slice _ n _) => .val True (.int n)
  | _ => .bad

def minmaxGo (isMin : Bool) (k : IntKind) (a : Int) : List AV → Out
  | [] => .val True (.raw (.int k a))
  | .raw (.int _ b) :: r => minmaxGo isMin k (if isMin then (if b < a then b else a) else (if a < b then b else a)) r
  | _ => .bad
def aminmax (isMin : Bool) : List AV → Out
  | .raw (.int k a) :: r => minmaxGo isMin k a r
  | _ => .bad

/-- A slice's rows. -/
def newsOf (y : AV) : Option (Nat × List (List AV)) :=
  match y with
  | .sl sz rows => some (sz, rows)
  | .own l => match lb l with
    | some (.row _ sz rows) => some (sz, rows)
    | _ => none
  | _ => none

/-- More rows behind a slice of the call's own. -/
def aappend (t : TypeId) (x y : AV) : Out :=
  match tSlice tt t with
  | none => .bad
  | some (e, ei) =>
    match newsOf lb y with
    | none => .bad
    | some (sz, rows) =>
      match x with
      | .raw (.slice none 0 0) => .grow (sz = ei.size ∧ 0 < ei.size ∧ 0 < rows.length ∧ allOne rows.flatten = true ∧ rows.length * ei.bytes ≤ 140737488355328 ∧ rows.length ≤ 9223372036854775807) none (.row e ei.size rows)
      | .csl sz' rows' => .grow (sz = ei.size ∧ sz' = ei.size ∧ 0 < ei.size ∧ 0 < rows.length ∧ allOne rows.flatten = true ∧ (rows'.length + rows.length) * ei.bytes ≤ 140737488355328 ∧ rows'.length + rows.length ≤ 9223372036854775807) none (.row e ei.size (rows' ++ rows))
      | .own l => match lb l with
        | some (.row e' sz' rows') => .grow (sz = ei.size ∧ sz' = ei.size ∧ e' = e ∧ 0 < ei.size ∧ 0 < rows.length ∧ allOne rows.flatten = true ∧ (rows'.length + rows.length) * ei.bytes ≤ 140737488355328 ∧ rows'.length + rows.length ≤ 9223372036854775807) (some l) (.row e ei.size (rows' ++ rows))
        | _ => .bad
      | _ => .bad

/-- What a callee sees of a value: contents. -/
def snap : Nat → AV → AV
  | 0, _ => .any
  | fuel + 1, x =>
    match x with
    | .loc l off => match lb l with
      | some (.box cells) => .box (cells.map (snap fuel)) off
      | _ => .any
    | .own l => match lb l with
      | some (.row _ sz rows) => if rowsFree rows then .sl sz rows else .any
      | _ => .any
    | .lsl l off n sz => match lb l with
      | some (.box cells) => if Nat.ble (off + n * sz) cells.length && allFree cells then .sl sz (cutRows sz n (cells.drop off)) else .any
      | _ => .any
    | .osl l off n sz => match lb l with
      | some (.row _ sz' rows) => if Nat.beq sz' sz && (Nat.ble (off + n) rows.length && rowsFree ((rows.drop off).take n)) then .sl sz ((rows.drop off).take n) else .any
      | _ => .any
    | .fn f caps => .fn f (caps.map (snap fuel))
    | .agg l => .agg (l.map (snap fuel))
    | .tup l => .tup (l.map (snap fuel))
    | x => if x.free then x else .any

/-- What an operation comes to. -/
def aop (ev : Operand → AV) (o : Op) : Out :=
  match o with
  | .move x => .val True (ev x)
  | .assign x => .val True (ev x)
  | .pick c a b => match ev c with
    | .raw (.bool t) => match ev a, ev b with
      | .raw (.bool p), .raw (.bool q) => .val True (.raw (.bool (bif t then p else q)))
      | x, y => .val True (bif t then x else y)
    | _ => .bad
  | .binOp op t x y _ => abin (tBool tt t) (tEq tt t) (tSl tt t) op (ev x) (ev y)
  | .unOp op _ x => aun op (ev x)
  | .convert src dst x => match tInt tt dst, tInt tt src, ev x with
    | some k, some _, .raw (.int _ n) => .val True (.raw (.int k (k.wrap n)))
    | _, _, _ => .bad
  | .alloc e => match tZero tt e with
    | some z => .new (allOne z = true) (.box z) (fun l => .loc l 0)
    | none => .bad
  | .box _ x => .new (allOne (ev x).cells = true) (.box (ev x).cells) (fun l => .loc l 0)
  | .build t parts => abuild tt t (parts.toList.map fun (i, x) => (i, ev x))
  | .buildSlice t len parts => abuildSlice tt t len (parts.toList.map fun (i, x) => (i, ev x))
  | .load t a => aload tt lb t (ev a)
  | .store t a x => astore tt lb t (ev a) (ev x)
  | .nilCheck x => match ev x with
    | .box cells off => .val True (.box cells off)
    | .loc l off => .val True (.loc l off)
    | .rloc l sz i f => .val True (.rloc l sz i f)
    | .fn f caps => .val True (.fn f caps)
    | _ => .bad
  | .fieldAddr t x f => afieldAddr tt t (ev x) f
  | .field t x f => afield tt t (ev x) f
  | .indexAddr t x i => aindexAddr tt lb t (ev x) (ev i)
  | .index t x i => aindex tt t (ev x) (ev i)
  | .slice t x lo hi mx => aslice tt lb t (ev x) (lo.map ev) (hi.map ev) (mx.map ev)
  | .makeSlice t l c => amakeSlice tt t (ev l) (ev c)
  | .makeFunc (.func f) first caps => if first.size = 0 then .val True (.fn f (caps.toList.map ev)) else .bad
  | .extract t i => aext (ev t) i
  | .call c => match c.callee with
    | .builtin .len => match c.args.toList with
      | [x] => match c.argTypes.toList with
        | [t] => match tSlice tt t with
          | some _ => alen lb (ev x)
          | none => .bad
        | _ => .bad
      | _ => .bad
    | .builtin .min => aminmax true (c.args.toList.map ev)
    | .builtin .max => aminmax false (c.args.toList.map ev)
    | .builtin .append => match c.args.toList, c.argTypes.toList with
      | [x, y], [t, t'] => if t = t' then aappend tt lb t (ev x) (ev y) else .bad
      | _, _ => .bad
    | .value f => match ev f with
      | .fn F caps => .call F (c.args.toList.map (fun x => snap lb 6 (ev x)) ++ caps.map (snap lb 6)) (allFree (c.args.toList.map ev) && allFree caps) (c.args.toList.map ev ++ caps)
      | _ => .bad
    | .invoke r m => match ev r with
      | .iface t v => match tMeth tt t m with
        | some F => .call F (snap lb 6 v :: c.args.toList.map (fun x => snap lb 6 (ev x))) (v.free && allFree (c.args.toList.map ev)) (v :: c.args.toList.map ev)
        | none => .bad
      | _ => .bad
    | _ => .bad
  | _ => .bad
end

/-! Naming labels anew. -/
mutual
def AV.ren (ρ : Nat → Nat) : AV → AV
  | .agg l => .agg (renAll ρ l)
  | .tup l => .tup (renAll ρ l)
  | .sl sz rows => .sl sz (renRows ρ rows)
  | .csl sz rows => .csl sz (renRows ρ rows)
  | .fn f caps => .fn f (renAll ρ caps)
  | .iface t v => .iface t (v.ren ρ)
  | .box cells off => .box (renAll ρ cells) off
  | .loc l off => .loc (ρ l) off
  | .own l => .own (ρ l)
  | .rloc l sz i f => .rloc (ρ l) sz i f
  | .lsl l off n sz => .lsl (ρ l) off n sz
  | .osl l off n sz => .osl (ρ l) off n sz
  | x => x
def renAll (ρ : Nat → Nat) : List AV → List AV
  | [] => []
  | x :: r => x.ren ρ :: renAll ρ r
def renRows (ρ : Nat → Nat) : List (List AV) → List (List AV)
  | [] => []
  | x :: r => renAll ρ x :: renRows ρ r
end
mutual
/-- All labels are less. -/
def AV.lt (k : Nat) : AV → Bool
  | .agg l => allLt k l
  | .tup l => allLt k l
  | .sl _ rows => rowsLt k rows
  | .csl _ rows => rowsLt k rows
  | .fn _ caps => allLt k caps
  | .iface _ v => v.lt k
  | .box cells _ => allLt k cells
  | .loc l _ => Nat.blt l k
  | .own l => Nat.blt l k
  | .rloc l _ _ _ => Nat.blt l k
  | .lsl l _ _ _ => Nat.blt l k
  | .osl l _ _ _ => Nat.blt l k
  | _ => true
def allLt (k : Nat) : List AV → Bool
  | [] => true
  | x :: r => x.lt k && allLt k r
def rowsLt (k : Nat) : List (List AV) → Bool
  | [] => true
  | x :: r => allLt k x && rowsLt k r
end
mutual
/-- Is this label met, in the value itself? -/
def AV.has (k : Nat) : AV → Bool
  | .agg l => allHas k l
  | .tup l => allHas k l
  | .fn _ caps => allHas k caps
  | .loc l _ => Nat.beq l k
  | .own l => Nat.beq l k
  | .rloc l _ _ _ => Nat.beq l k
  | .lsl l _ _ _ => Nat.beq l k
  | .osl l _ _ _ => Nat.beq l k
  | _ => false
def allHas (k : Nat) : List AV → Bool
  | [] => false
  | x :: r => x.has k || allHas k r
end
def LB.free : LB → Bool
  | .box cells => allFree cells
  | .row _ _ rows => rowsFree rows
/-- Nothing but labels' blocks has turned. -/
structure But (M : Nat → Prop) (w w' : World) : Prop where
  os : w'.os = w.os
  tape : w'.tape = w.tape
  output : w'.output = w.output
  size : w.heap.size ≤ w'.heap.size
  block : ∀ k, k < w.heap.size → ¬ M k → w'.heap[k]? = w.heap[k]?
/-- A label's cells in the world. -/
def Holds (w : World) (φ : Nat → Option Value) (N : Nat → Prop) (base : Nat) (l : Nat) : LB → Prop
  | .box cells => ∃ b ty cs, φ l = some (.pointer (some ⟨b, 0, none⟩)) ∧ w.heap[b]? = some (.cells cs ty (0, 0)) ∧ cs.size = cells.length ∧ (∀ i x, cells[i]? = some x → Rep w φ N x (cs.getD i undef)) ∧ base ≤ b ∧ ¬ N b
  | .row e sz rows => ∃ v xs, φ l = some v ∧ v.oneCell' = true ∧ w.ownsRow base e sz v rows.length xs ∧ (∀ r ∈ rows, r.length = sz) ∧ (∀ i x, rows.flatten[i]? = some x → Rep w φ N x (xs.getD i undef)) ∧ (∀ b, v.ownBlock = some b → ¬ N b)

/-- Blocks of the first labels. -/
def blocks (φ : Nat → Option Value) (k : Nat) : Nat → Prop := fun b => ∃ l v, l < k ∧ φ l = some v ∧ vblock v = some b
def Apart (φ : Nat → Option Value) (k : Nat) : Prop := ∀ l l' v v' b, l ≠ l' → l < k → l' < k → φ l = some v → φ l' = some v' → vblock v = some b → vblock v' ≠ some b
/-- A contract of a call that writes: labels that it is given, and what they hold behind it; it may make a label more. -/
def OkG (P : Program) (F : FuncId) (L : List LB) (args : List AV) (L' : List LB) (nw : Option LB) (r : AV) : Prop :=
  Fine P F ∧ L'.length = L.length ∧ ∀ (w : World) (φ : Nat → Option Value) (N : Nat → Prop) (vs : List Value), (∀ b, N b → b < w.heap.size) → vs.length = args.length → (∀ i x, args[i]? = some x → Rep w φ N x (vs.getD i undef)) →
    (∀ l B, L[l]? = some B → Holds w φ N 0 l B) → Apart φ L.length → (∀ l, L.length ≤ l → φ l = none) →
    Calls P F vs.toArray w fun e w' => ∃ v φ' N', e = .returned v ∧ But (blocks φ L.length) w w' ∧ (∀ b, N' b → N b ∨ (w.heap.size ≤ b ∧ b < w'.heap.size)) ∧ (∀ l, l < L.length → φ' l = φ l) ∧ (∀ l, L.length < l → φ' l = none) ∧
      (∀ l B, L'[l]? = some B → Holds w' φ' N' 0 l B) ∧ (∀ B, nw = some B → Holds w' φ' N' 0 L.length B ∧ ∀ v b, φ' L.length = some v → vblock v = some b → w.heap.size ≤ b) ∧ (nw = none → φ' L.length = none) ∧ Rep w' φ' N' r v

/-- What a call that writes comes to: the labels, a new one, the result. -/
def EffC (P : Program) (F : FuncId) (lb : Nat → Option LB) (raw : List AV) (lab : Nat) (ls : List (Nat × LB)) (nw : Option LB) (x : AV) : Prop :=
  ∃ (ids : List Nat) (L : List LB) (args : List AV) (L' : List LB) (r : AV), OkG P F L args L' nw r ∧ ids.length = L.length ∧ ids.Nodup ∧ (∀ (i id : Nat) (B : LB), ids[i]? = some id → L[i]? = some B → lb id = some B) ∧
    allLt ids.length args = true ∧ (∀ id ∈ ids, allHas id raw = true) ∧ raw = renAll (fun i => ids.getD i lab) args ∧ (∀ B ∈ L, B.free = true) ∧ (∀ B ∈ L', B.free = true) ∧ (∀ B, nw = some B → B.free = true) ∧ r.lt (ids.length + 1) = true ∧ ls = ids.zip L' ∧ x = r.ren fun i => ids.getD i lab

/-- Labels behind such a call. -/
def putAll (ls : List (Nat × LB)) (lbl : List (Nat × Option LB)) : List (Nat × Option LB) :=
  match ls with
  | [] => lbl
  | (l, B) :: r => putAll r ((l, some B) :: lbl)
/-- In a region that draws its order an operation whose call writes is marked. -/
def marked : List Operand → Bool
  | .const _ :: _ => true
  | _ => false
/-- A row that grows is the call's own, or the operation is marked: then nothing is given up. -/
def growOk (l : Option Nat) (cr : List Operand) : Bool :=
  match l with
  | none => true
  | some _ => !marked cr

section
variable (P : Program) (tt : TypeId → Option TI)

/-- Labels, one of them dead. -/
def kill (l : Option Nat) (lbl : List (Nat × Option LB)) : List (Nat × Option LB) :=
  match l with
  | none => lbl
  | some l => (l, none) :: lbl

/-- The label that an address points into. -/
def rlab : AV → Option Nat
  | .loc l _ => some l
  | .rloc l _ _ _ => some l
  | .own l => some l
  | .osl l _ _ _ => some l
  | _ => none
/-- A label that is written is not read by these. -/
def noClash (ev : Operand → AV) (l : Nat) : List Operand → Prop
  | [] => True
  | x :: r => rlab (ev x) ≠ some l ∧ noClash ev l r

def Out.k (o : Out) (cr : List Operand) (s : St) (d : Option Tmp) (K : St → Prop) : Prop :=
  match o with
  | .val p v => p ∧ K (s.put d v)
  | .new p B f => p ∧ K ({ s with lbl := (s.next, some B) :: s.lbl, next := s.next + 1 }.put d (f s.next))
  | .put p l B => p ∧ noClash s.ev l cr ∧ K ({ s with lbl := (l, some B) :: s.lbl }.put d .any)
  | .grow p l B => p ∧ growOk l cr = true ∧ K ({ s with lbl := (s.next, some B) :: kill l s.lbl, next := s.next + 1 }.put d (.own s.next))
  | .call F args fr raw => (∃ r, Ok P F args r ∧ (r.pure || fr && r.free) = true ∧ K (s.put d r)) ∨
      ∃ ls nw x, EffC P F s.lb raw s.next ls nw x ∧ marked cr = true ∧ K ({ s with lbl := (s.next, nw) :: putAll ls s.lbl, next := s.next + 1 }.put d x)
  | .bad => False

/-- A region: its operations in their order; with each the addresses that are read in whatever order. -/
def evr (all : Array Oper) : List Oper → List (List Operand) → St → (St → Prop) → Prop
  | [], _, s, K => K s
  | o :: os, cr, s, K =>
    match o.guard with
    | none => (aop tt s.lb s.ev o.op).k P (cr.headD []) s o.dst fun s' => evr all os cr.tail s' K
    | some (j, want) =>
      match (all[j]?).bind (·.dst) with
      | none => False
      | some t => match look t s.env with
        | some (.raw (.bool b)) => (b = want → (aop tt s.lb (St.ev { s with env := (t, .raw (.bool want)) :: s.env }) o.op).k P (cr.headD []) { s with env := (t, .raw (.bool want)) :: s.env } o.dst fun s' => evr all os cr.tail s' K) ∧
            (b = !want → evr all os cr.tail ({ s with env := (t, .raw (.bool !want)) :: s.env }.put o.dst (.raw undef)) K)
        | some (.raw (.tuple _)) => evr all os cr.tail (s.put o.dst (.raw undef)) K
        | _ => False

end
end Go.Proofs.YtnnjjblgilibgaaGreatV
/- What the evaluator says of the model: values, and operations that make nothing. -/
namespace Go.Proofs.YtnnjjblgilibgaaGreatV
open Go Go.RowKit
set_option linter.unusedVariables false
set_option linter.unusedSimpArgs false

theorem Rep.mono {w w' : World} {φ φ' : Nat → Option Value} {N N' : Nat → Prop} (hw : ∀ b o v, N b → w.cell? ⟨b, o, none⟩ = some v → w'.cell? ⟨b, o, none⟩ = some v) (hφ : ∀ l v, φ l = some v → φ' l = some v) (hN : ∀ b, N b → N' b)
    {x : AV} {v : Value} (h : Rep w φ N x v) : Rep w' φ' N' x v := by
  induction h with
  | any v => exact .any v
  | raw v => exact .raw v
  | agg l vs hl _ ih => exact .agg l vs hl ih
  | tup l vs hl _ ih => exact .tup l vs hl ih
  | fn f caps vs hl _ ih => exact .fn f caps vs hl ih
  | iface t x v _ ih => exact .iface t x v ih
  | slnil sz => exact .slnil sz
  | slz sz a => exact .slz sz a
  | sl sz rows b o c cell hc hb hsz hc' _ ih => exact .sl sz rows b o c cell hc (hN b hb) hsz (fun k hk => hw _ _ _ hb (hc' k hk)) ih
  | box cells off b o cell hb hc' _ ih => exact .box cells off b o cell (hN b hb) (fun k hk => hw _ _ _ hb (hc' k hk)) ih
  | loc l off b h => exact .loc l off b (hφ _ _ h)
  | own l v h h1 => exact .own l v (hφ _ _ h) h1
  | rloc l sz i f b n c h => exact .rloc l sz i f b n c (hφ _ _ h)
  | lsl l off n sz b c h hc => exact .lsl l off n sz b c (hφ _ _ h) hc
  | osl l off n sz b m c' c h hc hc' => exact .osl l off n sz b m c' c (hφ _ _ h) hc hc'
  | csl sz rows v _ hc ih => exact .csl sz rows v ih hc

theorem Rep.keep {w w' : World} {φ : Nat → Option Value} {N : Nat → Prop} (hb : Below w.heap.size w w') (hN : ∀ b, N b → b < w.heap.size) {x : AV} {v : Value} (h : Rep w φ N x v) : Rep w' φ N x v :=
  h.mono (fun b o v hb' hc => (hb.cell (p := ⟨b, o, none⟩) (hN b hb')).trans hc) (fun _ _ h => h) (fun _ h => h)

theorem Rep.one {w : World} {φ : Nat → Option Value} {N : Nat → Prop} {x : AV} {v : Value} (h : Rep w φ N x v) (h1 : x.one = true) : v.oneCell' = true := by
  cases h <;> first | exact h1 | rfl | assumption | (rename_i h _; cases h <;> rfl) | (simp [AV.one] at h1; done)

theorem Rep.of_raw {w : World} {φ : Nat → Option Value} {N : Nat → Prop} {u v : Value} (h : Rep w φ N (.raw u) v) : v = u := by cases h; rfl

theorem allOne_mem {l : List AV} (h : allOne l = true) : ∀ x ∈ l, x.one = true := by
  induction l with
  | nil => intro x hx; cases hx
  | cons a r ih =>
    rw [allOne, Bool.and_eq_true] at h
    intro x hx
    rcases List.mem_cons.1 hx with rfl | hx
    · exact h.1
    · exact ih h.2 x hx

theorem cells_of_one {v : Value} (h : v.oneCell' = true) : v.cells = #[v] := by
  cases v <;> first | rfl | (simp [Value.oneCell'] at h)

/-- A value's cells, one by one. -/
theorem Rep.cells {w : World} {φ : Nat → Option Value} {N : Nat → Prop} {x : AV} {v : Value} (h : Rep w φ N x v) (h1 : allOne x.cells = true) :
    v.cells.size = x.cells.length ∧ (∀ i y, x.cells[i]? = some y → Rep w φ N y (v.cells.getD i undef)) ∧ (∀ u ∈ v.cells.toList, u.oneCell' = true) := by
  by_cases hx : ∃ l, x = .agg l
  · obtain ⟨l, rfl⟩ := hx
    cases h with
    | agg l vs hl h =>
      refine ⟨hl.symm, h, fun u hu => ?_⟩
      have hu : u ∈ vs.toList := hu
      obtain ⟨i, hi, rfl⟩ := List.getElem_of_mem hu
      have hi' : i < vs.size := by simpa using hi
      have hil : i < l.length := by omega
      have := (h i l[i] (List.getElem?_eq_getElem hil)).one (allOne_mem h1 _ (List.getElem_mem hil))
      simpa [Array.getD, hi'] using this
  · have hc : x.cells = [x] := by
      cases x <;> first | rfl | (exact (hx ⟨_, rfl⟩).elim)
    rw [hc] at h1 ⊢
    have ho : x.one = true := by simpa [allOne] using h1
    have hv := h.one ho
    rw [cells_of_one hv]
    refine ⟨rfl, fun i y hy => ?_, fun u hu => ?_⟩
    · cases i with
      | zero => simp at hy; subst hy; exact h
      | succ i => simp at hy
    · simp at hu; subst hu; exact hv

/-- A struct's fields, where they lie. -/
def fieldsOk (P : Program) : TypeDesc → Prop
  | .struct fs => ∃ places, fs.toList.mapM (fun f => (P.info? f.type).map fun i => (f.offset, i.size)) = some places
  | .array _ e => ∃ info, P.info? e = some info
  | _ => True
/-- Values of ints alone are compared cell by cell. -/
def EqT (P : Program) (t : TypeId) (n : Nat) : Prop := P.eqGuardType P.depth t = false ∧ ∃ m, m ≤ 9 ∧ ∀ (d : Nat) (l l' : List Int) (w : World), l.length = n → l'.length = n → (Op.equalIn (d + m) t (.agg (l.map (Value.int .i64)).toArray) (.agg (l'.map (Value.int .i64)).toArray)).run P w = .ok (decide (l = l')) w
/-- A type's method: a function of the value itself. -/
def MethT (P : Program) (t : TypeId) (m : String) (F : FuncId) : Prop := (∃ d, P.underlying t = some d ∧ ∀ e, d ≠ .pointer e) ∧ ∃ info row, P.info? t = some info ∧ info.methods.find? (fun r => r.name == m) = some row ∧ row.path = #[] ∧ row.func = some (F, false)
/-- A type's row, as told, is the program's. -/
def Tok (P : Program) (t : TypeId) (i : TI) : Prop :=
  P.underlying t = some i.desc ∧ ∃ info z, P.info? t = some info ∧ info.size = i.size ∧ info.bytes = i.bytes ∧ info.zero = some z ∧ z.cells.toList = i.zero ∧ (isAggD i.desc = true → z = .agg i.zero.toArray) ∧ i.zero.length = i.size ∧ (isAggD i.desc = false → i.size = 1) ∧ fieldsOk P i.desc ∧ (i.eq = true → EqT P t i.size) ∧ (∀ p ∈ i.meth, MethT P t p.1 p.2)
def TOk (P : Program) (tt : TypeId → Option TI) : Prop := ∀ t i, tt t = some i → Tok P t i

section
variable {P : Program} {tt : TypeId → Option TI} (hT : TOk P tt) {w : World} {φ : Nat → Option Value} {N : Nat → Prop}
include hT

theorem tSize_ok {t : TypeId} {a : Bool} {n : Nat} (h : tSize tt t = some (a, n)) : ∃ d, P.underlying t = some d ∧ isAggD d = a ∧ (∃ info, P.info? t = some info ∧ info.size = n) ∧ (a = false → n = 1) := by
  unfold tSize at h
  cases hi : tt t with
  | none => rw [hi] at h; cases h
  | some i =>
    rw [hi] at h
    simp only [Option.some.injEq, Prod.mk.injEq] at h
    obtain ⟨rfl, rfl⟩ := h
    obtain ⟨hu, info, z, h1, h2, h3, h4, h5, h6, h7, h8, _⟩ := hT t i hi
    exact ⟨_, hu, rfl, ⟨info, h1, h2⟩, h8⟩

omit hT in
theorem run_isAgg {t : TypeId} {d : TypeDesc} (h : P.underlying t = some d) : (isAgg t).run P w = .ok (isAggD d) w := by
  unfold isAgg
  simp only [Sem.run_bind, run_underlying h]
  cases d <;> rfl
omit hT in
theorem run_sizeOf' {t : TypeId} {info : TypeInfo} (h : P.info? t = some info) : (sizeOf t).run P w = .ok info.size w := by
  simp [sizeOf, typeInfo, h]
end

theorem addr_add (b o k : Nat) : (⟨b, o, none⟩ : Addr).add k = ⟨b, o + k, none⟩ := by
  unfold Addr.add
  split
  · next h => subst h; rfl
  · rfl

section
variable {P : Program} {tt : TypeId → Option TI} (hT : TOk P tt) {w : World} {φ : Nat → Option Value} {N : Nat → Prop}
include hT

/-- What is read of cells. -/
theorem load_ok {t : TypeId} {ts : Bool × Nat} (ht : tSize tt t = some ts) {cells : List AV} {off b o : Nat} {cell : Nat → Value} (hw : ∀ k, k < cells.length → w.cell? ⟨b, o + k, none⟩ = some (cell k)) (h : ∀ k x, cells[k]? = some x → Rep w φ N x (cell k))
    {p : Prop} {x : AV} (he : pieceOf ts cells off = .val p x) (hp : p) : ∃ v, (loadVar t ⟨b, o + off, none⟩).run P w = .ok v w ∧ Rep w φ N x v := by
  obtain ⟨a, n⟩ := ts
  obtain ⟨d, hd, ha, ⟨info, hi, hn⟩, h1⟩ := tSize_ok hT ht
  unfold loadVar
  simp only [Sem.run_bind, run_isAgg hd, ha, Result.andThen]
  cases a with
  | true =>
    simp only [pieceOf, Out.val.injEq] at he
    obtain ⟨rfl, rfl⟩ := he
    simp only [if_true, Sem.run_bind, run_sizeOf' hi, hn, Result.andThen]
    have hl := run_loadCells (P := P) w (⟨b, o + off, none⟩ : Addr) n (fun k => cell (off + k)) (fun j hj => by
      rw [addr_add, Nat.add_assoc]
      exact hw _ (by omega))
    rw [hl]
    refine ⟨_, rfl, .agg _ _ (by simp; omega) fun i x hx => ?_⟩
    rw [List.getElem?_take] at hx
    split at hx
    · rename_i hin
      rw [List.getElem?_drop] at hx
      have := h _ _ hx
      simpa [Array.getD, hin] using this
    · cases hx
  | false =>
    simp only [pieceOf, Out.val.injEq] at he
    obtain ⟨rfl, rfl⟩ := he
    have hc := hw off (by omega)
    refine ⟨cell off, ?_, ?_⟩
    · simp [load, Sem.run, hc]
    · rw [List.getD_eq_getElem?_getD, List.getElem?_eq_getElem hp]
      exact h _ _ (List.getElem?_eq_getElem hp)
end
end Go.Proofs.YtnnjjblgilibgaaGreatV
/- What the evaluator says of the model: operations that make nothing. -/
namespace Go.Proofs.YtnnjjblgilibgaaGreatV
open Go Go.RowKit
set_option linter.unusedVariables false
set_option linter.unusedSimpArgs false

theorem flat_get {α : Type} (sz : Nat) : ∀ (rows : List (List α)) (i : Nat) (r : List α), (∀ r ∈ rows, r.length = sz) → rows[i]? = some r → ∀ k, k < sz → rows.flatten[i * sz + k]? = r[k]?
  | [], i, r, _, h, _, _ => by simp at h
  | a :: rows, 0, r, hs, h, k, hk => by
    simp at h
    subst h
    have := hs a (by simp)
    simp [List.getElem?_append, this, hk]
  | a :: rows, i + 1, r, hs, h, k, hk => by
    have ha := hs a (by simp)
    have ih := flat_get sz rows i r (fun x hx => hs x (by simp [hx])) (by simpa using h) k hk
    rw [List.flatten_cons, List.getElem?_append, if_neg (by rw [ha, Nat.add_mul]; omega), ← ih, ha]
    congr 1
    rw [Nat.add_mul]
    omega

theorem flat_len {α : Type} (sz : Nat) : ∀ (rows : List (List α)), (∀ r ∈ rows, r.length = sz) → rows.flatten.length = rows.length * sz
  | [], _ => by simp
  | a :: rows, hs => by
    have := flat_len sz rows (fun x hx => hs x (by simp [hx]))
    simp only [List.flatten_cons, List.length_append, List.length_cons, this, hs a (by simp), Nat.add_mul]
    omega

section
variable {P : Program} {tt : TypeId → Option TI} (hT : TOk P tt) {w : World} {φ : Nat → Option Value} {N : Nat → Prop} {base : Nat} {lb : Nat → Option LB} {ev : Operand → AV} {ρ : Operand → Value}

/-- The cells of a row's element. -/
theorem row_cells {l e sz : Nat} {rows : List (List AV)} (h : Holds w φ N base l (.row e sz rows)) {i : Nat} {r : List AV} (hr : rows[i]? = some r) :
    r.length = sz ∧ ∃ (b n c : Nat) (xs : Nat → Value), φ l = some (.slice (some ⟨b, 0, none⟩) n c) ∧ (∀ k, k < r.length → w.cell? ⟨b, i * sz + k, none⟩ = some (xs (i * sz + k))) ∧ (∀ k x, r[k]? = some x → Rep w φ N x (xs (i * sz + k))) := by
  obtain ⟨v, xs, hφ, h1, ho, hs, hr', hN⟩ := h
  have hi : i < rows.length := by
    rcases Nat.lt_or_ge i rows.length with h | h
    · exact h
    · rw [List.getElem?_eq_none h] at hr; cases hr
  have hlen : r.length = sz := hs r (List.mem_of_getElem? hr)
  refine ⟨hlen, ?_⟩
  rcases ho.2 with ⟨_, h0⟩ | ⟨g, cap, cur, hv, hb, hg, hnc, hcm, hcs, htake⟩
  · omega
  · refine ⟨g, rows.length, cap, fun k => xs.getD k undef, by rw [hφ, hv], fun k hk => ?_, fun k x hx => ?_⟩
    · have hxl : i * sz + k < xs.length := by
        rw [ho.1]
        have : (i + 1) * sz ≤ rows.length * sz := Nat.mul_le_mul_right _ hi
        rw [Nat.add_mul] at this
        omega
      have hc := ho.cells (g := g) (by rw [hv]; rfl) (i * sz + k) _ (List.getElem?_eq_getElem hxl)
      rw [addr_add, Nat.zero_add] at hc
      rw [hc]
      show _ = some (xs.getD (i * sz + k) undef)
      rw [List.getD_eq_getElem?_getD, List.getElem?_eq_getElem hxl]
      rfl
    · have hk : k < sz := by
        rw [← hlen]
        rcases Nat.lt_or_ge k r.length with h | h
        · exact h
        · rw [List.getElem?_eq_none h] at hx; cases hx
      exact hr' _ x (by rw [flat_get sz rows i r hs hr k hk]; exact hx)

theorem box_cells {l : Nat} {cells : List AV} (h : Holds w φ N base l (.box cells)) : ∃ (b : Nat) (cs : Nat → Value), φ l = some (.pointer (some ⟨b, 0, none⟩)) ∧ (∀ k, k < cells.length → w.cell? ⟨b, 0 + k, none⟩ = some (cs k)) ∧ (∀ k x, cells[k]? = some x → Rep w φ N x (cs k)) := by
  obtain ⟨b, ty, cs, hφ, hg, hs, hr, _⟩ := h
  refine ⟨b, fun k => cs.getD k undef, hφ, fun k hk => ?_, hr⟩
  have hk' : k < cs.size := by omega
  simp [World.cell?, hg, Array.getD, hk']

include hT
theorem aload_ok (hL : ∀ l B, lb l = some B → Holds w φ N base l B) {t : TypeId} {a x : AV} {p : Prop} {va : Value} (h : aload tt lb t a = .val p x) (hp : p) (ha : Rep w φ N a va) : ∃ v, (Instr.loadAt t va).run P w = .ok v w ∧ Rep w φ N x v := by
  unfold aload at h
  split at h
  · cases h
  · rename_i ts ht
    cases ha with
    | box cells off b o cell hN hw hr =>
      obtain ⟨v, h1, h2⟩ := load_ok hT ht hw hr h hp
      exact ⟨v, by simp [Instr.loadAt, Instr.sureAddr, h1], h2⟩
    | loc l off b hφ =>
      simp only at h
      split at h
      · rename_i cells hl
        obtain ⟨b', cs, hφ', hw, hr⟩ := box_cells (hL l _ hl)
        rw [hφ] at hφ'
        simp only [Option.some.injEq, Value.pointer.injEq, Addr.mk.injEq, and_true] at hφ'
        subst hφ'
        obtain ⟨v, h1, h2⟩ := load_ok hT ht hw hr h hp
        rw [Nat.zero_add] at h1
        exact ⟨v, by simp [Instr.loadAt, Instr.sureAddr, h1], h2⟩
      · cases h
    | rloc l sz i f b n c hφ =>
      simp only at h
      split at h
      · rename_i e sz' rows hl
        split at h
        · rename_i cells hi
          split at h
          · rename_i hsz
            subst hsz
            obtain ⟨hlen, b', n', c', xs, hφ', hw, hr⟩ := row_cells (hL l _ hl) hi
            rw [hφ] at hφ'
            simp only [Option.some.injEq, Value.slice.injEq, Addr.mk.injEq, and_true] at hφ'
            obtain ⟨rfl, _, _⟩ := hφ'
            obtain ⟨v, h1, h2⟩ := load_ok (cell := fun k => xs (i * sz + k)) hT ht hw hr h hp
            exact ⟨v, by simp [Instr.loadAt, Instr.sureAddr, h1], h2⟩
          · cases h
        · cases h
      · cases h
    | _ => simp at h

omit hT in
theorem equalIn_bool {d : Nat} {t : TypeId} {a b : Bool} (hu : P.underlying t = some .bool) : (Op.equalIn (d + 1) t (.bool a) (.bool b)).run P w = .ok (a == b) w := by
  unfold Op.equalIn
  simp only [Sem.run_bind, run_underlying hu, Result.andThen]
  rfl
omit hT in
theorem equal_bool {t : TypeId} {a b : Bool} (hu : P.underlying t = some .bool) : (Op.equal t (.bool a) (.bool b)).run P w = .ok (a == b) w := equalIn_bool (d := 9999) hu
theorem abin_ok {op : BinOp} {t : TypeId} {X Y : Operand} {x y z : AV} {vx vy : Value} {p : Prop} (h : abin (tBool tt t) (tEq tt t) (tSl tt t) op x y = .val p z) (hp : p) (hx : Rep w φ N x vx) (hy : Rep w φ N y vy) :
    ∃ v, (do eqGuard op t X Y vx vy; binOp op t vx vy : Sem Value).run P w = .ok v w ∧ Rep w φ N z v := by
  unfold abin at h
  split at h
  · rename_i k a k' b
    have e1 := hx.of_raw
    have e2 := hy.of_raw
    subst e1 e2
    have hg : (eqGuard op t X Y (.int k a) (.int k' b)).run P w = .ok () w := by
      unfold eqGuard
      cases op <;> rfl
    unfold aints at h
    split at h
    · simp only [Out.val.injEq] at h
      obtain ⟨rfl, rfl⟩ := h
      exact ⟨_, by simp [hg, binOp, Op.shift, show ¬ b < 0 by omega], .raw _⟩
    · simp only [Out.val.injEq] at h
      obtain ⟨rfl, rfl⟩ := h
      exact ⟨_, by simp [hg, binOp, Op.shift, show ¬ b < 0 by omega], .raw _⟩
    · rename_i h1 h2
      split at h
      · rename_i hk
        subst hk
        unfold aint at h
        split at h <;> first
          | (cases h; done)
          | (simp only [Out.val.injEq] at h
             obtain ⟨rfl, rfl⟩ := h
             refine ⟨_, ?_, .raw _⟩
             simp [hg, binOp, Op.intArith, Op.intDiv, Op.intBits, Op.intCmp, bits, hp]
             done)
      · cases h
  · rename_i a b
    have e1 := hx.of_raw
    have e2 := hy.of_raw
    subst e1 e2
    have hb : ∀ q, (if tBool tt t = true then q else Out.bad) = .val p z → P.underlying t = some .bool := by
      intro q hq
      split at hq
      · rename_i ht
        unfold tBool at ht
        split at ht
        · cases ht
        · rename_i i hi
          split at ht
          · rename_i hd
            rw [← hd]
            exact (hT t i hi).1
          · cases ht
      · cases hq
    unfold abools at h
    split at h
    · have hu := hb _ h
      split at h
      · simp only [Out.val.injEq] at h
        obtain ⟨rfl, rfl⟩ := h
        refine ⟨.bool (a == b), ?_, .raw _⟩
        show ((pure PUnit.unit : Sem PUnit) >>= fun _ => (Op.equal t (.bool a) (.bool b)) >>= fun r => pure (Value.bool r)).run P w = _
        simp [equal_bool hu]
      · cases h
    · have hu := hb _ h
      split at h
      · simp only [Out.val.injEq] at h
        obtain ⟨rfl, rfl⟩ := h
        refine ⟨.bool (a != b), ?_, .raw _⟩
        show ((pure PUnit.unit : Sem PUnit) >>= fun _ => (Op.equal t (.bool a) (.bool b)) >>= fun r => pure (Value.bool (!r))).run P w = _
        simp [equal_bool hu, bne]
      · cases h
    · cases h
  · rename_i l l'
    unfold aaggs at h
    split at h
    · rename_i n as bs hte ha hb
      unfold aeqs at h
      have heq : EqT P t n := by
        unfold tEq at hte
        split at hte
        · cases hte
        · rename_i i hi
          split at hte
          · rename_i he
            obtain rfl := Option.some.inj hte
            obtain ⟨_, _, _, _, _, _, _, _, _, _, _, _, h⟩ := hT t i hi
            exact (h.1) he
          · cases hte
      obtain ⟨q1, qm, q3, q2⟩ := heq
      have hval : ∀ (l : List AV) (as : List Int) (v : Value), intsOf l = some as → Rep w φ N (.agg l) v → v = .agg (as.map (Value.int .i64)).toArray := by
        intro l as v hl hv
        cases hv with
        | agg _ vs hlen hr =>
          clear ha hb hte q1 q2 q3
          have key : ∀ (l : List AV) (as : List Int) (us : List Value), intsOf l = some as → l.length = us.length → (∀ (i : Nat) x, l[i]? = some x → Rep w φ N x (us.getD i undef)) → us = as.map (Value.int .i64) := by
            intro l
            induction l with
            | nil =>
              intro as us h1 h2 _
              simp [intsOf] at h1
              subst h1
              cases us with
              | nil => rfl
              | cons _ _ => simp at h2
            | cons x r ih =>
              intro as us h1 h2 h3
              unfold intsOf at h1
              split at h1
              · rename_i heq; cases heq
              · rename_i a r' heq
                obtain ⟨rfl, rfl⟩ := List.cons.inj heq
                split at h1
                · rename_i l2 hl2
                  obtain rfl := Option.some.inj h1
                  cases us with
                  | nil => simp at h2
                  | cons u us =>
                    have h0 := h3 0 (.raw (.int .i64 a)) (by simp)
                    simp only [List.getD_cons_zero] at h0
                    have e := h0.of_raw
                    have := ih l2 us hl2 (by simpa using h2) (fun i y hy => by simpa using h3 (i + 1) y (by simpa using hy))
                    rw [e, this]
                    rfl
                · cases h1
              · cases h1
          have hk := key l as vs.toList hl (by simpa using hlen) (fun i x hx => by
            have := hr i x hx
            simpa [Array.getD_eq_getD_getElem?, List.getD_eq_getElem?_getD] using this)
          rw [← hk]
      have e1 := hval l as vx ha hx
      have e2 := hval l' bs vy hb hy
      subst e1 e2
      have hrun : as.length = n → bs.length = n → (Op.equalIn 10000 t (.agg (as.map (Value.int .i64)).toArray) (.agg (bs.map (Value.int .i64)).toArray)).run P w = .ok (decide (as = bs)) w := fun l1 l2 => by
        have := q2 (10000 - qm) as bs w l1 l2
        rwa [show 10000 - qm + qm = 10000 by omega] at this
      split at h
      · simp only [Out.val.injEq] at h
        obtain ⟨rfl, rfl⟩ := h
        refine ⟨.bool (decide (as = bs)), ?_, .raw _⟩
        rw [Sem.run_bind, run_eqGuard_agg w .eql t X Y _ _ q1]
        simp only [Result.andThen_ok]
        rw [run_eql_struct, hrun hp.1 hp.2]
        rfl
      · simp only [Out.val.injEq] at h
        obtain ⟨rfl, rfl⟩ := h
        refine ⟨.bool (!decide (as = bs)), ?_, .raw _⟩
        rw [Sem.run_bind, run_eqGuard_agg w .neq t X Y _ _ q1]
        simp only [Result.andThen_ok]
        rw [run_neq_struct, hrun hp.1 hp.2]
        rfl
      · cases h
    · cases h
  · rename_i sz rows n c
    have e2 := hy.of_raw
    subst e2
    have hu : tSl tt t = true → ∃ e, P.underlying t = some (.slice e) := fun ht => by
      unfold tSl at ht
      split at ht
      · cases ht
      · rename_i i hi
        split at ht
        · rename_i e he
          exact ⟨e, by rw [← he]; exact (hT t i hi).1⟩
        · cases ht
    have hrun : tSl tt t = true → 0 < rows.length → ∃ b o n' c', vx = .slice (some ⟨b, o, none⟩) n' c' ∧ (Op.equal t vx (.slice none n c)).run P w = .ok false w := fun ht hpos => by
      obtain ⟨e, he⟩ := hu ht
      cases hx with
      | slnil => simp at hpos
      | slz => simp at hpos
      | sl _ _ b o c' cell => exact ⟨b, o, _, _, rfl, by
          show (Op.equalIn 10000 t _ _).run P w = _
          unfold Op.equalIn
          simp only [Sem.run_bind, run_underlying he, Result.andThen]
          rfl⟩
    unfold anil at h
    split at h
    · split at h
      · rename_i ht
        simp only [Out.val.injEq] at h
        obtain ⟨rfl, rfl⟩ := h
        obtain ⟨b, o, n', c', rfl, hr⟩ := hrun ht hp
        refine ⟨.bool false, ?_, .raw _⟩
        show ((pure PUnit.unit : Sem PUnit) >>= fun _ => (Op.equal t _ _) >>= fun r => pure (Value.bool r)).run P w = _
        simp [hr]
      · cases h
    · split at h
      · rename_i ht
        simp only [Out.val.injEq] at h
        obtain ⟨rfl, rfl⟩ := h
        obtain ⟨b, o, n', c', rfl, hr⟩ := hrun ht hp
        refine ⟨.bool true, ?_, .raw _⟩
        show ((pure PUnit.unit : Sem PUnit) >>= fun _ => (Op.equal t _ _) >>= fun r => pure (Value.bool (!r))).run P w = _
        simp [hr]
      · cases h
    · cases h
  · cases h
omit hT in
theorem aun_ok {op : UnOp} {x z : AV} {vx : Value} {p : Prop} (h : aun op x = .val p z) (hp : p) (hx : Rep w φ N x vx) : ∃ v, (Op.unary op vx).run P w = .ok v w ∧ Rep w φ N z v := by
  unfold aun at h
  split at h
  · have e := hx.of_raw
    subst e
    simp only [Out.val.injEq] at h
    obtain ⟨rfl, rfl⟩ := h
    exact ⟨_, by simp [Op.unary, Op.intArith], .raw _⟩
  · have e := hx.of_raw
    subst e
    simp only [Out.val.injEq] at h
    obtain ⟨rfl, rfl⟩ := h
    exact ⟨_, by simp [Op.unary], .raw _⟩
  · cases h

theorem tInt_ok {t : TypeId} {k : IntKind} (h : tInt tt t = some k) : P.underlying t = some (.int k) := by
  unfold tInt at h
  split at h
  · cases h
  · rename_i i hi
    split at h
    · rename_i hd
      simp only [Option.some.injEq] at h
      subst h
      rw [← hd]
      exact (hT t i hi).1
    · cases h
theorem aconv_ok {src dst : TypeId} {k k0 k' : IntKind} {n : Int} (h1 : tInt tt dst = some k) (h2 : tInt tt src = some k0) : (convert src dst (.int k' n)).run P w = .ok (.int k (k.wrap n)) w := by
  have e1 := tInt_ok hT h1
  have e2 := tInt_ok hT h2
  simp [convert, run_underlying e1, run_underlying e2, Conv.intToInt]

theorem tField_ok {t : TypeId} {f o : Nat} {ts : Bool × Nat} (h : tField tt t f = some (o, ts)) : ∃ fs fd, P.underlying t = some (.struct fs) ∧ fs[f]? = some fd ∧ fd.offset = o ∧ tSize tt fd.type = some ts := by
  unfold tField at h
  split at h
  · cases h
  · rename_i i hi
    split at h
    · rename_i fs hd
      split at h
      · cases h
      · rename_i fd hf
        split at h
        · cases h
        · rename_i a n hs
          simp only [Option.some.injEq, Prod.mk.injEq] at h
          obtain ⟨rfl, rfl⟩ := h
          exact ⟨fs, fd, by rw [← hd]; exact (hT t i hi).1, hf, rfl, hs⟩
    · cases h

theorem tArr_ok {t : TypeId} {n : Nat} {a : Bool} {m : Nat} (h : tArr tt t = some (n, a, m)) : ∃ e, P.underlying t = some (.array n e) ∧ tSize tt e = some (a, m) := by
  unfold tArr at h
  split at h
  · cases h
  · rename_i i hi
    split at h
    · rename_i k e hd
      split at h
      · cases h
      · rename_i a' n' hs
        simp only [Option.some.injEq, Prod.mk.injEq] at h
        obtain ⟨rfl, rfl, rfl⟩ := h
        exact ⟨e, by rw [← hd]; exact (hT t i hi).1, hs⟩
    · cases h

theorem tSlice_ok {t e : TypeId} {ei : TI} (h : tSlice tt t = some (e, ei)) : P.underlying t = some (.slice e) ∧ tt e = some ei := by
  unfold tSlice at h
  split at h
  · cases h
  · rename_i i hi
    split at h
    · rename_i e' hd
      split at h
      · cases h
      · rename_i ei' hs
        simp only [Option.some.injEq, Prod.mk.injEq] at h
        obtain ⟨rfl, rfl⟩ := h
        exact ⟨by rw [← hd]; exact (hT t i hi).1, hs⟩
    · cases h

theorem afieldAddr_ok {t : TypeId} {a x : AV} {f : Nat} {p : Prop} {va : Value} (h : afieldAddr tt t a f = .val p x) (hp : p) (ha : Rep w φ N a va) : ∃ v, (Instr.fieldAt t va f).run P w = .ok v w ∧ Rep w φ N x v := by
  unfold afieldAddr at h
  split at h
  · cases h
  · rename_i o a' n hf
    obtain ⟨fs, fd, hu, hfd, ho, hs⟩ := tField_ok hT hf
    obtain ⟨d, hd, _, ⟨info, hi, hn⟩, _⟩ := tSize_ok hT hs
    cases ha with
    | box cells off b o' cell hN hw hr =>
      simp only [Out.val.injEq] at h
      obtain ⟨rfl, rfl⟩ := h
      refine ⟨_, ?_, Rep.box cells (off + o) b o' cell hN hw hr⟩
      simp [Instr.fieldAt, run_underlying hu, hfd, Instr.sureAddr, fieldPlace, run_sizeOf' hi, hn, hp, addr_add, ho, Nat.add_assoc]
    | loc l off b hφ =>
      simp only [Out.val.injEq] at h
      obtain ⟨rfl, rfl⟩ := h
      refine ⟨_, ?_, Rep.loc l (off + o) b hφ⟩
      simp [Instr.fieldAt, run_underlying hu, hfd, Instr.sureAddr, fieldPlace, run_sizeOf' hi, hn, hp, addr_add, ho, Nat.add_assoc]
    | rloc l sz i f b n c hφ =>
      simp only [Out.val.injEq] at h
      obtain ⟨rfl, rfl⟩ := h
      refine ⟨_, ?_, Rep.rloc l sz i (f + o) b n c hφ⟩
      simp [Instr.fieldAt, run_underlying hu, hfd, Instr.sureAddr, fieldPlace, run_sizeOf' hi, hn, hp, addr_add, ho, Nat.add_assoc]
    | _ => simp at h

/-- A part of a value. -/
theorem part_ok {t : TypeId} {ts : Bool × Nat} (ht : tSize tt t = some ts) {l : List AV} {vs : Array Value} (hl : l.length = vs.size) (hr : ∀ i x, l[i]? = some x → Rep w φ N x (vs.getD i undef)) {off : Nat} {p : Prop} {x : AV} (h : pieceOf ts l off = .val p x) (hp : p) :
    ∃ v, (part t vs off).run P w = .ok v w ∧ Rep w φ N x v := by
  obtain ⟨a, n⟩ := ts
  obtain ⟨d, hd, ha, ⟨info, hi, hn⟩, h1⟩ := tSize_ok hT ht
  unfold part
  simp only [Sem.run_bind, run_isAgg hd, ha, Result.andThen]
  cases a with
  | true =>
    simp only [pieceOf, Out.val.injEq] at h
    obtain ⟨rfl, rfl⟩ := h
    simp only [if_true, Sem.run_bind, run_sizeOf' hi, hn, Result.andThen]
    refine ⟨_, rfl, .agg _ _ (by simp; omega) fun i x hx => ?_⟩
    rw [List.getElem?_take] at hx
    split at hx
    · rename_i hin
      rw [List.getElem?_drop] at hx
      have := hr _ _ hx
      have hlt : off + i < vs.size := by omega
      have hm : i < min (off + n) vs.size - off := by omega
      simpa [Array.getD, hlt, hm] using this
    · cases hx
  | false =>
    simp only [pieceOf, Out.val.injEq] at h
    obtain ⟨rfl, rfl⟩ := h
    have hlt : off < vs.size := by omega
    refine ⟨vs[off], by simp [hlt], ?_⟩
    rw [List.getD_eq_getElem?_getD, List.getElem?_eq_getElem hp]
    have := hr _ _ (List.getElem?_eq_getElem hp)
    simpa [Array.getD, hlt] using this

theorem afield_ok {t : TypeId} {a x : AV} {f : Nat} {p : Prop} {va : Value} (h : afield tt t a f = .val p x) (hp : p) (ha : Rep w φ N a va) : ∃ v, (Instr.field t va f).run P w = .ok v w ∧ Rep w φ N x v := by
  unfold afield at h
  split at h
  · cases h
  · rename_i o ts hf
    obtain ⟨fs, fd, hu, hfd, ho, hs⟩ := tField_ok hT hf
    split at h
    · rename_i l
      cases ha with
      | agg l vs hl hr =>
        obtain ⟨v, h1, h2⟩ := part_ok hT hs hl hr h hp
        exact ⟨v, by simp [Instr.field, run_underlying hu, hfd, asAgg, ho, h1], h2⟩
    · cases h

theorem aindex_ok {t : TypeId} {a i x : AV} {p : Prop} {va vi : Value} (h : aindex tt t a i = .val p x) (hp : p) (ha : Rep w φ N a va) (hi : Rep w φ N i vi) : ∃ v, (Instr.index t va vi).run P w = .ok v w ∧ Rep w φ N x v := by
  unfold aindex at h
  split at h
  · rename_i n ag m k j hA
    have e := hi.of_raw
    subst e
    obtain ⟨e, hu, hs⟩ := tArr_ok hT hA
    obtain ⟨d, hd, _, ⟨info, hin, hn⟩, _⟩ := tSize_ok hT hs
    split at h
    · rename_i l
      cases ha with
      | agg l vs hl hr =>
        split at h
        · rename_i p' v' hpc
          simp only [Out.val.injEq] at h
          obtain ⟨rfl, rfl⟩ := h
          obtain ⟨v, h1, h2⟩ := part_ok hT hs hl hr hpc hp.2.2
          refine ⟨v, ?_, h2⟩
          simp [Instr.index, asIntOf, run_underlying hu, hp.1, hp.2.1, run_sizeOf' hin, hn, h1]
        · cases h
    · cases h
  · cases h

theorem aindexAddr_ok (hL : ∀ l B, lb l = some B → Holds w φ N base l B) {t : TypeId} {a i x : AV} {p : Prop} {va vi : Value} (h : aindexAddr tt lb t a i = .val p x) (hp : p) (ha : Rep w φ N a va) (hi : Rep w φ N i vi) : ∃ v, (Instr.indexAt t va vi).run P w = .ok v w ∧ Rep w φ N x v := by
  unfold aindexAddr at h
  split at h
  · rename_i k j
    have e := hi.of_raw
    subst e
    cases ha with
    | box cells off b o cell hN hw hr =>
      simp only at h
      split at h
      · rename_i n ag m hA
        obtain ⟨e, hu, hs⟩ := tArr_ok hT hA
        obtain ⟨d, hd, _, ⟨info, hin, hn⟩, _⟩ := tSize_ok hT hs
        simp only [Out.val.injEq] at h
        obtain ⟨rfl, rfl⟩ := h
        refine ⟨_, ?_, Rep.box cells (off + j.toNat * m) b o cell hN hw hr⟩
        simp [Instr.indexAt, asIntOf, run_underlying hu, Instr.sureAddr, hp.1, hp.2, run_sizeOf' hin, hn, addr_add, Nat.add_assoc]
      · cases h
    | loc l off b hφ =>
      simp only at h
      split at h
      · rename_i n ag m hA
        obtain ⟨e, hu, hs⟩ := tArr_ok hT hA
        obtain ⟨d, hd, _, ⟨info, hin, hn⟩, _⟩ := tSize_ok hT hs
        simp only [Out.val.injEq] at h
        obtain ⟨rfl, rfl⟩ := h
        refine ⟨_, ?_, Rep.loc l (off + j.toNat * m) b hφ⟩
        simp [Instr.indexAt, asIntOf, run_underlying hu, Instr.sureAddr, hp.1, hp.2, run_sizeOf' hin, hn, addr_add, Nat.add_assoc]
      · cases h
    | slnil sz =>
      simp only at h
      split at h
      · simp only [Out.val.injEq] at h
        obtain ⟨rfl, rfl⟩ := h
        exact absurd hp.2.1 (by simp; omega)
      · cases h
    | slz sz a =>
      simp only at h
      split at h
      · simp only [Out.val.injEq] at h
        obtain ⟨rfl, rfl⟩ := h
        exact absurd hp.2.1 (by simp; omega)
      · cases h
    | sl sz rows b o c cell hc hN hsz hw hr =>
      simp only at h
      split at h
      · rename_i e ei hS
        obtain ⟨hu, he⟩ := tSlice_ok hT hS
        obtain ⟨_, info, z, hin, hn, _⟩ := hT e ei he
        simp only [Out.val.injEq] at h
        obtain ⟨rfl, rfl⟩ := h
        obtain ⟨h0, h1, rfl⟩ := hp
        have hlt : j.toNat < rows.length := by omega
        have hrow : rows[j.toNat]? = some rows[j.toNat] := List.getElem?_eq_getElem hlt
        have hlen := hsz _ (List.getElem_mem hlt)
        have hfl := flat_len ei.size rows hsz
        have hle : (j.toNat + 1) * ei.size ≤ rows.length * ei.size := Nat.mul_le_mul_right _ hlt
        rw [Nat.add_mul] at hle
        rw [List.getD_eq_getElem?_getD, hrow]
        refine ⟨.pointer (some ⟨b, o + j.toNat * ei.size + 0, none⟩), ?_, Rep.box _ 0 b (o + j.toNat * ei.size) (fun k => cell (j.toNat * ei.size + k)) hN (fun k hk => ?_) (fun k x hx => ?_)⟩
        · simp [Instr.indexAt, asIntOf, run_underlying hu, h0, h1, run_sizeOf' hin, hn, addr_add]
        · simp only [Option.getD_some] at hk
          rw [Nat.add_assoc]
          exact hw _ (by omega)
        · simp only [Option.getD_some] at hx
          have hk : k < ei.size := by
            rw [← hlen]
            rcases Nat.lt_or_ge k rows[j.toNat].length with h | h
            · exact h
            · rw [List.getElem?_eq_none h] at hx; cases hx
          exact hr _ x (by rw [flat_get ei.size rows _ _ hsz hrow k hk]; exact hx)
      · cases h
    | own l v hφ h1 =>
      simp only at h
      split at h
      · rename_i e ei hS
        obtain ⟨hu, he⟩ := tSlice_ok hT hS
        obtain ⟨_, info, z, hin, hn, _⟩ := hT e ei he
        split at h
        · rename_i e' sz rows hl
          simp only [Out.val.injEq] at h
          obtain ⟨rfl, rfl⟩ := h
          obtain ⟨h0, h1', rfl⟩ := hp
          obtain ⟨v', xs, hφ', _, ho, _⟩ := hL l _ hl
          rw [hφ] at hφ'
          obtain rfl := Option.some.inj hφ'
          rcases ho.2 with ⟨_, hz⟩ | ⟨g, cap, cur, rfl, _⟩
          · omega
          · refine ⟨_, ?_, Rep.rloc l ei.size j.toNat 0 g rows.length cap hφ⟩
            simp [Instr.indexAt, asIntOf, run_underlying hu, h0, h1', run_sizeOf' hin, hn, addr_add]
        · cases h
      · cases h
    | osl l off n sz b m c' c hφ hc hc' =>
      simp only at h
      split at h
      · rename_i e ei hS
        obtain ⟨hu, he⟩ := tSlice_ok hT hS
        obtain ⟨_, info, z, hin, hn, _⟩ := hT e ei he
        simp only [Out.val.injEq] at h
        obtain ⟨rfl, rfl⟩ := h
        obtain ⟨h0, h1', rfl⟩ := hp
        refine ⟨.pointer (some ⟨b, (off + j.toNat) * ei.size + 0, none⟩), ?_, Rep.rloc l ei.size (off + j.toNat) 0 b m c' hφ⟩
        simp [Instr.indexAt, asIntOf, run_underlying hu, h0, h1', run_sizeOf' hin, hn, addr_add, Nat.add_mul]
      · cases h
    | _ => simp at h
  · cases h
end
end Go.Proofs.YtnnjjblgilibgaaGreatV
/- What the evaluator says of the model: aggregates, parts of slices, and the rest that makes nothing. -/
namespace Go.Proofs.YtnnjjblgilibgaaGreatV
open Go Go.RowKit
set_option linter.unusedVariables false
set_option linter.unusedSimpArgs false

/-- Cells, one by one. -/
def RepL (w : World) (φ : Nat → Option Value) (N : Nat → Prop) (l : List AV) (cs : Array Value) : Prop := cs.size = l.length ∧ ∀ i x, l[i]? = some x → Rep w φ N x (cs.getD i undef)

section
variable {w : World} {φ : Nat → Option Value} {N : Nat → Prop}
theorem RepL.set {l : List AV} {cs : Array Value} (h : RepL w φ N l cs) {x : AV} {v : Value} (hx : Rep w φ N x v) (o : Nat) : RepL w φ N (l.set o x) (cs.setIfInBounds o v) := by
  refine ⟨by simp [h.1], fun i y hy => ?_⟩
  rw [List.getElem?_set] at hy
  by_cases ho : o = i
  · subst ho
    rw [if_pos rfl] at hy
    split at hy
    · rename_i hl
      obtain rfl := Option.some.inj hy
      have : o < cs.size := by rw [h.1]; exact hl
      simpa [Array.getD, this] using hx
    · cases hy
  · rw [if_neg ho] at hy
    have := h.2 i y hy
    rw [Array.getD_eq_getD_getElem?] at this ⊢
    rw [Array.getElem?_setIfInBounds, if_neg ho]
    exact this

theorem RepL.setCells : ∀ (xs : List AV) (vs : List Value) (l : List AV) (cs : Array Value) (o k : Nat), xs.length = vs.length → (∀ i x, xs[i]? = some x → Rep w φ N x (vs.getD i undef)) → RepL w φ N l cs →
    RepL w φ N (Go.Proofs.YtnnjjblgilibgaaGreatV.setCells l (o + k) xs) ((vs.zipIdx k).foldl (fun cs p => cs.setIfInBounds (o + p.2) p.1) cs)
  | [], [], l, cs, o, k, _, _, h => by simpa [Go.Proofs.YtnnjjblgilibgaaGreatV.setCells] using h
  | x :: xs, v :: vs, l, cs, o, k, hl, hx, h => by
    have h0 := hx 0 x (by simp)
    have := RepL.setCells xs vs (l.set (o + k) x) (cs.setIfInBounds (o + k) v) o (k + 1) (by simpa using hl) (fun i y hy => by simpa using hx (i + 1) y (by simpa using hy)) (h.set (by simpa using h0) (o + k))
    simpa [Go.Proofs.YtnnjjblgilibgaaGreatV.setCells, Nat.add_assoc] using this
  | [], _ :: _, _, _, _, _, hl, _, _ => by simp at hl
  | _ :: _, [], _, _, _, _, hl, _, _ => by simp at hl

theorem setCells_length : ∀ (xs l : List AV) (o : Nat), (Go.Proofs.YtnnjjblgilibgaaGreatV.setCells l o xs).length = l.length
  | [], l, o => rfl
  | x :: xs, l, o => by rw [Go.Proofs.YtnnjjblgilibgaaGreatV.setCells, setCells_length xs]; simp

theorem fill_ok {place place' : Nat → Option (Nat × Nat)} (hpl : ∀ i p, place i = some p → place' i = some p) : ∀ (parts : List (Nat × AV)) (parts' : List (Nat × Value)) (l l' : List AV) (cs : Array Value), parts.length = parts'.length →
    (∀ (j : Nat) q, parts[j]? = some q → ∃ v, parts'[j]? = some (q.1, v) ∧ Rep w φ N q.2 v) → RepL w φ N l cs → buildCells place l parts = some l' → ∃ cs', Instr.fill place' cs parts' = some cs' ∧ RepL w φ N l' cs'
  | [], [], l, l', cs, _, _, h, he => by
    simp [buildCells] at he
    subst he
    exact ⟨cs, rfl, h⟩
  | (i, x) :: parts, (i', v) :: parts', l, l', cs, hl, hp, h, he => by
    obtain ⟨v', hv, hr⟩ := hp 0 (i, x) (by simp)
    simp at hv
    obtain ⟨rfl, rfl⟩ := hv
    unfold buildCells at he
    split at he
    · cases he
    · rename_i off size hpi
      split at he
      · rename_i hc
        simp only [Bool.and_eq_true] at hc
        obtain ⟨hc1, hc2, hc3⟩ := hc
        have hc1 := Nat.eq_of_beq_eq_true hc1
        have hc2 := Nat.le_of_ble_eq_true hc2
        obtain ⟨g1, g2, g3⟩ := hr.cells hc3
        have hs := RepL.setCells x.cells v.cells.toList l cs off 0 (by simp [g1]) (fun i y hy => by simpa using g2 i y hy) h
        obtain ⟨cs', e1, e2⟩ := fill_ok hpl parts parts' _ l' _ (by simpa using hl) (fun j q hq => by simpa using hp (j + 1) q (by simpa using hq)) hs he
        refine ⟨cs', ?_, e2⟩
        unfold Instr.fill
        rw [hpl _ _ hpi]
        simp only [g1, hc1, h.1]
        rw [if_neg (by simp; omega)]
        rw [← e1]
        congr 1
        have ez : ∀ (a : Array (Value × Nat)) (n : Nat), n = a.size → Array.foldl (fun cs x => cs.setIfInBounds (off + x.snd) x.fst) cs a 0 n = List.foldl (fun cs x => cs.setIfInBounds (off + x.snd) x.fst) cs a.toList := by
          intro a n hn
          subst hn
          exact (Array.foldl_toList _).symm
        rw [← Array.toList_zipIdx]
        exact ez _ _ (by simp)
      · cases he
  | [], _ :: _, _, _, _, hl, _, _, _ => by simp at hl
  | _ :: _, [], _, _, _, hl, _, _, _ => by simp at hl

theorem mapM_get {α β : Type} {f : α → Option β} : ∀ {l : List α} {r : List β}, l.mapM f = some r → ∀ (i : Nat) (x : α), l[i]? = some x → ∃ y, f x = some y ∧ r[i]? = some y
  | [], r, _, i, x, h => by simp at h
  | a :: l, r, hm, i, x, h => by
    simp only [List.mapM_cons, Option.bind_eq_bind, Option.pure_def] at hm
    cases ha : f a with
    | none => simp [ha] at hm
    | some b =>
      cases hr : l.mapM f with
      | none => simp [ha, hr] at hm
      | some r' =>
        simp [ha, hr] at hm
        subst hm
        cases i with
        | zero => simp at h; subst h; exact ⟨b, ha, rfl⟩
        | succ i => simpa using mapM_get hr i x (by simpa using h)
end

section
variable {P : Program} {tt : TypeId → Option TI} (hT : TOk P tt) {w : World} {φ : Nat → Option Value} {N : Nat → Prop} {base : Nat} {lb : Nat → Option LB}
include hT

theorem zero_rep {t : TypeId} {z : List AV} (h : tZero tt t = some z) : ∃ info v, P.info? t = some info ∧ info.zero = some v ∧ v.cells.size = info.size ∧ RepL w φ N z v.cells ∧ z.length = info.size := by
  unfold tZero at h
  split at h
  · cases h
  · rename_i i hi
    obtain rfl := Option.some.inj h
    obtain ⟨hu, info, v, h1, h2, h3, h4, h5, h6, h7, h8, _⟩ := hT t i hi
    have hsz : v.cells.size = i.zero.length := by rw [← h5]; simp
    refine ⟨info, v, h1, h4, by omega, ⟨by simp [hsz], fun j x hx => ?_⟩, by simp; omega⟩
    rw [List.getElem?_map] at hx
    cases hz : i.zero[j]? with
    | none => rw [hz] at hx; cases hx
    | some u =>
      rw [hz] at hx
      obtain rfl := Option.some.inj hx
      rw [← h5] at hz
      have : v.cells.getD j undef = u := by
        rw [Array.getD_eq_getD_getElem?]
        have hz' : v.cells[j]? = some u := by simpa using hz
        rw [hz']
        rfl
      rw [this]
      exact .raw u

theorem abuild_ok {t : TypeId} {parts : List (Nat × AV)} {x : AV} {p : Prop} {parts' : Array (Nat × Value)} (h : abuild tt t parts = .val p x) (hp : p) (hl : parts.length = parts'.toList.length)
    (hr : ∀ (j : Nat) q, parts[j]? = some q → ∃ v, parts'.toList[j]? = some (q.1, v) ∧ Rep w φ N q.2 v) : ∃ v, (Instr.build t parts').run P w = .ok v w ∧ Rep w φ N x v := by
  unfold abuild at h
  split at h
  · rename_i z n hz hs
    split at h
    · rename_i cells hb
      simp only [Out.val.injEq] at h
      obtain ⟨rfl, rfl⟩ := h
      obtain ⟨info, v, h1, h2, h3, h4, h5⟩ := zero_rep (w := w) (φ := φ) (N := N) hT hz
      have hti : ∃ i, tt t = some i := by
        unfold tZero at hz
        split at hz
        · cases hz
        · exact ⟨_, by assumption⟩
      obtain ⟨i, hi⟩ := hti
      obtain ⟨hu, _, _, _, _, _, _, _, _, _, _, hfo, _⟩ := hT t i hi
      have hagg : isAggD i.desc = true := by
        unfold tSize at hs
        rw [hi] at hs
        simp only [Option.some.injEq, Prod.mk.injEq] at hs
        exact hs.1
      cases hd : i.desc with
      | struct fs =>
        rw [hd] at hu hfo
        obtain ⟨places, hpl⟩ := hfo
        obtain ⟨cs', e1, e2⟩ := fill_ok (place' := (places.toArray[·]?)) (fun j q hq => by
          unfold placeOf at hq
          split at hq
          · rename_i o a n' hf
            obtain rfl := Option.some.inj hq
            obtain ⟨fs', fd, hu', hfd, ho, hts⟩ := tField_ok hT hf
            rw [hu] at hu'
            obtain rfl : fs = fs' := by simpa using hu'
            obtain ⟨_, _, _, ⟨inf, hinf, hn⟩, _⟩ := tSize_ok hT hts
            obtain ⟨y, hy1, hy2⟩ := mapM_get hpl j fd (by simpa using hfd)
            rw [hinf] at hy1
            simp only [Option.map_some, Option.some.injEq] at hy1
            subst hy1
            simpa [ho, hn] using hy2
          · split at hq
            · rename_i n' a m hA
              obtain ⟨e, hu', _⟩ := tArr_ok hT hA
              rw [hu] at hu'
              cases hu'
            · cases hq) parts parts'.toList z cells v.cells hl hr h4 hb
        refine ⟨.agg cs', run_build w t parts' cs' ?_, .agg _ _ e2.1.symm e2.2⟩
        simp [Program.built, h1, hu, h2, hpl]
        simpa using e1
      | array n e =>
        rw [hd] at hu
        cases hie : P.info? e with
        | none =>
          rw [hd] at hfo
          obtain ⟨_, hfo⟩ := hfo
          rw [hie] at hfo
          cases hfo
        | some ie =>
          obtain ⟨cs', e1, e2⟩ := fill_ok (place' := fun i => some (i * ie.size, ie.size)) (fun j q hq => by
            unfold placeOf at hq
            split at hq
            · rename_i o a n' hf
              obtain ⟨fs', fd, hu', hfd, ho, hts⟩ := tField_ok hT hf
              rw [hu] at hu'
              cases hu'
            · split at hq
              · rename_i n' a m hA
                obtain rfl := Option.some.inj hq
                obtain ⟨e', hu', hse⟩ := tArr_ok hT hA
                rw [hu] at hu'
                obtain ⟨rfl, rfl⟩ : n = n' ∧ e = e' := by simpa using hu'
                obtain ⟨_, _, _, ⟨inf, hinf, hn⟩, _⟩ := tSize_ok hT hse
                rw [hie] at hinf
                obtain rfl := Option.some.inj hinf
                rw [hn]
              · cases hq) parts parts'.toList z cells v.cells hl hr h4 hb
          refine ⟨.agg cs', run_build w t parts' cs' ?_, .agg _ _ e2.1.symm e2.2⟩
          simp [Program.built, h1, hu, h2, hie, e1]
      | _ => rw [hd] at hagg; simp [isAggD] at hagg
    · cases h
  · cases h

omit hT in
theorem aext_ok {a x : AV} {i : Nat} {p : Prop} {va : Value} (h : aext a i = .val p x) (hp : p) (ha : Rep w φ N a va) : ∃ v, (Instr.extract va i).run P w = .ok v w ∧ Rep w φ N x v := by
  unfold aext at h
  split at h
  · rename_i l
    split at h
    · rename_i y hy
      simp only [Out.val.injEq] at h
      obtain ⟨rfl, rfl⟩ := h
      cases ha with
      | tup l vs hl hr =>
        have := hr i _ hy
        have hlt : i < vs.size := by
          rw [← hl]
          rcases Nat.lt_or_ge i l.length with h | h
          · exact h
          · rw [List.getElem?_eq_none h] at hy; cases hy
        refine ⟨vs[i], by simp [Instr.extract, hlt], ?_⟩
        simpa [Array.getD, hlt] using this
    · cases h
  · cases h

theorem alen_ok (hL : ∀ l B, lb l = some B → Holds w φ N base l B) {t e : TypeId} {ei : TI} {ty : TypeId} {a x : AV} {p : Prop} {va : Value} (hS : tSlice tt t = some (e, ei)) (h : alen lb a = .val p x) (hp : p) (ha : Rep w φ N a va) : ∃ v, (Builtin.len_ #[t] ty #[va]).run P w = .ok v w ∧ Rep w φ N x v := by
  obtain ⟨hu, _⟩ := tSlice_ok hT hS
  have key : ∀ A n c, (Builtin.len_ #[t] ty #[.slice A n c]).run P w = .ok (.int .i64 n) w := by
    intro A n c
    simp [Builtin.len_, run_underlying hu, goInt]
  cases ha with
  | slnil sz =>
    simp only [alen, Out.val.injEq] at h
    obtain ⟨rfl, rfl⟩ := h
    exact ⟨_, key _ _ _, .raw _⟩
  | slz sz a =>
    simp only [alen, Out.val.injEq] at h
    obtain ⟨rfl, rfl⟩ := h
    exact ⟨_, key _ _ _, .raw _⟩
  | sl sz rows b o c cell hc hN hsz hw hr =>
    simp only [alen, Out.val.injEq] at h
    obtain ⟨rfl, rfl⟩ := h
    exact ⟨_, key _ _ _, .raw _⟩
  | own l v hφ h1 =>
    simp only [alen] at h
    split at h
    · rename_i e' sz rows hl
      simp only [Out.val.injEq] at h
      obtain ⟨rfl, rfl⟩ := h
      obtain ⟨v', xs, hφ', _, ho, _⟩ := hL l _ hl
      rw [hφ] at hφ'
      obtain rfl := Option.some.inj hφ'
      rcases ho.2 with ⟨rfl, hz⟩ | ⟨g, cap, cur, rfl, _⟩
      · rw [hz]; exact ⟨_, key _ _ _, .raw _⟩
      · exact ⟨_, key _ _ _, .raw _⟩
    · cases h
  | lsl l off n sz b c hφ hc =>
    simp only [alen, Out.val.injEq] at h
    obtain ⟨rfl, rfl⟩ := h
    exact ⟨_, key _ _ _, .raw _⟩
  | osl l off n sz b m c' c hφ hc hc' =>
    simp only [alen, Out.val.injEq] at h
    obtain ⟨rfl, rfl⟩ := h
    exact ⟨_, key _ _ _, .raw _⟩
  | raw v =>
    simp only [alen] at h
    split at h
    · rename_i heq; cases heq
    · rename_i heq; cases heq
    · rename_i heq; cases heq
    · rename_i heq; cases heq
    · rename_i heq
      simp only [AV.raw.injEq] at heq
      subst heq
      simp only [Out.val.injEq] at h
      obtain ⟨rfl, rfl⟩ := h
      exact ⟨_, key _ _ _, .raw _⟩
    · cases h
  | _ => simp [alen] at h

omit hT in
theorem minmaxGo_ok {isMin : Bool} {k : IntKind} : ∀ (l : List AV) (vs : List Value) (a : Int) (p : Prop) (x : AV), minmaxGo isMin k a l = .val p x → l.length = vs.length → (∀ (i : Nat) y, l[i]? = some y → Rep w φ N y (vs.getD i undef)) →
    ∃ v, (vs.foldlM (if isMin then Builtin.min2 else Builtin.max2) (.int k a)).run P w = .ok v w ∧ Rep w φ N x v
  | [], [], a, p, x, h, _, _ => by
    simp only [minmaxGo, Out.val.injEq] at h
    obtain ⟨rfl, rfl⟩ := h
    exact ⟨_, by simp, .raw _⟩
  | y :: l, u :: vs, a, p, x, h, hl, hr => by
    have h0 := hr 0 y (by simp)
    simp only [List.getD_cons_zero] at h0
    unfold minmaxGo at h
    split at h
    · rename_i heq; cases heq
    · rename_i k' b r heq
      obtain ⟨rfl, rfl⟩ := List.cons.inj heq
      have e := h0.of_raw
      subst e
      obtain ⟨v, h1, h2⟩ := minmaxGo_ok l vs _ p x h (by simpa using hl) (fun i y hy => by simpa using hr (i + 1) y (by simpa using hy))
      refine ⟨v, ?_, h2⟩
      rw [List.foldlM_cons]
      cases isMin
      · simpa [Builtin.max2] using h1
      · simpa [Builtin.min2] using h1
    · cases h
  | [], _ :: _, _, _, _, _, hl, _ => by simp at hl
  | _ :: _, [], _, _, _, _, hl, _ => by simp at hl

omit hT in
theorem aminmax_ok {isMin : Bool} {l : List AV} {vs : List Value} {p : Prop} {x : AV} (h : aminmax isMin l = .val p x) (hl : l.length = vs.length) (hr : ∀ (i : Nat) y, l[i]? = some y → Rep w φ N y (vs.getD i undef)) {ts : Array TypeId} {t : TypeId} :
    ∃ v, ((if isMin then Builtin.min_ else Builtin.max_) ts t vs.toArray).run P w = .ok v w ∧ Rep w φ N x v := by
  unfold aminmax at h
  split at h
  · rename_i k a r
    cases vs with
    | nil => simp at hl
    | cons u vs =>
      have h0 := hr 0 (.raw (.int k a)) (by simp)
      simp only [List.getD_cons_zero] at h0
      have e := h0.of_raw
      subst e
      obtain ⟨v, h1, h2⟩ := minmaxGo_ok (P := P) r vs a p x h (by simpa using hl) (fun i y hy => by simpa using hr (i + 1) y (by simpa using hy))
      refine ⟨v, ?_, h2⟩
      cases isMin
      · simpa [Builtin.max_] using h1
      · simpa [Builtin.min_] using h1
  · cases h
end
end Go.Proofs.YtnnjjblgilibgaaGreatV
/- What the evaluator says of the model: parts of slices; what makes memory, writes it, or calls. -/
namespace Go.Proofs.YtnnjjblgilibgaaGreatV
open Go Go.RowKit
set_option linter.unusedVariables false
set_option linter.unusedSimpArgs false

theorem getElem?_lt {α : Type} {l : List α} {i : Nat} {x : α} (h : l[i]? = some x) : i < l.length := by
  rcases Nat.lt_or_ge i l.length with h' | h'
  · exact h'
  · rw [List.getElem?_eq_none h'] at h; cases h

theorem flatten_drop {α : Type} (sz : Nat) : ∀ (n : Nat) (rows : List (List α)), (∀ r ∈ rows, r.length = sz) → n ≤ rows.length → (rows.drop n).flatten = rows.flatten.drop (n * sz)
  | 0, rows, _, _ => by simp
  | n + 1, [], _, h => by simp at h
  | n + 1, a :: rows, hs, h => by
    have ha := hs a (by simp)
    rw [List.drop_succ_cons, flatten_drop sz n rows (fun r hr => hs r (by simp [hr])) (by simpa using h), List.flatten_cons, List.drop_append, ha]
    have e1 : a.drop ((n + 1) * sz) = [] := List.drop_eq_nil_of_le (by rw [ha, Nat.add_mul]; omega)
    have e2 : (n + 1) * sz - sz = n * sz := by rw [Nat.add_mul]; omega
    rw [e1, e2, List.nil_append]

theorem flatten_take {α : Type} (sz : Nat) : ∀ (n : Nat) (rows : List (List α)), (∀ r ∈ rows, r.length = sz) → n ≤ rows.length → (rows.take n).flatten = rows.flatten.take (n * sz)
  | 0, rows, _, _ => by simp
  | n + 1, [], _, h => by simp at h
  | n + 1, a :: rows, hs, h => by
    have ha := hs a (by simp)
    rw [List.take_succ_cons, List.flatten_cons, flatten_take sz n rows (fun r hr => hs r (by simp [hr])) (by simpa using h), List.flatten_cons, List.take_append, ha]
    have e1 : a.take ((n + 1) * sz) = a := List.take_of_length_le (by rw [ha, Nat.add_mul]; omega)
    have e2 : (n + 1) * sz - sz = n * sz := by rw [Nat.add_mul]; omega
    rw [e1, e2]

theorem cutRows_ok (sz : Nat) : ∀ (n : Nat) (l : List AV), n * sz ≤ l.length → (cutRows sz n l).length = n ∧ (∀ r ∈ cutRows sz n l, r.length = sz) ∧ (cutRows sz n l).flatten = l.take (n * sz)
  | 0, l, _ => ⟨rfl, by simp [cutRows], by simp [cutRows]⟩
  | n + 1, l, h => by
    rw [Nat.add_mul] at h
    obtain ⟨h1, h2, h3⟩ := cutRows_ok sz n (l.drop sz) (by simp; omega)
    refine ⟨by simp [cutRows, h1], ?_, ?_⟩
    · intro r hr
      rw [cutRows] at hr
      rcases List.mem_cons.1 hr with rfl | hr
      · simp; omega
      · exact h2 r hr
    · rw [cutRows, List.flatten_cons, h3]
      rw [Nat.add_mul, Nat.one_mul, Nat.add_comm, List.take_add]

section
variable {P : Program} {tt : TypeId → Option TI} (hT : TOk P tt) {w : World} {φ : Nat → Option Value} {N : Nat → Prop} {base : Nat} {lb : Nat → Option LB} {ev : Operand → AV} {ρ : Operand → Value}
include hT

omit hT in
theorem sl_part {sz : Nat} {rows : List (List AV)} {b o c : Nat} {cell : Nat → Value} (hc : rows.length ≤ c) (hN : N b) (hsz : ∀ r ∈ rows, r.length = sz)
    (hw : ∀ k, k < rows.flatten.length → w.cell? ⟨b, o + k, none⟩ = some (cell k)) (hr : ∀ k x, rows.flatten[k]? = some x → Rep w φ N x (cell k)) {l h : Nat} (hl : l ≤ h) (hh : h ≤ rows.length) {c' : Nat} (hc' : h - l ≤ c') {o' : Nat} (ho : h = l ∨ o' = o + l * sz) :
    Rep w φ N (.sl sz ((rows.take h).drop l)) (.slice (some ⟨b, o', none⟩) (h - l) c') := by
  have hlen : ((rows.take h).drop l).length = h - l := by simp; omega
  have hs1 : ∀ r ∈ rows.take h, r.length = sz := fun r hr => hsz r (List.mem_of_mem_take hr)
  have hs2 : ∀ r ∈ (rows.take h).drop l, r.length = sz := fun r hr => hs1 r (List.mem_of_mem_drop hr)
  have hfl : ((rows.take h).drop l).flatten = (rows.flatten.take (h * sz)).drop (l * sz) := by
    rw [flatten_drop sz l _ hs1 (by simp; omega), flatten_take sz h rows hsz hh]
  have hfll := flat_len sz rows hsz
  have hle : h * sz ≤ rows.length * sz := Nat.mul_le_mul_right _ hh
  have hle2 : l * sz ≤ h * sz := Nat.mul_le_mul_right _ hl
  rw [← hlen]
  by_cases he : h = l
  · subst he
    have hnil : (rows.take h).drop h = [] := List.drop_eq_nil_of_le (by simp; omega)
    rw [hnil]
    exact .sl sz [] b o' c' cell (Nat.zero_le _) hN (by simp) (by simp) (by simp)
  · obtain rfl := ho.resolve_left he
    refine .sl sz _ b (o + l * sz) c' (fun k => cell (l * sz + k)) (by rw [hlen]; exact hc') hN hs2 (fun k hk => ?_) (fun k x hx => ?_)
    · rw [hfl] at hk
      simp only [List.length_drop, List.length_take] at hk
      rw [Nat.add_assoc]
      exact hw _ (by omega)
    · rw [hfl, List.getElem?_drop, List.getElem?_take] at hx
      split at hx
      · exact hr _ _ hx
      · cases hx

theorem tSlice_info {t e : TypeId} {ei : TI} (h : tSlice tt t = some (e, ei)) : P.underlying t = some (.slice e) ∧ ∃ info, P.info? e = some info ∧ info.size = ei.size := by
  obtain ⟨hu, he⟩ := tSlice_ok hT h
  obtain ⟨_, info, z, hin, hn, _⟩ := hT _ _ he
  exact ⟨hu, info, hin, hn⟩

omit hT in
theorem bnd_some {d : Int} {o : Option AV} {v : Option Value} {i : Int} (h : bnd d o = some i) (h1 : ∀ y, o = some y → ∃ u, v = some u ∧ Rep w φ N y u) (h2 : o = none → v = none) : (v = none ∧ i = d) ∨ ∃ k, v = some (.int k i) := by
  cases o with
  | none => exact .inl ⟨h2 rfl, (Option.some.inj h).symm⟩
  | some y =>
    obtain ⟨u, rfl, hu⟩ := h1 y rfl
    cases hu with
    | raw v =>
      unfold bnd at h
      split at h
      · rename_i e; cases e
      · rename_i k l e
        simp only [Option.some.injEq, AV.raw.injEq] at e
        subst e
        obtain rfl := Option.some.inj h
        exact .inr ⟨_, rfl⟩
      · cases h
    | _ => simp [bnd] at h
theorem apart_ok {l off n sz : Nat} {t e : TypeId} {ei : TI} {x : AV} {lo hi mx : Option AV} {p : Prop} {vlo vhi vmx : Option Value} {b m c c' : Nat} (h : apart l off n sz ei lo hi mx = .val p x) (hp : p) (hS : tSlice tt t = some (e, ei))
    (hφ : φ l = some (.slice (some ⟨b, 0, none⟩) m c')) (hc : n ≤ c) (hc' : off + c ≤ c')
    (hlo : ∀ y, lo = some y → ∃ v, vlo = some v ∧ Rep w φ N y v) (hhi : ∀ y, hi = some y → ∃ v, vhi = some v ∧ Rep w φ N y v) (hmx : ∀ y, mx = some y → ∃ v, vmx = some v ∧ Rep w φ N y v) (hmx' : mx = none → vmx = none) (hlo' : lo = none → vlo = none) (hhi' : hi = none → vhi = none) :
    ∃ v, (Instr.sliceAt t (.slice (some ⟨b, off * sz, none⟩) n c) vlo vhi vmx).run P w = .ok v w ∧ Rep w φ N x v := by
  obtain ⟨hu, info, hin, hn⟩ := tSlice_info hT hS
  unfold apart at h
  split at h
  · rename_i i j k e1 e2 e3
    have hform : (hi.isSome || mx.isNone) = true := by
      cases hh : (hi.isSome || mx.isNone) with
      | true => rfl
      | false => rw [hh, if_neg (by decide)] at h; cases h
    rw [hform, if_pos rfl] at h
    simp only [Out.val.injEq] at h
    obtain ⟨rfl, rfl⟩ := h
    obtain ⟨rfl, h0, h1, h2, h3⟩ := hp
    have hi0 : i = (i.toNat : Int) := by omega
    have hj0 : j = (j.toNat : Int) := by omega
    have hk0 : k = (k.toNat : Int) := by omega
    generalize i.toNat = i' at hi0
    generalize j.toNat = j' at hj0
    generalize k.toNat = k' at hk0
    subst hi0 hj0 hk0
    have a1 : i' < j' := by omega
    have a2 : j' ≤ k' := by omega
    have a3 : k' ≤ n := by omega
    have ej : ((j' : Int) - (i' : Int)).toNat = j' - i' := by omega
    rw [ej]
    have hoff : off * ei.size + i' * info.size = (off + i') * ei.size := by rw [hn, Nat.add_mul]
    have hcase : ∀ (cm : Nat), k' ≤ cm → cm ≤ c → Rep w φ N (.osl l (off + i') (j' - i') ei.size) (.slice (some ⟨b, off * ei.size + i' * info.size, none⟩) (j' - i') (cm - i')) := fun cm g1 g2 => by
      rw [hoff]
      exact Rep.osl l (off + i') (j' - i') ei.size b m c' (cm - i') hφ (by omega) (by omega)
    have hform' : ¬ (vhi = none ∧ ∃ k v, vmx = some (.int k v)) := by
      rintro ⟨rfl, k, v, rfl⟩
      cases hi with
      | some y => obtain ⟨_, h, _⟩ := hhi y rfl; cases h
      | none =>
        cases mx with
        | some y => simp at hform
        | none => have := hmx' rfl; cases this
    have hlen : (k' : Nat) ≤ c := by omega
    clear hform
    rcases bnd_some e1 hlo hlo' with ⟨rfl, q1⟩ | ⟨q1, rfl⟩ <;> rcases bnd_some e2 hhi hhi' with ⟨rfl, q2⟩ | ⟨q2, rfl⟩ <;> rcases bnd_some e3 hmx hmx' with ⟨rfl, q3⟩ | ⟨k3, rfl⟩
    all_goals
      first | (exfalso; exact hform' ⟨rfl, _, _, rfl⟩) | skip
    all_goals
      clear hform' hlo hlo' hhi hhi' hmx hmx' e1 e2 e3
      have f1 : i' ≤ j' := by omega
      have f2 : j' ≤ c := by omega
      have f3 : k' ≤ c := by omega
      have f4 : i' ≤ k' := by omega
      have f5 : i' ≤ n := by omega
      have f6 : i' ≤ c := by omega
      have b1 : ¬ c = i' := by omega
      have b2 : ¬ k' = i' := by omega
      first | (have q1 := Int.ofNat_inj.1 q1; subst q1) | skip
      first | (have q2 := Int.ofNat_inj.1 q2; subst q2) | skip
      first
      | (refine ⟨_, ?_, hcase c (by omega) (Nat.le_refl _)⟩
         simp [Instr.sliceAt, Instr.slice, run_underlying hu, Instr.sliceBounds, Instr.sliceBound, asIntOf, run_sizeOf' hin, addr_add, *]
         done)
      | (refine ⟨_, ?_, hcase k' (Nat.le_refl _) (by omega)⟩
         simp [Instr.sliceAt, Instr.slice, run_underlying hu, Instr.sliceBounds, Instr.sliceBound, asIntOf, run_sizeOf' hin, addr_add, *]
         done)
  · cases h
theorem aslice_ok (hL : ∀ l B, lb l = some B → Holds w φ N base l B) {t : TypeId} {a x : AV} {lo hi mx : Option AV} {p : Prop} {va : Value} {vlo vhi vmx : Option Value} (h : aslice tt lb t a lo hi mx = .val p x) (hp : p) (ha : Rep w φ N a va)
    (hlo : ∀ y, lo = some y → ∃ v, vlo = some v ∧ Rep w φ N y v) (hhi : ∀ y, hi = some y → ∃ v, vhi = some v ∧ Rep w φ N y v) (hmx2 : ∀ y, mx = some y → ∃ v, vmx = some v ∧ Rep w φ N y v) (hmx : mx = none → vmx = none) (hlo' : lo = none → vlo = none) (hhi' : hi = none → vhi = none) :
    ∃ v, (Instr.sliceAt t va vlo vhi vmx).run P w = .ok v w ∧ Rep w φ N x v := by
  unfold aslice at h
  split at h
  · rename_i sz rows
    split at h
    all_goals try (cases h; done)
    · rename_i e ei hS
      obtain ⟨hu, info, hin, hn⟩ := tSlice_info hT hS
      simp only [Out.val.injEq] at h
      obtain ⟨rfl, rfl⟩ := h
      have hm := hmx rfl
      subst hm
      have e1 := hlo' rfl
      have e2 := hhi' rfl
      subst e1 e2
      cases ha with
      | slnil => exact ⟨_, by simp [Instr.sliceAt, Instr.slice, run_underlying hu, Instr.sliceBounds, run_sizeOf' hin], .slnil _⟩
      | slz _ a => exact ⟨.slice (some a) 0 0, by simp [Instr.sliceAt, Instr.slice, run_underlying hu, Instr.sliceBounds, run_sizeOf' hin, Addr.add], .slz _ a⟩
      | sl _ rows b o c cell hc hN hsz hw hr =>
        refine ⟨_, ?_, Rep.sl sz rows b o c cell hc hN hsz hw hr⟩
        simp [Instr.sliceAt, Instr.slice, run_underlying hu, Instr.sliceBounds, run_sizeOf' hin, addr_add]
    · rename_i e ei kl l hS
      obtain ⟨hu, info, hin, hn⟩ := tSlice_info hT hS
      simp only [Out.val.injEq] at h
      obtain ⟨rfl, rfl⟩ := h
      have hm := hmx rfl
      subst hm
      have e2 := hhi' rfl
      obtain ⟨v, rfl, hv⟩ := hlo _ rfl
      have e := hv.of_raw
      subst e e2
      obtain ⟨rfl, h0, h1⟩ := hp
      cases ha with
      | slnil =>
        simp only [List.length_nil] at h1
        obtain rfl : l = 0 := by omega
        exact ⟨.slice none 0 0, by simp [Instr.sliceAt, Instr.slice, run_underlying hu, Instr.sliceBounds, Instr.sliceBound, asIntOf, run_sizeOf' hin], by simpa using Rep.slnil _⟩
      | slz _ a =>
        simp only [List.length_nil] at h1
        obtain rfl : l = 0 := by omega
        exact ⟨.slice (some a) 0 0, by simp [Instr.sliceAt, Instr.slice, run_underlying hu, Instr.sliceBounds, Instr.sliceBound, asIntOf, run_sizeOf' hin, Addr.add], by simpa using Rep.slz _ a⟩
      | sl _ rows b o c cell hc hN hsz hw hr =>
        have hd : rows.drop l.toNat = (rows.take rows.length).drop l.toNat := by simp
        rw [hd]
        by_cases hcl : c = l.toNat
        · refine ⟨.slice (some ⟨b, o, none⟩) (rows.length - l.toNat) (c - l.toNat), ?_, sl_part hc hN hsz hw hr (by omega) (Nat.le_refl _) (by omega) (.inl (by omega))⟩
          simp [Instr.sliceAt, Instr.slice, run_underlying hu, Instr.sliceBounds, Instr.sliceBound, asIntOf, run_sizeOf' hin, addr_add, h0, h1, hcl]
        · refine ⟨.slice (some ⟨b, o + l.toNat * info.size, none⟩) (rows.length - l.toNat) (c - l.toNat), ?_, sl_part hc hN hsz hw hr (by omega) (Nat.le_refl _) (by omega) (.inr (by rw [hn]))⟩
          simp [Instr.sliceAt, Instr.slice, run_underlying hu, Instr.sliceBounds, Instr.sliceBound, asIntOf, run_sizeOf' hin, addr_add, h0, h1, hcl]
    · rename_i e ei kl l hS
      obtain ⟨hu, info, hin, hn⟩ := tSlice_info hT hS
      simp only [Out.val.injEq] at h
      obtain ⟨rfl, rfl⟩ := h
      have hm := hmx rfl
      subst hm
      have e2 := hlo' rfl
      obtain ⟨v, rfl, hv⟩ := hhi _ rfl
      have e := hv.of_raw
      subst e e2
      obtain ⟨rfl, h0, h1⟩ := hp
      cases ha with
      | slnil =>
        simp only [List.length_nil] at h1
        obtain rfl : l = 0 := by omega
        exact ⟨.slice none 0 0, by simp [Instr.sliceAt, Instr.slice, run_underlying hu, Instr.sliceBounds, Instr.sliceBound, asIntOf, run_sizeOf' hin], by simpa using Rep.slnil _⟩
      | slz _ a =>
        simp only [List.length_nil] at h1
        obtain rfl : l = 0 := by omega
        exact ⟨.slice (some a) 0 0, by simp [Instr.sliceAt, Instr.slice, run_underlying hu, Instr.sliceBounds, Instr.sliceBound, asIntOf, run_sizeOf' hin, Addr.add], by simpa using Rep.slz _ a⟩
      | sl _ rows b o c cell hc hN hsz hw hr =>
        have hd : rows.take l.toNat = (rows.take l.toNat).drop 0 := by simp
        rw [hd]
        refine ⟨.slice (some ⟨b, o, none⟩) (l.toNat - 0) c, ?_, ?_⟩
        · simp [Instr.sliceAt, Instr.slice, run_underlying hu, Instr.sliceBounds, Instr.sliceBound, asIntOf, run_sizeOf' hin, addr_add, h0, show l ≤ (c : Int) by omega]
        · exact sl_part hc hN hsz hw hr (Nat.zero_le _) (by omega) (by omega) (.inr (by simp))
    · rename_i e ei kl l kh h' hS
      obtain ⟨hu, info, hin, hn⟩ := tSlice_info hT hS
      simp only [Out.val.injEq] at h
      obtain ⟨rfl, rfl⟩ := h
      have hm := hmx rfl
      subst hm
      obtain ⟨v, rfl, hv⟩ := hlo _ rfl
      have e := hv.of_raw
      subst e
      obtain ⟨v, rfl, hv⟩ := hhi _ rfl
      have e := hv.of_raw
      subst e
      obtain ⟨rfl, h0, h1, h2⟩ := hp
      cases ha with
      | slnil =>
        simp only [List.length_nil] at h2
        obtain rfl : l = 0 := by omega
        obtain rfl : h' = 0 := by omega
        exact ⟨.slice none 0 0, by simp [Instr.sliceAt, Instr.slice, run_underlying hu, Instr.sliceBounds, Instr.sliceBound, asIntOf, run_sizeOf' hin], by simpa using Rep.slnil _⟩
      | slz _ a =>
        simp only [List.length_nil] at h2
        obtain rfl : l = 0 := by omega
        obtain rfl : h' = 0 := by omega
        exact ⟨.slice (some a) 0 0, by simp [Instr.sliceAt, Instr.slice, run_underlying hu, Instr.sliceBounds, Instr.sliceBound, asIntOf, run_sizeOf' hin, Addr.add], by simpa using Rep.slz _ a⟩
      | sl _ rows b o c cell hc hN hsz hw hr =>
        have hh0 : 0 ≤ h' := by omega
        have hhc : h' ≤ (c : Int) := by omega
        have hlh : l ≤ (h'.toNat : Int) := by omega
        have hlm : l ≤ max h' 0 := by omega
        by_cases hcl : c = l.toNat
        · refine ⟨.slice (some ⟨b, o, none⟩) (h'.toNat - l.toNat) (c - l.toNat), ?_, sl_part hc hN hsz hw hr (by omega) (by omega) (by omega) (.inl (by omega))⟩
          simp [Instr.sliceAt, Instr.slice, run_underlying hu, Instr.sliceBounds, Instr.sliceBound, asIntOf, run_sizeOf' hin, addr_add, h0, hh0, hhc, hlh, hcl, hlm, show h' ≤ max l 0 by omega]
        · refine ⟨.slice (some ⟨b, o + l.toNat * info.size, none⟩) (h'.toNat - l.toNat) (c - l.toNat), ?_, sl_part hc hN hsz hw hr (by omega) (by omega) (by omega) (.inr (by rw [hn]))⟩
          simp [Instr.sliceAt, Instr.slice, run_underlying hu, Instr.sliceBounds, Instr.sliceBound, asIntOf, run_sizeOf' hin, addr_add, h0, hh0, hhc, hlh, hcl, hlm]
    · rename_i e ei kh h' km m' hS
      obtain ⟨hu, info, hin, hn⟩ := tSlice_info hT hS
      simp only [Out.val.injEq] at h
      obtain ⟨rfl, rfl⟩ := h
      have e1 := hlo' rfl
      obtain ⟨v, rfl, hv⟩ := hhi _ rfl
      have e := hv.of_raw
      subst e e1
      obtain ⟨v, rfl, hv⟩ := hmx2 _ rfl
      have e := hv.of_raw
      subst e
      obtain ⟨rfl, rfl, rfl⟩ := hp
      cases ha with
      | slnil =>
        exact ⟨.slice none 0 0, by simp [Instr.sliceAt, Instr.slice, run_underlying hu, Instr.sliceBounds, Instr.sliceBound, asIntOf, run_sizeOf' hin], .csl _ _ _ (.slnil _) rfl⟩
      | slz _ a =>
        exact ⟨.slice (some a) 0 0, by simp [Instr.sliceAt, Instr.slice, run_underlying hu, Instr.sliceBounds, Instr.sliceBound, asIntOf, run_sizeOf' hin, Addr.add], .csl _ _ _ (.slz _ a) rfl⟩
      | sl _ rows b o c cell hc hN hsz hw hr =>
        have hhc : ((rows.length : Int)) ≤ (c : Int) := by omega
        refine ⟨.slice (some ⟨b, o, none⟩) rows.length rows.length, ?_, .csl _ _ _ (.sl _ rows b o rows.length cell (Nat.le_refl _) hN hsz hw hr) (Nat.beq_refl _)⟩
        simp [Instr.sliceAt, Instr.slice, run_underlying hu, Instr.sliceBounds, Instr.sliceBound, asIntOf, run_sizeOf' hin, addr_add, hhc]
        intro hlt
        omega
  · rename_i l
    split at h
    · rename_i e ei e' sz rows hS hl
      cases ha with
      | own l v hφ h1 =>
        obtain ⟨v', xs, hφ', _, ho, _⟩ := hL l _ hl
        rw [hφ] at hφ'
        obtain rfl := Option.some.inj hφ'
        rcases ho.2 with ⟨rfl, hz⟩ | ⟨g, cap, cur, rfl, hb, hg, hnc, hcm, hcs, htake⟩
        · exfalso
          unfold apart at h
          split at h
          · split at h
            · simp only [Out.val.injEq] at h
              obtain ⟨rfl, _⟩ := h
              rw [hz] at hp
              omega
            · cases h
          · cases h
        · have := apart_ok (w := w) (N := N) hT h hp hS hφ hnc (by omega) hlo hhi hmx2 hmx hlo' hhi'
          rwa [Nat.zero_mul] at this
    · cases h
  · rename_i l off n sz
    split at h
    · rename_i e ei hS
      cases ha with
      | osl _ _ _ _ b m c' c hφ hc hc' => exact apart_ok (w := w) (N := N) hT h hp hS hφ hc hc' hlo hhi hmx2 hmx hlo' hhi'
    · cases h
  · rename_i l off
    split at h
    all_goals try (cases h; done)
    · rename_i n a m hA
      obtain ⟨e, hu, hs⟩ := tArr_ok hT hA
      obtain ⟨d, hd, _, ⟨info, hin, hn⟩, _⟩ := tSize_ok hT hs
      simp only [Out.val.injEq] at h
      obtain ⟨rfl, rfl⟩ := h
      have hm := hmx rfl
      have e1 := hlo' rfl
      have e2 := hhi' rfl
      subst hm e1 e2
      cases ha with
      | loc l off b hφ =>
        refine ⟨_, ?_, Rep.lsl l off n m b n hφ (Nat.le_refl _)⟩
        simp [Instr.sliceAt, Instr.sureAddr, run_underlying hu, Instr.sliceBounds, run_sizeOf' hin, addr_add]
    · rename_i n a m k lo' hA
      obtain ⟨e, hu, hs⟩ := tArr_ok hT hA
      obtain ⟨d, hd, _, ⟨info, hin, hn⟩, _⟩ := tSize_ok hT hs
      simp only [Out.val.injEq] at h
      obtain ⟨rfl, rfl⟩ := h
      have hm := hmx rfl
      obtain ⟨v, rfl, hv⟩ := hlo _ rfl
      have e1 := hv.of_raw
      have e2 := hhi' rfl
      subst hm e1 e2
      obtain ⟨h0, h1⟩ := hp
      cases ha with
      | loc l off b hφ =>
        refine ⟨_, ?_, Rep.lsl l (off + lo'.toNat * m) (n - lo'.toNat) m b (n - lo'.toNat) hφ (Nat.le_refl _)⟩
        have : ¬ n = lo'.toNat := by omega
        simp [Instr.sliceAt, Instr.sureAddr, run_underlying hu, Instr.sliceBounds, Instr.sliceBound, asIntOf, run_sizeOf' hin, addr_add, h0, show lo' ≤ (n : Int) by omega, this, hn]
  · cases h
end
end Go.Proofs.YtnnjjblgilibgaaGreatV
/- What the evaluator says of the model: what makes memory, writes it, or calls. -/
namespace Go.Proofs.YtnnjjblgilibgaaGreatV
open Go Go.RowKit
set_option linter.unusedVariables false
set_option linter.unusedSimpArgs false

def upd (φ : Nat → Option Value) (l : Nat) (v : Value) : Nat → Option Value := fun k => if k = l then some v else φ k
theorem upd_same {φ : Nat → Option Value} {l : Nat} {v : Value} : upd φ l v l = some v := by simp [upd]
theorem upd_ext {φ : Nat → Option Value} {l : Nat} {v : Value} (h : φ l = none) : ∀ k u, φ k = some u → upd φ l v k = some u := by
  intro k u hk
  unfold upd
  split
  · rename_i e
    subst e
    rw [h] at hk
    cases hk
  · exact hk

theorem cell_alloc {w : World} {o : Obj} {b off : Nat} {v : Value} (hb : b < w.heap.size) (h : w.cell? ⟨b, off, none⟩ = some v) : (w.alloc o).cell? ⟨b, off, none⟩ = some v := by
  rw [← h]
  exact World.cell?_of_block (w := w) (Below.heap_alloc w o b hb)

section
variable {P : Program} {tt : TypeId → Option TI} (hT : TOk P tt) {w : World} {φ : Nat → Option Value} {N : Nat → Prop} {base : Nat} {lb : Nat → Option LB} {ev : Operand → AV} {ρ : Operand → Value}

/-- What is made: a block, and a value that points to it. -/
def Made (w : World) (φ : Nat → Option Value) (N : Nat → Prop) (base : Nat) (B : LB) (f : Nat → AV) (v : Value) (o' : Obj) : Prop :=
  vblock v = some w.heap.size ∧ ∀ l, φ l = none → Holds (w.alloc o') (upd φ l v) N base l B ∧ Rep (w.alloc o') (upd φ l v) N (f l) v

theorem made_box (hN : ∀ b, N b → b < w.heap.size) (hb : base ≤ w.heap.size) {cells : List AV} {cs : Array Value} {ty : TypeId} (h : RepL w φ N cells cs) : Made w φ N base (.box cells) (fun l => .loc l 0) (.pointer (some ⟨w.heap.size, 0, none⟩)) (.cells cs ty) := by
  refine ⟨rfl, fun l hl => ⟨⟨w.heap.size, ty, cs, upd_same, heap_alloc_new w _, h.1, fun i x hx => (h.2 i x hx).mono (fun b o v hb' hc => cell_alloc (hN b hb') hc) (upd_ext hl) (fun _ h => h), hb, fun hn => Nat.lt_irrefl _ (hN _ hn)⟩, .loc l 0 _ upd_same⟩⟩

theorem made_row (hN : ∀ b, N b → b < w.heap.size) (hb : base ≤ w.heap.size) {rows : List (List AV)} {cs : Array Value} {e : TypeId} {sz cap : Nat} (hs : ∀ r ∈ rows, r.length = sz) (hcap : rows.length ≤ cap) (hm : cap ≤ maxLen) (hcs : cs.size = cap * sz)
    (h : ∀ i x, rows.flatten[i]? = some x → Rep w φ N x (cs.getD i undef)) : Made w φ N base (.row e sz rows) .own (.slice (some ⟨w.heap.size, 0, none⟩) rows.length cap) (.cells cs e) := by
  have hfl := flat_len sz rows hs
  have hle : rows.length * sz ≤ cap * sz := Nat.mul_le_mul_right _ hcap
  refine ⟨rfl, fun l hl => ⟨⟨_, cs.toList.take (rows.length * sz), upd_same, rfl, ⟨by rw [List.length_take, show cs.toList.length = cap * sz by simp [hcs]]; exact Nat.min_eq_left hle, .inr ⟨w.heap.size, cap, cs, rfl, hb, heap_alloc_new w _, hcap, hm, hcs, rfl⟩⟩, hs, fun i x hx => ?_, fun b hb' => ?_⟩, .own l _ upd_same rfl⟩⟩
  · have hi := getElem?_lt hx
    have := (h i x hx).mono (w' := w.alloc (.cells cs e)) (φ' := upd φ l (.slice (some ⟨w.heap.size, 0, none⟩) rows.length cap)) (N' := N) (fun b o v hb' hc => cell_alloc (hN b hb') hc) (upd_ext hl) (fun _ h => h)
    have hlt : i < cs.size := by omega
    have e : (cs.toList.take (rows.length * sz)).getD i undef = cs.getD i undef := by
      rw [List.getD_eq_getElem?_getD, List.getElem?_take, if_pos (by omega), Array.getD_eq_getD_getElem?]
      simp
    rw [e]
    exact this
  · simp only [Value.ownBlock, Option.some.injEq] at hb'
    subst hb'
    exact fun hn => Nat.lt_irrefl _ (hN _ hn)

include hT
theorem alloc_ok (hN : ∀ b, N b → b < w.heap.size) (hb : base ≤ w.heap.size) {e : TypeId} {z : List AV} (h : tZero tt e = some z) : ∃ v o', (Instr.alloc e true (.tuple #[])).run P w = .ok v (w.alloc o') ∧ Made w φ N base (.box z) (fun l => .loc l 0) v o' := by
  obtain ⟨info, v, h1, h2, h3, h4, h5⟩ := zero_rep (w := w) (φ := φ) (N := N) hT h
  refine ⟨_, .cells v.cells e, ?_, made_box hN hb h4⟩
  simp [Instr.alloc, zeroValue, typeInfo, h1, h2, newVar, newRow]

omit hT in
theorem box_ok (hN : ∀ b, N b → b < w.heap.size) (hb : base ≤ w.heap.size) {e : TypeId} {x : AV} {v : Value} (hx : Rep w φ N x v) (h1 : allOne x.cells = true) : ∃ u o', (Instr.box e v).run P w = .ok u (w.alloc o') ∧ Made w φ N base (.box x.cells) (fun l => .loc l 0) u o' := by
  obtain ⟨g1, g2, g3⟩ := hx.cells h1
  refine ⟨_, .cells v.cells e, ?_, made_box hN hb ⟨g1, g2⟩⟩
  simp [Instr.box, newVar, newRow]

theorem reps_rep {e : TypeId} {ei : TI} (he : tt e = some ei) (hpos : 0 < ei.size) (n : Nat) : ∃ info z, P.info? e = some info ∧ info.size = ei.size ∧ info.bytes = ei.bytes ∧ info.zero = some z ∧ z.cells.size = ei.size ∧
    (reps n (ei.zero.map .raw)).length = n * ei.size ∧ ∀ m, n * ei.size ≤ m → ∀ i x, (reps n (ei.zero.map .raw))[i]? = some x → Rep w φ N x ((madeCells z.cells m).getD i undef) := by
  obtain ⟨_, info, z, h1, h2, h3, h4, h5, h6, h7, h8, _⟩ := hT e ei he
  have hzs : z.cells.size = ei.size := by
    rw [← h7, ← h5]
    simp
  have hlen : (reps n (ei.zero.map AV.raw)).length = n * ei.size := by simp [reps, h7]
  refine ⟨info, z, h1, h2, h3, h4, hzs, hlen, fun m hm i x hx => ?_⟩
  have hi := getElem?_lt hx
  rw [hlen] at hi
  have hx' : (ei.zero.map AV.raw)[i % ei.size]? = some x := by
    have hd : i = (i / ei.size) * ei.size + i % ei.size := by
      have := Nat.div_add_mod i ei.size
      rw [Nat.mul_comm] at this
      exact this.symm
    have hq : i / ei.size < n := (Nat.div_lt_iff_lt_mul hpos).2 hi
    rw [hd] at hx
    have := flat_get ei.size (List.replicate n (ei.zero.map AV.raw)) (i / ei.size) (ei.zero.map AV.raw) (fun r hr => by rw [List.eq_of_mem_replicate hr]; simp [h7]) (by rw [List.getElem?_replicate, if_pos hq]) (i % ei.size) (Nat.mod_lt _ hpos)
    unfold reps at hx
    rw [this] at hx
    exact hx
  rw [List.getElem?_map] at hx'
  have hml : i % ei.size < z.cells.size := by rw [hzs]; exact Nat.mod_lt _ hpos
  have hv : (madeCells z.cells m).getD i undef = z.cells[i % ei.size] := by
    have hm' : i < m := by omega
    rw [Array.getD_eq_getD_getElem?, madeCells, Array.getElem?_map, Array.getElem?_range, if_pos hm', hzs]
    simp [hml]
  rw [hv]
  have hz : ei.zero[i % ei.size]? = some z.cells[i % ei.size] := by
    rw [← h5]
    simp [hml]
  rw [hz] at hx'
  obtain rfl := Option.some.inj hx'
  exact .raw _

theorem buildSlice_ok (hN : ∀ b, N b → b < w.heap.size) (hb : base ≤ w.heap.size) {t : TypeId} {len : Nat} {parts : List (Nat × AV)} {parts' : Array (Nat × Value)} {p : Prop} {B : LB} {f : Nat → AV} (h : abuildSlice tt t len parts = .new p B f) (hp : p) (hl : parts.length = parts'.toList.length)
    (hr : ∀ (j : Nat) q, parts[j]? = some q → ∃ v, parts'.toList[j]? = some (q.1, v) ∧ Rep w φ N q.2 v) : ∃ v o', (Instr.buildSlice t len parts').run P w = .ok v (w.alloc o') ∧ Made w φ N base B f v o' := by
  unfold abuildSlice at h
  split at h
  · rename_i e ei hS
    obtain ⟨hu, he⟩ := tSlice_ok hT hS
    split at h
    · rename_i cells hbc
      simp only [Out.new.injEq] at h
      obtain ⟨rfl, rfl, rfl⟩ := h
      obtain ⟨p1, p2, p3⟩ := hp
      obtain ⟨info, z, h1, h2, h3, h4, h5, h6, h7⟩ := reps_rep (w := w) (φ := φ) (N := N) hT he p3 len
      have hbl : ∀ (parts : List (Nat × AV)) (l l' : List AV), buildCells (fun i => some (i * ei.size, ei.size)) l parts = some l' → l'.length = l.length := by
        intro parts
        induction parts with
        | nil => intro l l' h; simp [buildCells] at h; rw [h]
        | cons q r ih =>
          intro l l' h
          obtain ⟨i, x⟩ := q
          unfold buildCells at h
          simp only at h
          split at h
          · rw [ih _ _ h, setCells_length]
          · cases h
      have hcl : cells.length = len * ei.size := by rw [hbl _ _ _ hbc, h6]
      obtain ⟨c1, c2, c3⟩ := cutRows_ok ei.size len cells (by omega)
      obtain ⟨cs', e1, e2⟩ := fill_ok (place' := fun i => some (i * info.size, info.size)) (fun i q hq => by rw [h2]; exact hq) parts parts'.toList _ cells (madeCells z.cells (len * info.size)) hl hr ⟨by rw [size_madeCells, h6, h2], h7 _ (by rw [h2]; exact Nat.le_refl _)⟩ hbc
      have hrow := made_row (w := w) (φ := φ) (N := N) (base := base) (e := e) (sz := ei.size) (cap := len) hN hb c2 (by omega) (by
        simp only [maxLen]
        have : len * 1 ≤ len * ei.size := Nat.mul_le_mul_left _ p3
        omega) (by rw [e2.1, hcl]) (fun i x hx => e2.2 i x (by
          rw [c3, List.getElem?_take] at hx
          split at hx
          · exact hx
          · cases hx))
      rw [c1] at hrow
      by_cases hz : len * info.size = 0
      · have hl0 : len = 0 := by
          rcases Nat.mul_eq_zero.1 hz with h | h
          · exact h
          · omega
        refine ⟨_, _, ?_, hrow⟩
        subst hl0
        have e1' : Instr.fill (fun i => some (i * info.size, info.size)) #[] parts'.toList = some cs' := by
          rw [← e1]
          congr 1
          simp [madeCells]
        have e1'' : Instr.fill (fun i => some (i * info.size, info.size)) (Array.map (fun x => (default : Value)) (Array.range 0)) parts'.toList = some cs' := by
          rw [← e1']
          congr 1
          exact Array.eq_empty_of_size_eq_zero (by simp)
        simp [Instr.buildSlice, run_underlying hu, sizeOf, typeInfo, h1, e1'', newRow]
      · exact ⟨_, _, run_buildSlice w t e len parts' cs' info z hu h1 h4 (by rw [h2]; omega) hz e1, hrow⟩
    · cases h
  · cases h

theorem makeSlice_ok (hN : ∀ b, N b → b < w.heap.size) (hb : base ≤ w.heap.size) {t : TypeId} {l c : AV} {vl vc : Value} {p : Prop} {B : LB} {f : Nat → AV} (h : amakeSlice tt t l c = .new p B f) (hp : p) (hl : Rep w φ N l vl) (hc : Rep w φ N c vc) :
    ∃ v o', (Instr.makeSlice t vl vc).run P w = .ok v (w.alloc o') ∧ Made w φ N base B f v o' := by
  unfold amakeSlice at h
  split at h
  · rename_i e ei k n k' m hS
    have e1 := hl.of_raw
    have e2 := hc.of_raw
    subst e1 e2
    obtain ⟨hu, he⟩ := tSlice_ok hT hS
    simp only [Out.new.injEq] at h
    obtain ⟨rfl, rfl, rfl⟩ := h
    obtain ⟨p1, p2, p3, p4, p5, p6⟩ := hp
    obtain ⟨info, z, h1, h2, h3, h4, h5, h6, h7⟩ := reps_rep (w := w) (φ := φ) (N := N) hT he p5 n.toNat
    have hrun := run_make (P := P) w t e info z hu h1 h4 k k' n m p1 p2 (by rw [h3]; exact p3) p4
    have hs : ∀ r ∈ List.replicate n.toNat (ei.zero.map AV.raw), r.length = ei.size := by
      intro r hr
      rw [List.eq_of_mem_replicate hr]
      obtain ⟨_, _, _, _, _, _, _, _, _, h, _⟩ := hT e ei he
      simp [h]
    have hrow := made_row (w := w) (φ := φ) (N := N) (base := base) (e := e) (sz := ei.size) (cap := m.toNat) hN hb hs (by simp; omega) (by simp only [maxLen]; omega) (cs := madeCells z.cells (m.toNat * info.size)) (by rw [size_madeCells, h2])
      (fun i x hx => h7 _ (by rw [h2]; exact Nat.mul_le_mul_right _ (by omega)) i x hx)
    rw [List.length_replicate] at hrow
    exact ⟨_, _, hrun, hrow⟩
  · cases h
end
end Go.Proofs.YtnnjjblgilibgaaGreatV
/- What the evaluator says of the model: stores, append, calls. -/
namespace Go.Proofs.YtnnjjblgilibgaaGreatV
open Go Go.RowKit
set_option linter.unusedVariables false
set_option linter.unusedSimpArgs false

theorem setCells_eq : ∀ (xs l : List AV) (o : Nat), o + xs.length ≤ l.length → setCells l o xs = l.take o ++ xs ++ l.drop (o + xs.length)
  | [], l, o, _ => by simp [setCells]
  | x :: xs, l, o, h => by
    simp only [List.length_cons] at h
    rw [setCells, setCells_eq xs (l.set o x) (o + 1) (by simp; omega)]
    have e1 : (l.set o x).take (o + 1) = l.take o ++ [x] := by
      rw [List.take_set, List.take_add_one, List.getElem?_eq_getElem (by omega)]
      rw [List.set_append, if_neg (by simp; omega), List.length_take, Nat.min_eq_left (by omega), Nat.sub_self]
      rfl
    have e2 : (l.set o x).drop (o + 1 + xs.length) = l.drop (o + (xs.length + 1)) := by
      rw [List.drop_set_of_lt (by omega)]
      congr 1
      omega
    rw [e1, e2]
    simp

theorem splice_take {α : Type} (l us : List α) (o k m : Nat) (hl : m ≤ l.length) (h : o + us.length ≤ m) : (l.take o ++ us ++ l.drop (o + us.length)).take m = (l.take m).take o ++ us ++ (l.take m).drop (o + us.length) := by
  rw [List.take_append, List.take_append, List.take_take, List.take_take]
  simp only [List.length_append, List.length_take]
  rw [Nat.min_eq_left (show o ≤ l.length by omega), Nat.min_eq_right (show o ≤ m by omega), Nat.min_eq_left (show o ≤ m by omega), List.take_of_length_le (show us.length ≤ m - o by omega), List.drop_take]

theorem flatten_set {α : Type} (sz : Nat) : ∀ (rows : List (List α)) (r : Nat) (row : List α), (∀ x ∈ rows, x.length = sz) → r < rows.length → (rows.set r row).flatten = rows.flatten.take (r * sz) ++ row ++ rows.flatten.drop ((r + 1) * sz)
  | [], r, row, _, h => by simp at h
  | a :: rows, 0, row, hs, _ => by
    have ha := hs a (by simp)
    simp [List.drop_append, ha]
  | a :: rows, r + 1, row, hs, h => by
    have ha := hs a (by simp)
    have ih := flatten_set sz rows r row (fun x hx => hs x (by simp [hx])) (by simpa using h)
    rw [List.set_cons_succ, List.flatten_cons, List.flatten_cons, ih, List.take_append, List.drop_append, ha]
    have e1 : a.take ((r + 1) * sz) = a := List.take_of_length_le (by rw [ha, Nat.add_mul]; omega)
    have e2 : a.drop ((r + 1 + 1) * sz) = [] := List.drop_eq_nil_of_le (by rw [ha, Nat.add_mul, Nat.add_mul]; omega)
    have e3 : (r + 1) * sz - sz = r * sz := by rw [Nat.add_mul]; omega
    have e4 : (r + 1 + 1) * sz - sz = (r + 1) * sz := by simp only [Nat.add_mul]; omega
    rw [e1, e2, e3, e4]
    simp

section
variable {w : World} {φ : Nat → Option Value} {N : Nat → Prop}
theorem rep_splice {l xs : List AV} {vs us : List Value} {o : Nat} (hl : l.length ≤ vs.length) (h : ∀ i x, l[i]? = some x → Rep w φ N x (vs.getD i undef)) (hx : us.length = xs.length) (h' : ∀ i x, xs[i]? = some x → Rep w φ N x (us.getD i undef)) (ho : o + xs.length ≤ l.length) :
    ∀ i y, (l.take o ++ xs ++ l.drop (o + xs.length))[i]? = some y → Rep w φ N y ((vs.take o ++ us ++ vs.drop (o + us.length)).getD i undef) := by
  intro i y hy
  have hlo : (l.take o).length = o := by rw [List.length_take]; omega
  have hvo : (vs.take o).length = o := by rw [List.length_take]; omega
  rw [List.append_assoc] at hy ⊢
  rw [List.getD_eq_getElem?_getD]
  rw [List.getElem?_append] at hy ⊢
  rw [hlo] at hy
  rw [hvo]
  by_cases hi : i < o
  · rw [if_pos hi] at hy ⊢
    rw [List.getElem?_take, if_pos hi] at hy ⊢
    have := h i y hy
    rwa [List.getD_eq_getElem?_getD] at this
  · rw [if_neg hi] at hy ⊢
    rw [List.getElem?_append] at hy ⊢
    rw [hx]
    by_cases hi2 : i - o < xs.length
    · rw [if_pos hi2] at hy ⊢
      have := h' _ y hy
      rwa [List.getD_eq_getElem?_getD] at this
    · rw [if_neg hi2] at hy ⊢
      rw [List.getElem?_drop] at hy ⊢
      have := h _ y hy
      rwa [List.getD_eq_getElem?_getD] at this
end

section
variable {P : Program} {tt : TypeId → Option TI} (hT : TOk P tt) {w : World} {φ : Nat → Option Value} {N : Nat → Prop} {base : Nat} {lb : Nat → Option LB}

/-- One block of the call's own has turned. -/
structure Turned (w w' : World) (b : Nat) : Prop where
  grown : w.grownBy w' (some b)
  size : w'.heap.size = w.heap.size

theorem turned_setRow (w : World) (b : Nat) (cs : Array Value) : Turned w (w.setRow b cs) b :=
  ⟨⟨rfl, rfl, rfl, by simp [World.setRow], fun k _ hk => setRow_other w b k cs (fun e => hk (by rw [e]))⟩, by simp [World.setRow]⟩

theorem Rep.turned {w' : World} {b : Nat} (ht : w.grownBy w' (some b)) (hN : ∀ b, N b → b < w.heap.size) (hb : ¬ N b) {x : AV} {v : Value} (h : Rep w φ N x v) : Rep w' φ N x v :=
  h.mono (fun c o v hc hv => (World.cell?_of_block (w := w) (w' := w') (a := ⟨c, o, none⟩) (ht.block c (hN c hc) (by intro e; injection e with e; subst e; exact hb hc))).trans hv) (fun _ _ h => h) (fun _ h => h)

include hT
theorem storeVar_ok {t : TypeId} {a : Bool} {n : Nat} (ht : tSize tt t = some (a, n)) {b o : Nat} {cs : Array Value} {ty : TypeId} (hg : w.heap[b]? = some (.cells cs ty (0, 0))) {v : Value} (hv : v.cells.size = n) (h1 : ∀ u ∈ v.cells.toList, u.oneCell' = true) (ho : o + n ≤ cs.size) :
    (Instr.storeAt t (.pointer (some ⟨b, o, none⟩)) v).run P w = .ok () (w.setRow b (cs.toList.take o ++ v.cells.toList ++ cs.toList.drop (o + v.cells.toList.length)).toArray) := by
  obtain ⟨d, hd, _, ⟨info, hin, hn⟩, _⟩ := tSize_ok hT ht
  have hs := run_storeCells_at P b o ty v.cells.toList 0 cs w hg (by simp; omega) h1
  simp only [Nat.add_zero] at hs
  simp [Instr.storeAt, Instr.sureAddr, storeVar, run_sizeOf' hin, hv, hn]
  simpa [hv] using hs

theorem astore_ok (hL : ∀ l B, lb l = some B → Holds w φ N base l B) (hN : ∀ b, N b → b < w.heap.size) {t : TypeId} {a x : AV} {va vx : Value} {p : Prop} {l : Nat} {B : LB} (h : astore tt lb t a x = .put p l B) (hp : p) (ha : Rep w φ N a va) (hx : Rep w φ N x vx) :
    ∃ w' b v, (Instr.storeAt t va vx).run P w = .ok () w' ∧ φ l = some v ∧ vblock v = some b ∧ base ≤ b ∧ b < w.heap.size ∧ ¬ N b ∧ Turned w w' b ∧ Holds w' φ N base l B ∧ ∃ B0, lb l = some B0 := by
  unfold astore at h
  split at h
  · cases h
  · rename_i ag n ht
    cases ha with
    | loc l' off b hφ =>
      simp only at h
      split at h
      · rename_i cells hl
        simp only [Out.put.injEq] at h
        obtain ⟨rfl, rfl, rfl⟩ := h
        obtain ⟨p1, p2, p3⟩ := hp
        obtain ⟨b', ty, cs, hφ', hg, hs, hr, hb, hNb⟩ := hL _ _ hl
        rw [hφ] at hφ'
        simp only [Option.some.injEq, Value.pointer.injEq, Addr.mk.injEq, and_true] at hφ'
        subst hφ'
        obtain ⟨g1, g2, g3⟩ := hx.cells p2
        have hrun := storeVar_ok hT ht hg (v := vx) (o := off) (by omega) g3 (by omega)
        have htn := turned_setRow w b (cs.toList.take off ++ vx.cells.toList ++ cs.toList.drop (off + vx.cells.toList.length)).toArray
        have hlt := (Array.getElem?_eq_some_iff.1 hg).1
        refine ⟨_, b, _, hrun, hφ, rfl, hb, hlt, hNb, htn, ⟨b, ty, _, hφ, setRow_heap w b cs _ ty (0, 0) hg, ?_, fun i y hy => ?_, hb, hNb⟩, _, hl⟩
        · rw [setCells_length]
          simp
          omega
        · rw [setCells_eq _ _ _ (by omega)] at hy
          have := rep_splice (w := w) (φ := φ) (N := N) (l := cells) (vs := cs.toList) (us := vx.cells.toList) (xs := x.cells) (o := off) (by simp; omega) (fun i x hx => by simpa using hr i x hx) (by simpa using g1) (fun i x hx => by simpa using g2 i x hx) (by omega) i y hy
          have := this.turned htn.grown hN hNb
          simpa using this
      · cases h
    | rloc l' sz i f b n' c hφ =>
      simp only at h
      split at h
      · rename_i e sz' rows hl
        split at h
        · rename_i cells hi
          simp only [Out.put.injEq] at h
          obtain ⟨rfl, rfl, rfl⟩ := h
          obtain ⟨rfl, p1, p2, p3⟩ := hp
          obtain ⟨v, xs, hφ', h1', ho, hs, hr, hNb⟩ := hL _ _ hl
          have hi' := getElem?_lt hi
          have hcl : cells.length = sz := hs cells (List.mem_of_getElem? hi)
          rcases ho.2 with ⟨_, h0⟩ | ⟨g, cap, cur, hv, hb, hg, hnc, hcm, hcs, htake⟩
          · omega
          · rw [hφ, hv] at hφ'
            simp only [Option.some.injEq, Value.slice.injEq, Addr.mk.injEq, and_true] at hφ'
            obtain ⟨rfl, rfl, rfl⟩ := hφ'
            have hNb := hNb b (by rw [hv]; rfl)
            obtain ⟨g1, g2, g3⟩ := hx.cells p2
            have hle : (i + 1) * sz ≤ rows.length * sz := Nat.mul_le_mul_right _ hi'
            have hle2 : rows.length * sz ≤ c * sz := Nat.mul_le_mul_right _ hnc
            rw [Nat.add_mul] at hle
            have hrun := storeVar_ok hT ht hg (v := vx) (o := i * sz + f) (by omega) g3 (by omega)
            have htn := turned_setRow w b (cur.toList.take (i * sz + f) ++ vx.cells.toList ++ cur.toList.drop (i * sz + f + vx.cells.toList.length)).toArray
            have hlt := (Array.getElem?_eq_some_iff.1 hg).1
            have hxl : xs.length = rows.length * sz := ho.1
            have hul : vx.cells.toList.length = x.cells.length := by simpa using g1
            have hsp := splice_take cur.toList vx.cells.toList (i * sz + f) 0 (rows.length * sz) (by simp; omega) (by omega)
            rw [htake] at hsp
            have hfl : (rows.set i (setCells cells f x.cells)).flatten = rows.flatten.take (i * sz + f) ++ x.cells ++ rows.flatten.drop (i * sz + f + x.cells.length) := by
              have hrl := flat_len sz rows hs
              rw [flatten_set sz rows i _ hs hi', setCells_eq _ _ _ (by omega)]
              have hce : cells = (rows.flatten.drop (i * sz)).take sz := by
                apply List.ext_getElem?
                intro k
                rw [List.getElem?_take]
                split
                · rename_i hk
                  rw [List.getElem?_drop, flat_get sz rows i cells hs hi k hk]
                · rw [List.getElem?_eq_none (by omega)]
              have e1 : rows.flatten.take (i * sz) ++ cells.take f = rows.flatten.take (i * sz + f) := by
                rw [List.take_add, hce, List.take_take, Nat.min_eq_left (by omega)]
              have e2 : cells.drop (f + x.cells.length) ++ rows.flatten.drop ((i + 1) * sz) = rows.flatten.drop (i * sz + f + x.cells.length) := by
                rw [hce, List.drop_take, List.drop_drop]
                have e3 : rows.flatten.drop ((i + 1) * sz) = (rows.flatten.drop (i * sz + (f + x.cells.length))).drop (sz - (f + x.cells.length)) := by
                  rw [List.drop_drop]
                  congr 1
                  rw [Nat.add_mul]
                  omega
                rw [e3, List.take_append_drop, Nat.add_assoc]
              rw [← e1, ← e2]
              simp only [List.append_assoc]
            refine ⟨_, b, _, hrun, hφ, rfl, hb, hlt, hNb, htn, ⟨_, xs.take (i * sz + f) ++ vx.cells.toList ++ xs.drop (i * sz + f + vx.cells.toList.length), hφ, rfl, ⟨?_, .inr ⟨b, c, _, by rw [List.length_set], hb, setRow_heap w b cur _ e (0, 0) hg, by rw [List.length_set]; exact hnc, hcm, ?_, ?_⟩⟩, ?_, fun j y hy => ?_, ?_⟩, _, hl⟩
            · rw [List.length_set]
              simp
              omega
            · simp
              omega
            · rw [List.length_set]
              exact hsp
            · intro r hr'
              rcases List.mem_or_eq_of_mem_set hr' with h | rfl
              · exact hs r h
              · rw [setCells_length, hcl]
            · rw [hfl] at hy
              have := rep_splice (w := w) (φ := φ) (N := N) (l := rows.flatten) (vs := xs) (us := vx.cells.toList) (xs := x.cells) (o := i * sz + f) (by rw [flat_len sz rows hs]; omega) hr (by simpa using g1) (fun i x hx => by simpa using g2 i x hx) (by rw [flat_len sz rows hs]; omega) j y hy
              exact this.turned htn.grown hN hNb
            · intro b' hb'
              simp only [Value.ownBlock, Option.some.injEq] at hb'
              subst hb'
              exact hNb
        · cases h
      · cases h
    | _ => simp at h
end
end Go.Proofs.YtnnjjblgilibgaaGreatV
/- What the evaluator says of the model: append, what a callee sees. -/
namespace Go.Proofs.YtnnjjblgilibgaaGreatV
open Go Go.RowKit
set_option linter.unusedVariables false
set_option linter.unusedSimpArgs false

section
variable {P : Program} {tt : TypeId → Option TI} (hT : TOk P tt) {w : World} {φ : Nat → Option Value} {N : Nat → Prop} {base : Nat} {lb : Nat → Option LB}

theorem one_rows {l : List AV} {vs : List Value} (h1 : allOne l = true) (hl : vs.length = l.length) (h : ∀ i x, l[i]? = some x → Rep w φ N x (vs.getD i undef)) : ∀ u ∈ vs, u.oneCell' = true := by
  intro u hu
  obtain ⟨i, hi, rfl⟩ := List.getElem_of_mem hu
  have := (h i l[i] (List.getElem?_eq_getElem (by omega))).one (allOne_mem h1 _ (List.getElem_mem _))
  simpa [List.getD_eq_getElem?_getD, hi] using this

/-- A slice's rows: where they lie. -/
theorem news_ok (hL : ∀ l B, lb l = some B → Holds w φ N base l B) {y : AV} {vy : Value} (hy : Rep w φ N y vy) {sz : Nat} {rows : List (List AV)} (hpos : 0 < rows.length)
    (h : newsOf lb y = some (sz, rows)) :
    (∀ r ∈ rows, r.length = sz) ∧ ∃ (a : Addr) (c : Nat) (news : List Value), vy = .slice (some a) rows.length c ∧ news.length = rows.length * sz ∧ (∀ j u, news[j]? = some u → w.cell? (a.add j) = some u) ∧ (∀ i x, rows.flatten[i]? = some x → Rep w φ N x (news.getD i undef)) := by
  unfold newsOf at h
  cases hy with
  | slnil sz' =>
    simp only [Option.some.injEq, Prod.mk.injEq] at h
    obtain ⟨rfl, rfl⟩ := h
    simp at hpos
  | slz sz' a =>
    simp only [Option.some.injEq, Prod.mk.injEq] at h
    obtain ⟨rfl, rfl⟩ := h
    simp at hpos
  | sl sz' rows' b o c cell hc hN hsz hw hr =>
    simp only [Option.some.injEq, Prod.mk.injEq] at h
    obtain ⟨rfl, rfl⟩ := h
    have hfl := flat_len _ _ hsz
    refine ⟨hsz, ⟨b, o, none⟩, c, (List.range (rows'.length * sz')).map cell, rfl, by simp, fun j u hu => ?_, fun i x hx => ?_⟩
    · have hj := getElem?_lt hu
      simp at hj
      rw [List.getElem?_map, List.getElem?_range hj] at hu
      obtain rfl := Option.some.inj hu
      rw [addr_add]
      exact hw j (by omega)
    · have hi := getElem?_lt hx
      have : ((List.range (rows'.length * sz')).map cell).getD i undef = cell i := by
        rw [List.getD_eq_getElem?_getD, List.getElem?_map, List.getElem?_range (by omega)]
        rfl
      rw [this]
      exact hr i x hx
  | own l v hφ h1 =>
    simp only at h
    split at h
    · rename_i e sz' rows' hl
      simp only [Option.some.injEq, Prod.mk.injEq] at h
      obtain ⟨rfl, rfl⟩ := h
      obtain ⟨v', xs, hφ', h1', ho, hs, hr, hNb⟩ := hL _ _ hl
      rw [hφ] at hφ'
      obtain rfl := Option.some.inj hφ'
      rcases ho.2 with ⟨_, hz⟩ | ⟨g, cap, cur, rfl, hb, hg, hnc, hcm, hcs, htake⟩
      · omega
      · exact ⟨hs, ⟨g, 0, none⟩, cap, xs, rfl, ho.1, ho.cells (g := g) rfl, hr⟩
    · cases h
  | _ => simp at h

theorem own_slice {l e sz : Nat} {rows : List (List AV)} (h : Holds w φ N base l (.row e sz rows)) : ∃ v, φ l = some v ∧ vblock v = v.ownBlock := by
  obtain ⟨v, xs, hφ, h1, ho, _⟩ := h
  rcases ho.2 with ⟨rfl, _⟩ | ⟨g, cap, cur, rfl, _⟩
  · exact ⟨_, hφ, rfl⟩
  · exact ⟨_, hφ, rfl⟩

include hT
theorem aappend_ok (hL : ∀ l B, lb l = some B → Holds w φ N base l B) (hN : ∀ b, N b → b < w.heap.size) (hbase : base ≤ w.heap.size) {t ty : TypeId} {x y : AV} {vx vy : Value} {p : Prop} {l : Option Nat} {B : LB} (h : aappend tt lb t x y = .grow p l B) (hp : p) (hx : Rep w φ N x vx) (hy : Rep w φ N y vy) :
    ∃ v' w' row, (Builtin.append_ #[t, t] ty #[vx, vy]).run P w = .ok v' w' ∧ w.grownBy w' row ∧ (∀ b, row = some b → base ≤ b ∧ b < w.heap.size ∧ ¬ N b) ∧ (∀ k, φ k = none → Holds w' (upd φ k v') N base k B ∧ Rep w' (upd φ k v') N (.own k) v') ∧
      ((l = none ∧ row = none) ∨ ∃ l0 v0, l = some l0 ∧ (∃ B0, lb l0 = some B0) ∧ φ l0 = some v0 ∧ vblock v0 = row) ∧ (vblock v' = row ∨ vblock v' = some w.heap.size) := by
  unfold aappend at h
  split at h
  · cases h
  · rename_i e ei hS
    obtain ⟨hu, he⟩ := tSlice_ok hT hS
    obtain ⟨_, info, z, i1, i2, i3, i4, i5, i6, i7, i8, _⟩ := hT e ei he
    have hzs : z.cells.size = ei.size := by
      rw [← i7, ← i5]
      simp
    split at h
    · cases h
    · rename_i sz rows hnews
      have key : ∀ (v : Value) (n : Nat) (xs : List Value) (rows' : List (List AV)), w.ownsRow base e ei.size v n xs → n = rows'.length → (∀ r ∈ rows', r.length = ei.size) → (∀ i x, rows'.flatten[i]? = some x → Rep w φ N x (xs.getD i undef)) → (∀ b, v.ownBlock = some b → ¬ N b) → sz = ei.size → 0 < ei.size → 0 < rows.length → allOne rows.flatten = true → (n + rows.length) * ei.bytes ≤ 140737488355328 → n + rows.length ≤ 9223372036854775807 →
          ∃ v' w', (Builtin.append_ #[t, t] ty #[v, vy]).run P w = .ok v' w' ∧ w.grownBy w' v.ownBlock ∧ (∀ b, v.ownBlock = some b → base ≤ b ∧ b < w.heap.size ∧ ¬ N b) ∧ (∀ k, φ k = none → Holds w' (upd φ k v') N base k (.row e ei.size (rows' ++ rows)) ∧ Rep w' (upd φ k v') N (.own k) v') ∧ (vblock v' = v.ownBlock ∨ vblock v' = some w.heap.size) := by
        intro v n xs rows' hown hn hs' hr' hNb hsz hpos hm ho1 hby h63
        subst hn hsz
        obtain ⟨hs, a, c, news, rfl, hl, hc, hr⟩ := news_ok hL hy hm hnews
        have hone := one_rows ho1 (by rw [flat_len _ _ hs, hl]) hr
        obtain ⟨v', w', hrun, hown', hgr, hnil⟩ := run_append_own (P := P) w base t ty e info z ei.size ei.bytes hu i1 i4 i2 i3 hzs hpos v rows'.length xs hown a rows.length c news hl hc hone (by simp only [maxLen]; exact h63) hby hbase
        have hblk : v'.ownBlock = v.ownBlock ∨ v'.ownBlock = some w.heap.size := by
          have hl' : news.length = rows.length * info.size := by rw [hl, i2]
          rcases hown.2 with ⟨rfl, h0⟩ | ⟨g, cap, cur, rfl, hbg, hg, hnc, hcm, hcs, htake⟩
          · have hr2 := run_append_nil (P := P) w t ty e info z hu i1 i4 a rows.length c news hl' hc hm (by omega) (by rw [i3]; have : (0 + rows.length) * ei.bytes ≤ (rows'.length + rows.length) * ei.bytes := Nat.mul_le_mul_right _ (by omega); rw [Nat.zero_add] at this; omega)
            rw [hr2] at hrun
            simp only [Result.ok.injEq] at hrun
            right
            rw [← hrun.1]
            rfl
          · by_cases hroom : rows'.length + rows.length ≤ cap
            · have hfit : rows'.length * info.size + news.length ≤ cur.size := by rw [hl, hcs, i2, ← Nat.add_mul]; exact Nat.mul_le_mul_right _ hroom
              have hr2 := run_append_room (P := P) w t ty e info hu i1 g rows'.length cap cur hg a rows.length c news hl' hc hone hroom hfit
              rw [hr2] at hrun
              simp only [Result.ok.injEq] at hrun
              left
              rw [← hrun.1]
              rfl
            · have hr2 := run_append_grow (P := P) w t ty e info z hu i1 i4 ⟨g, 0, none⟩ rows'.length cap xs (by rw [i2]; exact hown.1) (hown.cells (g := g) rfl) a rows.length c news hl' hc (by omega) (by omega) (growslice_fits (by omega) (by rw [i3]; exact hby))
              rw [hr2] at hrun
              simp only [Result.ok.injEq] at hrun
              right
              rw [← hrun.1]
              rfl
        have hrow : ∀ b, v.ownBlock = some b → base ≤ b ∧ b < w.heap.size ∧ ¬ N b := fun b hb => ⟨(hown.lt b hb).1, (hown.lt b hb).2, hNb b hb⟩
        have hmono : ∀ (φ' : Nat → Option Value), (∀ k u, φ k = some u → φ' k = some u) → ∀ {x : AV} {v : Value}, Rep w φ N x v → Rep w' φ' N x v := by
          intro φ' hφ' x u hx
          exact hx.mono (fun b o v' hb hc' => (World.cell?_of_block (w := w) (w' := w') (a := ⟨b, o, none⟩) (hgr.block b (hN b hb) (by
            intro e'
            exact (hrow b e'.symm).2.2 hb))).trans hc') hφ' (fun _ h => h)
        have hv1 : v'.oneCell' = true ∧ vblock v' = v'.ownBlock := by
          rcases hown'.2 with ⟨rfl, _⟩ | ⟨g, cap, cur, rfl, _⟩
          · exact ⟨rfl, rfl⟩
          · exact ⟨rfl, rfl⟩
        refine ⟨v', w', hrun, hgr, hrow, fun k hk => ⟨⟨v', xs ++ news, upd_same, hv1.1, by rw [List.length_append]; exact hown', ?_, fun i x hx => ?_, fun b hb => ?_⟩, .own k v' upd_same hv1.1⟩, by rw [hv1.2]; exact hblk⟩
        · intro r hr2
          rcases List.mem_append.1 hr2 with h | h
          · exact hs' r h
          · exact hs r h
        · rw [List.flatten_append, List.getElem?_append] at hx
          have hfl' := flat_len _ _ hs'
          rw [List.getD_eq_getElem?_getD, List.getElem?_append, hown.1, ← hfl']
          split at hx
          · rename_i hlt
            rw [if_pos hlt]
            have := hmono (upd φ k v') (upd_ext hk) (hr' i x hx)
            rwa [List.getD_eq_getElem?_getD] at this
          · rename_i hlt
            rw [if_neg hlt]
            have := hmono (upd φ k v') (upd_ext hk) (hr _ x hx)
            rwa [List.getD_eq_getElem?_getD] at this
        · rcases hblk with h | h
          · rw [h] at hb
            exact hNb b hb
          · rw [h] at hb
            obtain rfl := Option.some.inj hb
            exact fun hn => Nat.lt_irrefl _ (hN _ hn)
      split at h
      · have e := hx.of_raw
        subst e
        simp only [Out.grow.injEq] at h
        obtain ⟨rfl, rfl, rfl⟩ := h
        obtain ⟨p1, p2, p3, p4, p5, p6⟩ := hp
        obtain ⟨v', w', h1, h2, h3, h4, h5⟩ := key (.slice none 0 0) 0 [] [] (World.ownsRow_nil w base e ei.size) rfl (by simp) (by simp) (by intro b hb; cases hb) p1 p2 p3 p4 (by rw [Nat.zero_add]; exact p5) (by omega)
        exact ⟨v', w', none, h1, h2, (by intro b hb; cases hb), by simpa using h4, .inl ⟨rfl, rfl⟩, h5⟩
      · rename_i sz' rows'
        simp only [Out.grow.injEq] at h
        obtain ⟨rfl, rfl, rfl⟩ := h
        obtain ⟨p1, rfl, p2, p3, p4, p5, p6⟩ := hp
        cases hx with
        | csl _ _ _ hx hcl =>
          have hgen : (vx = .slice none 0 0 ∧ rows' = []) ∨ ∃ (a0 : Addr) (xs : List Value), vx = .slice (some a0) rows'.length rows'.length ∧ (∀ r ∈ rows', r.length = ei.size) ∧ xs.length = rows'.length * ei.size ∧ (∀ j u, xs[j]? = some u → w.cell? (a0.add j) = some u) ∧ ∀ i x, rows'.flatten[i]? = some x → Rep w φ N x (xs.getD i undef) := by
            cases hx with
            | slnil => exact .inl ⟨rfl, rfl⟩
            | slz _ a0 => exact .inr ⟨a0, [], rfl, (fun r h => by cases h), by simp, (fun j u h => by simp at h), (fun i x h => by simp at h)⟩
            | sl _ _ b o c cell hc hb hsz hw' hr' =>
              have hcc : rows'.length = c := Nat.eq_of_beq_eq_true hcl
              subst hcc
              have hfl := flat_len _ _ hsz
              refine .inr ⟨⟨b, o, none⟩, (List.range (rows'.length * ei.size)).map cell, rfl, hsz, by simp, fun j u hu' => ?_, fun i x hx => ?_⟩
              · have hj := getElem?_lt hu'
                simp at hj
                rw [List.getElem?_map, List.getElem?_range hj] at hu'
                obtain rfl := Option.some.inj hu'
                rw [addr_add]
                exact hw' j (by omega)
              · have hi := getElem?_lt hx
                have : ((List.range (rows'.length * ei.size)).map cell).getD i undef = cell i := by
                  rw [List.getD_eq_getElem?_getD, List.getElem?_map, List.getElem?_range (by omega)]
                  rfl
                rw [this]
                exact hr' i x hx
          rcases hgen with ⟨rfl, rfl⟩ | ⟨a0, xs, rfl, hsz, hxl, hxc, hxr⟩
          · obtain ⟨v', w', h1, h2, h3, h4, h5⟩ := key (.slice none 0 0) 0 [] [] (World.ownsRow_nil w base e ei.size) rfl (by simp) (by simp) (by intro b hb; cases hb) p1 p2 p3 p4 (by simpa using p5) (by simpa using p6)
            exact ⟨v', w', none, h1, h2, (by intro b hb; cases hb), by simpa using h4, .inl ⟨rfl, rfl⟩, h5⟩
          · subst p1
            obtain ⟨hs, a, c', news, rfl, hl, hcn, hrn⟩ := news_ok hL hy p3 hnews
            have hfl := flat_len _ _ hsz
            have hrun := run_append_grow (P := P) w t ty e info z hu i1 i4 a0 rows'.length rows'.length xs (by rw [i2]; exact hxl) hxc a rows.length c' news (by rw [hl, i2]) hcn (by omega) (by omega) (growslice_fits (by omega) (by rw [i3]; exact p5))
            have h63 : rows'.length + rows.length ≤ maxLen := by simp only [maxLen]; omega
            have hlen : (xs ++ news).length = (rows'.length + rows.length) * ei.size := by rw [List.length_append, hxl, hl, Nat.add_mul]
            have hge := grownCap_ge w (rows'.length + rows.length) rows'.length e
            have hown' : (w.drew.alloc (.cells (xs.toArray ++ news.toArray ++ Builtin.zeroCells z.cells (grownCap w (rows'.length + rows.length) rows'.length e - (rows'.length + rows.length))) e)).ownsRow base e ei.size (.slice (some ⟨w.heap.size, 0, none⟩) (rows'.length + rows.length) (grownCap w (rows'.length + rows.length) rows'.length e)) (rows'.length + rows.length) (xs ++ news) := by
              refine ⟨hlen, .inr ⟨w.heap.size, _, _, rfl, hbase, heap_alloc_new w.drew _, hge, grownCap_le_maxLen w _ _ e h63, ?_, ?_⟩⟩
              · simp only [Array.size_append, List.size_toArray, size_zeroCells, hzs, hxl, hl, ← Nat.add_mul]
                congr 1
                omega
              · simp only [Array.toList_append, List.append_assoc]
                rw [← List.append_assoc, ← hlen]
                exact List.take_left
            have hgr : ∀ row, w.grownBy (w.drew.alloc (.cells (xs.toArray ++ news.toArray ++ Builtin.zeroCells z.cells (grownCap w (rows'.length + rows.length) rows'.length e - (rows'.length + rows.length))) e)) row := fun row => ⟨rfl, rfl, rfl, by simp, fun k hk _ => Below.heap_alloc w.drew _ k hk⟩
            have hmono : ∀ (φ' : Nat → Option Value), (∀ k u, φ k = some u → φ' k = some u) → ∀ {x : AV} {v : Value}, Rep w φ N x v → Rep (w.drew.alloc (.cells (xs.toArray ++ news.toArray ++ Builtin.zeroCells z.cells (grownCap w (rows'.length + rows.length) rows'.length e - (rows'.length + rows.length))) e)) φ' N x v := by
              intro φ' hφ' x u hx
              exact hx.mono (fun b o v' hb hc' => (World.cell?_of_block (w := w) (a := ⟨b, o, none⟩) ((hgr none).block b (hN b hb) (by intro e'; cases e'))).trans hc') hφ' (fun _ h => h)
            refine ⟨_, _, none, hrun, hgr none, (by intro b hb; cases hb), fun k hk => ⟨⟨_, xs ++ news, upd_same, rfl, by rw [List.length_append]; exact hown', ?_, fun i x hx => ?_, fun b hb => ?_⟩, .own k _ upd_same rfl⟩, .inl ⟨rfl, rfl⟩, .inr rfl⟩
            · intro r hr2
              rcases List.mem_append.1 hr2 with h | h
              · exact hsz r h
              · exact hs r h
            · rw [List.flatten_append, List.getElem?_append] at hx
              rw [List.getD_eq_getElem?_getD, List.getElem?_append, hxl, ← hfl]
              split at hx
              · rename_i hlt
                rw [if_pos hlt]
                have := hmono (upd φ k (Value.slice (some ⟨w.heap.size, 0, none⟩) (rows'.length + rows.length) (grownCap w (rows'.length + rows.length) rows'.length e))) (upd_ext hk) (hxr i x hx)
                rwa [List.getD_eq_getElem?_getD] at this
              · rename_i hlt
                rw [if_neg hlt]
                have := hmono (upd φ k (Value.slice (some ⟨w.heap.size, 0, none⟩) (rows'.length + rows.length) (grownCap w (rows'.length + rows.length) rows'.length e))) (upd_ext hk) (hrn _ x hx)
                rwa [List.getD_eq_getElem?_getD] at this
            · obtain rfl := Option.some.inj hb
              exact fun hn => Nat.lt_irrefl _ (hN _ hn)
      · rename_i l0
        split at h
        · rename_i e' sz' rows' hl
          simp only [Out.grow.injEq] at h
          obtain ⟨rfl, rfl, rfl⟩ := h
          obtain ⟨p1, rfl, rfl, p2, p3, p4, p5, p6⟩ := hp
          cases hx with
          | own _ v hφ h1 =>
            obtain ⟨v', xs, hφ', h1', ho, hs, hr, hNb⟩ := hL _ _ hl
            rw [hφ] at hφ'
            obtain rfl := Option.some.inj hφ'
            obtain ⟨v2, w', h1, h2, h3, h4, h5⟩ := key vx _ xs rows' ho rfl hs hr hNb p1 p2 p3 p4 p5 p6
            obtain ⟨v3, hv3, hv4⟩ := own_slice (hL _ _ hl)
            rw [hφ] at hv3
            obtain rfl := Option.some.inj hv3
            exact ⟨v2, w', _, h1, h2, h3, h4, .inr ⟨l0, _, rfl, ⟨_, hl⟩, hφ, hv4⟩, h5⟩
        · cases h
      · cases h
end

theorem allFree_mem {l : List AV} (h : allFree l = true) : ∀ x ∈ l, x.free = true := by
  induction l with
  | nil => intro x hx; cases hx
  | cons a r ih =>
    rw [allFree, Bool.and_eq_true] at h
    intro x hx
    rcases List.mem_cons.1 hx with rfl | hx
    · exact h.1
    · exact ih h.2 x hx
theorem rowsFree_mem {l : List (List AV)} (h : rowsFree l = true) : ∀ x ∈ l.flatten, x.free = true := by
  induction l with
  | nil => intro x hx; simp at hx
  | cons a r ih =>
    rw [rowsFree, Bool.and_eq_true] at h
    intro x hx
    rw [List.flatten_cons] at hx
    rcases List.mem_append.1 hx with hx | hx
    · exact allFree_mem h.1 x hx
    · exact ih h.2 x hx
theorem allPure_mem {l : List AV} (h : allPure l = true) : ∀ x ∈ l, x.pure = true := by
  induction l with
  | nil => intro x hx; cases hx
  | cons a r ih =>
    rw [allPure, Bool.and_eq_true] at h
    intro x hx
    rcases List.mem_cons.1 hx with rfl | hx
    · exact h.1
    · exact ih h.2 x hx

/-- What has no labels does not hang on them. -/
theorem Rep.free {w : World} {φ φ' : Nat → Option Value} {N : Nat → Prop} {x : AV} {v : Value} (h : Rep w φ N x v) (hf : x.free = true) : Rep w φ' N x v := by
  induction h with
  | any v => exact .any v
  | raw v => exact .raw v
  | agg l vs hl _ ih => exact .agg l vs hl fun i x hx => ih i x hx (allFree_mem (by simpa [AV.free] using hf) x (List.mem_of_getElem? hx))
  | tup l vs hl _ ih => exact .tup l vs hl fun i x hx => ih i x hx (allFree_mem (by simpa [AV.free] using hf) x (List.mem_of_getElem? hx))
  | fn f caps vs hl _ ih => exact .fn f caps vs hl fun i x hx => ih i x hx (allFree_mem (by simpa [AV.free] using hf) x (List.mem_of_getElem? hx))
  | iface t x v _ ih => exact .iface t x v (ih (by simpa [AV.free] using hf))
  | slnil sz => exact .slnil sz
  | slz sz a => exact .slz sz a
  | sl sz rows b o c cell hc hb hsz hc' _ ih => exact .sl sz rows b o c cell hc hb hsz hc' fun i x hx => ih i x hx (rowsFree_mem (by simpa [AV.free] using hf) x (List.mem_of_getElem? hx))
  | box cells off b o cell hb hc' _ ih => exact .box cells off b o cell hb hc' fun i x hx => ih i x hx (allFree_mem (by simpa [AV.free] using hf) x (List.mem_of_getElem? hx))
  | csl sz rows v _ hc ih => exact .csl sz rows v (ih hf) hc
  | _ => simp [AV.free] at hf

/-- What has no memory does not hang on it. -/
theorem Rep.pure {w w' : World} {φ φ' : Nat → Option Value} {N N' : Nat → Prop} {x : AV} {v : Value} (h : Rep w φ N x v) (hf : x.pure = true) : Rep w' φ' N' x v := by
  induction h with
  | raw v => exact .raw v
  | agg l vs hl _ ih => exact .agg l vs hl fun i x hx => ih i x hx (allPure_mem (by simpa [AV.pure] using hf) x (List.mem_of_getElem? hx))
  | tup l vs hl _ ih => exact .tup l vs hl fun i x hx => ih i x hx (allPure_mem (by simpa [AV.pure] using hf) x (List.mem_of_getElem? hx))
  | _ => simp [AV.pure] at hf

/-- Blocks that contents lie in: also those of labels. -/
def NL (N : Nat → Prop) (φ : Nat → Option Value) (lb : Nat → Option LB) : Nat → Prop := fun b => N b ∨ ∃ l v B, lb l = some B ∧ φ l = some v ∧ vblock v = some b

theorem snap_free {w : World} {φ : Nat → Option Value} {N : Nat → Prop} {lb : Nat → Option LB} : ∀ (fuel : Nat) (x : AV) (v : Value), Rep w φ N x v → x.free = true → Rep w (fun _ => none) N (snap lb fuel x) v
  | 0, x, v, _, _ => .any v
  | fuel + 1, x, v, h, hf => by
    have hmap : ∀ (l : List AV) (vs : Array Value), allFree l = true → (∀ i y, l[i]? = some y → Rep w φ N y (vs.getD i undef)) → ∀ i y, (l.map (snap lb fuel))[i]? = some y → Rep w (fun _ => none) N y (vs.getD i undef) := by
      intro l vs hl hr i y hy
      rw [List.getElem?_map] at hy
      cases hc : l[i]? with
      | none => rw [hc] at hy; cases hy
      | some z =>
        rw [hc] at hy
        obtain rfl := Option.some.inj hy
        exact snap_free fuel z _ (hr i z hc) (allFree_mem hl z (List.mem_of_getElem? hc))
    cases h with
    | agg l vs hl hr =>
      simp only [snap]
      exact .agg _ vs (by simpa using hl) (hmap l vs (by simpa [AV.free] using hf) hr)
    | tup l vs hl hr =>
      simp only [snap]
      exact .tup _ vs (by simpa using hl) (hmap l vs (by simpa [AV.free] using hf) hr)
    | fn f caps vs hl hr =>
      simp only [snap]
      exact .fn f _ vs (by simpa using hl) (hmap caps vs (by simpa [AV.free] using hf) hr)
    | raw v =>
      show Rep w _ N (if (AV.raw v).free = true then .raw v else .any) v
      rw [if_pos hf]
      exact .raw v
    | any v =>
      show Rep w _ N (if AV.any.free = true then .any else .any) v
      rw [if_pos hf]
      exact .any v
    | slnil sz =>
      show Rep w _ N (if (AV.sl sz []).free = true then .sl sz [] else .any) _
      rw [if_pos hf]
      exact .slnil sz
    | slz sz a =>
      show Rep w _ N (if (AV.sl sz []).free = true then .sl sz [] else .any) _
      rw [if_pos hf]
      exact .slz sz a
    | sl sz rows b o c cell hc hN hsz hw hr =>
      show Rep w _ N (if (AV.sl sz rows).free = true then .sl sz rows else .any) _
      rw [if_pos hf]
      exact (Rep.sl sz rows b o c cell hc hN hsz hw hr).free hf
    | box cells off b o cell hN hw hr =>
      show Rep w _ N (if (AV.box cells off).free = true then .box cells off else .any) _
      rw [if_pos hf]
      exact (Rep.box cells off b o cell hN hw hr).free hf
    | iface t x v hx =>
      show Rep w _ N (if (AV.iface t x).free = true then .iface t x else .any) _
      rw [if_pos hf]
      exact (Rep.iface t x v hx).free hf
    | csl sz rows v hx hc =>
      show Rep w _ N (if (AV.csl sz rows).free = true then .csl sz rows else .any) _
      rw [if_pos hf]
      exact (Rep.csl sz rows v hx hc).free hf
    | _ => simp [AV.free] at hf

section
variable {w : World} {φ : Nat → Option Value} {N : Nat → Prop} {base : Nat} {lb : Nat → Option LB}
theorem snap_ok (hL : ∀ l B, lb l = some B → Holds w φ N base l B) : ∀ (fuel : Nat) (x : AV) (v : Value), Rep w φ N x v → Rep w (fun _ => none) (NL N φ lb) (snap lb fuel x) v
  | 0, x, v, _ => .any v
  | fuel + 1, x, v, h => by
    have hmono : ∀ {x : AV} {v : Value}, Rep w φ N x v → x.free = true → Rep w (fun _ => none) (NL N φ lb) x v := fun h hf => ((h.mono (φ' := φ) (N' := NL N φ lb) (fun _ _ _ _ hc => hc) (fun _ _ h => h) (fun _ h => .inl h))).free hf
    have hdef : ∀ {x : AV} {v : Value}, Rep w φ N x v → Rep w (fun _ => none) (NL N φ lb) (if x.free = true then x else .any) v := by
      intro x v h
      split
      · rename_i hf; exact hmono h hf
      · exact .any v
    cases h with
    | loc l off b hφ =>
      simp only [snap]
      split
      · rename_i cells hl
        obtain ⟨b', ty, cs, hφ', hg, hs, hr, hb, hNb⟩ := hL _ _ hl
        rw [hφ] at hφ'
        simp only [Option.some.injEq, Value.pointer.injEq, Addr.mk.injEq, and_true] at hφ'
        subst hφ'
        have := Rep.box (w := w) (φ := fun _ => none) (N := NL N φ lb) (cells.map (snap lb fuel)) off b 0 (fun k => cs.getD k undef) (.inr ⟨l, _, _, hl, hφ, rfl⟩) (fun k hk => by
          simp at hk
          have hk' : k < cs.size := by omega
          simp [World.cell?, hg, Array.getD, hk']) (fun k x hx => by
          rw [List.getElem?_map] at hx
          cases hc : cells[k]? with
          | none => rw [hc] at hx; cases hx
          | some y =>
            rw [hc] at hx
            obtain rfl := Option.some.inj hx
            exact snap_ok hL fuel y _ (hr k y hc))
        simpa using this
      · exact .any _
    | own l v hφ h1 =>
      simp only [snap]
      split
      · rename_i e sz rows hl
        split
        · rename_i hf
          obtain ⟨v', xs, hφ', h1', ho, hs, hr, hNb⟩ := hL _ _ hl
          rw [hφ] at hφ'
          obtain rfl := Option.some.inj hφ'
          have hfl := flat_len _ _ hs
          rcases ho.2 with ⟨rfl, hz⟩ | ⟨g, cap, cur, rfl, hb, hg, hnc, hcm, hcs, htake⟩
          · obtain rfl : rows = [] := List.eq_nil_of_length_eq_zero hz
            exact .slnil sz
          · refine .sl sz rows g 0 cap (fun k => xs.getD k undef) hnc (.inr ⟨l, _, _, hl, hφ, rfl⟩) hs (fun k hk => ?_) (fun k x hx => ?_)
            · have hkl : k < xs.length := by rw [ho.1]; omega
              have := ho.cells (g := g) rfl k _ (List.getElem?_eq_getElem hkl)
              rw [addr_add] at this
              rw [this, List.getD_eq_getElem?_getD, List.getElem?_eq_getElem hkl]
              rfl
            · exact hmono (hr k x hx) (rowsFree_mem hf x (List.mem_of_getElem? hx))
        · exact .any _
      · exact .any _
    | lsl l off n sz b c hφ hc =>
      simp only [snap]
      split
      · rename_i cells hl
        split
        · rename_i hf
          simp only [Bool.and_eq_true] at hf
          obtain ⟨hf1, hf2⟩ := hf
          have hf1 := Nat.le_of_ble_eq_true hf1
          obtain ⟨b', ty, cs, hφ', hg, hs, hr, hb, hNb⟩ := hL _ _ hl
          rw [hφ] at hφ'
          simp only [Option.some.injEq, Value.pointer.injEq, Addr.mk.injEq, and_true] at hφ'
          subst hφ'
          obtain ⟨c1, c2, c3⟩ := cutRows_ok sz n (cells.drop off) (by simp; omega)
          have hfl := flat_len _ _ c2
          have := Rep.sl (w := w) (φ := fun _ => none) (N := NL N φ lb) sz (cutRows sz n (cells.drop off)) b off c (fun k => cs.getD (off + k) undef) (by omega) (.inr ⟨l, _, _, hl, hφ, rfl⟩) c2 (fun k hk => by
            have hk' : off + k < cs.size := by rw [hfl, c1] at hk; omega
            simp [World.cell?, hg, Array.getD, hk']) (fun k x hx => by
            rw [c3, List.getElem?_take] at hx
            split at hx
            · rw [List.getElem?_drop] at hx
              exact hmono (hr _ x hx) (allFree_mem hf2 x (List.mem_of_getElem? hx))
            · cases hx)
          rw [c1] at this
          exact this
        · exact .any _
      · exact .any _
    | osl l off n sz b m c' c hφ hc hc' =>
      simp only [snap]
      split
      · rename_i e sz' rows hl
        split
        · rename_i hf
          simp only [Bool.and_eq_true] at hf
          obtain ⟨hf0, hf1, hf2⟩ := hf
          obtain rfl := Nat.eq_of_beq_eq_true hf0
          have hf1 := Nat.le_of_ble_eq_true hf1
          obtain ⟨v', xs, hφ', h1', ho, hs, hr, hNb⟩ := hL _ _ hl
          rw [hφ] at hφ'
          obtain rfl := Option.some.inj hφ'
          have hfl := flat_len _ _ hs
          have hs' : ∀ r ∈ (rows.drop off).take n, r.length = sz' := fun r hr => hs r (List.mem_of_mem_drop (List.mem_of_mem_take hr))
          have hfl' := flat_len _ _ hs'
          have hlen : ((rows.drop off).take n).length = n := by simp; omega
          have hflat : ((rows.drop off).take n).flatten = (rows.flatten.drop (off * sz')).take (n * sz') := by
            rw [flatten_take sz' n (rows.drop off) (fun r hr => hs r (List.mem_of_mem_drop hr)) (by simp; omega), flatten_drop sz' off rows hs (by omega)]
          have := Rep.sl (w := w) (φ := fun _ => none) (N := NL N φ lb) sz' ((rows.drop off).take n) b (off * sz') c (fun k => xs.getD (off * sz' + k) undef) (by omega) (.inr ⟨l, _, _, hl, hφ, rfl⟩) hs' (fun k hk => ?_) (fun k x hx => ?_)
          · rw [hlen] at this
            exact this
          · have h2 : (off + n) * sz' ≤ rows.length * sz' := Nat.mul_le_mul_right _ hf1
            rw [Nat.add_mul] at h2
            rw [hfl', hlen] at hk
            have hkl : off * sz' + k < xs.length := by rw [ho.1]; rcases ho.2 with ⟨h, _⟩ | ⟨g, cap, cur, h, _⟩ <;> simp at h; omega
            rcases ho.2 with ⟨h, _⟩ | ⟨g, cap, cur, h, rest⟩
            · cases h
            · simp only [Value.slice.injEq, Option.some.injEq, Addr.mk.injEq, and_true] at h
              obtain ⟨rfl, rfl, rfl⟩ := h
              have := ho.cells (g := b) rfl (off * sz' + k) _ (List.getElem?_eq_getElem hkl)
              rw [addr_add, Nat.zero_add] at this
              rw [this, List.getD_eq_getElem?_getD, List.getElem?_eq_getElem hkl]
              rfl
          · rw [hflat, List.getElem?_take] at hx
            split at hx
            · rw [List.getElem?_drop] at hx
              refine hmono (hr _ x hx) (rowsFree_mem hf2 x ?_)
              rw [hflat]
              refine List.mem_of_getElem? (i := k) ?_
              rw [List.getElem?_take, if_pos (by assumption), List.getElem?_drop]
              exact hx
            · cases hx
        · exact .any _
      · exact .any _
    | fn f caps vs hl hr =>
      simp only [snap]
      refine .fn f _ vs (by simpa using hl) fun i x hx => ?_
      rw [List.getElem?_map] at hx
      cases hc : caps[i]? with
      | none => rw [hc] at hx; cases hx
      | some y =>
        rw [hc] at hx
        obtain rfl := Option.some.inj hx
        exact snap_ok hL fuel y _ (hr i y hc)
    | agg l' vs hl hr =>
      simp only [snap]
      refine .agg _ vs (by simpa using hl) fun i x hx => ?_
      rw [List.getElem?_map] at hx
      cases hc : l'[i]? with
      | none => rw [hc] at hx; cases hx
      | some y =>
        rw [hc] at hx
        obtain rfl := Option.some.inj hx
        exact snap_ok hL fuel y _ (hr i y hc)
    | tup l' vs hl hr =>
      simp only [snap]
      refine .tup _ vs (by simpa using hl) fun i x hx => ?_
      rw [List.getElem?_map] at hx
      cases hc : l'[i]? with
      | none => rw [hc] at hx; cases hx
      | some y =>
        rw [hc] at hx
        obtain rfl := Option.some.inj hx
        exact snap_ok hL fuel y _ (hr i y hc)
    | raw v => exact hdef (.raw v)
    | slnil sz => exact hdef (.slnil sz)
    | slz sz a => exact hdef (.slz sz a)
    | any v => exact hdef (.any v)
    | _ => exact hdef (by constructor <;> assumption)
end
end Go.Proofs.YtnnjjblgilibgaaGreatV
/- What the evaluator says of the model: an operation. -/
namespace Go.Proofs.YtnnjjblgilibgaaGreatV
open Go Go.RowKit
set_option linter.unusedVariables false
set_option linter.unusedSimpArgs false

/-! What an operation may come to, by its form. -/
def Out.kind : Out → Nat
  | .val _ _ => 0
  | .bad => 0
  | .new _ _ _ => 1
  | .put _ _ _ => 2
  | .grow _ _ _ => 3
  | .call _ _ _ _ => 4
def opKind : Op → Nat
  | .alloc _ => 1
  | .box _ _ => 1
  | .buildSlice _ _ _ => 1
  | .makeSlice _ _ _ => 1
  | .store _ _ _ => 2
  | .call c => match c.callee with
    | .builtin _ => 3
    | _ => 4
  | _ => 0
section
variable {tt : TypeId → Option TI} {lb : Nat → Option LB}
theorem k_abin {b te ts op x y} : (abin b te ts op x y).kind = 0 := by
  unfold abin
  split
  · unfold aints
    split
    · rfl
    · rfl
    · split
      · unfold aint; split <;> rfl
      · rfl
  · unfold abools
    repeat' split
    all_goals rfl
  · unfold aaggs
    split
    · unfold aeqs
      split <;> rfl
    · rfl
  · unfold anil
    repeat' split
    all_goals rfl
  · rfl
theorem k_aun {op x} : (aun op x).kind = 0 := by unfold aun; split <;> rfl
theorem k_piece {ts l o} : (pieceOf ts l o).kind = 0 := by unfold pieceOf; split <;> rfl
theorem k_load {t a} : (aload tt lb t a).kind = 0 := by
  unfold aload
  repeat' split
  all_goals first | rfl | exact k_piece
theorem k_store {t a x} : (astore tt lb t a x).kind = 0 ∨ (astore tt lb t a x).kind = 2 := by
  unfold astore
  repeat' split
  all_goals first | (left; rfl) | (right; rfl)
theorem k_fieldAddr {t a x} : (afieldAddr tt t a x).kind = 0 := by
  unfold afieldAddr
  repeat' split
  all_goals rfl
theorem k_field {t a x} : (afield tt t a x).kind = 0 := by
  unfold afield
  repeat' split
  all_goals first | rfl | exact k_piece
theorem k_index {t a x} : (aindex tt t a x).kind = 0 := by
  unfold aindex
  repeat' split
  all_goals rfl
theorem k_indexAddr {t a x} : (aindexAddr tt lb t a x).kind = 0 := by
  unfold aindexAddr
  repeat' split
  all_goals rfl
theorem k_build {t a} : (abuild tt t a).kind = 0 := by
  unfold abuild
  repeat' split
  all_goals rfl
theorem k_buildSlice {t a l} : (abuildSlice tt t a l).kind = 0 ∨ (abuildSlice tt t a l).kind = 1 := by
  unfold abuildSlice
  repeat' split
  all_goals first | (left; rfl) | (right; rfl)
theorem k_makeSlice {t a l} : (amakeSlice tt t a l).kind = 0 ∨ (amakeSlice tt t a l).kind = 1 := by
  unfold amakeSlice
  repeat' split
  all_goals first | (left; rfl) | (right; rfl)
theorem k_apart {l off n sz ei lo hi mx} : (apart l off n sz ei lo hi mx).kind = 0 := by
  unfold apart
  repeat' split
  all_goals rfl
theorem k_slice {t a l h m} : (aslice tt lb t a l h m).kind = 0 := by
  unfold aslice
  repeat' split
  all_goals first | rfl | exact k_apart
theorem k_ext {a i} : (aext a i).kind = 0 := by
  unfold aext
  repeat' split
  all_goals rfl
theorem k_len {a} : (alen lb a).kind = 0 := by
  unfold alen
  repeat' split
  all_goals rfl
theorem k_minmaxGo {b k} : ∀ (l : List AV) (a : Int), (minmaxGo b k a l).kind = 0
  | [], _ => rfl
  | x :: r, a => by
    unfold minmaxGo
    split
    · rfl
    · rename_i heq
      obtain ⟨rfl, rfl⟩ := List.cons.inj heq
      exact k_minmaxGo _ _
    · rfl
theorem k_minmax {b l} : (aminmax b l).kind = 0 := by
  unfold aminmax
  split
  · exact k_minmaxGo _ _
  · rfl
theorem k_append {t a l} : (aappend tt lb t a l).kind = 0 ∨ (aappend tt lb t a l).kind = 3 := by
  unfold aappend
  repeat' split
  all_goals first | (left; rfl) | (right; rfl)
theorem aop_kind {ev : Operand → AV} {op : Op} : (aop tt lb ev op).kind = 0 ∨ (aop tt lb ev op).kind = opKind op := by
  unfold aop
  split
  all_goals first
    | (left; rfl)
    | (right; rfl)
    | (left; first | exact k_abin | exact k_aun | exact k_load | exact k_fieldAddr | exact k_field | exact k_index | exact k_indexAddr | exact k_build | exact k_slice | exact k_ext)
    | exact k_store
    | exact k_buildSlice
    | exact k_makeSlice
    | (repeat' split
       all_goals first | (left; rfl) | (right; rfl))
    | skip
  rename_i c
  obtain ⟨cal, args, ats⟩ := c
  simp only
  split
  · repeat' split
    all_goals first | (left; exact k_len) | (left; rfl)
  · left; exact k_minmax
  · left; exact k_minmax
  · repeat' split
    all_goals first | exact k_append | (left; rfl)
  · split
    · right; rfl
    · left; rfl
  · split
    · split
      · right; rfl
      · left; rfl
    · left; rfl
  · left; rfl
end

section
variable {P : Program} {tt : TypeId → Option TI} (hT : TOk P tt) {w : World} {φ : Nat → Option Value} {N : Nat → Prop} {base : Nat} {lb : Nat → Option LB} {ev : Operand → AV} {ρ : Operand → Value}
variable (hE : ∀ x, Rep w φ N (ev x) (ρ x)) (hL : ∀ l B, lb l = some B → Holds w φ N base l B)
include hE

theorem parts_rep (parts : Array (Nat × Operand)) : (parts.toList.map fun (i, x) => (i, ev x)).length = (parts.map fun (i, x) => (i, ρ x)).toList.length ∧
    ∀ (j : Nat) q, (parts.toList.map fun (i, x) => (i, ev x))[j]? = some q → ∃ v, (parts.map fun (i, x) => (i, ρ x)).toList[j]? = some (q.1, v) ∧ Rep w φ N q.2 v := by
  refine ⟨by simp, fun j q hq => ?_⟩
  rw [List.getElem?_map] at hq
  cases hp : parts.toList[j]? with
  | none => rw [hp] at hq; cases hq
  | some r =>
    rw [hp] at hq
    obtain rfl := Option.some.inj hq
    refine ⟨ρ r.2, ?_, hE _⟩
    rw [Array.toList_map, List.getElem?_map, hp]
    rfl

theorem args_rep (args : List Operand) : (args.map ev).length = (args.map ρ).length ∧ ∀ (i : Nat) y, (args.map ev)[i]? = some y → Rep w φ N y ((args.map ρ).getD i undef) := by
  refine ⟨by simp, fun i y hy => ?_⟩
  rw [List.getElem?_map] at hy
  cases hp : args[i]? with
  | none => rw [hp] at hy; cases hy
  | some r =>
    rw [hp] at hy
    obtain rfl := Option.some.inj hy
    rw [List.getD_eq_getElem?_getD, List.getElem?_map, hp]
    exact hE _

theorem opt_rep (o : Option Operand) : (∀ y, o.map ev = some y → ∃ v, o.map ρ = some v ∧ Rep w φ N y v) ∧ (o.map ev = none → o.map ρ = none) := by
  cases o with
  | none => simp
  | some x => exact ⟨fun y hy => ⟨_, rfl, by obtain rfl := Option.some.inj hy; exact hE x⟩, fun h => by cases h⟩

include hT hL
theorem run_val {op : Op} {p : Prop} {x : AV} (h : aop tt lb ev op = .val p x) (hp : p) {d : Option Tmp} {ty : TypeId} {po : String} {af : Array Edge} {g : Option (Nat × Bool)} :
    ∃ v, (execOp ρ ⟨d, op, ty, po, af, g⟩).run P w = .ok (.value v) w ∧ Rep w φ N x v := by
  unfold aop at h
  split at h
  · -- move
    simp only [Out.val.injEq] at h
    obtain ⟨rfl, rfl⟩ := h
    exact ⟨_, by simp [execOp], hE _⟩
  · simp only [Out.val.injEq] at h
    obtain ⟨rfl, rfl⟩ := h
    exact ⟨_, by simp [execOp], hE _⟩
  · -- pick
    rename_i c a b
    split at h
    · rename_i t hc
      have hcv := hE c
      rw [hc] at hcv
      have e := hcv.of_raw
      have ha := hE a
      have hb := hE b
      split at h
      · rename_i q r h1 h2
        simp only [Out.val.injEq] at h
        obtain ⟨rfl, rfl⟩ := h
        rw [h1] at ha
        rw [h2] at hb
        have e1 := ha.of_raw
        have e2 := hb.of_raw
        refine ⟨if t = true then ρ a else ρ b, by simp [execOp, e, asBool], ?_⟩
        cases t
        · simpa [e2] using Rep.raw (Value.bool r)
        · simpa [e1] using Rep.raw (Value.bool q)
      · simp only [Out.val.injEq] at h
        obtain ⟨rfl, rfl⟩ := h
        refine ⟨if t = true then ρ a else ρ b, by simp [execOp, e, asBool], ?_⟩
        cases t
        · exact hb
        · exact ha
    · cases h
  · -- binOp
    rename_i op' t' x' y' yt
    obtain ⟨v, h1, h2⟩ := abin_ok (X := x') (Y := y') (w := w) hT h hp (hE _) (hE _)
    refine ⟨v, ?_, h2⟩
    show ((do eqGuard op' t' x' y' (ρ x') (ρ y'); binOp op' t' (ρ x') (ρ y') : Sem Value) >>= fun v => Pure.pure (Next.value v)).run P w = _
    rw [Sem.run_bind, h1]
    rfl
  · obtain ⟨v, h1, h2⟩ := aun_ok (P := P) (w := w) h hp (hE _)
    exact ⟨v, by simp [execOp, h1], h2⟩
  · -- convert
    rename_i src dst x'
    split at h
    · rename_i k k0 k' n h1 h2 h3
      simp only [Out.val.injEq] at h
      obtain ⟨rfl, rfl⟩ := h
      have hx := hE x'
      rw [h3] at hx
      have e := hx.of_raw
      exact ⟨_, by simp [execOp, e, aconv_ok hT h1 h2], .raw _⟩
    · cases h
  · split at h <;> cases h
  · cases h
  · -- build
    rename_i t parts
    obtain ⟨g1, g2⟩ := parts_rep hE parts
    obtain ⟨v, h1, h2⟩ := abuild_ok hT h hp g1 g2
    exact ⟨v, by simp [execOp, h1], h2⟩
  · unfold abuildSlice at h
    split at h
    · split at h <;> cases h
    · cases h
  · obtain ⟨v, h1, h2⟩ := aload_ok hT hL h hp (hE _)
    exact ⟨v, by simp [execOp, h1], h2⟩
  · unfold astore at h
    split at h
    · cases h
    · split at h
      · split at h <;> cases h
      · split at h
        · split at h <;> cases h
        · cases h
      · cases h
  · -- nilCheck
    rename_i x'
    have hx := hE x'
    obtain ⟨u, hu⟩ : ∃ u, ρ x' = u := ⟨_, rfl⟩
    rw [hu] at hx
    split at h <;> first
      | (cases h; done)
      | (rename_i hh
         rw [hh] at hx
         simp only [Out.val.injEq] at h
         obtain ⟨rfl, rfl⟩ := h
         refine ⟨u, ?_, hx⟩
         cases hx <;> simp [execOp, hu])
  · obtain ⟨v, h1, h2⟩ := afieldAddr_ok hT h hp (hE _)
    exact ⟨v, by simp [execOp, h1], h2⟩
  · obtain ⟨v, h1, h2⟩ := afield_ok hT h hp (hE _)
    exact ⟨v, by simp [execOp, h1], h2⟩
  · obtain ⟨v, h1, h2⟩ := aindexAddr_ok hT hL h hp (hE _) (hE _)
    exact ⟨v, by simp [execOp, h1], h2⟩
  · obtain ⟨v, h1, h2⟩ := aindex_ok hT h hp (hE _) (hE _)
    exact ⟨v, by simp [execOp, h1], h2⟩
  · rename_i t x' lo hi mx
    obtain ⟨a1, a2⟩ := opt_rep hE lo
    obtain ⟨b1, b2⟩ := opt_rep hE hi
    obtain ⟨c1, c2⟩ := opt_rep hE mx
    obtain ⟨v, h1, h2⟩ := aslice_ok hT hL h hp (hE _) a1 b1 c1 c2 a2 b2
    exact ⟨v, by simp [execOp, h1], h2⟩
  · unfold amakeSlice at h
    split at h <;> cases h
  · -- makeFunc
    rename_i f first caps
    split at h
    · rename_i hf
      simp only [Out.val.injEq] at h
      obtain ⟨rfl, rfl⟩ := h
      obtain ⟨g1, g2⟩ := args_rep hE caps.toList
      refine ⟨.func (.func f) #[] (caps.map ρ), ?_, .fn f _ _ (by simp) fun i x hx => ?_⟩
      · have : first = #[] := Array.eq_empty_of_size_eq_zero hf
        subst this
        simp [execOp, Instr.makeFunc]
      · have := g2 i x hx
        simpa [Array.getD_eq_getD_getElem?, List.getD_eq_getElem?_getD] using this
    · cases h
  · obtain ⟨v, h1, h2⟩ := aext_ok (P := P) (w := w) h hp (hE _)
    exact ⟨v, by simp [execOp, h1], h2⟩
  · -- call
    rename_i c
    obtain ⟨cal, args, ats⟩ := c
    simp only at h
    split at h
    · split at h
      · rename_i x' ha
        split at h
        · rename_i t hat
          split at h
          · rename_i q hq
            obtain ⟨e, ei⟩ := q
            obtain ⟨v, h1, h2⟩ := alen_ok (w := w) hT hL (ty := ty) hq h hp (hE x')
            have e1 : args = #[x'] := by simpa using congrArg List.toArray ha
            have e2 : ats = #[t] := by simpa using congrArg List.toArray hat
            subst e1 e2
            exact ⟨v, by simp [execOp, resolve, invoke, builtin, h1], h2⟩
          · cases h
        · cases h
      · cases h
    · obtain ⟨g1, g2⟩ := args_rep hE args.toList
      obtain ⟨v, h1, h2⟩ := aminmax_ok (P := P) (isMin := true) (ts := ats) (t := ty) h g1 g2
      refine ⟨v, ?_, h2⟩
      have e : args.map ρ = (args.toList.map ρ).toArray := by rw [← Array.toList_map, Array.toArray_toList]
      have h1 : (Builtin.min_ ats ty (args.toList.map ρ).toArray).run P w = .ok v w := h1
      simp [execOp, resolve, invoke, builtin]
      rw [e, h1]
      rfl
    · obtain ⟨g1, g2⟩ := args_rep hE args.toList
      obtain ⟨v, h1, h2⟩ := aminmax_ok (P := P) (isMin := false) (ts := ats) (t := ty) h g1 g2
      refine ⟨v, ?_, h2⟩
      have e : args.map ρ = (args.toList.map ρ).toArray := by rw [← Array.toList_map, Array.toArray_toList]
      have h1 : (Builtin.max_ ats ty (args.toList.map ρ).toArray).run P w = .ok v w := h1
      simp [execOp, resolve, invoke, builtin]
      rw [e, h1]
      rfl
    · split at h
      · split at h
        · unfold aappend at h
          split at h
          · cases h
          · split at h
            · cases h
            · split at h
              · cases h
              · cases h
              · split at h <;> cases h
              · cases h
        · cases h
      · cases h
    · split at h <;> cases h
    · repeat' split at h
      all_goals cases h
    · cases h
  · cases h

omit hL in
theorem run_new {op : Op} {p : Prop} {B : LB} {f : Nat → AV} (hN : ∀ b, N b → b < w.heap.size) (hb : base ≤ w.heap.size) (h : aop tt lb ev op = .new p B f) (hp : p) {d : Option Tmp} {ty : TypeId} {po : String} {af : Array Edge} {g : Option (Nat × Bool)} :
    ∃ v o', (execOp ρ ⟨d, op, ty, po, af, g⟩).run P w = .ok (.value v) (w.alloc o') ∧ Made w φ N base B f v o' := by
  have hk := aop_kind (tt := tt) (lb := lb) (ev := ev) (op := op)
  rw [h] at hk
  have hk : opKind op = 1 := by
    rcases hk with hk | hk
    · cases hk
    · exact hk.symm
  cases op with
  | alloc e =>
    simp only [aop] at h
    split at h
    · rename_i z hz
      simp only [Out.new.injEq] at h
      obtain ⟨rfl, rfl, rfl⟩ := h
      obtain ⟨v, o', h1, h2⟩ := alloc_ok (w := w) (φ := φ) (N := N) hT hN hb hz
      exact ⟨v, o', by simp [execOp, h1], h2⟩
    · cases h
  | box e x =>
    simp only [aop, Out.new.injEq] at h
    obtain ⟨rfl, rfl, rfl⟩ := h
    obtain ⟨v, o', h1, h2⟩ := box_ok (P := P) (e := e) hN hb (hE x) hp
    exact ⟨v, o', by simp [execOp, h1], h2⟩
  | buildSlice t len parts =>
    obtain ⟨g1, g2⟩ := parts_rep hE parts
    obtain ⟨v, o', h1, h2⟩ := buildSlice_ok hT hN hb h hp g1 g2
    exact ⟨v, o', by simp [execOp, h1], h2⟩
  | makeSlice t l c =>
    obtain ⟨v, o', h1, h2⟩ := makeSlice_ok hT hN hb h hp (hE l) (hE c)
    exact ⟨v, o', by simp [execOp, h1], h2⟩
  | call c =>
    simp only [opKind] at hk
    split at hk <;> cases hk
  | _ => cases hk

/-- The label that is written, and its block. -/
theorem run_put {op : Op} {p : Prop} {l : Nat} {B : LB} (hN : ∀ b, N b → b < w.heap.size) (h : aop tt lb ev op = .put p l B) (hp : p) {d : Option Tmp} {ty : TypeId} {po : String} {af : Array Edge} {g : Option (Nat × Bool)} :
    ∃ w' b v, (execOp ρ ⟨d, op, ty, po, af, g⟩).run P w = .ok .skip w' ∧ φ l = some v ∧ vblock v = some b ∧ base ≤ b ∧ b < w.heap.size ∧ ¬ N b ∧ Turned w w' b ∧ Holds w' φ N base l B ∧ ∃ B0, lb l = some B0 := by
  have hk := aop_kind (tt := tt) (lb := lb) (ev := ev) (op := op)
  rw [h] at hk
  have hk : opKind op = 2 := by
    rcases hk with hk | hk
    · cases hk
    · exact hk.symm
  cases op with
  | store t a x =>
    obtain ⟨w', b, v, h1, h2⟩ := astore_ok hT hL hN h hp (hE a) (hE x)
    exact ⟨w', b, v, by simp [execOp, h1], h2⟩
  | call c =>
    simp only [opKind] at hk
    split at hk <;> cases hk
  | _ => cases hk

theorem run_grow {op : Op} {p : Prop} {l : Option Nat} {B : LB} (hN : ∀ b, N b → b < w.heap.size) (hb : base ≤ w.heap.size) (h : aop tt lb ev op = .grow p l B) (hp : p) {d : Option Tmp} {ty : TypeId} {po : String} {af : Array Edge} {g : Option (Nat × Bool)} :
    ∃ v' w' row, (execOp ρ ⟨d, op, ty, po, af, g⟩).run P w = .ok (.value v') w' ∧ w.grownBy w' row ∧ (∀ b, row = some b → base ≤ b ∧ b < w.heap.size ∧ ¬ N b) ∧ (∀ k, φ k = none → Holds w' (upd φ k v') N base k B ∧ Rep w' (upd φ k v') N (.own k) v') ∧
      ((l = none ∧ row = none) ∨ ∃ l0 v0, l = some l0 ∧ (∃ B0, lb l0 = some B0) ∧ φ l0 = some v0 ∧ vblock v0 = row) ∧ (vblock v' = row ∨ vblock v' = some w.heap.size) := by
  have hk := aop_kind (tt := tt) (lb := lb) (ev := ev) (op := op)
  rw [h] at hk
  have hk : opKind op = 3 := by
    rcases hk with hk | hk
    · cases hk
    · exact hk.symm
  cases op with
  | call c =>
    obtain ⟨cal, args, ats⟩ := c
    simp only [aop] at h
    split at h
    · have hk := congrArg Out.kind h
      split at hk
      · split at hk
        · split at hk
          · rw [k_len] at hk; cases hk
          · cases hk
        · cases hk
      · cases hk
    · have hk := congrArg Out.kind h
      rw [k_minmax] at hk
      cases hk
    · have hk := congrArg Out.kind h
      rw [k_minmax] at hk
      cases hk
    · split at h
      · rename_i x y t t' ha hat
        split at h
        · rename_i htt
          subst htt
          have e1 : args = #[x, y] := by simpa using congrArg List.toArray ha
          have e2 : ats = #[t, t] := by simpa using congrArg List.toArray hat
          subst e1 e2
          obtain ⟨v', w', row, h1, h2⟩ := aappend_ok (ty := ty) hT hL hN hb h hp (hE x) (hE y)
          exact ⟨v', w', row, by simp [execOp, resolve, invoke, builtin, h1], h2⟩
        · cases h
      · cases h
    · split at h <;> cases h
    · repeat' split at h
      all_goals cases h
    · cases h
  | _ => cases hk

omit hE hL in
theorem tMeth_ok {t : TypeId} {m : String} {F : FuncId} (h : tMeth tt t m = some F) : MethT P t m F := by
  unfold tMeth at h
  cases hi : tt t with
  | none => rw [hi] at h; cases h
  | some i =>
    rw [hi] at h
    simp only [Option.map_eq_some_iff] at h
    obtain ⟨p, hp, rfl⟩ := h
    obtain ⟨_, info, z, _, _, _, _, _, _, _, _, _, _, hm⟩ := hT t i hi
    have h1 := hm p (List.mem_of_find?_eq_some hp)
    have h2 := List.find?_some hp
    have h2 : p.1 = m := by simpa using h2
    rw [← h2]
    exact h1
omit hT hE hL in
theorem run_method {t : TypeId} {m : String} {F : FuncId} (h : MethT P t m F) (v : Value) (n : Nat) : (method (n + 1) t v m).run P w = .ok (F, v) w := by
  obtain ⟨hp, info, row, h1, h2, h3, h4⟩ := h
  obtain ⟨nm, sg, pa, fu⟩ := row
  simp only at h3 h4
  subst h3 h4
  obtain ⟨d, hu, hp⟩ := hp
  cases d with
  | pointer e => exact (hp e rfl).elim
  | _ => simp [method, typeInfo, h1, h2, follow, receiverAt, run_underlying hu, Place.get]
omit hT hE hL in
theorem run_invoke {t : TypeId} {m : String} {F : FuncId} (h : MethT P t m F) (hF : Fine P F) (v : Value) (l : List Value) : (invoke (.fn (.method m) #[]) (Value.iface t v :: l).toArray).run P w = .ok (.enter F (v :: l).toArray) w := by
  have hrun := run_method (w := w) h v (P.types.size + Made.depth - 1)
  have e0 : P.types.size + Made.depth - 1 + 1 = P.types.size + Made.depth := by
    have : 0 < Made.depth := by decide
    omega
  rw [e0] at hrun
  have e3 : ((Value.iface t v :: l).toArray).extract 1 ((Value.iface t v :: l).toArray).size = l.toArray := by
    apply Array.ext'
    simp
  have e4 : (program).run P w = .ok P w := rfl
  have e7 : #[v] ++ l.toArray = (v :: l).toArray := by simp
  unfold invoke
  simp only [e3, List.getElem?_toArray, List.getElem?_cons_zero, callMethod, Sem.run_bind, e4, Result.andThen_ok, hrun, e7]
  exact hF _ w
theorem run_call {op : Op} {F : FuncId} {args : List AV} {fr : Bool} {raw : List AV} (h : aop tt lb ev op = .call F args fr raw) (hF : Fine P F) {d : Option Tmp} {ty : TypeId} {po : String} {af : Array Edge} {g : Option (Nat × Bool)} :
    ∃ vs : List Value, (execOp ρ ⟨d, op, ty, po, af, g⟩).run P w = .ok (.enter F vs.toArray) w ∧ vs.length = args.length ∧ (∀ i x, args[i]? = some x → Rep w (fun _ => none) (NL N φ lb) x (vs.getD i undef)) ∧ (fr = true → ∀ i x, args[i]? = some x → Rep w (fun _ => none) N x (vs.getD i undef)) ∧ vs.length = raw.length ∧ ∀ i x, raw[i]? = some x → Rep w φ N x (vs.getD i undef) := by
  have hk := aop_kind (tt := tt) (lb := lb) (ev := ev) (op := op)
  rw [h] at hk
  have hk : opKind op = 4 := by
    rcases hk with hk | hk
    · cases hk
    · exact hk.symm
  cases op with
  | call c =>
    obtain ⟨cal, as, ats⟩ := c
    simp only [aop] at h
    split at h
    · cases hk
    · cases hk
    · cases hk
    · cases hk
    · rename_i f _
      split at h
      · rename_i F' caps hf
        simp only [Out.call.injEq] at h
        obtain ⟨rfl, rfl, rfl, rfl⟩ := h
        have hfv := hE f
        rw [hf] at hfv
        obtain ⟨u, hu⟩ : ∃ u, ρ f = u := ⟨_, rfl⟩
        rw [hu] at hfv
        cases hfv with
        | fn _ _ vs hl hr =>
          have key : ∀ (N' : Nat → Prop), (∀ x ∈ as.toList, Rep w (fun _ => none) N' (snap lb 6 (ev x)) (ρ x)) → (∀ i r, caps[i]? = some r → Rep w (fun _ => none) N' (snap lb 6 r) (vs.getD i undef)) → ∀ i x, (as.toList.map (fun x => snap lb 6 (ev x)) ++ caps.map (snap lb 6))[i]? = some x → Rep w (fun _ => none) N' x ((as.toList.map ρ ++ vs.toList).getD i undef) := by
            intro N' ka kc i x hx
            rw [List.getElem?_append] at hx
            rw [List.getD_eq_getElem?_getD, List.getElem?_append]
            simp only [List.length_map] at hx ⊢
            split at hx
            · rename_i hlt
              rw [if_pos hlt]
              rw [List.getElem?_map] at hx ⊢
              cases hp : as.toList[i]? with
              | none => rw [hp] at hx; cases hx
              | some r =>
                rw [hp] at hx
                obtain rfl := Option.some.inj hx
                exact ka r (List.mem_of_getElem? hp)
            · rename_i hlt
              rw [if_neg hlt]
              rw [List.getElem?_map] at hx
              cases hp : caps[i - as.toList.length]? with
              | none => rw [hp] at hx; cases hx
              | some r =>
                rw [hp] at hx
                obtain rfl := Option.some.inj hx
                have := kc _ r hp
                simpa [Array.getD_eq_getD_getElem?] using this
          have raw : ∀ i x, (as.toList.map ev ++ caps)[i]? = some x → Rep w φ N x ((as.toList.map ρ ++ vs.toList).getD i undef) := by
            intro i x hx
            rw [List.getElem?_append] at hx
            rw [List.getD_eq_getElem?_getD, List.getElem?_append]
            simp only [List.length_map] at hx ⊢
            split at hx
            · rename_i hlt
              rw [if_pos hlt]
              rw [List.getElem?_map] at hx ⊢
              cases hp : as.toList[i]? with
              | none => rw [hp] at hx; cases hx
              | some r =>
                rw [hp] at hx
                obtain rfl := Option.some.inj hx
                exact hE r
            · rename_i hlt
              rw [if_neg hlt]
              have := hr _ x hx
              simpa [Array.getD_eq_getD_getElem?] using this
          refine ⟨as.toList.map ρ ++ vs.toList, ?_, by simp [hl], key _ (fun x _ => snap_ok hL 6 _ _ (hE x)) (fun i r hp => snap_ok hL 6 _ _ (hr _ r hp)), fun hfr => ?_, by simp [hl], raw⟩
          · have e : (as.toList.map ρ ++ vs.toList).toArray = as.map ρ ++ vs := by simp
            rw [e]
            simp [execOp, resolve, Deferred.ofValue, hu, invoke]
            exact hF _ w
          · rw [Bool.and_eq_true] at hfr
            exact key _ (fun x hx => snap_free 6 _ _ (hE x) (allFree_mem hfr.1 _ (List.mem_map.2 ⟨x, hx, rfl⟩))) (fun i r hp => snap_free 6 _ _ (hr _ r hp) (allFree_mem hfr.2 _ (List.mem_of_getElem? hp)))
      · cases h
    · rename_i r m _
      split at h
      · rename_i t0 v hrv
        split at h
        · rename_i F' hF'
          simp only [Out.call.injEq] at h
          obtain ⟨rfl, rfl, rfl, rfl⟩ := h
          have hfv := hE r
          rw [hrv] at hfv
          obtain ⟨u, hu⟩ : ∃ u, ρ r = u := ⟨_, rfl⟩
          rw [hu] at hfv
          cases hfv with
          | iface _ _ vv hvv =>
            have hmeth := tMeth_ok hT hF'
            have key : ∀ (N' : Nat → Prop), Rep w (fun _ => none) N' (snap lb 6 v) vv → (∀ x ∈ as.toList, Rep w (fun _ => none) N' (snap lb 6 (ev x)) (ρ x)) → ∀ i x, (snap lb 6 v :: as.toList.map (fun x => snap lb 6 (ev x)))[i]? = some x → Rep w (fun _ => none) N' x ((vv :: as.toList.map ρ).getD i undef) := by
              intro N' k0 ka i x hx
              cases i with
              | zero => simp at hx; subst hx; exact k0
              | succ i =>
                simp only [List.getElem?_cons_succ] at hx
                rw [List.getD_cons_succ, List.getD_eq_getElem?_getD]
                rw [List.getElem?_map] at hx ⊢
                cases hp : as.toList[i]? with
                | none => rw [hp] at hx; cases hx
                | some r =>
                  rw [hp] at hx
                  obtain rfl := Option.some.inj hx
                  exact ka r (List.mem_of_getElem? hp)
            have raw : ∀ i x, (v :: as.toList.map ev)[i]? = some x → Rep w φ N x ((vv :: as.toList.map ρ).getD i undef) := by
              intro i x hx
              cases i with
              | zero => simp at hx; subst hx; exact hvv
              | succ i =>
                simp only [List.getElem?_cons_succ] at hx
                rw [List.getD_cons_succ, List.getD_eq_getElem?_getD]
                rw [List.getElem?_map] at hx ⊢
                cases hp : as.toList[i]? with
                | none => rw [hp] at hx; cases hx
                | some r =>
                  rw [hp] at hx
                  obtain rfl := Option.some.inj hx
                  exact hE r
            refine ⟨vv :: as.toList.map ρ, ?_, by simp, key _ (snap_ok hL 6 _ _ hvv) (fun x _ => snap_ok hL 6 _ _ (hE x)), fun hfr => ?_, by simp, raw⟩
            · have e5 : #[Value.iface t0 vv] ++ Array.map ρ as = (Value.iface t0 vv :: as.toList.map ρ).toArray := by simp
              have := run_invoke (w := w) hmeth hF vv (as.toList.map ρ)
              simp only [execOp, resolve, hu, e5]
              exact this
            · rw [Bool.and_eq_true] at hfr
              exact key _ (snap_free 6 _ _ hvv hfr.1) (fun x hx => snap_free 6 _ _ (hE x) (allFree_mem hfr.2 _ (List.mem_map.2 ⟨x, hx, rfl⟩)))
        · cases h
      · cases h
    · cases h
  | _ => cases hk
end
end Go.Proofs.YtnnjjblgilibgaaGreatV

import Derived.Below
import Derived.WalkKit
import Derived.KernelRfl
import Derived.Orders
import Derived.LoopN
import Derived.Laws.AppendOwn
import Derived.Laws.Cells
import Derived.Deep.Draws
import Derived.Laws.StructEq
import Derived.ChangeKeysEq
/- An evaluator of the model's code over abstract values (what is read is told by its contents, what a call makes for itself by labels). -/
namespace Go.Proofs.YtfemklaeonkidaaV
open Go Go.RowKit
set_option linter.unusedVariables false
set_option linter.unusedSimpArgs false

/-- A value, with what it points to: contents, not places. -/
inductive AV where
  | any
  | raw (v : Value)
  | agg (l : List AV)
  | tup (l : List AV)
  | sl (sz : Nat) (rows : List (List AV))
  | fn (f : FuncId) (caps : List AV)
  | iface (t : TypeId) (v : AV)
  | box (cells : List AV) (off : Nat)
  | loc (l off : Nat)
  | own (l : Nat)
  | rloc (l sz i f : Nat)
  | lsl (l off n sz : Nat)
  | osl (l off n sz : Nat)
  deriving Inhabited

abbrev AV.int (n : Int) : AV := .raw (.int .i64 n)
abbrev AV.bool (b : Bool) : AV := .raw (.bool b)

/-- What a label holds: cells of a variable, or the rows of a slice of the call's own. -/
inductive LB where
  | box (cells : List AV)
  | row (e : TypeId) (sz : Nat) (rows : List (List AV))
  deriving Inhabited

/-- What is told of a type. -/
structure TI where
  desc : TypeDesc
  size : Nat
  bytes : Nat
  zero : List Value
  eq : Bool := false
  deriving Inhabited

structure St where
  env : List (Nat × AV)
  lbl : List (Nat × Option LB)
  next : Nat

def look {α : Type} (t : Nat) : List (Nat × α) → Option α
  | [] => none
  | (u, x) :: r => if Nat.beq t u then some x else look t r

def St.put (s : St) (d : Option Tmp) (x : AV) : St :=
  match d with
  | none => s
  | some t => { s with env := (t, x) :: s.env }

def St.ev (s : St) : Operand → AV
  | .tmp t => (look t s.env).getD .any
  | .const v => .raw v
  | .global _ => .any
  | .func f => .fn f []

def St.lb (s : St) (l : Nat) : Option LB := (look l s.lbl).getD none

def AV.cells : AV → List AV
  | .agg l => l
  | x => [x]

def AV.one : AV → Bool
  | .raw v => v.oneCell'
  | .agg _ => false
  | .tup _ => false
  | .any => false
  | _ => true

def allOne : List AV → Bool
  | [] => true
  | x :: r => x.one && allOne r

mutual
/-- Without any memory. -/
def AV.pure : AV → Bool
  | .raw _ => true
  | .agg l => allPure l
  | .tup l => allPure l
  | _ => false
def allPure : List AV → Bool
  | [] => true
  | x :: r => x.pure && allPure r
end

mutual
/-- Without labels of the call's own. -/
def AV.free : AV → Bool
  | .any => true
  | .raw _ => true
  | .agg l => allFree l
  | .tup l => allFree l
  | .sl _ rows => rowsFree rows
  | .fn _ caps => allFree caps
  | .iface _ v => v.free
  | .box cells _ => allFree cells
  | _ => false
def allFree : List AV → Bool
  | [] => true
  | x :: r => x.free && allFree r
def rowsFree : List (List AV) → Bool
  | [] => true
  | x :: r => allFree x && rowsFree r
end

def vblock : Value → Option Nat
  | .pointer (some a) => some a.block
  | .slice (some a) _ _ => some a.block
  | _ => none

/-- A value of the model is one of these, in this world: labels are placed by φ, contents lie in the blocks N. -/
inductive Rep (w : World) (φ : Nat → Option Value) (N : Nat → Prop) : AV → Value → Prop
  | any (v : Value) : Rep w φ N .any v
  | raw (v : Value) : Rep w φ N (.raw v) v
  | agg (l : List AV) (vs : Array Value) (hl : l.length = vs.size) (h : ∀ i x, l[i]? = some x → Rep w φ N x (vs.getD i undef)) : Rep w φ N (.agg l) (.agg vs)
  | tup (l : List AV) (vs : Array Value) (hl : l.length = vs.size) (h : ∀ i x, l[i]? = some x → Rep w φ N x (vs.getD i undef)) : Rep w φ N (.tup l) (.tuple vs)
  | fn (f : FuncId) (caps : List AV) (vs : Array Value) (hl : caps.length = vs.size) (h : ∀ i x, caps[i]? = some x → Rep w φ N x (vs.getD i undef)) : Rep w φ N (.fn f caps) (.func (.func f) #[] vs)
  | iface (t : TypeId) (x : AV) (v : Value) (h : Rep w φ N x v) : Rep w φ N (.iface t x) (.iface t v)
  | slnil (sz : Nat) : Rep w φ N (.sl sz []) (.slice none 0 0)
  | sl (sz : Nat) (rows : List (List AV)) (b o c : Nat) (cell : Nat → Value) (hc : rows.length ≤ c) (hN : N b) (hsz : ∀ r ∈ rows, r.length = sz)
      (hw : ∀ k, k < rows.flatten.length → w.cell? ⟨b, o + k, none⟩ = some (cell k)) (h : ∀ k x, rows.flatten[k]? = some x → Rep w φ N x (cell k)) : Rep w φ N (.sl sz rows) (.slice (some ⟨b, o, none⟩) rows.length c)
  | box (cells : List AV) (off b o : Nat) (cell : Nat → Value) (hN : N b) (hw : ∀ k, k < cells.length → w.cell? ⟨b, o + k, none⟩ = some (cell k)) (h : ∀ k x, cells[k]? = some x → Rep w φ N x (cell k)) : Rep w φ N (.box cells off) (.pointer (some ⟨b, o + off, none⟩))
  | loc (l off b : Nat) (h : φ l = some (.pointer (some ⟨b, 0, none⟩))) : Rep w φ N (.loc l off) (.pointer (some ⟨b, off, none⟩))
  | own (l : Nat) (v : Value) (h : φ l = some v) (h1 : v.oneCell' = true) : Rep w φ N (.own l) v
  | rloc (l sz i f b n c : Nat) (h : φ l = some (.slice (some ⟨b, 0, none⟩) n c)) : Rep w φ N (.rloc l sz i f) (.pointer (some ⟨b, i * sz + f, none⟩))
  | lsl (l off n sz b c : Nat) (h : φ l = some (.pointer (some ⟨b, 0, none⟩))) (hc : n ≤ c) : Rep w φ N (.lsl l off n sz) (.slice (some ⟨b, off, none⟩) n c)
  | osl (l off n sz b m c' c : Nat) (h : φ l = some (.slice (some ⟨b, 0, none⟩) m c')) (hc : n ≤ c) (hc' : off + c ≤ c') : Rep w φ N (.osl l off n sz) (.slice (some ⟨b, off * sz, none⟩) n c)

/-- A function that has a body. -/
def Fine (P : Program) (F : FuncId) : Prop := ∀ (args : Array Value) (w : World), (callFunc F args).run P w = .ok (.enter F args) w
/-- A contract: of so many arguments this result; nothing that was there turns. -/
def Ok (P : Program) (F : FuncId) (args : List AV) (r : AV) : Prop :=
  Fine P F ∧ ∀ (w : World) (N : Nat → Prop) (vs : List Value), (∀ b, N b → b < w.heap.size) → vs.length = args.length → (∀ i x, args[i]? = some x → Rep w (fun _ => none) N x (vs.getD i undef)) →
    Calls P F vs.toArray w fun e w' => ∃ v, e = .returned v ∧ Below w.heap.size w w' ∧ Rep w' (fun _ => none) (fun b => N b ∨ (w.heap.size ≤ b ∧ b < w'.heap.size)) r v

def setCells : List AV → Nat → List AV → List AV
  | l, _, [] => l
  | l, o, x :: xs => setCells (l.set o x) (o + 1) xs

def isAggD : TypeDesc → Bool
  | .struct _ => true
  | .array _ _ => true
  | _ => false

inductive Out where
  | val (p : Prop) (v : AV)
  | new (p : Prop) (B : LB) (f : Nat → AV)
  | put (p : Prop) (l : Nat) (B : LB)
  | grow (p : Prop) (l : Option Nat) (B : LB)
  | call (f : FuncId) (args : List AV) (fr : Bool) (raw : List AV)
  | bad

/-- Whole numbers' operations. -/
def aint (op : BinOp) (k : IntKind) (a b : Int) : Out :=
  match op with
  | .add => .val True (.raw (.int k (k.wrap (a + b))))
  | .sub => .val True (.raw (.int k (k.wrap (a - b))))
  | .mul => .val True (.raw (.int k (k.wrap (a * b))))
  | .quo => .val (b ≠ 0) (.raw (.int k (k.wrap (a.tdiv b))))
  | .rem => .val (b ≠ 0) (.raw (.int k (a.tmod b)))
  | .and => .val True (.raw (.int k (bits .and k a b)))
  | .or => .val True (.raw (.int k (bits .or k a b)))
  | .xor => .val True (.raw (.int k (bits .xor k a b)))
  | .eql => .val True (.raw (.bool (a == b)))
  | .neq => .val True (.raw (.bool (a != b)))
  | .lss => .val True (.raw (.bool (decide (a < b))))
  | .leq => .val True (.raw (.bool (decide (a ≤ b))))
  | .gtr => .val True (.raw (.bool (decide (a > b))))
  | .geq => .val True (.raw (.bool (decide (a ≥ b))))
  | _ => .bad

/-- Cells that are ints. -/
def intsOf : List AV → Option (List Int)
  | [] => some []
  | .raw (.int .i64 a) :: r => match intsOf r with
    | some l => some (a :: l)
    | none => none
  | _ => none

def aints (op : BinOp) (k : IntKind) (a : Int) (k' : IntKind) (b : Int) : Out :=
  match op with
  | .shl => .val (0 ≤ b) (.raw (.int k (k.wrap (a * 2 ^ (min b.toNat k.bits)))))
  | .shr => .val (0 ≤ b) (.raw (.int k (a.fdiv (2 ^ (min b.toNat k.bits)))))
  | _ => if k = k' then aint op k a b else .bad
def abools (tb : Bool) (op : BinOp) (a b : Bool) : Out :=
  match op with
  | .eql => if tb then .val True (.raw (.bool (a == b))) else .bad
  | .neq => if tb then .val True (.raw (.bool (a != b))) else .bad
  | _ => .bad
def aeqs (op : BinOp) (n : Nat) (a b : List Int) : Out :=
  match op with
  | .eql => .val (a.length = n ∧ b.length = n) (.raw (.bool (decide (a = b))))
  | .neq => .val (a.length = n ∧ b.length = n) (.raw (.bool (!decide (a = b))))
  | _ => .bad
def aaggs (te : Option Nat) (op : BinOp) (l l' : List AV) : Out :=
  match te, intsOf l, intsOf l' with
  | some n, some a, some b => aeqs op n a b
  | _, _, _ => .bad
/-- A slice that has rows, and none. -/
def anil (ts : Bool) (op : BinOp) (rows : List (List AV)) : Out :=
  match op with
  | .eql => if ts then .val (0 < rows.length) (.raw (.bool false)) else .bad
  | .neq => if ts then .val (0 < rows.length) (.raw (.bool true)) else .bad
  | _ => .bad
def abin (tb : Bool) (te : Option Nat) (ts : Bool) (op : BinOp) (x y : AV) : Out :=
  match x, y with
  | .raw (.int k a), .raw (.int k' b) => aints op k a k' b
  | .raw (.bool a), .raw (.bool b) => abools tb op a b
  | .agg l, .agg l' => aaggs te op l l'
  | .sl _ rows, .raw (.slice none _ _) => anil ts op rows
  | _, _ => .bad

def aun (op : UnOp) (x : AV) : Out :=
  match op, x with
  | .neg, .raw (.int k n) => .val True (.raw (.int k (k.wrap (0 - n))))
  | .not, .raw (.bool b) => .val True (.raw (.bool (!b)))
  | _, _ => .bad

section
variable (tt : TypeId → Option TI) (lb : Nat → Option LB)

/-! What is asked of types. -/
def tSize (t : TypeId) : Option (Bool × Nat) :=
  match tt t with
  | none => none
  | some i => some (isAggD i.desc, i.size)
def tField (t : TypeId) (f : Nat) : Option (Nat × Bool × Nat) :=
  match tt t with
  | none => none
  | some i => match i.desc with
    | .struct fs => match fs[f]? with
      | none => none
      | some fd => match tSize tt fd.type with
        | none => none
        | some (a, n) => some (fd.offset, a, n)
    | _ => none
def tArr (t : TypeId) : Option (Nat × Bool × Nat) :=
  match tt t with
  | none => none
  | some i => match i.desc with
    | .array n e => match tSize tt e with
      | none => none
      | some (a, m) => some (n, a, m)
    | _ => none
def tSlice (t : TypeId) : Option (TypeId × TI) :=
  match tt t with
  | none => none
  | some i => match i.desc with
    | .slice e => match tt e with
      | none => none
      | some ei => some (e, ei)
    | _ => none
def tZero (t : TypeId) : Option (List AV) :=
  match tt t with
  | none => none
  | some i => some (i.zero.map .raw)
def tInt (t : TypeId) : Option IntKind :=
  match tt t with
  | none => none
  | some i => match i.desc with
    | .int k => some k
    | _ => none

def tBool (t : TypeId) : Bool :=
  match tt t with
  | none => false
  | some i => match i.desc with
    | .bool => true
    | _ => false

def tSl (t : TypeId) : Bool :=
  match tt t with
  | none => false
  | some i => match i.desc with
    | .slice _ => true
    | _ => false
def tEq (t : TypeId) : Option Nat :=
  match tt t with
  | none => none
  | some i => if i.eq then some i.size else none

def pieceOf (ts : Bool × Nat) (cells : List AV) (off : Nat) : Out :=
  match ts with
  | (true, size) => .val (off + size ≤ cells.length) (.agg ((cells.drop off).take size))
  | (false, _) => .val (off < cells.length) (cells.getD off .any)

def aload (t : TypeId) (a : AV) : Out :=
  match tSize tt t with
  | none => .bad
  | some ts =>
    match a with
    | .box cells off => pieceOf ts cells off
    | .loc l off => match lb l with
      | some (.box cells) => pieceOf ts cells off
      | _ => .bad
    | .rloc l sz r f => match lb l with
      | some (.row _ sz' rows) => match rows[r]? with
        | some cells => if sz = sz' then pieceOf ts cells f else .bad
        | none => .bad
      | _ => .bad
    | _ => .bad

def astore (t : TypeId) (a x : AV) : Out :=
  match tSize tt t with
  | none => .bad
  | some (_, size) =>
    match a with
    | .loc l off => match lb l with
      | some (.box cells) => .put (x.cells.length = size ∧ allOne x.cells = true ∧ off + size ≤ cells.length) l (.box (setCells cells off x.cells))
      | _ => .bad
    | .rloc l sz' r f => match lb l with
      | some (.row e sz rows) => match rows[r]? with
        | some cells => .put (sz' = sz ∧ x.cells.length = size ∧ allOne x.cells = true ∧ f + size ≤ sz) l (.row e sz (rows.set r (setCells cells f x.cells)))
        | none => .bad
      | _ => .bad
    | _ => .bad

def afieldAddr (t : TypeId) (a : AV) (f : Nat) : Out :=
  match tField tt t f with
  | none => .bad
  | some (o, _, n) =>
    match a with
    | .box cells off => .val (n ≠ 0) (.box cells (off + o))
    | .loc l off => .val (n ≠ 0) (.loc l (off + o))
    | .rloc l sz r off => .val (n ≠ 0) (.rloc l sz r (off + o))
    | _ => .bad

def afield (t : TypeId) (x : AV) (f : Nat) : Out :=
  match tField tt t f with
  | none => .bad
  | some (o, ts) =>
    match x with
    | .agg l => pieceOf ts l o
    | _ => .bad

def aindex (t : TypeId) (x i : AV) : Out :=
  match tArr tt t, i with
  | some (n, a, m), .raw (.int _ i) =>
    match x with
    | .agg l => match pieceOf (a, m) l (i.toNat * m) with
      | .val p v => .val (0 ≤ i ∧ i < n ∧ p) v
      | _ => .bad
    | _ => .bad
  | _, _ => .bad

def aindexAddr (t : TypeId) (x i : AV) : Out :=
  match i with
  | .raw (.int _ i) =>
    match x with
    | .box cells off => match tArr tt t with
      | some (n, _, m) => .val (0 ≤ i ∧ i < n) (.box cells (off + i.toNat * m))
      | none => .bad
    | .loc l off => match tArr tt t with
      | some (n, _, m) => .val (0 ≤ i ∧ i < n) (.loc l (off + i.toNat * m))
      | none => .bad
    | .sl sz rows => match tSlice tt t with
      | some (_, ei) => .val (0 ≤ i ∧ i < rows.length ∧ sz = ei.size) (.box (rows.getD i.toNat []) 0)
      | none => .bad
    | .own l => match tSlice tt t with
      | some (_, ei) => match lb l with
        | some (.row _ sz rows) => .val (0 ≤ i ∧ i < rows.length ∧ sz = ei.size) (.rloc l sz i.toNat 0)
        | _ => .bad
      | none => .bad
    | .osl l off n sz => match tSlice tt t with
      | some (_, ei) => .val (0 ≤ i ∧ i < n ∧ sz = ei.size) (.rloc l sz (off + i.toNat) 0)
      | none => .bad
    | _ => .bad
  | _ => .bad

/-- An aggregate out of parts. -/
def buildCells (place : Nat → Option (Nat × Nat)) : List AV → List (Nat × AV) → Option (List AV)
  | cells, [] => some cells
  | cells, (i, x) :: r =>
    match place i with
    | none => none
    | some (off, size) => if Nat.beq x.cells.length size && (Nat.ble (off + size) cells.length && allOne x.cells) then buildCells place (setCells cells off x.cells) r else none

def placeOf (t : TypeId) : Nat → Option (Nat × Nat) := fun i =>
  match tField tt t i with
  | some (o, _, n) => some (o, n)
  | none => match tArr tt t with
    | some (_, _, m) => some (i * m, m)
    | none => none

def abuild (t : TypeId) (parts : List (Nat × AV)) : Out :=
  match tZero tt t, tSize tt t with
  | some z, some (true, _) => match buildCells (placeOf tt t) z parts with
    | some cells => .val True (.agg cells)
    | none => .bad
  | _, _ => .bad

/-- Rows cut out of cells. -/
def cutRows (sz : Nat) : Nat → List AV → List (List AV)
  | 0, _ => []
  | n + 1, l => l.take sz :: cutRows sz n (l.drop sz)

def reps (n : Nat) (z : List AV) : List AV := (List.replicate n z).flatten

def abuildSlice (t : TypeId) (len : Nat) (parts : List (Nat × AV)) : Out :=
  match tSlice tt t with
  | some (e, ei) => match buildCells (fun i => some (i * ei.size, ei.size)) (reps len (ei.zero.map .raw)) parts with
      | some cells => .new (len * ei.size ≤ 16777216 ∧ allOne cells = true ∧ 0 < ei.size) (.row e ei.size (cutRows ei.size len cells)) .own
      | none => .bad
  | none => .bad

/-- A slice made anew. -/
def amakeSlice (t : TypeId) (len cap : AV) : Out :=
  match tSlice tt t, len, cap with
  | some (e, ei), .raw (.int _ n), .raw (.int _ c) => .new (0 ≤ n ∧ n ≤ c ∧ ei.bytes * c ≤ 281474976710656 ∧ c ≤ 9223372036854775807 ∧ 0 < ei.size ∧ allOne (ei.zero.map .raw) = true) (.row e ei.size (List.replicate n.toNat (ei.zero.map .raw))) .own
  | _, _, _ => .bad

/-- A bound of a slice, or what stands for it. -/
def bnd (d : Int) : Option AV → Option Int
  | none => some d
  | some (.raw (.int _ l)) => some l
  | _ => none
/-- A part of a slice of the call's own. -/
def apart (l off n sz : Nat) (ei : TI) (lo hi mx : Option AV) : Out :=
  match bnd 0 lo, bnd n hi, bnd n mx with
  | some a, some b, some c => if hi.isSome || mx.isNone then .val (sz = ei.size ∧ 0 ≤ a ∧ a < b ∧ b ≤ c ∧ c ≤ n) (.osl l (off + a.toNat) (b - a).toNat sz) else .bad
  | _, _, _ => .bad
/-- A part of a slice, or of an array. -/
def aslice (t : TypeId) (x : AV) (lo hi mx : Option AV) : Out :=
  match x with
  | .sl sz rows => match tSlice tt t, lo, hi, mx with
    | some (_, ei), none, none, none => .val (sz = ei.size) (.sl sz rows)
    | some (_, ei), some (.raw (.int _ l)), none, none => .val (sz = ei.size ∧ 0 ≤ l ∧ l ≤ rows.length) (.sl sz (rows.drop l.toNat))
    | some (_, ei), none, some (.raw (.int _ h)), none => .val (sz = ei.size ∧ 0 ≤ h ∧ h ≤ rows.length) (.sl sz (rows.take h.toNat))
    | some (_, ei), some (.raw (.int _ l)), some (.raw (.int _ h)), none => .val (sz = ei.size ∧ 0 ≤ l ∧ l ≤ h ∧ h ≤ rows.length) (.sl sz ((rows.take h.toNat).drop l.toNat))
    | _, _, _, _ => .bad
  | .own l => match tSlice tt t, lb l with
    | some (_, ei), some (.row _ sz rows) => apart l 0 rows.length sz ei lo hi mx
    | _, _ => .bad
  | .osl l off n sz => match tSlice tt t with
    | some (_, ei) => apart l off n sz ei lo hi mx
    | none => .bad
  | .loc l off => match tArr tt t, lo, hi, mx with
    | some (n, _, m), none, none, none => .val True (.lsl l off n m)
    | some (n, _, m), some (.raw (.int _ lo)), none, none => .val (0 ≤ lo ∧ lo < n) (.lsl l (off + lo.toNat * m) (n - lo.toNat) m)
    | _, _, _, _ => .bad
  | _ => .bad

def aext (x : AV) (i : Nat) : Out :=
  match x with
  | .tup l => match l[i]? with
    | some y => .val True y
    | none => .bad
  | _ => .bad

def alen (x : AV) : Out :=
  match x with
  | .sl _ rows => .val True (.int rows.length)
  | .own l => match lb l with
    | some (.row _ _ rows) => .val True (.int rows.length)
    | _ => .bad
  | .lsl _ _ n _ => .val True (.int n)
  | .osl _ _ n _ => .val True (.int n)
  | .raw (.slice _ n _) => .val True (.int n)
  | _ => .bad

def minmaxGo (isMin : Bool) (k : IntKind) (a : Int) : List AV → Out
  | [] => .val True (.raw (.int k a))
  | .raw (.int _ b) :: r => minmaxGo isMin k (if isMin then (if b < a then b else a) else (if a < b then b else a)) r
  | _ => .bad
def aminmax (isMin : Bool) : List AV → Out
  | .raw (.int k a) :: r => minmaxGo isMin k a r
  | _ => .bad

/-- A slice's rows. -/
def newsOf (y : AV) : Option (Nat × List (List AV)) :=
  match y with
  | .sl sz rows => some (sz, rows)
  | .own l => match lb l with
    | some (.row _ sz rows) => some (sz, rows)
    | _ => none
  | _ => none

/-- More rows behind a slice of the call's own. -/
def aappend (t : TypeId) (x y : AV) : Out :=
  match tSlice tt t with
  | none => .bad
  | some (e, ei) =>
    match newsOf lb y with
    | none => .bad
    | some (sz, rows) =>
      match x with
      | .raw (.slice none 0 0) => .grow (sz = ei.size ∧ 0 < ei.size ∧ 0 < rows.length ∧ allOne rows.flatten = true ∧ rows.length * ei.bytes ≤ 140737488355328 ∧ rows.length ≤ 9223372036854775807) none (.row e ei.size rows)
      | .own l => match lb l with
        | some (.row e' sz' rows') => .grow (sz = ei.size ∧ sz' = ei.size ∧ e' = e ∧ 0 < ei.size ∧ 0 < rows.length ∧ allOne rows.flatten = true ∧ (rows'.length + rows.length) * ei.bytes ≤ 140737488355328 ∧ rows'.length + rows.length ≤ 9223372036854775807) (some l) (.row e ei.size (rows' ++ rows))
        | _ => .bad
      | _ => .bad

/-- What a callee sees of a value: contents. -/
def snap : Nat → AV → AV
  | 0, _ => .any
  | fuel + 1, x =>
    match x with
    | .loc l off => match lb l with
      | some (.box cells) => .box (cells.map (snap fuel)) off
      | _ => .any
    | .own l => match lb l with
      | some (.row _ sz rows) => if rowsFree rows then .sl sz rows else .any
      | _ => .any
    | .lsl l off n sz => match lb l with
      | some (.box cells) => if Nat.ble (off + n * sz) cells.length && allFree cells then .sl sz (cutRows sz n (cells.drop off)) else .any
      | _ => .any
    | .osl l off n sz => match lb l with
      | some (.row _ sz' rows) => if Nat.beq sz' sz && (Nat.ble (off + n) rows.length && rowsFree ((rows.drop off).take n)) then .sl sz ((rows.drop off).take n) else .any
      | _ => .any
    | .fn f caps => .fn f (caps.map (snap fuel))
    | .agg l => .agg (l.map (snap fuel))
    | .tup l => .tup (l.map (snap fuel))
    | x => if x.free then x else .any

/-- What an operation comes to. -/
def aop (ev : Operand → AV) (o : Op) : Out :=
  match o with
  | .move x => .val True (ev x)
  | .assign x => .val True (ev x)
  | .pick c a b => match ev c with
    | .raw (.bool t) => match ev a, ev b with
      | .raw (.bool p), .raw (.bool q) => .val True (.raw (.bool (bif t then p else q)))
      | x, y => .val True (bif t then x else y)
    | _ => .bad
  | .binOp op t x y _ => abin (tBool tt t) (tEq tt t) (tSl tt t) op (ev x) (ev y)
  | .unOp op _ x => aun op (ev x)
  | .convert src dst x => match tInt tt dst, tInt tt src, ev x with
    | some k, some _, .raw (.int _ n) => .val True (.raw (.int k (k.wrap n)))
    | _, _, _ => .bad
  | .alloc e => match tZero tt e with
    | some z => .new (allOne z = true) (.box z) (fun l => .loc l 0)
    | none => .bad
  | .box _ x => .new (allOne (ev x).cells = true) (.box (ev x).cells) (fun l => .loc l 0)
  | .build t parts => abuild tt t (parts.toList.map fun (i, x) => (i, ev x))
  | .buildSlice t len parts => abuildSlice tt t len (parts.toList.map fun (i, x) => (i, ev x))
  | .load t a => aload tt lb t (ev a)
  | .store t a x => astore tt lb t (ev a) (ev x)
  | .nilCheck x => match ev x with
    | .box cells off => .val True (.box cells off)
    | .loc l off => .val True (.loc l off)
    | .rloc l sz i f => .val True (.rloc l sz i f)
    | .fn f caps => .val True (.fn f caps)
    | _ => .bad
  | .fieldAddr t x f => afieldAddr tt t (ev x) f
  | .field t x f => afield tt t (ev x) f
  | .indexAddr t x i => aindexAddr tt lb t (ev x) (ev i)
  | .index t x i => aindex tt t (ev x) (ev i)
  | .slice t x lo hi mx => aslice tt lb t (ev x) (lo.map ev) (hi.map ev) (mx.map ev)
  | .makeSlice t l c => amakeSlice tt t (ev l) (ev c)
  | .makeFunc (.func f) first caps => if first.size = 0 then .val True (.fn f (caps.toList.map ev)) else .bad
  | .extract t i => aext (ev t) i
  | .call c => match c.callee with
    | .builtin .len => match c.args.toList with
      | [x] => match c.argTypes.toList with
        | [t] => match tSlice tt t with
          | some _ => alen lb (ev x)
          | none => .bad
        | _ => .bad
      | _ => .bad
    | .builtin .min => aminmax true (c.args.toList.map ev)
    | .builtin .max => aminmax false (c.args.toList.map ev)
    | .builtin .append => match c.args.toList, c.argTypes.toList with
      | [x, y], [t, t'] => if t = t' then aappend tt lb t (ev x) (ev y) else .bad
      | _, _ => .bad
    | .value f => match ev f with
      | .fn F caps => .call F (c.args.toList.map (fun x => snap lb 6 (ev x)) ++ caps.map (snap lb 6)) (allFree (c.args.toList.map ev) && allFree caps) (c.args.toList.map ev ++ caps)
      | _ => .bad
    | _ => .bad
  | _ => .bad
end

/-! Naming labels anew. -/
mutual
def AV.ren (ρ : Nat → Nat) : AV → AV
  | .agg l => .agg (renAll ρ l)
  | .tup l => .tup (renAll ρ l)
  | .sl sz rows => .sl sz (renRows ρ rows)
  | .fn f caps => .fn f (renAll ρ caps)
  | .iface t v => .iface t (v.ren ρ)
  | .box cells off => .box (renAll ρ cells) off
  | .loc l off => .loc (ρ l) off
  | .own l => .own (ρ l)
  | .rloc l sz i f => .rloc (ρ l) sz i f
  | .lsl l off n sz => .lsl (ρ l) off n sz
  | .osl l off n sz => .osl (ρ l) off n sz
  | x => x
def renAll (ρ : Nat → Nat) : List AV → List AV
  | [] => []
  | x :: r => x.ren ρ :: renAll ρ r
def renRows (ρ : Nat → Nat) : List (List AV) → List (List AV)
  | [] => []
  | x :: r => renAll ρ x :: renRows ρ r
end
mutual
/-- All labels are less. -/
def AV.lt (k : Nat) : AV → Bool
  | .agg l => allLt k l
  | .tup l => allLt k l
  | .sl _ rows => rowsLt k rows
  | .fn _ caps => allLt k caps
  | .iface _ v => v.lt k
  | .box cells _ => allLt k cells
  | .loc l _ => Nat.blt l k
  | .own l => Nat.blt l k
  | .rloc l _ _ _ => Nat.blt l k
  | .lsl l _ _ _ => Nat.blt l k
  | .osl l _ _ _ => Nat.blt l k
  | _ => true
def allLt (k : Nat) : List AV → Bool
  | [] => true
  | x :: r => x.lt k && allLt k r
def rowsLt (k : Nat) : List (List AV) → Bool
  | [] => true
  | x :: r => allLt k x && rowsLt k r
end
mutual
/-- Is this label met, in the value itself? -/
def AV.has (k : Nat) : AV → Bool
  | .agg l => allHas k l
  | .tup l => allHas k l
  | .fn _ caps => allHas k caps
  | .loc l _ => Nat.beq l k
  | .own l => Nat.beq l k
  | .rloc l _ _ _ => Nat.beq l k
  | .lsl l _ _ _ => Nat.beq l k
  | .osl l _ _ _ => Nat.beq l k
  | _ => false
def allHas (k : Nat) : List AV → Bool
  | [] => false
  | x :: r => x.has k || allHas k r
end
def LB.free : LB → Bool
  | .box cells => allFree cells
  | .row _ _ rows => rowsFree rows
/-- Nothing but labels' blocks has turned. -/
structure But (M : Nat → Prop) (w w' : World) : Prop where
  os : w'.os = w.os
  tape : w'.tape = w.tape
  output : w'.output = w.output
  size : w.heap.size ≤ w'.heap.size
  block : ∀ k, k < w.heap.size → ¬ M k → w'.heap[k]? = w.heap[k]?
/-- A label's cells in the world. -/
def Holds (w : World) (φ : Nat → Option Value) (N : Nat → Prop) (base : Nat) (l : Nat) : LB → Prop
  | .box cells => ∃ b ty cs, φ l = some (.pointer (some ⟨b, 0, none⟩)) ∧ w.heap[b]? = some (.cells cs ty (0, 0)) ∧ cs.size = cells.length ∧ (∀ i x, cells[i]? = some x → Rep w φ N x (cs.getD i undef)) ∧ base ≤ b ∧ ¬ N b
  | .row e sz rows => ∃ v xs, φ l = some v ∧ v.oneCell' = true ∧ w.ownsRow base e sz v rows.length xs ∧ (∀ r ∈ rows, r.length = sz) ∧ (∀ i x, rows.flatten[i]? = some x → Rep w φ N x (xs.getD i undef)) ∧ (∀ b, v.ownBlock = some b → ¬ N b)

/-- Blocks of the first labels. -/
def blocks (φ : Nat → Option Value) (k : Nat) : Nat → Prop := fun b => ∃ l v, l < k ∧ φ l = some v ∧ vblock v = some b
def Apart (φ : Nat → Option Value) (k : Nat) : Prop := ∀ l l' v v' b, l ≠ l' → l < k → l' < k → φ l = some v → φ l' = some v' → vblock v = some b → vblock v' ≠ some b
/-- A contract of a call that writes: labels that it is given, and what they hold behind it; it may make a label more. -/
def OkG (P : Program) (F : FuncId) (L : List LB) (args : List AV) (L' : List LB) (nw : Option LB) (r : AV) : Prop :=
  Fine P F ∧ L'.length = L.length ∧ ∀ (w : World) (φ : Nat → Option Value) (N : Nat → Prop) (vs : List Value), (∀ b, N b → b < w.heap.size) → vs.length = args.length → (∀ i x, args[i]? = some x → Rep w φ N x (vs.getD i undef)) →
    (∀ l B, L[l]? = some B → Holds w φ N 0 l B) → Apart φ L.length → (∀ l, L.length ≤ l → φ l = none) →
    Calls P F vs.toArray w fun e w' => ∃ v φ' N', e = .returned v ∧ But (blocks φ L.length) w w' ∧ (∀ b, N' b → N b ∨ (w.heap.size ≤ b ∧ b < w'.heap.size)) ∧ (∀ l, l < L.length → φ' l = φ l) ∧ (∀ l, L.length < l → φ' l = none) ∧
      (∀ l B, L'[l]? = some B → Holds w' φ' N' 0 l B) ∧ (∀ B, nw = some B → Holds w' φ' N' 0 L.length B ∧ ∀ v b, φ' L.length = some v → vblock v = some b → w.heap.size ≤ b) ∧ (nw = none → φ' L.length = none) ∧ Rep w' φ' N' r v

/-- What a call that writes comes to: the labels, a new one, the result. -/
def EffC (P : Program) (F : FuncId) (lb : Nat → Option LB) (raw : List AV) (lab : Nat) (ls : List (Nat × LB)) (nw : Option LB) (x : AV) : Prop :=
  ∃ (ids : List Nat) (L : List LB) (args : List AV) (L' : List LB) (r : AV), OkG P F L args L' nw r ∧ ids.length = L.length ∧ ids.Nodup ∧ (∀ (i id : Nat) (B : LB), ids[i]? = some id → L[i]? = some B → lb id = some B) ∧
    allLt ids.length args = true ∧ (∀ id ∈ ids, allHas id raw = true) ∧ raw = renAll (fun i => ids.getD i lab) args ∧ (∀ B ∈ L, B.free = true) ∧ (∀ B ∈ L', B.free = true) ∧ (∀ B, nw = some B → B.free = true) ∧ r.lt (ids.length + 1) = true ∧ ls = ids.zip L' ∧ x = r.ren fun i => ids.getD i lab

/-- Labels behind such a call. -/
def putAll (ls : List (Nat × LB)) (lbl : List (Nat × Option LB)) : List (Nat × Option LB) :=
  match ls with
  | [] => lbl
  | (l, B) :: r => putAll r ((l, some B) :: lbl)
/-- In a region that draws its order an operation whose call writes is marked. -/
def marked : List Operand → Bool
  | .const _ :: _ => true
  | _ => false

section
variable (P : Program) (tt : TypeId → Option TI)

/-- Labels, one of them dead. -/
def kill (l : Option Nat) (lbl : List (Nat × Option LB)) : List (Nat × Option LB) :=
  match l with
  | none => lbl
  | some l => (l, none) :: lbl

/-- The label that an address points into. -/
def rlab : AV → Option Nat
  | .loc l _ => some l
  | .rloc l _ _ _ => some l
  | .own l => some l
  | .osl l _ _ _ => some l
  | _ => none
/-- A label that is written is not read by these. -/
def noClash (ev : Operand → AV) (l : Nat) : List Operand → Prop
  | [] => True
  | x :: r => rlab (ev x) ≠ some l ∧ noClash ev l r

def Out.k (o : Out) (cr : List Operand) (s : St) (d : Option Tmp) (K : St → Prop) : Prop :=
  match o with
  | .val p v => p ∧ K (s.put d v)
  | .new p B f => p ∧ K ({ s with lbl := (s.next, some B) :: s.lbl, next := s.next + 1 }.put d (f s.next))
  | .put p l B => p ∧ noClash s.ev l cr ∧ K ({ s with lbl := (l, some B) :: s.lbl }.put d .any)
  | .grow p l B => p ∧ K ({ s with lbl := (s.next, some B) :: kill l s.lbl, next := s.next + 1 }.put d (.own s.next))
  | .call F args fr raw => (∃ r, Ok P F args r ∧ (r.pure || fr && r.free) = true ∧ K (s.put d r)) ∨
      ∃ ls nw x, EffC P F s.lb raw s.next ls nw x ∧ marked cr = true ∧ K ({ s with lbl := (s.next, nw) :: putAll ls s.lbl, next := s.next + 1 }.put d x)
  | .bad => False

/-- A region: its operations in their order; with each the addresses that are read in whatever order. -/
def evr (all : Array Oper) : List Oper → List (List Operand) → St → (St → Prop) → Prop
  | [], _, s, K => K s
  | o :: os, cr, s, K =>
    match o.guard with
    | none => (aop tt s.lb s.ev o.op).k P (cr.headD []) s o.dst fun s' => evr all os cr.tail s' K
    | some (j, want) =>
      match (all[j]?).bind (·.dst) with
      | none => False
      | some t => match look t s.env with
        | some (.raw (.bool b)) => (b = want → (aop tt s.lb (St.ev { s with env := (t, .raw (.bool want)) :: s.env }) o.op).k P (cr.headD []) { s with env := (t, .raw (.bool want)) :: s.env } o.dst fun s' => evr all os cr.tail s' K) ∧
            (b = !want → evr all os cr.tail ({ s with env := (t, .raw (.bool !want)) :: s.env }.put o.dst (.raw undef)) K)
        | some (.raw (.tuple _)) => evr all os cr.tail (s.put o.dst (.raw undef)) K
        | _ => False

end
end Go.Proofs.YtfemklaeonkidaaV

import Derived.Test.YtfemklaeonkidaaProg
import Derived.Below
import Derived.Deep.Draws
import Derived.WalkKit
import Derived.KernelRfl
import Derived.Deep.LoopGhost
import Derived.Deep.QuietTactic
import Derived.BigQuiet
import Derived.Deep.DeepCutAuto
import Derived.Deep.RegionHeld3
import Derived.Laws.Rows
import Derived.Deep.DeepFit
import Derived.Lib.Hide
import Derived.MapKept
import Derived.LoopN
import Derived.OwnWalk
import Derived.RangeFuncNested
import Derived.RangeFuncBound
import Derived.RangeFuncCalls
import Derived.RangeFuncLeaves
import Derived.RangeFuncFrom
import Derived.Shelf.Abstract
import Derived.Shelf.RegionOpen
import Derived.Shelf.RegionOpenPlain
import Derived.OwnWalkIn
import Derived.TacticsInMore
import Derived.LoopNIn
import Derived.LoopIn
import Derived.Sort.BigQuietIn
import Derived.Test.YtfemklaeonkidaaWWords
import Derived.Test.YtfemklaeonkidaaWMore
import Derived.Test.YtfemklaeonkidaaWRepsOne
/- Words of this session for contracts that are walked by hand: a row that was made reads as a list; small numbers' tests as one Bool. -/
namespace Go.Proofs.YtfemklaeonkidaaW.Hand
open Go.RowKit Go.Proofs.YtfemklaeonkidaaW.PrintWords
set_option linter.unusedSimpArgs false
set_option linter.unusedVariables false

theorem addr_add0 (b i : Nat) : (⟨b, 0, none⟩ : Addr).add i = ⟨b, i, none⟩ := by
  unfold Addr.add
  split
  · next h => subst h; rfl
  · simp

/-- A block whose cells are a row's elements, in line, reads as that row. -/
theorem C_block {α : Type} {d : Kd α} {w : World} {b : Nat} {cs : Array Value} {t : TypeId} {l : List α} (h : w.heap[b]? = some (.cells cs t (0, 0))) (hr : Reps (d.K w) d.sz l cs.toList) (hl : l.length ≤ 9223372036854775807) :
    Kd.C d w (some ⟨b, 0, none⟩) l.length l := by
  refine ⟨rfl, hl, fun _ => ⟨_, rfl, fun j p hj => ?_⟩⟩
  have hk := hr.2 j p hj
  refine ⟨_, d.K_len hk, hk, fun i u hu => ?_⟩
  rw [addr_add0, cell_of_row w b _ cs t (0, 0) h]
  rw [List.getElem?_take] at hu
  split at hu
  · rw [List.getElem?_drop] at hu
    simpa using hu
  · cases hu

theorem new_at {w : World} {o : Obj} {n : Nat} (h : n = w.heap.size) : (w.alloc o).heap[n]? = some o := by
  subst h; exact heap_alloc_new w o
theorem old_at {w : World} {o o' : Obj} {n : Nat} (h : w.heap[n]? = some o') : (w.alloc o).heap[n]? = some o' := by
  have hn : n < w.heap.size := by
    rcases Nat.lt_or_ge n w.heap.size with h' | h'
    · exact h'
    · rw [Array.getElem?_eq_none h'] at h; cases h
  exact (Below.heap_alloc w o n hn).trans h
theorem bcell {W w1 : World} {n : Nat} (hb : Below n W w1) : (∀ b o, b < n → w1.cell? ⟨b, o, none⟩ = W.cell? ⟨b, o, none⟩) ∧ (∀ b o, b < n → w1.frozen? ⟨b, o, none⟩ = W.frozen? ⟨b, o, none⟩) :=
  ⟨fun b o h => hb.cell (p := ⟨b, o, none⟩) h, fun b o h => hb.frozen (p := ⟨b, o, none⟩) h⟩

theorem lt_of_block {w : World} {n : Nat} {o : Obj} (h : w.heap[n]? = some o) : n < w.heap.size := by
  rcases Nat.lt_or_ge n w.heap.size with h' | h'
  · exact h'
  · rw [Array.getElem?_eq_none h'] at h; cases h
theorem cells2 {w : World} {b : Nat} {x y : Value} {t : TypeId} (h : w.heap[b]? = some (.cells #[x, y] t (0, 0))) :
    w.cell? ⟨b, 0, none⟩ = some x ∧ w.cell? ⟨b, 1, none⟩ = some y ∧ w.frozen? ⟨b, 0, none⟩ = false ∧ w.frozen? ⟨b, 1, none⟩ = false ∧ b < w.heap.size :=
  ⟨cell_of_row w b 0 _ t (0, 0) h, cell_of_row w b 1 _ t (0, 0) h, by simp [World.frozen?, h], by simp [World.frozen?, h], lt_of_block h⟩
theorem cells1 {w : World} {b : Nat} {x : Value} {t : TypeId} (h : w.heap[b]? = some (.cells #[x] t (0, 0))) :
    w.cell? ⟨b, 0, none⟩ = some x ∧ w.frozen? ⟨b, 0, none⟩ = false ∧ b < w.heap.size :=
  ⟨cell_of_row w b 0 _ t (0, 0) h, by simp [World.frozen?, h], lt_of_block h⟩

/-- The lower bits of any int. -/
theorem and_mask64 (i : Nat) (hi : i ≤ 62) (x : Int) : bits .and .i64 x (2 ^ i - 1) = x % 2 ^ i := by
  have hpos : 0 < 2 ^ i := Nat.two_pow_pos i
  have h63 : 2 ^ i ≤ 2 ^ 62 := Nat.pow_le_pow_right (by decide) hi
  have hc : ((2 : Int) ^ i - 1) = ((2 ^ i - 1 : Nat) : Int) := by
    rw [Int.natCast_sub hpos]; simp
  have hd : (2 ^ i : Int) ∣ 2 ^ 64 := ⟨2 ^ (64 - i), by rw [← Int.pow_add, Nat.add_sub_cancel' (by omega)]⟩
  have hx : 0 ≤ x % 2 ^ 64 := Int.emod_nonneg _ (by decide)
  have e : ((BitVec.ofInt 64 x &&& BitVec.ofInt 64 (2 ^ i - 1)).toNat : Int) = x % 2 ^ i := by
    rw [BitVec.toNat_and, BitVec.toNat_ofInt, hc, BitVec.ofInt_natCast, BitVec.toNat_ofNat, Nat.mod_eq_of_lt (by omega), Nat.and_two_pow_sub_one_eq_mod]
    rw [Int.natCast_emod, Int.toNat_of_nonneg (by simpa using hx)]
    have := Int.emod_emod_of_dvd x hd
    simpa using this
  have hp' : (0 : Int) < 2 ^ i := by exact_mod_cast hpos
  have hb0 : 0 ≤ x % 2 ^ i := Int.emod_nonneg _ (by omega)
  have hb1 : x % 2 ^ i < 2 ^ i := Int.emod_lt_of_pos _ hp'
  have h63' : (2 ^ i : Int) ≤ 2 ^ 62 := by exact_mod_cast h63
  show IntKind.i64.wrap ((BitVec.ofInt 64 x &&& BitVec.ofInt 64 (2 ^ i - 1)).toNat : Int) = x % 2 ^ i
  rw [e, IntKind.wrap_i64]
  omega
theorem and3_64 (x : Int) : bits .and .i64 x 3 = x % 4 := and_mask64 2 (by decide) x
theorem and1_64 (x : Int) : bits .and .i64 x 1 = x % 2 := and_mask64 1 (by decide) x
theorem pow_pos (n : Nat) : (0 : Int) < 2 ^ n := Int.pow_pos (by decide)
theorem pow_le {m n : Nat} (h : m ≤ n) : (2 : Int) ^ m ≤ 2 ^ n := by exact_mod_cast Nat.pow_le_pow_right (by decide : 0 < 2) h
theorem pow_wrap {n : Nat} (h : n ≤ 62) : wrap64 (2 ^ n) = 2 ^ n := by
  have h1 := pow_pos n
  have h2 := pow_le h
  have h3 : (2 : Int) ^ 62 = 4611686018427387904 := by decide
  generalize (2 : Int) ^ n = p at *
  unfold wrap64
  omega
theorem pow_wrap1 {n : Nat} (h : n ≤ 62) : wrap64 (2 ^ n - 1) = 2 ^ n - 1 := by
  have h1 := pow_pos n
  have h2 := pow_le h
  have h3 : (2 : Int) ^ 62 = 4611686018427387904 := by decide
  generalize (2 : Int) ^ n = p at *
  unfold wrap64
  omega
theorem mask_wrap {n : Nat} (h : n ≤ 62) (x : Int) : bits .and .i64 x (wrap64 (wrap64 (2 ^ n) - 1)) = x % 2 ^ n := by
  rw [pow_wrap h, pow_wrap1 h, and_mask64 n h]

/-- A number divided by a power of 2, rounded: how it goes up, and what it comes to. -/
def goesUp (x s how : Int) : Bool :=
  if how = 0 then false else if how = 1 then decide (2 ^ (s.toNat - 1) ≤ x % 2 ^ s.toNat)
  else decide (2 ^ (s.toNat - 1) < x % 2 ^ s.toNat) || (decide (x % 2 ^ s.toNat = 2 ^ (s.toNat - 1)) && ((x / 2 ^ s.toNat) % 2 == 1))
def rshift (x s how : Int) : Int := if s = 0 then x else if goesUp x s how = true then wrap64 (x / 2 ^ s.toNat + 1) else x / 2 ^ s.toNat

/-- Mantissas: the value of 1, whether a number is one, the one next to a number, and what is told of an operation of some. -/
def mag (fmt : Int) : Int := if fmt = 1 then 2147483648 else 32768
def inm (m x : Int) : Bool := decide (-m ≤ x ∧ x < m)
def sclamp (m x : Int) : Int := if x < -m then -m else if m - 1 < x then m - 1 else x
def satof (fmt : Int) (l : List Int) (v : Int) : Int × Bool × Int :=
  if fmt = 0 ∨ fmt = 1 then (if l.all (inm (mag fmt)) = true then (sclamp (mag fmt) v, sclamp (mag fmt) v != v, 0) else (0, false, 2)) else (0, false, 1)
theorem all_any {α : Type} (p : α → Bool) (l : List α) : l.any (fun x => !p x) = !l.all p := by
  induction l with
  | nil => rfl
  | cons a l ih => rw [List.any_cons, List.all_cons, ih, Bool.not_and]
theorem ret2 {a b c d : Int} (h1 : a = b) (h3 : c = d) : Ending.returned (.tuple #[.int .i64 a, .int .i64 c]) = .returned (.tuple #[.int .i64 b, .int .i64 d]) := by rw [h1, h3]
theorem ret3 {a b : Int} {x y : Bool} {c d : Int} (h1 : a = b) (h2 : x = y) (h3 : c = d) : Ending.returned (.tuple #[.int .i64 a, .bool x, .int .i64 c]) = .returned (.tuple #[.int .i64 b, .bool y, .int .i64 d]) := by rw [h1, h2, h3]

/-- A product of mantissas, shifted. -/
def rmul (fmt mode a b : Int) : Int := rshift (wrap64 (a * b)) (if fmt = 1 then 31 else 15) mode
/-- A number turned by quarters, so many times. -/
def turned (a b : Int) : Nat → Int × Int
  | 0 => (a, b)
  | k + 1 => (wrap64 (-(turned a b k).2), (turned a b k).1)
def qturn (a b n : Int) : Int × Int := if n % 4 = 1 then (-b, a) else if n % 4 = 2 then (-a, -b) else if n % 4 = 3 then (b, -a) else (a, b)
theorem turned_eq {a b n : Int} (ha : -2305843009213693952 ≤ a ∧ a ≤ 2305843009213693952) (hb : -2305843009213693952 ≤ b ∧ b ≤ 2305843009213693952) : turned a b (n % 4).toNat = qturn a b n := by
  have e : ∀ z, -2305843009213693952 ≤ z ∧ z ≤ 2305843009213693952 → wrap64 (-z) = -z := by
    intro z hz
    unfold wrap64
    omega
  have e2 : ∀ z, -2305843009213693952 ≤ z ∧ z ≤ 2305843009213693952 → wrap64 z = z := by
    intro z hz
    unfold wrap64
    omega
  have h : n % 4 = 0 ∨ n % 4 = 1 ∨ n % 4 = 2 ∨ n % 4 = 3 := by omega
  unfold qturn
  rcases h with h | h | h | h <;> rw [h] <;> simp [turned, e a ha, e b hb, e2 a ha, e2 b hb]

theorem norm_bd {x y : Int} (h1 : -2147483648 ≤ x) (h2 : x ≤ 2147483648) (h3 : -2147483648 ≤ y) (h4 : y ≤ 2147483648) :
    IntKind.u64.wrap (IntKind.u64.wrap (wrap64 (x * x)) + IntKind.u64.wrap (wrap64 (y * y))) = x * x + y * y := by
  have e : ∀ z : Int, -2147483648 ≤ z → z ≤ 2147483648 → 0 ≤ z * z ∧ z * z ≤ 4611686018427387904 := by
    intro z hz1 hz2
    have h5 : z.natAbs ≤ 2147483648 := by omega
    have h6 := Nat.mul_le_mul h5 h5
    have h7 : ((z.natAbs * z.natAbs : Nat) : Int) = z * z := by rw [Int.natCast_mul, Int.natAbs_mul_self']
    omega
  have hx := e x h1 h2
  have hy := e y h3 h4
  have u : ∀ z : Int, 0 ≤ z → z < 18446744073709551616 → IntKind.u64.wrap z = z := by
    intro z z1 z2
    have : IntKind.u64.wrap z = z % 18446744073709551616 := by simp [IntKind.wrap, IntKind.bits, IntKind.signed]
    rw [this]
    omega
  have w : ∀ z : Int, 0 ≤ z → z ≤ 4611686018427387904 → wrap64 z = z := by
    intro z z1 z2
    unfold wrap64
    omega
  rw [w _ hx.1 hx.2, w _ hy.1 hy.2, u _ hx.1 (by omega), u _ hy.1 (by omega), u _ (by omega) (by omega)]

/-- How far a pass shifts. -/
def pre (kernel fmt m : Int) : Int :=
  if kernel = 4 then (if m ≤ mag fmt / 8 then 0 else if m ≤ mag fmt / 4 then 1 else if m ≤ mag fmt / 2 then 2 else 3)
  else (if m ≤ mag fmt / 4 then 0 else if m ≤ mag fmt / 2 then 1 else 2)
/-- A number times a power of 2, or told to be too great. -/
def upf (x s : Int) : Int × Int := if s < 0 ∨ 62 < s then (0, 1) else if x < -2 ^ (62 - s).toNat ∨ 2 ^ (62 - s).toNat < x then (0, 2) else (x * 2 ^ s.toNat, 0)
theorem pow_le62 {n : Nat} (h : n ≤ 62) : (2 : Int) ^ n ≤ 4611686018427387904 := by
  have h2 := pow_le h
  have h3 : (2 : Int) ^ 62 = 4611686018427387904 := by decide
  omega
theorem up_bound {x s : Int} (h1 : 0 ≤ s) (h2 : s ≤ 62) (h3 : -2 ^ (62 - s).toNat ≤ x) (h4 : x ≤ 2 ^ (62 - s).toNat) : -4611686018427387904 ≤ x * 2 ^ s.toNat ∧ x * 2 ^ s.toNat ≤ 4611686018427387904 := by
  have hp := pow_pos s.toNat
  have e : (2 : Int) ^ (62 - s).toNat * 2 ^ s.toNat = 4611686018427387904 := by
    rw [← Int.pow_add, show (62 - s).toNat + s.toNat = 62 by omega]
    rfl
  have a := Int.mul_le_mul_of_nonneg_right h4 (show 0 ≤ (2 : Int) ^ s.toNat by omega)
  have b := Int.mul_le_mul_of_nonneg_right h3 (show 0 ≤ (2 : Int) ^ s.toNat by omega)
  rw [Int.neg_mul] at b
  omega
/-! ### a map of ints that the call makes -/
theorem run_getObj_map' {P : Program} {w : World} {r : Nat} {es : Array MapEntry} {clock : Nat} (hb : w.heap[r]? = some (.map es clock)) : (getObj r).run P w = .ok (.map es clock) w := by
  simp [getObj, Sem.run, hb]
theorem run_setObj_new {P : Program} (w : World) (es : Array MapEntry) (clock : Nat) (o' : Obj) : (setObj w.heap.size o').run P (w.alloc (.map es clock)) = .ok () (w.alloc o') := by
  rw [MapKept.run_setObj_map o' (heap_alloc_new w _)]
  congr 1
  unfold World.alloc
  have : (w.heap.push (Obj.map es clock)).setIfInBounds w.heap.size o' = w.heap.push o' := by
    apply Array.ext_getElem?
    intro i
    rw [Array.getElem?_setIfInBounds, Array.getElem?_push, Array.getElem?_push]
    by_cases h : i = w.heap.size
    · subst h; simp
    · rw [if_neg (Ne.symm h), if_neg h, if_neg h]
  simp only [this]
theorem run_checkKey_int {P : Program} {w : World} {kt : TypeId} {k : IntKind} {n : Int} {e : Bool} {m : Nat} (hd : P.underlying kt = some (.int k)) : (Instr.checkKey e (m + 1) kt (.int k n)).run P w = .ok () w := by
  simp [Instr.checkKey, run_underlying hd]
theorem map_put {P : Program} (W : World) {t kt et : TypeId} (es : Array MapEntry) (clock : Nat) (k v : Int) (hu : P.underlying t = some (.map kt et)) (hk : P.underlying kt = some (.int .i64)) (hf : Instr.findNow (.int .i64) (.int .i64 k) es.toList 0 = some none) : (Instr.mapUpdate t (.map (some W.heap.size)) (.int .i64 k) (.int .i64 v)).run P (W.alloc (.map es clock)) = .ok () (W.alloc (.map (es.push ⟨.int .i64 k, .int .i64 v, clock⟩) (clock + 1))) := by
  simp [Instr.mapUpdate, run_underlying hu, run_underlying hk, run_getObj_map' (heap_alloc_new W _), Instr.findKey, hf, run_checkKey_int (m := 9999) hk, run_setObj_new]
theorem map_get {P : Program} (W : World) {t kt et : TypeId} (es : Array MapEntry) (clock : Nat) (k v : Int) (i : Nat) (hu : P.underlying t = some (.map kt et)) (hk : P.underlying kt = some (.int .i64)) (hf : Instr.findNow (.int .i64) (.int .i64 k) es.toList 0 = some (some (i, .int .i64 v))) : (Instr.lookup t (.map (some W.heap.size)) (.int .i64 k) false).run P (W.alloc (.map es clock)) = .ok (.int .i64 v) (W.alloc (.map es clock)) := by
  simp [Instr.lookup, run_underlying hu, run_underlying hk, run_getObj_map' (heap_alloc_new W _), Instr.findKey, hf, run_checkKey_int (m := 9999) hk]
theorem map_miss {P : Program} (W : World) {t kt et : TypeId} (es : Array MapEntry) (clock : Nat) (k : Int) (hu : P.underlying t = some (.map kt et)) (hk : P.underlying kt = some (.int .i64)) (hz : ∀ w, (zeroValue et).run P w = .ok (.int .i64 0) w) (hf : Instr.findNow (.int .i64) (.int .i64 k) es.toList 0 = some none) : (Instr.lookup t (.map (some W.heap.size)) (.int .i64 k) false).run P (W.alloc (.map es clock)) = .ok (.int .i64 0) (W.alloc (.map es clock)) := by
  simp [Instr.lookup, run_underlying hu, run_underlying hk, run_getObj_map' (heap_alloc_new W _), Instr.findKey, hf, run_checkKey_int (m := 9999) hk, hz]

/-! ### only one block has turned (and what is new) -/
theorem only_alloc {a w : World} {row : Option Nat} (h : a.grownBy w row) (o : Obj) : a.grownBy (w.alloc o) row :=
  ⟨h.os, h.tape, h.output, Nat.le_trans h.size (by simp), fun i hi hne => (Below.heap_alloc w o i (Nat.lt_of_lt_of_le hi h.size)).trans (h.block i hi hne)⟩
theorem only_setCell {a w : World} {g : Nat} (h : a.grownBy w (some g)) {p : Addr} (hp : p.block = g ∨ a.heap.size ≤ p.block) (u : Value) : a.grownBy (w.setCell p u) (some g) :=
  ⟨h.os, h.tape, h.output, by simpa [World.setCell] using h.size, fun i hi hne => (Below.heap_setCell w p u i (by
    rintro rfl
    rcases hp with hp | hp
    · exact hne (by rw [hp])
    · omega)).trans (h.block i hi hne)⟩
theorem only_of_below {a w : World} (h : Below a.heap.size a w) (row : Option Nat) : a.grownBy w row := ⟨h.os, h.tape, h.output, h.size, fun i hi _ => h.block i hi⟩
theorem only_trans {a b c : World} {row : Option Nat} (h : a.grownBy b row) (k : b.grownBy c row) : a.grownBy c row :=
  ⟨k.os.trans h.os, k.tape.trans h.tape, k.output.trans h.output, Nat.le_trans h.size k.size, fun i hi hne => (k.block i (Nat.lt_of_lt_of_le hi h.size) hne).trans (h.block i hi hne)⟩
theorem below_only {B : Nat} {w w1 w2 : World} {g : Nat} (h : Below B w w1) (hB : B ≤ w1.heap.size) (hg : B ≤ g) (k : w1.grownBy w2 (some g)) : Below B w w2 :=
  h.grown k hB (by intro q hq; injection hq with hq; omega)

/-- Are both parts so great at most? -/
def win (m re im : Int) : Bool := decide (re ≤ m ∧ im ≤ m ∧ -m ≤ re ∧ -m ≤ im)
theorem win_true {m re im : Int} (h : win m re im = true) : re ≤ m ∧ im ≤ m ∧ -m ≤ re ∧ -m ≤ im := of_decide_eq_true h
theorem win_false {m re im : Int} (h : win m re im = false) : ¬ (re ≤ m ∧ im ≤ m ∧ -m ≤ re ∧ -m ≤ im) := of_decide_eq_false h
/-! For loops over an iterator. -/
theorem it_new (W : World) (v : Value) (t : TypeId) : (W.alloc (.cells #[v] t)).cell? ⟨W.heap.size, 0, none⟩ = some v ∧ (W.alloc (.cells #[v] t)).frozen? ⟨W.heap.size, 0, none⟩ = false := by
  constructor <;> simp
theorem it_alloc {W : World} {a : Addr} {v : Value} (o : Obj) (h : W.cell? a = some v) : (W.alloc o).cell? a = some v := Go.cell_kept h (World.grownBy_alloc W o none) (fun r e => by cases e)
theorem it_alloc_f {W : World} {a : Addr} {v : Value} (o : Obj) (h : W.cell? a = some v) (hf : W.frozen? a = false) : (W.alloc o).frozen? a = false := (Go.frozen_kept h (World.grownBy_alloc W o none) (fun r e => by cases e)).trans hf
/-- A round that goes on keeps this cell. -/
def KeepsAt (p : Addr) (W W' : World) : Prop := ∀ v, W.cell? p = some v → W'.cell? p = some v
theorem KeepsAt.t {p : Addr} {A B C : World} (h : KeepsAt p A B) (k : KeepsAt p B C) : KeepsAt p A C := fun v hv => k v (h v hv)
theorem KeepsAt.b {b o : Nat} {w : World} (W : World) (l : Nat) (x x' : Obj) (_ : w.heap.size ≤ l) (h : W.heap[l]? = some x) (hc : x.isCells = false) (_ : x.isWalk = false) : KeepsAt ⟨b, o, none⟩ W (W.putObj l x') := fun v hv => Go.cell_kept hv (grownBy_putObj' W l x') (fun r e => by cases e; exact ⟨_, h, hc⟩)
/-! ### a region in a round of a loop over an iterator: by the plain calculus -/
def calmOp (o : Oper) : Bool := match o.op with | .defer _ => false | _ => true
theorem op_in_round {l n : Nat} {P : Program} {ops : Array Oper} {Q : Exit → Act → World → Prop} (hQ : ¬ LetsOut Q) (hc : ops.toList.all calmOp = true) {i : Nat} {K : Act → World → Prop} {a : Act} {w : World} (h : wpOp P ops Q i K a w) : wpOpIn (Fence.wide.inRound l) n P ops Q i K a w := by
  unfold wpOp at h
  unfold wpOpIn
  cases ho : ops[i]? with
  | none => rw [ho] at h; exact h
  | some o =>
    rw [ho] at h
    have hm : o ∈ ops.toList := by
      obtain ⟨hi, e⟩ := Array.getElem?_eq_some_iff.1 ho
      rw [← e]
      exact Array.getElem_mem_toList hi
    have hcalm := List.all_eq_true.1 hc o hm
    have hd : ∀ c, o.op ≠ .defer c := by
      intro c e
      unfold calmOp at hcalm
      rw [e] at hcalm
      cases hcalm
    simp only at h ⊢
    split
    · rename_i hw
      rw [if_pos hw] at h
      rcases h with h | ⟨_, h⟩
      · unfold Oper.wp at h
        refine ⟨fun _ _ => trivial, ?_⟩
        rw [Fence.inRound_round, Oper.semAt_some l _ o hd]
        generalize (execOp a.eval o).run P w = r at *
        cases r with
        | ok x w' =>
          cases x
          case value v => exact h
          case skip => exact h
          case defer d => exact h
          case enter f args => exact ⟨fun hx => (Bool.false_ne_true hx).elim, CallsIn.inRound l (callsIn_wide.2 h)⟩
          case row row args =>
            refine ⟨fun hx => (Bool.false_ne_true hx).elim, fun c cs _ => ?_⟩
            obtain ⟨v, w'', r, s⟩ := h c cs
            exact ⟨v, w'', r, stepsIn_wide.2 s⟩
          all_goals exact h.elim
        | halt x w' => cases x <;> exact h
      · exact (hQ h).elim
    · rename_i hw
      rw [if_neg hw] at h
      exact ⟨fun _ _ => trivial, h⟩
theorem any_in_round {l n : Nat} {P : Program} {md : Region.Mode} {ops : Array Oper} {Q : Exit → Act → World → Prop} (hQ : ¬ LetsOut Q) (hc : ops.toList.all calmOp = true) : ∀ (fuel : Nat) (listed : Array Bool) (a : Act) (w : World), wpAny P md ops Q fuel listed a w → wpAnyIn (Fence.wide.inRound l) n P md ops Q fuel listed a w
  | 0, _, _, _, h => h
  | fuel + 1, _, _, _, h => ⟨h.1, fun i hi => wpOpIn_mono (fun a' w' h' => any_in_round hQ hc fuel _ a' w' h') (op_in_round hQ hc (h.2 i hi))⟩
/-- A region in a round, from the world behind the draw on: S holds there. -/
theorem region_in_round {l n : Nat} {P : Program} {id : Nat} {ops : Array Oper} {Q : Exit → Act → World → Prop} {S : World → Prop} {a : Act} {w : World} (hm : P.follows .mixedOrders = true) (hQ : ¬ LetsOut Q) (hc : ops.toList.all calmOp = true) (hS : S w.drew)
    (h : S w.drew → wpAnyH P .any ops Q S ops.size (Array.replicate ops.size false) a w.drew) : (Code.region id ops true).wpIn (Fence.wide.inRound l) n P Q a w :=
  wpIn_region_any hm (any_in_round hQ hc _ _ _ _ (wpAny_of_held _ _ _ _ (h hS)))
/-! ### short names for great printed texts -/
theorem q1 {α : Type} (l : List α) (i : Nat) (a : α) : l.toArray.setIfInBounds i a = (l.set i a).toArray := List.setIfInBounds_toArray l i a
theorem q2 {α : Type} (x a : α) (l : List α) : (a :: l).set 0 x = x :: l := rfl
theorem q3 {α : Type} (x a : α) (l : List α) (n : Nat) : (a :: l).set (n + 1) x = a :: l.set n x := rfl
theorem am {p : Prop} (h : p) : Aside0 p := ⟨h⟩
theorem ba {w : World} {g : Nat} {o : Obj} (h : w.heap[g]? = some o) (o' : Obj) : (w.alloc o').heap[g]? = some o := blk_alloc h o'
theorem bd {w : World} {g : Nat} {o : Obj} (h : w.heap[g]? = some o) : w.drew.heap[g]? = some o := h
theorem bn {w : World} {g : Nat} {o : Obj} (h : w.heap[g]? = some o) (n : Nat) : (w.drewN n).heap[g]? = some o := h
end Go.Proofs.YtfemklaeonkidaaW.Hand

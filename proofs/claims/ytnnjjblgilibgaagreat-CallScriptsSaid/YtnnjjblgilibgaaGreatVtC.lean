import Derived.Test.YtnnjjblgilibgaaGreatVgA
import Derived.Test.YtnnjjblgilibgaaGreatVsC
import Derived.Test.YtnnjjblgilibgaaGreatVlF
import Derived.Test.YtnnjjblgilibgaaGreatVtB
/- Contracts: how great numbers are, and how far they are shifted; by the document too. -/
namespace Go.Proofs.YtnnjjblgilibgaaGreatV
open Go Go.RowKit
set_option linter.unusedVariables false
set_option linter.unusedSimpArgs false
set_option maxRecDepth 100000
set_option maxHeartbeats 40000000
theorem fine58 : Fine Tryz.prog 58 := fun _ _ => by kernel_rfl
theorem fine21 : Fine Tryz.prog 21 := fun _ _ => by kernel_rfl
theorem fine211 : Fine Tryz.prog 211 := fun _ _ => by kernel_rfl
theorem fine22 : Fine Tryz.prog 22 := fun _ _ => by kernel_rfl
theorem fine61 : Fine Tryz.prog 61 := fun _ _ => by kernel_rfl
theorem fine102 : Fine Tryz.prog 102 := fun _ _ => by kernel_rfl
theorem fine54 : Fine Tryz.prog 54 := fun _ _ => by kernel_rfl
theorem fine97 : Fine Tryz.prog 97 := fun _ _ => by kernel_rfl
theorem fine53 : Fine Tryz.prog 53 := fun _ _ => by kernel_rfl
theorem shB {f : Int} (hf : fmt f) : IntKind.i64.wrap (1 * 2 ^ min (fB f).toNat IntKind.i64.bits) = fM f := by
  rcases hf with rfl | rfl <;> decide
theorem fB_pos {f : Int} (hf : fmt f) : 0 ≤ fB f := by rcases hf with rfl | rfl <;> decide
theorem smay.ok (m f : Int) (hf : fmt f) (hm : 0 ≤ m ∧ m ≤ fM f) : Ok Tryz.prog 58 [.int m, .int f] (.tup [.int (fB f), .int 0]) := by
  have h1 : ¬ m < 0 := by omega
  have h2 : ¬ fM f < m := by omega
  refine ok_of (X := fun _ => []) (Z := fun _ => false) (res := [ResultVar.tmp 4, ResultVar.tmp 5]) tok follows Tryz.func58 rfl rfl fine58 (by kernel_rfl) (by kernel_rfl) ?_
  simp only [evA, evT, evD, seval]
  refine call_ok (Bits.ok f hf) rfl ?_
  simp only [evA, evT, evD, seval, h1, h2, shB hf, fB_pos hf]
/-- How far a map says a pass shifts at most: the region by hand. -/
theorem pre_hand (k0 : Nat) (kern L : Int) (hk : kern = 2 ∧ L = 2 ∨ kern = 4 ∧ L = 3) (env : List (Nat × AV)) (lbl : List (Nat × Option LB)) (nx : Nat) (h : look 0 env = some (.int kern)) {t0 t1 t2 t3 t4 t5 t6 : TypeId} {p0 p1 p2 p3 p4 p5 p6 : String} {a0 a1 a2 a3 a4 a5 a6 : Array Edge} :
    RegH Tryz.prog k0 #[⟨some 12, .makeMap 226 none, t0, p0, a0, none⟩, ⟨none, .insert 226 (.tmp 12) (.const (.int .i64 2)) (.const (.int .i64 2)), t1, p1, a1, none⟩, ⟨none, .insert 226 (.tmp 12) (.const (.int .i64 4)) (.const (.int .i64 3)), t2, p2, a2, none⟩, ⟨some 13, .move (.tmp 12), t3, p3, a3, none⟩, ⟨some 14, .move (.tmp 0), t4, p4, a4, none⟩, ⟨some 15, .lookup 226 (.tmp 13) (.tmp 14) false, t5, p5, a5, none⟩, ⟨some 8, .assign (.tmp 15), t6, p6, a6, none⟩] false
      ⟨env, lbl, nx⟩ ⟨(8, .int L) :: (15, .int L) :: (14, .any) :: (13, .any) :: (12, .any) :: env, lbl, nx⟩ := by
  intro n w0 M N0 a w Q hM hd ht hQ
  refine ⟨fun _ => ?_, fun h => by cases h⟩
  simp only [dstsOk, dstLt, Bool.and_eq_true] at hd
  obtain ⟨d0, _, _, d3, d4, d5, d6, _⟩ := hd
  have d0 := blt_lt d0
  have d3 := blt_lt d3
  have d4 := blt_lt d4
  have d5 := blt_lt d5
  have d6 := blt_lt d6
  have hkk : a.eval (.tmp 0) = .int .i64 kern := tel_raw ht h
  have hs : a.tmps.size = n := by obtain ⟨φ, N, R⟩ := ht; exact R.size
  show wpOps _ _ _ [0, 1, 2, 3, 4, 5, 6] a w
  have hp0 : (Instr.mapUpdate 226 (.map (some w.heap.size)) (.int .i64 2) (.int .i64 2)).run Tryz.prog (w.alloc (.map #[] 0)) = .ok () (w.alloc (.map #[⟨.int .i64 2, .int .i64 2, 0⟩] 1)) := mapPut w #[] 0 2 _ Tryz.underlying226 Tryz.underlying3 rfl
  have hp1 : (Instr.mapUpdate 226 (.map (some w.heap.size)) (.int .i64 4) (.int .i64 3)).run Tryz.prog (w.alloc (.map #[⟨.int .i64 2, .int .i64 2, 0⟩] 1)) = .ok () (w.alloc (.map #[⟨.int .i64 2, .int .i64 2, 0⟩, ⟨.int .i64 4, .int .i64 3, 1⟩] 2)) := mapPut w #[⟨.int .i64 2, .int .i64 2, 0⟩] 1 4 _ Tryz.underlying226 Tryz.underlying3 rfl
  have hlk : (Instr.lookup 226 (.map (some w.heap.size)) (.int .i64 kern) false).run Tryz.prog (w.alloc (.map #[⟨.int .i64 2, .int .i64 2, 0⟩, ⟨.int .i64 4, .int .i64 3, 1⟩] 2)) = .ok (.int .i64 L) (w.alloc (.map #[⟨.int .i64 2, .int .i64 2, 0⟩, ⟨.int .i64 4, .int .i64 3, 1⟩] 2)) := by
    rcases hk with ⟨rfl, rfl⟩ | ⟨rfl, rfl⟩
    · exact mapHit 2 false (i := 0) (heap_alloc_new w _) Tryz.underlying226 Tryz.underlying3 rfl
    · exact mapHit 4 false (i := 1) (heap_alloc_new w _) Tryz.underlying226 Tryz.underlying3 rfl
  have hmk := @run_makeMap Tryz.prog
  refine hand_v (o := ⟨some 12, .makeMap 226 none, t0, p0, a0, none⟩) (w' := w.alloc (.map #[] 0)) (v := .map (some w.heap.size)) rfl rfl (by simp [execOp, hmk]) ?_
  have s1 : (a.put (some 12) (.map (some w.heap.size))).tmps.size = n := by rw [sz_put, hs]
  refine hand_skip (o := ⟨none, .insert 226 (.tmp 12) (.const (.int .i64 2)) (.const (.int .i64 2)), t1, p1, a1, none⟩) (w' := w.alloc (.map #[⟨.int .i64 2, .int .i64 2, 0⟩] 1)) rfl rfl (by simp [execOp, ev_hit (show 12 < a.tmps.size by omega), ev_const, hp0]) rfl ?_
  refine hand_skip (o := ⟨none, .insert 226 (.tmp 12) (.const (.int .i64 4)) (.const (.int .i64 3)), t2, p2, a2, none⟩) (w' := w.alloc (.map #[⟨.int .i64 2, .int .i64 2, 0⟩, ⟨.int .i64 4, .int .i64 3, 1⟩] 2)) rfl rfl (by simp [execOp, ev_hit (show 12 < a.tmps.size by omega), ev_const, hp1]) rfl ?_
  have hb : Below w.heap.size w (w.alloc (.map #[⟨.int .i64 2, .int .i64 2, 0⟩, ⟨.int .i64 4, .int .i64 3, 1⟩] 2)) := (Below.refl _ w).alloc (Nat.le_refl _) _
  have u0 := tel_put (t := 12) (tel_below ht hb) d0 (x := .raw (.map (some w.heap.size))) (fun _ _ => .raw (.map (some w.heap.size)))
  have e12 := tel_raw u0 (t := 12) (v := .map (some w.heap.size)) (by show look 12 ((12, _) :: env) = _; rw [look_cons, if_pos rfl])
  refine step_move (.raw (.map (some w.heap.size))) (u := 12) rfl d3 (by show look 12 ((12, _) :: env) = _; rw [look_cons, if_pos rfl]) u0 fun b1 u1 => ?_
  refine step_move (.int kern) (u := 0) rfl d4 (by show look 0 ((13, _) :: (12, _) :: env) = _; rw [look_cons, if_neg (by decide), look_cons, if_neg (by decide)]; exact h) u1 fun b2 u2 => ?_
  have e13 := tel_raw u2 (t := 13) (v := .map (some w.heap.size)) (by show look 13 ((14, _) :: (13, _) :: _) = _; rw [look_cons, if_neg (by decide), look_cons, if_pos rfl])
  have e14 := tel_raw u2 (t := 14) (v := .int .i64 kern) (by show look 14 ((14, _) :: _) = _; rw [look_cons, if_pos rfl])
  refine step_raw (.int .i64 L) rfl d5 (by rw [← e13, ← e14] at hlk; simp [execOp, hlk]) u2 fun b3 u3 => ?_
  refine step_assign (.int L) (u := 15) rfl d6 (by show look 15 ((15, _) :: _) = _; rw [look_cons, if_pos rfl]) u3 fun b4 u4 => ?_
  refine hQ _ _ (tel_any u4 ?_)
  exact (((((Less.refl env).cons 12 (.inr rfl)).cons 13 (.inr rfl)).cons 14 (.inr rfl)).cons 15 (.inl rfl)).cons 8 (.inl rfl)
def hM (f : Int) : Int := if f = 1 then 1073741824 else 16384
theorem bits64 {k : Nat} (h : k ≤ 64) : min k IntKind.i64.bits = k := Nat.min_eq_left h
/-- The greatest shift up to n that stays within H. -/
def rN (m H : Int) : Nat → Nat
  | 0 => 0
  | n + 1 => if m * 2 ^ (n + 1) ≤ H then n + 1 else rN m H n
theorem rN_le (m H : Int) : ∀ n, rN m H n ≤ n
  | 0 => Nat.le_refl _
  | n + 1 => by
    rw [rN]
    split
    · exact Nat.le_refl _
    · exact Nat.le_succ_of_le (rN_le m H n)
theorem rN_in (m H : Int) : ∀ n, 0 < rN m H n → m * 2 ^ rN m H n ≤ H
  | 0 => fun h => by simp [rN] at h
  | n + 1 => by
    rw [rN]
    split
    · rename_i h; exact fun _ => h
    · exact rN_in m H n
theorem rN_out (m H : Int) : ∀ n s, rN m H n < s → s ≤ n → ¬ m * 2 ^ s ≤ H
  | 0 => fun s h1 h2 => by omega
  | n + 1 => by
    intro s
    rw [rN]
    split
    · intro h1 h2; omega
    · rename_i h
      intro h1 h2
      by_cases e : s = n + 1
      · rw [e]; exact h
      · exact rN_out m H n s h1 (by omega)
def rmV (f m : Int) : Int := if 0 < m then (rN m (hM f) 31 : Nat) else 0
theorem rN_30 {f m : Int} (hf : fmt f) (hm : 0 < m) : rN m (hM f) 31 ≤ 30 := by
  have h1 : ¬ m * 2 ^ 31 ≤ hM f := by
    have : hM f ≤ 1073741824 := by unfold hM; split <;> omega
    omega
  rw [rN, if_neg h1]
  exact rN_le _ _ _
theorem mul_p2 {m : Int} (hm : 0 < m) {a b : Nat} (h : a ≤ b) : m * 2 ^ a ≤ m * 2 ^ b := Int.mul_le_mul_of_nonneg_left (by exact_mod_cast Nat.pow_le_pow_right (by decide) h) (Int.le_of_lt hm)
theorem fM_le {f : Int} (hf : fmt f) : fM f ≤ 2147483648 ∧ 32768 ≤ fM f := by rcases hf with rfl | rfl <;> decide
theorem Room.ok (m f : Int) (hf : fmt f) (hm : 0 ≤ m ∧ m ≤ fM f) : Ok Tryz.prog 21 [.int m, .int f] (.tup [.int (rmV f m), .int 0]) := by
  refine ok_of (X := fun _ => []) (Z := fun _ => false) (res := [ResultVar.tmp 4, ResultVar.tmp 5]) tok follows Tryz.func21 rfl rfl fine21 (by kernel_rfl) (by kernel_rfl) ?_
  simp only [evA, evT, evD, seval]
  refine call_ok (smay.ok m f hf hm) rfl ?_
  by_cases h0 : m = 0
  · subst h0
    simp only [evA, evT, evD, seval, rmV, Int.lt_irrefl]
  have hpos : 0 < m := by omega
  have hle := fM_le hf
  have e1 : IntKind.i64.wrap (fB f - 1) = fB f - 1 := by rcases hf with rfl | rfl <;> decide
  have e2 : IntKind.i64.wrap (1 * 2 ^ min (fB f - 1).toNat IntKind.i64.bits) = hM f := by rcases hf with rfl | rfl <;> decide
  have e3 : (0 : Int) ≤ fB f - 1 := by rcases hf with rfl | rfl <;> decide
  have h30 := rN_30 hf hpos
  simp only [evA, evT, evD, seval, h0]
  refine l_inv (fun i => ⟨[(8, .int i), (0, .int m), (6, .int (fB f))], [], 0⟩) (rN m (hM f) 31) ?_ (fun i hi K hK => ?_) (fun K => ?_)
  · refine weak_of (fun l => l) rfl trivial ?_
    simp only [evA, evB, evT, evD, seval, Int.natCast_zero]
  · have q3 : IntKind.i64.wrap ((i : Int) + 1) = ((i + 1 : Nat) : Int) := by rw [wr (by omega)]; omega
    have q4 : (0 : Int) ≤ ((i + 1 : Nat) : Int) := by omega
    have hin := rN_in m (hM f) 31 (by omega)
    have hmon := mul_p2 hpos (show i + 1 ≤ rN m (hM f) 31 by omega)
    have hM' : hM f ≤ 1073741824 := by unfold hM; split <;> omega
    have hnn : 0 ≤ m * 2 ^ (i + 1) := Int.mul_nonneg (by omega) (Int.pow_nonneg (by omega))
    have q5 : IntKind.i64.wrap (m * 2 ^ min (i + 1) IntKind.i64.bits) = m * 2 ^ (i + 1) := by
      rw [bits64 (by omega), wr (by omega)]
    have q6 : m * 2 ^ (i + 1) ≤ hM f := by omega
    simp only [evA, evT, evD, seval, q3, q4, Int.toNat_natCast, q5, e1, e2, e3, q6]
    refine hK _ (weak_of (fun l => l) rfl trivial ?_)
    simp only [evA, evB, evT, evD, seval]
  · have q3 : IntKind.i64.wrap (((rN m (hM f) 31 : Nat) : Int) + 1) = ((rN m (hM f) 31 + 1 : Nat) : Int) := by rw [wr (by omega)]; omega
    have q4 : (0 : Int) ≤ ((rN m (hM f) 31 + 1 : Nat) : Int) := by omega
    have hout := rN_out m (hM f) 31 (rN m (hM f) 31 + 1) (by omega) (by omega)
    have hM' : hM f ≤ 1073741824 := by unfold hM; split <;> omega
    have hb : m * 2 ^ rN m (hM f) 31 ≤ 2147483648 := by
      by_cases h : 0 < rN m (hM f) 31
      · have := rN_in m (hM f) 31 h; omega
      · have : rN m (hM f) 31 = 0 := by omega
        rw [this]; omega
    have e0 : m * 2 ^ (rN m (hM f) 31 + 1) = m * 2 ^ rN m (hM f) 31 * 2 := by rw [Int.pow_succ, Int.mul_assoc]
    have hnn : 0 ≤ m * 2 ^ rN m (hM f) 31 := Int.mul_nonneg (by omega) (Int.pow_nonneg (by omega))
    have q5 : IntKind.i64.wrap (m * 2 ^ min (rN m (hM f) 31 + 1) IntKind.i64.bits) = m * 2 ^ (rN m (hM f) 31 + 1) := by
      rw [bits64 (by omega), wr (by omega)]
    simp only [evA, evT, evD, seval, q3, q4, Int.toNat_natCast, q5, e1, e2, e3, hout, rmV, hpos]
/-- A pass's shift. -/
def preV (k f m : Int) : Int :=
  if k = 4 then (if m ≤ fM f / 8 then 0 else if m ≤ fM f / 4 then 1 else if m ≤ fM f / 2 then 2 else 3) else (if m ≤ fM f / 4 then 0 else if m ≤ fM f / 2 then 1 else 2)
theorem wq12 : IntKind.i64.wrap 12 = 12 := by decide
theorem sq12 : IntKind.i64.wrap (1 * 2 ^ min 12 IntKind.i64.bits) = 4096 := by decide
theorem wq13 : IntKind.i64.wrap 13 = 13 := by decide
theorem sq13 : IntKind.i64.wrap (1 * 2 ^ min 13 IntKind.i64.bits) = 8192 := by decide
theorem wq14 : IntKind.i64.wrap 14 = 14 := by decide
theorem sq14 : IntKind.i64.wrap (1 * 2 ^ min 14 IntKind.i64.bits) = 16384 := by decide
theorem wq15 : IntKind.i64.wrap 15 = 15 := by decide
theorem sq15 : IntKind.i64.wrap (1 * 2 ^ min 15 IntKind.i64.bits) = 32768 := by decide
theorem wq28 : IntKind.i64.wrap 28 = 28 := by decide
theorem sq28 : IntKind.i64.wrap (1 * 2 ^ min 28 IntKind.i64.bits) = 268435456 := by decide
theorem wq29 : IntKind.i64.wrap 29 = 29 := by decide
theorem sq29 : IntKind.i64.wrap (1 * 2 ^ min 29 IntKind.i64.bits) = 536870912 := by decide
theorem wq30 : IntKind.i64.wrap 30 = 30 := by decide
theorem sq30 : IntKind.i64.wrap (1 * 2 ^ min 30 IntKind.i64.bits) = 1073741824 := by decide
theorem wq31 : IntKind.i64.wrap 31 = 31 := by decide
theorem sq31 : IntKind.i64.wrap (1 * 2 ^ min 31 IntKind.i64.bits) = 2147483648 := by decide
theorem Pre.ok (k m f : Int) (hk : k = 2 ∨ k = 4) (hf : fmt f) (hm : 0 ≤ m ∧ m ≤ fM f) : Ok Tryz.prog 211 [.int k, .int m, .int f] (.tup [.int (preV k f m), .int 0]) := by
  refine ok_of (X := fun _ => []) (Z := fun r => Nat.beq r 1) (res := [ResultVar.tmp 6, ResultVar.tmp 7]) tok follows Tryz.func211 rfl rfl fine211 (by kernel_rfl) (by kernel_rfl) ?_
  simp only [evA, evB, evT, evD, seval]
  refine hand_of _ (pre_hand 0 k (if k = 2 then 2 else 3) (by rcases hk with rfl | rfl <;> decide) _ _ _ rfl) ?_
  simp only [evA, evB, evT, evD, seval]
  refine call_ok (smay.ok m f hf hm) rfl ?_
  rcases hk with rfl | rfl <;> rcases hf with rfl | rfl
  all_goals
    simp only [evA, evB, evT, evD, seval, fB]
    refine ⟨5, l_succ ?_⟩
    simp only [evA, evB, evT, evD, seval, wq12, wq13, wq14, wq15, wq28, wq29, wq30, wq31, sq12, sq13, sq14, sq15, sq28, sq29, sq30, sq31]
    repeat' (first | (refine And.intro (fun h => ?_) (fun h => ?_)) | (refine l_succ ?_; simp only [evA, evB, evT, evD, seval, wq12, wq13, wq14, wq15, wq28, wq29, wq30, wq31, sq12, sq13, sq14, sq15, sq28, sq29, sq30, sq31]))
    all_goals simp only [preV, fM, reduceIte, Int.reduceEq, Int.reduceDiv]
    all_goals (repeat' split) <;> first | rfl | (exfalso; omega)
theorem upShift.ok (x s : Int) (hs : 0 ≤ s ∧ s ≤ 31) (hx : -2147483648 ≤ x ∧ x ≤ 2147483648) : Ok Tryz.prog 61 [.int x, .int s] (.tup [.int (x * 2 ^ s.toNat), .int 0]) := by
  obtain ⟨n, rfl⟩ : ∃ n : Nat, s = n := ⟨s.toNat, by omega⟩
  have hn : n ≤ 31 := by omega
  have h1 : ¬ (n : Int) < 0 := by omega
  have h2 : ¬ (62 : Int) < n := by omega
  have h3 : IntKind.i64.wrap (62 - (n : Int)) = ((62 - n : Nat) : Int) := by rw [wr (by omega)]; omega
  have h4 : (0 : Int) ≤ ((62 - n : Nat) : Int) := by omega
  have hpl : (2 : Int) ^ 31 ≤ 2 ^ (62 - n) := p2le (by omega)
  have hpu : (2 : Int) ^ (62 - n) ≤ 2 ^ 62 := p2le (by omega)
  have h5 : IntKind.i64.wrap (1 * 2 ^ min (62 - n) IntKind.i64.bits) = 2 ^ (62 - n) := by rw [bits64 (by omega), wr (by omega)]; omega
  have h6 : IntKind.i64.wrap (0 - 2 ^ (62 - n)) = -2 ^ (62 - n) := by rw [wr (by omega)]; omega
  have h7 : ¬ x < -2 ^ (62 - n) := by omega
  have h8 : ¬ 2 ^ (62 - n) < x := by omega
  have h9 : (0 : Int) ≤ (n : Int) := by omega
  have hp1 : (1 : Int) ≤ 2 ^ n := by have := p2le (show 0 ≤ n by omega); simpa using this
  have hp2 : (2 : Int) ^ n ≤ 2 ^ 31 := p2le hn
  have ha : x * 2 ^ n ≤ 2147483648 * 2 ^ n := Int.mul_le_mul_of_nonneg_right hx.2 (by omega)
  have hb : -2147483648 * 2 ^ n ≤ x * 2 ^ n := Int.mul_le_mul_of_nonneg_right hx.1 (by omega)
  have h10 : IntKind.i64.wrap (x * 2 ^ min n IntKind.i64.bits) = x * 2 ^ n := by rw [bits64 (by omega), wr (by omega)]
  refine ok_of (X := fun _ => []) (Z := fun _ => false) (res := [ResultVar.tmp 4, ResultVar.tmp 5]) tok follows Tryz.func61 rfl rfl fine61 (by kernel_rfl) (by kernel_rfl) ?_
  simp only [evA, evT, evD, seval, h1, h2, h3, h4, Int.toNat_natCast, h5, h6, h7, h8, h9, h10]
/-- A number, shifted. -/
def shV (s mode : Int) (p : Int × Int) : Int × Int := if 0 ≤ s then (rsh p.1 s mode, rsh p.2 s mode) else (p.1 * 2 ^ (-s).toNat, p.2 * 2 ^ (-s).toNat)
def shP (s mode : Int) (xs : List (Int × Int)) (m : Nat) : List (Int × Int) := (List.range m).map fun i => shV s mode (xs.getD i (0, 0))
theorem shP_len {s mode : Int} {xs : List (Int × Int)} {m : Nat} : (shP s mode xs m).length = m := by simp [shP]
theorem shP_succ {s mode : Int} {xs : List (Int × Int)} {m : Nat} : shP s mode xs m ++ [shV s mode (xs.getD m (0, 0))] = shP s mode xs (m + 1) := by simp [shP, List.range_succ]
abbrev shL (s mode : Int) (xs : List (Int × Int)) : List (Int × Int) := xs.map (shV s mode)
theorem shP_all {s mode : Int} {xs : List (Int × Int)} : shP s mode xs xs.length = shL s mode xs := by
  apply List.ext_getElem
  · simp [shP]
  · intro i h1 h2
    have : i < xs.length := by simpa using h2
    simp [shP, List.getD_eq_getElem?_getD, this]
theorem near_at {m : Int} {xs : List (Int × Int)} (h : nears m xs) {i : Nat} (hi : i < xs.length) : win m (xs.getD i (0, 0)).1 (xs.getD i (0, 0)).2 := by
  rw [List.getD_eq_getElem?_getD, List.getElem?_eq_getElem hi]
  exact h _ (List.getElem_mem hi)
theorem Shifted.ok (xs : List (Int × Int)) (s mode : Int) (hs : -31 ≤ s ∧ s ≤ 31) (hm : 0 ≤ mode ∧ mode ≤ 2) (hl : xs.length ≤ 1000000) (hx : nears 2147483648 xs) : Ok Tryz.prog 22 [.sl 2 (cxRows xs), .int s, .int mode] (.tup [.sl 2 (cxRows (shL s mode xs)), .int 0]) := by
  have hneg : IntKind.i64.wrap (0 - s) = -s := by rw [wr (by omega)]; omega
  refine ok_of (X := fun _ => []) (Z := fun _ => false) (res := [ResultVar.tmp 6, ResultVar.tmp 7]) tok follows Tryz.func22 rfl rfl fine22 (by kernel_rfl) (by kernel_rfl) ?_
  simp only [evA, evT, evD, seval, hneg]
  have hmx : (if s < -s then -s else s) = max s (-s) := by rw [Int.max_def]; split <;> split <;> omega
  simp only [hmx]
  refine call_ok (Shift.ok 0 (max s (-s)) mode (by omega) hm (by decide)) rfl ?_
  simp only [evA, evT, evD, seval, cx_len]
  refine ⟨⟨by omega, by omega, by omega⟩, ?_⟩
  refine l_inv (fun i => ⟨[(34, .int i), (33, .int xs.length), (32, .sl 2 (cxRows xs)), (10, .own 0), (1, .int s), (2, .int mode)], [(0, some (.row 43 2 (cxRows (shP s mode xs i))))], 1⟩) xs.length ?_ (fun i hi K hK => ?_) (fun K => ?_)
  · refine weak_of (fun l => l) rfl ?_ ?_
    all_goals simp only [evA, evB, evT, evD, seval, cx_free, Int.natCast_zero, show cxRows (shP s mode xs 0) = [] from rfl]
  · have q0 : (i : Int) < (xs.length : Int) := by omega
    have q1 : IntKind.i64.wrap ((i : Int) + 1) = ((i + 1 : Nat) : Int) := by rw [wr (by omega)]; omega
    have q2 : (0 : Int) ≤ (i : Int) := by omega
    have hi1 : (i + 1) * 16 ≤ 140737488355328 := by omega
    have hi2 : i + 1 ≤ 9223372036854775807 := by omega
    have hw := near_at hx hi
    have hsucc := @shP_succ s mode xs i
    generalize hp : xs.getD i (0, 0) = p at hw hsucc
    have hat := cx_getD hi
    rw [hp] at hat
    unfold win at hw
    by_cases h0 : 0 ≤ s
    · have e : shV s mode p = (rsh p.1 s mode, rsh p.2 s mode) := by unfold shV; rw [if_pos h0]
      rw [e] at hsucc
      simp only [evA, evB, evT, evD, seval, q0, q2, cx_len, Int.toNat_natCast, hat, h0]
      refine call_ok (cxShift.ok p.1 p.2 s mode (by omega) hm (by unfold in64; omega) (by unfold in64; omega)) rfl ?_
      simp only [evA, evB, evT, evD, seval, cx_len, shP_len, hi1, hi2, cx_push, hsucc, q1]
      refine hK _ (weak_of (fun l => l + 3) rfl ?_ ?_)
      all_goals simp only [evA, evB, evT, evD, seval, cx_free]
    · have e : shV s mode p = (p.1 * 2 ^ (-s).toNat, p.2 * 2 ^ (-s).toNat) := by unfold shV; rw [if_neg h0]
      rw [e] at hsucc
      simp only [evA, evB, evT, evD, seval, q0, q2, cx_len, Int.toNat_natCast, hat, h0, hneg]
      refine call_ok (upShift.ok p.1 (-s) (by omega) (by omega)) rfl ?_
      simp only [evA, evB, evT, evD, seval, hneg]
      refine call_ok (upShift.ok p.2 (-s) (by omega) (by omega)) rfl ?_
      simp only [evA, evB, evT, evD, seval, cx_len, shP_len, hi1, hi2, cx_push, hsucc, q1]
      refine hK _ (weak_of (fun l => l + 3) rfl ?_ ?_)
      all_goals simp only [evA, evB, evT, evD, seval, cx_free]
  · simp only [evA, evB, evT, evD, seval, cx_free, shP_all]
end Go.Proofs.YtnnjjblgilibgaaGreatV

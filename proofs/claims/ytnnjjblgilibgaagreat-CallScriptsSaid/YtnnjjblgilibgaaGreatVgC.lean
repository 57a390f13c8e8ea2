import Derived.Test.YtnnjjblgilibgaaGreatVgB
import Derived.Test.YtnnjjblgilibgaaGreatVcE
import Derived.WalkKit
import Derived.ProofKit
import Derived.OpenShut
import Derived.ShutString
import Derived.ChangeOld
import Derived.Below
import Derived.SizedLaws
import Derived.Lib.SmallJoins
/- Contracts of the functions of the package four: what a quad is. -/
namespace Go.Proofs.YtnnjjblgilibgaaGreatV
open Go Go.RowKit
set_option linter.unusedVariables false
set_option linter.unusedSimpArgs false
set_option maxRecDepth 100000
set_option maxHeartbeats 40000000
theorem fine125 : Fine Tryz.prog 125 := fun _ _ => by kernel_rfl
theorem fine123 : Fine Tryz.prog 123 := fun _ _ => by kernel_rfl
theorem fine165 : Fine Tryz.prog 165 := fun _ _ => by kernel_rfl
theorem fine152 : Fine Tryz.prog 152 := fun _ _ => by kernel_rfl
theorem dec_t {p : Prop} [Decidable p] : (AV.raw (Value.bool true) = AV.bool (decide p)) = p := by simp
theorem dec_f {p : Prop} [Decidable p] : (AV.raw (Value.bool false) = AV.bool (decide p)) = ¬ p := by simp
theorem dec_d {p q : Prop} [Decidable p] [Decidable q] : (AV.raw (Value.bool (decide p)) = AV.bool (decide q)) = (p ↔ q) := by simp
theorem turns.ok (inv : Bool) : Ok Tryz.prog 165 [.bool inv] (.agg [.int 0, .int (if inv = true then 1 else 3), .int 2, .int (if inv = true then 3 else 1)]) := by
  refine ok_of (X := fun _ => []) (Z := fun _ => false) (res := [ResultVar.cell 2 189]) tok follows Tryz.func165 rfl rfl fine165 (by kernel_rfl) (by kernel_rfl) ?_
  cases inv <;> simp only [evA, evT, evD, seval]
theorem settings4.ok (bits s mode : Int) : Ok Tryz.prog 125 [.int bits, .int s, .int mode] (.bool (decide ((0 ≤ bits ∧ bits ≤ 29) ∧ (0 ≤ s ∧ s ≤ 3) ∧ 0 ≤ mode ∧ mode ≤ 2))) := by
  refine ok_of (X := fun _ => []) (Z := fun _ => false) (res := [ResultVar.tmp 6]) tok follows Tryz.func125 rfl rfl fine125 (by kernel_rfl) (by kernel_rfl) ?_
  simp only [evA, evT, evD, seval]
  by_cases hm : 0 ≤ mode ∧ mode ≤ 2
  · refine call_ok (Shift.ok 0 0 mode (by omega) hm (by omega)) rfl ?_
    simp only [evA, evT, evD, seval, dec_t, dec_f]
    omega
  · refine call_ok (Shift.bad 0 0 mode (by omega)) rfl ?_
    simp only [evA, evT, evD, seval, dec_t, dec_f]
    omega
theorem narrow4.ok (m a b : Int) (hm : 0 ≤ m ∧ m ≤ 4611686018427387904) : Ok Tryz.prog 123 [cxA a b, .int m] (.bool (decide (win m a b))) := by
  have e1 : IntKind.i64.wrap (0 - m) = -m := by rw [wr (by omega)]; omega
  refine ok_of (X := fun _ => []) (Z := fun _ => false) (res := [ResultVar.tmp 4]) tok follows Tryz.func123 rfl rfl fine123 (by kernel_rfl) (by kernel_rfl) ?_
  simp only [evA, evT, evD, seval, e1, dec_t, dec_f, dec_d, win]
  omega
/-- Cells of four numbers. -/
abbrev arr4 (a0 b0 a1 b1 a2 b2 a3 b3 : Int) : AV := .agg [.int a0, .int b0, .int a1, .int b1, .int a2, .int b2, .int a3, .int b3]
theorem tRe_near {m x y n : Int} (h : win m x y) (h0 : 0 ≤ m) : -m ≤ tRe x y n ∧ tRe x y n ≤ m := by
  unfold win at h
  unfold tRe
  split
  · omega
  · split
    · omega
    · split <;> omega
theorem tIm_near {m x y n : Int} (h : win m x y) (h0 : 0 ≤ m) : -m ≤ tIm x y n ∧ tIm x y n ≤ m := by
  unfold win at h
  unfold tIm
  split
  · omega
  · split
    · omega
    · split <;> omega
theorem pow29 {bits : Int} (hb : 0 ≤ bits ∧ bits ≤ 29) : 1 ≤ (2 : Int) ^ bits.toNat ∧ (2 : Int) ^ bits.toNat ≤ 536870912 := by
  have := pow_pos bits.toNat
  have : (2 : Int) ^ bits.toNat ≤ 2 ^ 29 := pow_le (by omega)
  omega
theorem shl29 {a bits : Int} (hb : 0 ≤ bits ∧ bits ≤ 29) (ha : -2147483648 ≤ a ∧ a ≤ 2147483648) : IntKind.i64.wrap (a * 2 ^ min bits.toNat IntKind.i64.bits) = a * 2 ^ bits.toNat ∧ (-1152921504606846976 ≤ a * 2 ^ bits.toNat ∧ a * 2 ^ bits.toNat ≤ 1152921504606846976) := by
  have h := pow29 hb
  have g := mul_near (p := 2147483648) (q := 536870912) (a := a) (b := 2 ^ bits.toNat) (by decide) (by omega) (by omega)
  refine ⟨?_, by omega⟩
  rw [sh_min (by omega)]
  exact wr (by omega)
theorem times_win {m a b u v : Int} (h : win 2147483648 a b) (g : win m u v) (hp : 1 ≤ m ∧ m ≤ 536870912) : win 2305843009213693952 (a * u - b * v) (a * v + b * u) := by
  unfold win at *
  have g1 := mul_near (p := 2147483648) (q := 536870912) (a := a) (b := u) (by decide) (by omega) (by omega)
  have g2 := mul_near (p := 2147483648) (q := 536870912) (a := b) (b := v) (by decide) (by omega) (by omega)
  have g3 := mul_near (p := 2147483648) (q := 536870912) (a := a) (b := v) (by decide) (by omega) (by omega)
  have g4 := mul_near (p := 2147483648) (q := 536870912) (a := b) (b := u) (by decide) (by omega) (by omega)
  omega
theorem wrap_in {x : Int} : in64 (IntKind.i64.wrap x) := by
  unfold in64
  rw [IntKind.wrap_i64]
  omega
/-- A quad's number q, not shifted. -/
def qRe (x0 y0 x1 y1 x2 y2 x3 y3 : Int) (inv : Bool) (q : Int) : Int := tRe x0 y0 0 + tRe x1 y1 (if inv = true then q else 0 - q) + tRe x2 y2 (2 * q) + tRe x3 y3 (0 - if inv = true then q else 0 - q)
def qIm (x0 y0 x1 y1 x2 y2 x3 y3 : Int) (inv : Bool) (q : Int) : Int := tIm x0 y0 0 + tIm x1 y1 (if inv = true then q else 0 - q) + tIm x2 y2 (2 * q) + tIm x3 y3 (0 - if inv = true then q else 0 - q)
theorem q_re {x0 y0 x1 y1 x2 y2 x3 y3 n0 n1 n2 n3 : Int} (w0 : win 1152921504606846976 x0 y0) (w1 : win 2305843009213693952 x1 y1) (w2 : win 2305843009213693952 x2 y2) (w3 : win 2305843009213693952 x3 y3) : IntKind.i64.wrap (IntKind.i64.wrap (IntKind.i64.wrap (IntKind.i64.wrap (0 + tRe x0 y0 n0) + tRe x1 y1 n1) + tRe x2 y2 n2) + tRe x3 y3 n3) = tRe x0 y0 n0 + tRe x1 y1 n1 + tRe x2 y2 n2 + tRe x3 y3 n3 := by
  have g0 := tRe_near (n := n0) w0 (by decide)
  have g1 := tRe_near (n := n1) w1 (by decide)
  have g2 := tRe_near (n := n2) w2 (by decide)
  have g3 := tRe_near (n := n3) w3 (by decide)
  rw [Int.zero_add, wr (x := tRe x0 y0 n0) (by omega), wr (x := tRe x0 y0 n0 + tRe x1 y1 n1) (by omega), wr (x := tRe x0 y0 n0 + tRe x1 y1 n1 + tRe x2 y2 n2) (by omega), wr (by omega)]
theorem q_im {x0 y0 x1 y1 x2 y2 x3 y3 n0 n1 n2 n3 : Int} (w0 : win 1152921504606846976 x0 y0) (w1 : win 2305843009213693952 x1 y1) (w2 : win 2305843009213693952 x2 y2) (w3 : win 2305843009213693952 x3 y3) : IntKind.i64.wrap (IntKind.i64.wrap (IntKind.i64.wrap (IntKind.i64.wrap (0 + tIm x0 y0 n0) + tIm x1 y1 n1) + tIm x2 y2 n2) + tIm x3 y3 n3) = tIm x0 y0 n0 + tIm x1 y1 n1 + tIm x2 y2 n2 + tIm x3 y3 n3 := by
  have g0 := tIm_near (n := n0) w0 (by decide)
  have g1 := tIm_near (n := n1) w1 (by decide)
  have g2 := tIm_near (n := n2) w2 (by decide)
  have g3 := tIm_near (n := n3) w3 (by decide)
  rw [Int.zero_add, wr (x := tIm x0 y0 n0) (by omega), wr (x := tIm x0 y0 n0 + tIm x1 y1 n1) (by omega), wr (x := tIm x0 y0 n0 + tIm x1 y1 n1 + tIm x2 y2 n2) (by omega), wr (by omega)]
/-- Four numbers' quad. -/
def qV (inv : Bool) (bits s mode a0 b0 a1 b1 a2 b2 a3 b3 u1 v1 u2 v2 u3 v3 : Int) (q : Int) : Int × Int :=
  (rsh (qRe (a0 * 2 ^ bits.toNat) (b0 * 2 ^ bits.toNat) (a1 * u1 - b1 * v1) (a1 * v1 + b1 * u1) (a2 * u2 - b2 * v2) (a2 * v2 + b2 * u2) (a3 * u3 - b3 * v3) (a3 * v3 + b3 * u3) inv q) (bits + s) mode,
   rsh (qIm (a0 * 2 ^ bits.toNat) (b0 * 2 ^ bits.toNat) (a1 * u1 - b1 * v1) (a1 * v1 + b1 * u1) (a2 * u2 - b2 * v2) (a2 * v2 + b2 * u2) (a3 * u3 - b3 * v3) (a3 * v3 + b3 * u3) inv q) (bits + s) mode)
abbrev quadAV (f : Int → Int × Int) : AV := arr4 (f 0).1 (f 0).2 (f 1).1 (f 1).2 (f 2).1 (f 2).2 (f 3).1 (f 3).2
theorem quad.ok (inv : Bool) (bits s mode a0 b0 a1 b1 a2 b2 a3 b3 u0 v0 u1 v1 u2 v2 u3 v3 : Int) (hb : 0 ≤ bits ∧ bits ≤ 29) (hs : 0 ≤ s ∧ s ≤ 3) (hm : 0 ≤ mode ∧ mode ≤ 2) (h0 : win 2147483648 a0 b0) (h1 : win 2147483648 a1 b1) (h2 : win 2147483648 a2 b2) (h3 : win 2147483648 a3 b3)
    (g1 : win (2 ^ bits.toNat) u1 v1) (g2 : win (2 ^ bits.toNat) u2 v2) (g3 : win (2 ^ bits.toNat) u3 v3) :
    Ok Tryz.prog 152 [arr4 a0 b0 a1 b1 a2 b2 a3 b3, arr4 u0 v0 u1 v1 u2 v2 u3 v3, .int bits, .int s, .int mode, .bool inv] (quadAV (qV inv bits s mode a0 b0 a1 b1 a2 b2 a3 b3 u1 v1 u2 v2 u3 v3)) := by
  have hp := pow29 hb
  obtain ⟨e1, e1'⟩ := shl29 (a := a0) hb (by unfold win at h0; omega)
  obtain ⟨e2, e2'⟩ := shl29 (a := b0) hb (by unfold win at h0; omega)
  have hbn : ¬ bits < 0 := by omega
  have k1 : win 1073741824 u1 v1 := by unfold win at g1 ⊢; omega
  have k2 : win 1073741824 u2 v2 := by unfold win at g2 ⊢; omega
  have k3 : win 1073741824 u3 v3 := by unfold win at g3 ⊢; omega
  have hb0 := hb.1
  have e3 : IntKind.i64.wrap (bits + s) = bits + s := wr (by omega)
  have hbs : 0 ≤ bits + s ∧ bits + s ≤ 62 := by omega
  have w0 : win 2305843009213693952 (a0 * 2 ^ bits.toNat) (b0 * 2 ^ bits.toNat) := by unfold win; omega
  have w1 := times_win h1 g1 hp
  have w2 := times_win h2 g2 hp
  have w3 := times_win h3 g3 hp
  refine ok_of (X := fun r => if Nat.beq r 16 then [[], [], [], [], [], [], [], [], [], [], [], [.tmp 78]] else []) (Z := fun _ => false) (res := [ResultVar.cell 12 155]) tok follows Tryz.func152 rfl rfl fine152 (by kernel_rfl) (by kernel_rfl) ?_
  simp only [evA, evT, evD, seval, e1, e2, hb0]
  refine ⟨4, l_succ ?_⟩
  simp only [evA, evT, evD, seval]
  refine call_ok (Times.ok _ _ _ _ h1 k1) rfl ?_
  simp only [evA, evT, evD, seval]
  refine l_succ ?_
  simp only [evA, evT, evD, seval]
  refine call_ok (Times.ok _ _ _ _ h2 k2) rfl ?_
  simp only [evA, evT, evD, seval]
  refine l_succ ?_
  simp only [evA, evT, evD, seval]
  refine call_ok (Times.ok _ _ _ _ h3 k3) rfl ?_
  simp only [evA, evT, evD, seval]
  refine l_succ ?_
  simp only [evA, evT, evD, seval]
  refine call_ok (turns.ok inv) rfl ?_
  simp only [evA, evT, evD, seval]
  refine ⟨5, l_succ ?_⟩
  simp only [evA, evT, evD, seval]
  iterate 4
    refine ⟨5, l_succ ?_⟩
    simp only [evA, evT, evD, seval, e3]
    iterate 4
      refine call_ok (Turn.ok _ _ _ (by assumption)) rfl ?_
      simp only [evA, evT, evD, seval, e3]
      refine l_succ ?_
      simp only [evA, evT, evD, seval, e3]
    refine call_ok (cxShift.ok _ _ _ _ hbs hm wrap_in wrap_in) rfl ?_
    simp only [evA, evT, evD, seval, e3]
    refine l_succ ?_
    simp only [evA, evT, evD, seval, e3]
  have w0' : win 1152921504606846976 (a0 * 2 ^ bits.toNat) (b0 * 2 ^ bits.toNat) := by unfold win; omega
  simp only [q_re w0' w1 w2 w3, q_im w0' w1 w2 w3]
  cases inv <;> simp [qV, qRe, qIm, tRe, tIm, w_0, w_1, w_2, w_3, w_4, w_6, w_9]
end Go.Proofs.YtnnjjblgilibgaaGreatV
/- Contracts of the functions of the package four: a quad that may be, or not. -/
namespace Go.Proofs.YtnnjjblgilibgaaGreatV
open Go Go.RowKit
set_option linter.unusedVariables false
set_option linter.unusedSimpArgs false
set_option maxRecDepth 100000
set_option maxHeartbeats 40000000
theorem one29 {bits : Int} (hb : 0 ≤ bits ∧ bits ≤ 29) : IntKind.i64.wrap (1 * 2 ^ min bits.toNat IntKind.i64.bits) = 2 ^ bits.toNat := by
  have h := pow29 hb
  rw [sh_min (by omega), Int.one_mul]
  exact wr (by omega)
theorem contains.no (F : Nat) (caps : List AV) (p : Int × Int → Prop) [DecidablePred p] (xs : List (Int × Int)) (hl : xs.length ≤ 1000000000) (hc : ∀ lb, caps.map (snap lb 6) = caps) (hc5 : ∀ lb, caps.map (snap lb 5) = caps) (hf : allFree caps = true) (h : ∀ x ∈ xs, Ok Tryz.prog F (cxA x.1 x.2 :: caps) (.bool (decide (p x)))) (hn : ∀ x ∈ xs, ¬ p x) :
    Ok Tryz.prog 72 [.sl 2 (cxRows xs), .fn F caps] (.bool false) := by
  have := contains.ok F caps p xs hl hc hc5 hf h
  rwa [decide_eq_false (by rintro ⟨x, hx, hp⟩; exact hn x hx hp)] at this
theorem contains.yes (F : Nat) (caps : List AV) (p : Int × Int → Prop) [DecidablePred p] (xs : List (Int × Int)) (hl : xs.length ≤ 1000000000) (hc : ∀ lb, caps.map (snap lb 6) = caps) (hc5 : ∀ lb, caps.map (snap lb 5) = caps) (hf : allFree caps = true) (h : ∀ x ∈ xs, Ok Tryz.prog F (cxA x.1 x.2 :: caps) (.bool (decide (p x)))) (hn : ∃ x ∈ xs, p x) :
    Ok Tryz.prog 72 [.sl 2 (cxRows xs), .fn F caps] (.bool true) := by
  have := contains.ok F caps p xs hl hc hc5 hf h
  rwa [decide_eq_true hn] at this
section
variable (inv : Bool) (bits s mode a0 b0 a1 b1 a2 b2 a3 b3 u0 v0 u1 v1 u2 v2 u3 v3 : Int) (hb : 0 ≤ bits ∧ bits ≤ 29) (hs : 0 ≤ s ∧ s ≤ 3) (hm : 0 ≤ mode ∧ mode ≤ 2)
include hb hs hm
end
end Go.Proofs.YtnnjjblgilibgaaGreatV
/- Contracts of the document's functions: numbers, complex numbers. -/
namespace Go.Proofs.YtnnjjblgilibgaaGreatV
open Go Go.RowKit
set_option linter.unusedVariables false
set_option linter.unusedSimpArgs false
set_option maxRecDepth 100000
set_option maxHeartbeats 40000000
theorem fine166 : Fine Tryz.prog 166 := fun _ _ => by kernel_rfl
theorem fine154 : Fine Tryz.prog 154 := fun _ _ => by kernel_rfl
theorem fine23 : Fine Tryz.prog 23 := fun _ _ => by kernel_rfl
theorem fine153 : Fine Tryz.prog 153 := fun _ _ => by kernel_rfl
theorem fine127 : Fine Tryz.prog 127 := fun _ _ => by kernel_rfl
theorem fine84 : Fine Tryz.prog 84 := fun _ _ => by kernel_rfl
theorem fine129 : Fine Tryz.prog 129 := fun _ _ => by kernel_rfl
theorem fine130 : Fine Tryz.prog 130 := fun _ _ => by kernel_rfl
theorem fine83 : Fine Tryz.prog 83 := fun _ _ => by kernel_rfl
theorem fine131 : Fine Tryz.prog 131 := fun _ _ => by kernel_rfl
theorem tm2 (x : Int) : x.tmod 2 = if 0 ≤ x ∨ x % 2 = 0 then x % 2 else -1 := by
  rw [Int.tmod_eq_emod]
  split <;> split <;> simp_all <;> omega
theorem td2 (x : Int) : x.tdiv 2 = if 0 ≤ x ∨ x % 2 = 0 then x / 2 else x / 2 + 1 := by
  rw [Int.tdiv_eq_ediv]
  split <;> split <;> simp_all <;> omega
theorem av_int {a b : Int} : (AV.raw (Value.int .i64 a) = AV.int b) = (a = b) := by simp
theorem wrap_sub {a b : Int} : IntKind.i64.wrap (a - IntKind.i64.wrap b) = IntKind.i64.wrap (a - b) := by
  simp only [IntKind.wrap_i64]
  omega
theorem half.ok (x : Int) (hx : in64 x) : Ok Tryz.prog 166 [.int x] (.int (x / 2)) := by
  unfold in64 at hx
  have e1 : IntKind.i64.wrap (x.tdiv 2) = x.tdiv 2 := wr (by rw [td2]; split <;> omega)
  have e2 : IntKind.i64.wrap (x.tdiv 2 - 1) = x.tdiv 2 - 1 := wr (by rw [td2]; split <;> omega)
  refine ok_of (X := fun _ => []) (Z := fun _ => false) (res := [ResultVar.tmp 2]) tok follows Tryz.func166 rfl rfl fine166 (by kernel_rfl) (by kernel_rfl) ?_
  simp only [evA, evT, evD, seval, e1, e2]
  simp only [av_int, tm2, td2]
  refine ⟨fun h => ?_, fun h => ⟨fun h' => ?_, fun h' => ?_⟩⟩ <;> (repeat' split at h) <;> (repeat' split) <;> omega
theorem odd.ok (x : Int) : Ok Tryz.prog 154 [.int x] (.bool (decide (x % 2 = 1))) := by
  refine ok_of (X := fun _ => []) (Z := fun _ => false) (res := [ResultVar.tmp 2]) tok follows Tryz.func154 rfl rfl fine154 (by kernel_rfl) (by kernel_rfl) ?_
  simp only [evA, evT, evD, seval, tm2, dec_d]
  have : (!decide ((if 0 ≤ x ∨ x % 2 = 0 then x % 2 else -1) = 0)) = decide (x % 2 = 1) := by
    rw [← decide_not]
    apply decide_eq_decide.2
    split <;> omega
  rw [this]
theorem Pow.ok (s : Int) (hs : 0 ≤ s ∧ s ≤ 62) : Ok Tryz.prog 23 [.int s] (.int (2 ^ s.toNat)) := by
  obtain ⟨n, rfl⟩ : ∃ n : Nat, s = n := ⟨s.toNat, by omega⟩
  have hn : n ≤ 62 := by omega
  rw [Int.toNat_natCast]
  refine ok_of (X := fun _ => []) (Z := fun _ => false) (res := [ResultVar.tmp 2]) tok follows Tryz.func23 rfl rfl fine23 (by kernel_rfl) (by kernel_rfl) ?_
  simp only [evA, evT, evD, seval]
  refine l_inv (fun i => ⟨[(4, .int i), (3, .int (2 ^ i)), (0, .int n)], [], 0⟩) n ?_ (fun i hi K hK => ?_) (fun K => ?_)
  · refine weak_of (fun l => l) rfl trivial ?_
    simp only [evA, evB, evT, evD, seval, Int.natCast_zero, Int.pow_zero]
  · have h1 : (i : Int) < n := by omega
    have h3 : IntKind.i64.wrap ((i : Int) + 1) = i + 1 := wr (by omega)
    have h4 : IntKind.i64.wrap (2 * 2 ^ i) = 2 ^ (i + 1) := by
      rw [Int.mul_comm, ← Int.pow_succ, pow_wr (by omega)]
    simp only [evA, evT, evD, seval, h1, h3, h4]
    refine hK _ (weak_of (fun l => l) rfl trivial ?_)
    simp only [evA, evB, evT, evD, seval, Int.natCast_add, Int.natCast_one]
  · simp only [evA, evT, evD, seval]
theorem Floor.ok (x s : Int) (hx : in64 x) (hs : 0 ≤ s ∧ s ≤ 62) : Ok Tryz.prog 153 [.int x, .int s] (.int (x / 2 ^ s.toNat)) := by
  obtain ⟨n, rfl⟩ : ∃ n : Nat, s = n := ⟨s.toNat, by omega⟩
  have hn : n ≤ 62 := by omega
  rw [Int.toNat_natCast]
  refine ok_of (X := fun _ => []) (Z := fun _ => false) (res := [ResultVar.tmp 4]) tok follows Tryz.func153 rfl rfl fine153 (by kernel_rfl) (by kernel_rfl) ?_
  simp only [evA, evT, evD, seval]
  refine l_inv (fun i => ⟨[(5, .int i), (0, .int (x / 2 ^ i)), (1, .int n)], [], 0⟩) n ?_ (fun i hi K hK => ?_) (fun K => ?_)
  · refine weak_of (fun l => l) rfl trivial ?_
    simp only [evA, evB, evT, evD, seval, Int.natCast_zero, Int.pow_zero, Int.ediv_one]
  · have h1 : (i : Int) < n := by omega
    have h3 : IntKind.i64.wrap ((i : Int) + 1) = i + 1 := wr (by omega)
    have h4 : x / 2 ^ i / 2 = x / 2 ^ (i + 1) := by
      rw [Int.pow_succ, Int.ediv_ediv, if_neg (by have := pow_pos i; omega), Int.sub_zero]
    simp only [evA, evT, evD, seval, h1]
    refine call_ok (half.ok _ (sh_bd hx)) rfl ?_
    simp only [evA, evT, evD, seval, h3, h4]
    refine hK _ (weak_of (fun l => l) rfl trivial ?_)
    simp only [evA, evB, evT, evD, seval, Int.natCast_add, Int.natCast_one]
  · simp only [evA, evT, evD, seval]
theorem Sum.ok (a b c d : Int) : Ok Tryz.prog 84 [cxA a b, cxA c d] (cxA (IntKind.i64.wrap (a + c)) (IntKind.i64.wrap (b + d))) := by
  refine ok_of (X := fun _ => []) (Z := fun _ => false) (res := [ResultVar.cell 4 43]) tok follows Tryz.func84 rfl rfl fine84 (by kernel_rfl) (by kernel_rfl) ?_
  simp only [evA, evT, evD, seval]
theorem Scale.ok (a b bits : Int) (hb : 0 ≤ bits ∧ bits ≤ 62) : Ok Tryz.prog 131 [cxA a b, .int bits] (cxA (IntKind.i64.wrap (a * 2 ^ bits.toNat)) (IntKind.i64.wrap (b * 2 ^ bits.toNat))) := by
  refine ok_of (X := fun _ => []) (Z := fun _ => false) (res := [ResultVar.cell 4 43]) tok follows Tryz.func131 rfl rfl fine131 (by kernel_rfl) (by kernel_rfl) ?_
  simp only [evA, evT, evD, seval]
  refine call_ok (Pow.ok bits hb) rfl ?_
  simp only [evA, evT, evD, seval]
theorem RTimes.ok (a b c d : Int) (h1 : win 2147483648 a b) (h2 : win 1073741824 c d) : Ok Tryz.prog 129 [cxA a b, cxA c d] (cxA (a * c - b * d) (a * d + b * c)) := by
  unfold win at h1 h2
  have g1 := mul_near (p := 2147483648) (q := 1073741824) (a := a) (b := c) (by decide) (by omega) (by omega)
  have g2 := mul_near (p := 2147483648) (q := 1073741824) (a := b) (b := d) (by decide) (by omega) (by omega)
  have g3 := mul_near (p := 2147483648) (q := 1073741824) (a := a) (b := d) (by decide) (by omega) (by omega)
  have g4 := mul_near (p := 2147483648) (q := 1073741824) (a := b) (b := c) (by decide) (by omega) (by omega)
  have e1 : IntKind.i64.wrap (a * c) = a * c := wr (by omega)
  have e2 : IntKind.i64.wrap (b * d) = b * d := wr (by omega)
  have e3 : IntKind.i64.wrap (a * d) = a * d := wr (by omega)
  have e4 : IntKind.i64.wrap (b * c) = b * c := wr (by omega)
  have e5 : IntKind.i64.wrap (a * c - b * d) = a * c - b * d := wr (by omega)
  have e6 : IntKind.i64.wrap (a * d + b * c) = a * d + b * c := wr (by omega)
  refine ok_of (X := fun _ => []) (Z := fun _ => false) (res := [ResultVar.cell 4 43]) tok follows Tryz.func129 rfl rfl fine129 (by kernel_rfl) (by kernel_rfl) ?_
  simp only [evA, evT, evD, seval, e1, e2, e3, e4, e5, e6]
theorem RTurn.ok (x y n : Int) (h : win 2305843009213693952 x y) (hn : in64 n) : Ok Tryz.prog 130 [cxA x y, .int n] (cxA (tRe x y n) (tIm x y n)) := by
  unfold win at h
  unfold in64 at hn
  have e1 : IntKind.i64.wrap (0 - y) = -y := by rw [wr (by omega)]; omega
  have e2 : IntKind.i64.wrap (0 - x) = -x := by rw [wr (by omega)]; omega
  have tm : n.tmod 4 = if 0 ≤ n ∨ n % 4 = 0 then n % 4 else n % 4 - 4 := by
    rw [Int.tmod_eq_emod]
    split <;> split <;> simp_all <;> omega
  refine ok_of (X := fun _ => []) (Z := fun _ => false) (res := [ResultVar.cell 4 43]) tok follows Tryz.func130 rfl rfl fine130 (by kernel_rfl) (by kernel_rfl) ?_
  simp only [evA, evT, evD, seval, e1, e2]
  have hneg : n.tmod 4 < 0 → IntKind.i64.wrap (n.tmod 4 + 4) = n % 4 := fun h => by
    rw [wr (by rw [tm] at h ⊢; split at h <;> split <;> omega)]
    rw [tm] at h ⊢
    split at h <;> split <;> omega
  have hpos : ¬ n.tmod 4 < 0 → n.tmod 4 = n % 4 := fun h => by
    rw [tm] at h ⊢
    split at h <;> split <;> omega
  have h4 : n % 4 = 0 → AV.agg [.int x, .int y] = cxA (tRe x y n) (tIm x y n) := fun h => by simp [tRe, tIm, h]
  have key : (n % 4 = 1 → AV.agg [.int (-y), .int x] = cxA (tRe x y n) (tIm x y n)) ∧ (¬ n % 4 = 1 → (n % 4 = 2 → AV.agg [.int (-x), .int (-y)] = cxA (tRe x y n) (tIm x y n)) ∧ (¬ n % 4 = 2 → (n % 4 = 3 → AV.agg [.int y, .int (-x)] = cxA (tRe x y n) (tIm x y n)) ∧ (¬ n % 4 = 3 → AV.agg [.int x, .int y] = cxA (tRe x y n) (tIm x y n)))) := by
    refine ⟨fun h => by simp [tRe, tIm, h], fun h1 => ⟨fun h => by simp [tRe, tIm, h], fun h2 => ⟨fun h => by simp [tRe, tIm, h], fun h3 => h4 (by omega)⟩⟩⟩
  refine ⟨fun h => ?_, fun h => ?_⟩
  · rw [hneg h]
    exact key
  · rw [hpos h]
    exact key
theorem RShift1.ok (x s mode : Int) (hx : in64 x) (hs : 0 ≤ s ∧ s ≤ 62) (hm : 0 ≤ mode ∧ mode ≤ 2) : Ok Tryz.prog 127 [.int x, .int s, .int mode] (.int (rsh x s mode)) := by
  have hx' := hx
  unfold in64 at hx
  refine ok_of (X := fun _ => []) (Z := fun _ => false) (res := [ResultVar.tmp 6]) tok follows Tryz.func127 rfl rfl fine127 (by kernel_rfl) (by kernel_rfl) ?_
  simp only [evA, evT, evD, seval]
  refine call_ok (Floor.ok x s hx' hs) rfl ?_
  have hp := pow_pos s.toNat
  have hp62 := pow_le62 (n := s.toNat) (by omega)
  have hd : x - x / 2 ^ s.toNat * 2 ^ s.toNat = x % 2 ^ s.toNat := by
    have := Int.emod_add_mul_ediv x (2 ^ s.toNat)
    rw [Int.mul_comm] at this
    omega
  have hr0 := Int.emod_nonneg x (Int.ne_of_gt hp)
  have hr1 := Int.emod_lt_of_pos x hp
  have hq := sh_bd (n := s.toNat) hx'
  by_cases h0 : s = 0
  · subst h0
    simp only [evA, evT, evD, seval, Int.pow_zero, Int.ediv_one, rsh_z]
  by_cases h1 : mode = 0
  · subst h1
    simp only [evA, evT, evD, seval, h0, rsh0]
  simp only [evA, evT, evD, seval, h0, h1]
  refine call_ok (Pow.ok s hs) rfl ?_
  have e1 : IntKind.i64.wrap (x - IntKind.i64.wrap (x / 2 ^ s.toNat * 2 ^ s.toNat)) = x % 2 ^ s.toNat := by
    rw [wrap_sub, hd]
    exact wr (by omega)
  have e2 : IntKind.i64.wrap (s - 1) = s - 1 := wr (by omega)
  have e3 : IntKind.i64.wrap (x / 2 ^ s.toNat + 1) = x / 2 ^ s.toNat + 1 := sh_up hx' (by omega)
  have e4 : (s - 1).toNat = s.toNat - 1 := by omega
  simp only [evA, evT, evD, seval, e1, e2]
  refine call_ok (Pow.ok (s - 1) (by omega)) rfl ?_
  rw [e4]
  have hm' : mode = 1 ∨ mode = 2 := by omega
  rcases hm' with rfl | rfl
  · simp only [evA, evT, evD, seval, e3, av_int]
    refine ⟨fun h => ⟨fun h2 => ?_, fun h2 => ?_⟩, fun h => ?_⟩
    · rw [rsh_up h0 (b := true) (by simp [goesUp]; omega), if_pos rfl]
    · rw [rsh_up h0 (b := false) (by simp [goesUp]; omega)]
      rfl
    · rw [rsh_up h0 (b := true) (by simp [goesUp]; omega), if_pos rfl]
  · simp only [evA, evT, evD, seval, e3, av_int]
    refine ⟨fun h => ⟨fun h2 => ?_, fun h2 => ?_⟩, fun h => ?_⟩
    · refine call_ok (odd.ok _) rfl ?_
      simp only [evA, evT, evD, seval, e3, av_int]
      refine ⟨fun h3 => ?_, fun h3 => ?_⟩
      · rw [rsh_up h0 (b := true) (by simp [goesUp, h2, h3]), if_pos rfl]
      · rw [rsh_up h0 (b := false) (by simp [goesUp, h2, h3])]
        rfl
    · rw [rsh_up h0 (b := false) (by simp [goesUp, h2]; omega)]
      rfl
    · rw [rsh_up h0 (b := true) (by simp [goesUp, h]), if_pos rfl]
theorem RShift.ok (x y s mode : Int) (hx : in64 x) (hy : in64 y) (hs : 0 ≤ s ∧ s ≤ 62) (hm : 0 ≤ mode ∧ mode ≤ 2) : Ok Tryz.prog 83 [cxA x y, .int s, .int mode] (cxA (rsh x s mode) (rsh y s mode)) := by
  refine ok_of (X := fun _ => []) (Z := fun _ => false) (res := [ResultVar.cell 6 43]) tok follows Tryz.func83 rfl rfl fine83 (by kernel_rfl) (by kernel_rfl) ?_
  simp only [evA, evT, evD, seval]
  refine call_ok (RShift1.ok x s mode hx hs hm) rfl ?_
  simp only [evA, evT, evD, seval]
  refine call_ok (RShift1.ok y s mode hy hs hm) rfl ?_
  simp only [evA, evT, evD, seval]
end Go.Proofs.YtnnjjblgilibgaaGreatV
/- Contracts: the document's quad; the law's own functions. -/
namespace Go.Proofs.YtnnjjblgilibgaaGreatV
open Go Go.RowKit
set_option linter.unusedVariables false
set_option linter.unusedSimpArgs false
set_option maxRecDepth 100000
set_option maxHeartbeats 40000000
theorem fine100 : Fine Tryz.prog 100 := fun _ _ => by kernel_rfl
theorem fine101 : Fine Tryz.prog 101 := fun _ _ => by kernel_rfl
theorem q_re' {x0 x1 y1 x2 y2 x3 y3 n1 n2 n3 : Int} (w0 : -1152921504606846976 ≤ x0 ∧ x0 ≤ 1152921504606846976) (w1 : win 2305843009213693952 x1 y1) (w2 : win 2305843009213693952 x2 y2) (w3 : win 2305843009213693952 x3 y3) : IntKind.i64.wrap (IntKind.i64.wrap (IntKind.i64.wrap (x0 + tRe x1 y1 n1) + tRe x2 y2 n2) + tRe x3 y3 n3) = x0 + tRe x1 y1 n1 + tRe x2 y2 n2 + tRe x3 y3 n3 := by
  have g1 := tRe_near (n := n1) w1 (by decide)
  have g2 := tRe_near (n := n2) w2 (by decide)
  have g3 := tRe_near (n := n3) w3 (by decide)
  rw [wr (x := x0 + tRe x1 y1 n1) (by omega), wr (x := x0 + tRe x1 y1 n1 + tRe x2 y2 n2) (by omega), wr (by omega)]
theorem q_im' {y0 x1 y1 x2 y2 x3 y3 n1 n2 n3 : Int} (w0 : -1152921504606846976 ≤ y0 ∧ y0 ≤ 1152921504606846976) (w1 : win 2305843009213693952 x1 y1) (w2 : win 2305843009213693952 x2 y2) (w3 : win 2305843009213693952 x3 y3) : IntKind.i64.wrap (IntKind.i64.wrap (IntKind.i64.wrap (y0 + tIm x1 y1 n1) + tIm x2 y2 n2) + tIm x3 y3 n3) = y0 + tIm x1 y1 n1 + tIm x2 y2 n2 + tIm x3 y3 n3 := by
  have g1 := tIm_near (n := n1) w1 (by decide)
  have g2 := tIm_near (n := n2) w2 (by decide)
  have g3 := tIm_near (n := n3) w3 (by decide)
  rw [wr (x := y0 + tIm x1 y1 n1) (by omega), wr (x := y0 + tIm x1 y1 n1 + tIm x2 y2 n2) (by omega), wr (by omega)]
theorem t_zero (x y : Int) : tRe x y 0 = x ∧ tIm x y 0 = y := by simp [tRe, tIm]
theorem Out.ok (inv : Bool) (q bits s mode x0 y0 x1 y1 x2 y2 x3 y3 : Int) (hq : 0 ≤ q ∧ q ≤ 3) (hb : 0 ≤ bits ∧ bits ≤ 29) (hs : 0 ≤ s ∧ s ≤ 3) (hm : 0 ≤ mode ∧ mode ≤ 2) (w0 : win 1152921504606846976 x0 y0) (w1 : win 2305843009213693952 x1 y1) (w2 : win 2305843009213693952 x2 y2) (w3 : win 2305843009213693952 x3 y3) :
    Ok Tryz.prog 101 [arr4 x0 y0 x1 y1 x2 y2 x3 y3, .int q, .int bits, .int s, .int mode, .bool inv] (cxA (rsh (qRe x0 y0 x1 y1 x2 y2 x3 y3 inv q) (bits + s) mode) (rsh (qIm x0 y0 x1 y1 x2 y2 x3 y3 inv q) (bits + s) mode)) := by
  have e1 : IntKind.i64.wrap (0 - q) = 0 - q := wr (by omega)
  have e2 : IntKind.i64.wrap (2 * q) = 2 * q := wr (by omega)
  have e3 : IntKind.i64.wrap (0 - (0 - q)) = 0 - (0 - q) := wr (by omega)
  have e4 : IntKind.i64.wrap (bits + s) = bits + s := wr (by omega)
  have p1 : in64 (0 - q) := by unfold in64; omega
  have p2 : in64 (2 * q) := by unfold in64; omega
  have p3 : in64 (0 - (0 - q)) := by unfold in64; omega
  have p4 : in64 q := by unfold in64; omega
  have z1 : -1152921504606846976 ≤ x0 ∧ x0 ≤ 1152921504606846976 := by unfold win at w0; omega
  have z2 : -1152921504606846976 ≤ y0 ∧ y0 ≤ 1152921504606846976 := by unfold win at w0; omega
  refine ok_of (X := fun _ => []) (Z := fun _ => false) (res := [ResultVar.cell 12 43]) tok follows Tryz.func101 rfl rfl fine101 (by kernel_rfl) (by kernel_rfl) ?_
  cases inv
  all_goals
    simp only [evA, evT, evD, seval, e1]
    refine call_ok (RTurn.ok _ _ _ w1 (by assumption)) rfl ?_
    simp only [evA, evT, evD, seval]
    refine call_ok (Sum.ok _ _ _ _) rfl ?_
    simp only [evA, evT, evD, seval, e2]
    refine call_ok (RTurn.ok _ _ _ w2 (by assumption)) rfl ?_
    simp only [evA, evT, evD, seval]
    refine call_ok (Sum.ok _ _ _ _) rfl ?_
    simp only [evA, evT, evD, seval, e1, e3]
    refine call_ok (RTurn.ok _ _ _ w3 (by assumption)) rfl ?_
    simp only [evA, evT, evD, seval]
    refine call_ok (Sum.ok _ _ _ _) rfl ?_
    simp only [evA, evT, evD, seval, e4, q_re' z1 w1 w2 w3, q_im' z2 w1 w2 w3]
    refine call_ok (RShift.ok _ _ _ _ (by unfold in64; have := tRe_near (n := 0 - q) w1 (by decide); have := tRe_near (n := q) w1 (by decide); have := tRe_near (n := 2 * q) w2 (by decide); have := tRe_near (n := 0 - (0 - q)) w3 (by decide); have := tRe_near (n := 0 - q) w3 (by decide); omega) (by unfold in64; have := tIm_near (n := 0 - q) w1 (by decide); have := tIm_near (n := q) w1 (by decide); have := tIm_near (n := 2 * q) w2 (by decide); have := tIm_near (n := 0 - (0 - q)) w3 (by decide); have := tIm_near (n := 0 - q) w3 (by decide); omega) (by omega) hm) rfl ?_
    simp only [evA, evT, evD, seval, qRe, qIm, (t_zero x0 y0).1, (t_zero x0 y0).2]
theorem Products.ok (bits a0 b0 a1 b1 a2 b2 a3 b3 u1 v1 u2 v2 u3 v3 : Int) (hb : 0 ≤ bits ∧ bits ≤ 29) (h0 : win 2147483648 a0 b0) (h1 : win 2147483648 a1 b1) (h2 : win 2147483648 a2 b2) (h3 : win 2147483648 a3 b3)
    (g1 : win (2 ^ bits.toNat) u1 v1) (g2 : win (2 ^ bits.toNat) u2 v2) (g3 : win (2 ^ bits.toNat) u3 v3) :
    Ok Tryz.prog 100 [cxA a0 b0, cxA a1 b1, cxA a2 b2, cxA a3 b3, cxA u1 v1, cxA u2 v2, cxA u3 v3, .int bits] (arr4 (a0 * 2 ^ bits.toNat) (b0 * 2 ^ bits.toNat) (a1 * u1 - b1 * v1) (a1 * v1 + b1 * u1) (a2 * u2 - b2 * v2) (a2 * v2 + b2 * u2) (a3 * u3 - b3 * v3) (a3 * v3 + b3 * u3)) := by
  have hp := pow29 hb
  have c1 := shl29 (a := a0) hb (by unfold win at h0; omega)
  have c2 := shl29 (a := b0) hb (by unfold win at h0; omega)
  have e1 : IntKind.i64.wrap (a0 * 2 ^ bits.toNat) = a0 * 2 ^ bits.toNat := wr (by omega)
  have e2 : IntKind.i64.wrap (b0 * 2 ^ bits.toNat) = b0 * 2 ^ bits.toNat := wr (by omega)
  have k1 : win 1073741824 u1 v1 := by unfold win at g1 ⊢; omega
  have k2 : win 1073741824 u2 v2 := by unfold win at g2 ⊢; omega
  have k3 : win 1073741824 u3 v3 := by unfold win at g3 ⊢; omega
  refine ok_of (X := fun _ => []) (Z := fun _ => false) (res := [ResultVar.cell 16 142]) tok follows Tryz.func100 rfl rfl fine100 (by kernel_rfl) (by kernel_rfl) ?_
  simp only [evA, evT, evD, seval]
  refine call_ok (Scale.ok a0 b0 bits (by omega)) rfl ?_
  simp only [evA, evT, evD, seval, e1, e2]
  refine call_ok (RTimes.ok _ _ _ _ h1 k1) rfl ?_
  simp only [evA, evT, evD, seval]
  refine call_ok (RTimes.ok _ _ _ _ h2 k2) rfl ?_
  simp only [evA, evT, evD, seval]
  refine call_ok (RTimes.ok _ _ _ _ h3 k3) rfl ?_
  simp only [evA, evT, evD, seval]
theorem alive_q : quadAV (qV false 0 0 0 1 0 2 0 3 0 4 0 1 0 1 0 1 0) = arr4 10 0 (-2) 2 (-2) 0 (-2) (-2) := by
  simp [qV, qRe, qIm, tRe, tIm, rsh]
end Go.Proofs.YtnnjjblgilibgaaGreatV
/- Contracts: lengths, halves, quarters; what may be, by the document. -/
namespace Go.Proofs.YtnnjjblgilibgaaGreatV
open Go Go.RowKit
set_option linter.unusedVariables false
set_option linter.unusedSimpArgs false
set_option maxRecDepth 100000
set_option maxHeartbeats 40000000
theorem fine71 : Fine Tryz.prog 71 := fun _ _ => by kernel_rfl
theorem fine95 : Fine Tryz.prog 95 := fun _ _ => by kernel_rfl
theorem fine87 : Fine Tryz.prog 87 := fun _ _ => by kernel_rfl
theorem fine128 : Fine Tryz.prog 128 := fun _ _ => by kernel_rfl
theorem fine36 : Fine Tryz.prog 36 := fun _ _ => by kernel_rfl
/-- Lengths. -/
def lens (n : Int) : Prop := n = 4 ∨ n = 8 ∨ n = 16 ∨ n = 32 ∨ n = 64
def lg (n : Int) : Int := if n = 4 then 2 else if n = 8 then 3 else if n = 16 then 4 else if n = 32 then 5 else if n = 64 then 6 else 0
instance (n : Int) : Decidable (lens n) := by unfold lens; infer_instance
theorem sl2 : IntKind.i64.wrap (1 * 2 ^ min 2 IntKind.i64.bits) = 4 := by decide
theorem sl3 : IntKind.i64.wrap (1 * 2 ^ min 3 IntKind.i64.bits) = 8 := by decide
theorem sl4 : IntKind.i64.wrap (1 * 2 ^ min 4 IntKind.i64.bits) = 16 := by decide
theorem sl5 : IntKind.i64.wrap (1 * 2 ^ min 5 IntKind.i64.bits) = 32 := by decide
theorem sl6 : IntKind.i64.wrap (1 * 2 ^ min 6 IntKind.i64.bits) = 64 := by decide
theorem Log.ok (n : Int) (h : lens n) : Ok Tryz.prog 71 [.int n] (.tup [.int (lg n), .int 0]) := by
  refine ok_of (X := fun _ => []) (Z := fun _ => false) (res := [ResultVar.tmp 2, ResultVar.tmp 3]) tok follows Tryz.func71 rfl rfl fine71 (by kernel_rfl) (by kernel_rfl) ?_
  rcases h with rfl | rfl | rfl | rfl | rfl
  all_goals
    simp only [evA, evT, evD, seval]
    refine ⟨6, l_succ ?_⟩
    simp only [evA, evT, evD, seval, sl2, sl3, sl4, sl5, sl6, lg]
    repeat (refine l_succ ?_; simp only [evA, evT, evD, seval, sl2, sl3, sl4, sl5, sl6, lg])
theorem Log.bad (n : Int) (h : ¬ lens n) : Ok Tryz.prog 71 [.int n] (.tup [.int 0, .int 3]) := by
  unfold lens at h
  have h2 : ¬ n = 4 := by omega
  have h3 : ¬ n = 8 := by omega
  have h4 : ¬ n = 16 := by omega
  have h5 : ¬ n = 32 := by omega
  have h6 : ¬ n = 64 := by omega
  refine ok_of (X := fun _ => []) (Z := fun _ => false) (res := [ResultVar.tmp 2, ResultVar.tmp 3]) tok follows Tryz.func71 rfl rfl fine71 (by kernel_rfl) (by kernel_rfl) ?_
  simp only [evA, evT, evD, seval]
  refine ⟨6, l_succ ?_⟩
  simp only [evA, evT, evD, seval, sl2, sl3, sl4, sl5, sl6, h2, h3, h4, h5, h6]
  repeat (refine l_succ ?_; simp only [evA, evT, evD, seval, sl2, sl3, sl4, sl5, sl6, h2, h3, h4, h5, h6])
theorem pw2 : (2 : Int) ^ 2 = 4 := rfl
theorem pw3 : (2 : Int) ^ 3 = 8 := rfl
theorem pw4 : (2 : Int) ^ 4 = 16 := rfl
theorem pw5 : (2 : Int) ^ 5 = 32 := rfl
theorem pw6 : (2 : Int) ^ 6 = 64 := rfl
theorem RLog.ok (n : Int) (h : lens n) : Ok Tryz.prog 95 [.int n] (.int (lg n)) := by
  refine ok_of (X := fun _ => []) (Z := fun _ => false) (res := [ResultVar.tmp 2]) tok follows Tryz.func95 rfl rfl fine95 (by kernel_rfl) (by kernel_rfl) ?_
  rcases h with rfl | rfl | rfl | rfl | rfl
  all_goals
    simp only [evA, evT, evD, seval]
    refine ⟨6, l_succ ?_⟩
    simp only [evA, evT, evD, seval]
    repeat (first | (refine call_ok (Pow.ok _ (by decide)) rfl ?_; simp only [evA, evT, evD, seval, pw2, pw3, pw4, pw5, pw6, lg]) | (refine l_succ ?_; simp only [evA, evT, evD, seval]))
theorem RLog.bad (n : Int) (h : ¬ lens n) : Ok Tryz.prog 95 [.int n] (.int (-1)) := by
  unfold lens at h
  have h2 : ¬ 4 = n := by omega
  have h3 : ¬ 8 = n := by omega
  have h4 : ¬ 16 = n := by omega
  have h5 : ¬ 32 = n := by omega
  have h6 : ¬ 64 = n := by omega
  refine ok_of (X := fun _ => []) (Z := fun _ => false) (res := [ResultVar.tmp 2]) tok follows Tryz.func95 rfl rfl fine95 (by kernel_rfl) (by kernel_rfl) ?_
  simp only [evA, evT, evD, seval]
  refine ⟨6, l_succ ?_⟩
  simp only [evA, evT, evD, seval]
  repeat (first | (refine call_ok (Pow.ok _ (by decide)) rfl ?_; simp only [evA, evT, evD, seval, pw2, pw3, pw4, pw5, pw6, h2, h3, h4, h5, h6]) | (refine l_succ ?_; simp only [evA, evT, evD, seval]))
theorem RConj.ok (a b : Int) (h : win 2305843009213693952 a b) : Ok Tryz.prog 128 [cxA a b] (cxA a (-b)) := by
  have e1 : IntKind.i64.wrap (0 - b) = -b := by rw [wr (by unfold win at h; omega)]; omega
  refine ok_of (X := fun _ => []) (Z := fun _ => false) (res := [ResultVar.cell 2 43]) tok follows Tryz.func128 rfl rfl fine128 (by kernel_rfl) (by kernel_rfl) ?_
  simp only [evA, evT, evD, seval, e1]
def half (h n : Int) : Prop := h < n ∧ (h = 1 ∨ h = 2 ∨ h = 4 ∨ h = 8 ∨ h = 16 ∨ h = 32 ∨ h = 64)
instance (h n : Int) : Decidable (half h n) := by unfold half; infer_instance
theorem w_128 : IntKind.i64.wrap 128 = 128 := by decide
theorem p31 : (2 : Int) ^ (31 : Int).toNat = 2147483648 := rfl
theorem first_not {p : Int × Int → Prop} [DecidablePred p] (xs : List (Int × Int)) (h : ¬ ∀ x ∈ xs, p x) : ∃ (m : Nat) (hm : m < xs.length), ¬ p xs[m] ∧ ∀ i (hi : i < xs.length), i < m → p xs[i] := by
  have h' : ∃ x ∈ xs, ¬ p x := Classical.byContradiction fun hn => h fun x hx => Classical.byContradiction fun hp => hn ⟨x, hx, hp⟩
  obtain ⟨m, hm, h1, h2⟩ := first_of (p := fun x => ¬ p x) xs h'
  exact ⟨m, hm, h1, fun i hi hlt => Classical.byContradiction (h2 i hi hlt)⟩
def nears (m : Int) (xs : List (Int × Int)) : Prop := ∀ x ∈ xs, win m x.1 x.2
instance (m : Int) (xs : List (Int × Int)) : Decidable (nears m xs) := by unfold nears; infer_instance
abbrev setP (bits s mode : Int) : Prop := (0 ≤ bits ∧ bits ≤ 29) ∧ (0 ≤ s ∧ s ≤ 3) ∧ 0 ≤ mode ∧ mode ≤ 2
/-- Why a pass may not be. -/
def Why (part : Prop) (xs ws : List (Int × Int)) (bits s mode e : Int) : Prop :=
  (¬ lens xs.length ∧ e = 3) ∨ (lens xs.length ∧ ¬ (ws.length : Int) = xs.length ∧ e = 5) ∨ (lens xs.length ∧ (ws.length : Int) = xs.length ∧ ¬ (part ∧ setP bits s mode) ∧ e = 1) ∨ (lens xs.length ∧ (ws.length : Int) = xs.length ∧ (part ∧ setP bits s mode) ∧ ¬ (nears 2147483648 xs ∧ nears (2 ^ bits.toNat) ws) ∧ e = 2)
def Good (part : Prop) (xs ws : List (Int × Int)) (bits s mode : Int) : Prop :=
  lens xs.length ∧ (ws.length : Int) = xs.length ∧ (part ∧ setP bits s mode) ∧ nears 2147483648 xs ∧ nears (2 ^ bits.toNat) ws
theorem why_or (part : Prop) [Decidable part] (xs ws : List (Int × Int)) (bits s mode : Int) : Good part xs ws bits s mode ∨ ∃ e, Why part xs ws bits s mode e ∧ ¬ e = 0 := by
  by_cases h1 : lens xs.length
  · by_cases h2 : (ws.length : Int) = xs.length
    · by_cases h3 : part ∧ setP bits s mode
      · by_cases h4 : nears 2147483648 xs ∧ nears (2 ^ bits.toNat) ws
        · exact .inl ⟨h1, h2, h3, h4⟩
        · exact .inr ⟨2, .inr (.inr (.inr ⟨h1, h2, h3, h4, rfl⟩)), by decide⟩
      · exact .inr ⟨1, .inr (.inr (.inl ⟨h1, h2, h3, rfl⟩)), by decide⟩
    · exact .inr ⟨5, .inr (.inl ⟨h1, h2, rfl⟩), by decide⟩
  · exact .inr ⟨3, .inl ⟨h1, rfl⟩, by decide⟩
theorem lg_pos {n : Int} (h : lens n) : ¬ lg n < 0 := by
  rcases h with rfl | rfl | rfl | rfl | rfl <;> decide
section
variable (part : Prop) [Decidable part] (xs ws : List (Int × Int)) (bits s mode : Int) (hl : xs.length ≤ 1000000000) (hw : ws.length ≤ 1000000000)
include hl hw
end
theorem Same.ok (xs : List (Int × Int)) (hl : xs.length ≤ 1000000000) : Ok Tryz.prog 36 [.sl 2 (cxRows xs), .sl 2 (cxRows xs)] (.bool true) := by
  refine ok_of (X := fun _ => []) (Z := fun _ => false) (res := [ResultVar.tmp 4]) tok follows Tryz.func36 rfl rfl fine36 (by kernel_rfl) (by kernel_rfl) ?_
  simp only [evA, evT, evD, seval, cx_len]
  refine l_inv (fun i => ⟨[(13, .int i), (12, .int xs.length), (0, .sl 2 (cxRows xs)), (1, .sl 2 (cxRows xs))], [], 0⟩) xs.length ?_ (fun i hi K hK => ?_) (fun K => ?_)
  · refine weak_of (fun l => l) rfl trivial ?_
    simp only [evA, evB, evT, evD, seval, cx_free, Int.natCast_zero]
  · have h1 : (i : Int) < xs.length := by omega
    have h2 : (0 : Int) ≤ i := by omega
    have h3 : IntKind.i64.wrap ((i : Int) + 1) = i + 1 := wr (by omega)
    simp only [evA, evT, evD, seval, h1, h2, h3, cx_len, Int.toNat_natCast, cx_get hi]
    refine hK _ (weak_of (fun l => l) rfl trivial ?_)
    simp only [evA, evB, evT, evD, seval, cx_free, Int.natCast_add, Int.natCast_one]
  · simp only [evA, evT, evD, seval]
def rootV (ws : List (Int × Int)) (inv : Bool) (k : Nat) : Int × Int := ((ws.getD k (0, 0)).1, if inv = true then -(ws.getD k (0, 0)).2 else (ws.getD k (0, 0)).2)
theorem getD_at {α : Type} {l : List α} {i : Nat} {d : α} (h : i < l.length) : l.getD i d = l[i] := by
  rw [List.getD_eq_getElem?_getD, List.getElem?_eq_getElem h]
  rfl
theorem cx_getD {xs : List (Int × Int)} {i : Nat} (h : i < xs.length) : (cxRows xs).getD i [] = [.int (xs.getD i (0, 0)).1, .int (xs.getD i (0, 0)).2] := by
  rw [cx_get h, getD_at h]
theorem near_get {m : Int} {xs : List (Int × Int)} (h : nears m xs) {i : Nat} (hi : i < xs.length) : win m (xs.getD i (0, 0)).1 (xs.getD i (0, 0)).2 := by
  rw [getD_at hi]
  exact h _ (List.getElem_mem hi)
theorem win_mono {m m' a b : Int} (h : win m a b) (hm : m ≤ m') : win m' a b := by unfold win at *; omega
theorem RRoot.ok (ws : List (Int × Int)) (inv : Bool) (k : Nat) (hk : k < ws.length) (h : win 2305843009213693952 (ws.getD k (0, 0)).1 (ws.getD k (0, 0)).2) : Ok Tryz.prog 87 [.sl 2 (cxRows ws), .int k, .bool inv] (cxA (rootV ws inv k).1 (rootV ws inv k).2) := by
  have h1 : (k : Int) < ws.length := by omega
  have h2 : (0 : Int) ≤ k := by omega
  refine ok_of (X := fun _ => []) (Z := fun _ => false) (res := [ResultVar.cell 6 43]) tok follows Tryz.func87 rfl rfl fine87 (by kernel_rfl) (by kernel_rfl) ?_
  cases inv
  · simp only [evA, evT, evD, seval, h1, h2, cx_len, Int.toNat_natCast, cx_getD hk, rootV]
  · simp only [evA, evT, evD, seval, h1, h2, cx_len, Int.toNat_natCast, cx_getD hk, rootV]
    refine call_ok (RConj.ok _ _ h) rfl ?_
    simp only [evA, evT, evD, seval]
end Go.Proofs.YtnnjjblgilibgaaGreatV
/- A row's number, opened. -/
namespace Go.Proofs.YtnnjjblgilibgaaGreatV
open Go.ChangeShapes Go.WideShapes Go.ChangeAt Go.RowKit
set_option linter.unusedVariables false
set_option maxRecDepth 100000
theorem list2 {l : List Value} (h : l.length = 2) : ∃ c0 c1, l = [c0, c1] := by
  match l, h with
  | [c0, c1], _ => exact ⟨_, _, rfl⟩
theorem open_cx {H : Type} {enc : TypeId × Value → H} {W : World} {base : Nat} {v : Value} {d : DataW H} {p : List MemPlace} (hv : Value.okWide Tryz.prog W .any base 43 v) (h : DataW.Trod enc Tryz.prog W 0 (fun _ => true) true 43 v d p) :
    ∃ a b : Int, v = .agg #[.int .i64 a, .int .i64 b] := by
  unfold Value.okWide at hv
  rw [Tryz.underlying43] at hv
  obtain ⟨cs, rfl, hsz, _⟩ := hv
  have h2 : cs.toList.length = 2 := by
    rw [Array.length_toList, hsz]
    kernel_rfl
  obtain ⟨c0, c1, hl⟩ := list2 h2
  obtain ⟨fuel, hf⟩ := h
  have hf : DataW.trod enc Tryz.prog W 0 (fun _ => true) true fuel 43 [c0, c1] = some (d, p) := by rw [← hl]; exact hf
  have hc3 : Tryz.prog.cellsOf 3 = 1 := by kernel_rfl
  obtain ⟨y0, y1, n, _, _, g0, g1⟩ := trod_struct2 Tryz.underlying43 hf
  simp only [hc3, List.drop_zero, List.drop_succ_cons, List.take_succ_cons, List.take_zero] at g0 g1
  obtain ⟨a, e0, _, _⟩ := DataW.trod_int Tryz.underlying3 g0
  obtain ⟨b, e1, _, _⟩ := DataW.trod_int Tryz.underlying3 g1
  obtain rfl : c0 = .int .i64 a := by simpa using e0
  obtain rfl : c1 = .int .i64 b := by simpa using e1
  exact ⟨a, b, by rw [← Array.toList_inj.1 (show cs.toList = [.int .i64 a, .int .i64 b].toArray.toList from hl)]⟩
theorem rep_cxA {W : World} {φ : Nat → Option Value} {N : Nat → Prop} (a b : Int) : Rep W φ N (cxA a b) (.agg #[.int .i64 a, .int .i64 b]) := by
  refine .agg _ _ rfl fun i x hx => ?_
  match i, hx with
  | 0, hx => cases hx; exact .raw _
  | 1, hx => cases hx; exact .raw _
  | i + 2, hx => simp at hx
end Go.Proofs.YtnnjjblgilibgaaGreatV

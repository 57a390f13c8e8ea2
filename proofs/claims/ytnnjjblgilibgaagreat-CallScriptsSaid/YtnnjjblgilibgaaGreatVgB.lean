import Derived.Test.YtnnjjblgilibgaaGreatVcE
import Derived.Test.YtnnjjblgilibgaaGreatVgA
import Derived.Deep.Slices
import Derived.ChangeSlices
import Derived.SizedLaws
import Derived.ChangeSame
import Derived.KernelRfl
import Derived.Deep.SlicePairs
/- Contracts of the functions of the packages round and cx. -/
namespace Go.Proofs.YtnnjjblgilibgaaGreatV
open Go Go.RowKit
set_option linter.unusedVariables false
set_option linter.unusedSimpArgs false
set_option maxRecDepth 100000
set_option maxHeartbeats 4000000
theorem fine96 : Fine Tryz.prog 96 := fun _ _ => by kernel_rfl
theorem fine136 : Fine Tryz.prog 136 := fun _ _ => by kernel_rfl
theorem fine137 : Fine Tryz.prog 137 := fun _ _ => by kernel_rfl
theorem fine138 : Fine Tryz.prog 138 := fun _ _ => by kernel_rfl
theorem fine59 : Fine Tryz.prog 59 := fun _ _ => by kernel_rfl
theorem fine60 : Fine Tryz.prog 60 := fun _ _ => by kernel_rfl
theorem modes1.ok (a b : Int) (o : Bool) : Ok Tryz.prog 136 [.int a, .int b, .bool o] (.bool false) := by
  refine ok_of (X := fun _ => []) (Z := fun _ => false) (res := [ResultVar.tmp 6]) tok follows Tryz.func136 rfl rfl fine136 (by kernel_rfl) (by kernel_rfl) ?_
  simp only [evA, evT, evD, seval]
theorem modes2.ok (a b : Int) (o : Bool) : Ok Tryz.prog 137 [.int a, .int b, .bool o] (.bool (decide (b ≤ a))) := by
  refine ok_of (X := fun _ => []) (Z := fun _ => false) (res := [ResultVar.tmp 6]) tok follows Tryz.func137 rfl rfl fine137 (by kernel_rfl) (by kernel_rfl) ?_
  simp only [evA, evT, evD, seval]
theorem modes3.ok (a b : Int) (o : Bool) : Ok Tryz.prog 138 [.int a, .int b, .bool o] (.bool (decide (b < a ∨ a = b ∧ o = true))) := by
  refine ok_of (X := fun _ => []) (Z := fun _ => false) (res := [ResultVar.tmp 6]) tok follows Tryz.func138 rfl rfl fine138 (by kernel_rfl) (by kernel_rfl) ?_
  cases o <;> simp only [evA, evT, evD, seval]
  all_goals
    by_cases h1 : b < a
    · simp [h1]
    · by_cases h2 : a = b <;> simp [h1, h2]
abbrev modesAV : AV := .sl 1 [[.fn 136 []], [.fn 137 []], [.fn 138 []]]
theorem modes.ok : Ok Tryz.prog 96 [] modesAV := by
  refine ok_of (X := fun _ => []) (Z := fun _ => false) (res := [ResultVar.tmp 0]) tok follows Tryz.func96 rfl rfl fine96 (by kernel_rfl) (by kernel_rfl) ?_
  simp only [evA, evT, evD, seval]
theorem Shift.ok (x s how : Int) (hs : 0 ≤ s ∧ s ≤ 62) (hh : 0 ≤ how ∧ how ≤ 2) (hx : -9223372036854775808 ≤ x ∧ x < 9223372036854775808) : Ok Tryz.prog 59 [.int x, .int s, .int how] (.tup [.int (rsh x s how), .int 0]) := by
  have hm : how = 0 ∨ how = 1 ∨ how = 2 := by omega
  refine ok_of (X := fun _ => []) (Z := fun _ => false) (res := [ResultVar.tmp 6, ResultVar.tmp 7]) tok follows Tryz.func59 rfl rfl fine59 (by kernel_rfl) (by kernel_rfl) ?_
  simp only [evA, evT, evD, seval]
  refine call_ok (modes.ok) rfl ?_
  have h1 : ¬ s < 0 := by omega
  have h2 : ¬ 62 < s := by omega
  have h3 : 0 ≤ s := by omega
  by_cases h0 : s = 0
  · subst h0
    rcases hm with rfl | rfl | rfl <;> simp only [evA, evT, evD, seval, rsh_z]
  · have hn : s.toNat ≤ 62 := by omega
    have e1 : 0 ≤ IntKind.i64.wrap (s - 1) := by rw [wr (by omega)]; omega
    rcases hm with rfl | rfl | rfl
    · simp only [evA, evT, evD, seval, h1, h2, h0, h3, e1, sh_min hs, sh_min1 (show 1 ≤ s ∧ s ≤ 62 by omega), sh_p hn, sh_p (show s.toNat - 1 ≤ 62 by omega), pow_wr1 hn, and_mask64 _ hn, and1_64, sh_div]
      refine call_ok (modes1.ok _ _ _) rfl ?_
      simp only [evA, evT, evD, seval, rsh0]
    · simp only [evA, evT, evD, seval, h1, h2, h0, h3, e1, sh_min hs, sh_min1 (show 1 ≤ s ∧ s ≤ 62 by omega), sh_p hn, sh_p (show s.toNat - 1 ≤ 62 by omega), pow_wr1 hn, and_mask64 _ hn, and1_64, sh_div]
      refine call_ok (modes2.ok _ _ _) rfl ?_
      simp only [evA, evT, evD, seval]
      refine ⟨fun h => ?_, fun h => ?_⟩
      · rw [rsh_up h0 (b := true) (by simp [goesUp, h]), sh_up hx (by omega), if_pos rfl]
      · rw [rsh_up h0 (b := false) (by simp [goesUp]; omega)]
        rfl
    · simp only [evA, evT, evD, seval, h1, h2, h0, h3, e1, sh_min hs, sh_min1 (show 1 ≤ s ∧ s ≤ 62 by omega), sh_p hn, sh_p (show s.toNat - 1 ≤ 62 by omega), pow_wr1 hn, and_mask64 _ hn, and1_64, sh_div]
      refine call_ok (modes3.ok _ _ _) rfl ?_
      simp only [evA, evT, evD, seval]
      refine ⟨fun h => ?_, fun h => ?_⟩
      · rw [rsh_up h0 (b := true) (by simpa [goesUp] using h), sh_up hx (by omega), if_pos rfl]
      · rw [rsh_up h0 (b := false) (by simpa [goesUp] using h)]
        rfl
/-- A mode that is none, or a shift too far. -/
theorem Shift.bad (x s how : Int) (h : ¬ (0 ≤ s ∧ s ≤ 62 ∧ 0 ≤ how ∧ how ≤ 2)) : Ok Tryz.prog 59 [.int x, .int s, .int how] (.tup [.int 0, .int 1]) := by
  refine ok_of (X := fun _ => []) (Z := fun _ => false) (res := [ResultVar.tmp 6, ResultVar.tmp 7]) tok follows Tryz.func59 rfl rfl fine59 (by kernel_rfl) (by kernel_rfl) ?_
  simp only [evA, evT, evD, seval]
  refine call_ok (modes.ok) rfl ?_
  by_cases h1 : s < 0
  · simp only [evA, evT, evD, seval, h1]
  · by_cases h2 : 62 < s
    · simp only [evA, evT, evD, seval, h1, h2]
    · by_cases h3 : how < 0
      · simp only [evA, evT, evD, seval, h1, h2, h3]
      · have h4 : 3 ≤ how := by omega
        simp only [evA, evT, evD, seval, h1, h2, h3, h4]
abbrev cxA (x y : Int) : AV := .agg [.int x, .int y]
abbrev in64 (x : Int) : Prop := -9223372036854775808 ≤ x ∧ x < 9223372036854775808
theorem cxShift.ok (x y s how : Int) (hs : 0 ≤ s ∧ s ≤ 62) (hh : 0 ≤ how ∧ how ≤ 2) (hx : in64 x) (hy : in64 y) : Ok Tryz.prog 60 [cxA x y, .int s, .int how] (.tup [cxA (rsh x s how) (rsh y s how), .int 0]) := by
  refine ok_of (X := fun _ => []) (Z := fun _ => false) (res := [ResultVar.cell 6 43, ResultVar.tmp 7]) tok follows Tryz.func60 rfl rfl fine60 (by kernel_rfl) (by kernel_rfl) ?_
  simp only [evA, evT, evD, seval]
  refine call_ok (Shift.ok x s how hs hh hx) rfl ?_
  simp only [evA, evT, evD, seval]
  refine call_ok (Shift.ok y s how hs hh hy) rfl ?_
  simp only [evA, evT, evD, seval]
end Go.Proofs.YtnnjjblgilibgaaGreatV
/- Contracts of the functions of the package cx. -/
namespace Go.Proofs.YtnnjjblgilibgaaGreatV
open Go Go.RowKit
set_option linter.unusedVariables false
set_option linter.unusedSimpArgs false
set_option maxRecDepth 100000
set_option maxHeartbeats 4000000
theorem fine150 : Fine Tryz.prog 150 := fun _ _ => by kernel_rfl
theorem fine149 : Fine Tryz.prog 149 := fun _ _ => by kernel_rfl
theorem fine145 : Fine Tryz.prog 145 := fun _ _ => by kernel_rfl
theorem fine163 : Fine Tryz.prog 163 := fun _ _ => by kernel_rfl
theorem fine120 : Fine Tryz.prog 120 := fun _ _ => by kernel_rfl
theorem fine151 : Fine Tryz.prog 151 := fun _ _ => by kernel_rfl
theorem fine146 : Fine Tryz.prog 146 := fun _ _ => by kernel_rfl
theorem fine164 : Fine Tryz.prog 164 := fun _ _ => by kernel_rfl
/-- Both parts are so great at most. -/
abbrev win (m a b : Int) : Prop := a ≤ m ∧ b ≤ m ∧ -m ≤ a ∧ -m ≤ b
theorem within.ok (m a b : Int) (hm : 0 ≤ m ∧ m ≤ 4611686018427387904) : Ok Tryz.prog 150 [.int m, .sl 2 [[.int a, .int b]]] (.bool (decide (win m a b))) := by
  refine ok_of (X := fun _ => []) (Z := fun _ => false) (res := [ResultVar.tmp 4]) tok follows Tryz.func150 rfl rfl fine150 (by kernel_rfl) (by kernel_rfl) ?_
  have e1 : IntKind.i64.wrap (0 - m) = -m := by rw [wr (by omega)]; omega
  simp only [evA, evT, evD, seval]
  refine ⟨2, l_succ ?_⟩
  simp only [evA, evT, evD, seval, e1]
  refine ⟨fun h1 => ⟨fun h2 => ?_, fun h2 => l_succ ?_⟩, fun h => ?_⟩
  · rw [decide_eq_false (by unfold win; omega)]
  · simp only [evA, evT, evD, seval]
    rw [decide_eq_true (by unfold win; omega)]
  · rw [decide_eq_false (by unfold win; omega)]
theorem within.yes (m a b : Int) (hm : 0 ≤ m ∧ m ≤ 4611686018427387904) (h : win m a b) : Ok Tryz.prog 150 [.int m, .sl 2 [[.int a, .int b]]] (.bool true) := by
  have := within.ok m a b hm
  rwa [decide_eq_true h] at this
theorem within.not (m a b : Int) (hm : 0 ≤ m ∧ m ≤ 4611686018427387904) (h : ¬ win m a b) : Ok Tryz.prog 150 [.int m, .sl 2 [[.int a, .int b]]] (.bool false) := by
  have := within.ok m a b hm
  rwa [decide_eq_false h] at this
/-- made: not in range. -/
theorem made.no (F : Nat) (caps : List AV) : Ok Tryz.prog 149 [.bool false, .fn F caps] (.tup [cxA 0 0, .int 2]) := by
  refine ok_of (X := fun _ => []) (Z := fun _ => false) (res := [ResultVar.cell 4 43, ResultVar.tmp 5]) tok follows Tryz.func149 rfl rfl fine149 (by kernel_rfl) (by kernel_rfl) ?_
  simp only [evA, evT, evD, seval]
theorem made1.ok (F : Nat) (a b x y : Int) (h : Ok Tryz.prog F [.box [.int a, .int b] 0] (cxA x y)) : Ok Tryz.prog 149 [.bool true, .fn F [.box [.int a, .int b] 0]] (.tup [cxA x y, .int 0]) := by
  refine ok_of (X := fun _ => []) (Z := fun _ => false) (res := [ResultVar.cell 4 43, ResultVar.tmp 5]) tok follows Tryz.func149 rfl rfl fine149 (by kernel_rfl) (by kernel_rfl) ?_
  simp only [evA, evT, evD, seval]
  refine call_ok h rfl ?_
  simp only [evA, evT, evD, seval]
theorem made2.ok (F : Nat) (a b c d x y : Int) (h : Ok Tryz.prog F [.box [.int a, .int b] 0, .box [.int c, .int d] 0] (cxA x y)) : Ok Tryz.prog 149 [.bool true, .fn F [.box [.int a, .int b] 0, .box [.int c, .int d] 0]] (.tup [cxA x y, .int 0]) := by
  refine ok_of (X := fun _ => []) (Z := fun _ => false) (res := [ResultVar.cell 4 43, ResultVar.tmp 5]) tok follows Tryz.func149 rfl rfl fine149 (by kernel_rfl) (by kernel_rfl) ?_
  simp only [evA, evT, evD, seval]
  refine call_ok h rfl ?_
  simp only [evA, evT, evD, seval]
abbrev near (m a b : Int) : Prop := -m ≤ a ∧ a ≤ m ∧ -m ≤ b ∧ b ≤ m
theorem mul_near {p q a b : Int} (hp : 0 ≤ p) (ha : -p ≤ a ∧ a ≤ p) (hb : -q ≤ b ∧ b ≤ q) : -(p * q) ≤ a * b ∧ a * b ≤ p * q := by
  have h1 : a.natAbs ≤ p.toNat := by omega
  have h2 : b.natAbs ≤ q.toNat := by omega
  have h3 := Nat.mul_le_mul h1 h2
  rw [← Int.natAbs_mul] at h3
  have h4 : ((p.toNat * q.toNat : Nat) : Int) = p * q := by
    rw [Int.natCast_mul, Int.toNat_of_nonneg hp, Int.toNat_of_nonneg (by omega)]
  omega
theorem Times1.ok (a b c d : Int) (h1 : win 2147483648 a b) (h2 : win 1073741824 c d) : Ok Tryz.prog 163 [.box [.int a, .int b] 0, .box [.int c, .int d] 0] (cxA (a * c - b * d) (a * d + b * c)) := by
  unfold win at h1 h2
  have g1 := mul_near (p := 2147483648) (q := 1073741824) (a := a) (b := c) (by decide) (by omega) (by omega)
  have g2 := mul_near (p := 2147483648) (q := 1073741824) (a := b) (b := d) (by decide) (by omega) (by omega)
  have g3 := mul_near (p := 2147483648) (q := 1073741824) (a := a) (b := d) (by decide) (by omega) (by omega)
  have g4 := mul_near (p := 2147483648) (q := 1073741824) (a := b) (b := c) (by decide) (by omega) (by omega)
  have e1 : IntKind.i64.wrap (a * c) = a * c := wr (by omega)
  have e2 : IntKind.i64.wrap (b * d) = b * d := wr (by omega)
  have e3 : IntKind.i64.wrap (a * d) = a * d := wr (by omega)
  have e4 : IntKind.i64.wrap (b * c) = b * c := wr (by omega)
  have e5 : IntKind.i64.wrap (a * c - b * d) = a * c - b * d := wr (by omega)
  have e6 : IntKind.i64.wrap (a * d + b * c) = a * d + b * c := wr (by omega)
  refine ok_of (X := fun _ => []) (Z := fun _ => false) (res := [ResultVar.cell 2 43]) tok follows Tryz.func163 rfl rfl fine163 (by kernel_rfl) (by kernel_rfl) ?_
  simp only [evA, evT, evD, seval, e1, e2, e3, e4, e5, e6]
theorem Times.ok (a b c d : Int) (h1 : win 2147483648 a b) (h2 : win 1073741824 c d) : Ok Tryz.prog 145 [cxA a b, cxA c d] (.tup [cxA (a * c - b * d) (a * d + b * c), .int 0]) := by
  refine ok_of (X := fun _ => []) (Z := fun _ => false) (res := [ResultVar.cell 4 43, ResultVar.tmp 5]) tok follows Tryz.func145 rfl rfl fine145 (by kernel_rfl) (by kernel_rfl) ?_
  simp only [evA, evT, evD, seval]
  refine call_ok (within.yes 2147483648 a b (by decide) h1) rfl ?_
  simp only [evA, evT, evD, seval]
  refine call_ok (within.yes 1073741824 c d (by decide) h2) rfl ?_
  simp only [evA, evT, evD, seval]
  refine call_ok (made2.ok _ a b c d _ _ (Times1.ok a b c d h1 h2)) rfl ?_
  simp only [evA, evT, evD, seval]
theorem Conj1.ok (a b : Int) (h : win 2305843009213693952 a b) : Ok Tryz.prog 151 [.box [.int a, .int b] 0] (cxA a (-b)) := by
  have e1 : IntKind.i64.wrap (0 - b) = -b := by rw [wr (by unfold win at h; omega)]; omega
  refine ok_of (X := fun _ => []) (Z := fun _ => false) (res := [ResultVar.cell 1 43]) tok follows Tryz.func151 rfl rfl fine151 (by kernel_rfl) (by kernel_rfl) ?_
  simp only [evA, evT, evD, seval, e1]
theorem Conj.ok (a b : Int) (h : win 2305843009213693952 a b) : Ok Tryz.prog 120 [cxA a b] (.tup [cxA a (-b), .int 0]) := by
  refine ok_of (X := fun _ => []) (Z := fun _ => false) (res := [ResultVar.cell 2 43, ResultVar.tmp 3]) tok follows Tryz.func120 rfl rfl fine120 (by kernel_rfl) (by kernel_rfl) ?_
  simp only [evA, evT, evD, seval]
  refine call_ok (within.yes 2305843009213693952 a b (by decide) h) rfl ?_
  simp only [evA, evT, evD, seval]
  refine call_ok (made1.ok _ a b _ _ (Conj1.ok a b h)) rfl ?_
  simp only [evA, evT, evD, seval]
/-- A number turned, so many quarters. -/
def tRe (x y n : Int) : Int := if n % 4 = 0 then x else if n % 4 = 1 then -y else if n % 4 = 2 then -x else y
def tIm (x y n : Int) : Int := if n % 4 = 0 then y else if n % 4 = 1 then x else if n % 4 = 2 then -y else -x
theorem Turn1.ok (x y n : Int) (h : win 2305843009213693952 x y) : OkG Tryz.prog 164 [.box [.int n], .box [.int x, .int y]] [.loc 0 0, .loc 1 0] [.box [.int n], .box [.int (tRe x y n), .int (tIm x y n)]] none (cxA (tRe x y n) (tIm x y n)) := by
  unfold win at h
  have e1 : IntKind.i64.wrap (0 - y) = -y := by rw [wr (by omega)]; omega
  have e2 : IntKind.i64.wrap (0 - x) = -x := by rw [wr (by omega)]; omega
  have e3 : IntKind.i64.wrap (0 - -y) = y := by rw [wr (by omega)]; omega
  have hand : bits .and .i64 n 3 = n % 4 := and3_64 n
  have hn : n % 4 = 0 ∨ n % 4 = 1 ∨ n % 4 = 2 ∨ n % 4 = 3 := by omega
  refine okg_of (X := fun _ => []) (Z := fun _ => false) (res := [ResultVar.cell 2 43]) tok follows Tryz.func164 rfl rfl fine164 (by kernel_rfl) (by kernel_rfl) (id := none) rfl ?_
  rcases hn with hn | hn | hn | hn
  all_goals simp only [evA, evB, evT, evD, seval, hand, hn, tRe, tIm]
  · refine ⟨1, l_succ ?_⟩
    simp only [evA, evB, evT, evD, seval]
  · refine ⟨2, l_succ ?_⟩
    simp only [evA, evB, evT, evD, seval, e1]
    refine l_succ ?_
    simp only [evA, evB, evT, evD, seval]
  · refine ⟨3, l_succ ?_⟩
    simp only [evA, evB, evT, evD, seval, e1]
    refine l_succ ?_
    simp only [evA, evB, evT, evD, seval, e2]
    refine l_succ ?_
    simp only [evA, evB, evT, evD, seval]
  · refine ⟨4, l_succ ?_⟩
    simp only [evA, evB, evT, evD, seval, e1]
    refine l_succ ?_
    simp only [evA, evB, evT, evD, seval, e2]
    refine l_succ ?_
    simp only [evA, evB, evT, evD, seval, e3]
    refine l_succ ?_
    simp only [evA, evB, evT, evD, seval]
theorem madeG.ok (F : Nat) (a b n x y : Int) (h : OkG Tryz.prog F [.box [.int n], .box [.int a, .int b]] [.loc 0 0, .loc 1 0] [.box [.int n], .box [.int x, .int y]] none (cxA x y)) : OkG Tryz.prog 149 [.box [.int n], .box [.int a, .int b]] [.bool true, .fn F [.loc 0 0, .loc 1 0]] [.box [.int n], .box [.int x, .int y]] none (.tup [cxA x y, .int 0]) := by
  refine okg_of (X := fun r => if Nat.beq r 4 then [[], [.const (.bool true)]] else []) (Z := fun _ => false) (res := [ResultVar.cell 4 43, ResultVar.tmp 5]) tok follows Tryz.func149 rfl rfl fine149 (by kernel_rfl) (by kernel_rfl) (id := none) rfl ?_
  simp only [evA, evB, evT, evD, seval]
  refine call_eff [0, 1] h rfl (by decide) ?_ rfl rfl rfl ?_ ?_ ?_ rfl rfl ?_
  all_goals simp only [evA, evB, evT, evD, seval]
theorem Turn.ok (x y n : Int) (h : win 2305843009213693952 x y) : Ok Tryz.prog 146 [cxA x y, .int n] (.tup [cxA (tRe x y n) (tIm x y n), .int 0]) := by
  refine ok_of (X := fun r => if Nat.beq r 1 then [[], [], [], [], [.const (.bool true)]] else []) (Z := fun _ => false) (res := [ResultVar.cell 4 43, ResultVar.tmp 5]) tok follows Tryz.func146 rfl rfl fine146 (by kernel_rfl) (by kernel_rfl) ?_
  simp only [evA, evB, evT, evD, seval]
  refine call_ok (within.yes 2305843009213693952 x y (by decide) h) rfl ?_
  simp only [evA, evB, evT, evD, seval]
  refine call_eff [1, 0] (madeG.ok _ x y n _ _ (Turn1.ok x y n h)) rfl (by decide) ?_ rfl rfl rfl ?_ ?_ ?_ rfl rfl ?_
  all_goals simp only [evA, evB, evT, evD, seval]
end Go.Proofs.YtnnjjblgilibgaaGreatV
/- Contracts: a slice of numbers gone through. -/
namespace Go.Proofs.YtnnjjblgilibgaaGreatV
open Go Go.RowKit
set_option linter.unusedVariables false
set_option linter.unusedSimpArgs false
set_option maxRecDepth 100000
set_option maxHeartbeats 40000000
theorem fine108 : Fine Tryz.prog 108 := fun _ _ => by kernel_rfl
theorem fine72 : Fine Tryz.prog 72 := fun _ _ => by kernel_rfl
/-- A slice of numbers, by rows. -/
def cxRows (xs : List (Int × Int)) : List (List AV) := xs.map fun p => [.int p.1, .int p.2]
theorem cx_len {xs : List (Int × Int)} : (cxRows xs).length = xs.length := by simp [cxRows]
theorem cx_free : ∀ (xs : List (Int × Int)), rowsFree (cxRows xs) = true
  | [] => rfl
  | p :: r => by
    show (allFree [.int p.1, .int p.2] && rowsFree (cxRows r)) = true
    rw [cx_free r]
    rfl
theorem cx_get {xs : List (Int × Int)} {i : Nat} (h : i < xs.length) : (cxRows xs).getD i [] = [.int xs[i].1, .int xs[i].2] := by
  unfold cxRows
  rw [List.getD_eq_getElem?_getD, List.getElem?_map, List.getElem?_eq_getElem h]
  rfl
theorem index.ok (F : Nat) (caps : List AV) (p : Int × Int → Prop) [DecidablePred p] (xs : List (Int × Int)) (hl : xs.length ≤ 1000000000) (hc : ∀ lb, caps.map (snap lb 6) = caps) (hf : allFree caps = true) (h : ∀ x ∈ xs, Ok Tryz.prog F (cxA x.1 x.2 :: caps) (.bool (decide (p x))))
    (m : Nat) (hm : m ≤ xs.length) (hno : ∀ i (hi : i < xs.length), i < m → ¬ p xs[i]) (r : Int) (hr : (m = xs.length ∧ r = -1) ∨ ∃ hi : m < xs.length, p xs[m] ∧ r = m) :
    Ok Tryz.prog 108 [.sl 2 (cxRows xs), .fn F caps] (.int r) := by
  refine ok_of (X := fun _ => []) (Z := fun _ => false) (res := [ResultVar.tmp 4]) tok follows Tryz.func108 rfl rfl fine108 (by kernel_rfl) (by kernel_rfl) ?_
  simp only [evA, evB, evT, evD, seval, cx_len]
  refine l_inv (fun i => ⟨[(8, .int i), (7, .int xs.length), (0, .sl 2 (cxRows xs)), (1, .fn F caps), (4, .int 0)], [], 0⟩) m ?_ (fun i hi K hK => ?_) (fun K => ?_)
  · refine weak_of (fun l => l) rfl trivial ?_
    simp only [evA, evB, evT, evD, seval, cx_free, hf, Int.natCast_zero]
  · have hil : i < xs.length := by omega
    have h1 : (i : Int) < xs.length := by omega
    have h2 : (0 : Int) ≤ i := by omega
    have h3 : IntKind.i64.wrap ((i : Int) + 1) = i + 1 := wr (by omega)
    simp only [evA, evB, evT, evD, seval, h1, h2, h3, cx_len, Int.toNat_natCast, cx_get hil, hc]
    refine call_ok (h xs[i] (List.getElem_mem hil)) rfl ?_
    simp only [evA, evB, evT, evD, seval, h3, hno i hil hi]
    refine hK _ (weak_of (fun l => l) rfl trivial ?_)
    simp only [evA, evB, evT, evD, seval, cx_free, hf, Int.natCast_add, Int.natCast_one]
  · rcases hr with ⟨hr, rfl⟩ | ⟨hil, hp, rfl⟩
    · simp only [evA, evB, evT, evD, seval, hr]
    · have h1 : (m : Int) < xs.length := by omega
      have h2 : (0 : Int) ≤ m := by omega
      simp only [evA, evB, evT, evD, seval, h1, h2, cx_len, Int.toNat_natCast, cx_get hil, hc]
      refine call_ok (h xs[m] (List.getElem_mem hil)) rfl ?_
      simp only [evA, evB, evT, evD, seval, hp]
theorem first_of {p : Int × Int → Prop} [DecidablePred p] : ∀ (xs : List (Int × Int)), (∃ x ∈ xs, p x) → ∃ (m : Nat) (hm : m < xs.length), p xs[m] ∧ ∀ i (hi : i < xs.length), i < m → ¬ p xs[i]
  | [], h => by obtain ⟨x, hx, _⟩ := h; cases hx
  | a :: r, h => by
    by_cases ha : p a
    · exact ⟨0, by simp, ha, fun i _ hi => by omega⟩
    · have h' : ∃ x ∈ r, p x := by
        obtain ⟨x, hx, hp⟩ := h
        rcases List.mem_cons.1 hx with rfl | hx
        · exact absurd hp ha
        · exact ⟨x, hx, hp⟩
      obtain ⟨m, hm, h1, h2⟩ := first_of r h'
      refine ⟨m + 1, by simp; omega, by simpa using h1, fun i hi hlt => ?_⟩
      cases i with
      | zero => exact ha
      | succ i => simpa using h2 i (by simpa using hi) (by omega)
theorem contains.ok (F : Nat) (caps : List AV) (p : Int × Int → Prop) [DecidablePred p] (xs : List (Int × Int)) (hl : xs.length ≤ 1000000000) (hc : ∀ lb, caps.map (snap lb 6) = caps) (hc5 : ∀ lb, caps.map (snap lb 5) = caps) (hf : allFree caps = true) (h : ∀ x ∈ xs, Ok Tryz.prog F (cxA x.1 x.2 :: caps) (.bool (decide (p x)))) :
    Ok Tryz.prog 72 [.sl 2 (cxRows xs), .fn F caps] (.bool (decide (∃ x ∈ xs, p x))) := by
  refine ok_of (X := fun _ => []) (Z := fun _ => false) (res := [ResultVar.tmp 4]) tok follows Tryz.func72 rfl rfl fine72 (by kernel_rfl) (by kernel_rfl) ?_
  simp only [evA, evB, evT, evD, seval, cx_free]
  by_cases hex : ∃ x ∈ xs, p x
  · obtain ⟨m, hm, h1, h2⟩ := first_of xs hex
    have h3 : (0 : Int) ≤ m := by omega
    simp only [hc5]
    refine call_ok (index.ok F caps p xs hl hc hf h m (by omega) h2 m (.inr ⟨hm, h1, rfl⟩)) rfl ?_
    simp only [evA, evB, evT, evD, seval, h3, decide_eq_true hex]
  · simp only [hc5]
    refine call_ok (index.ok F caps p xs hl hc hf h xs.length (Nat.le_refl _) (fun i hi _ hp => hex ⟨_, List.getElem_mem hi, hp⟩) (-1) (.inl ⟨rfl, rfl⟩)) rfl ?_
    simp only [evA, evB, evT, evD, seval, decide_eq_false hex]
end Go.Proofs.YtnnjjblgilibgaaGreatV
/- Contracts of the package sat: mantissas, clamped. -/
namespace Go.Proofs.YtnnjjblgilibgaaGreatV
open Go Go.RowKit
set_option linter.unusedVariables false
set_option linter.unusedSimpArgs false
set_option maxRecDepth 100000
set_option maxHeartbeats 40000000
theorem fine30 : Fine Tryz.prog 30 := fun _ _ => by kernel_rfl
theorem fine67 : Fine Tryz.prog 67 := fun _ _ => by kernel_rfl
/-- Formats: bits, and what 1 is. -/
def fB (f : Int) : Int := if f = 1 then 31 else 15
def fM (f : Int) : Int := if f = 1 then 2147483648 else 32768
abbrev fmt (f : Int) : Prop := f = 0 ∨ f = 1
theorem sn15 : IntKind.i64.wrap (-1 * 2 ^ min 15 IntKind.i64.bits) = -32768 := by decide
theorem sn31 : IntKind.i64.wrap (-1 * 2 ^ min 31 IntKind.i64.bits) = -2147483648 := by decide
theorem sp15 : IntKind.i64.wrap (1 * 2 ^ min 15 IntKind.i64.bits) = 32768 := by decide
theorem sp31 : IntKind.i64.wrap (1 * 2 ^ min 31 IntKind.i64.bits) = 2147483648 := by decide
theorem wk15 : IntKind.i64.wrap 32767 = 32767 := by decide
theorem wk31 : IntKind.i64.wrap 2147483647 = 2147483647 := by decide
theorem Bits.ok (f : Int) (hf : fmt f) : Ok Tryz.prog 30 [.int f] (.tup [.int (fB f), .int 0]) := by
  refine ok_of (X := fun _ => []) (Z := fun _ => false) (res := [ResultVar.tmp 2, ResultVar.tmp 3]) tok follows Tryz.func30 rfl rfl fine30 (by kernel_rfl) (by kernel_rfl) ?_
  rcases hf with rfl | rfl <;> simp only [evA, evT, evD, seval, fB]
theorem Bits.bad (f : Int) (hf : ¬ fmt f) : Ok Tryz.prog 30 [.int f] (.tup [.int 0, .int 1]) := by
  have h0 : ¬ f = 0 := fun h => hf (.inl h)
  have h1 : ¬ f = 1 := fun h => hf (.inr h)
  refine ok_of (X := fun _ => []) (Z := fun _ => false) (res := [ResultVar.tmp 2, ResultVar.tmp 3]) tok follows Tryz.func30 rfl rfl fine30 (by kernel_rfl) (by kernel_rfl) ?_
  simp only [evA, evT, evD, seval, h0, h1]
/-- The mantissa next to a number. -/
def cl (f x : Int) : Int := if x < -fM f then -fM f else if fM f - 1 < x then fM f - 1 else x
theorem Clamp.ok (x f : Int) (hf : fmt f) : Ok Tryz.prog 67 [.int x, .int f] (.tup [.int (cl f x), .bool (decide (¬ cl f x = x)), .int 0]) := by
  refine ok_of (X := fun _ => []) (Z := fun _ => false) (res := [ResultVar.tmp 4, ResultVar.tmp 5, ResultVar.tmp 6]) tok follows Tryz.func67 rfl rfl fine67 (by kernel_rfl) (by kernel_rfl) ?_
  simp only [evA, evT, evD, seval]
  refine call_ok (Bits.ok f hf) rfl ?_
  rcases hf with rfl | rfl
  · have h : (if 32767 < (if x < -32768 then -32768 else x) then 32767 else (if x < -32768 then -32768 else x)) = cl 0 x := by
      simp [cl, fM]
      repeat' split
      all_goals omega
    simp only [evA, evT, evD, seval, fB, sn15, sp15, wk15, h]
    by_cases e : cl 0 x = x <;> simp [e]
  · have h : (if 2147483647 < (if x < -2147483648 then -2147483648 else x) then 2147483647 else (if x < -2147483648 then -2147483648 else x)) = cl 1 x := by
      simp [cl, fM]
      repeat' split
      all_goals omega
    simp only [evA, evT, evD, seval, fB, sn31, sp31, wk31, h]
    by_cases e : cl 1 x = x <;> simp [e]
/-- A mantissa. -/
abbrev mant (f x : Int) : Prop := -fM f ≤ x ∧ x < fM f
def intRows (zs : List Int) : List (List AV) := zs.map fun z => [.int z]
theorem in_len {zs : List Int} : (intRows zs).length = zs.length := by simp [intRows]
theorem in_free : ∀ (zs : List Int), rowsFree (intRows zs) = true
  | [] => rfl
  | z :: r => by
    show (allFree [.int z] && rowsFree (intRows r)) = true
    rw [in_free r]
    rfl
theorem in_get {zs : List Int} {i : Nat} (h : i < zs.length) : (intRows zs).getD i [] = [.int zs[i]] := by
  unfold intRows
  rw [List.getD_eq_getElem?_getD, List.getElem?_map, List.getElem?_eq_getElem h]
  rfl
theorem fM_pos {f : Int} (hf : fmt f) : 32768 ≤ fM f ∧ fM f ≤ 2147483648 := by
  rcases hf with rfl | rfl <;> simp [fM]
theorem mul_bd {a b f : Int} (hf : fmt f) (ha : mant f a) (hb : mant f b) : -4611686018427387904 ≤ a * b ∧ a * b ≤ 4611686018427387904 := by
  have := fM_pos hf
  have h1 : a.natAbs ≤ 2147483648 := by omega
  have h2 : b.natAbs ≤ 2147483648 := by omega
  have h3 := Nat.mul_le_mul h1 h2
  rw [← Int.natAbs_mul] at h3
  omega
end Go.Proofs.YtnnjjblgilibgaaGreatV
/- The law SatOnly answers true. -/
namespace Go.Proofs.YtnnjjblgilibgaaGreatV
open Go Go.RowKit
set_option linter.unusedVariables false
set_option linter.unusedSimpArgs false
set_option maxRecDepth 100000
set_option maxHeartbeats 40000000
theorem cl_btw {f : Int} (hf : fmt f) (v : Int) : -fM f ≤ cl f v ∧ cl f v ≤ fM f - 1 := by
  have := fM_pos hf
  unfold cl
  repeat' split
  all_goals omega
theorem cl_same {f : Int} (hf : fmt f) (v : Int) : cl f v = v ↔ mant f v := by
  have := fM_pos hf
  unfold cl
  repeat' split
  all_goals omega
theorem cl_mono {f u v : Int} (hf : fmt f) (h : u ≤ v) : cl f u ≤ cl f v := by
  have := fM_pos hf
  unfold cl
  repeat' split
  all_goals omega
theorem lo0 (v : Int) : (cl 0 v < -32768) = False := by have := (cl_btw (f := 0) (.inl rfl) v).1; simp [fM] at this; simp; omega
theorem hi0 (v : Int) : (32768 ≤ cl 0 v) = False := by have := (cl_btw (f := 0) (.inl rfl) v).2; simp [fM] at this; simp; omega
theorem lo1 (v : Int) : (cl 1 v < -2147483648) = False := by have := (cl_btw (f := 1) (.inr rfl) v).1; simp [fM] at this; simp; omega
theorem hi1 (v : Int) : (2147483648 ≤ cl 1 v) = False := by have := (cl_btw (f := 1) (.inr rfl) v).2; simp [fM] at this; simp; omega
theorem sk15 : IntKind.i64.wrap 32768 = 32768 := by decide
theorem sk31 : IntKind.i64.wrap 2147483648 = 2147483648 := by decide
theorem neg_only {f A : Int} (hf : fmt f) (hA : mant f A) : cl f (-A) = -A ↔ ¬ A = -fM f := by
  rw [cl_same hf]
  unfold mant at *
  omega
theorem mul_only {f A B m : Int} (hf : fmt f) (hA : mant f A) (hB : mant f B) : cl f (rsh (A * B) (fB f) m) = rsh (A * B) (fB f) m ↔ ¬ (A = -fM f ∧ B = -fM f) := by
  have hp := fM_pos hf
  have hpow : (2 : Int) ^ (fB f).toNat = fM f := by rcases hf with rfl | rfl <;> rfl
  rw [cl_same hf]
  unfold mant at *
  constructor
  · rintro h ⟨rfl, rfl⟩
    have := rsh_btw (x := -fM f * -fM f) (s := fB f) (how := m) (a := fM f) (b := fM f) (by rw [hpow, Int.neg_mul_neg]; omega) (by rw [hpow, Int.neg_mul_neg]; omega)
    omega
  · intro h
    have h1 : -fM f * fM f ≤ A * B ∧ A * B ≤ (fM f - 1) * fM f := by
      have e1 : A.natAbs ≤ (fM f).toNat := by omega
      have e2 : B.natAbs ≤ (fM f).toNat := by omega
      have e3 : A.natAbs ≤ (fM f).toNat - 1 ∨ B.natAbs ≤ (fM f).toNat - 1 := by omega
      have e4 : (A * B).natAbs ≤ ((fM f).toNat - 1) * (fM f).toNat := by
        rw [Int.natAbs_mul]
        rcases e3 with e | e
        · exact Nat.mul_le_mul e e2
        · rw [Nat.mul_comm]
          exact Nat.mul_le_mul e e1
      have e5 : ((((fM f).toNat - 1) * (fM f).toNat : Nat) : Int) = (fM f - 1) * fM f := by
        rw [Int.natCast_mul, Int.toNat_of_nonneg (by omega), show (((fM f).toNat - 1 : Nat) : Int) = fM f - 1 by omega]
      have e6 : -fM f * fM f ≤ -((fM f - 1) * fM f) := by
        rw [Int.neg_mul, Int.sub_mul, Int.one_mul]
        omega
      generalize (fM f - 1) * fM f = X at *
      generalize -fM f * fM f = Y at *
      omega
    have := rsh_btw (x := A * B) (s := fB f) (how := m) (a := -fM f) (b := fM f - 1) (by rw [hpow]; exact h1.1) (by rw [hpow]; exact h1.2)
    omega
theorem mant_max {f A C : Int} (hA : mant f A) (hC : mant f C) : mant f (if A < C then C else A) := by
  split <;> assumption
theorem be_self (b : Bool) : (b == b) = Bool.true := by cases b <;> rfl
theorem be_tt : (Bool.true == Bool.true) = Bool.true := rfl
theorem be_tf : (Bool.true == Bool.false) = Bool.false := rfl
theorem be_ft : (Bool.false == Bool.true) = Bool.false := rfl
theorem be_ff : (Bool.false == Bool.false) = Bool.true := rfl
theorem rem_in (f a : Int) (hf : fmt f) : mant f (a.tmod (fM f)) := by
  rcases hf with rfl | rfl
  · show -32768 ≤ a.tmod 32768 ∧ a.tmod 32768 < 32768
    rw [Int.tmod_eq_emod]
    split <;> omega
  · show -2147483648 ≤ a.tmod 2147483648 ∧ a.tmod 2147483648 < 2147483648
    rw [Int.tmod_eq_emod]
    split <;> omega
theorem f_in (a : Int) : fmt ((IntKind.i64.wrap (a.tmod 2 + 2)).tmod 2) := by
  have h : -1 ≤ a.tmod 2 ∧ a.tmod 2 ≤ 1 := by rw [Int.tmod_eq_emod]; split <;> omega
  rw [wr (by omega), Int.tmod_eq_emod_of_nonneg (by omega)]
  omega
theorem m_in (a : Int) : 0 ≤ (IntKind.i64.wrap (a.tmod 3 + 3)).tmod 3 ∧ (IntKind.i64.wrap (a.tmod 3 + 3)).tmod 3 ≤ 2 := by
  have h : -2 ≤ a.tmod 3 ∧ a.tmod 3 ≤ 2 := by rw [Int.tmod_eq_emod]; split <;> omega
  rw [wr (by omega), Int.tmod_eq_emod_of_nonneg (by omega)]
  omega
end Go.Proofs.YtnnjjblgilibgaaGreatV
/- A row's slice of whole numbers, opened as rows. -/
namespace Go.Proofs.YtnnjjblgilibgaaGreatV
open Go Go.RowKit
set_option linter.unusedVariables false
set_option linter.unusedSimpArgs false
section
open Go.ChangeShapes Go.WideShapes Go.Deep
variable {H : Type} {enc : TypeId × Value → H} {P : Program} {w : World} {base : Nat} {spare : Nat → Bool} {held : Bool}
theorem okWide_row_n {r : Reach} {b0 : Nat} {t e : TypeId} {v : Value} (ht : P.underlying t = some (.slice e)) (h : Value.okWide P w r b0 t v) : ∃ A l c, v = .slice A l c := by
  simp only [Value.okWide, ht, Cell.okWide] at h
  cases v <;> simp_all [Cell.ok]
theorem okWide_some_n {r : Reach} {b0 : Nat} {t e : TypeId} {a : Addr} {l c : Nat} (ht : P.underlying t = some (.slice e)) (h : Value.okWide P w r b0 t (.slice (some a) l c)) : a.spot = none ∧ a.block < w.heap.size := by
  simp only [Value.okWide, ht, Cell.okWide, Cell.ok] at h
  obtain ⟨_, _, _, h1, row, cells, h2, _⟩ := h
  refine ⟨h1, ?_⟩
  unfold World.shape? at h2
  rcases Nat.lt_or_ge a.block w.heap.size with h3 | h3
  · exact h3
  · rw [Array.getElem?_eq_none h3] at h2
    cases h2
theorem open_int_rows {r : Reach} {b0 : Nat} {t e : TypeId} {v : Value} {d : DataW H} {ps : List MemPlace} (ht : P.underlying t = some (.slice e)) (he : P.underlying e = some (.int .i64)) (ce : P.cellsOf e = 1)
    (hval : Value.okWide P w r b0 t v) (h : DataW.Trod enc P w base spare held t v d ps) :
    ∃ zs : List Int, ∀ φ, Rep w φ (fun b => b < w.heap.size) (.sl 1 (intRows zs)) v := by
  obtain ⟨A, l, c, rfl⟩ := okWide_row_n ht hval
  obtain ⟨fuel, hf⟩ := h
  rcases open_ints ht he ce hf with ⟨hcs, _⟩ | ⟨a, len, cap, zs, hcs, _, hl, hm, hz, _, hc, hw⟩
  · simp [Value.cells] at hcs
    obtain ⟨rfl, rfl, rfl⟩ := hcs
    exact ⟨[], fun φ => .slnil 1⟩
  · simp [Value.cells] at hcs
    obtain ⟨rfl, rfl, rfl⟩ := hcs
    have hlz : l ≤ zs.length := by rw [hz]; split <;> omega
    have e : (zs.take l).length = l := by simp; omega
    obtain ⟨hs, hb⟩ := okWide_some_n ht hval
    obtain ⟨b, o, sp⟩ := a
    obtain rfl : sp = none := hs
    refine ⟨zs.take l, fun φ => ?_⟩
    have hfl : ∀ (ys : List Int), (intRows ys).flatten = ys.map AV.int := by
      intro ys
      induction ys with
      | nil => rfl
      | cons y ys ih =>
        show [AV.int y] ++ (intRows ys).flatten = _
        rw [ih]
        rfl
    have hget : ∀ k, k < l → ∃ z, (zs.take l)[k]? = some z ∧ w.cell? ⟨b, o + k, none⟩ = some (.int .i64 z) := by
      intro k hk
      have hk' : k < zs.length := by omega
      have h1 := hc k hk'
      rw [List.getD_eq_getElem?_getD, List.getElem?_eq_getElem hk', Option.getD_some] at h1
      refine ⟨zs[k], ?_, ?_⟩
      · rw [List.getElem?_take]
        simp [hk, hk']
      · have e2 : Addr.add ⟨b, o, none⟩ k = ⟨b, o + k, none⟩ := by
          unfold Addr.add
          split
          · rename_i h0
            rw [h0]
            rfl
          · rfl
        rw [← e2]
        exact h1
    have hlr : (intRows (zs.take l)).length = l := by rw [in_len, e]
    have := Rep.sl (w := w) (φ := φ) (N := fun b => b < w.heap.size) 1 (intRows (zs.take l)) b o c (fun k => match (zs.take l)[k]? with | some z => .int .i64 z | none => undef) (by rw [hlr]; omega) hb (fun r hr => ?_) (fun k hk => ?_) (fun k x hx => ?_)
    · rwa [hlr] at this
    · obtain ⟨p, _, rfl⟩ := List.mem_map.1 hr
      rfl
    · rw [hfl, List.length_map, e] at hk
      obtain ⟨z, h1, h2⟩ := hget k hk
      show w.cell? _ = some (match (zs.take l)[k]? with | some z => .int .i64 z | none => undef)
      rw [h1, h2]
    · rw [hfl, List.getElem?_map] at hx
      cases hz' : (zs.take l)[k]? with
      | none => rw [hz'] at hx; cases hx
      | some z =>
        rw [hz'] at hx
        cases hx
        exact .raw _
end
end Go.Proofs.YtnnjjblgilibgaaGreatV
/- A row's slice of structs of two whole numbers, opened as rows. -/
namespace Go.Proofs.YtnnjjblgilibgaaGreatV
open Go Go.RowKit
set_option linter.unusedVariables false
set_option linter.unusedSimpArgs false
section
open Go.ChangeShapes Go.WideShapes Go.Deep
variable {H : Type} {enc : TypeId × Value → H} {P : Program} {w : World} {base : Nat} {spare : Nat → Bool} {held : Bool}
theorem okWide_row {r : Reach} {b0 : Nat} {t e : TypeId} {v : Value} (ht : P.underlying t = some (.slice e)) (h : Value.okWide P w r b0 t v) : ∃ A l c, v = .slice A l c := by
  simp only [Value.okWide, ht, Cell.okWide] at h
  cases v <;> simp_all [Cell.ok]
theorem okWide_some {r : Reach} {b0 : Nat} {t e : TypeId} {a : Addr} {l c : Nat} (ht : P.underlying t = some (.slice e)) (h : Value.okWide P w r b0 t (.slice (some a) l c)) : a.spot = none ∧ a.block < w.heap.size := by
  simp only [Value.okWide, ht, Cell.okWide, Cell.ok] at h
  obtain ⟨_, _, _, h1, row, cells, h2, _⟩ := h
  refine ⟨h1, ?_⟩
  unfold World.shape? at h2
  rcases Nat.lt_or_ge a.block w.heap.size with h3 | h3
  · exact h3
  · rw [Array.getElem?_eq_none h3] at h2
    cases h2
theorem open_pairs {r : Reach} {b0 : Nat} {t e : TypeId} {f0 f1 : Field} {v : Value} {d : DataW H} {ps : List MemPlace} (ht : P.underlying t = some (.slice e)) (he : P.underlying e = some (.struct #[f0, f1]))
    (ce : P.cellsOf e = 2) (o0 : f0.offset = 0) (o1 : f1.offset = 1) (c0 : P.cellsOf f0.type = 1) (c1 : P.cellsOf f1.type = 1) (u0 : P.underlying f0.type = some (.int .i64)) (u1 : P.underlying f1.type = some (.int .i64))
    (hval : Value.okWide P w r b0 t v) (h : DataW.Trod enc P w base spare held t v d ps) :
    ∃ (A : Option Addr) (c : Nat) (xs : List (Int × Int)), v = .slice A xs.length c ∧ xs.length ≤ c ∧ (A = none → xs.length = 0 ∧ c = 0) ∧
      ∀ a, A = some a → ∀ (j : Nat) (hj : j < xs.length), w.cell? (a.add (j * 2)) = some (.int .i64 xs[j].1) ∧ w.cell? (a.add (j * 2 + 1)) = some (.int .i64 xs[j].2) := by
  obtain ⟨A, l, c, rfl⟩ := okWide_row ht hval
  obtain ⟨fuel, hf⟩ := h
  rcases open_slice_pairs ht he ce o0 o1 c0 c1 hf with ⟨hcs, _⟩ | ⟨a, len, cap, m, n, V0, V1, D0, D1, P0, P1, hcs, _, hl, hm, hmm, _, hx⟩
  · simp [Value.cells] at hcs
    obtain ⟨rfl, rfl, rfl⟩ := hcs
    exact ⟨none, 0, [], rfl, Nat.le_refl _, fun _ => ⟨rfl, rfl⟩, fun a h => by cases h⟩
  · simp [Value.cells] at hcs
    obtain ⟨rfl, rfl, rfl⟩ := hcs
    have hlm : l ≤ m := by rw [hmm]; split <;> omega
    have each : ∀ i, i < l → ∃ q : Int × Int, V0 i = .int .i64 q.1 ∧ V1 i = .int .i64 q.2 := by
      intro i hi
      obtain ⟨_, _, g0, g1⟩ := hx i (by omega)
      obtain ⟨a, ea, _, va⟩ := DataW.trod_int u0 g0
      obtain ⟨b, eb, _, vb⟩ := DataW.trod_int u1 g1
      simp at ea eb
      exact ⟨(a, b), ea, eb⟩
    obtain ⟨q, hq⟩ := choose_lt each
    refine ⟨some a, c, (List.range l).map q, by simp, by simpa using hl, fun h => (by cases h), fun a' ha j hj => ?_⟩
    obtain rfl := Option.some.inj ha
    simp only [List.length_map, List.length_range] at hj
    obtain ⟨e0, e1, _⟩ := hx j (by omega)
    obtain ⟨h0, h1⟩ := hq j hj
    simp only [List.getElem_map, List.getElem_range]
    exact ⟨h0 ▸ e0, h1 ▸ e1⟩
end
def flatV (xs : List (Int × Int)) : List Int := xs.flatMap fun p => [p.1, p.2]
theorem flatV_len : ∀ (xs : List (Int × Int)), (flatV xs).length = 2 * xs.length
  | [] => rfl
  | p :: r => by
    show (flatV r).length + 1 + 1 = _
    rw [flatV_len r, List.length_cons]
    omega
theorem flat_at : ∀ (xs : List (Int × Int)) (j : Nat) (hj : j < xs.length), (flatV xs)[j * 2]? = some xs[j].1 ∧ (flatV xs)[j * 2 + 1]? = some xs[j].2
  | p :: r, 0, _ => ⟨rfl, rfl⟩
  | p :: r, j + 1, hj => by
    have := flat_at r j (by simpa using hj)
    rw [show (j + 1) * 2 = j * 2 + 1 + 1 by omega]
    exact this
theorem cx_flat : ∀ (xs : List (Int × Int)), (cxRows xs).flatten = (flatV xs).map AV.int
  | [] => rfl
  | p :: r => by
    show [AV.int p.1, .int p.2] ++ (cxRows r).flatten = _
    rw [cx_flat r]
    rfl
theorem add_at {b o n : Nat} : Addr.add ⟨b, o, none⟩ n = ⟨b, o + n, none⟩ := by
  unfold Addr.add
  split
  · rename_i h
    rw [h]
    rfl
  · rfl
/-- An argument's slice, by rows. -/
theorem open_rows {H : Type} {enc : TypeId × Value → H} {P : Program} {w : World} {base : Nat} {spare : Nat → Bool} {held : Bool} {r : Reach} {b0 : Nat} {t e : TypeId} {f0 f1 : Field} {v : Value} {d : DataW H} {ps : List MemPlace} (ht : P.underlying t = some (.slice e)) (he : P.underlying e = some (.struct #[f0, f1]))
    (ce : P.cellsOf e = 2) (o0 : f0.offset = 0) (o1 : f1.offset = 1) (c0 : P.cellsOf f0.type = 1) (c1 : P.cellsOf f1.type = 1) (u0 : P.underlying f0.type = some (.int .i64)) (u1 : P.underlying f1.type = some (.int .i64))
    (hval : Value.okWide P w r b0 t v) (h : DataW.Trod enc P w base spare held t v d ps) :
    ∃ xs : List (Int × Int), ∀ φ, Rep w φ (fun b => b < w.heap.size) (.sl 2 (cxRows xs)) v := by
  obtain ⟨A, c, xs, rfl, hc, hn, hw⟩ := open_pairs ht he ce o0 o1 c0 c1 u0 u1 hval h
  refine ⟨xs, fun φ => ?_⟩
  cases A with
  | none =>
    obtain ⟨h1, rfl⟩ := hn rfl
    obtain rfl := List.eq_nil_of_length_eq_zero h1
    exact .slnil 2
  | some a =>
    obtain ⟨hs, hb⟩ := okWide_some ht hval
    obtain ⟨b, o, sp⟩ := a
    obtain rfl : sp = none := hs
    have hget : ∀ k, k < 2 * xs.length → ∃ z, (flatV xs)[k]? = some z ∧ w.cell? ⟨b, o + k, none⟩ = some (.int .i64 z) := by
      intro k hk
      have hj : k / 2 < xs.length := by omega
      have g := hw _ rfl (k / 2) hj
      have f := flat_at xs (k / 2) hj
      rcases Nat.mod_two_eq_zero_or_one k with e | e
      · have e' : k / 2 * 2 = k := by omega
        rw [e'] at g f
        refine ⟨_, f.1, ?_⟩
        have := g.1
        rwa [add_at] at this
      · have e' : k / 2 * 2 + 1 = k := by omega
        rw [e'] at g f
        refine ⟨_, f.2, ?_⟩
        have := g.2
        rwa [add_at] at this
    have hl : (cxRows xs).length = xs.length := cx_len
    have := Rep.sl (w := w) (φ := φ) (N := fun b => b < w.heap.size) 2 (cxRows xs) b o c (fun k => match (flatV xs)[k]? with | some z => .int .i64 z | none => undef) (by rw [hl]; exact hc) hb (fun r hr => ?_) (fun k hk => ?_) (fun k x hx => ?_)
    · rwa [hl] at this
    · obtain ⟨p, _, rfl⟩ := List.mem_map.1 hr
      rfl
    · rw [cx_flat, List.length_map, flatV_len] at hk
      obtain ⟨z, h1, h2⟩ := hget k hk
      show w.cell? _ = some (match (flatV xs)[k]? with | some z => .int .i64 z | none => undef)
      rw [h1, h2]
    · rw [cx_flat, List.getElem?_map] at hx
      cases hz : (flatV xs)[k]? with
      | none => rw [hz] at hx; cases hx
      | some z =>
        rw [hz] at hx
        cases hx
        exact .raw _
end Go.Proofs.YtnnjjblgilibgaaGreatV

import Derived.Test.YtfmhdfaelgkmcaaVdB
import Derived.Test.YtfmhdfaelgkmcaaVrH
/- Contracts: a bin of a transform, by the document. -/
namespace Go.Proofs.YtfmhdfaelgkmcaaV
open Go Go.RowKit
set_option linter.unusedVariables false
set_option linter.unusedSimpArgs false
set_option maxRecDepth 100000
set_option maxHeartbeats 40000000
theorem fine125 : Fine Try.prog 125 := fun _ _ => by kernel_rfl
theorem fine92 : Fine Try.prog 92 := fun _ _ => by kernel_rfl
theorem fine91 : Fine Try.prog 91 := fun _ _ => by kernel_rfl
theorem fine90 : Fine Try.prog 90 := fun _ _ => by kernel_rfl
theorem fine93 : Fine Try.prog 93 := fun _ _ => by kernel_rfl
theorem fine50 : Fine Try.prog 50 := fun _ _ => by kernel_rfl
theorem fine52 : Fine Try.prog 52 := fun _ _ => by kernel_rfl
theorem fine51 : Fine Try.prog 51 := fun _ _ => by kernel_rfl
theorem fine54 : Fine Try.prog 54 := fun _ _ => by kernel_rfl
theorem fine49 : Fine Try.prog 49 := fun _ _ => by kernel_rfl
theorem fine48 : Fine Try.prog 48 := fun _ _ => by kernel_rfl
theorem p20 : (2 : Int) ^ (20 : Int).toNat = 1048576 := rfl
theorem p12 : (2 : Int) ^ (12 : Int).toNat = 4096 := rfl
theorem p32 : (2 : Int) ^ (32 : Int).toNat = 4294967296 := rfl
def nfA (v : Int) : AV := .agg [.int (v / 1048576), .int (v % 1048576)]
theorem nfA_def (v : Int) : nfA v = .agg [.int (v / 1048576), .int (v % 1048576)] := rfl
theorem norm.ok (h l v : Int) (hh : -4611686018427387904 ≤ h ∧ h ≤ 4611686018427387904) (hl : -4611686018427387904 ≤ l ∧ l ≤ 4611686018427387904) (hv : h * 1048576 + l = v) : Ok Try.prog 125 [.agg [.int h, .int l]] (nfA v) := by
  have hF := Floor.ok l 20 (by unfold in64; omega) (by decide)
  have hP := Pow.ok 20 (by decide)
  rw [p20] at hF hP
  have e1 : IntKind.i64.wrap (h + l / 1048576) = v / 1048576 := by rw [wr (by omega)]; omega
  have e2 : IntKind.i64.wrap (l / 1048576 * 1048576) = l / 1048576 * 1048576 := wr (by omega)
  have e3 : IntKind.i64.wrap (l - l / 1048576 * 1048576) = v % 1048576 := by rw [wr (by omega)]; omega
  refine ok_of (X := fun _ => []) (Z := fun _ => false) (res := [ResultVar.cell 2 100]) tok follows Try.func125 rfl rfl fine125 (by kernel_rfl) (by kernel_rfl) ?_
  simp only [evA, evT, Go.undef, aload, astore, afieldAddr, afield, aindex, aindexAddr, abuild, abuildSlice, amakeSlice, aslice, aext, alen, aminmax, minmaxGo, aappend, newsOf, buildCells, cutRows, reps, setCells, AV.cells, allOne, AV.one, Value.oneCell', AV.pure, allPure, AV.free, allFree, rowsFree, Nat.reduceBEq, Nat.reduceAdd, Nat.reduceMul, Nat.reduceSub, Nat.reduceLT, Nat.reduceLeDiff, Int.reduceToNat, reduceIte, reduceCtorEq, Int.reduceLT, Int.reduceLE, Nat.reduceEqDiff, Int.reduceEq, Int.reduceNeg, Int.reduceMul, Int.reduceAdd, Int.reduceSub, Int.reduceBNe, Int.reduceBEq, apart, bnd]
  refine call_ok hF rfl ?_
  simp only [evA, evT, Go.undef, aload, astore, afieldAddr, afield, aindex, aindexAddr, abuild, abuildSlice, amakeSlice, aslice, aext, alen, aminmax, minmaxGo, aappend, newsOf, buildCells, cutRows, reps, setCells, AV.cells, allOne, AV.one, Value.oneCell', AV.pure, allPure, AV.free, allFree, rowsFree, Nat.reduceBEq, Nat.reduceAdd, Nat.reduceMul, Nat.reduceSub, Nat.reduceLT, Nat.reduceLeDiff, Int.reduceToNat, reduceIte, reduceCtorEq, Int.reduceLT, Int.reduceLE, Nat.reduceEqDiff, Int.reduceEq, Int.reduceNeg, Int.reduceMul, Int.reduceAdd, Int.reduceSub, Int.reduceBNe, Int.reduceBEq, apart, bnd]
  refine call_ok hP rfl ?_
  simp only [evA, evT, Go.undef, aload, astore, afieldAddr, afield, aindex, aindexAddr, abuild, abuildSlice, amakeSlice, aslice, aext, alen, aminmax, minmaxGo, aappend, newsOf, buildCells, cutRows, reps, setCells, AV.cells, allOne, AV.one, Value.oneCell', AV.pure, allPure, AV.free, allFree, rowsFree, Nat.reduceBEq, Nat.reduceAdd, Nat.reduceMul, Nat.reduceSub, Nat.reduceLT, Nat.reduceLeDiff, Int.reduceToNat, reduceIte, reduceCtorEq, Int.reduceLT, Int.reduceLE, Nat.reduceEqDiff, Int.reduceEq, Int.reduceNeg, Int.reduceMul, Int.reduceAdd, Int.reduceSub, Int.reduceBNe, Int.reduceBEq, apart, bnd, e1, e2, e3, nfA_def]
theorem RTimes16.ok (a b : Int) (ha : -2147483648 ≤ a ∧ a ≤ 2147483648) (hb : -1099511627776 ≤ b ∧ b ≤ 1099511627776) : Ok Try.prog 92 [.int a, .int b] (nfA (a * b)) := by
  have hF := Floor.ok b 20 (by unfold in64; omega) (by decide)
  have hP := Pow.ok 20 (by decide)
  rw [p20] at hF hP
  have m1 := mulabs (x := a) (y := b / 1048576) (N := 2147483648) (M := 1048576) ha (by omega)
  have m2 := mulabs (x := a) (y := b % 1048576) (N := 2147483648) (M := 1048576) ha (by omega)
  have e1 : IntKind.i64.wrap (b / 1048576 * 1048576) = b / 1048576 * 1048576 := wr (by omega)
  have e2 : IntKind.i64.wrap (b - b / 1048576 * 1048576) = b % 1048576 := by rw [wr (by omega)]; omega
  have e3 : IntKind.i64.wrap (a * (b / 1048576)) = a * (b / 1048576) := wr (by omega)
  have e4 : IntKind.i64.wrap (a * (b % 1048576)) = a * (b % 1048576) := wr (by omega)
  have hv : a * (b / 1048576) * 1048576 + a * (b % 1048576) = a * b := by
    have : b = b / 1048576 * 1048576 + b % 1048576 := by omega
    conv => rhs; rw [this]
    rw [Int.mul_add, Int.mul_assoc]
  refine ok_of (X := fun _ => []) (Z := fun _ => false) (res := [ResultVar.cell 4 100]) tok follows Try.func92 rfl rfl fine92 (by kernel_rfl) (by kernel_rfl) ?_
  simp only [evA, evT, Go.undef, aload, astore, afieldAddr, afield, aindex, aindexAddr, abuild, abuildSlice, amakeSlice, aslice, aext, alen, aminmax, minmaxGo, aappend, newsOf, buildCells, cutRows, reps, setCells, AV.cells, allOne, AV.one, Value.oneCell', AV.pure, allPure, AV.free, allFree, rowsFree, Nat.reduceBEq, Nat.reduceAdd, Nat.reduceMul, Nat.reduceSub, Nat.reduceLT, Nat.reduceLeDiff, Int.reduceToNat, reduceIte, reduceCtorEq, Int.reduceLT, Int.reduceLE, Nat.reduceEqDiff, Int.reduceEq, Int.reduceNeg, Int.reduceMul, Int.reduceAdd, Int.reduceSub, Int.reduceBNe, Int.reduceBEq, apart, bnd]
  refine call_ok hF rfl ?_
  simp only [evA, evT, Go.undef, aload, astore, afieldAddr, afield, aindex, aindexAddr, abuild, abuildSlice, amakeSlice, aslice, aext, alen, aminmax, minmaxGo, aappend, newsOf, buildCells, cutRows, reps, setCells, AV.cells, allOne, AV.one, Value.oneCell', AV.pure, allPure, AV.free, allFree, rowsFree, Nat.reduceBEq, Nat.reduceAdd, Nat.reduceMul, Nat.reduceSub, Nat.reduceLT, Nat.reduceLeDiff, Int.reduceToNat, reduceIte, reduceCtorEq, Int.reduceLT, Int.reduceLE, Nat.reduceEqDiff, Int.reduceEq, Int.reduceNeg, Int.reduceMul, Int.reduceAdd, Int.reduceSub, Int.reduceBNe, Int.reduceBEq, apart, bnd]
  refine call_ok hP rfl ?_
  simp only [evA, evT, Go.undef, aload, astore, afieldAddr, afield, aindex, aindexAddr, abuild, abuildSlice, amakeSlice, aslice, aext, alen, aminmax, minmaxGo, aappend, newsOf, buildCells, cutRows, reps, setCells, AV.cells, allOne, AV.one, Value.oneCell', AV.pure, allPure, AV.free, allFree, rowsFree, Nat.reduceBEq, Nat.reduceAdd, Nat.reduceMul, Nat.reduceSub, Nat.reduceLT, Nat.reduceLeDiff, Int.reduceToNat, reduceIte, reduceCtorEq, Int.reduceLT, Int.reduceLE, Nat.reduceEqDiff, Int.reduceEq, Int.reduceNeg, Int.reduceMul, Int.reduceAdd, Int.reduceSub, Int.reduceBNe, Int.reduceBEq, apart, bnd, e1, e2, e3, e4]
  refine call_ok (norm.ok _ _ _ (by omega) (by omega) hv) rfl ?_
  simp only [evA, evT, Go.undef, aload, astore, afieldAddr, afield, aindex, aindexAddr, abuild, abuildSlice, amakeSlice, aslice, aext, alen, aminmax, minmaxGo, aappend, newsOf, buildCells, cutRows, reps, setCells, AV.cells, allOne, AV.one, Value.oneCell', AV.pure, allPure, AV.free, allFree, rowsFree, Nat.reduceBEq, Nat.reduceAdd, Nat.reduceMul, Nat.reduceSub, Nat.reduceLT, Nat.reduceLeDiff, Int.reduceToNat, reduceIte, reduceCtorEq, Int.reduceLT, Int.reduceLE, Nat.reduceEqDiff, Int.reduceEq, Int.reduceNeg, Int.reduceMul, Int.reduceAdd, Int.reduceSub, Int.reduceBNe, Int.reduceBEq, apart, bnd, nfA_def]
abbrev big (v : Int) : Prop := -1208925819614629174706176 ≤ v ∧ v ≤ 1208925819614629174706176
theorem add16.ok (u v : Int) (hu : big u) (hv : big v) : Ok Try.prog 91 [nfA u, nfA v] (nfA (u + v)) := by
  have e1 : IntKind.i64.wrap (u / 1048576 + v / 1048576) = u / 1048576 + v / 1048576 := wr (by omega)
  have e2 : IntKind.i64.wrap (u % 1048576 + v % 1048576) = u % 1048576 + v % 1048576 := wr (by omega)
  rw [nfA_def u, nfA_def v]
  refine ok_of (X := fun _ => []) (Z := fun _ => false) (res := [ResultVar.cell 4 100]) tok follows Try.func91 rfl rfl fine91 (by kernel_rfl) (by kernel_rfl) ?_
  simp only [evA, evT, Go.undef, aload, astore, afieldAddr, afield, aindex, aindexAddr, abuild, abuildSlice, amakeSlice, aslice, aext, alen, aminmax, minmaxGo, aappend, newsOf, buildCells, cutRows, reps, setCells, AV.cells, allOne, AV.one, Value.oneCell', AV.pure, allPure, AV.free, allFree, rowsFree, Nat.reduceBEq, Nat.reduceAdd, Nat.reduceMul, Nat.reduceSub, Nat.reduceLT, Nat.reduceLeDiff, Int.reduceToNat, reduceIte, reduceCtorEq, Int.reduceLT, Int.reduceLE, Nat.reduceEqDiff, Int.reduceEq, Int.reduceNeg, Int.reduceMul, Int.reduceAdd, Int.reduceSub, Int.reduceBNe, Int.reduceBEq, apart, bnd, e1, e2]
  refine call_ok (norm.ok _ _ (u + v) (by omega) (by omega) (by omega)) rfl ?_
  simp only [evA, evT, Go.undef, aload, astore, afieldAddr, afield, aindex, aindexAddr, abuild, abuildSlice, amakeSlice, aslice, aext, alen, aminmax, minmaxGo, aappend, newsOf, buildCells, cutRows, reps, setCells, AV.cells, allOne, AV.one, Value.oneCell', AV.pure, allPure, AV.free, allFree, rowsFree, Nat.reduceBEq, Nat.reduceAdd, Nat.reduceMul, Nat.reduceSub, Nat.reduceLT, Nat.reduceLeDiff, Int.reduceToNat, reduceIte, reduceCtorEq, Int.reduceLT, Int.reduceLE, Nat.reduceEqDiff, Int.reduceEq, Int.reduceNeg, Int.reduceMul, Int.reduceAdd, Int.reduceSub, Int.reduceBNe, Int.reduceBEq, apart, bnd, nfA_def]
theorem less16.ok (u v : Int) (hu : big u) (hv : big v) : Ok Try.prog 90 [nfA u, nfA v] (nfA (u - v)) := by
  have e1 : IntKind.i64.wrap (u / 1048576 - v / 1048576) = u / 1048576 - v / 1048576 := wr (by omega)
  have e2 : IntKind.i64.wrap (u % 1048576 - v % 1048576) = u % 1048576 - v % 1048576 := wr (by omega)
  rw [nfA_def u, nfA_def v]
  refine ok_of (X := fun _ => []) (Z := fun _ => false) (res := [ResultVar.cell 4 100]) tok follows Try.func90 rfl rfl fine90 (by kernel_rfl) (by kernel_rfl) ?_
  simp only [evA, evT, Go.undef, aload, astore, afieldAddr, afield, aindex, aindexAddr, abuild, abuildSlice, amakeSlice, aslice, aext, alen, aminmax, minmaxGo, aappend, newsOf, buildCells, cutRows, reps, setCells, AV.cells, allOne, AV.one, Value.oneCell', AV.pure, allPure, AV.free, allFree, rowsFree, Nat.reduceBEq, Nat.reduceAdd, Nat.reduceMul, Nat.reduceSub, Nat.reduceLT, Nat.reduceLeDiff, Int.reduceToNat, reduceIte, reduceCtorEq, Int.reduceLT, Int.reduceLE, Nat.reduceEqDiff, Int.reduceEq, Int.reduceNeg, Int.reduceMul, Int.reduceAdd, Int.reduceSub, Int.reduceBNe, Int.reduceBEq, apart, bnd, e1, e2]
  refine call_ok (norm.ok _ _ (u - v) (by omega) (by omega) (by omega)) rfl ?_
  simp only [evA, evT, Go.undef, aload, astore, afieldAddr, afield, aindex, aindexAddr, abuild, abuildSlice, amakeSlice, aslice, aext, alen, aminmax, minmaxGo, aappend, newsOf, buildCells, cutRows, reps, setCells, AV.cells, allOne, AV.one, Value.oneCell', AV.pure, allPure, AV.free, allFree, rowsFree, Nat.reduceBEq, Nat.reduceAdd, Nat.reduceMul, Nat.reduceSub, Nat.reduceLT, Nat.reduceLeDiff, Int.reduceToNat, reduceIte, reduceCtorEq, Int.reduceLT, Int.reduceLE, Nat.reduceEqDiff, Int.reduceEq, Int.reduceNeg, Int.reduceMul, Int.reduceAdd, Int.reduceSub, Int.reduceBNe, Int.reduceBEq, apart, bnd, nfA_def]
theorem down16.ok (v : Int) (hv : big v) : Ok Try.prog 93 [nfA v] (.int (v / 4294967296)) := by
  have hF := Floor.ok (v / 1048576) 12 (by unfold in64; omega) (by decide)
  rw [p12, show v / 1048576 / 4096 = v / 4294967296 by omega] at hF
  rw [nfA_def]
  refine ok_of (X := fun _ => []) (Z := fun _ => false) (res := [ResultVar.tmp 2]) tok follows Try.func93 rfl rfl fine93 (by kernel_rfl) (by kernel_rfl) ?_
  simp only [evA, evT, Go.undef, aload, astore, afieldAddr, afield, aindex, aindexAddr, abuild, abuildSlice, amakeSlice, aslice, aext, alen, aminmax, minmaxGo, aappend, newsOf, buildCells, cutRows, reps, setCells, AV.cells, allOne, AV.one, Value.oneCell', AV.pure, allPure, AV.free, allFree, rowsFree, Nat.reduceBEq, Nat.reduceAdd, Nat.reduceMul, Nat.reduceSub, Nat.reduceLT, Nat.reduceLeDiff, Int.reduceToNat, reduceIte, reduceCtorEq, Int.reduceLT, Int.reduceLE, Nat.reduceEqDiff, Int.reduceEq, Int.reduceNeg, Int.reduceMul, Int.reduceAdd, Int.reduceSub, Int.reduceBNe, Int.reduceBEq, apart, bnd]
  refine call_ok hF rfl ?_
  simp only [evA, evT, Go.undef, aload, astore, afieldAddr, afield, aindex, aindexAddr, abuild, abuildSlice, amakeSlice, aslice, aext, alen, aminmax, minmaxGo, aappend, newsOf, buildCells, cutRows, reps, setCells, AV.cells, allOne, AV.one, Value.oneCell', AV.pure, allPure, AV.free, allFree, rowsFree, Nat.reduceBEq, Nat.reduceAdd, Nat.reduceMul, Nat.reduceSub, Nat.reduceLT, Nat.reduceLeDiff, Int.reduceToNat, reduceIte, reduceCtorEq, Int.reduceLT, Int.reduceLE, Nat.reduceEqDiff, Int.reduceEq, Int.reduceNeg, Int.reduceMul, Int.reduceAdd, Int.reduceSub, Int.reduceBNe, Int.reduceBEq, apart, bnd]
theorem tS_bd (xs ws : List (Int × Int)) (inv : Bool) (k : Nat) (hl : xs.length ≤ 64) (hl2 : ws.length = xs.length) (hx : nears 2147483648 xs) (hw : nears 1099511627776 ws) : ∀ i, i ≤ xs.length →
    (-(i * 4722366482869645213696) ≤ (tS xs ws inv k i).1 ∧ (tS xs ws inv k i).1 ≤ i * 4722366482869645213696) ∧ (-(i * 4722366482869645213696) ≤ (tS xs ws inv k i).2 ∧ (tS xs ws inv k i).2 ≤ i * 4722366482869645213696)
  | 0, _ => by simp [tS]
  | i + 1, hi => by
    obtain ⟨h1, h2⟩ := tS_bd xs ws inv k hl hl2 hx hw i (by omega)
    have hr := root_near hw inv (j := i * k % xs.length) (by rw [hl2]; exact Nat.mod_lt _ (by omega))
    have ha := near_get hx (i := i) (by omega)
    rw [tS]
    unfold win at hr ha
    have m1 := mulabs (x := (xs.getD i (0, 0)).1) (y := (rootV ws inv (i * k % xs.length)).1) (N := 2147483648) (M := 1099511627776) (by omega) (by omega)
    have m2 := mulabs (x := (xs.getD i (0, 0)).2) (y := (rootV ws inv (i * k % xs.length)).2) (N := 2147483648) (M := 1099511627776) (by omega) (by omega)
    have m3 := mulabs (x := (xs.getD i (0, 0)).1) (y := (rootV ws inv (i * k % xs.length)).2) (N := 2147483648) (M := 1099511627776) (by omega) (by omega)
    have m4 := mulabs (x := (xs.getD i (0, 0)).2) (y := (rootV ws inv (i * k % xs.length)).1) (N := 2147483648) (M := 1099511627776) (by omega) (by omega)
    simp only
    omega
theorem RBin.ok (xs ws : List (Int × Int)) (inv : Bool) (k : Nat) (hl : 0 < xs.length ∧ xs.length ≤ 64) (hl2 : ws.length = xs.length) (hk : k < xs.length) (hx : nears 2147483648 xs) (hw : nears 1099511627776 ws) :
    Ok Try.prog 50 [.sl 2 (cxRows xs), .sl 2 (cxRows ws), .int k, .bool inv] (cxA (binV xs ws inv k).1 (binV xs ws inv k).2) := by
  have hb := tS_bd xs ws inv k hl.2 hl2 hx hw
  have hz : AV.agg [.int 0, .int 0] = nfA 0 := rfl
  refine ok_of (X := fun _ => []) (Z := fun _ => false) (res := [ResultVar.cell 8 23]) tok follows Try.func50 rfl rfl fine50 (by kernel_rfl) (by kernel_rfl) ?_
  simp only [evA, evT, Go.undef, aload, astore, afieldAddr, afield, aindex, aindexAddr, abuild, abuildSlice, amakeSlice, aslice, aext, alen, aminmax, minmaxGo, aappend, newsOf, buildCells, cutRows, reps, setCells, AV.cells, allOne, AV.one, Value.oneCell', AV.pure, allPure, AV.free, allFree, rowsFree, Nat.reduceBEq, Nat.reduceAdd, Nat.reduceMul, Nat.reduceSub, Nat.reduceLT, Nat.reduceLeDiff, Int.reduceToNat, reduceIte, reduceCtorEq, Int.reduceLT, Int.reduceLE, Nat.reduceEqDiff, Int.reduceEq, Int.reduceNeg, Int.reduceMul, Int.reduceAdd, Int.reduceSub, Int.reduceBNe, Int.reduceBEq, apart, bnd, cx_len]
  refine l_inv (fun i => ⟨[(21, .int i), (20, .int xs.length), (19, .sl 2 (cxRows xs)), (11, .loc 2 0), (10, .loc 1 0), (9, .int xs.length), (8, .loc 0 0), (0, .sl 2 (cxRows xs)), (1, .sl 2 (cxRows ws)), (2, .int k), (3, .bool inv)], [(2, some (.box [.int ((tS xs ws inv k i).2 / 1048576), .int ((tS xs ws inv k i).2 % 1048576)])), (1, some (.box [.int ((tS xs ws inv k i).1 / 1048576), .int ((tS xs ws inv k i).1 % 1048576)])), (0, some (.box [.int 0, .int 0]))], 3⟩) xs.length ?_ (fun i hi K hK => ?_) (fun K => ?_)
  · refine weak_of (fun l => l) rfl ?_ ?_
    all_goals simp only [evA, evB, evT, Go.undef, aload, astore, afieldAddr, afield, aindex, aindexAddr, abuild, abuildSlice, amakeSlice, aslice, aext, alen, aminmax, minmaxGo, aappend, newsOf, buildCells, cutRows, reps, setCells, AV.cells, allOne, AV.one, Value.oneCell', AV.pure, allPure, AV.free, allFree, rowsFree, Nat.reduceBEq, Nat.reduceAdd, Nat.reduceMul, Nat.reduceSub, Nat.reduceLT, Nat.reduceLeDiff, Int.reduceToNat, reduceIte, reduceCtorEq, Int.reduceLT, Int.reduceLE, Nat.reduceEqDiff, Int.reduceEq, Int.reduceNeg, Int.reduceMul, Int.reduceAdd, Int.reduceSub, Int.reduceBNe, Int.reduceBEq, apart, bnd, cx_free, Int.natCast_zero, tS]
    all_goals simp
  · have h1 : (i : Int) < xs.length := by omega
    have h2 : (0 : Int) ≤ i := by omega
    have h3 : IntKind.i64.wrap ((i : Int) + 1) = ((i + 1 : Nat) : Int) := by rw [wr (by omega)]; omega
    have hik : i * k < 10000 := by
      have := Nat.mul_le_mul (show i ≤ 64 by omega) (show k ≤ 64 by omega)
      omega
    have e1 : IntKind.i64.wrap ((i : Int) * (k : Int)) = ((i * k : Nat) : Int) := by rw [← Int.natCast_mul, wr (by omega)]
    have e2 : ¬ (xs.length : Int) = 0 := by omega
    have e3 : ((i * k : Nat) : Int).tmod (xs.length : Int) = ((i * k % xs.length : Nat) : Int) := by rw [Int.tmod_eq_emod_of_nonneg (by omega), Int.natCast_emod]
    have hm : i * k % xs.length < ws.length := by rw [hl2]; exact Nat.mod_lt _ (by omega)
    have hwr := near_get hw hm
    have hrr := root_near hw inv hm
    have hxx := near_get hx hi
    obtain ⟨b1, b2⟩ := hb i (by omega)
    obtain ⟨b3, b4⟩ := hb (i + 1) (by omega)
    have t1 : (tS xs ws inv k (i + 1)).1 = (tS xs ws inv k i).1 + (xs.getD i (0, 0)).1 * (rootV ws inv (i * k % xs.length)).1 - (xs.getD i (0, 0)).2 * (rootV ws inv (i * k % xs.length)).2 := by rw [tS]; simp only; omega
    have t2 : (tS xs ws inv k (i + 1)).2 = (tS xs ws inv k i).2 + (xs.getD i (0, 0)).1 * (rootV ws inv (i * k % xs.length)).2 + (xs.getD i (0, 0)).2 * (rootV ws inv (i * k % xs.length)).1 := by rw [tS]; simp only; omega
    have hRt := RRoot.ok ws inv (i * k % xs.length) hm (win_mono hwr (by omega))
    unfold win at hxx hrr
    simp only [evA, evT, Go.undef, aload, astore, afieldAddr, afield, aindex, aindexAddr, abuild, abuildSlice, amakeSlice, aslice, aext, alen, aminmax, minmaxGo, aappend, newsOf, buildCells, cutRows, reps, setCells, AV.cells, allOne, AV.one, Value.oneCell', AV.pure, allPure, AV.free, allFree, rowsFree, Nat.reduceBEq, Nat.reduceAdd, Nat.reduceMul, Nat.reduceSub, Nat.reduceLT, Nat.reduceLeDiff, Int.reduceToNat, reduceIte, reduceCtorEq, Int.reduceLT, Int.reduceLE, Nat.reduceEqDiff, Int.reduceEq, Int.reduceNeg, Int.reduceMul, Int.reduceAdd, Int.reduceSub, Int.reduceBNe, Int.reduceBEq, apart, bnd, h1, h2, h3, cx_len, Int.toNat_natCast, cx_getD hi, e1, e2, e3, cx_free]
    refine call_ok hRt rfl ?_
    generalize (tS xs ws inv k (i + 1)).1 = R1 at *
    generalize (tS xs ws inv k (i + 1)).2 = I1 at *
    generalize (tS xs ws inv k i).1 = R at *
    generalize (tS xs ws inv k i).2 = I at *
    generalize (xs.getD i (0, 0)).1 = a at *
    generalize (xs.getD i (0, 0)).2 = b at *
    generalize (rootV ws inv (i * k % xs.length)).1 = u at *
    generalize (rootV ws inv (i * k % xs.length)).2 = v at *
    have m1 := mulabs (x := a) (y := u) (N := 2147483648) (M := 1099511627776) (by omega) (by omega)
    have m2 := mulabs (x := b) (y := v) (N := 2147483648) (M := 1099511627776) (by omega) (by omega)
    have m3 := mulabs (x := a) (y := v) (N := 2147483648) (M := 1099511627776) (by omega) (by omega)
    have m4 := mulabs (x := b) (y := u) (N := 2147483648) (M := 1099511627776) (by omega) (by omega)
    subst t1 t2
    simp only [evA, evT, Go.undef, aload, astore, afieldAddr, afield, aindex, aindexAddr, abuild, abuildSlice, amakeSlice, aslice, aext, alen, aminmax, minmaxGo, aappend, newsOf, buildCells, cutRows, reps, setCells, AV.cells, allOne, AV.one, Value.oneCell', AV.pure, allPure, AV.free, allFree, rowsFree, Nat.reduceBEq, Nat.reduceAdd, Nat.reduceMul, Nat.reduceSub, Nat.reduceLT, Nat.reduceLeDiff, Int.reduceToNat, reduceIte, reduceCtorEq, Int.reduceLT, Int.reduceLE, Nat.reduceEqDiff, Int.reduceEq, Int.reduceNeg, Int.reduceMul, Int.reduceAdd, Int.reduceSub, Int.reduceBNe, Int.reduceBEq, apart, bnd]
    refine call_ok (RTimes16.ok a u (by omega) (by omega)) rfl ?_
    simp only [evA, evT, Go.undef, aload, astore, afieldAddr, afield, aindex, aindexAddr, abuild, abuildSlice, amakeSlice, aslice, aext, alen, aminmax, minmaxGo, aappend, newsOf, buildCells, cutRows, reps, setCells, AV.cells, allOne, AV.one, Value.oneCell', AV.pure, allPure, AV.free, allFree, rowsFree, Nat.reduceBEq, Nat.reduceAdd, Nat.reduceMul, Nat.reduceSub, Nat.reduceLT, Nat.reduceLeDiff, Int.reduceToNat, reduceIte, reduceCtorEq, Int.reduceLT, Int.reduceLE, Nat.reduceEqDiff, Int.reduceEq, Int.reduceNeg, Int.reduceMul, Int.reduceAdd, Int.reduceSub, Int.reduceBNe, Int.reduceBEq, apart, bnd]
    refine call_ok (add16.ok R (a * u) (by omega) (by omega)) rfl ?_
    simp only [evA, evT, Go.undef, aload, astore, afieldAddr, afield, aindex, aindexAddr, abuild, abuildSlice, amakeSlice, aslice, aext, alen, aminmax, minmaxGo, aappend, newsOf, buildCells, cutRows, reps, setCells, AV.cells, allOne, AV.one, Value.oneCell', AV.pure, allPure, AV.free, allFree, rowsFree, Nat.reduceBEq, Nat.reduceAdd, Nat.reduceMul, Nat.reduceSub, Nat.reduceLT, Nat.reduceLeDiff, Int.reduceToNat, reduceIte, reduceCtorEq, Int.reduceLT, Int.reduceLE, Nat.reduceEqDiff, Int.reduceEq, Int.reduceNeg, Int.reduceMul, Int.reduceAdd, Int.reduceSub, Int.reduceBNe, Int.reduceBEq, apart, bnd]
    refine call_ok (RTimes16.ok b v (by omega) (by omega)) rfl ?_
    simp only [evA, evT, Go.undef, aload, astore, afieldAddr, afield, aindex, aindexAddr, abuild, abuildSlice, amakeSlice, aslice, aext, alen, aminmax, minmaxGo, aappend, newsOf, buildCells, cutRows, reps, setCells, AV.cells, allOne, AV.one, Value.oneCell', AV.pure, allPure, AV.free, allFree, rowsFree, Nat.reduceBEq, Nat.reduceAdd, Nat.reduceMul, Nat.reduceSub, Nat.reduceLT, Nat.reduceLeDiff, Int.reduceToNat, reduceIte, reduceCtorEq, Int.reduceLT, Int.reduceLE, Nat.reduceEqDiff, Int.reduceEq, Int.reduceNeg, Int.reduceMul, Int.reduceAdd, Int.reduceSub, Int.reduceBNe, Int.reduceBEq, apart, bnd]
    refine call_ok (less16.ok (R + a * u) (b * v) (by omega) (by omega)) rfl ?_
    simp only [evA, evT, Go.undef, aload, astore, afieldAddr, afield, aindex, aindexAddr, abuild, abuildSlice, amakeSlice, aslice, aext, alen, aminmax, minmaxGo, aappend, newsOf, buildCells, cutRows, reps, setCells, AV.cells, allOne, AV.one, Value.oneCell', AV.pure, allPure, AV.free, allFree, rowsFree, Nat.reduceBEq, Nat.reduceAdd, Nat.reduceMul, Nat.reduceSub, Nat.reduceLT, Nat.reduceLeDiff, Int.reduceToNat, reduceIte, reduceCtorEq, Int.reduceLT, Int.reduceLE, Nat.reduceEqDiff, Int.reduceEq, Int.reduceNeg, Int.reduceMul, Int.reduceAdd, Int.reduceSub, Int.reduceBNe, Int.reduceBEq, apart, bnd, nfA_def]
    refine call_ok (RTimes16.ok a v (by omega) (by omega)) rfl ?_
    simp only [evA, evT, Go.undef, aload, astore, afieldAddr, afield, aindex, aindexAddr, abuild, abuildSlice, amakeSlice, aslice, aext, alen, aminmax, minmaxGo, aappend, newsOf, buildCells, cutRows, reps, setCells, AV.cells, allOne, AV.one, Value.oneCell', AV.pure, allPure, AV.free, allFree, rowsFree, Nat.reduceBEq, Nat.reduceAdd, Nat.reduceMul, Nat.reduceSub, Nat.reduceLT, Nat.reduceLeDiff, Int.reduceToNat, reduceIte, reduceCtorEq, Int.reduceLT, Int.reduceLE, Nat.reduceEqDiff, Int.reduceEq, Int.reduceNeg, Int.reduceMul, Int.reduceAdd, Int.reduceSub, Int.reduceBNe, Int.reduceBEq, apart, bnd]
    refine call_ok (add16.ok I (a * v) (by omega) (by omega)) rfl ?_
    simp only [evA, evT, Go.undef, aload, astore, afieldAddr, afield, aindex, aindexAddr, abuild, abuildSlice, amakeSlice, aslice, aext, alen, aminmax, minmaxGo, aappend, newsOf, buildCells, cutRows, reps, setCells, AV.cells, allOne, AV.one, Value.oneCell', AV.pure, allPure, AV.free, allFree, rowsFree, Nat.reduceBEq, Nat.reduceAdd, Nat.reduceMul, Nat.reduceSub, Nat.reduceLT, Nat.reduceLeDiff, Int.reduceToNat, reduceIte, reduceCtorEq, Int.reduceLT, Int.reduceLE, Nat.reduceEqDiff, Int.reduceEq, Int.reduceNeg, Int.reduceMul, Int.reduceAdd, Int.reduceSub, Int.reduceBNe, Int.reduceBEq, apart, bnd]
    refine call_ok (RTimes16.ok b u (by omega) (by omega)) rfl ?_
    simp only [evA, evT, Go.undef, aload, astore, afieldAddr, afield, aindex, aindexAddr, abuild, abuildSlice, amakeSlice, aslice, aext, alen, aminmax, minmaxGo, aappend, newsOf, buildCells, cutRows, reps, setCells, AV.cells, allOne, AV.one, Value.oneCell', AV.pure, allPure, AV.free, allFree, rowsFree, Nat.reduceBEq, Nat.reduceAdd, Nat.reduceMul, Nat.reduceSub, Nat.reduceLT, Nat.reduceLeDiff, Int.reduceToNat, reduceIte, reduceCtorEq, Int.reduceLT, Int.reduceLE, Nat.reduceEqDiff, Int.reduceEq, Int.reduceNeg, Int.reduceMul, Int.reduceAdd, Int.reduceSub, Int.reduceBNe, Int.reduceBEq, apart, bnd]
    refine call_ok (add16.ok (I + a * v) (b * u) (by omega) (by omega)) rfl ?_
    simp only [evA, evT, Go.undef, aload, astore, afieldAddr, afield, aindex, aindexAddr, abuild, abuildSlice, amakeSlice, aslice, aext, alen, aminmax, minmaxGo, aappend, newsOf, buildCells, cutRows, reps, setCells, AV.cells, allOne, AV.one, Value.oneCell', AV.pure, allPure, AV.free, allFree, rowsFree, Nat.reduceBEq, Nat.reduceAdd, Nat.reduceMul, Nat.reduceSub, Nat.reduceLT, Nat.reduceLeDiff, Int.reduceToNat, reduceIte, reduceCtorEq, Int.reduceLT, Int.reduceLE, Nat.reduceEqDiff, Int.reduceEq, Int.reduceNeg, Int.reduceMul, Int.reduceAdd, Int.reduceSub, Int.reduceBNe, Int.reduceBEq, apart, bnd, nfA_def, h3]
    refine hK _ (weak_of (fun l => l) rfl ?_ ?_)
    all_goals simp only [evA, evB, evT, Go.undef, aload, astore, afieldAddr, afield, aindex, aindexAddr, abuild, abuildSlice, amakeSlice, aslice, aext, alen, aminmax, minmaxGo, aappend, newsOf, buildCells, cutRows, reps, setCells, AV.cells, allOne, AV.one, Value.oneCell', AV.pure, allPure, AV.free, allFree, rowsFree, Nat.reduceBEq, Nat.reduceAdd, Nat.reduceMul, Nat.reduceSub, Nat.reduceLT, Nat.reduceLeDiff, Int.reduceToNat, reduceIte, reduceCtorEq, Int.reduceLT, Int.reduceLE, Nat.reduceEqDiff, Int.reduceEq, Int.reduceNeg, Int.reduceMul, Int.reduceAdd, Int.reduceSub, Int.reduceBNe, Int.reduceBEq, apart, bnd, cx_free]
  · obtain ⟨b1, b2⟩ := hb xs.length (Nat.le_refl _)
    simp only [evA, evT, Go.undef, aload, astore, afieldAddr, afield, aindex, aindexAddr, abuild, abuildSlice, amakeSlice, aslice, aext, alen, aminmax, minmaxGo, aappend, newsOf, buildCells, cutRows, reps, setCells, AV.cells, allOne, AV.one, Value.oneCell', AV.pure, allPure, AV.free, allFree, rowsFree, Nat.reduceBEq, Nat.reduceAdd, Nat.reduceMul, Nat.reduceSub, Nat.reduceLT, Nat.reduceLeDiff, Int.reduceToNat, reduceIte, reduceCtorEq, Int.reduceLT, Int.reduceLE, Nat.reduceEqDiff, Int.reduceEq, Int.reduceNeg, Int.reduceMul, Int.reduceAdd, Int.reduceSub, Int.reduceBNe, Int.reduceBEq, apart, bnd]
    refine call_ok (down16.ok (tS xs ws inv k xs.length).1 (by omega)) rfl ?_
    simp only [evA, evT, Go.undef, aload, astore, afieldAddr, afield, aindex, aindexAddr, abuild, abuildSlice, amakeSlice, aslice, aext, alen, aminmax, minmaxGo, aappend, newsOf, buildCells, cutRows, reps, setCells, AV.cells, allOne, AV.one, Value.oneCell', AV.pure, allPure, AV.free, allFree, rowsFree, Nat.reduceBEq, Nat.reduceAdd, Nat.reduceMul, Nat.reduceSub, Nat.reduceLT, Nat.reduceLeDiff, Int.reduceToNat, reduceIte, reduceCtorEq, Int.reduceLT, Int.reduceLE, Nat.reduceEqDiff, Int.reduceEq, Int.reduceNeg, Int.reduceMul, Int.reduceAdd, Int.reduceSub, Int.reduceBNe, Int.reduceBEq, apart, bnd]
    refine call_ok (down16.ok (tS xs ws inv k xs.length).2 (by omega)) rfl ?_
    simp only [evA, evT, Go.undef, aload, astore, afieldAddr, afield, aindex, aindexAddr, abuild, abuildSlice, amakeSlice, aslice, aext, alen, aminmax, minmaxGo, aappend, newsOf, buildCells, cutRows, reps, setCells, AV.cells, allOne, AV.one, Value.oneCell', AV.pure, allPure, AV.free, allFree, rowsFree, Nat.reduceBEq, Nat.reduceAdd, Nat.reduceMul, Nat.reduceSub, Nat.reduceLT, Nat.reduceLeDiff, Int.reduceToNat, reduceIte, reduceCtorEq, Int.reduceLT, Int.reduceLE, Nat.reduceEqDiff, Int.reduceEq, Int.reduceNeg, Int.reduceMul, Int.reduceAdd, Int.reduceSub, Int.reduceBNe, Int.reduceBEq, apart, bnd, binV]
end Go.Proofs.YtfmhdfaelgkmcaaV

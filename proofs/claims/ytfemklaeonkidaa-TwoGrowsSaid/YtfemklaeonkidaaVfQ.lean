import Derived.Test.YtfemklaeonkidaaVfP
import Derived.Test.YtfemklaeonkidaaVfJ
/- Contracts: the greatest part of numbers. The law FourGrows answers true. -/
namespace Go.Proofs.YtfemklaeonkidaaV
open Go Go.RowKit
set_option linter.unusedVariables false
set_option linter.unusedSimpArgs false
set_option maxRecDepth 100000
set_option maxHeartbeats 40000000
theorem fine52 : Fine Try.prog 52 := fun _ _ => by kernel_rfl
theorem fine23 : Fine Try.prog 23 := fun _ _ => by kernel_rfl
theorem fine14 : Fine Try.prog 14 := fun _ _ => by kernel_rfl
def mx3 (m a b : Int) : Int := max m (max (max a (-a)) (max b (-b)))
theorem greatest.ok (m a b : Int) (hm : 0 ≤ m ∧ m ≤ 2147483648) (h : win 2147483648 a b) : Ok Try.prog 52 [.sl 1 [[.int m], [.int a], [.int b]]] (.int (mx3 m a b)) := by
  unfold win at h
  have e1 : IntKind.i64.wrap (0 - m) = 0 - m := wr (by omega)
  have e2 : IntKind.i64.wrap (0 - a) = 0 - a := wr (by omega)
  have e3 : IntKind.i64.wrap (0 - b) = 0 - b := wr (by omega)
  refine ok_of (X := fun _ => []) (Z := fun _ => false) (res := [ResultVar.tmp 2]) tok follows Try.func52 rfl rfl fine52 (by kernel_rfl) (by kernel_rfl) ?_
  simp only [evA, evT, Go.undef, aload, astore, afieldAddr, afield, aindex, aindexAddr, abuild, abuildSlice, amakeSlice, aslice, aext, alen, aminmax, minmaxGo, aappend, newsOf, buildCells, cutRows, reps, setCells, AV.cells, allOne, AV.one, Value.oneCell', AV.pure, allPure, AV.free, allFree, rowsFree, Nat.reduceBEq, Nat.reduceAdd, Nat.reduceMul, Nat.reduceSub, Nat.reduceLT, Nat.reduceLeDiff, Int.reduceToNat, reduceIte, reduceCtorEq, Int.reduceLT, Int.reduceLE, Nat.reduceEqDiff, Int.reduceEq, Int.reduceNeg, Int.reduceMul, Int.reduceAdd, Int.reduceSub, Int.reduceBNe, Int.reduceBEq, apart, bnd]
  refine ⟨4, l_succ ?_⟩
  iterate 3
    simp only [evA, evT, Go.undef, aload, astore, afieldAddr, afield, aindex, aindexAddr, abuild, abuildSlice, amakeSlice, aslice, aext, alen, aminmax, minmaxGo, aappend, newsOf, buildCells, cutRows, reps, setCells, AV.cells, allOne, AV.one, Value.oneCell', AV.pure, allPure, AV.free, allFree, rowsFree, Nat.reduceBEq, Nat.reduceAdd, Nat.reduceMul, Nat.reduceSub, Nat.reduceLT, Nat.reduceLeDiff, Int.reduceToNat, reduceIte, reduceCtorEq, Int.reduceLT, Int.reduceLE, Nat.reduceEqDiff, Int.reduceEq, Int.reduceNeg, Int.reduceMul, Int.reduceAdd, Int.reduceSub, Int.reduceBNe, Int.reduceBEq, apart, bnd, e1, e2, e3]
    refine l_succ ?_
  simp only [evA, evT, Go.undef, aload, astore, afieldAddr, afield, aindex, aindexAddr, abuild, abuildSlice, amakeSlice, aslice, aext, alen, aminmax, minmaxGo, aappend, newsOf, buildCells, cutRows, reps, setCells, AV.cells, allOne, AV.one, Value.oneCell', AV.pure, allPure, AV.free, allFree, rowsFree, Nat.reduceBEq, Nat.reduceAdd, Nat.reduceMul, Nat.reduceSub, Nat.reduceLT, Nat.reduceLeDiff, Int.reduceToNat, reduceIte, reduceCtorEq, Int.reduceLT, Int.reduceLE, Nat.reduceEqDiff, Int.reduceEq, Int.reduceNeg, Int.reduceMul, Int.reduceAdd, Int.reduceSub, Int.reduceBNe, Int.reduceBEq, apart, bnd, av_int, mx3]
  repeat' split
  all_goals omega
/-- The greatest part of the first i numbers. -/
def gm (xs : List (Int × Int)) : Nat → Int
  | 0 => 0
  | i + 1 => mx3 (gm xs i) (xs.getD i (0, 0)).1 (xs.getD i (0, 0)).2
theorem gm_bd {xs : List (Int × Int)} (hx : nears 2147483648 xs) : ∀ i, i ≤ xs.length → 0 ≤ gm xs i ∧ gm xs i ≤ 2147483648
  | 0, _ => by simp [gm]
  | i + 1, hi => by
    have := gm_bd hx i (by omega)
    have h := near_get hx (i := i) (by omega)
    unfold win at h
    show 0 ≤ mx3 _ _ _ ∧ mx3 _ _ _ ≤ _
    unfold mx3
    omega
theorem gm_le {xs : List (Int × Int)} : ∀ n i, i < n → win (gm xs n) (xs.getD i (0, 0)).1 (xs.getD i (0, 0)).2
  | n + 1, i, hi => by
    show win (mx3 _ _ _) _ _
    rcases Nat.lt_or_ge i n with h | h
    · have := gm_le (xs := xs) n i h
      unfold win mx3 at *
      omega
    · obtain rfl : i = n := by omega
      unfold win mx3
      omega
theorem Max.ok (xs : List (Int × Int)) (hl : xs.length ≤ 1000000) (hx : nears 2147483648 xs) : Ok Try.prog 23 [.sl 2 (cxRows xs)] (.tup [.int (gm xs xs.length), .int 0]) := by
  refine ok_of (X := fun _ => []) (Z := fun _ => false) (res := [ResultVar.tmp 2, ResultVar.tmp 3]) tok follows Try.func23 rfl rfl fine23 (by kernel_rfl) (by kernel_rfl) ?_
  simp only [evA, evT, Go.undef, aload, astore, afieldAddr, afield, aindex, aindexAddr, abuild, abuildSlice, amakeSlice, aslice, aext, alen, aminmax, minmaxGo, aappend, newsOf, buildCells, cutRows, reps, setCells, AV.cells, allOne, AV.one, Value.oneCell', AV.pure, allPure, AV.free, allFree, rowsFree, Nat.reduceBEq, Nat.reduceAdd, Nat.reduceMul, Nat.reduceSub, Nat.reduceLT, Nat.reduceLeDiff, Int.reduceToNat, reduceIte, reduceCtorEq, Int.reduceLT, Int.reduceLE, Nat.reduceEqDiff, Int.reduceEq, Int.reduceNeg, Int.reduceMul, Int.reduceAdd, Int.reduceSub, Int.reduceBNe, Int.reduceBEq, apart, bnd, cx_len]
  refine l_inv (fun i => ⟨[(9, .int i), (8, .int xs.length), (7, .sl 2 (cxRows xs)), (4, .int (gm xs i))], [], 0⟩) xs.length ?_ (fun i hi K hK => ?_) (fun K => ?_)
  · refine weak_of (fun l => l) rfl trivial ?_
    simp only [evA, evB, evT, Go.undef, aload, astore, afieldAddr, afield, aindex, aindexAddr, abuild, abuildSlice, amakeSlice, aslice, aext, alen, aminmax, minmaxGo, aappend, newsOf, buildCells, cutRows, reps, setCells, AV.cells, allOne, AV.one, Value.oneCell', AV.pure, allPure, AV.free, allFree, rowsFree, Nat.reduceBEq, Nat.reduceAdd, Nat.reduceMul, Nat.reduceSub, Nat.reduceLT, Nat.reduceLeDiff, Int.reduceToNat, reduceIte, reduceCtorEq, Int.reduceLT, Int.reduceLE, Nat.reduceEqDiff, Int.reduceEq, Int.reduceNeg, Int.reduceMul, Int.reduceAdd, Int.reduceSub, Int.reduceBNe, Int.reduceBEq, apart, bnd, cx_free, Int.natCast_zero, gm]
  · have h1 : (i : Int) < xs.length := by omega
    have h2 : (0 : Int) ≤ i := by omega
    have h3 : IntKind.i64.wrap ((i : Int) + 1) = ((i + 1 : Nat) : Int) := by rw [wr (by omega)]; omega
    have hw := near_get hx hi
    have hg := gm_bd hx i (by omega)
    have hw' := hw
    unfold win at hw'
    have g1 : ¬ (if (xs.getD i (0, 0)).2 < (xs.getD i (0, 0)).1 then (xs.getD i (0, 0)).2 else (xs.getD i (0, 0)).1) < -2147483648 := by split <;> omega
    have g2 : ¬ 2147483648 < (if (xs.getD i (0, 0)).1 < (xs.getD i (0, 0)).2 then (xs.getD i (0, 0)).2 else (xs.getD i (0, 0)).1) := by split <;> omega
    simp only [evA, evT, Go.undef, aload, astore, afieldAddr, afield, aindex, aindexAddr, abuild, abuildSlice, amakeSlice, aslice, aext, alen, aminmax, minmaxGo, aappend, newsOf, buildCells, cutRows, reps, setCells, AV.cells, allOne, AV.one, Value.oneCell', AV.pure, allPure, AV.free, allFree, rowsFree, Nat.reduceBEq, Nat.reduceAdd, Nat.reduceMul, Nat.reduceSub, Nat.reduceLT, Nat.reduceLeDiff, Int.reduceToNat, reduceIte, reduceCtorEq, Int.reduceLT, Int.reduceLE, Nat.reduceEqDiff, Int.reduceEq, Int.reduceNeg, Int.reduceMul, Int.reduceAdd, Int.reduceSub, Int.reduceBNe, Int.reduceBEq, apart, bnd, h1, h2, h3, cx_len, Int.toNat_natCast, cx_getD hi, g1, g2]
    refine call_ok (greatest.ok _ _ _ hg hw) rfl ?_
    simp only [evA, evT, Go.undef, aload, astore, afieldAddr, afield, aindex, aindexAddr, abuild, abuildSlice, amakeSlice, aslice, aext, alen, aminmax, minmaxGo, aappend, newsOf, buildCells, cutRows, reps, setCells, AV.cells, allOne, AV.one, Value.oneCell', AV.pure, allPure, AV.free, allFree, rowsFree, Nat.reduceBEq, Nat.reduceAdd, Nat.reduceMul, Nat.reduceSub, Nat.reduceLT, Nat.reduceLeDiff, Int.reduceToNat, reduceIte, reduceCtorEq, Int.reduceLT, Int.reduceLE, Nat.reduceEqDiff, Int.reduceEq, Int.reduceNeg, Int.reduceMul, Int.reduceAdd, Int.reduceSub, Int.reduceBNe, Int.reduceBEq, apart, bnd, h3]
    refine hK _ (weak_of (fun l => l) rfl trivial ?_)
    simp only [evA, evB, evT, Go.undef, aload, astore, afieldAddr, afield, aindex, aindexAddr, abuild, abuildSlice, amakeSlice, aslice, aext, alen, aminmax, minmaxGo, aappend, newsOf, buildCells, cutRows, reps, setCells, AV.cells, allOne, AV.one, Value.oneCell', AV.pure, allPure, AV.free, allFree, rowsFree, Nat.reduceBEq, Nat.reduceAdd, Nat.reduceMul, Nat.reduceSub, Nat.reduceLT, Nat.reduceLeDiff, Int.reduceToNat, reduceIte, reduceCtorEq, Int.reduceLT, Int.reduceLE, Nat.reduceEqDiff, Int.reduceEq, Int.reduceNeg, Int.reduceMul, Int.reduceAdd, Int.reduceSub, Int.reduceBNe, Int.reduceBEq, apart, bnd, cx_free, gm]
  · simp only [evA, evT, Go.undef, aload, astore, afieldAddr, afield, aindex, aindexAddr, abuild, abuildSlice, amakeSlice, aslice, aext, alen, aminmax, minmaxGo, aappend, newsOf, buildCells, cutRows, reps, setCells, AV.cells, allOne, AV.one, Value.oneCell', AV.pure, allPure, AV.free, allFree, rowsFree, Nat.reduceBEq, Nat.reduceAdd, Nat.reduceMul, Nat.reduceSub, Nat.reduceLT, Nat.reduceLeDiff, Int.reduceToNat, reduceIte, reduceCtorEq, Int.reduceLT, Int.reduceLE, Nat.reduceEqDiff, Int.reduceEq, Int.reduceNeg, Int.reduceMul, Int.reduceAdd, Int.reduceSub, Int.reduceBNe, Int.reduceBEq, apart, bnd]
theorem times_bd {m p a b u v : Int} (hm : 0 ≤ m) (h : win m a b) (g : win p u v) : win (2 * (m * p)) (a * u - b * v) (a * v + b * u) := by
  unfold win at *
  have g1 := mul_near (p := m) (q := p) (a := a) (b := u) hm (by omega) (by omega)
  have g2 := mul_near (p := m) (q := p) (a := b) (b := v) hm (by omega) (by omega)
  have g3 := mul_near (p := m) (q := p) (a := a) (b := v) hm (by omega) (by omega)
  have g4 := mul_near (p := m) (q := p) (a := b) (b := u) hm (by omega) (by omega)
  omega
/-- What is rounded, of a sum of not more than 7 parts. -/
theorem rsh_grow {S m bits s mode : Int} (hb : 0 ≤ bits) (hs : 0 ≤ s) (h : -(7 * (m * 2 ^ bits.toNat)) ≤ S ∧ S ≤ 7 * (m * 2 ^ bits.toNat)) : rsh S (bits + s) mode * 2 ^ s.toNat < 7 * m + 2 ^ s.toNat ∧ -(rsh S (bits + s) mode * 2 ^ s.toNat) < 7 * m + 2 ^ s.toNat := by
  by_cases h0 : bits + s = 0
  · have e1 : bits = 0 := by omega
    have e2 : s = 0 := by omega
    subst e1 e2
    simp only [Int.add_zero, rsh_z, Int.toNat_zero, Int.pow_zero, Int.mul_one] at *
    omega
  · have g := (rsh_near S (bits + s) mode).resolve_right h0
    generalize rsh S (bits + s) mode = Y at *
    have e : (bits + s).toNat = bits.toNat + s.toNat := by omega
    rw [e, Int.pow_add] at g
    have hp := pow_pos bits.toNat
    have e1 : Y * (2 ^ bits.toNat * 2 ^ s.toNat) = (Y * 2 ^ s.toNat) * 2 ^ bits.toNat := by rw [Int.mul_assoc, Int.mul_comm (2 ^ s.toNat)]
    have e2 : (2 : Int) ^ bits.toNat * 2 ^ s.toNat = 2 ^ s.toNat * 2 ^ bits.toNat := Int.mul_comm _ _
    have e3 : 7 * (m * 2 ^ bits.toNat) = (7 * m) * 2 ^ bits.toNat := by rw [Int.mul_assoc]
    rw [e1, e2] at g
    rw [e3] at h
    have k1 : (Y * 2 ^ s.toNat) * 2 ^ bits.toNat < (7 * m + 2 ^ s.toNat) * 2 ^ bits.toNat := by
      rw [Int.add_mul]
      omega
    have k2 : -(Y * 2 ^ s.toNat) * 2 ^ bits.toNat < (7 * m + 2 ^ s.toNat) * 2 ^ bits.toNat := by
      rw [Int.add_mul, Int.neg_mul]
      omega
    exact ⟨Int.lt_of_mul_lt_mul_right k1 (Int.le_of_lt hp), Int.lt_of_mul_lt_mul_right k2 (Int.le_of_lt hp)⟩
/-- A part, grown. -/
def grown (m s y : Int) : Prop := y * 2 ^ s.toNat < 7 * m + 2 ^ s.toNat ∧ -(y * 2 ^ s.toNat) < 7 * m + 2 ^ s.toNat
theorem qV_grow {inv : Bool} {m bits s mode a0 b0 a1 b1 a2 b2 a3 b3 u1 v1 u2 v2 u3 v3 q : Int} (hm : 0 ≤ m) (hb : 0 ≤ bits) (hs : 0 ≤ s) (h0 : win m a0 b0) (h1 : win m a1 b1) (h2 : win m a2 b2) (h3 : win m a3 b3)
    (g1 : win (2 ^ bits.toNat) u1 v1) (g2 : win (2 ^ bits.toNat) u2 v2) (g3 : win (2 ^ bits.toNat) u3 v3) :
    grown m s (qV inv bits s mode a0 b0 a1 b1 a2 b2 a3 b3 u1 v1 u2 v2 u3 v3 q).1 ∧ grown m s (qV inv bits s mode a0 b0 a1 b1 a2 b2 a3 b3 u1 v1 u2 v2 u3 v3 q).2 := by
  have hp := pow_pos bits.toNat
  have hmp : 0 ≤ m * 2 ^ bits.toNat := Int.mul_nonneg hm (Int.le_of_lt hp)
  have w1 := times_bd hm h1 g1
  have w2 := times_bd hm h2 g2
  have w3 := times_bd hm h3 g3
  have w0 : win (m * 2 ^ bits.toNat) (a0 * 2 ^ bits.toNat) (b0 * 2 ^ bits.toNat) := by
    unfold win at *
    have k1 := mul_near (p := m) (q := 2 ^ bits.toNat) (a := a0) (b := 2 ^ bits.toNat) hm (by omega) (by omega)
    have k2 := mul_near (p := m) (q := 2 ^ bits.toNat) (a := b0) (b := 2 ^ bits.toNat) hm (by omega) (by omega)
    omega
  unfold qV grown
  refine ⟨rsh_grow hb hs ?_, rsh_grow hb hs ?_⟩
  · unfold qRe
    have k0 := tRe_near (n := 0) w0 hmp
    have k1 := tRe_near (n := if inv = true then q else 0 - q) w1 (by omega)
    have k2 := tRe_near (n := 2 * q) w2 (by omega)
    have k3 := tRe_near (n := 0 - if inv = true then q else 0 - q) w3 (by omega)
    generalize m * 2 ^ bits.toNat = M at *
    omega
  · unfold qIm
    have k0 := tIm_near (n := 0) w0 hmp
    have k1 := tIm_near (n := if inv = true then q else 0 - q) w1 (by omega)
    have k2 := tIm_near (n := 2 * q) w2 (by omega)
    have k3 := tIm_near (n := 0 - if inv = true then q else 0 - q) w3 (by omega)
    generalize m * 2 ^ bits.toNat = M at *
    omega
theorem root_win {bits : Int} {ws : List (Int × Int)} (inv : Bool) (hr : nears (2 ^ bits.toNat) ws) {k : Nat} (hk : k < ws.length) : win (2 ^ bits.toNat) (rootV ws inv k).1 (rootV ws inv k).2 := by
  have := near_get hr hk
  cases inv
  · exact this
  · show win (2 ^ bits.toNat) (ws.getD k (0, 0)).1 (-(ws.getD k (0, 0)).2)
    unfold win at *
    omega
section
variable (inv : Bool) (bits s mode : Int) (xs ws : List (Int × Int)) (H u : Nat)
theorem pT_grow (hH : 0 < H) (hu0 : 0 < u) (hn : xs.length = 4 * H * u) (h2 : (ws.length : Int) = xs.length) (hset : setP bits s mode) (hx : nears 2147483648 xs) (hr : nears (2 ^ bits.toNat) ws) {i : Nat} (hi : i < xs.length) :
    grown (gm xs xs.length) s (pT inv bits s mode xs ws H u i).1 ∧ grown (gm xs xs.length) s (pT inv bits s mode xs ws H u i).2 := by
  have hdm := Nat.div_add_mod i (4 * H)
  have hmod := Nat.mod_lt i (show 0 < 4 * H by omega)
  have hgu : 4 * H * (i / (4 * H)) + 4 * H ≤ xs.length := by
    have h1 : i / (4 * H) < u := Nat.div_lt_of_lt_mul (by omega)
    have h2 : 4 * H * (i / (4 * H) + 1) ≤ 4 * H * u := Nat.mul_le_mul_left _ h1
    rw [Nat.mul_add, Nat.mul_one] at h2
    omega
  have hj := Nat.mod_lt (i - 4 * H * (i / (4 * H))) hH
  unfold pT bT bq
  generalize 4 * H * (i / (4 * H)) = g at *
  generalize (i - g) % H = j at *
  have hju : ∀ a, a < 4 → a * j * u < ws.length := fun a ha => by
    have : a * j * u ≤ 3 * (H - 1) * u := Nat.mul_le_mul_right _ (Nat.mul_le_mul (by omega) (by omega))
    have h3 : 3 * (H - 1) * u < 4 * H * u := Nat.mul_lt_mul_of_pos_right (by omega) hu0
    omega
  have u1 : j * u < ws.length := by have := hju 1 (by decide); rwa [Nat.one_mul] at this
  exact qV_grow (gm_bd hx _ (Nat.le_refl _)).1 hset.1.1 hset.2.1.1 (gm_le _ _ (by omega)) (gm_le _ _ (by omega)) (gm_le _ _ (by omega)) (gm_le _ _ (by omega)) (root_win inv hr u1) (root_win inv hr (hju 2 (by decide))) (root_win inv hr (hju 3 (by decide)))
end
theorem FourGrows.true (inv : Bool) (h bits s mode : Int) (xs ws : List (Int × Int)) :
    Ok Try.prog 14 [.sl 2 (cxRows xs), .sl 2 (cxRows ws), .int h, .int bits, .int s, .int mode, .bool inv] (.bool true) := by
  refine ok_of (X := fun _ => []) (Z := fun _ => false) (res := [ResultVar.tmp 14]) tok follows Try.func14 rfl rfl fine14 (by kernel_rfl) (by kernel_rfl) ?_
  simp only [evA, evT, Go.undef, aload, astore, afieldAddr, afield, aindex, aindexAddr, abuild, abuildSlice, amakeSlice, aslice, aext, alen, aminmax, minmaxGo, aappend, newsOf, buildCells, cutRows, reps, setCells, AV.cells, allOne, AV.one, Value.oneCell', AV.pure, allPure, AV.free, allFree, rowsFree, Nat.reduceBEq, Nat.reduceAdd, Nat.reduceMul, Nat.reduceSub, Nat.reduceLT, Nat.reduceLeDiff, Int.reduceToNat, reduceIte, reduceCtorEq, Int.reduceLT, Int.reduceLE, Nat.reduceEqDiff, Int.reduceEq, Int.reduceNeg, Int.reduceMul, Int.reduceAdd, Int.reduceSub, Int.reduceBNe, Int.reduceBEq, apart, bnd, cx_len, min70, min70_le, min70_0, Int.toNat_natCast, cx_take, cx_free]
  have hX := take_len (xs := xs)
  have hW := take_len (xs := ws)
  generalize xs.take (min xs.length 70) = X at *
  generalize ws.take (min ws.length 70) = W at *
  rcases why_or (half h X.length ∧ 4 * h ≤ X.length) X W bits s mode with hG | ⟨e, hE, he⟩
  · obtain ⟨h1, h2, ⟨h3, hset⟩, hx, hr⟩ := hG
    obtain ⟨H, u, rfl, g1, g2, g3, g4, g5, g6⟩ := quarter_nat h1 h3
    have hn : X.length = 4 * H * u := by omega
    refine call_ok (Pass.ok inv bits s mode X W (by omega) (by omega) H u g1 g2 g5 g4 hn g6 h1 h2 hset hx hr) (by simp only [evA, evT, Go.undef, aload, astore, afieldAddr, afield, aindex, aindexAddr, abuild, abuildSlice, amakeSlice, aslice, aext, alen, aminmax, minmaxGo, aappend, newsOf, buildCells, cutRows, reps, setCells, AV.cells, allOne, AV.one, Value.oneCell', AV.pure, allPure, AV.free, allFree, rowsFree, Nat.reduceBEq, Nat.reduceAdd, Nat.reduceMul, Nat.reduceSub, Nat.reduceLT, Nat.reduceLeDiff, Int.reduceToNat, reduceIte, reduceCtorEq, Int.reduceLT, Int.reduceLE, Nat.reduceEqDiff, Int.reduceEq, Int.reduceNeg, Int.reduceMul, Int.reduceAdd, Int.reduceSub, Int.reduceBNe, Int.reduceBEq, apart, bnd, cx_free]) ?_
    simp only [evA, evT, Go.undef, aload, astore, afieldAddr, afield, aindex, aindexAddr, abuild, abuildSlice, amakeSlice, aslice, aext, alen, aminmax, minmaxGo, aappend, newsOf, buildCells, cutRows, reps, setCells, AV.cells, allOne, AV.one, Value.oneCell', AV.pure, allPure, AV.free, allFree, rowsFree, Nat.reduceBEq, Nat.reduceAdd, Nat.reduceMul, Nat.reduceSub, Nat.reduceLT, Nat.reduceLeDiff, Int.reduceToNat, reduceIte, reduceCtorEq, Int.reduceLT, Int.reduceLE, Nat.reduceEqDiff, Int.reduceEq, Int.reduceNeg, Int.reduceMul, Int.reduceAdd, Int.reduceSub, Int.reduceBNe, Int.reduceBEq, apart, bnd, cx_len, cx_free]
    refine call_ok (Max.ok X (by omega) hx) rfl ?_
    simp only [evA, evT, Go.undef, aload, astore, afieldAddr, afield, aindex, aindexAddr, abuild, abuildSlice, amakeSlice, aslice, aext, alen, aminmax, minmaxGo, aappend, newsOf, buildCells, cutRows, reps, setCells, AV.cells, allOne, AV.one, Value.oneCell', AV.pure, allPure, AV.free, allFree, rowsFree, Nat.reduceBEq, Nat.reduceAdd, Nat.reduceMul, Nat.reduceSub, Nat.reduceLT, Nat.reduceLeDiff, Int.reduceToNat, reduceIte, reduceCtorEq, Int.reduceLT, Int.reduceLE, Nat.reduceEqDiff, Int.reduceEq, Int.reduceNeg, Int.reduceMul, Int.reduceAdd, Int.reduceSub, Int.reduceBNe, Int.reduceBEq, apart, bnd, cx_len, cx_free, pV_len]
    refine call_ok alive.ok rfl ?_
    simp only [evA, evT, Go.undef, aload, astore, afieldAddr, afield, aindex, aindexAddr, abuild, abuildSlice, amakeSlice, aslice, aext, alen, aminmax, minmaxGo, aappend, newsOf, buildCells, cutRows, reps, setCells, AV.cells, allOne, AV.one, Value.oneCell', AV.pure, allPure, AV.free, allFree, rowsFree, Nat.reduceBEq, Nat.reduceAdd, Nat.reduceMul, Nat.reduceSub, Nat.reduceLT, Nat.reduceLeDiff, Int.reduceToNat, reduceIte, reduceCtorEq, Int.reduceLT, Int.reduceLE, Nat.reduceEqDiff, Int.reduceEq, Int.reduceNeg, Int.reduceMul, Int.reduceAdd, Int.reduceSub, Int.reduceBNe, Int.reduceBEq, apart, bnd, cx_len, cx_free, pV_len]
    have hgm := gm_bd hx X.length (Nat.le_refl _)
    have hgrow := fun i (hi : i < X.length) => pT_grow inv bits s mode X W H u g1 g4 hn h2 hset hx hr hi
    generalize gm X X.length = m at *
    have e7 : IntKind.i64.wrap (7 * m) = 7 * m := wr (by omega)
    have hs0 := hset.2.1.1
    have hmin : min s.toNat IntKind.i64.bits = s.toNat := sh_min (by omega)
    have hp : (2 : Int) ^ s.toNat = 1 ∨ (2 : Int) ^ s.toNat = 2 ∨ (2 : Int) ^ s.toNat = 4 ∨ (2 : Int) ^ s.toNat = 8 := by
      have : s = 0 ∨ s = 1 ∨ s = 2 ∨ s = 3 := by omega
      rcases this with rfl | rfl | rfl | rfl <;> decide
    refine l_inv (fun i => ⟨[(71, .int i), (70, .int X.length), (69, .sl 2 (cxRows (pV inv bits s mode X W H u))), (17, .int m), (4, .int s)], [], 0⟩) X.length ?_ (fun i hi K hK => ?_) (fun K => ?_)
    · refine weak_of (fun l => l) rfl trivial ?_
      simp only [evA, evB, evT, Go.undef, aload, astore, afieldAddr, afield, aindex, aindexAddr, abuild, abuildSlice, amakeSlice, aslice, aext, alen, aminmax, minmaxGo, aappend, newsOf, buildCells, cutRows, reps, setCells, AV.cells, allOne, AV.one, Value.oneCell', AV.pure, allPure, AV.free, allFree, rowsFree, Nat.reduceBEq, Nat.reduceAdd, Nat.reduceMul, Nat.reduceSub, Nat.reduceLT, Nat.reduceLeDiff, Int.reduceToNat, reduceIte, reduceCtorEq, Int.reduceLT, Int.reduceLE, Nat.reduceEqDiff, Int.reduceEq, Int.reduceNeg, Int.reduceMul, Int.reduceAdd, Int.reduceSub, Int.reduceBNe, Int.reduceBEq, apart, bnd, cx_free, Int.natCast_zero]
    · have q1 : (i : Int) < X.length := by omega
      have q2 : (0 : Int) ≤ i := by omega
      have q3 : IntKind.i64.wrap ((i : Int) + 1) = ((i + 1 : Nat) : Int) := by rw [wr (by omega)]; omega
      have hip : i < (pV inv bits s mode X W H u).length := by rw [pV_len]; exact hi
      have hgi := hgrow i hi
      generalize hy : pT inv bits s mode X W H u i = y at *
      obtain ⟨N, hN⟩ : ∃ N, N = (if (if (if y.1 < 0 - y.1 then 0 - y.1 else y.1) < y.2 then y.2 else (if y.1 < 0 - y.1 then 0 - y.1 else y.1)) < 0 - y.2 then 0 - y.2 else (if (if y.1 < 0 - y.1 then 0 - y.1 else y.1) < y.2 then y.2 else (if y.1 < 0 - y.1 then 0 - y.1 else y.1))) := ⟨_, rfl⟩
      have key : (-17179869184 ≤ y.1 ∧ y.1 ≤ 17179869184) ∧ (-17179869184 ≤ y.2 ∧ y.2 ≤ 17179869184) ∧ (0 ≤ N ∧ N ≤ 17179869184) ∧ ¬ 7 * m < (N - 1) * 2 ^ s.toNat ∧ (m = 0 → ¬ 0 < N) := by
        unfold grown at hgi
        rcases hp with e | e | e | e
        all_goals
          rw [e] at hgi ⊢
          repeat' split at hN
          all_goals omega
      obtain ⟨y1, y2, y3, y4, y5⟩ := key
      have e1 : IntKind.i64.wrap (0 - y.1) = 0 - y.1 := wr (by omega)
      have e2 : IntKind.i64.wrap (0 - y.2) = 0 - y.2 := wr (by omega)
      have e3 : IntKind.i64.wrap (N - 1) = N - 1 := wr (by omega)
      have e4 : IntKind.i64.wrap ((N - 1) * 2 ^ s.toNat) = (N - 1) * 2 ^ s.toNat := wr (by rcases hp with e | e | e | e <;> rw [e] <;> omega)
      by_cases hm0 : m = 0
      · subst hm0
        have e5 := y5 rfl
        have e6 : ¬ 0 < (N - 1) * 2 ^ s.toNat := by rwa [Int.mul_zero] at y4
        simp only [evA, evT, Go.undef, aload, astore, afieldAddr, afield, aindex, aindexAddr, abuild, abuildSlice, amakeSlice, aslice, aext, alen, aminmax, minmaxGo, aappend, newsOf, buildCells, cutRows, reps, setCells, AV.cells, allOne, AV.one, Value.oneCell', AV.pure, allPure, AV.free, allFree, rowsFree, Nat.reduceBEq, Nat.reduceAdd, Nat.reduceMul, Nat.reduceSub, Nat.reduceLT, Nat.reduceLeDiff, Int.reduceToNat, reduceIte, reduceCtorEq, Int.reduceLT, Int.reduceLE, Nat.reduceEqDiff, Int.reduceEq, Int.reduceNeg, Int.reduceMul, Int.reduceAdd, Int.reduceSub, Int.reduceBNe, Int.reduceBEq, apart, bnd, q1, q2, q3, cx_len, pV_len, Int.toNat_natCast, cx_getD hip, pV_at inv bits s mode X W H u hi, hy, e1, e2, hN.symm, e3, hmin, e4, w_0, hs0, e6, e5]
        refine hK _ (weak_of (fun l => l) rfl trivial ?_)
        simp only [evA, evB, evT, Go.undef, aload, astore, afieldAddr, afield, aindex, aindexAddr, abuild, abuildSlice, amakeSlice, aslice, aext, alen, aminmax, minmaxGo, aappend, newsOf, buildCells, cutRows, reps, setCells, AV.cells, allOne, AV.one, Value.oneCell', AV.pure, allPure, AV.free, allFree, rowsFree, Nat.reduceBEq, Nat.reduceAdd, Nat.reduceMul, Nat.reduceSub, Nat.reduceLT, Nat.reduceLeDiff, Int.reduceToNat, reduceIte, reduceCtorEq, Int.reduceLT, Int.reduceLE, Nat.reduceEqDiff, Int.reduceEq, Int.reduceNeg, Int.reduceMul, Int.reduceAdd, Int.reduceSub, Int.reduceBNe, Int.reduceBEq, apart, bnd, cx_free]
      · simp only [evA, evT, Go.undef, aload, astore, afieldAddr, afield, aindex, aindexAddr, abuild, abuildSlice, amakeSlice, aslice, aext, alen, aminmax, minmaxGo, aappend, newsOf, buildCells, cutRows, reps, setCells, AV.cells, allOne, AV.one, Value.oneCell', AV.pure, allPure, AV.free, allFree, rowsFree, Nat.reduceBEq, Nat.reduceAdd, Nat.reduceMul, Nat.reduceSub, Nat.reduceLT, Nat.reduceLeDiff, Int.reduceToNat, reduceIte, reduceCtorEq, Int.reduceLT, Int.reduceLE, Nat.reduceEqDiff, Int.reduceEq, Int.reduceNeg, Int.reduceMul, Int.reduceAdd, Int.reduceSub, Int.reduceBNe, Int.reduceBEq, apart, bnd, q1, q2, q3, cx_len, pV_len, Int.toNat_natCast, cx_getD hip, pV_at inv bits s mode X W H u hi, hy, e1, e2, hN.symm, e3, hmin, e4, e7, hs0, y4, hm0]
        refine hK _ (weak_of (fun l => l) rfl trivial ?_)
        simp only [evA, evB, evT, Go.undef, aload, astore, afieldAddr, afield, aindex, aindexAddr, abuild, abuildSlice, amakeSlice, aslice, aext, alen, aminmax, minmaxGo, aappend, newsOf, buildCells, cutRows, reps, setCells, AV.cells, allOne, AV.one, Value.oneCell', AV.pure, allPure, AV.free, allFree, rowsFree, Nat.reduceBEq, Nat.reduceAdd, Nat.reduceMul, Nat.reduceSub, Nat.reduceLT, Nat.reduceLeDiff, Int.reduceToNat, reduceIte, reduceCtorEq, Int.reduceLT, Int.reduceLE, Nat.reduceEqDiff, Int.reduceEq, Int.reduceNeg, Int.reduceMul, Int.reduceAdd, Int.reduceSub, Int.reduceBNe, Int.reduceBEq, apart, bnd, cx_free]
    · simp only [evA, evT, Go.undef, aload, astore, afieldAddr, afield, aindex, aindexAddr, abuild, abuildSlice, amakeSlice, aslice, aext, alen, aminmax, minmaxGo, aappend, newsOf, buildCells, cutRows, reps, setCells, AV.cells, allOne, AV.one, Value.oneCell', AV.pure, allPure, AV.free, allFree, rowsFree, Nat.reduceBEq, Nat.reduceAdd, Nat.reduceMul, Nat.reduceSub, Nat.reduceLT, Nat.reduceLeDiff, Int.reduceToNat, reduceIte, reduceCtorEq, Int.reduceLT, Int.reduceLE, Nat.reduceEqDiff, Int.reduceEq, Int.reduceNeg, Int.reduceMul, Int.reduceAdd, Int.reduceSub, Int.reduceBNe, Int.reduceBEq, apart, bnd]
  · refine call_ok (Pass.no inv h bits s mode X W (by omega) e hE) rfl ?_
    simp only [evA, evT, Go.undef, aload, astore, afieldAddr, afield, aindex, aindexAddr, abuild, abuildSlice, amakeSlice, aslice, aext, alen, aminmax, minmaxGo, aappend, newsOf, buildCells, cutRows, reps, setCells, AV.cells, allOne, AV.one, Value.oneCell', AV.pure, allPure, AV.free, allFree, rowsFree, Nat.reduceBEq, Nat.reduceAdd, Nat.reduceMul, Nat.reduceSub, Nat.reduceLT, Nat.reduceLeDiff, Int.reduceToNat, reduceIte, reduceCtorEq, Int.reduceLT, Int.reduceLE, Nat.reduceEqDiff, Int.reduceEq, Int.reduceNeg, Int.reduceMul, Int.reduceAdd, Int.reduceSub, Int.reduceBNe, Int.reduceBEq, apart, bnd, he]
    refine call_ok alive.ok rfl ?_
    simp only [evA, evT, Go.undef, aload, astore, afieldAddr, afield, aindex, aindexAddr, abuild, abuildSlice, amakeSlice, aslice, aext, alen, aminmax, minmaxGo, aappend, newsOf, buildCells, cutRows, reps, setCells, AV.cells, allOne, AV.one, Value.oneCell', AV.pure, allPure, AV.free, allFree, rowsFree, Nat.reduceBEq, Nat.reduceAdd, Nat.reduceMul, Nat.reduceSub, Nat.reduceLT, Nat.reduceLeDiff, Int.reduceToNat, reduceIte, reduceCtorEq, Int.reduceLT, Int.reduceLE, Nat.reduceEqDiff, Int.reduceEq, Int.reduceNeg, Int.reduceMul, Int.reduceAdd, Int.reduceSub, Int.reduceBNe, Int.reduceBEq, apart, bnd]
end Go.Proofs.YtfemklaeonkidaaV

import Derived.Test.YtnnjjblgilibgaaVlG
/- SplitSame answers true. -/
namespace Go.Proofs.YtnnjjblgilibgaaV
open Go Go.RowKit
set_option linter.unusedVariables false
set_option linter.unusedSimpArgs false
set_option maxRecDepth 100000
set_option maxHeartbeats 40000000
theorem fine4 : Fine Try.prog 4 := fun _ _ => by kernel_rfl
theorem evL_imp (a : Int × Int) (n m : Nat) (h : ∀ j, j < n → 2 * j < m) : evL (impL a m) 0 2 n = impL a n := by
  unfold evL
  refine List.map_congr_left fun j hj => ?_
  rw [List.mem_range] at hj
  rw [impL_get (by have := h j hj; omega)]
  by_cases e : j = 0
  · rw [if_pos (by omega), if_pos e]
  · rw [if_neg (by omega), if_neg e]
theorem evL_off (a : Int × Int) (fr n m : Nat) (hf : 0 < fr) (h : ∀ j, j < n → fr + 4 * j < m) : evL (impL a m) fr 4 n = List.replicate n (0, 0) := by
  refine List.ext_getElem (by simp [evL]) fun i h1 h2 => ?_
  have hi : i < n := by simpa using h2
  simp only [evL, List.getElem_map, List.getElem_range, List.getElem_replicate]
  rw [impL_get (h i hi), if_neg (by omega)]
theorem impL_0 (n i : Nat) : (impL (0, 0) n).getD i (0, 0) = (0, 0) := by
  rcases Nat.lt_or_ge i n with h | h
  · rw [impL_get h]
    split <;> rfl
  · rw [List.getD_eq_getElem?_getD, List.getElem?_eq_none (by rw [impL_len]; exact h)]
    rfl
theorem jOne_u {B mode sign : Int} {u : Int × Int} (hB : 0 ≤ B) : (-1 ≤ 2 * (jOne B mode sign u (0, 0)).1 - u.1 ∧ 2 * (jOne B mode sign u (0, 0)).1 - u.1 ≤ 1) ∧ (-1 ≤ 2 * (jOne B mode sign u (0, 0)).2 - u.2 ∧ 2 * (jOne B mode sign u (0, 0)).2 - u.2 ≤ 1) := by
  have hp := pow_pos B.toNat
  have e1 : (2 : Int) ^ (B + 1).toNat = 2 * 2 ^ B.toNat := by rw [show (B + 1).toNat = B.toNat + 1 by omega, Int.pow_succ]; omega
  have e2 : (2 : Int) ^ (B + 2).toNat = 4 * 2 ^ B.toNat := by rw [show (B + 2).toNat = B.toNat + 1 + 1 by omega, Int.pow_succ, Int.pow_succ]; omega
  have key : ∀ x : Int, -1 ≤ 2 * rsh (x * 2 ^ (B + 1).toNat + sign * 0) (B + 2) mode - x ∧ 2 * rsh (x * 2 ^ (B + 1).toNat + sign * 0) (B + 2) mode - x ≤ 1 := by
    intro x
    have h := (rsh_near' (x * 2 ^ (B + 1).toNat + sign * 0) (B + 2) mode).resolve_right (by omega)
    generalize rsh (x * 2 ^ (B + 1).toNat + sign * 0) (B + 2) mode = r at *
    rw [e1, e2, Int.mul_zero, Int.add_zero] at h
    generalize (2 : Int) ^ B.toNat = P at *
    have e : r * (4 * P) - x * (2 * P) = (2 * r - x) * (2 * P) := by grind
    rw [e] at h
    generalize 2 * r - x = d at *
    have h1 : (-2) * (2 * P) < d * (2 * P) := by omega
    have h2 : d * (2 * P) < 2 * (2 * P) := by omega
    have g1 := Int.lt_of_mul_lt_mul_right h1 (by omega)
    have g2 := Int.lt_of_mul_lt_mul_right h2 (by omega)
    omega
  exact ⟨key u.1, key u.2⟩
theorem jV_u (t B mode : Int) (u v w w3 : Int × Int) (q : Nat) : ∃ (z : Int × Int) (s : Int), (z = u ∨ z = v) ∧ jV t B mode u v (0, 0) (0, 0) w w3 q = jOne B mode s z (0, 0) := by
  have h1 : jSum (0, 0) (0, 0) w w3 = (0, 0) := by unfold jSum; rw [cmul_0, cmul_0]; rfl
  have h2 : jLess t (0, 0) (0, 0) w w3 = (0, 0) := by
    unfold jLess
    rw [cmul_0, cmul_0]
    dsimp only
    rw [(tRI_0 t).1, (tRI_0 t).2]
    rfl
  unfold jV
  rw [h1, h2]
  split
  · exact ⟨u, 1, .inl rfl, rfl⟩
  · exact ⟨v, 1, .inr rfl, rfl⟩
  · exact ⟨u, -1, .inl rfl, rfl⟩
  · exact ⟨v, -1, .inr rfl, rfl⟩
abbrev nearA (m : Int) (a y : Int × Int) : Prop := (-(2 * m - 2) ≤ m * y.1 - a.1 ∧ m * y.1 - a.1 ≤ 2 * m - 2) ∧ (-(2 * m - 2) ≤ m * y.2 - a.2 ∧ m * y.2 - a.2 ≤ 2 * m - 2)
theorem runL_imp (log : Nat) (inv : Bool) (B mode : Int) (hB : 0 ≤ B ∧ B ≤ 29) (a : Int × Int) : ∀ j : Nat, ∀ p, p < 2 ^ j → nearA ((2 ^ j : Nat) : Int) a ((runL (tabV log B) inv B mode j (impL a (2 ^ j))).getD p (0, 0))
  | 0, p, hp => by
    obtain rfl : p = 0 := by
      have : p < 1 := hp
      omega
    show nearA 1 a a
    unfold nearA
    omega
  | 1, p, hp => by
    have hp : p < 2 := hp
    have g : ∀ (s x : Int), -1 ≤ 2 * rsh (x + s * 0) 1 mode - x ∧ 2 * rsh (x + s * 0) 1 mode - x ≤ 1 := by
      intro s x
      have h := (rsh_near' (x + s * 0) 1 mode).resolve_right (by decide)
      rw [show (2 : Int) ^ (1 : Int).toNat = 2 from rfl] at h
      rw [Int.mul_zero, Int.add_zero] at h ⊢
      omega
    have hb : ∀ s, nearA 2 a (bf mode s a (0, 0)) := by
      intro s
      have h1 := g s a.1
      have h2 := g s a.2
      unfold nearA bf
      dsimp only
      omega
    have hcase : p = 0 ∨ p = 1 := by omega
    rcases hcase with rfl | rfl
    · exact hb 1
    · exact hb (-1)
  | j + 2, p, hp => by
    have hh := Nat.two_pow_pos j
    have hj1 : (2 : Nat) ^ (j + 1) = 2 * 2 ^ j := by rw [Nat.pow_succ]; omega
    have hj2 : (2 : Nat) ^ (j + 2) = 4 * 2 ^ j := by rw [Nat.pow_succ, hj1]; omega
    have ih := runL_imp log inv B mode hB a (j + 1)
    rw [runL, evL_imp a (2 ^ (j + 1)) _ (fun i hi => by omega), evL_off a 1 (2 ^ j) _ (by decide) (fun i hi => by omega), evL_off a 3 (2 ^ j) _ (by decide) (fun i hi => by omega), runL_const log inv B mode hB (0, 0) j]
    rw [List.getD_eq_getElem?_getD, List.getElem?_map, List.getElem?_range hp, Option.map_some, Option.getD_some]
    unfold spV
    rw [impL_0]
    have hm : p % 2 ^ j < 2 ^ j := Nat.mod_lt _ hh
    have i1 := ih (p % 2 ^ j) (by omega)
    have i2 := ih (2 ^ j + p % 2 ^ j) (by omega)
    generalize (runL (tabV log B) inv B mode (j + 1) (impL a (2 ^ (j + 1)))).getD (p % 2 ^ j) (0, 0) = u at *
    generalize (runL (tabV log B) inv B mode (j + 1) (impL a (2 ^ (j + 1)))).getD (2 ^ j + p % 2 ^ j) (0, 0) = v at *
    obtain ⟨z, s, hz, e⟩ := jV_u (tn inv) B mode u v (rootV (tabV log B) inv (p % 2 ^ j * ((tabV log B).length / 2 ^ (j + 2)))) (rootV (tabV log B) inv (3 * (p % 2 ^ j) * ((tabV log B).length / 2 ^ (j + 2)))) (p / 2 ^ j)
    rw [e]
    have i3 : nearA ((2 ^ (j + 1) : Nat) : Int) a z := by rcases hz with rfl | rfl <;> assumption
    obtain ⟨k1, k2⟩ := jOne_u (mode := mode) (sign := s) (u := z) hB.1
    generalize jOne B mode s z (0, 0) = r at *
    rw [hj1] at i3
    rw [hj2]
    unfold nearA at *
    have hM : ((2 * 2 ^ j : Nat) : Int) = 2 * ((2 ^ j : Nat) : Int) := by omega
    have hM4 : ((4 * 2 ^ j : Nat) : Int) = 4 * ((2 ^ j : Nat) : Int) := by omega
    rw [hM] at i3
    rw [hM4]
    have hm0 : (1 : Int) ≤ ((2 ^ j : Nat) : Int) := by omega
    generalize ((2 ^ j : Nat) : Int) = m at *
    have step : ∀ r z a : Int, (-1 ≤ 2 * r - z ∧ 2 * r - z ≤ 1) → (-(2 * (2 * m) - 2) ≤ 2 * m * z - a ∧ 2 * m * z - a ≤ 2 * (2 * m) - 2) → -(2 * (4 * m) - 2) ≤ 4 * m * r - a ∧ 4 * m * r - a ≤ 2 * (4 * m) - 2 := by
      intro r z a h1 h2
      have e : 4 * m * r - a = 2 * m * (2 * r - z) + (2 * m * z - a) := by grind
      rw [e]
      have g1 : 2 * m * (2 * r - z) ≤ 2 * m * 1 := Int.mul_le_mul_of_nonneg_left h1.2 (by omega)
      have g2 : 2 * m * (-1) ≤ 2 * m * (2 * r - z) := Int.mul_le_mul_of_nonneg_left h1.1 (by omega)
      omega
    exact ⟨step _ _ _ k1 i3.1, step _ _ _ k2 i3.2⟩
theorem fill_rep (n : Nat) (a : Int × Int) : fillL n (fun _ => a) n = List.replicate n a := by
  unfold fillL
  refine List.ext_getElem (by simp) fun i h1 h2 => ?_
  have hi : i < n := by simpa using h2
  simp [hi]
theorem imp_set (n : Nat) (a : Int × Int) (hn : 0 < n) : (List.replicate n ((0 : Int), (0 : Int))).set 0 a = impL a n := by
  unfold impL
  refine List.ext_getElem (by simp) fun i h1 h2 => ?_
  simp only [List.getElem_set, List.getElem_replicate, List.getElem_map, List.getElem_range]
  by_cases e : i = 0
  · rw [if_pos e.symm, if_pos e]
  · rw [if_neg (Ne.symm e), if_neg e]
theorem SplitSame.true (a0 b0 log0 f0 mode0 : Int) (inv : Bool) : Ok Try.prog 4 [cxA a0 b0, .int log0, .int f0, .int mode0, .bool inv] (.bool true) := by
  have hmod : ∀ (x m : Int), 0 < m → m ≤ 1000 → (-m < x.tmod m ∧ x.tmod m < m) := fun x m hm _ => by
    have h1 := Int.tmod_lt_of_pos x hm
    have h2 := Int.tmod_lt_of_pos (-x) hm
    rw [Int.neg_tmod] at h2
    omega
  have hmod2 : ∀ (x : Int), (-16384 < x.tmod 16384 ∧ x.tmod 16384 < 16384) := fun x => by
    have h1 := Int.tmod_lt_of_pos x (show (0 : Int) < 16384 by decide)
    have h2 := Int.tmod_lt_of_pos (-x) (show (0 : Int) < 16384 by decide)
    rw [Int.neg_tmod] at h2
    omega
  have l1 := hmod log0 5 (by decide) (by decide)
  have l2 := Int.tmod_lt_of_pos (log0.tmod 5 + 5) (show (0 : Int) < 5 by decide)
  have l3 := Int.tmod_nonneg (a := log0.tmod 5 + 5) 5 (by omega)
  have f1 := hmod f0 2 (by decide) (by decide)
  have f2 := Int.tmod_lt_of_pos (f0.tmod 2 + 2) (show (0 : Int) < 2 by decide)
  have f3 := Int.tmod_nonneg (a := f0.tmod 2 + 2) 2 (by omega)
  have m1 := hmod mode0 3 (by decide) (by decide)
  have m2 := Int.tmod_lt_of_pos (mode0.tmod 3 + 3) (show (0 : Int) < 3 by decide)
  have m3 := Int.tmod_nonneg (a := mode0.tmod 3 + 3) 3 (by omega)
  have w1 : IntKind.i64.wrap (log0.tmod 5 + 5) = log0.tmod 5 + 5 := wr (by omega)
  have w2 : IntKind.i64.wrap (f0.tmod 2 + 2) = f0.tmod 2 + 2 := wr (by omega)
  have w3 : IntKind.i64.wrap (mode0.tmod 3 + 3) = mode0.tmod 3 + 3 := wr (by omega)
  obtain ⟨log, hlog, hl⟩ : ∃ log : Nat, (log0.tmod 5 + 5).tmod 5 + 2 = (log : Int) ∧ 2 ≤ log ∧ log ≤ 6 := ⟨((log0.tmod 5 + 5).tmod 5 + 2).toNat, by omega⟩
  have w4 : IntKind.i64.wrap ((log0.tmod 5 + 5).tmod 5 + 2) = (log : Int) := by rw [wr (by omega), hlog]
  have a1 := hmod2 a0
  have a2 := hmod2 b0
  have hp := pow64S hl
  have hpn : ((2 ^ log : Nat) : Int) = 2 ^ log := by rw [Int.natCast_pow]; rfl
  have h5 : (0 : Int) ≤ (log : Int) := by omega
  have hshl : IntKind.i64.wrap (1 * 2 ^ min log IntKind.i64.bits) = ((2 ^ log : Nat) : Int) := by rw [hpn]; exact sh1 (by omega)
  have y1 : (0 : Int) ≤ ((2 ^ log : Nat) : Int) := by omega
  have y2 : 16 * ((2 ^ log : Nat) : Int) ≤ 281474976710656 := by omega
  have y3 : ((2 ^ log : Nat) : Int) ≤ 9223372036854775807 := by omega
  refine ok_of (X := fun _ => []) (Z := fun r => Nat.beq r 11) (res := [ResultVar.tmp 10]) tok follows Try.func4 rfl rfl fine4 (by kernel_rfl) (by kernel_rfl) ?_
  simp only [evA, evB, evT, Go.undef, aload, astore, afieldAddr, afield, aindex, aindexAddr, abuild, abuildSlice, amakeSlice, aslice, aext, alen, aminmax, minmaxGo, aappend, newsOf, buildCells, cutRows, reps, setCells, AV.cells, allOne, AV.one, Value.oneCell', AV.pure, allPure, AV.free, allFree, rowsFree, Nat.reduceBEq, Nat.reduceAdd, Nat.reduceMul, Nat.reduceSub, Nat.reduceLT, Nat.reduceLeDiff, Int.reduceToNat, reduceIte, reduceCtorEq, Int.reduceLT, Int.reduceLE, Nat.reduceEqDiff, Int.reduceEq, Int.reduceNeg, Int.reduceMul, Int.reduceAdd, Int.reduceSub, Int.reduceBNe, Int.reduceBEq, apart, bnd, w1, w2, w3, w4, h5, hshl, Int.toNat_natCast, y1, y2, y3]
  generalize (f0.tmod 2 + 2).tmod 2 = f at *
  generalize (mode0.tmod 3 + 3).tmod 3 = mode at *
  generalize a0.tmod 16384 = a at *
  generalize b0.tmod 16384 = b at *
  have hf : fmt f := by
    have : f = 0 ∨ f = 1 := by omega
    exact this
  have hm : 0 ≤ mode ∧ mode ≤ 2 := by omega
  have hB := fB_or f
  have hab : win (halfM f) a b := by
    rcases hf with rfl | rfl
    · show win 16384 a b
      unfold win
      omega
    · show win 1073741824 a b
      unfold win
      omega
  have hln : lens ((2 ^ log : Nat) : Int) ∧ lg ((2 ^ log : Nat) : Int) = log := by
    have : log = 2 ∨ log = 3 ∨ log = 4 ∨ log = 5 ∨ log = 6 := by omega
    rcases this with rfl | rfl | rfl | rfl | rfl <;> exact ⟨by decide, rfl⟩
  have hS1 : Split (List.replicate (2 ^ log) (a, b)) f mode log := ⟨hl, by simp, by simpa using hln.1, by simpa using hln.2, hf, hm, fun x hx => by rw [List.eq_of_mem_replicate hx]; exact hab⟩
  have hS2 : Split (impL (a, b) (2 ^ log)) f mode log := ⟨hl, impL_len, by rw [impL_len]; exact hln.1, by rw [impL_len]; exact hln.2, hf, hm, fun x hx => by
    unfold impL at hx
    obtain ⟨p, _, rfl⟩ := List.mem_map.1 hx
    split
    · exact hab
    · have h1 := halfM_bd hf
      unfold win
      dsimp only
      omega⟩
  have R1 := Run.ok (List.replicate (2 ^ log) (a, b)) f mode inv log hS1
  have R2 := Run.ok (impL (a, b) (2 ^ log)) f mode inv log hS2
  have e1 : splV (List.replicate (2 ^ log) (a, b)) f mode inv log = impL (a, b) (2 ^ log) := runL_const log inv (fB f - 2) mode (by omega) (a, b) log
  have hY : ∀ p, p < 2 ^ log → nearA ((2 ^ log : Nat) : Int) (a, b) ((splV (impL (a, b) (2 ^ log)) f mode inv log).getD p (0, 0)) := runL_imp log inv (fB f - 2) mode (by omega) (a, b) log
  have lY : (splV (impL (a, b) (2 ^ log)) f mode inv log).length = 2 ^ log := by rw [splV_len hS2, impL_len]
  rw [e1] at R1
  generalize splV (impL (a, b) (2 ^ log)) f mode inv log = Y at *
  generalize hn : 2 ^ log = n at *
  have hzf : rowsFree (List.replicate n [AV.int 0, AV.int 0]) = Bool.true := by
    have : cxRows (List.replicate n ((0 : Int), (0 : Int))) = List.replicate n [AV.int 0, AV.int 0] := by simp [cxRows]
    rw [← this]
    exact cx_free _
  have hzr : cxRows (List.replicate n ((0 : Int), (0 : Int))) = List.replicate n [AV.int 0, AV.int 0] := by simp [cxRows]
  refine l_inv (fun i => ⟨[(51, .int i), (50, .int (n : Int)), (12, .own 1), (13, .own 2), (5, .loc 0 0), (2, .int f), (3, .int mode), (4, .bool inv), (11, .int (n : Int))], [(2, some (.row 35 2 (cxRows (List.replicate n ((0 : Int), (0 : Int)))))), (1, some (.row 35 2 (cxRows (fillL n (fun _ => (a, b)) i)))), (0, some (.box [.int a, .int b]))], 3⟩) n ?_ (fun i hi K hK => ?_) (fun K => ?_)
  · refine weak_of (fun l => l) rfl ?_ ?_
    all_goals simp only [evA, evB, evT, Go.undef, aload, astore, afieldAddr, afield, aindex, aindexAddr, abuild, abuildSlice, amakeSlice, aslice, aext, alen, aminmax, minmaxGo, aappend, newsOf, buildCells, cutRows, reps, setCells, AV.cells, allOne, AV.one, Value.oneCell', AV.pure, allPure, AV.free, allFree, rowsFree, Nat.reduceBEq, Nat.reduceAdd, Nat.reduceMul, Nat.reduceSub, Nat.reduceLT, Nat.reduceLeDiff, Int.reduceToNat, reduceIte, reduceCtorEq, Int.reduceLT, Int.reduceLE, Nat.reduceEqDiff, Int.reduceEq, Int.reduceNeg, Int.reduceMul, Int.reduceAdd, Int.reduceSub, Int.reduceBNe, Int.reduceBEq, apart, bnd, cx_free, Int.natCast_zero, hzr, fillL_zero, hzf, List.length_replicate]
  · have q0 : (i : Int) < (n : Int) := by omega
    have q1 : IntKind.i64.wrap ((i : Int) + 1) = ((i + 1 : Nat) : Int) := by rw [wr (by omega)]; omega
    have q2 : (0 : Int) ≤ (i : Int) := by omega
    have hset : (fillL n (fun _ => (a, b)) i).set i (a, b) = fillL n (fun _ => (a, b)) (i + 1) := fillL_set hi
    simp only [evA, evB, evT, Go.undef, aload, astore, afieldAddr, afield, aindex, aindexAddr, abuild, abuildSlice, amakeSlice, aslice, aext, alen, aminmax, minmaxGo, aappend, newsOf, buildCells, cutRows, reps, setCells, AV.cells, allOne, AV.one, Value.oneCell', AV.pure, allPure, AV.free, allFree, rowsFree, Nat.reduceBEq, Nat.reduceAdd, Nat.reduceMul, Nat.reduceSub, Nat.reduceLT, Nat.reduceLeDiff, Int.reduceToNat, reduceIte, reduceCtorEq, Int.reduceLT, Int.reduceLE, Nat.reduceEqDiff, Int.reduceEq, Int.reduceNeg, Int.reduceMul, Int.reduceAdd, Int.reduceSub, Int.reduceBNe, Int.reduceBEq, apart, bnd, q0, q1, q2, cx_len, fillL_len, Int.toNat_natCast, cx_at, hi, cx_set, hset]
    refine hK _ (weak_of (fun l => l) rfl ?_ ?_)
    all_goals simp only [evA, evB, evT, Go.undef, aload, astore, afieldAddr, afield, aindex, aindexAddr, abuild, abuildSlice, amakeSlice, aslice, aext, alen, aminmax, minmaxGo, aappend, newsOf, buildCells, cutRows, reps, setCells, AV.cells, allOne, AV.one, Value.oneCell', AV.pure, allPure, AV.free, allFree, rowsFree, Nat.reduceBEq, Nat.reduceAdd, Nat.reduceMul, Nat.reduceSub, Nat.reduceLT, Nat.reduceLeDiff, Int.reduceToNat, reduceIte, reduceCtorEq, Int.reduceLT, Int.reduceLE, Nat.reduceEqDiff, Int.reduceEq, Int.reduceNeg, Int.reduceMul, Int.reduceAdd, Int.reduceSub, Int.reduceBNe, Int.reduceBEq, apart, bnd, cx_free]
  · have g0 : (0 : Int) < (n : Int) := by omega
    have g1 : 0 < n := by omega
    simp only [evA, evB, evT, Go.undef, aload, astore, afieldAddr, afield, aindex, aindexAddr, abuild, abuildSlice, amakeSlice, aslice, aext, alen, aminmax, minmaxGo, aappend, newsOf, buildCells, cutRows, reps, setCells, AV.cells, allOne, AV.one, Value.oneCell', AV.pure, allPure, AV.free, allFree, rowsFree, Nat.reduceBEq, Nat.reduceAdd, Nat.reduceMul, Nat.reduceSub, Nat.reduceLT, Nat.reduceLeDiff, Int.reduceToNat, reduceIte, reduceCtorEq, Int.reduceLT, Int.reduceLE, Nat.reduceEqDiff, Int.reduceEq, Int.reduceNeg, Int.reduceMul, Int.reduceAdd, Int.reduceSub, Int.reduceBNe, Int.reduceBEq, apart, bnd, g0, cx_len, List.length_replicate, Int.toNat_zero, cx_at, g1, cx_set, imp_set n (a, b) g1, fill_rep]
    refine wk_of ⟨[(12, .sl 2 (cxRows (List.replicate n (a, b)))), (13, .sl 2 (cxRows (impL (a, b) n))), (5, .loc 0 0), (2, .int f), (3, .int mode), (4, .bool inv), (11, .int (n : Int))], [(0, some (.box [.int a, .int b]))], 1⟩ (weak_of (fun l => l) rfl ?_ ?_) ?_
    · simp only [evA, evB, evT, Go.undef, aload, astore, afieldAddr, afield, aindex, aindexAddr, abuild, abuildSlice, amakeSlice, aslice, aext, alen, aminmax, minmaxGo, aappend, newsOf, buildCells, cutRows, reps, setCells, AV.cells, allOne, AV.one, Value.oneCell', AV.pure, allPure, AV.free, allFree, rowsFree, Nat.reduceBEq, Nat.reduceAdd, Nat.reduceMul, Nat.reduceSub, Nat.reduceLT, Nat.reduceLeDiff, Int.reduceToNat, reduceIte, reduceCtorEq, Int.reduceLT, Int.reduceLE, Nat.reduceEqDiff, Int.reduceEq, Int.reduceNeg, Int.reduceMul, Int.reduceAdd, Int.reduceSub, Int.reduceBNe, Int.reduceBEq, apart, bnd]
    · simp only [evA, evB, evT, Go.undef, aload, astore, afieldAddr, afield, aindex, aindexAddr, abuild, abuildSlice, amakeSlice, aslice, aext, alen, aminmax, minmaxGo, aappend, newsOf, buildCells, cutRows, reps, setCells, AV.cells, allOne, AV.one, Value.oneCell', AV.pure, allPure, AV.free, allFree, rowsFree, Nat.reduceBEq, Nat.reduceAdd, Nat.reduceMul, Nat.reduceSub, Nat.reduceLT, Nat.reduceLeDiff, Int.reduceToNat, reduceIte, reduceCtorEq, Int.reduceLT, Int.reduceLE, Nat.reduceEqDiff, Int.reduceEq, Int.reduceNeg, Int.reduceMul, Int.reduceAdd, Int.reduceSub, Int.reduceBNe, Int.reduceBEq, apart, bnd, cx_free]
    simp only [evA, evB, evT, Go.undef, aload, astore, afieldAddr, afield, aindex, aindexAddr, abuild, abuildSlice, amakeSlice, aslice, aext, alen, aminmax, minmaxGo, aappend, newsOf, buildCells, cutRows, reps, setCells, AV.cells, allOne, AV.one, Value.oneCell', AV.pure, allPure, AV.free, allFree, rowsFree, Nat.reduceBEq, Nat.reduceAdd, Nat.reduceMul, Nat.reduceSub, Nat.reduceLT, Nat.reduceLeDiff, Int.reduceToNat, reduceIte, reduceCtorEq, Int.reduceLT, Int.reduceLE, Nat.reduceEqDiff, Int.reduceEq, Int.reduceNeg, Int.reduceMul, Int.reduceAdd, Int.reduceSub, Int.reduceBNe, Int.reduceBEq, apart, bnd, cx_free]
    refine call_ok R1 (by simp only [evA, evT, Go.undef, aload, astore, afieldAddr, afield, aindex, aindexAddr, abuild, abuildSlice, amakeSlice, aslice, aext, alen, aminmax, minmaxGo, aappend, newsOf, buildCells, cutRows, reps, setCells, AV.cells, allOne, AV.one, Value.oneCell', AV.pure, allPure, AV.free, allFree, rowsFree, Nat.reduceBEq, Nat.reduceAdd, Nat.reduceMul, Nat.reduceSub, Nat.reduceLT, Nat.reduceLeDiff, Int.reduceToNat, reduceIte, reduceCtorEq, Int.reduceLT, Int.reduceLE, Nat.reduceEqDiff, Int.reduceEq, Int.reduceNeg, Int.reduceMul, Int.reduceAdd, Int.reduceSub, Int.reduceBNe, Int.reduceBEq, apart, bnd, cx_free]) ?_
    simp only [evA, evB, evT, Go.undef, aload, astore, afieldAddr, afield, aindex, aindexAddr, abuild, abuildSlice, amakeSlice, aslice, aext, alen, aminmax, minmaxGo, aappend, newsOf, buildCells, cutRows, reps, setCells, AV.cells, allOne, AV.one, Value.oneCell', AV.pure, allPure, AV.free, allFree, rowsFree, Nat.reduceBEq, Nat.reduceAdd, Nat.reduceMul, Nat.reduceSub, Nat.reduceLT, Nat.reduceLeDiff, Int.reduceToNat, reduceIte, reduceCtorEq, Int.reduceLT, Int.reduceLE, Nat.reduceEqDiff, Int.reduceEq, Int.reduceNeg, Int.reduceMul, Int.reduceAdd, Int.reduceSub, Int.reduceBNe, Int.reduceBEq, apart, bnd, cx_free]
    refine call_ok R2 (by simp only [evA, evT, Go.undef, aload, astore, afieldAddr, afield, aindex, aindexAddr, abuild, abuildSlice, amakeSlice, aslice, aext, alen, aminmax, minmaxGo, aappend, newsOf, buildCells, cutRows, reps, setCells, AV.cells, allOne, AV.one, Value.oneCell', AV.pure, allPure, AV.free, allFree, rowsFree, Nat.reduceBEq, Nat.reduceAdd, Nat.reduceMul, Nat.reduceSub, Nat.reduceLT, Nat.reduceLeDiff, Int.reduceToNat, reduceIte, reduceCtorEq, Int.reduceLT, Int.reduceLE, Nat.reduceEqDiff, Int.reduceEq, Int.reduceNeg, Int.reduceMul, Int.reduceAdd, Int.reduceSub, Int.reduceBNe, Int.reduceBEq, apart, bnd, cx_free]) ?_
    have hx0 := cx_getD (xs := impL (a, b) n) (i := 0) (by rw [impL_len]; exact g1)
    rw [impL_get g1, if_pos rfl] at hx0
    simp only [evA, evB, evT, Go.undef, aload, astore, afieldAddr, afield, aindex, aindexAddr, abuild, abuildSlice, amakeSlice, aslice, aext, alen, aminmax, minmaxGo, aappend, newsOf, buildCells, cutRows, reps, setCells, AV.cells, allOne, AV.one, Value.oneCell', AV.pure, allPure, AV.free, allFree, rowsFree, Nat.reduceBEq, Nat.reduceAdd, Nat.reduceMul, Nat.reduceSub, Nat.reduceLT, Nat.reduceLeDiff, Int.reduceToNat, reduceIte, reduceCtorEq, Int.reduceLT, Int.reduceLE, Nat.reduceEqDiff, Int.reduceEq, Int.reduceNeg, Int.reduceMul, Int.reduceAdd, Int.reduceSub, Int.reduceBNe, Int.reduceBEq, apart, bnd, cx_free, cx_len, impL_len, lY, g0, Int.toNat_zero, hx0]
    refine call_ok alive12.ok rfl ?_
    simp only [evA, evB, evT, Go.undef, aload, astore, afieldAddr, afield, aindex, aindexAddr, abuild, abuildSlice, amakeSlice, aslice, aext, alen, aminmax, minmaxGo, aappend, newsOf, buildCells, cutRows, reps, setCells, AV.cells, allOne, AV.one, Value.oneCell', AV.pure, allPure, AV.free, allFree, rowsFree, Nat.reduceBEq, Nat.reduceAdd, Nat.reduceMul, Nat.reduceSub, Nat.reduceLT, Nat.reduceLeDiff, Int.reduceToNat, reduceIte, reduceCtorEq, Int.reduceLT, Int.reduceLE, Nat.reduceEqDiff, Int.reduceEq, Int.reduceNeg, Int.reduceMul, Int.reduceAdd, Int.reduceSub, Int.reduceBNe, Int.reduceBEq, apart, bnd, cx_free, cx_len, lY]
    refine l_inv (fun i => ⟨[(109, .int i), (108, .int (n : Int)), (107, .sl 2 (cxRows Y)), (15, .sl 2 (cxRows (impL (a, b) n))), (5, .loc 0 0), (11, .int (n : Int))], [(0, some (.box [.int a, .int b]))], 1⟩) n ?_ (fun i hi K hK => ?_) (fun K => ?_)
    · refine weak_of (fun l => l) rfl ?_ ?_
      all_goals simp only [evA, evB, evT, Go.undef, aload, astore, afieldAddr, afield, aindex, aindexAddr, abuild, abuildSlice, amakeSlice, aslice, aext, alen, aminmax, minmaxGo, aappend, newsOf, buildCells, cutRows, reps, setCells, AV.cells, allOne, AV.one, Value.oneCell', AV.pure, allPure, AV.free, allFree, rowsFree, Nat.reduceBEq, Nat.reduceAdd, Nat.reduceMul, Nat.reduceSub, Nat.reduceLT, Nat.reduceLeDiff, Int.reduceToNat, reduceIte, reduceCtorEq, Int.reduceLT, Int.reduceLE, Nat.reduceEqDiff, Int.reduceEq, Int.reduceNeg, Int.reduceMul, Int.reduceAdd, Int.reduceSub, Int.reduceBNe, Int.reduceBEq, apart, bnd, cx_free, Int.natCast_zero]
    · have q0 : (i : Int) < (n : Int) := by omega
      have q1 : IntKind.i64.wrap ((i : Int) + 1) = ((i + 1 : Nat) : Int) := by rw [wr (by omega)]; omega
      have q2 : (0 : Int) ≤ (i : Int) := by omega
      have hyi := cx_getD (xs := Y) (i := i) (by omega)
      have hxi := cx_getD (xs := impL (a, b) n) (i := i) (by rw [impL_len]; exact hi)
      rw [impL_get hi] at hxi
      have hN := hY i hi
      unfold nearA at hN
      dsimp only at hN
      rw [Int.mul_comm (n : Int) (Y.getD i (0, 0)).1, Int.mul_comm (n : Int) (Y.getD i (0, 0)).2] at hN
      generalize hre : (Y.getD i (0, 0)).1 * (n : Int) = re at *
      generalize him : (Y.getD i (0, 0)).2 * (n : Int) = im at *
      have r1 : IntKind.i64.wrap re = re := wr (by omega)
      have r2 : IntKind.i64.wrap im = im := wr (by omega)
      have r3 : IntKind.i64.wrap (re - a) = re - a := wr (by omega)
      have r4 : IntKind.i64.wrap (im - b) = im - b := wr (by omega)
      have r5 : IntKind.i64.wrap (0 - (re - a)) = -(re - a) := by rw [wr (by omega)]; omega
      have r6 : IntKind.i64.wrap (0 - (im - b)) = -(im - b) := by rw [wr (by omega)]; omega
      have r7 : IntKind.i64.wrap (2 * (n : Int)) = 2 * (n : Int) := wr (by omega)
      have tmx : ¬ (2 * (n : Int) < if (if (if re - a < -(re - a) then -(re - a) else re - a) < im - b then im - b else if re - a < -(re - a) then -(re - a) else re - a) < -(im - b) then -(im - b) else if (if re - a < -(re - a) then -(re - a) else re - a) < im - b then im - b else if re - a < -(re - a) then -(re - a) else re - a) := by
        split <;> (try split) <;> (try split) <;> omega
      by_cases h0 : i = 0
      · subst h0
        simp only [evA, evB, evT, Go.undef, aload, astore, afieldAddr, afield, aindex, aindexAddr, abuild, abuildSlice, amakeSlice, aslice, aext, alen, aminmax, minmaxGo, aappend, newsOf, buildCells, cutRows, reps, setCells, AV.cells, allOne, AV.one, Value.oneCell', AV.pure, allPure, AV.free, allFree, rowsFree, Nat.reduceBEq, Nat.reduceAdd, Nat.reduceMul, Nat.reduceSub, Nat.reduceLT, Nat.reduceLeDiff, Int.reduceToNat, reduceIte, reduceCtorEq, Int.reduceLT, Int.reduceLE, Nat.reduceEqDiff, Int.reduceEq, Int.reduceNeg, Int.reduceMul, Int.reduceAdd, Int.reduceSub, Int.reduceBNe, Int.reduceBEq, apart, bnd, q0, q1, q2, cx_len, impL_len, lY, Int.toNat_natCast, hyi, hxi, hre, him, r1, r2, r3, r4, r5, r6, r7, tmx, Int.natCast_zero, g0]
        refine hK _ (weak_of (fun l => l) rfl ?_ ?_)
        all_goals simp only [evA, evB, evT, Go.undef, aload, astore, afieldAddr, afield, aindex, aindexAddr, abuild, abuildSlice, amakeSlice, aslice, aext, alen, aminmax, minmaxGo, aappend, newsOf, buildCells, cutRows, reps, setCells, AV.cells, allOne, AV.one, Value.oneCell', AV.pure, allPure, AV.free, allFree, rowsFree, Nat.reduceBEq, Nat.reduceAdd, Nat.reduceMul, Nat.reduceSub, Nat.reduceLT, Nat.reduceLeDiff, Int.reduceToNat, reduceIte, reduceCtorEq, Int.reduceLT, Int.reduceLE, Nat.reduceEqDiff, Int.reduceEq, Int.reduceNeg, Int.reduceMul, Int.reduceAdd, Int.reduceSub, Int.reduceBNe, Int.reduceBEq, apart, bnd, cx_free, Nat.zero_add, Int.natCast_one]
      · have p0 : (0 : Int) < (i : Int) := by omega
        rw [if_neg h0] at hxi
        simp only [evA, evB, evT, Go.undef, aload, astore, afieldAddr, afield, aindex, aindexAddr, abuild, abuildSlice, amakeSlice, aslice, aext, alen, aminmax, minmaxGo, aappend, newsOf, buildCells, cutRows, reps, setCells, AV.cells, allOne, AV.one, Value.oneCell', AV.pure, allPure, AV.free, allFree, rowsFree, Nat.reduceBEq, Nat.reduceAdd, Nat.reduceMul, Nat.reduceSub, Nat.reduceLT, Nat.reduceLeDiff, Int.reduceToNat, reduceIte, reduceCtorEq, Int.reduceLT, Int.reduceLE, Nat.reduceEqDiff, Int.reduceEq, Int.reduceNeg, Int.reduceMul, Int.reduceAdd, Int.reduceSub, Int.reduceBNe, Int.reduceBEq, apart, bnd, q0, q1, q2, p0, cx_len, impL_len, lY, Int.toNat_natCast, hyi, hxi, hre, him, r1, r2, r3, r4, r5, r6, r7, tmx]
        refine hK _ (weak_of (fun l => l) rfl ?_ ?_)
        all_goals simp only [evA, evB, evT, Go.undef, aload, astore, afieldAddr, afield, aindex, aindexAddr, abuild, abuildSlice, amakeSlice, aslice, aext, alen, aminmax, minmaxGo, aappend, newsOf, buildCells, cutRows, reps, setCells, AV.cells, allOne, AV.one, Value.oneCell', AV.pure, allPure, AV.free, allFree, rowsFree, Nat.reduceBEq, Nat.reduceAdd, Nat.reduceMul, Nat.reduceSub, Nat.reduceLT, Nat.reduceLeDiff, Int.reduceToNat, reduceIte, reduceCtorEq, Int.reduceLT, Int.reduceLE, Nat.reduceEqDiff, Int.reduceEq, Int.reduceNeg, Int.reduceMul, Int.reduceAdd, Int.reduceSub, Int.reduceBNe, Int.reduceBEq, apart, bnd, cx_free]
    · simp only [evA, evB, evT, Go.undef, aload, astore, afieldAddr, afield, aindex, aindexAddr, abuild, abuildSlice, amakeSlice, aslice, aext, alen, aminmax, minmaxGo, aappend, newsOf, buildCells, cutRows, reps, setCells, AV.cells, allOne, AV.one, Value.oneCell', AV.pure, allPure, AV.free, allFree, rowsFree, Nat.reduceBEq, Nat.reduceAdd, Nat.reduceMul, Nat.reduceSub, Nat.reduceLT, Nat.reduceLeDiff, Int.reduceToNat, reduceIte, reduceCtorEq, Int.reduceLT, Int.reduceLE, Nat.reduceEqDiff, Int.reduceEq, Int.reduceNeg, Int.reduceMul, Int.reduceAdd, Int.reduceSub, Int.reduceBNe, Int.reduceBEq, apart, bnd]
end Go.Proofs.YtnnjjblgilibgaaV

import Derived.Test.YtnnjjblgilibgaaGreatVlC
/- The split transform by the code. -/
namespace Go.Proofs.YtnnjjblgilibgaaGreatV
open Go Go.RowKit
set_option linter.unusedVariables false
set_option linter.unusedSimpArgs false
set_option maxRecDepth 100000
set_option maxHeartbeats 40000000
theorem fine77 : Fine Tryz.prog 77 := fun _ _ => by kernel_rfl
theorem proot.ok (ws : List (Int × Int)) (inv : Bool) (B mode : Int) (k : Nat) (hk : k < ws.length) (h : win 2305843009213693952 (ws.getD k (0, 0)).1 (ws.getD k (0, 0)).2) : Ok Tryz.prog 113 [.agg [.sl 2 (cxRows ws), .int B, .int mode, .int (tn inv)], .int k] (cxA (rootV ws inv k).1 (rootV ws inv k).2) := by
  have h1 : (k : Int) < ws.length := by omega
  have h2 : (0 : Int) ≤ k := by omega
  have hx := cx_getD hk
  refine ok_of (X := fun _ => []) (Z := fun _ => false) (res := [ResultVar.cell 4 43]) tok follows Tryz.func113 rfl rfl fine113 (by kernel_rfl) (by kernel_rfl) ?_
  unfold rootV tn
  cases inv
  · simp only [evA, evT, evD, seval, cx_free, cx_len, h1, h2, Int.toNat_natCast, hx]
  · simp only [evA, evT, evD, seval, cx_free, cx_len, h1, h2, Int.toNat_natCast, hx]
    refine call_ok (Conj.ok _ _ h) rfl ?_
    simp only [evA, evT, evD, seval]
/-- What is joined so far. -/
def mixL (v : Nat → Nat → Int × Int) (h k : Nat) : List (Int × Int) := (List.range (4 * h)).map fun p => if p % h < k then v (p % h) (p / h) else (0, 0)
theorem mixL_len {v : Nat → Nat → Int × Int} {h k : Nat} : (mixL v h k).length = 4 * h := by simp [mixL]
theorem mixL_zero (v : Nat → Nat → Int × Int) (h : Nat) : mixL v h 0 = List.replicate (4 * h) (0, 0) := by
  refine List.ext_getElem (by simp [mixL]) fun i h1 h2 => ?_
  simp [mixL]
theorem mixL_all (v : Nat → Nat → Int × Int) (h : Nat) : mixL v h h = (List.range (4 * h)).map fun p => v (p % h) (p / h) := by
  refine List.ext_getElem (by simp [mixL]) fun i h1 h2 => ?_
  have hi : i < 4 * h := by simpa [mixL] using h1
  have : i % h < h := Nat.mod_lt _ (by omega)
  simp [mixL, this]
theorem mixL_step (v : Nat → Nat → Int × Int) (h k : Nat) (hk : k < h) : ((((mixL v h k).set k (v k 0)).set (h + k) (v k 1)).set (2 * h + k) (v k 2)).set (3 * h + k) (v k 3) = mixL v h (k + 1) := by
  refine List.ext_getElem (by simp [mixL]) fun i h1 h2 => ?_
  have hi : i < 4 * h := by simpa [mixL] using h2
  have hd := Nat.div_add_mod i h
  have hm : i % h < h := Nat.mod_lt _ (by omega)
  have hq : i / h < 4 := Nat.div_lt_of_lt_mul (by rw [Nat.mul_comm]; exact hi)
  simp only [List.getElem_set, mixL, List.getElem_map, List.getElem_range]
  generalize hqq : i / h = q at *
  generalize hrr : i % h = r at *
  have hcase : q = 0 ∨ q = 1 ∨ q = 2 ∨ q = 3 := by omega
  rcases hcase with rfl | rfl | rfl | rfl
  · have hi2 : i = r := by omega
    by_cases e : r = k
    · subst e
      rw [if_neg (by omega), if_neg (by omega), if_neg (by omega), if_pos (by omega), if_pos (by omega)]
    · rw [if_neg (by omega), if_neg (by omega), if_neg (by omega), if_neg (by omega)]
      by_cases g : r < k
      · rw [if_pos g, if_pos (by omega)]
      · rw [if_neg g, if_neg (by omega)]
  · have hi2 : i = h + r := by omega
    by_cases e : r = k
    · subst e
      rw [if_neg (by omega), if_neg (by omega), if_pos (by omega), if_pos (by omega)]
    · rw [if_neg (by omega), if_neg (by omega), if_neg (by omega), if_neg (by omega)]
      by_cases g : r < k
      · rw [if_pos g, if_pos (by omega)]
      · rw [if_neg g, if_neg (by omega)]
  · have hi2 : i = 2 * h + r := by omega
    by_cases e : r = k
    · subst e
      rw [if_neg (by omega), if_pos (by omega), if_pos (by omega)]
    · rw [if_neg (by omega), if_neg (by omega), if_neg (by omega), if_neg (by omega)]
      by_cases g : r < k
      · rw [if_pos g, if_pos (by omega)]
      · rw [if_neg g, if_neg (by omega)]
  · have hi2 : i = 3 * h + r := by omega
    by_cases e : r = k
    · subst e
      rw [if_pos (by omega), if_pos (by omega)]
    · rw [if_neg (by omega), if_neg (by omega), if_neg (by omega), if_neg (by omega)]
      by_cases g : r < k
      · rw [if_pos g, if_pos (by omega)]
      · rw [if_neg g, if_neg (by omega)]
theorem bf_m (mode : Int) (a b : Int × Int) : bf mode (-1) a b = (rsh (a.1 - b.1) 1 mode, rsh (a.2 - b.2) 1 mode) := by
  unfold bf
  rw [show a.1 + -1 * b.1 = a.1 - b.1 by omega, show a.2 + -1 * b.2 = a.2 - b.2 by omega]
theorem bf_p (mode : Int) (a b : Int × Int) : bf mode 1 a b = (rsh (a.1 + b.1) 1 mode, rsh (a.2 + b.2) 1 mode) := by
  unfold bf
  rw [Int.one_mul, Int.one_mul]
theorem pow_s {j log : Nat} (h : j ≤ log) (hl : log ≤ 6) : 1 ≤ 2 ^ j ∧ 2 ^ j ≤ 64 := by
  have h2 : (2 : Nat) ^ j ≤ 2 ^ 6 := Nat.pow_le_pow_right (by decide) (by omega)
  have h1 := Nat.two_pow_pos j
  omega
theorem prun.ok (log : Nat) (inv : Bool) (B mode R0 : Int) (hB : 0 ≤ B ∧ B ≤ 29) (hm : 0 ≤ mode ∧ mode ≤ 2) (hlog : 2 ≤ log ∧ log ≤ 6) (hR0 : 0 ≤ R0) (hR : R0 + 48 ≤ 4 * 2 ^ B.toNat) : ∀ (j : Nat), j ≤ log → ∀ (xs : List (Int × Int)), xs.length = 2 ^ j → (∀ x ∈ xs, nrm x ≤ R0 * R0) →
    Ok Tryz.prog 77 [.agg [.sl 2 (cxRows (tabV log B)), .int B, .int mode, .int (tn inv)], .sl 2 (cxRows xs)] (.sl 2 (cxRows (runL (tabV log B) inv B mode j xs)))
  | 0, hj, xs, hlen, hx => by
    have e1 : (xs.length : Int) = 1 := by rw [hlen]; rfl
    refine ok_of (X := fun _ => []) (Z := fun _ => false) (res := [ResultVar.tmp 4]) tok follows Tryz.func77 rfl rfl fine77 (by kernel_rfl) (by kernel_rfl) ?_
    simp only [evA, evT, evD, seval, cx_free, cx_len, e1]
    rfl
  | 1, hj, xs, hlen, hx => by
    have hlen : xs.length = 2 := hlen
    have hp := pow29 hB
    have e1 : (xs.length : Int) = 2 := by rw [hlen]; rfl
    have g0 := cx_getD (xs := xs) (i := 0) (by omega)
    have g1 := cx_getD (xs := xs) (i := 1) (by omega)
    have n0 := nrm_comp (getD_nrm hx hR0 0) hR0
    have n1 := nrm_comp (getD_nrm hx hR0 1) hR0
    unfold win at n0 n1
    have w1 : IntKind.i64.wrap ((xs.getD 0 (0, 0)).1 + (xs.getD 1 (0, 0)).1) = (xs.getD 0 (0, 0)).1 + (xs.getD 1 (0, 0)).1 := wr (by omega)
    have w2 : IntKind.i64.wrap ((xs.getD 0 (0, 0)).2 + (xs.getD 1 (0, 0)).2) = (xs.getD 0 (0, 0)).2 + (xs.getD 1 (0, 0)).2 := wr (by omega)
    have w3 : IntKind.i64.wrap ((xs.getD 0 (0, 0)).1 - (xs.getD 1 (0, 0)).1) = (xs.getD 0 (0, 0)).1 - (xs.getD 1 (0, 0)).1 := wr (by omega)
    have w4 : IntKind.i64.wrap ((xs.getD 0 (0, 0)).2 - (xs.getD 1 (0, 0)).2) = (xs.getD 0 (0, 0)).2 - (xs.getD 1 (0, 0)).2 := wr (by omega)
    refine ok_of (X := fun _ => []) (Z := fun _ => false) (res := [ResultVar.tmp 4]) tok follows Tryz.func77 rfl rfl fine77 (by kernel_rfl) (by kernel_rfl) ?_
    simp only [evA, evT, evD, seval, cx_free, cx_len, e1, g0, g1, w1, w2, w3, w4, Int.toNat_one]
    refine call_ok (cxShift.ok _ _ 1 mode (by decide) hm (by unfold in64; omega) (by unfold in64; omega)) rfl ?_
    simp only [evA, evT, evD, seval, cx_free, cx_len, e1, g0, g1, w1, w2, w3, w4, Int.toNat_one]
    refine call_ok (cxShift.ok _ _ 1 mode (by decide) hm (by unfold in64; omega) (by unfold in64; omega)) rfl ?_
    simp only [evA, evT, evD, seval]
    rw [runL, bf_m, bf_p]
    rfl
  | j + 2, hj, xs, hlen, hx => by
    have hps := pow_s (j := j) (log := log) (by omega) hlog.2
    have hpl := pow_s (j := log) (log := log) (Nat.le_refl _) hlog.2
    have hp29 := pow29 hB
    obtain ⟨h, hh⟩ : ∃ h, 2 ^ j = h := ⟨_, rfl⟩
    have hj1 : (2 : Nat) ^ (j + 1) = 2 * h := by rw [Nat.pow_succ, hh]; omega
    have hj2 : (2 : Nat) ^ (j + 2) = 4 * h := by rw [Nat.pow_succ, hj1]; omega
    rw [hh] at hps
    rw [hj2] at hlen
    have hE := prun.ok log inv B mode R0 hB hm hlog hR0 hR (j + 1) (by omega) (evL xs 0 2 (2 ^ (j + 1))) evL_len (evL_nrm hx hR0 _ _ _)
    have hF := prun.ok log inv B mode R0 hB hm hlog hR0 hR j (by omega) (evL xs 1 4 (2 ^ j)) evL_len (evL_nrm hx hR0 _ _ _)
    have hG := prun.ok log inv B mode R0 hB hm hlog hR0 hR j (by omega) (evL xs 3 4 (2 ^ j)) evL_len (evL_nrm hx hR0 _ _ _)
    have lE := runL_len (tabV log B) inv B mode (j + 1) (evL xs 0 2 (2 ^ (j + 1))) evL_len
    have lF := runL_len (tabV log B) inv B mode j (evL xs 1 4 (2 ^ j)) evL_len
    have lG := runL_len (tabV log B) inv B mode j (evL xs 3 4 (2 ^ j)) evL_len
    have nE := runL_nrm log inv B mode R0 hB hlog.2 hR0 (j + 1) (evL xs 0 2 (2 ^ (j + 1))) (by omega) (evL_nrm hx hR0 _ _ _)
    have nF := runL_nrm log inv B mode R0 hB hlog.2 hR0 j (evL xs 1 4 (2 ^ j)) (by omega) (evL_nrm hx hR0 _ _ _)
    have nG := runL_nrm log inv B mode R0 hB hlog.2 hR0 j (evL xs 3 4 (2 ^ j)) (by omega) (evL_nrm hx hR0 _ _ _)
    have hrun : runL (tabV log B) inv B mode (j + 2) xs = (List.range (4 * h)).map fun p => spV (tabV log B) inv B mode j (runL (tabV log B) inv B mode (j + 1) (evL xs 0 2 (2 ^ (j + 1)))) (runL (tabV log B) inv B mode j (evL xs 1 4 (2 ^ j))) (runL (tabV log B) inv B mode j (evL xs 3 4 (2 ^ j))) (p % h) (p / h) := by
      rw [runL, hj2, hh]
    rw [hrun, ← mixL_all]
    have sE : OkSeq Tryz.prog 144 [.box [.int 0] 0, .box [.sl 2 (cxRows xs)] 0, .box [.int 2] 0] (fun x : Int × Int => [cxA x.1 x.2]) (evL xs 0 2 (2 ^ (j + 1))) (evL xs 0 2 (2 ^ (j + 1))).length := by
      rw [evL_len]
      exact every.seq xs 0 2 (2 ^ (j + 1)) (by omega) (by omega) (by omega) (fun i hi => by omega) (by omega) (by omega)
    have sF : OkSeq Tryz.prog 144 [.box [.int 1] 0, .box [.sl 2 (cxRows xs)] 0, .box [.int 4] 0] (fun x : Int × Int => [cxA x.1 x.2]) (evL xs 1 4 (2 ^ j)) (evL xs 1 4 (2 ^ j)).length := by
      rw [evL_len]
      exact every.seq xs 1 4 (2 ^ j) (by omega) (by omega) (by omega) (fun i hi => by omega) (by omega) (by omega)
    have sG : OkSeq Tryz.prog 144 [.box [.int 3] 0, .box [.sl 2 (cxRows xs)] 0, .box [.int 4] 0] (fun x : Int × Int => [cxA x.1 x.2]) (evL xs 3 4 (2 ^ j)) (evL xs 3 4 (2 ^ j)).length := by
      rw [evL_len]
      exact every.seq xs 3 4 (2 ^ j) (by omega) (by omega) (by omega) (fun i hi => by omega) (by omega) (by omega)
    have cE := ccollect.ok _ _ _ (fun e => by have := congrArg List.length e; rw [evL_len, List.length_nil] at this; omega) (by rw [evL_len]; omega) sE (by simp only [evA, evT, evD, seval, cx_free]) (fun k => by simp only [AV.lt, allLt, cx_lt]; rfl) (fun _ => by simp only [evA, evT, evD, seval, cx_free]) (fun _ => by simp only [evA, evT, evD, seval, cx_free])
    have cF := ccollect.ok _ _ _ (fun e => by have := congrArg List.length e; rw [evL_len, List.length_nil] at this; omega) (by rw [evL_len]; omega) sF (by simp only [evA, evT, evD, seval, cx_free]) (fun k => by simp only [AV.lt, allLt, cx_lt]; rfl) (fun _ => by simp only [evA, evT, evD, seval, cx_free]) (fun _ => by simp only [evA, evT, evD, seval, cx_free])
    have cG := ccollect.ok _ _ _ (fun e => by have := congrArg List.length e; rw [evL_len, List.length_nil] at this; omega) (by rw [evL_len]; omega) sG (by simp only [evA, evT, evD, seval, cx_free]) (fun k => by simp only [AV.lt, allLt, cx_lt]; rfl) (fun _ => by simp only [evA, evT, evD, seval, cx_free]) (fun _ => by simp only [evA, evT, evD, seval, cx_free])
    have hV : ∀ k q, spV (tabV log B) inv B mode j (runL (tabV log B) inv B mode (j + 1) (evL xs 0 2 (2 ^ (j + 1)))) (runL (tabV log B) inv B mode j (evL xs 1 4 (2 ^ j))) (runL (tabV log B) inv B mode j (evL xs 3 4 (2 ^ j))) k q = jV (tn inv) B mode ((runL (tabV log B) inv B mode (j + 1) (evL xs 0 2 (2 ^ (j + 1)))).getD k (0, 0)) ((runL (tabV log B) inv B mode (j + 1) (evL xs 0 2 (2 ^ (j + 1)))).getD (h + k) (0, 0)) ((runL (tabV log B) inv B mode j (evL xs 1 4 (2 ^ j))).getD k (0, 0)) ((runL (tabV log B) inv B mode j (evL xs 3 4 (2 ^ j))).getD k (0, 0)) (rootV (tabV log B) inv (k * ((tabV log B).length / (4 * h)))) (rootV (tabV log B) inv (3 * k * ((tabV log B).length / (4 * h)))) q := fun k q => by
      unfold spV
      rw [hj2, hh]
    generalize spV (tabV log B) inv B mode j (runL (tabV log B) inv B mode (j + 1) (evL xs 0 2 (2 ^ (j + 1)))) (runL (tabV log B) inv B mode j (evL xs 1 4 (2 ^ j))) (runL (tabV log B) inv B mode j (evL xs 3 4 (2 ^ j))) = V at *
    generalize runL (tabV log B) inv B mode (j + 1) (evL xs 0 2 (2 ^ (j + 1))) = E at *
    generalize runL (tabV log B) inv B mode j (evL xs 1 4 (2 ^ j)) = F at *
    generalize runL (tabV log B) inv B mode j (evL xs 3 4 (2 ^ j)) = G at *
    have lW : (tabV log B).length = 2 ^ log := tabS_len
    have z0 : ¬ (xs.length : Int) = 1 := by omega
    have z1 : ¬ (xs.length : Int) = 2 := by omega
    have z2 : (0 : Int) ≤ xs.length := by omega
    have z3 : 16 * (xs.length : Int) ≤ 281474976710656 := by omega
    have z4 : (xs.length : Int) ≤ 9223372036854775807 := by omega
    have z5 : ¬ (xs.length : Int) = 0 := by omega
    refine ok_of (X := fun _ => []) (Z := fun _ => false) (res := [ResultVar.tmp 4]) tok follows Tryz.func77 rfl rfl fine77 (by kernel_rfl) (by kernel_rfl) ?_
    simp only [evA, evB, evT, evD, seval, cx_free, cx_len, z0, z1]
    refine call_ok (every.ok xs 0 2) (by simp only [evA, evT, evD, seval, cx_free]) ?_
    simp only [evA, evB, evT, evD, seval, cx_free, cx_len]
    refine call_ok cE (by simp only [evA, evT, evD, seval, cx_free]) ?_
    simp only [evA, evB, evT, evD, seval, cx_free, cx_len]
    refine call_ok hE (by simp only [evA, evT, evD, seval, cx_free]) ?_
    simp only [evA, evB, evT, evD, seval, cx_free, cx_len]
    refine call_ok (every.ok xs 1 4) (by simp only [evA, evT, evD, seval, cx_free]) ?_
    simp only [evA, evB, evT, evD, seval, cx_free, cx_len]
    refine call_ok cF (by simp only [evA, evT, evD, seval, cx_free]) ?_
    simp only [evA, evB, evT, evD, seval, cx_free, cx_len]
    refine call_ok hF (by simp only [evA, evT, evD, seval, cx_free]) ?_
    simp only [evA, evB, evT, evD, seval, cx_free, cx_len]
    refine call_ok (every.ok xs 3 4) (by simp only [evA, evT, evD, seval, cx_free]) ?_
    simp only [evA, evB, evT, evD, seval, cx_free, cx_len]
    refine call_ok cG (by simp only [evA, evT, evD, seval, cx_free]) ?_
    simp only [evA, evB, evT, evD, seval, cx_free, cx_len]
    refine call_ok hG (by simp only [evA, evT, evD, seval, cx_free]) ?_
    simp only [evA, evB, evT, evD, seval, cx_free, cx_len, z2, z3, z4, z5, Int.toNat_natCast]
    obtain ⟨bb, hbb⟩ : ∃ bb, (tabV log B).length / (4 * h) = bb := ⟨_, rfl⟩
    rw [hbb] at hV
    have hbn : 4 * h * bb ≤ 2 ^ log := by rw [← hbb, lW]; exact Nat.mul_div_le _ _
    have hb64 : bb ≤ 64 := by
      have : bb ≤ 2 ^ log := by rw [← hbb, lW]; exact Nat.div_le_self _ _
      omega
    have b1 : IntKind.i64.wrap ((xs.length : Int).tdiv 4) = (h : Int) := by
      rw [Int.tdiv_eq_ediv_of_nonneg (by omega), wr (by omega)]
      omega
    have b2 : IntKind.i64.wrap (((tabV log B).length : Int).tdiv (xs.length : Int)) = (bb : Int) := by
      rw [Int.tdiv_eq_ediv_of_nonneg (by omega), hlen, ← hbb, wr (by rw [← Int.natCast_ediv]; have := Nat.div_le_self (tabV log B).length (4 * h); omega), Int.natCast_ediv]
    simp only [b1, b2]
    have hW0 : ∀ k, win (2 ^ B.toNat) ((tabV log B).getD k (0, 0)).1 ((tabV log B).getD k (0, 0)).2 := fun k => by
      rcases Nat.lt_or_ge k (2 ^ log) with hk | hk
      · rw [tabS_get hk]
        exact rW_le log k B hlog.2 (by omega)
      · rw [List.getD_eq_getElem?_getD, List.getElem?_eq_none (by rw [tabS_len]; exact hk)]
        show win _ 0 0
        unfold win
        omega
    have hWn : ∀ k, win (2 ^ B.toNat) (rootV (tabV log B) inv k).1 (rootV (tabV log B) inv k).2 := fun k => by
      have := hW0 k
      unfold rootV
      generalize (tabV log B).getD k (0, 0) = x at *
      unfold win at *
      cases inv
      · exact this
      · simp only [if_true]
        omega
    have hWb : ∀ k, win 2305843009213693952 ((tabV log B).getD k (0, 0)).1 ((tabV log B).getD k (0, 0)).2 := fun k => by
      have := hW0 k
      generalize (tabV log B).getD k (0, 0) = x at *
      unfold win at *
      omega
    have hwinE : ∀ k, win 2147483648 (E.getD k (0, 0)).1 (E.getD k (0, 0)).2 := fun k => by
      have := nrm_comp (getD_nrm nE (by omega) k) (by omega)
      unfold win at *
      omega
    have hwinF : ∀ k, win 2147483648 (F.getD k (0, 0)).1 (F.getD k (0, 0)).2 := fun k => by
      have := nrm_comp (getD_nrm nF (by omega) k) (by omega)
      unfold win at *
      omega
    have hwinG : ∀ k, win 2147483648 (G.getD k (0, 0)).1 (G.getD k (0, 0)).2 := fun k => by
      have := nrm_comp (getD_nrm nG (by omega) k) (by omega)
      unfold win at *
      omega
    refine l_inv (fun i => ⟨[(103, .int i), (102, .int h), (14, .int bb), (13, .own 1), (12, .sl 2 (cxRows G)), (11, .sl 2 (cxRows F)), (10, .sl 2 (cxRows E)), (5, .int xs.length), (2, .loc 0 0)], [(1, some (.row 43 2 (cxRows (mixL V h i)))), (0, some (.box [.sl 2 (cxRows (tabV log B)), .int B, .int mode, .int (tn inv)]))], 2⟩) h ?_ (fun i hi K hK => ?_) (fun K => ?_)
    · refine weak_of (fun l => l) rfl ?_ ?_
      all_goals simp only [evA, evB, evT, evD, seval, cx_free, Int.natCast_zero]
      exact .inl (by rw [mixL_zero, ← hlen]; simp [cxRows])
    · have q0 : (i : Int) < (h : Int) := by omega
      have q1 : IntKind.i64.wrap ((i : Int) + 1) = ((i + 1 : Nat) : Int) := by rw [wr (by omega)]; omega
      have q2 : (0 : Int) ≤ (i : Int) := by omega
      have q3 : IntKind.i64.wrap ((h : Int) + (i : Int)) = ((h + i : Nat) : Int) := by rw [wr (by omega)]; omega
      have q4 : (0 : Int) ≤ ((h + i : Nat) : Int) := by omega
      have hib : i * bb ≤ 64 * 64 := Nat.mul_le_mul (by omega) hb64
      have q5 : IntKind.i64.wrap ((i : Int) * (bb : Int)) = ((i * bb : Nat) : Int) := by rw [← Int.natCast_mul, wr (by omega)]
      have q6 : IntKind.i64.wrap (3 * (i : Int)) = ((3 * i : Nat) : Int) := by rw [wr (by omega)]; omega
      have h3ib : 3 * i * bb ≤ 192 * 64 := Nat.mul_le_mul (by omega) hb64
      have q7 : IntKind.i64.wrap (((3 * i : Nat) : Int) * (bb : Int)) = ((3 * i * bb : Nat) : Int) := by rw [← Int.natCast_mul, wr (by omega)]
      have k0 : 4 * (i * bb) < 4 * h * bb ∨ bb = 0 := by
        rcases Nat.eq_zero_or_pos bb with e | e
        · exact .inr e
        · left
          rw [Nat.mul_assoc]
          exact Nat.mul_lt_mul_of_pos_left (Nat.mul_lt_mul_of_pos_right hi e) (by decide)
      have r1 : i * bb < (tabV log B).length := by
        rcases k0 with e | e
        · omega
        · rw [e, lW]; omega
      have r2 : 3 * i * bb < (tabV log B).length := by
        rcases k0 with e | e
        · rw [Nat.mul_assoc]; omega
        · rw [e, lW]; omega
      have x1 := cx_getD (xs := E) (i := i) (by omega)
      have x2 := cx_getD (xs := E) (i := h + i) (by omega)
      have x3 := cx_getD (xs := F) (i := i) (by omega)
      have x4 := cx_getD (xs := G) (i := i) (by omega)
      have y1 : (i : Int) < (E.length : Int) := by omega
      have y2 : ((h + i : Nat) : Int) < (E.length : Int) := by omega
      have y3 : (i : Int) < (F.length : Int) := by omega
      have y4 : (i : Int) < (G.length : Int) := by omega
      have hJ := join.ok (tabV log B) B mode (tn inv) (E.getD i (0, 0)) (E.getD (h + i) (0, 0)) (F.getD i (0, 0)) (G.getD i (0, 0)) (rootV (tabV log B) inv (i * bb)) (rootV (tabV log B) inv (3 * i * bb)) hB hm (hwinE _) (hwinE _) (hwinF _) (hwinG _) (hWn _) (hWn _)
      rw [← hV, ← hV, ← hV, ← hV] at hJ
      simp only [evA, evB, evT, evD, seval, q0, q2, q3, q4, q5, q6, q7, b1, cx_len, Int.toNat_natCast, x1, x2, x3, x4, y1, y2, y3, y4, cx_free]
      refine call_ok (proot.ok _ inv B mode (i * bb) r1 (hWb _)) rfl ?_
      simp only [evA, evB, evT, evD, seval, q0, q2, q3, q4, q5, q6, q7, b1, cx_len, Int.toNat_natCast, x1, x2, x3, x4, y1, y2, y3, y4, cx_free]
      refine call_ok (proot.ok _ inv B mode (3 * i * bb) r2 (hWb _)) rfl ?_
      simp only [evA, evB, evT, evD, seval, q0, q2, q3, q4, q5, q6, q7, b1, cx_len, Int.toNat_natCast, x1, x2, x3, x4, y1, y2, y3, y4, cx_free]
      refine call_ok hJ rfl ?_
      simp only [evA, evB, evT, evD, seval]
      have p0 : IntKind.i64.wrap (0 * (xs.length : Int)) = 0 := by rw [Int.zero_mul]; rfl
      have p1 : IntKind.i64.wrap (1 * (xs.length : Int)) = (xs.length : Int) := by rw [Int.one_mul]; exact wr (by omega)
      have p2 : IntKind.i64.wrap (2 * (xs.length : Int)) = 2 * (xs.length : Int) := wr (by omega)
      have p3 : IntKind.i64.wrap (3 * (xs.length : Int)) = 3 * (xs.length : Int) := wr (by omega)
      have c0 : IntKind.i64.wrap ((0 : Int).tdiv 4) = 0 := rfl
      have c2 : IntKind.i64.wrap ((2 * (xs.length : Int)).tdiv 4) = ((2 * h : Nat) : Int) := by
        rw [Int.tdiv_eq_ediv_of_nonneg (by omega), wr (by omega)]
        omega
      have c3 : IntKind.i64.wrap ((3 * (xs.length : Int)).tdiv 4) = ((3 * h : Nat) : Int) := by
        rw [Int.tdiv_eq_ediv_of_nonneg (by omega), wr (by omega)]
        omega
      have o0 : IntKind.i64.wrap (0 + (i : Int)) = (i : Int) := by rw [Int.zero_add]; exact wr (by omega)
      have o2 : IntKind.i64.wrap (((2 * h : Nat) : Int) + (i : Int)) = ((2 * h + i : Nat) : Int) := by rw [wr (by omega)]; omega
      have o3 : IntKind.i64.wrap (((3 * h : Nat) : Int) + (i : Int)) = ((3 * h + i : Nat) : Int) := by rw [wr (by omega)]; omega
      have u2 : (0 : Int) ≤ ((2 * h + i : Nat) : Int) := by omega
      have u3 : (0 : Int) ≤ ((3 * h + i : Nat) : Int) := by omega
      have d0 : (i : Int) < ((4 * h : Nat) : Int) := by omega
      have d1 : ((h + i : Nat) : Int) < ((4 * h : Nat) : Int) := by omega
      have d2 : ((2 * h + i : Nat) : Int) < ((4 * h : Nat) : Int) := by omega
      have d3 : ((3 * h + i : Nat) : Int) < ((4 * h : Nat) : Int) := by omega
      have n0 : i < 4 * h := by omega
      have n1 : h + i < 4 * h := by omega
      have n2 : 2 * h + i < 4 * h := by omega
      have n3 : 3 * h + i < 4 * h := by omega
      refine ⟨5, l_succ ?_⟩
      simp only [evA, evB, evT, evD, seval, p0, c0, o0, q2, cx_len, mixL_len, List.length_set, d0, Int.toNat_natCast, n0, cx_at, cx_set]
      refine l_succ ?_
      simp only [evA, evB, evT, evD, seval, p1, b1, q3, q4, cx_len, mixL_len, List.length_set, d1, Int.toNat_natCast, n1, cx_at, cx_set]
      refine l_succ ?_
      simp only [evA, evB, evT, evD, seval, p2, c2, o2, u2, cx_len, mixL_len, List.length_set, d2, Int.toNat_natCast, n2, cx_at, cx_set]
      refine l_succ ?_
      simp only [evA, evB, evT, evD, seval, p3, c3, o3, u3, cx_len, mixL_len, List.length_set, d3, Int.toNat_natCast, n3, cx_at, cx_set]
      refine l_succ ?_
      simp only [evA, evB, evT, evD, seval, q1]
      rw [mixL_step V h i hi]
      refine hK _ (weak_of (fun l => l) rfl ?_ ?_)
      all_goals simp only [evA, evB, evT, evD, seval, cx_free]
    · simp only [evA, evB, evT, evD, seval, cx_free]
end Go.Proofs.YtnnjjblgilibgaaGreatV

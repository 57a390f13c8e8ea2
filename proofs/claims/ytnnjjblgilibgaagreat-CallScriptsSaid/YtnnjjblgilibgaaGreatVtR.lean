import Derived.Test.YtnnjjblgilibgaaGreatVtQ
/- Contracts: the document's pass of a block, and its whole. -/
namespace Go.Proofs.YtnnjjblgilibgaaGreatV
open Go Go.RowKit
set_option linter.unusedVariables false
set_option linter.unusedSimpArgs false
set_option maxRecDepth 100000
set_option maxHeartbeats 40000000
theorem nx_0 (f s m : Int) (inv : Bool) (log : Nat) (xs : List (Int × Int)) (e : Int) (sat : Bool) (sh : List Int) (p : Int × Int) (h : ¬ s = 2) : blkV (nxB f log s m inv ⟨xs, e, sat, sh⟩ p) = .agg [.sl 2 (cxRows (npV inv (fB f - 2) (psV f s p.1 xs) m xs (tabV log (fB f - 2)) p)), .int (e + psV f s p.1 xs), .bool sat, .sl 1 (intRows (sh ++ [psV f s p.1 xs]))] := by
  unfold nxB
  simp only [if_neg h]
theorem nx_2 (f m : Int) (inv : Bool) (log : Nat) (xs : List (Int × Int)) (e : Int) (sat : Bool) (sh : List Int) (p : Int × Int) : blkV (nxB f log 2 m inv ⟨xs, e, sat, sh⟩ p) = .agg [.sl 2 (cxRows (clL f (npV inv (fB f - 2) (psV f 2 p.1 xs) m xs (tabV log (fB f - 2)) p))), .int (e + psV f 2 p.1 xs), .bool (sat || !decide (npV inv (fB f - 2) (psV f 2 p.1 xs) m xs (tabV log (fB f - 2)) p = clL f (npV inv (fB f - 2) (psV f 2 p.1 xs) m xs (tabV log (fB f - 2)) p))), .sl 1 (intRows (sh ++ [psV f 2 p.1 xs]))] := by
  have hd : ∀ A B : List (Int × Int), (!decide (A = B)) = decide (¬ B = A) := fun A B => by
    rw [← decide_not]
    exact decide_eq_decide.2 (not_congr eq_comm)
  rw [hd]
  rfl
theorem in_oneT : ∀ (zs : List Int), allOne (intRows zs).flatten = true
  | [] => rfl
  | z :: r => by
    show allOne (.int z :: (intRows r).flatten) = true
    have := in_oneT r
    simp only [allOne, this, Bool.and_true]
    rfl
theorem Next15.ok (f k s m : Int) (inv : Bool) (log : Nat) (h : pOk f log k s m) (b : Blk) (hx : b.xs.length = 2 ^ log) (hn : nears (fM f) b.xs) (he : -1000 ≤ b.e ∧ b.e ≤ 1000) (hsh : b.sh.length ≤ 1000) (p : Int × Int) (hp : PassOf b.xs.length p) :
    Ok Tryz.prog 27 [blkV b, plV f log k s m inv, .agg [.int p.1, .int p.2]] (blkV (nxB f log s m inv b p)) := by
  obtain ⟨hf, hl, hk, hs, hm, hks⟩ := h
  have hf' : fmt f := by unfold fmt; omega
  have hl' : 2 ≤ log ∧ log ≤ 6 := by omega
  have hp64 := pow64F hl'
  have hlen := (lens_pow hl').1
  rw [← hx] at hlen
  have hB := fB_or f
  have htab := tab_near (log := log) (bits := fB f - 2) hl'.2 (by omega)
  have htl : (tabV log (fB f - 2)).length = b.xs.length := by rw [tabS_len, hx]
  have hll : b.xs.length ≤ 1000000 := by omega
  have hp' := hp
  obtain ⟨xs, e, sat, sh⟩ := b
  dsimp only at *
  have i1 : (sh.length + 1) * 8 ≤ 140737488355328 := by omega
  have i2 : sh.length + 1 ≤ 9223372036854775807 := by omega
  have i3 : sh.length * 8 ≤ 140737488355328 := by omega
  have i4 : sh.length ≤ 9223372036854775807 := by omega
  cases hp with
  | two H u a1 a2 a3 a4 a5 a6 a7 =>
    have hps := psV_bd f s 2 (.inl rfl) xs
    have hw : IntKind.i64.wrap (e + psV f s 2 xs) = e + psV f s 2 xs := wr (by omega)
    have hS := shift15.ok f log k s m inv 2 (.inl rfl) hf' hs xs hll hn
    have hset : setP (fB f - 2) (psV f s 2 xs) m := ⟨by omega, hps, hm⟩
    have h1 := ref2_np inv (fB f - 2) (psV f s 2 xs) m xs (tabV log (fB f - 2)) 1 hlen (by rw [hx]; exact one_in hl') htl hset (fM_31 hf' hn) htab
    have h2 := ref2_np inv (fB f - 2) (psV f s 2 xs) m xs (tabV log (fB f - 2)) H hlen hp' htl hset (fM_31 hf' hn) htab
    have hC := Clamped15.ok f hf' (npV inv (fB f - 2) (psV f s 2 xs) m xs (tabV log (fB f - 2)) (2, H)) (by rw [npV_len]; exact hll)
    have hE := Same3.ok (npV inv (fB f - 2) (psV f s 2 xs) m xs (tabV log (fB f - 2)) (2, H)) (clL f (npV inv (fB f - 2) (psV f s 2 xs) m xs (tabV log (fB f - 2)) (2, H))) (by rw [npV_len]; omega)
    by_cases hH : 1 < (H : Int)
    · skip
      by_cases hs2 : s = 2
      · subst hs2
        have hN := nx_2 f m inv log xs e sat sh (2, H)
        by_cases hsh0 : sh = []
        · subst hsh0
          refine ok_of (X := fun _ => []) (Z := fun r => Nat.beq r 10) (res := [ResultVar.cell 6 27]) tok follows Tryz.func27 rfl rfl fine27 (by kernel_rfl) (by kernel_rfl) ?_
          simp only [evA, evB, evT, evD, seval, cx_free, in_free, in_len, in_push, hw, i1, i2, Int.toNat_natCast, hH]
          refine call_ok hS (by simp only [evA, evB, evT, evD, seval]) ?_
          simp only [evA, evB, evT, evD, seval, cx_free, in_free, in_len, in_push, hw, i1, i2, Int.toNat_natCast, hH]
          refine call_ok (RTwid.ok log f hl' hf') (by simp only [evA, evB, evT, evD, seval, cx_free]) ?_
          simp only [evA, evB, evT, evD, seval, cx_free, in_free, in_len, in_push, hw, i1, i2, Int.toNat_natCast, hH]
          refine call_ok (RBits7.ok f hf') rfl ?_
          simp only [evA, evB, evT, evD, seval, cx_free, in_free, in_len, in_push, hw, i1, i2, Int.toNat_natCast, hH]
          refine call_ok h1 (by simp only [evA, evB, evT, evD, seval, cx_free]) ?_
          simp only [evA, evB, evT, evD, seval, cx_free, in_free, in_len, in_push, hw, i1, i2, Int.toNat_natCast, hH]
          refine call_ok h2 (by simp only [evA, evB, evT, evD, seval, cx_free]) ?_
          simp only [evA, evB, evT, evD, seval, cx_free, in_free, in_len, in_push, hw, i1, i2, Int.toNat_natCast, hH]
          refine hand_of _ (app_hand 0 _ _ e (.bool sat) (.sl 2 (cxRows xs)) _ _ _ rfl rfl rfl rfl) ?_
          simp only [evA, evB, evT, evD, seval, cx_free, in_free, in_len, in_push, hw, i1, i2, Int.toNat_natCast, hH]
          refine call_ok hC (by simp only [evA, evB, evT, evD, seval, cx_free]) ?_
          simp only [evA, evB, evT, evD, seval, cx_free, in_free, in_len, in_push, hw, i1, i2, Int.toNat_natCast, hH]
          rw [hN]
          cases sat
          · simp only [evA, evB, evT, evD, seval, cx_free, in_free, in_len, in_push, hw, i1, i2, Int.toNat_natCast, hH]
            refine call_ok hE (by simp only [evA, evB, evT, evD, seval]) ?_
            generalize decide ((npV inv (fB f - 2) (psV f 2 2 xs) m xs (tabV log (fB f - 2)) (2, H)) = clL f (npV inv (fB f - 2) (psV f 2 2 xs) m xs (tabV log (fB f - 2)) (2, H))) = q
            cases q
            all_goals simp only [evA, evB, evT, evD, seval, cx_free, in_free, in_len, in_push, hw, i1, i2, Int.toNat_natCast, hH]
            all_goals rfl
          · simp only [evA, evB, evT, evD, seval, cx_free, in_free, in_len, in_push, hw, i1, i2, Int.toNat_natCast, hH]
            first | done | rfl
        · have i0 : 0 < sh.length := by cases sh with | nil => exact absurd rfl hsh0 | cons z r => simp
          refine ok_of (X := fun _ => []) (Z := fun _ => false) (res := [ResultVar.cell 6 27]) tok follows Tryz.func27 rfl rfl fine27 (by kernel_rfl) (by kernel_rfl) ?_
          simp only [evA, evB, evT, evD, seval, cx_free, in_free, in_len, in_push, hw, i0, i1, i2, i3, i4, in_oneT, Int.toNat_natCast, hH]
          refine call_ok hS (by simp only [evA, evB, evT, evD, seval]) ?_
          simp only [evA, evB, evT, evD, seval, cx_free, in_free, in_len, in_push, hw, i0, i1, i2, i3, i4, in_oneT, Int.toNat_natCast, hH]
          refine call_ok (RTwid.ok log f hl' hf') (by simp only [evA, evB, evT, evD, seval, cx_free]) ?_
          simp only [evA, evB, evT, evD, seval, cx_free, in_free, in_len, in_push, hw, i0, i1, i2, i3, i4, in_oneT, Int.toNat_natCast, hH]
          refine call_ok (RBits7.ok f hf') rfl ?_
          simp only [evA, evB, evT, evD, seval, cx_free, in_free, in_len, in_push, hw, i0, i1, i2, i3, i4, in_oneT, Int.toNat_natCast, hH]
          refine call_ok h1 (by simp only [evA, evB, evT, evD, seval, cx_free]) ?_
          simp only [evA, evB, evT, evD, seval, cx_free, in_free, in_len, in_push, hw, i0, i1, i2, i3, i4, in_oneT, Int.toNat_natCast, hH]
          refine call_ok h2 (by simp only [evA, evB, evT, evD, seval, cx_free]) ?_
          simp only [evA, evB, evT, evD, seval, cx_free, in_free, in_len, in_push, hw, i0, i1, i2, i3, i4, in_oneT, Int.toNat_natCast, hH]
          refine call_ok hC (by simp only [evA, evB, evT, evD, seval, cx_free]) ?_
          simp only [evA, evB, evT, evD, seval, cx_free, in_free, in_len, in_push, hw, i0, i1, i2, i3, i4, in_oneT, Int.toNat_natCast, hH]
          rw [hN]
          cases sat
          · simp only [evA, evB, evT, evD, seval, cx_free, in_free, in_len, in_push, hw, i0, i1, i2, i3, i4, in_oneT, Int.toNat_natCast, hH]
            refine call_ok hE (by simp only [evA, evB, evT, evD, seval]) ?_
            generalize decide ((npV inv (fB f - 2) (psV f 2 2 xs) m xs (tabV log (fB f - 2)) (2, H)) = clL f (npV inv (fB f - 2) (psV f 2 2 xs) m xs (tabV log (fB f - 2)) (2, H))) = q
            cases q
            all_goals simp only [evA, evB, evT, evD, seval, cx_free, in_free, in_len, in_push, hw, i0, i1, i2, i3, i4, in_oneT, Int.toNat_natCast, hH]
            all_goals rfl
          · simp only [evA, evB, evT, evD, seval, cx_free, in_free, in_len, in_push, hw, i0, i1, i2, i3, i4, in_oneT, Int.toNat_natCast, hH]
            first | done | rfl
      · have hN := nx_0 f s m inv log xs e sat sh (2, H) hs2
        by_cases hsh0 : sh = []
        · subst hsh0
          refine ok_of (X := fun _ => []) (Z := fun r => Nat.beq r 10) (res := [ResultVar.cell 6 27]) tok follows Tryz.func27 rfl rfl fine27 (by kernel_rfl) (by kernel_rfl) ?_
          simp only [evA, evB, evT, evD, seval, cx_free, in_free, in_len, in_push, hw, i1, i2, Int.toNat_natCast, hH, hs2]
          refine call_ok hS (by simp only [evA, evB, evT, evD, seval]) ?_
          simp only [evA, evB, evT, evD, seval, cx_free, in_free, in_len, in_push, hw, i1, i2, Int.toNat_natCast, hH, hs2]
          refine call_ok (RTwid.ok log f hl' hf') (by simp only [evA, evB, evT, evD, seval, cx_free]) ?_
          simp only [evA, evB, evT, evD, seval, cx_free, in_free, in_len, in_push, hw, i1, i2, Int.toNat_natCast, hH, hs2]
          refine call_ok (RBits7.ok f hf') rfl ?_
          simp only [evA, evB, evT, evD, seval, cx_free, in_free, in_len, in_push, hw, i1, i2, Int.toNat_natCast, hH, hs2]
          refine call_ok h1 (by simp only [evA, evB, evT, evD, seval, cx_free]) ?_
          simp only [evA, evB, evT, evD, seval, cx_free, in_free, in_len, in_push, hw, i1, i2, Int.toNat_natCast, hH, hs2]
          refine call_ok h2 (by simp only [evA, evB, evT, evD, seval, cx_free]) ?_
          simp only [evA, evB, evT, evD, seval, cx_free, in_free, in_len, in_push, hw, i1, i2, Int.toNat_natCast, hH, hs2]
          refine hand_of _ (app_hand 0 _ _ e (.bool sat) (.sl 2 (cxRows xs)) _ _ _ rfl rfl rfl rfl) ?_
          simp only [evA, evB, evT, evD, seval, cx_free, in_free, in_len, in_push, hw, i1, i2, Int.toNat_natCast, hH, hs2]
          rw [hN]
          first | done | rfl
        · have i0 : 0 < sh.length := by cases sh with | nil => exact absurd rfl hsh0 | cons z r => simp
          refine ok_of (X := fun _ => []) (Z := fun _ => false) (res := [ResultVar.cell 6 27]) tok follows Tryz.func27 rfl rfl fine27 (by kernel_rfl) (by kernel_rfl) ?_
          simp only [evA, evB, evT, evD, seval, cx_free, in_free, in_len, in_push, hw, i0, i1, i2, i3, i4, in_oneT, Int.toNat_natCast, hH, hs2]
          refine call_ok hS (by simp only [evA, evB, evT, evD, seval]) ?_
          simp only [evA, evB, evT, evD, seval, cx_free, in_free, in_len, in_push, hw, i0, i1, i2, i3, i4, in_oneT, Int.toNat_natCast, hH, hs2]
          refine call_ok (RTwid.ok log f hl' hf') (by simp only [evA, evB, evT, evD, seval, cx_free]) ?_
          simp only [evA, evB, evT, evD, seval, cx_free, in_free, in_len, in_push, hw, i0, i1, i2, i3, i4, in_oneT, Int.toNat_natCast, hH, hs2]
          refine call_ok (RBits7.ok f hf') rfl ?_
          simp only [evA, evB, evT, evD, seval, cx_free, in_free, in_len, in_push, hw, i0, i1, i2, i3, i4, in_oneT, Int.toNat_natCast, hH, hs2]
          refine call_ok h1 (by simp only [evA, evB, evT, evD, seval, cx_free]) ?_
          simp only [evA, evB, evT, evD, seval, cx_free, in_free, in_len, in_push, hw, i0, i1, i2, i3, i4, in_oneT, Int.toNat_natCast, hH, hs2]
          refine call_ok h2 (by simp only [evA, evB, evT, evD, seval, cx_free]) ?_
          simp only [evA, evB, evT, evD, seval, cx_free, in_free, in_len, in_push, hw, i0, i1, i2, i3, i4, in_oneT, Int.toNat_natCast, hH, hs2]
          rw [hN]
          first | done | rfl
    · obtain rfl : H = 1 := by omega
      simp only [Int.natCast_one] at hC hE h1 h2
      by_cases hs2 : s = 2
      · subst hs2
        have hN := nx_2 f m inv log xs e sat sh (2, 1)
        by_cases hsh0 : sh = []
        · subst hsh0
          refine ok_of (X := fun _ => []) (Z := fun r => Nat.beq r 10) (res := [ResultVar.cell 6 27]) tok follows Tryz.func27 rfl rfl fine27 (by kernel_rfl) (by kernel_rfl) ?_
          simp only [evA, evB, evT, evD, seval, cx_free, in_free, in_len, in_push, hw, i1, i2, Int.toNat_natCast, hH]
          refine call_ok hS (by simp only [evA, evB, evT, evD, seval]) ?_
          simp only [evA, evB, evT, evD, seval, cx_free, in_free, in_len, in_push, hw, i1, i2, Int.toNat_natCast, hH]
          refine call_ok (RTwid.ok log f hl' hf') (by simp only [evA, evB, evT, evD, seval, cx_free]) ?_
          simp only [evA, evB, evT, evD, seval, cx_free, in_free, in_len, in_push, hw, i1, i2, Int.toNat_natCast, hH]
          refine call_ok (RBits7.ok f hf') rfl ?_
          simp only [evA, evB, evT, evD, seval, cx_free, in_free, in_len, in_push, hw, i1, i2, Int.toNat_natCast, hH]
          refine call_ok h1 (by simp only [evA, evB, evT, evD, seval, cx_free]) ?_
          simp only [evA, evB, evT, evD, seval, cx_free, in_free, in_len, in_push, hw, i1, i2, Int.toNat_natCast, hH]
          refine hand_of _ (app_hand 0 _ _ e (.bool sat) (.sl 2 (cxRows xs)) _ _ _ rfl rfl rfl rfl) ?_
          simp only [evA, evB, evT, evD, seval, cx_free, in_free, in_len, in_push, hw, i1, i2, Int.toNat_natCast, hH]
          refine call_ok hC (by simp only [evA, evB, evT, evD, seval, cx_free]) ?_
          simp only [evA, evB, evT, evD, seval, cx_free, in_free, in_len, in_push, hw, i1, i2, Int.toNat_natCast, hH]
          rw [hN]
          cases sat
          · simp only [evA, evB, evT, evD, seval, cx_free, in_free, in_len, in_push, hw, i1, i2, Int.toNat_natCast, hH]
            refine call_ok hE (by simp only [evA, evB, evT, evD, seval]) ?_
            generalize decide ((npV inv (fB f - 2) (psV f 2 2 xs) m xs (tabV log (fB f - 2)) (2, 1)) = clL f (npV inv (fB f - 2) (psV f 2 2 xs) m xs (tabV log (fB f - 2)) (2, 1))) = q
            cases q
            all_goals simp only [evA, evB, evT, evD, seval, cx_free, in_free, in_len, in_push, hw, i1, i2, Int.toNat_natCast, hH]
            all_goals rfl
          · simp only [evA, evB, evT, evD, seval, cx_free, in_free, in_len, in_push, hw, i1, i2, Int.toNat_natCast, hH]
            first | done | rfl
        · have i0 : 0 < sh.length := by cases sh with | nil => exact absurd rfl hsh0 | cons z r => simp
          refine ok_of (X := fun _ => []) (Z := fun _ => false) (res := [ResultVar.cell 6 27]) tok follows Tryz.func27 rfl rfl fine27 (by kernel_rfl) (by kernel_rfl) ?_
          simp only [evA, evB, evT, evD, seval, cx_free, in_free, in_len, in_push, hw, i0, i1, i2, i3, i4, in_oneT, Int.toNat_natCast, hH]
          refine call_ok hS (by simp only [evA, evB, evT, evD, seval]) ?_
          simp only [evA, evB, evT, evD, seval, cx_free, in_free, in_len, in_push, hw, i0, i1, i2, i3, i4, in_oneT, Int.toNat_natCast, hH]
          refine call_ok (RTwid.ok log f hl' hf') (by simp only [evA, evB, evT, evD, seval, cx_free]) ?_
          simp only [evA, evB, evT, evD, seval, cx_free, in_free, in_len, in_push, hw, i0, i1, i2, i3, i4, in_oneT, Int.toNat_natCast, hH]
          refine call_ok (RBits7.ok f hf') rfl ?_
          simp only [evA, evB, evT, evD, seval, cx_free, in_free, in_len, in_push, hw, i0, i1, i2, i3, i4, in_oneT, Int.toNat_natCast, hH]
          refine call_ok h1 (by simp only [evA, evB, evT, evD, seval, cx_free]) ?_
          simp only [evA, evB, evT, evD, seval, cx_free, in_free, in_len, in_push, hw, i0, i1, i2, i3, i4, in_oneT, Int.toNat_natCast, hH]
          refine call_ok hC (by simp only [evA, evB, evT, evD, seval, cx_free]) ?_
          simp only [evA, evB, evT, evD, seval, cx_free, in_free, in_len, in_push, hw, i0, i1, i2, i3, i4, in_oneT, Int.toNat_natCast, hH]
          rw [hN]
          cases sat
          · simp only [evA, evB, evT, evD, seval, cx_free, in_free, in_len, in_push, hw, i0, i1, i2, i3, i4, in_oneT, Int.toNat_natCast, hH]
            refine call_ok hE (by simp only [evA, evB, evT, evD, seval]) ?_
            generalize decide ((npV inv (fB f - 2) (psV f 2 2 xs) m xs (tabV log (fB f - 2)) (2, 1)) = clL f (npV inv (fB f - 2) (psV f 2 2 xs) m xs (tabV log (fB f - 2)) (2, 1))) = q
            cases q
            all_goals simp only [evA, evB, evT, evD, seval, cx_free, in_free, in_len, in_push, hw, i0, i1, i2, i3, i4, in_oneT, Int.toNat_natCast, hH]
            all_goals rfl
          · simp only [evA, evB, evT, evD, seval, cx_free, in_free, in_len, in_push, hw, i0, i1, i2, i3, i4, in_oneT, Int.toNat_natCast, hH]
            first | done | rfl
      · have hN := nx_0 f s m inv log xs e sat sh (2, 1) hs2
        by_cases hsh0 : sh = []
        · subst hsh0
          refine ok_of (X := fun _ => []) (Z := fun r => Nat.beq r 10) (res := [ResultVar.cell 6 27]) tok follows Tryz.func27 rfl rfl fine27 (by kernel_rfl) (by kernel_rfl) ?_
          simp only [evA, evB, evT, evD, seval, cx_free, in_free, in_len, in_push, hw, i1, i2, Int.toNat_natCast, hH, hs2]
          refine call_ok hS (by simp only [evA, evB, evT, evD, seval]) ?_
          simp only [evA, evB, evT, evD, seval, cx_free, in_free, in_len, in_push, hw, i1, i2, Int.toNat_natCast, hH, hs2]
          refine call_ok (RTwid.ok log f hl' hf') (by simp only [evA, evB, evT, evD, seval, cx_free]) ?_
          simp only [evA, evB, evT, evD, seval, cx_free, in_free, in_len, in_push, hw, i1, i2, Int.toNat_natCast, hH, hs2]
          refine call_ok (RBits7.ok f hf') rfl ?_
          simp only [evA, evB, evT, evD, seval, cx_free, in_free, in_len, in_push, hw, i1, i2, Int.toNat_natCast, hH, hs2]
          refine call_ok h1 (by simp only [evA, evB, evT, evD, seval, cx_free]) ?_
          simp only [evA, evB, evT, evD, seval, cx_free, in_free, in_len, in_push, hw, i1, i2, Int.toNat_natCast, hH, hs2]
          refine hand_of _ (app_hand 0 _ _ e (.bool sat) (.sl 2 (cxRows xs)) _ _ _ rfl rfl rfl rfl) ?_
          simp only [evA, evB, evT, evD, seval, cx_free, in_free, in_len, in_push, hw, i1, i2, Int.toNat_natCast, hH, hs2]
          rw [hN]
          first | done | rfl
        · have i0 : 0 < sh.length := by cases sh with | nil => exact absurd rfl hsh0 | cons z r => simp
          refine ok_of (X := fun _ => []) (Z := fun _ => false) (res := [ResultVar.cell 6 27]) tok follows Tryz.func27 rfl rfl fine27 (by kernel_rfl) (by kernel_rfl) ?_
          simp only [evA, evB, evT, evD, seval, cx_free, in_free, in_len, in_push, hw, i0, i1, i2, i3, i4, in_oneT, Int.toNat_natCast, hH, hs2]
          refine call_ok hS (by simp only [evA, evB, evT, evD, seval]) ?_
          simp only [evA, evB, evT, evD, seval, cx_free, in_free, in_len, in_push, hw, i0, i1, i2, i3, i4, in_oneT, Int.toNat_natCast, hH, hs2]
          refine call_ok (RTwid.ok log f hl' hf') (by simp only [evA, evB, evT, evD, seval, cx_free]) ?_
          simp only [evA, evB, evT, evD, seval, cx_free, in_free, in_len, in_push, hw, i0, i1, i2, i3, i4, in_oneT, Int.toNat_natCast, hH, hs2]
          refine call_ok (RBits7.ok f hf') rfl ?_
          simp only [evA, evB, evT, evD, seval, cx_free, in_free, in_len, in_push, hw, i0, i1, i2, i3, i4, in_oneT, Int.toNat_natCast, hH, hs2]
          refine call_ok h1 (by simp only [evA, evB, evT, evD, seval, cx_free]) ?_
          simp only [evA, evB, evT, evD, seval, cx_free, in_free, in_len, in_push, hw, i0, i1, i2, i3, i4, in_oneT, Int.toNat_natCast, hH, hs2]
          rw [hN]
          first | done | rfl
  | four H u a1 a2 a3 a4 a5 a6 =>
    have hps := psV_bd f s 4 (.inr rfl) xs
    have hw : IntKind.i64.wrap (e + psV f s 4 xs) = e + psV f s 4 xs := wr (by omega)
    have hS := shift15.ok f log k s m inv 4 (.inr rfl) hf' hs xs hll hn
    have hset : setP (fB f - 2) (psV f s 4 xs) m := ⟨by omega, hps, hm⟩
    have h1 := ref2_np inv (fB f - 2) (psV f s 4 xs) m xs (tabV log (fB f - 2)) 1 hlen (by rw [hx]; exact one_in hl') htl hset (fM_31 hf' hn) htab
    have h2 := ref4_np inv (fB f - 2) (psV f s 4 xs) m xs (tabV log (fB f - 2)) H hlen hp' htl hset (fM_31 hf' hn) htab
    have hC := Clamped15.ok f hf' (npV inv (fB f - 2) (psV f s 4 xs) m xs (tabV log (fB f - 2)) (4, H)) (by rw [npV_len]; exact hll)
    have hE := Same3.ok (npV inv (fB f - 2) (psV f s 4 xs) m xs (tabV log (fB f - 2)) (4, H)) (clL f (npV inv (fB f - 2) (psV f s 4 xs) m xs (tabV log (fB f - 2)) (4, H))) (by rw [npV_len]; omega)
    by_cases hs2 : s = 2
    · subst hs2
      have hN := nx_2 f m inv log xs e sat sh (4, H)
      by_cases hsh0 : sh = []
      · subst hsh0
        refine ok_of (X := fun _ => []) (Z := fun r => Nat.beq r 10) (res := [ResultVar.cell 6 27]) tok follows Tryz.func27 rfl rfl fine27 (by kernel_rfl) (by kernel_rfl) ?_
        simp only [evA, evB, evT, evD, seval, cx_free, in_free, in_len, in_push, hw, i1, i2, Int.toNat_natCast]
        refine call_ok hS (by simp only [evA, evB, evT, evD, seval]) ?_
        simp only [evA, evB, evT, evD, seval, cx_free, in_free, in_len, in_push, hw, i1, i2, Int.toNat_natCast]
        refine call_ok (RTwid.ok log f hl' hf') (by simp only [evA, evB, evT, evD, seval, cx_free]) ?_
        simp only [evA, evB, evT, evD, seval, cx_free, in_free, in_len, in_push, hw, i1, i2, Int.toNat_natCast]
        refine call_ok (RBits7.ok f hf') rfl ?_
        simp only [evA, evB, evT, evD, seval, cx_free, in_free, in_len, in_push, hw, i1, i2, Int.toNat_natCast]
        refine call_ok h1 (by simp only [evA, evB, evT, evD, seval, cx_free]) ?_
        simp only [evA, evB, evT, evD, seval, cx_free, in_free, in_len, in_push, hw, i1, i2, Int.toNat_natCast]
        refine call_ok h2 (by simp only [evA, evB, evT, evD, seval, cx_free]) ?_
        simp only [evA, evB, evT, evD, seval, cx_free, in_free, in_len, in_push, hw, i1, i2, Int.toNat_natCast]
        refine hand_of _ (app_hand 0 _ _ e (.bool sat) (.sl 2 (cxRows xs)) _ _ _ rfl rfl rfl rfl) ?_
        simp only [evA, evB, evT, evD, seval, cx_free, in_free, in_len, in_push, hw, i1, i2, Int.toNat_natCast]
        refine call_ok hC (by simp only [evA, evB, evT, evD, seval, cx_free]) ?_
        simp only [evA, evB, evT, evD, seval, cx_free, in_free, in_len, in_push, hw, i1, i2, Int.toNat_natCast]
        rw [hN]
        cases sat
        · simp only [evA, evB, evT, evD, seval, cx_free, in_free, in_len, in_push, hw, i1, i2, Int.toNat_natCast]
          refine call_ok hE (by simp only [evA, evB, evT, evD, seval]) ?_
          generalize decide ((npV inv (fB f - 2) (psV f 2 4 xs) m xs (tabV log (fB f - 2)) (4, H)) = clL f (npV inv (fB f - 2) (psV f 2 4 xs) m xs (tabV log (fB f - 2)) (4, H))) = q
          cases q
          all_goals simp only [evA, evB, evT, evD, seval, cx_free, in_free, in_len, in_push, hw, i1, i2, Int.toNat_natCast]
          all_goals rfl
        · simp only [evA, evB, evT, evD, seval, cx_free, in_free, in_len, in_push, hw, i1, i2, Int.toNat_natCast]
          first | done | rfl
      · have i0 : 0 < sh.length := by cases sh with | nil => exact absurd rfl hsh0 | cons z r => simp
        refine ok_of (X := fun _ => []) (Z := fun _ => false) (res := [ResultVar.cell 6 27]) tok follows Tryz.func27 rfl rfl fine27 (by kernel_rfl) (by kernel_rfl) ?_
        simp only [evA, evB, evT, evD, seval, cx_free, in_free, in_len, in_push, hw, i0, i1, i2, i3, i4, in_oneT, Int.toNat_natCast]
        refine call_ok hS (by simp only [evA, evB, evT, evD, seval]) ?_
        simp only [evA, evB, evT, evD, seval, cx_free, in_free, in_len, in_push, hw, i0, i1, i2, i3, i4, in_oneT, Int.toNat_natCast]
        refine call_ok (RTwid.ok log f hl' hf') (by simp only [evA, evB, evT, evD, seval, cx_free]) ?_
        simp only [evA, evB, evT, evD, seval, cx_free, in_free, in_len, in_push, hw, i0, i1, i2, i3, i4, in_oneT, Int.toNat_natCast]
        refine call_ok (RBits7.ok f hf') rfl ?_
        simp only [evA, evB, evT, evD, seval, cx_free, in_free, in_len, in_push, hw, i0, i1, i2, i3, i4, in_oneT, Int.toNat_natCast]
        refine call_ok h1 (by simp only [evA, evB, evT, evD, seval, cx_free]) ?_
        simp only [evA, evB, evT, evD, seval, cx_free, in_free, in_len, in_push, hw, i0, i1, i2, i3, i4, in_oneT, Int.toNat_natCast]
        refine call_ok h2 (by simp only [evA, evB, evT, evD, seval, cx_free]) ?_
        simp only [evA, evB, evT, evD, seval, cx_free, in_free, in_len, in_push, hw, i0, i1, i2, i3, i4, in_oneT, Int.toNat_natCast]
        refine call_ok hC (by simp only [evA, evB, evT, evD, seval, cx_free]) ?_
        simp only [evA, evB, evT, evD, seval, cx_free, in_free, in_len, in_push, hw, i0, i1, i2, i3, i4, in_oneT, Int.toNat_natCast]
        rw [hN]
        cases sat
        · simp only [evA, evB, evT, evD, seval, cx_free, in_free, in_len, in_push, hw, i0, i1, i2, i3, i4, in_oneT, Int.toNat_natCast]
          refine call_ok hE (by simp only [evA, evB, evT, evD, seval]) ?_
          generalize decide ((npV inv (fB f - 2) (psV f 2 4 xs) m xs (tabV log (fB f - 2)) (4, H)) = clL f (npV inv (fB f - 2) (psV f 2 4 xs) m xs (tabV log (fB f - 2)) (4, H))) = q
          cases q
          all_goals simp only [evA, evB, evT, evD, seval, cx_free, in_free, in_len, in_push, hw, i0, i1, i2, i3, i4, in_oneT, Int.toNat_natCast]
          all_goals rfl
        · simp only [evA, evB, evT, evD, seval, cx_free, in_free, in_len, in_push, hw, i0, i1, i2, i3, i4, in_oneT, Int.toNat_natCast]
          first | done | rfl
    · have hN := nx_0 f s m inv log xs e sat sh (4, H) hs2
      by_cases hsh0 : sh = []
      · subst hsh0
        refine ok_of (X := fun _ => []) (Z := fun r => Nat.beq r 10) (res := [ResultVar.cell 6 27]) tok follows Tryz.func27 rfl rfl fine27 (by kernel_rfl) (by kernel_rfl) ?_
        simp only [evA, evB, evT, evD, seval, cx_free, in_free, in_len, in_push, hw, i1, i2, Int.toNat_natCast, hs2]
        refine call_ok hS (by simp only [evA, evB, evT, evD, seval]) ?_
        simp only [evA, evB, evT, evD, seval, cx_free, in_free, in_len, in_push, hw, i1, i2, Int.toNat_natCast, hs2]
        refine call_ok (RTwid.ok log f hl' hf') (by simp only [evA, evB, evT, evD, seval, cx_free]) ?_
        simp only [evA, evB, evT, evD, seval, cx_free, in_free, in_len, in_push, hw, i1, i2, Int.toNat_natCast, hs2]
        refine call_ok (RBits7.ok f hf') rfl ?_
        simp only [evA, evB, evT, evD, seval, cx_free, in_free, in_len, in_push, hw, i1, i2, Int.toNat_natCast, hs2]
        refine call_ok h1 (by simp only [evA, evB, evT, evD, seval, cx_free]) ?_
        simp only [evA, evB, evT, evD, seval, cx_free, in_free, in_len, in_push, hw, i1, i2, Int.toNat_natCast, hs2]
        refine call_ok h2 (by simp only [evA, evB, evT, evD, seval, cx_free]) ?_
        simp only [evA, evB, evT, evD, seval, cx_free, in_free, in_len, in_push, hw, i1, i2, Int.toNat_natCast, hs2]
        refine hand_of _ (app_hand 0 _ _ e (.bool sat) (.sl 2 (cxRows xs)) _ _ _ rfl rfl rfl rfl) ?_
        simp only [evA, evB, evT, evD, seval, cx_free, in_free, in_len, in_push, hw, i1, i2, Int.toNat_natCast, hs2]
        rw [hN]
        first | done | rfl
      · have i0 : 0 < sh.length := by cases sh with | nil => exact absurd rfl hsh0 | cons z r => simp
        refine ok_of (X := fun _ => []) (Z := fun _ => false) (res := [ResultVar.cell 6 27]) tok follows Tryz.func27 rfl rfl fine27 (by kernel_rfl) (by kernel_rfl) ?_
        simp only [evA, evB, evT, evD, seval, cx_free, in_free, in_len, in_push, hw, i0, i1, i2, i3, i4, in_oneT, Int.toNat_natCast, hs2]
        refine call_ok hS (by simp only [evA, evB, evT, evD, seval]) ?_
        simp only [evA, evB, evT, evD, seval, cx_free, in_free, in_len, in_push, hw, i0, i1, i2, i3, i4, in_oneT, Int.toNat_natCast, hs2]
        refine call_ok (RTwid.ok log f hl' hf') (by simp only [evA, evB, evT, evD, seval, cx_free]) ?_
        simp only [evA, evB, evT, evD, seval, cx_free, in_free, in_len, in_push, hw, i0, i1, i2, i3, i4, in_oneT, Int.toNat_natCast, hs2]
        refine call_ok (RBits7.ok f hf') rfl ?_
        simp only [evA, evB, evT, evD, seval, cx_free, in_free, in_len, in_push, hw, i0, i1, i2, i3, i4, in_oneT, Int.toNat_natCast, hs2]
        refine call_ok h1 (by simp only [evA, evB, evT, evD, seval, cx_free]) ?_
        simp only [evA, evB, evT, evD, seval, cx_free, in_free, in_len, in_push, hw, i0, i1, i2, i3, i4, in_oneT, Int.toNat_natCast, hs2]
        refine call_ok h2 (by simp only [evA, evB, evT, evD, seval, cx_free]) ?_
        simp only [evA, evB, evT, evD, seval, cx_free, in_free, in_len, in_push, hw, i0, i1, i2, i3, i4, in_oneT, Int.toNat_natCast, hs2]
        rw [hN]
        first | done | rfl
end Go.Proofs.YtnnjjblgilibgaaGreatV

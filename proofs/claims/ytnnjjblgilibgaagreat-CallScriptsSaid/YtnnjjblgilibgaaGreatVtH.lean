import Derived.Test.YtnnjjblgilibgaaGreatVtG
/- Contract: a plan's next block. -/
namespace Go.Proofs.YtnnjjblgilibgaaGreatV
open Go Go.RowKit
set_option linter.unusedVariables false
set_option linter.unusedSimpArgs false
set_option maxRecDepth 100000
set_option maxHeartbeats 40000000
theorem fine80 : Fine Tryz.prog 80 := fun _ _ => by kernel_rfl
theorem fine43 : Fine Tryz.prog 43 := fun _ _ => by kernel_rfl
/-- A block. -/
structure Blk where
  xs : List (Int × Int)
  e : Int
  sat : Bool
  sh : List Int
abbrev blkV (b : Blk) : AV := .agg [.sl 2 (cxRows b.xs), .int b.e, .bool b.sat, .sl 1 (intRows b.sh)]
/-- Numbers behind a pass. -/
def npV (inv : Bool) (B s m : Int) (xs ws : List (Int × Int)) (p : Int × Int) : List (Int × Int) :=
  if p.1 = 4 then pV inv B s m xs ws p.2.toNat (xs.length / (4 * p.2.toNat)) else t2V inv B s m xs ws p.2.toNat (xs.length / (2 * p.2.toNat))
theorem npV_len {inv : Bool} {B s m : Int} {xs ws : List (Int × Int)} {p : Int × Int} : (npV inv B s m xs ws p).length = xs.length := by
  unfold npV
  split
  · exact pV_len ..
  · exact t2V_len ..
/-- A pass of a length. -/
inductive PassOf (n : Nat) : Int × Int → Prop where
  | two (H u : Nat) (hH : 0 < H) (hH32 : H ≤ 32) (hu : u ≤ 32) (hu0 : 0 < u) (hn : n = 2 * H * u) (hand : Go.bits .and .i64 H ((H : Int) - 1) = 0) (hh : halfOk n H) : PassOf n (2, H)
  | four (H u : Nat) (hH : 0 < H) (hH16 : H ≤ 16) (hu : u ≤ 16) (hu0 : 0 < u) (hn : n = 4 * H * u) (hand : Go.bits .and .i64 H ((H : Int) - 1) = 0) : PassOf n (4, H)
theorem passL_in {log : Nat} {k : Int} (hl : 2 ≤ log ∧ log ≤ 6) : ∀ p ∈ passL log k, half p.2 ((2 ^ log : Nat) : Int) ∧ (p.1 = 2 ∨ p.1 = 4 ∧ 4 * p.2 ≤ ((2 ^ log : Nat) : Int)) := by
  by_cases h0 : k = 0
  · subst h0
    rcases (show log = 2 ∨ log = 3 ∨ log = 4 ∨ log = 5 ∨ log = 6 by omega) with rfl | rfl | rfl | rfl | rfl <;> decide
  · by_cases h1 : k = 1
    · subst h1
      rcases (show log = 2 ∨ log = 3 ∨ log = 4 ∨ log = 5 ∨ log = 6 by omega) with rfl | rfl | rfl | rfl | rfl <;> decide
    · unfold passL
      rw [if_neg h0, if_neg h1]
      intro p hp
      cases hp
theorem pass_of {log : Nat} {k : Int} (hl : 2 ≤ log ∧ log ≤ 6) {p : Int × Int} (hp : p ∈ passL log k) : PassOf (2 ^ log) p := by
  have h := passL_in hl p hp
  have hlen := (lens_pow hl).1
  obtain ⟨p1, p2⟩ := p
  rcases h with ⟨h1, rfl | ⟨rfl, h2⟩⟩
  · obtain ⟨H, u, e, a, b, c, d, g, i, j⟩ := half_nat hlen h1
    dsimp only at e
    subst e
    exact .two H u a b g d (by omega) i j
  · obtain ⟨H, u, e, a, b, c, d, g, i⟩ := quarter_nat hlen ⟨h1, h2⟩
    dsimp only at e
    subst e
    exact .four H u a b g d (by omega) i
theorem np_two {inv : Bool} {B s m : Int} {xs ws : List (Int × Int)} {H u : Nat} (hH : 0 < H) (hn : xs.length = 2 * H * u) : npV inv B s m xs ws (2, H) = t2V inv B s m xs ws H u := by
  unfold npV
  rw [if_neg (show ¬ (2 : Int) = 4 by decide), Int.toNat_natCast, hn, Nat.mul_div_cancel_left _ (by omega)]
theorem np_four {inv : Bool} {B s m : Int} {xs ws : List (Int × Int)} {H u : Nat} (hH : 0 < H) (hn : xs.length = 4 * H * u) : npV inv B s m xs ws (4, H) = pV inv B s m xs ws H u := by
  unfold npV
  rw [if_pos rfl, Int.toNat_natCast, hn, Nat.mul_div_cancel_left _ (by omega)]
theorem two_np (inv : Bool) (B s m : Int) (xs ws : List (Int × Int)) (H : Nat) (hl : lens xs.length) (hp : PassOf xs.length (2, H)) (h2 : ws.length = xs.length) (hset : setP B s m) (hx : nears 2147483648 xs) (hr : nears (2 ^ B.toNat) ws) :
    Ok Tryz.prog 78 [.sl 2 (cxRows xs), .sl 2 (cxRows ws), .int H, .int B, .int s, .int m, .bool inv] (.tup [.sl 2 (cxRows (npV inv B s m xs ws (2, H))), .int 0]) := by
  have hll : xs.length ≤ 1000000 := by unfold lens at hl; omega
  generalize hq : ((2 : Int), (H : Int)) = q at hp
  cases hp with
  | two H' u a b c d e g hh =>
    simp only [Prod.mk.injEq, true_and] at hq
    obtain rfl : H = H' := by omega
    rw [np_two a e]
    exact twoPass.ok inv B s m xs ws H u hll (by omega) a b c d e g hl hh (by omega) hset hx hr
  | four H' u a b c d e g => simp at hq
theorem four_np (inv : Bool) (B s m : Int) (xs ws : List (Int × Int)) (H : Nat) (hl : lens xs.length) (hp : PassOf xs.length (4, H)) (h2 : ws.length = xs.length) (hset : setP B s m) (hx : nears 2147483648 xs) (hr : nears (2 ^ B.toNat) ws) :
    Ok Tryz.prog 79 [.sl 2 (cxRows xs), .sl 2 (cxRows ws), .int H, .int B, .int s, .int m, .bool inv] (.tup [.sl 2 (cxRows (npV inv B s m xs ws (4, H))), .int 0]) := by
  have hll : xs.length ≤ 1000000 := by unfold lens at hl; omega
  generalize hq : ((4 : Int), (H : Int)) = q at hp
  cases hp with
  | four H' u a b c d e g =>
    simp only [Prod.mk.injEq, true_and] at hq
    obtain rfl : H = H' := by omega
    rw [np_four a e]
    exact Pass.ok inv B s m xs ws hll (by omega) H u a b c d e g hl (by omega) hset hx hr
  | two H' u a b c d e g => simp at hq
def nxB (f : Int) (log : Nat) (s m : Int) (inv : Bool) (b : Blk) (p : Int × Int) : Blk :=
  let sh := psV f s p.1 b.xs
  let ys := npV inv (fB f - 2) sh m b.xs (tabV log (fB f - 2)) p
  ⟨if s = 2 then clL f ys else ys, b.e + sh, if s = 2 then b.sat || decide (¬ clL f ys = ys) else b.sat, b.sh ++ [sh]⟩
theorem Clip.ok (sh : List Int) : Ok Tryz.prog 80 [.sl 1 (intRows sh)] (.csl 1 (intRows sh)) := by
  refine ok_of (X := fun _ => []) (Z := fun _ => false) (res := [ResultVar.tmp 2]) tok follows Tryz.func80 rfl rfl fine80 (by kernel_rfl) (by kernel_rfl) ?_
  simp only [evA, evT, evD, seval, in_len, in_free]
theorem next.ok (f k s m : Int) (inv : Bool) (log : Nat) (h : pOk f log k s m) (b : Blk) (hx : b.xs.length = 2 ^ log) (hn : nears (fM f) b.xs) (he : -1000 ≤ b.e ∧ b.e ≤ 1000) (hsh : b.sh.length ≤ 1000) (p : Int × Int) (hp : PassOf b.xs.length p) :
    Ok Tryz.prog 43 [rV f log k s m inv, blkV b, .agg [.int p.1, .int p.2]] (blkV (nxB f log s m inv b p)) := by
  obtain ⟨hf, hl, hk, hs, hm, hks⟩ := h
  have hf' : fmt f := by unfold fmt; omega
  have hl' : 2 ≤ log ∧ log ≤ 6 := by omega
  have hp64 := pow64F hl'
  have hlen := (lens_pow hl').1
  rw [← hx] at hlen
  have hB := fB_or f
  have e1 : IntKind.i64.wrap (fB f - 2) = fB f - 2 := wr (by omega)
  have htab := tab_near (log := log) (bits := fB f - 2) hl'.2 (by omega)
  have htl : (tabV log (fB f - 2)).length = b.xs.length := by rw [tabS_len, hx]
  have hll : b.xs.length ≤ 1000000 := by omega
  have hp' := hp
  have key : ∀ sh, 0 ≤ sh ∧ sh ≤ 3 → IntKind.i64.wrap (b.e + sh) = b.e + sh := fun sh g => wr (by omega)
  obtain ⟨xs, e, sat, sh⟩ := b
  dsimp only at *
  refine ok_of (X := fun r => if Nat.beq r 6 then [[], [], [], [], [], [], [], [], [], [], [], [], [.const (.bool true)]] else []) (Z := fun _ => false) (res := [ResultVar.cell 6 27]) tok follows Tryz.func43 rfl rfl fine43 (by kernel_rfl) (by kernel_rfl) ?_
  have i1 : (sh.length + 1) * 8 ≤ 140737488355328 := by omega
  have i2 : sh.length + 1 ≤ 9223372036854775807 := by omega
  have key2 : ∀ d, 0 ≤ d ∧ d ≤ 3 → IntKind.i64.wrap (e + d) = e + d := fun d g => wr (by omega)
  have hC : ∀ (K : Int) (H : Nat), Ok Tryz.prog 81 [rV f log k 2 m inv, .sl 2 (cxRows (npV inv (fB f - 2) 0 m xs (tabV log (fB f - 2)) (K, H)))] _ := fun K H => clamped.ok f k 2 m log inv hf' (by decide) _ (by rw [npV_len]; exact hll) (by rw [npV_len]; omega)
  cases hp with
  | two H u a1 a2 a3 a4 a5 a6 a7 =>
    rcases (show s = 0 ∨ s = 1 ∨ s = 2 by omega) with rfl | rfl | rfl
    · simp only [evA, evB, evT, evD, seval, cx_free, in_free, sc_0, Int.toNat_natCast]
      refine call_ok (hpass.ok 2 (.inl rfl) xs) (by simp only [evA, evB, evT, evD, seval, cx_free]) ?_
      simp only [evA, evB, evT, evD, seval, cx_free, in_free, sc_0, e1]
      refine call_ok (two_np inv (fB f - 2) 1 m xs _ H hlen hp' htl ⟨by omega, (by decide), hm⟩ (fM_31 hf' hn) htab) (by simp only [evA, evB, evT, evD, seval, cx_free]) ?_
      simp only [evA, evB, evT, evD, seval, cx_free, in_free, sc_0, e1]
      refine call_ok (Clip.ok sh) (by simp only [evA, evB, evT, evD, seval, in_free]) ?_
      simp only [evA, evB, evT, evD, seval, cx_free, in_free, in_len, in_push, i1, i2, key2 1 (by decide), sc_0]
      rfl
    · have hps := psV_bd f 1 2 (.inl rfl) xs
      rw [show psV f 1 2 xs = preV 2 f (gm xs xs.length) from rfl] at hps
      simp only [evA, evB, evT, evD, seval, cx_free, in_free, sc_1, Int.toNat_natCast]
      refine call_ok (fpass.ok f 2 hf' (.inl rfl) xs hll hn) (by simp only [evA, evB, evT, evD, seval, cx_free]) ?_
      simp only [evA, evB, evT, evD, seval, cx_free, in_free, sc_1, e1]
      refine call_ok (two_np inv (fB f - 2) (preV 2 f (gm xs xs.length)) m xs _ H hlen hp' htl ⟨by omega, hps, hm⟩ (fM_31 hf' hn) htab) (by simp only [evA, evB, evT, evD, seval, cx_free]) ?_
      simp only [evA, evB, evT, evD, seval, cx_free, in_free, sc_1, e1]
      refine call_ok (Clip.ok sh) (by simp only [evA, evB, evT, evD, seval, in_free]) ?_
      simp only [evA, evB, evT, evD, seval, cx_free, in_free, in_len, in_push, i1, i2, key2 (preV 2 f (gm xs xs.length)) hps, sc_1]
      rfl
    · simp only [evA, evB, evT, evD, seval, cx_free, in_free, sc_2, Int.toNat_natCast]
      refine call_ok (bpass.ok 2 xs) (by simp only [evA, evB, evT, evD, seval, cx_free]) ?_
      simp only [evA, evB, evT, evD, seval, cx_free, in_free, sc_2, e1]
      refine call_ok (two_np inv (fB f - 2) 0 m xs _ H hlen hp' htl ⟨by omega, (by decide), hm⟩ (fM_31 hf' hn) htab) (by simp only [evA, evB, evT, evD, seval, cx_free]) ?_
      simp only [evA, evB, evT, evD, seval, cx_free, in_free, sc_2, e1]
      refine call_ok (Clip.ok sh) (by simp only [evA, evB, evT, evD, seval, in_free]) ?_
      simp only [evA, evB, evT, evD, seval, cx_free, in_free, in_len, in_push, i1, i2, key2 0 (by decide), sc_2]
      refine call_ok (hC 2 H) (by simp only [evA, evB, evT, evD, seval, cx_free]) ?_
      have hN : blkV (nxB f log 2 m inv ⟨xs, e, sat, sh⟩ (2, H)) = .agg [.sl 2 (cxRows (clL f (npV inv (fB f - 2) 0 m xs (tabV log (fB f - 2)) (2, H)))), .int (e + 0), .bool (sat || decide (¬ clL f (npV inv (fB f - 2) 0 m xs (tabV log (fB f - 2)) (2, H)) = (npV inv (fB f - 2) 0 m xs (tabV log (fB f - 2)) (2, H)))), .sl 1 (intRows (sh ++ [0]))] := rfl
      rw [hN]
      generalize decide (¬ clL f (npV inv (fB f - 2) 0 m xs (tabV log (fB f - 2)) (2, H)) = (npV inv (fB f - 2) 0 m xs (tabV log (fB f - 2)) (2, H))) = q
      cases sat <;> cases q
      all_goals
        simp only [evA, evB, evT, evD, seval, cx_free, in_free, in_len]
  | four H u a1 a2 a3 a4 a5 a6 =>
    rcases (show s = 0 ∨ s = 1 ∨ s = 2 by omega) with rfl | rfl | rfl
    · simp only [evA, evB, evT, evD, seval, cx_free, in_free, sc_0, Int.toNat_natCast]
      refine call_ok (hpass.ok 4 (.inr rfl) xs) (by simp only [evA, evB, evT, evD, seval, cx_free]) ?_
      simp only [evA, evB, evT, evD, seval, cx_free, in_free, sc_0, e1]
      refine call_ok (four_np inv (fB f - 2) 2 m xs _ H hlen hp' htl ⟨by omega, (by decide), hm⟩ (fM_31 hf' hn) htab) (by simp only [evA, evB, evT, evD, seval, cx_free]) ?_
      simp only [evA, evB, evT, evD, seval, cx_free, in_free, sc_0, e1]
      refine call_ok (Clip.ok sh) (by simp only [evA, evB, evT, evD, seval, in_free]) ?_
      simp only [evA, evB, evT, evD, seval, cx_free, in_free, in_len, in_push, i1, i2, key2 2 (by decide), sc_0]
      rfl
    · have hps := psV_bd f 1 4 (.inr rfl) xs
      rw [show psV f 1 4 xs = preV 4 f (gm xs xs.length) from rfl] at hps
      simp only [evA, evB, evT, evD, seval, cx_free, in_free, sc_1, Int.toNat_natCast]
      refine call_ok (fpass.ok f 4 hf' (.inr rfl) xs hll hn) (by simp only [evA, evB, evT, evD, seval, cx_free]) ?_
      simp only [evA, evB, evT, evD, seval, cx_free, in_free, sc_1, e1]
      refine call_ok (four_np inv (fB f - 2) (preV 4 f (gm xs xs.length)) m xs _ H hlen hp' htl ⟨by omega, hps, hm⟩ (fM_31 hf' hn) htab) (by simp only [evA, evB, evT, evD, seval, cx_free]) ?_
      simp only [evA, evB, evT, evD, seval, cx_free, in_free, sc_1, e1]
      refine call_ok (Clip.ok sh) (by simp only [evA, evB, evT, evD, seval, in_free]) ?_
      simp only [evA, evB, evT, evD, seval, cx_free, in_free, in_len, in_push, i1, i2, key2 (preV 4 f (gm xs xs.length)) hps, sc_1]
      rfl
    · simp only [evA, evB, evT, evD, seval, cx_free, in_free, sc_2, Int.toNat_natCast]
      refine call_ok (bpass.ok 4 xs) (by simp only [evA, evB, evT, evD, seval, cx_free]) ?_
      simp only [evA, evB, evT, evD, seval, cx_free, in_free, sc_2, e1]
      refine call_ok (four_np inv (fB f - 2) 0 m xs _ H hlen hp' htl ⟨by omega, (by decide), hm⟩ (fM_31 hf' hn) htab) (by simp only [evA, evB, evT, evD, seval, cx_free]) ?_
      simp only [evA, evB, evT, evD, seval, cx_free, in_free, sc_2, e1]
      refine call_ok (Clip.ok sh) (by simp only [evA, evB, evT, evD, seval, in_free]) ?_
      simp only [evA, evB, evT, evD, seval, cx_free, in_free, in_len, in_push, i1, i2, key2 0 (by decide), sc_2]
      refine call_ok (hC 4 H) (by simp only [evA, evB, evT, evD, seval, cx_free]) ?_
      have hN : blkV (nxB f log 2 m inv ⟨xs, e, sat, sh⟩ (4, H)) = .agg [.sl 2 (cxRows (clL f (npV inv (fB f - 2) 0 m xs (tabV log (fB f - 2)) (4, H)))), .int (e + 0), .bool (sat || decide (¬ clL f (npV inv (fB f - 2) 0 m xs (tabV log (fB f - 2)) (4, H)) = (npV inv (fB f - 2) 0 m xs (tabV log (fB f - 2)) (4, H)))), .sl 1 (intRows (sh ++ [0]))] := rfl
      rw [hN]
      generalize decide (¬ clL f (npV inv (fB f - 2) 0 m xs (tabV log (fB f - 2)) (4, H)) = (npV inv (fB f - 2) 0 m xs (tabV log (fB f - 2)) (4, H))) = q
      cases sat <;> cases q
      all_goals
        simp only [evA, evB, evT, evD, seval, cx_free, in_free, in_len]
end Go.Proofs.YtnnjjblgilibgaaGreatV

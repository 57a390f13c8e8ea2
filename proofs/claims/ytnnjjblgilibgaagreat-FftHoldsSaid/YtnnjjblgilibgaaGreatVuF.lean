import Derived.Test.YtnnjjblgilibgaaGreatVuD
import Derived.Test.YtnnjjblgilibgaaGreatVuE
import Derived.Test.YtnnjjblgilibgaaGreatVtY
/- FftHolds answers true. -/
namespace Go.Proofs.YtnnjjblgilibgaaGreatV
open Go Go.RowKit
set_option linter.unusedVariables false
set_option linter.unusedSimpArgs false
set_option maxRecDepth 100000
set_option maxHeartbeats 40000000
theorem fine29 : Fine Tryz.prog 29 := fun _ _ => by kernel_rfl
theorem fine8 : Fine Tryz.prog 8 := fun _ _ => by kernel_rfl
theorem within15.ok (f : Int) (hf : fmt f) (xs : List (Int × Int)) (hl : xs.length ≤ 1000000) (h : mants f xs) : Ok Tryz.prog 29 [.sl 2 (cxRows xs), .int f] (.bool true) := by
  refine ok_of (X := fun _ => []) (Z := fun _ => false) (res := [ResultVar.tmp 4]) tok follows Tryz.func29 rfl rfl fine29 (by kernel_rfl) (by kernel_rfl) ?_
  simp only [evA, evT, evD, seval, cx_len, cx_free]
  refine l_inv (fun i => ⟨[(15, .int i), (14, .int xs.length), (13, .sl 2 (cxRows xs)), (1, .int f)], [], 0⟩) xs.length ?_ (fun i hi K hK => ?_) (fun K => ?_)
  · refine weak_of (fun l => l) rfl trivial ?_
    simp only [evA, evB, evT, evD, seval, cx_free, Int.natCast_zero]
  · have h1 : (i : Int) < xs.length := by omega
    have h2 : (0 : Int) ≤ i := by omega
    have h3 : IntKind.i64.wrap ((i : Int) + 1) = i + 1 := wr (by omega)
    have hm := h _ (List.getElem_mem hi)
    rw [← getD_at (d := (0, 0)) hi] at hm
    have c1 := cl_id hm.1
    have c2 := cl_id hm.2
    simp only [evA, evT, evD, seval, h1, h2, h3, cx_len, Int.toNat_natCast, cx_getD hi]
    refine call_ok (Clamp.ok _ f hf) rfl ?_
    simp only [evA, evT, evD, seval, c1]
    refine call_ok (Clamp.ok _ f hf) rfl ?_
    simp only [evA, evT, evD, seval, c1, c2, h3]
    refine hK _ (weak_of (fun l => l) rfl trivial ?_)
    simp only [evA, evB, evT, evD, seval, cx_free, Int.natCast_add, Int.natCast_one]
  · simp only [evA, evT, evD, seval]
/-- All numbers are 0. -/
def allZ (xs : List (Int × Int)) : Prop := ∀ x ∈ xs, x = ((0 : Int), (0 : Int))
theorem getD_z {xs : List (Int × Int)} (h : allZ xs) (i : Nat) : xs.getD i (0, 0) = (0, 0) := by
  rw [List.getD_eq_getElem?_getD]
  cases e : xs[i]? with
  | none => rfl
  | some x => exact h x (List.mem_of_getElem? e)
theorem tU_z (B s m : Int) (w : Int × Int) : tU B s m (0, 0) (0, 0) w = (0, 0) := by
  unfold tU
  simp only [Int.zero_mul, Int.sub_zero, Int.add_zero, rsh_0]
theorem tD_z (B s m : Int) (w : Int × Int) : tD B s m (0, 0) (0, 0) w = (0, 0) := by
  unfold tD
  simp only [Int.zero_mul, Int.sub_zero, Int.add_zero, rsh_0]
theorem qV_z (inv : Bool) (B s m u1 v1 u2 v2 u3 v3 q : Int) : qV inv B s m 0 0 0 0 0 0 0 0 u1 v1 u2 v2 u3 v3 q = (0, 0) := by
  unfold qV qRe qIm
  simp only [Int.zero_mul, Int.sub_zero, Int.add_zero, (tRI_0 _).1, (tRI_0 _).2, rsh_0]
theorem np_z {inv : Bool} {B s m : Int} {xs ws : List (Int × Int)} {p : Int × Int} (h : allZ xs) : allZ (npV inv B s m xs ws p) := by
  intro y hy
  unfold npV at hy
  split at hy
  · obtain ⟨i, hi, rfl⟩ := pV_mem hy
    unfold pT bT bq
    simp only [getD_z h]
    exact qV_z ..
  · obtain ⟨i, hi, rfl⟩ := t2V_mem hy
    unfold tV
    simp only [getD_z h]
    split
    · exact tU_z ..
    · exact tD_z ..
theorem clL_z {f : Int} (hf : fmt f) {xs : List (Int × Int)} (h : allZ xs) : allZ (clL f xs) := by
  intro y hy
  unfold clL at hy
  obtain ⟨x, hx, rfl⟩ := List.mem_map.1 hy
  rw [h x hx]
  have : cl f 0 = 0 := cl_id (small_1 hf (by decide))
  unfold clp
  rw [this]
theorem gm_z {xs : List (Int × Int)} (h : allZ xs) : gm xs xs.length = 0 := by
  have h1 : nears 0 xs := fun x hx => by rw [h x hx]; unfold win; decide
  have h2 : nears 2147483648 xs := fun x hx => by rw [h x hx]; unfold win; decide
  have := gm_in (Int.le_refl 0) h1 _ (Nat.le_refl _)
  have := gm_nn h2
  omega
theorem z_gm {xs : List (Int × Int)} (h : gm xs xs.length = 0) : allZ xs := by
  intro x hx
  have := nears_gm x hx
  rw [h] at this
  unfold win at this
  exact Prod.ext (by show x.1 = 0; omega) (by show x.2 = 0; omega)
theorem nx_z {f s m : Int} (hf : fmt f) {log : Nat} {inv : Bool} {b : Blk} {p : Int × Int} (hk : p.1 = 2 ∨ p.1 = 4) (h : allZ b.xs) : allZ (nxB f log s m inv b p).xs ∧ (s = 1 → (nxB f log s m inv b p).e = b.e) := by
  constructor
  · rw [nxB_xs]
    split
    · exact clL_z hf (np_z h)
    · exact np_z h
  · rintro rfl
    show b.e + preV p.1 f (gm b.xs b.xs.length) = b.e
    rw [gm_z h]
    have : preV p.1 f 0 = 0 := by
      have := fM_le hf
      unfold preV
      split
      · rw [if_pos (by omega)]
      · rw [if_pos (by omega)]
    omega
theorem ps_z {f s m : Int} (hf : fmt f) {log : Nat} {inv : Bool} : ∀ (l : List (Int × Int)) (b : Blk), (∀ p ∈ l, p.1 = 2 ∨ p.1 = 4) → allZ b.xs → allZ (psB f log s m inv l b).xs ∧ (s = 1 → (psB f log s m inv l b).e = b.e)
  | [], b, _, h => ⟨h, fun _ => rfl⟩
  | p :: l, b, hp, h => by
    have h1 := nx_z (s := s) (m := m) (log := log) (inv := inv) hf (hp p (List.mem_cons_self ..)) h
    have h2 := ps_z (s := s) (m := m) (log := log) (inv := inv) hf l (nxB f log s m inv b p) (fun q hq => hp q (List.mem_cons_of_mem _ hq)) h1.1
    exact ⟨h2.1, fun e => (h2.2 e).trans (h1.2 e)⟩
theorem sh_z {s m : Int} {xs : List (Int × Int)} (h : allZ xs) : allZ (shL s m xs) := by
  intro y hy
  obtain ⟨x, hx, rfl⟩ := List.mem_map.1 hy
  rw [h x hx]
  unfold shV
  split
  · simp only [rsh_0]
  · simp
theorem flip_z' {log : Nat} {xs : List (Int × Int)} (h : allZ xs) : allZ (flipL log xs) := by
  intro y hy
  unfold flipL flipP at hy
  obtain ⟨i, _, rfl⟩ := List.mem_map.1 hy
  exact getD_z h _
theorem rd_z {f k s m : Int} {log : Nat} {xs : List (Int × Int)} (h : allZ xs) : allZ (rdB f log k s m xs).xs ∧ (s = 1 → (rdB f log k s m xs).e = 0) := by
  have hp : allZ (plL k log xs) := by
    unfold plL
    split
    · exact h
    · exact flip_z' h
  refine ⟨sh_z hp, ?_⟩
  rintro rfl
  show -rmV f (gm (plL k log xs) (plL k log xs).length) = 0
  rw [gm_z hp]
  rfl
theorem eq_rep {xs : List (Int × Int)} (h : allZ xs) : xs = List.replicate xs.length (0, 0) := List.eq_replicate_iff.2 ⟨rfl, h⟩
theorem rn_z {f k s m : Int} {inv : Bool} {log : Nat} (hp : pOk f log k s m) {xs : List (Int × Int)} (hx : xs.length = 2 ^ log) (h : allZ xs) : allZ (rnB f log k s m inv xs).xs ∧ (s = 1 → (rnB f log k s m inv xs).e = 0) := by
  have hf := fmt_of hp
  have hl : 2 ≤ log ∧ log ≤ 6 := by have := hp.2.1; omega
  have hr := rd_z (f := f) (k := k) (s := s) (m := m) (log := log) h
  have hB := fB_or f
  unfold rnB
  split
  · rename_i hk
    refine ⟨?_, fun e => ?_⟩
    · have hlen : (rdB f log k s m xs).xs.length = 2 ^ log := by
        show (shL _ m (plL k log xs)).length = _
        rw [List.length_map, plL_len hx]
      have e := eq_rep hr.1
      rw [hlen] at e
      show allZ (runL (tabV log (fB f - 2)) inv (fB f - 2) m log (rdB f log k s m xs).xs)
      rw [e, runL_const log inv (fB f - 2) m (by omega) (0, 0) log]
      intro y hy
      unfold impL at hy
      obtain ⟨i, _, rfl⟩ := List.mem_map.1 hy
      split <;> rfl
    · have := hp.2.2.2.2.2 hk
      omega
  · have := ps_z (s := s) (m := m) (log := log) (inv := inv) hf (passL log k) (rdB f log k s m xs) (fun p hp' => by
      have := pass_of hl hp'
      cases this <;> simp) hr.1
    exact ⟨this.1, fun e => (this.2 e).trans (hr.2 e)⟩
theorem rn_mants {f k s m : Int} {inv : Bool} {log : Nat} (hp : pOk f log k s m) {xs : List (Int × Int)} (hx : xs.length = 2 ^ log) (h : mants f xs) : mants f (rnB f log k s m inv xs).xs := by
  have hf := fmt_of hp
  have hl : 2 ≤ log ∧ log ≤ 6 := by have := hp.2.1; omega
  have hB := fB_or f
  by_cases hk : k = 2
  · subst hk
    obtain rfl := hp.2.2.2.2.2 rfl
    have hS := split_of hf hp.2.2.2.2.1 hl hx h
    obtain ⟨c1, c2, c3⟩ := r0_fM hf (j := 3) (by decide)
    have e : (rnB f log 2 0 m inv xs).xs = runL (tabV log (fB f - 2)) inv (fB f - 2) m log (rdB f log 2 0 m xs).xs := rfl
    rw [e]
    have hn := runL_nrm log inv (fB f - 2) m (r0S f) (by omega) hl.2 (r0_nn f) log (rdB f log 2 0 m xs).xs (by have := r0_le f; omega) (r0_x hS.hx)
    intro x hx'
    have hw := nrm_comp (hn x hx') (by have := r0_nn f; omega)
    unfold win at hw
    unfold mant
    omega
  · have hv := rn_inv (inv := inv) hp hx h hk
    exact good_mants hf (passL_len hl) hv.gd
theorem nx_sat {f s m : Int} {log : Nat} {inv : Bool} {b : Blk} {p : Int × Int} (hs : ¬ s = 2) : (nxB f log s m inv b p).sat = b.sat := if_neg hs
theorem ps_sat {f s m : Int} {log : Nat} {inv : Bool} (hs : ¬ s = 2) : ∀ (l : List (Int × Int)) (b : Blk), (psB f log s m inv l b).sat = b.sat
  | [], b => rfl
  | p :: l, b => (ps_sat hs l (nxB f log s m inv b p)).trans (nx_sat hs)
theorem bits5 {f : Int} (hf : fmt f) : IntKind.i64.wrap (fB f - 5) = fB f - 5 ∧ 0 ≤ fB f - 5 ∧ IntKind.i64.wrap (1 * 2 ^ min (fB f - 5).toNat IntKind.i64.bits) = fM f / 32 := by rcases hf with rfl | rfl <;> decide
theorem FftHolds.true (xs : List (Int × Int)) (f l k s m : Int) (i : Bool) : Ok Tryz.prog 8 [.sl 2 (cxRows xs), plV f l k s m i] (.bool true) := by
  refine ok_of (X := fun _ => []) (Z := fun _ => false) (res := [ResultVar.tmp 4]) tok follows Tryz.func8 rfl rfl fine8 (by kernel_rfl) (by kernel_rfl) ?_
  simp only [evA, evB, evT, evD, seval, cx_len, min70T, min70T_le, min70T_0, Int.toNat_natCast, cx_takeT, cx_free]
  have hX := take_lenT (xs := xs)
  generalize xs.take (min xs.length 70) = X at *
  rcases ready_or f l k s m i X with ⟨g, log, rfl, hp, hx, hn⟩ | ⟨g, hR⟩
  · have hR := fRun.ok f k s m i log hp X hx hn
    have hRd := Ready.ok f k s m i log hp X hx hn
    have hf := fmt_of hp
    have hs := hp.2.2.2.1
    have hl : 2 ≤ log ∧ log ≤ 6 := by have := hp.2.1; omega
    have hi0 := rd_inv (k := k) (m := m) hf hs hl hx hn
    have h31 := fM_31 hf (mants_near hn)
    have hm0 := good_mants hf (by decide) hi0.gd
    have hmw := rn_mants (inv := i) hp hx hn
    have hlen := rn_len (i := i) hp hx hn
    have hW31 := fM_31 hf (mants_near hmw)
    have hz : gm X X.length = 0 → gm (rnB f log k s m i X).xs (rnB f log k s m i X).xs.length = 0 ∧ (s = 1 → (rnB f log k s m i X).e = 0) := fun h0 => by
      have := rn_z (inv := i) hp hx (z_gm h0)
      exact ⟨gm_z this.1, this.2⟩
    have hgr : s = 1 → 0 < gm X X.length → fM f / 32 ≤ gm (rnB f log k s m i X).xs (rnB f log k s m i X).xs.length := fun e h0 => by
      subst e
      exact rn_great hp hx hn h0
    have hg0 := gm_nn h31
    have hB5 := bits5 hf
    have hw0 := within15.ok f hf (rdB f log k s m X).xs (by rw [hi0.len]; have := pow64F hl; omega) hm0
    have hww := within15.ok f hf (rnB f log k s m i X).xs (by omega) hmw
    have hsame := Same15.ok (rnB f log k s m i X) (by omega) (by omega)
    have hMw := Max.ok (rnB f log k s m i X).xs (by omega) hW31
    have hMx := Max.ok X (by omega) h31
    have tail : ∀ W : Blk, W = rnB f log k s m i X → True := fun _ _ => trivial
    refine call_ok hR (by simp only [evA, evB, evT, evD, seval, cx_free, in_free]) ?_
    simp only [evA, evB, evT, evD, seval, cx_free, in_free]
    refine call_ok hRd (by simp only [evA, evB, evT, evD, seval, cx_free, in_free]) ?_
    simp only [evA, evB, evT, evD, seval, cx_free, in_free]
    by_cases hk2 : k = 2
    · subst hk2
      obtain rfl := hp.2.2.2.2.2 rfl
      refine call_ok (Passes.split f log 2 0 m i hp rfl) rfl ?_
      simp only [evA, evB, evT, evD, seval, cx_free, in_free]
      refine call_ok hw0 rfl ?_
      simp only [evA, evB, evT, evD, seval, cx_free, in_free]
      refine call_ok alive15.ok rfl ?_
      simp only [evA, evB, evT, evD, seval, cx_free, in_free]
      refine ⟨1, l_succ ?_⟩
      simp only [evA, evB, evT, evD, seval, cx_free, in_free]
      refine call_ok hMw rfl ?_
      simp only [evA, evB, evT, evD, seval, cx_free, in_free]
      refine call_ok (Bits.ok f hf) rfl ?_
      simp only [evA, evB, evT, evD, seval, cx_free, in_free]
      refine call_ok hMx rfl ?_
      simp only [evA, evB, evT, evD, seval, cx_free, in_free]
      refine call_ok hww rfl ?_
      by_cases h0 : gm X X.length = 0
      · simp only [evA, evB, evT, evD, seval, cx_free, in_free, h0, (hz h0).1]
      · simp only [evA, evB, evT, evD, seval, cx_free, in_free, h0]
    · have hk : k = 0 ∨ k = 1 := by have := hp.2.2.1; omega
      have hpl := passL_len (k := k) hl
      have hinv := ps_inv (k := k) (inv := i) hf hs hp.2.2.2.2.1 hl hi0
      have hr : rnB f log k s m i X = psB f log s m i (passL log k) (rdB f log k s m X) := if_neg hk2
      obtain ⟨B, hB⟩ : ∃ B : Nat → Blk, B = fun j => psB f log s m i ((passL log k).take j) (rdB f log k s m X) := ⟨_, rfl⟩
      have hB0 : B 0 = rdB f log k s m X := by rw [hB]; rfl
      have hBn : B (passL log k).length = rnB f log k s m i X := by rw [hB, hr]; dsimp only; rw [List.take_length]
      have hBs : ∀ j, j < (passL log k).length → nxB f log s m i (B j) ((passL log k).getD j (0, 0)) = B (j + 1) := fun j hj => by
        rw [hB]
        dsimp only
        rw [List.take_succ_eq_append_getElem hj, psB_snoc, getD_at hj]
      have hv : ∀ j, j ≤ (passL log k).length → Inv f log s j (B j) := fun j hj => by rw [hB]; exact hinv j hj
      have hsat : ¬ s = 2 → ∀ j, (B j).sat = Bool.false := fun h j => by rw [hB]; exact ps_sat h _ _
      have hnext : ∀ j (hj : j < (passL log k).length), Ok Tryz.prog 24 [blkV (B j), plV f log k s m i, .int j] (.tup [blkV (B (j + 1)), .int 0]) := fun j hj => by
        have hvj := hv j (by omega)
        have he := hvj.e
        rw [← hBs j hj]
        exact Next.ok f k s m i log (B j) j hp hk hj hvj.len (mants_near (good_mants hf (by omega) hvj.gd)) (by omega) (by rw [hvj.sh]; omega)
      have hwith : ∀ j, j < (passL log k).length → Ok Tryz.prog 29 [.sl 2 (cxRows (B (j + 1)).xs), .int f] (.bool Bool.true) := fun j hj => by
        have hvj := hv (j + 1) (by omega)
        exact within15.ok f hf _ (by rw [hvj.len]; have := pow64F hl; omega) (good_mants hf (by omega) hvj.gd)
      clear hinv hB hr
      refine call_ok (Passes.ok f log k s m i hp hk) (by simp only [evA, evB, evT, evD, seval, pRows_cx, cx_free]) ?_
      simp only [evA, evB, evT, evD, seval, cx_free, in_free, pRows_cx, cx_len]
      refine call_ok hw0 rfl ?_
      simp only [evA, evB, evT, evD, seval, cx_free, in_free, pRows_cx, cx_len]
      refine call_ok alive15.ok rfl ?_
      simp only [evA, evB, evT, evD, seval, cx_free, in_free, pRows_cx, cx_len]
      refine l_inv (fun j => ⟨[(71, .int j), (70, .int (passL log k).length), (7, .loc 2 0), (5, .loc 1 0), (3, .loc 0 0), (0, .sl 2 (cxRows X))],
        [(2, some (.box [.sl 2 (cxRows (B j).xs), .int (B j).e, .bool (B j).sat, .sl 1 (intRows (B j).sh)])),
         (1, some (.box [.sl 2 (cxRows (rnB f log k s m i X).xs), .int (rnB f log k s m i X).e, .bool (rnB f log k s m i X).sat, .sl 1 (intRows (rnB f log k s m i X).sh)])), (0, some (.box [.int f, .int log, .int k, .int s, .int m, .bool i]))], 3⟩) (passL log k).length ?_ (fun j hj K hK => ?_) (fun K => ?_)
      · refine weak_of (fun l => l) rfl ?_ ?_
        all_goals simp only [evA, evB, evT, evD, seval, cx_free, in_free, hB0, Int.natCast_zero]
      · have q0 : (j : Int) < ((passL log k).length : Int) := by omega
        have q1 : IntKind.i64.wrap ((j : Int) + 1) = ((j + 1 : Nat) : Int) := by rw [wr (by omega)]; omega
        simp only [evA, evB, evT, evD, seval, q0, cx_free, in_free]
        refine call_ok (hnext j hj) (by simp only [evA, evB, evT, evD, seval, cx_free, in_free]) ?_
        simp only [evA, evB, evT, evD, seval, q1, cx_free, in_free]
        refine call_ok (hwith j hj) rfl ?_
        by_cases hs2 : s = 2
        · simp only [evA, evB, evT, evD, seval, q1, cx_free, in_free, hs2]
          refine hK _ (weak_of (fun l => l) rfl ?_ ?_)
          all_goals simp only [evA, evB, evT, evD, seval, cx_free, in_free, hs2]
        · simp only [evA, evB, evT, evD, seval, q1, cx_free, in_free, hs2, hsat hs2]
          refine hK _ (weak_of (fun l => l) rfl ?_ ?_)
          all_goals simp only [evA, evB, evT, evD, seval, cx_free, in_free, hsat hs2]
      · simp only [evA, evB, evT, evD, seval, cx_free, in_free, hBn]
        refine call_ok hMw rfl ?_
        simp only [evA, evB, evT, evD, seval, cx_free, in_free]
        refine call_ok (Bits.ok f hf) rfl ?_
        simp only [evA, evB, evT, evD, seval, cx_free, in_free]
        refine call_ok hMx rfl ?_
        simp only [evA, evB, evT, evD, seval, cx_free, in_free]
        refine call_ok hww rfl ?_
        by_cases h0 : gm X X.length = 0
        · simp only [evA, evB, evT, evD, seval, cx_free, in_free, h0, (hz h0).1, hk2]
          refine call_ok hsame rfl ?_
          by_cases hs1 : s = 1
          · subst hs1
            have he0 := (hz h0).2 rfl
            simp only [evA, evB, evT, evD, seval, cx_free, in_free, h0, (hz h0).1, hk2, he0]
          · simp only [evA, evB, evT, evD, seval, cx_free, in_free, h0, (hz h0).1, hk2, hs1]
        · have h0' : 0 < gm X X.length := by omega
          simp only [evA, evB, evT, evD, seval, cx_free, in_free, h0, h0', hk2]
          refine call_ok hsame rfl ?_
          by_cases hs1 : s = 1
          · have hgg := hgr hs1 h0'
            subst hs1
            simp only [evA, evB, evT, evD, seval, cx_free, in_free, h0, h0', hk2, hB5.1, hB5.2.1, hB5.2.2, ge_iff_le]
            exact congrArg AV.bool (decide_eq_true hgg)
          · simp only [evA, evB, evT, evD, seval, cx_free, in_free, h0, h0', hk2, hs1]
  · have hR := fRun.bad f l k s m _ i X g hR
    generalize whyM f l k s m (fM f - 1) X = e at *
    refine call_ok hR rfl ?_
    simp only [evA, evB, evT, evD, seval, cx_free, in_free, g]
    refine call_ok alive15.ok rfl ?_
    simp only [evA, evB, evT, evD, seval]
end Go.Proofs.YtnnjjblgilibgaaGreatV

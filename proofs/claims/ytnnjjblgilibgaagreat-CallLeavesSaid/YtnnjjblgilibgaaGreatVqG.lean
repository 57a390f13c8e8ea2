import Derived.Test.YtnnjjblgilibgaaGreatVqF
/- CallLeaves answers true. -/
namespace Go.Proofs.YtnnjjblgilibgaaGreatV
open Go Go.RowKit
set_option linter.unusedVariables false
set_option linter.unusedSimpArgs false
set_option maxRecDepth 100000
set_option maxHeartbeats 40000000
theorem fine10 : Fine Tryz.prog 10 := fun _ _ => by kernel_rfl
/-! Functions that give back what they were given. -/
def outG2 (k : Nat) (id : Option Nat) (lb : Nat → Option LB) (x : AV) : AV :=
  match x with
  | .own l => if Nat.blt l k then .own l else outG k id lb (.own l)
  | x => outG k id lb x
theorem outG2_own {k l : Nat} {id : Option Nat} {lb : Nat → Option LB} (h : l < k) : outG2 k id lb (.own l) = .own l := if_pos (Nat.ble_eq_true_of_le h)
theorem outG2_not {k : Nat} {id : Option Nat} {lb : Nat → Option LB} {x : AV} (h : ¬ ∃ l, x = .own l ∧ l < k) : outG2 k id lb x = outG k id lb x := by
  unfold outG2
  split
  · rename_i l
    exact if_neg fun g => h ⟨l, rfl, blt_lt g⟩
  · rfl
def endG2 (tt : TypeId → Option TI) (res : List ResultVar) (L' : List LB) (id : Option Nat) (nw : Option LB) (r : AV) : Exit → St → Prop
  | .normal, s => resK tt s (fun l => keptK s.lb 0 L' ∧ newK s.lb L'.length id nw ∧ retAV (l.map (outG2 L'.length id s.lb)) = r) res []
  | .ret, s => resK tt s (fun l => keptK s.lb 0 L' ∧ newK s.lb L'.length id nw ∧ retAV (l.map (outG2 L'.length id s.lb)) = r) res []
  | _, _ => False
section
variable {P : Program} {tt : TypeId → Option TI} (hT : TOk P tt)
include hT
theorem okg_of2 (hm : P.follows .mixedOrders = true) {X : Nat → List (List Operand)} {Z : Nat → Bool} {F : FuncId} {fn : Func} {c : Code} {L L' : List LB} {args : List AV} {id : Option Nat} {nw : Option LB} {r : AV} {res : List ResultVar} (hf : P.funcs[F]? = some fn) (hb : fn.body = some c) (hres : fn.results.toList = res) (hF : Fine P F) (hc : codeOk X fn.ntmps c = true) (hn : Nat.ble args.length fn.ntmps = true) (hlen : L'.length = L.length) (h : evc P tt X Z L.length c (endG2 tt res L' id nw r) (entryG L args)) : OkG P F L args L' nw r := by
  subst hres
  refine ⟨hF, hlen, fun w φ0 N vs hN hl hr hL hap hno => ?_⟩
  refine (callsIn_wide (n := 9)).1 (callsIn_of_wp_marks hf hb trivial (wpIn_wide.2 ?_) rfl)
  have hn := Nat.le_of_ble_eq_true hn
  have hsome : ∀ l, l < L.length → ∃ v, φ0 l = some v ∧ ∀ b, vblock v = some b → b < w.heap.size ∧ ¬ N b := by
    intro l hl
    obtain ⟨v, hv, _, hb⟩ := (hL l _ (List.getElem?_eq_getElem hl)).place
    exact ⟨v, hv, fun b h => (hb b h).2⟩
  have hlbl : ∀ l B, (entryG L args).lb l = some B → L[l]? = some B := fun l B h => by
    have := (look_lbls L 0 l B h).2
    simpa using this
  have ht : TelS fn.ntmps w φ0 ⟨N, fun _ => none, 0, w.heap.size⟩ (entryG L args) { tmps := vs.toArray ++ Array.replicate (fn.ntmps - vs.toArray.size) undef, defers := [] } w := by
    refine ⟨φ0, N, ⟨.none (Nat.le_refl _), by simp; omega, But.refl _ _, fun _ _ h => h, hN, fun b h => .inl h, fun t x hx => entry_env hl hr hx, fun l B h => hL l B (hlbl l B h), fun l B v b _ hv hb => .inl ⟨l, v, hv, hb⟩, fun l l' B B' v v' b hne h h' => hap l l' v v' b hne (getElem?_lt (hlbl l B h)) (getElem?_lt (hlbl l' B' h')), fun l hl => hno l (Nat.le_of_not_lt hl)⟩⟩
  refine evc_sound hT hm c _ none _ _ hno (.inl rfl) _ _ hc (fun e s a w1 hq ht => ?_) _ _ _ h ht
  have hend : resK tt s (fun l => keptK s.lb 0 L' ∧ newK s.lb L'.length id nw ∧ retAV (l.map (outG2 L'.length id s.lb)) = r) fn.results.toList [] → LeavesInM Fence.wide 9 P fn a.tmps (fun e w' => ∃ v' φ' N', e = .returned v' ∧ But (blocks φ0 L.length) w w' ∧ (∀ b, N' b → N b ∨ (w.heap.size ≤ b ∧ b < w'.heap.size)) ∧ (∀ l, l < L.length → φ' l = φ0 l) ∧ (∀ l, L.length < l → φ' l = none) ∧
      (∀ l B, L'[l]? = some B → Holds w' φ' N' 0 l B) ∧ (∀ B, nw = some B → Holds w' φ' N' 0 L.length B ∧ ∀ v b, φ' L.length = some v → vblock v = some b → w.heap.size ≤ b) ∧ (nw = none → φ' L.length = none) ∧ Rep w' φ' N' r v') a.defers .returning w1 := by
    intro hq
    obtain ⟨φ, N1, R0⟩ := ht
    refine leaves_of R0 (Nat.le_refl _) fun w' R => ?_
    rw [← hlen] at hsome ⊢
    -- which labels are kept
    have hkk : keptK s.lb 0 L' ∧ newK s.lb L'.length id nw := by
      obtain ⟨l, us, h1, _⟩ := res_run hT R _ _ hq
      exact ⟨h1.1, h1.2.1⟩
    obtain ⟨hk, hnk⟩ := hkk
    have hkept : ∀ l, l < L'.length → ∃ B v, L'[l]? = some B ∧ s.lb l = some B ∧ B.free = true ∧ φ0 l = some v ∧ φ l = some v := by
      intro l hl
      obtain ⟨h1, h2⟩ := kept_get hk (List.getElem?_eq_getElem hl)
      rw [Nat.zero_add] at h1
      obtain ⟨v, hv, _⟩ := hsome l hl
      exact ⟨_, v, List.getElem?_eq_getElem hl, h1, h2, hv, R.ext l v hv⟩
    have hPB : ∀ b, PB φ0 b → ∃ l v, l < L'.length ∧ φ0 l = some v ∧ vblock v = some b := by
      rintro b ⟨l, v, hv, hb⟩
      refine ⟨l, v, ?_, hv, hb⟩
      rcases Nat.lt_or_ge l L'.length with h | h
      · exact h
      · rw [hno l (by omega)] at hv; cases hv
    -- a label that is none of the first ones lies in a new block
    have hnew : ∀ l B v b, ¬ l < L'.length → s.lb l = some B → φ l = some v → vblock v = some b → w.heap.size ≤ b := by
      intro l B v b hl hB hv hb
      rcases R.mine l B v b hB hv hb with h | h
      · obtain ⟨l0, v0, h0, h1, h2⟩ := hPB b h
        obtain ⟨B0, v1, _, g1, _, g2, g3⟩ := hkept l0 h0
        rw [h1] at g2
        obtain rfl := Option.some.inj g2
        exact absurd hb (R.disj l0 l B0 B v0 v b (by omega) g1 hB g3 hv h2)
      · exact h
    have hhide : ∀ l B, hide L'.length id s.lb l = some B → ¬ l < L'.length ∧ id ≠ some l ∧ s.lb l = some B := by
      intro l B h
      unfold hide at h
      split at h
      · cases h
      · rename_i hl
        have hl' : ¬ l < L'.length := fun h' => hl (Nat.ble_eq_true_of_le h')
        split at h
        · exact ⟨hl', by simp, h⟩
        · split at h
          · cases h
          · rename_i i hli
            refine ⟨hl', fun e => ?_, h⟩
            obtain rfl := Option.some.inj e
            exact hli (Nat.beq_refl _)
    let φ' : Nat → Option Value := fun l => if l < L'.length then φ0 l else if l = L'.length then id.bind φ else none
    let N' : Nat → Prop := NL N1 φ (hide L'.length id s.lb)
    have hfar : ∀ l B v b, (l < L'.length ∨ id = some l) → s.lb l = some B → φ l = some v → vblock v = some b → ¬ N' b := by
      rintro l B v b hl hB hv hb (h | ⟨l', v', B', h1, h2, h3⟩)
      · obtain ⟨u, hu, _, hub⟩ := (R.lbl l B hB).place
        rw [hv] at hu
        obtain rfl := Option.some.inj hu
        exact (hub b hb).2.2 h
      · obtain ⟨g1, g2, g3⟩ := hhide l' B' h1
        refine R.disj l l' B B' v v' b (fun e => ?_) hB g3 hv h2 hb h3
        subst e
        rcases hl with hl | hl
        · exact g1 hl
        · exact g2 hl
    have hφlow : ∀ l v, l < L'.length → φ l = some v → φ' l = some v := by
      intro l v hl hv
      obtain ⟨_, u, _, _, _, h1, h2⟩ := hkept l hl
      rw [hv] at h2
      obtain rfl := Option.some.inj h2
      show (if l < L'.length then _ else _) = _
      rw [if_pos hl, h1]
    have hout : ∀ x v, Rep w' φ N1 x v → Rep w' φ' N' (outG2 L'.length id s.lb x) v := by
      intro x v hx
      by_cases hkx : ∃ l, x = .own l ∧ l < L'.length
      · obtain ⟨l, rfl, hl⟩ := hkx
        rw [outG2_own hl]
        cases hx with
        | own _ _ hφ h1 => exact .own _ v (hφlow l v hl hφ) h1
      rw [outG2_not hkx]
      have hs : Rep w' φ' N' (snap (hide L'.length id s.lb) 6 x) v := (snap_ok (base := 0) (fun l B h => R.lbl l B (hhide l B h).2.2) 6 x v hx).mono (φ := fun _ => none) (fun _ _ _ _ h => h) (fun _ _ h => by cases h) (fun _ h => h)
      unfold outG
      split
      · rename_i l i
        split
        · rename_i hli
          obtain rfl := Nat.eq_of_beq_eq_true hli
          cases hx with
          | own _ _ hφ h1 =>
            refine .own _ v ?_ h1
            show (if L'.length < L'.length then _ else _) = _
            rw [if_neg (Nat.lt_irrefl _), if_pos rfl]
            exact hφ
        · exact hs
      · exact hs
    obtain ⟨l, v, h1, h2, h3⟩ := ret_run hT R hq hout
    rw [h1.2.2] at h3
    refine ⟨v, h2, v, φ', N', rfl, ⟨R.bel.os, R.bel.tape, R.bel.output, R.bel.size, fun k hk hn => R.bel.block k hk (fun h => hn (by obtain ⟨l, v, a, b, c⟩ := hPB k h; exact ⟨l, v, a, b, c⟩))⟩, ?_, fun l hl => if_pos hl, fun l hl => ?_, fun l B hB => ?_, fun B hB => ?_, fun hnone => ?_, h3⟩
    · rintro b (hb | ⟨l, v, B, g1, g2, g3⟩)
      · rcases R.nb b hb with h | h
        · exact .inl h
        · exact .inr ⟨h, R.low b hb⟩
      · obtain ⟨k1, k2, k3⟩ := hhide l B g1
        obtain ⟨u, hu, _, hub⟩ := (R.lbl l B k3).place
        rw [g2] at hu
        obtain rfl := Option.some.inj hu
        exact .inr ⟨hnew l B v b k1 k3 g2 g3, (hub b g3).2.1⟩
    · show (if l < L'.length then _ else _) = _
      rw [if_neg (by omega), if_neg (by omega)]
    · have hl' := getElem?_lt hB
      obtain ⟨B', v', e1, e2, e3, e4, e5⟩ := hkept l hl'
      rw [hB] at e1
      obtain rfl := Option.some.inj e1
      exact (R.lbl l B e2).conv e3 ((hφlow l v' hl' e5).trans e5.symm) (fun u b hu hb => hfar l B u b (.inl hl') e2 hu hb) (fun b hb => .inl hb)
    · subst hB
      cases id with
      | none => exact hnk.elim
      | some i =>
        obtain ⟨e1, e2, e3⟩ := hnk
        have e3 := Nat.le_of_ble_eq_true e3
        have hφk : φ' L'.length = φ i := by
          show (if L'.length < L'.length then _ else _) = _
          rw [if_neg (Nat.lt_irrefl _), if_pos rfl]
          rfl
        refine ⟨(R.lbl i B e1).conv e2 hφk (fun u b hu hb => hfar i B u b (.inr rfl) e1 hu hb) (fun b hb => .inl hb), fun u b hu hb => ?_⟩
        rw [hφk] at hu
        exact hnew i B u b (by omega) e1 hu hb
    · subst hnone
      cases id with
      | none =>
        show (if L'.length < L'.length then _ else _) = _
        rw [if_neg (Nat.lt_irrefl _), if_pos rfl]
        rfl
      | some i => exact hnk.elim
  cases e with
  | normal => exact hend hq
  | ret => exact hend hq
  | _ => exact hq.elim
omit hT in
theorem fg2_ret {s : St} {res : List ResultVar} {L' : List LB} {id : Option Nat} {nw : Option LB} {r : AV} : endG2 tt res L' id nw r .ret s = resK tt s (fun l => keptK s.lb 0 L' ∧ newK s.lb L'.length id nw ∧ retAV (l.map (outG2 L'.length id s.lb)) = r) res [] := rfl
end
theorem og2_raw {k : Nat} {id : Option Nat} {lb : Nat → Option LB} {v : Value} : outG2 k id lb (.raw v) = .raw v := by cases id <;> rfl
theorem og2_own {k l : Nat} {id : Option Nat} {lb : Nat → Option LB} : outG2 k id lb (.own l) = if Nat.blt l k then .own l else outG k id lb (.own l) := rfl
theorem Into.badG (f l k s m : Int) (i : Bool) (ds xs ws : List (Int × Int)) (hw : ws.length ≤ 1000000) (h : whyS f l k s m ds xs ws ≠ 0) : OkG Tryz.prog 33 [.row 43 2 (cxRows ds)] [.own 0, .sl 2 (cxRows xs), .sl 2 (cxRows ws), plV f l k s m i] [.row 43 2 (cxRows ds)] none (.tup [.own 0, .int 0, .bool Bool.false, .int (whyS f l k s m ds xs ws)]) := by
  refine okg_of2 (X := fun _ => []) (Z := fun _ => false) (res := [.tmp 8, .tmp 9, .tmp 10, .tmp 11]) tok follows Tryz.func33 rfl rfl fine33 (by kernel_rfl) (by kernel_rfl) (id := none) rfl ?_
  simp only [evA, evB, evT, evD, seval, cx_free]
  refine call_ok (Shape.ok f l k s m i ds xs ws hw) rfl ?_
  simp only [evA, evB, evT, evD, seval, cx_free, h, fg2_ret, og2_raw, og2_own]
  done
theorem Into.okG (f k s m : Int) (i : Bool) (log : Nat) (ds xs ws : List (Int × Int)) (hw : ws.length ≤ 1000000) (h : whyS f log k s m ds xs ws = 0) (hp : pOk f log k s m) (hx : xs.length = 2 ^ log) (hn : mants f xs) : OkG Tryz.prog 33 [.row 43 2 (cxRows ds)] [.own 0, .sl 2 (cxRows xs), .sl 2 (cxRows ws), plV f log k s m i] [.row 43 2 (cxRows ds)] none (.tup [.sl 2 (cxRows (rnB f log k s m i xs).xs), .int (rnB f log k s m i xs).e, .bool (rnB f log k s m i xs).sat, .int 0]) := by
  refine okg_of (X := fun _ => []) (Z := fun _ => false) (res := [ResultVar.tmp 8, ResultVar.tmp 9, ResultVar.tmp 10, ResultVar.tmp 11]) tok follows Tryz.func33 rfl rfl fine33 (by kernel_rfl) (by kernel_rfl) (id := none) rfl ?_
  simp only [evA, evB, evT, evD, seval, cx_free]
  refine call_ok (Shape.ok f log k s m i ds xs ws hw) rfl ?_
  simp only [evA, evB, evT, evD, seval, cx_free, h]
  refine call_ok (fRun.ok f k s m i log hp xs hx hn) (by simp only [evA, evT, evD, seval, cx_free, in_free]) ?_
  simp only [evA, evB, evT, evD, seval, cx_free, in_free]
theorem whyS_len {f l k s m : Int} {ds ds' xs ws : List (Int × Int)} (h : ds'.length = ds.length) : whyS f l k s m ds' xs ws = whyS f l k s m ds xs ws := by
  unfold whyS
  rw [h]
theorem rep_cxG {n : Nat} : List.replicate n [AV.raw (.int .i64 0), AV.raw (.int .i64 0)] = cxRows (List.replicate n (0, 0)) := by
  unfold cxRows
  rw [List.map_replicate]
theorem CallLeaves.true (d x t : List (Int × Int)) (f l k s m : Int) (i : Bool) : Ok Tryz.prog 10 [.sl 2 (cxRows d), .sl 2 (cxRows x), .sl 2 (cxRows t), plV f l k s m i] (.bool true) := by
  have hd := take_lenT (xs := d)
  have hx := take_lenT (xs := x)
  have ht := take_lenT (xs := t)
  have hcd := cut.ok d
  have hcx := cut.ok x
  have hct := cut.ok t
  generalize d.take (min d.length 70) = D at *
  generalize x.take (min x.length 70) = X at *
  generalize t.take (min t.length 70) = T at *
  have g2 : (0 : Int) ≤ (D.length : Int) := by omega
  have g3 : 16 * (D.length : Int) ≤ 281474976710656 := by omega
  have g4 : (D.length : Int) ≤ 9223372036854775807 := by omega
  have hZ : (List.replicate D.length ((0 : Int), (0 : Int))).length = D.length := List.length_replicate ..
  have hwz := whyS_len (f := f) (l := l) (k := k) (s := s) (m := m) (xs := X) (ws := T) hZ
  refine ok_of (X := fun r => if Nat.beq r 3 then [[], [], [], [], [], [], [.const (.bool Bool.true)]] else []) (Z := fun _ => false) (res := [ResultVar.tmp 8]) tok follows Tryz.func10 rfl rfl fine10 (by kernel_rfl) (by kernel_rfl) ?_
  simp only [evA, evB, evT, evD, seval, cx_free]
  refine call_ok hcd (by simp only [evA, evT, evD, seval, cx_free]) ?_
  simp only [evA, evB, evT, evD, seval, cx_free]
  refine call_ok hcx (by simp only [evA, evT, evD, seval, cx_free]) ?_
  simp only [evA, evB, evT, evD, seval, cx_free]
  refine call_ok hct (by simp only [evA, evT, evD, seval, cx_free]) ?_
  simp only [evA, evB, evT, evD, seval, cx_free]
  rcases why_or_s f l k s m D X T with ⟨g, log, rfl, hp, hlx, hld, hn⟩ | g
  · have hI := Into.ok f k s m i log D X T (by omega) g hp hlx hn
    have hG := Into.okG f k s m i log (List.replicate D.length (0, 0)) X T (by omega) (hwz.trans g) hp hlx hn
    have hlen := rn_len (i := i) hp hlx hn
    refine call_ok hI (by simp only [evA, evT, evD, seval, cx_free]) ?_
    simp only [evA, evB, evT, evD, seval, cx_free, cx_len, g2, g3, g4, Int.toNat_natCast, rep_cxG]
    refine call_eff [1] hG rfl (by decide) ?_ ?_ rfl ?_ ?_ ?_ ?_ ?_ rfl ?_
    all_goals simp only [evA, evB, evT, evD, seval, cx_free, cx_lt, cx_ren, lt_sl, rn_sl, lt_tup, bne_self_eq_false, not_true_eq_false, false_implies, not_false_eq_true]
    refine call_ok alive23.ok rfl ?_
    simp only [evA, evB, evT, evD, seval, cx_free]
    refine call_ok (Same.ok (rnB f log k s m i X).xs (by omega)) rfl ?_
    simp only [evA, evB, evT, evD, seval, cx_free, cx_len, hld, hlen.1]
  · have hI := Into.bad f l k s m i D X T (by omega) g
    have hG := Into.badG f l k s m i (List.replicate D.length (0, 0)) X T (by omega) (by rw [hwz]; exact g)
    rw [hwz] at hG
    generalize whyS f l k s m D X T = e at *
    refine call_ok hI (by simp only [evA, evT, evD, seval, cx_free]) ?_
    simp only [evA, evB, evT, evD, seval, cx_free, cx_len, g2, g3, g4, Int.toNat_natCast, rep_cxG]
    refine call_eff [1] hG rfl (by decide) ?_ ?_ rfl ?_ ?_ ?_ ?_ ?_ rfl ?_
    all_goals simp only [evA, evB, evT, evD, seval, cx_free, cx_lt, cx_ren, lt_sl, rn_sl, lt_tup, bne_self_eq_false, not_true_eq_false, false_implies, not_false_eq_true]
    refine call_ok alive23.ok rfl ?_
    simp only [evA, evB, evT, evD, seval, cx_free, g]
    refine call_ok (Same.ok D (by omega)) rfl ?_
    simp only [evA, evB, evT, evD, seval, cx_free, cx_len, g2, g3, g4, Int.toNat_natCast, rep_cxG]
    refine call_ok (Same.ok (List.replicate D.length (0, 0)) (by omega)) rfl ?_
    simp only [evA, evB, evT, evD, seval, cx_free]
end Go.Proofs.YtnnjjblgilibgaaGreatV

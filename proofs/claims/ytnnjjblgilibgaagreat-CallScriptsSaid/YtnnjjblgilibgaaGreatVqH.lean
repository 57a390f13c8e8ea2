import Derived.Test.YtnnjjblgilibgaaGreatVqE
import Derived.Scope
/- Contracts: scripts of calls, by the document too; a row of calls cut. -/
namespace Go.Proofs.YtnnjjblgilibgaaGreatV
open Go Go.RowKit
set_option linter.unusedVariables false
set_option linter.unusedSimpArgs false
set_option maxRecDepth 100000
set_option maxHeartbeats 40000000
theorem fine37 : Fine Tryz.prog 37 := fun _ _ => by kernel_rfl
theorem fine38 : Fine Tryz.prog 38 := fun _ _ => by kernel_rfl
theorem fine39 : Fine Tryz.prog 39 := fun _ _ => by kernel_rfl
theorem fine40 : Fine Tryz.prog 40 := fun _ _ => by kernel_rfl
/-- A call that is asked. -/
structure Cl where
  x : List (Int × Int)
  w : List (Int × Int)
  f : Int
  l : Int
  k : Int
  s : Int
  m : Int
  i : Bool
def clR (c : Cl) : List AV := [.sl 2 (cxRows c.x), .sl 2 (cxRows c.w), .int c.f, .int c.l, .int c.k, .int c.s, .int c.m, .bool c.i]
def clRows (cs : List Cl) : List (List AV) := cs.map clR
theorem cl_len {cs : List Cl} : (clRows cs).length = cs.length := by simp [clRows]
theorem cl_free : ∀ (cs : List Cl), rowsFree (clRows cs) = true
  | [] => rfl
  | c :: r => by
    show (allFree (clR c) && rowsFree (clRows r)) = true
    rw [cl_free r]
    simp only [clR, allFree, AV.free, cx_free, Bool.and_self]
theorem cl_take {cs : List Cl} {k : Nat} : (clRows cs).take k = clRows (cs.take k) := by
  unfold clRows
  rw [List.map_take]
theorem cl_drop {cs : List Cl} {k : Nat} : (clRows cs).drop k = clRows (cs.drop k) := by
  unfold clRows
  rw [List.map_drop]
theorem cl_get {cs : List Cl} {i : Nat} {c : Cl} (h : cs[i]? = some c) : (clRows cs).getD i [] = [.sl 2 (cxRows c.x), .sl 2 (cxRows c.w), .int c.f, .int c.l, .int c.k, .int c.s, .int c.m, .bool c.i] := by
  unfold clRows
  rw [List.getD_eq_getElem?_getD, List.getElem?_map, h]
  rfl
theorem cl_push {cs : List Cl} {x w : List (Int × Int)} {f l k s m : Int} {i : Bool} : clRows cs ++ [[.sl 2 (cxRows x), .sl 2 (cxRows w), .int f, .int l, .int k, .int s, .int m, .bool i]] = clRows (cs ++ [⟨x, w, f, l, k, s, m, i⟩]) := by simp [clRows, clR]
theorem take_snoc {α : Type} {l : List α} {i : Nat} {c : α} (h : l[i]? = some c) : l.take (i + 1) = l.take i ++ [c] := by
  rw [List.take_add_one, h]
  rfl
def cutL (xs : List (Int × Int)) : List (Int × Int) := xs.take (min xs.length 70)
def cutC (c : Cl) : Cl := { c with x := cutL c.x, w := cutL c.w }
theorem min22T {n : Nat} : (if (22 : Int) < n then 22 else (n : Int)) = ((min n 22 : Nat) : Int) := by
  split <;> omega
theorem min22T_le {n : Nat} : ((min n 22 : Nat) : Int) ≤ n := by omega
theorem min22T_0 {n : Nat} : (0 : Int) ≤ ((min n 22 : Nat) : Int) := by omega
def fewL (cs : List Cl) : List Cl := (cs.take (min cs.length 22)).map cutC
theorem few.ok (cs : List Cl) : Ok Tryz.prog 37 [.sl 8 (clRows cs)] (.sl 8 (clRows (fewL cs))) := by
  unfold fewL
  obtain ⟨ds, hds⟩ : ∃ ds, ds = cs.take (min cs.length 22) := ⟨_, rfl⟩
  have hlen : ds.length ≤ 22 := by rw [hds, List.length_take]; omega
  rw [← hds]
  cases hn : ds.length with
  | zero =>
    obtain rfl := List.eq_nil_of_length_eq_zero hn
    refine Ok.less (r := .raw (.slice none 0 0)) ?_ fun w φ N v h => nil_sl h
    refine ok_of (X := fun _ => []) (Z := fun _ => false) (res := [ResultVar.tmp 2]) tok follows Tryz.func37 rfl rfl fine37 (by kernel_rfl) (by kernel_rfl) ?_
    simp only [evA, evB, evT, evD, seval, cl_len, min22T, min22T_le, min22T_0, Int.toNat_natCast, cl_take, cl_free, ← hds]
    refine ⟨1, l_succ ?_⟩
    simp only [evA, evB, evT, evD, seval, cl_len, cl_free, List.length_nil, Int.natCast_zero]
    first | done | rfl
  | succ m =>
    have ht' : ds.take (m + 1) = ds := by rw [← hn, List.take_length]
    refine ok_of (X := fun _ => []) (Z := fun _ => false) (res := [ResultVar.tmp 2]) tok follows Tryz.func37 rfl rfl fine37 (by kernel_rfl) (by kernel_rfl) ?_
    simp only [evA, evB, evT, evD, seval, cl_len, min22T, min22T_le, min22T_0, Int.toNat_natCast, cl_take, cl_free, ← hds]
    refine l_inv (fun i => match i with
      | 0 => ⟨[(12, .int 0), (11, .int ds.length), (10, .sl 8 (clRows ds)), (3, .raw (.slice none 0 0))], [], 0⟩
      | i + 1 => ⟨[(12, .int ((i + 1 : Nat) : Int)), (11, .int ds.length), (10, .sl 8 (clRows ds)), (3, .own 0)], [(0, some (.row 107 8 (clRows ((ds.take (i + 1)).map cutC))))], 1⟩) (m + 1) ?_ (fun i hi K hK => ?_) (fun K => ?_)
    · refine weak_of (fun l => l) rfl trivial ?_
      simp only [evA, evB, evT, evD, seval, cl_free, cl_len]
    · obtain ⟨c, hc⟩ : ∃ c, ds[i]? = some c := ⟨_, List.getElem?_eq_getElem (by omega)⟩
      have q0 : (i : Int) < (ds.length : Int) := by omega
      have q1 : IntKind.i64.wrap ((i : Int) + 1) = ((i + 1 : Nat) : Int) := by rw [wr (by omega)]; omega
      have q2 : (0 : Int) ≤ (i : Int) := by omega
      have ht : ((ds.take i).map cutC).length = i := by rw [List.length_map, List.length_take]; omega
      have hx := cut.ok c.x
      have hw := cut.ok c.w
      have z1 : (i + 1) * 96 ≤ 140737488355328 := by omega
      have z2 : i + 1 ≤ 9223372036854775807 := by omega
      have z3 : i ≤ 9223372036854775806 := by omega
      cases i with
      | zero =>
        have q0' : (0 : Int) < (ds.length : Int) := q0
        have hcg := cl_get hc
        simp only [evA, evB, evT, evD, seval, q0', cl_len, cl_free, cx_free, Int.toNat_zero, hcg]
        refine call_ok hx (by simp only [evA, evT, evD, seval, cx_free]) ?_
        simp only [evA, evB, evT, evD, seval, cx_free]
        refine call_ok hw (by simp only [evA, evT, evD, seval, cx_free]) ?_
        simp only [evA, evB, evT, evD, seval, cx_free]
        have hs : [[AV.sl 2 (cxRows (List.take (min c.x.length 70) c.x)), AV.sl 2 (cxRows (List.take (min c.w.length 70) c.w)), AV.int c.f, AV.int c.l, AV.int c.k, AV.int c.s, AV.int c.m, AV.bool c.i]] = clRows ((ds.take (0 + 1)).map cutC) := by
          rw [take_snoc hc]
          rfl
        rw [hs]
        dsimp only at hK
        refine hK _ (weak_of (fun l => l + 2) rfl ?_ ?_)
        all_goals simp only [evA, evB, evT, evD, seval, cl_free, cx_free, Int.natCast_one]
      | succ i =>
        simp only [evA, evB, evT, evD, seval, q0, q2, cl_len, cl_free, cx_free, Int.toNat_natCast, cl_get hc]
        refine call_ok hx (by simp only [evA, evT, evD, seval, cx_free]) ?_
        simp only [evA, evB, evT, evD, seval, cx_free]
        refine call_ok hw (by simp only [evA, evT, evD, seval, cx_free]) ?_
        simp only [evA, evB, evT, evD, seval, cx_free]
        have hp : (ds.take (i + 1)).map cutC ++ [⟨cutL c.x, cutL c.w, c.f, c.l, c.k, c.s, c.m, c.i⟩] = (ds.take (i + 1 + 1)).map cutC := by
          rw [take_snoc hc, List.map_append]
          rfl
        simp only [evA, evB, evT, evD, seval, cl_len, ht, z1, z2, z3, q1, cl_push]
        unfold cutL at hp
        rw [hp]
        dsimp only at hK
        refine hK _ (weak_of (fun l => l + 3) rfl ?_ ?_)
        all_goals simp only [evA, evB, evT, evD, seval, cl_free, cx_free]
    · simp only [evA, evB, evT, evD, seval, cl_free, cl_len, hn, ht']
      done
/-! A script. -/
def wR (ds : List (Int × Int)) (c : Cl) : Int := whyS c.f c.l c.k c.s c.m ds c.x c.w
def nxD (ds : List (Int × Int)) (c : Cl) : List (Int × Int) := if wR ds c = 0 then (rnB c.f c.l.toNat c.k c.s c.m c.i c.x).xs else ds
def scD (ds : List (Int × Int)) (cs : List Cl) : List (Int × Int) := cs.foldl nxD ds
def scE : List (Int × Int) → List Cl → List Int
  | _, [] => []
  | ds, c :: r => wR ds c :: scE (nxD ds c) r
theorem scD_app {ds : List (Int × Int)} {a b : List Cl} : scD ds (a ++ b) = scD (scD ds a) b := by
  unfold scD
  rw [List.foldl_append]
theorem scE_app : ∀ {a b : List Cl} {ds : List (Int × Int)}, scE ds (a ++ b) = scE ds a ++ scE (scD ds a) b
  | [], b, ds => rfl
  | c :: r, b, ds => by
    show wR ds c :: scE (nxD ds c) (r ++ b) = wR ds c :: scE (nxD ds c) r ++ scE (scD (nxD ds c) r) b
    rw [scE_app]
    rfl
theorem scE_len : ∀ {a : List Cl} {ds : List (Int × Int)}, (scE ds a).length = a.length
  | [], _ => rfl
  | c :: r, ds => by
    show (scE (nxD ds c) r).length + 1 = r.length + 1
    rw [scE_len]
theorem nxD_0 {ds : List (Int × Int)} {c : Cl} (h : wR ds c = 0) : nxD ds c = (rnB c.f c.l.toNat c.k c.s c.m c.i c.x).xs := if_pos h
theorem nxD_n {ds : List (Int × Int)} {c : Cl} (h : wR ds c ≠ 0) : nxD ds c = ds := if_neg h
theorem nxD_len {ds : List (Int × Int)} {c : Cl} : (nxD ds c).length = ds.length := by
  by_cases h : wR ds c = 0
  · rw [nxD_0 h]
    rcases why_or_s c.f c.l c.k c.s c.m ds c.x c.w with ⟨g, log, e, hp, hlx, hld, hn⟩ | g
    · rw [e, Int.toNat_natCast, (rn_len (i := c.i) hp hlx hn).1, hld]
    · exact absurd h g
  · rw [nxD_n h]
theorem scD_len : ∀ {a : List Cl} {ds : List (Int × Int)}, (scD ds a).length = ds.length
  | [], _ => rfl
  | c :: r, ds => by
    show (scD (nxD ds c) r).length = _
    rw [scD_len, nxD_len]
theorem Into.all (ds : List (Int × Int)) (c : Cl) (hw : c.w.length ≤ 1000000) : ∃ (e : Int) (b : Bool), Ok Tryz.prog 33 [.sl 2 (cxRows ds), .sl 2 (cxRows c.x), .sl 2 (cxRows c.w), plV c.f c.l c.k c.s c.m c.i] (.tup [.sl 2 (cxRows (nxD ds c)), .int e, .bool b, .int (wR ds c)]) := by
  rcases why_or_s c.f c.l c.k c.s c.m ds c.x c.w with ⟨g, log, e, hp, hlx, hld, hn⟩ | g
  · have g' : wR ds c = 0 := g
    refine ⟨(rnB c.f c.l.toNat c.k c.s c.m c.i c.x).e, (rnB c.f c.l.toNat c.k c.s c.m c.i c.x).sat, ?_⟩
    rw [nxD_0 g', g']
    rw [e] at g ⊢
    rw [Int.toNat_natCast]
    exact Into.ok c.f c.k c.s c.m c.i log ds c.x c.w hw g hp hlx hn
  · have g' : wR ds c ≠ 0 := g
    refine ⟨0, Bool.false, ?_⟩
    rw [nxD_n g']
    exact Into.bad c.f c.l c.k c.s c.m c.i ds c.x c.w hw g
/-- One more error behind errors. -/
theorem sc_step {ds : List (Int × Int)} {cs : List Cl} {i : Nat} {c : Cl} (h : cs[i]? = some c) : nxD (scD ds (cs.take i)) c = scD ds (cs.take (i + 1)) ∧ scE ds (cs.take i) ++ [wR (scD ds (cs.take i)) c] = scE ds (cs.take (i + 1)) := by
  rw [take_snoc h, scD_app, scE_app]
  exact ⟨rfl, rfl⟩
section
variable {P : Program} {tt : TypeId → Option TI} (hT : TOk P tt)
include hT
/-- A contract of a function whose body holds a label. -/
theorem ok_of_sc (hm : P.follows .mixedOrders = true) {X : Nat → List (List Operand)} {Z : Nat → Bool} {F : FuncId} {fn : Func} {x y : Code} {args : List AV} {r : AV} {res : List ResultVar} (hf : P.funcs[F]? = some fn) (hb : fn.body = some (.seq x (.scope y))) (hres : fn.results.toList = res) (hF : Fine P F) (hc : codeOk X fn.ntmps (.seq x y) = true) (hn : Nat.ble args.length fn.ntmps = true) (h : evc P tt X Z 0 (.seq x y) (endK tt res r) (entry args)) : Ok P F args r := by
  subst hres
  refine ⟨hF, fun w N vs hN hl hr => ?_⟩
  refine (callsIn_wide (n := 9)).1 (callsIn_of_wp_marks hf hb trivial (wpIn_wide.2 ?_) rfl)
  have hn := Nat.le_of_ble_eq_true hn
  rw [codeOk, Bool.and_eq_true] at hc
  have ht : TelS fn.ntmps w (fun _ => none) ⟨N, fun _ => none, 0, w.heap.size⟩ (entry args) { tmps := vs.toArray ++ Array.replicate (fn.ntmps - vs.toArray.size) undef, defers := [] } w := by
    refine ⟨fun _ => none, N, ⟨.none (Nat.le_refl _), by simp; omega, But.refl _ _, (fun l v h => by cases h), hN, fun b h => .inl h, fun t x hx => entry_env hl hr hx, (fun l B hl => by cases hl), (fun l B v b hl => by cases hl), (fun l l' B B' v v' b _ hl => by cases hl), fun _ _ => rfl⟩⟩
  have main : ∀ e s a w1, endK tt fn.results.toList r e s → TelS fn.ntmps w (fun _ => none) ⟨N, fun _ => none, 0, w.heap.size⟩ s a w1 → bodyPostM Fence.wide 9 P fn (fun e w' => ∃ v, e = .returned v ∧ Below w.heap.size w w' ∧ Rep w' (fun _ => none) (fun b => N b ∨ (w.heap.size ≤ b ∧ b < w'.heap.size)) r v) e a w1 := by
    intro e s a w1 hq ht
    have hend : resK tt s (fun l => retAV (l.map (snap s.lb 6)) = r) fn.results.toList [] → LeavesInM Fence.wide 9 P fn a.tmps (fun e w' => ∃ v, e = .returned v ∧ Below w.heap.size w w' ∧ Rep w' (fun _ => none) (fun b => N b ∨ (w.heap.size ≤ b ∧ b < w'.heap.size)) r v) a.defers .returning w1 := by
      intro hq
      obtain ⟨φ, N', R0⟩ := ht
      refine leaves_of R0 (Nat.le_refl _) fun w' R => ?_
      have hNL : ∀ b, NL N' φ s.lb b → N b ∨ (w.heap.size ≤ b ∧ b < w'.heap.size) := by
        intro b hb
        rcases hb with hb | ⟨l, v, B, hl, hv, hb⟩
        · rcases R.nb b hb with h | h
          · exact .inl h
          · exact .inr ⟨h, R.low b hb⟩
        · obtain ⟨u, hu, _, hub⟩ := (R.lbl l B hl).place
          rw [hv] at hu
          obtain rfl := Option.some.inj hu
          rcases R.mine l B v b hl hv hb with ⟨_, _, h, _⟩ | h
          · cases h
          · exact .inr ⟨h, (hub b hb).2.1⟩
      obtain ⟨l, v, h1, h2, h3⟩ := ret_run hT R hq (φ' := fun _ => none) (N' := fun b => N b ∨ (w.heap.size ≤ b ∧ b < w'.heap.size)) (f := snap s.lb 6) (fun x v hx => (snap_ok R.lbl 6 x v hx).mono (fun _ _ _ _ h => h) (fun _ _ h => h) hNL)
      rw [h1] at h3
      exact ⟨v, h2, v, rfl, ⟨R.bel.os, R.bel.tape, R.bel.output, R.bel.size, fun k hk => R.bel.block k hk (by rintro ⟨_, _, h, _⟩; cases h)⟩, h3⟩
    cases e with
    | normal => exact hend hq
    | ret => exact hend hq
    | _ => exact hq.elim
  refine wpM_seq (md := none) (evc_sound hT hm x 0 none _ _ (fun _ _ => rfl) (.inl rfl) _ _ hc.1 (fun e s a w1 hq ht => ?_) _ _ _ h ht)
  cases e with
  | normal =>
    refine wp_scope_straight (evc_sound hT hm y 0 none _ _ (fun _ _ => rfl) (.inl rfl) (endK tt fn.results.toList r) _ hc.2 (fun e s a w1 hq ht => ?_) _ _ _ hq ht)
    have := main e s a w1 hq ht
    cases e with
    | goto l => exact hq.elim
    | _ => exact this
  | exit i => exact main (.exit i) s a w1 hq ht
  | goto i => exact main (.goto i) s a w1 hq ht
  | ret => exact main .ret s a w1 hq ht
  | panic i => exact main (.panic i) s a w1 hq ht
  | outgrown => exact main .outgrown s a w1 hq ht
end
theorem evc_lab {P : Program} {tt : TypeId → Option TI} {X : Nat → List (List Operand)} {Z : Nat → Bool} {k n : Nat} {Q : Exit → St → Prop} {s : St} : evc P tt X Z k (.label n) Q s = Q .normal s := rfl
theorem Script.ok (ds : List (Int × Int)) (cs : List Cl) (hl : cs.length ≤ 1000000) (hw : ∀ c ∈ cs, c.w.length ≤ 1000000) : Ok Tryz.prog 38 [.sl 2 (cxRows ds), .sl 8 (clRows cs)] (.tup [.sl 2 (cxRows (scD ds (cs.take 20))), .sl 1 (intRows (scE ds (cs.take 20)))]) := by
  cases hn : min cs.length 20 with
  | zero =>
    obtain rfl := List.eq_nil_of_length_eq_zero (show cs.length = 0 by omega)
    refine Ok.less (r := .tup [.sl 2 (cxRows ds), .raw (.slice none 0 0)]) ?_ fun w φ N v h => ?_
    · refine ok_of_sc (X := fun _ => []) (Z := fun _ => false) (res := [.tmp 4, .tmp 5]) tok follows Tryz.func38 rfl rfl fine38 (by kernel_rfl) (by kernel_rfl) ?_
      simp only [evA, evB, evT, evD, seval, evc_lab, cl_len, cl_free, cx_free]
      refine ⟨1, l_succ ?_⟩
      simp only [evA, evB, evT, evD, seval, cl_len, cl_free, cx_free, List.length_nil, Int.natCast_zero]
      first | done | rfl
    · cases h with
      | tup _ vs hl h =>
        refine .tup _ _ hl fun i x hx => ?_
        match i, hx with
        | 0, hx => cases hx; exact h 0 _ rfl
        | 1, hx => cases hx; exact nil_sl (h 1 _ rfl)
        | i + 2, hx => simp at hx
  | succ m =>
    refine ok_of_sc (X := fun _ => []) (Z := fun _ => false) (res := [.tmp 4, .tmp 5]) tok follows Tryz.func38 rfl rfl fine38 (by kernel_rfl) (by kernel_rfl) ?_
    simp only [evA, evB, evT, evD, seval, evc_lab, cl_len, cl_free, cx_free]
    refine l_inv (fun i => match i with
      | 0 => ⟨[(15, .int 0), (14, .int cs.length), (13, .sl 8 (clRows cs)), (6, .raw (.slice none 0 0)), (0, .sl 2 (cxRows ds))], [], 0⟩
      | i + 1 => ⟨[(15, .int ((i + 1 : Nat) : Int)), (14, .int cs.length), (13, .sl 8 (clRows cs)), (6, .own 0), (0, .sl 2 (cxRows (scD ds (cs.take (i + 1)))))], [(0, some (.row 28 1 (intRows (scE ds (cs.take (i + 1))))))], 1⟩) (m + 1) ?_ (fun i hi K hK => ?_) (fun K => ?_)
    · refine weak_of (fun l => l) rfl trivial ?_
      simp only [evA, evB, evT, evD, seval, cl_free, cx_free, cl_len]
    · obtain ⟨c, hc⟩ : ∃ c, cs[i]? = some c := ⟨_, List.getElem?_eq_getElem (by omega)⟩
      have q0 : (i : Int) < (cs.length : Int) := by omega
      have q1 : IntKind.i64.wrap ((i : Int) + 1) = ((i + 1 : Nat) : Int) := by rw [wr (by omega)]; omega
      have q2 : (0 : Int) ≤ (i : Int) := by omega
      have q3 : ¬ (i : Int) = 20 := by omega
      have ht : (scE ds (cs.take i)).length = i := by rw [scE_len, List.length_take]; omega
      obtain ⟨e, b, hI⟩ := Into.all (scD ds (cs.take i)) c (hw c (List.mem_of_getElem? hc))
      obtain ⟨h1, h2⟩ := sc_step (ds := ds) hc
      have hstay : ¬ wR (scD ds (cs.take i)) c = 0 → scD ds (cs.take (i + 1)) = scD ds (cs.take i) := fun g => by rw [← h1, nxD_n g]
      rw [h1] at hI
      have z1 : (i + 1) * 8 ≤ 140737488355328 := by omega
      have z2 : i + 1 ≤ 9223372036854775807 := by omega
      have z3 : i ≤ 9223372036854775806 := by omega
      cases i with
      | zero =>
        have q0' : (0 : Int) < (cs.length : Int) := q0
        have hcg := cl_get hc
        simp only [evA, evB, evT, evD, seval, q0', cl_len, cl_free, cx_free, Int.toNat_zero, hcg]
        refine call_ok hI (by simp only [evA, evT, evD, seval, cx_free]) ?_
        simp only [evA, evB, evT, evD, seval, cx_free]
        dsimp only at hK
        have hs : [[AV.int (wR (scD ds []) c)]] = intRows (scE ds (cs.take (0 + 1))) := by rw [← h2]; rfl
        rw [hs]
        refine ⟨fun g => ?_, fun g => ?_⟩
        · have hd : ds = scD ds (cs.take 1) := (hstay g).symm
          refine hK _ (weak_of (fun l => l + 2) rfl ?_ ?_)
          all_goals simp only [evA, evB, evT, evD, seval, cl_free, cx_free, in_free, Int.natCast_one, ← hd]
        · refine hK _ (weak_of (fun l => l + 2) rfl ?_ ?_)
          all_goals simp only [evA, evB, evT, evD, seval, cl_free, cx_free, in_free, Int.natCast_one]
      | succ i =>
        simp only [evA, evB, evT, evD, seval, q0, q2, cl_len, cl_free, cx_free, Int.toNat_natCast, cl_get hc, in_len, ht, q3]
        refine call_ok hI (by simp only [evA, evT, evD, seval, cx_free]) ?_
        simp only [evA, evB, evT, evD, seval, cx_free, in_len, ht, z1, z2, z3, q1, in_push, h2]
        dsimp only at hK
        refine ⟨fun g => ?_, fun g => ?_⟩
        · have hd := hstay g
          refine hK _ (weak_of (fun l => l + 3) rfl ?_ ?_)
          all_goals simp only [evA, evB, evT, evD, seval, cl_free, cx_free, in_free, hd]
        · refine hK _ (weak_of (fun l => l + 3) rfl ?_ ?_)
          all_goals simp only [evA, evB, evT, evD, seval, cl_free, cx_free, in_free]
    · by_cases h20 : cs.length ≤ 20
      · have hm : m + 1 = cs.length := by omega
        have ht : cs.take 20 = cs := List.take_of_length_le h20
        have ht2 : cs.take (m + 1) = cs := by rw [hm, List.take_length]
        have hge : ¬ (((m + 1 : Nat) : Int) < (cs.length : Int)) := by omega
        simp only [evA, evB, evT, evD, seval, cl_free, cx_free, cl_len, in_free, hge, ht, ht2]
      · obtain rfl : m = 19 := by omega
        have hlt : (((19 + 1 : Nat) : Int) < (cs.length : Int)) := by omega
        have hlt2 : (20 : Int) < (cs.length : Int) := by omega
        obtain ⟨c, hc⟩ : ∃ c, cs[20]? = some c := ⟨_, List.getElem?_eq_getElem (by omega)⟩
        have hcg := cl_get hc
        have ht : (scE ds (cs.take 20)).length = 20 := by rw [scE_len, List.length_take]; omega
        simp only [evA, evB, evT, evD, seval, cl_free, cx_free, cl_len, in_free, hlt, hlt2, hcg, in_len, ht]
        done
end Go.Proofs.YtnnjjblgilibgaaGreatV

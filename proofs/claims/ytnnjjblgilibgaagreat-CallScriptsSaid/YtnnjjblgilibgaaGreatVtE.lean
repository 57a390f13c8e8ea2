import Derived.Test.YtnnjjblgilibgaaGreatVtA
import Derived.Test.YtnnjjblgilibgaaGreatVtD
/- Contracts: what a plan's runner is: its scale (looked up in a map of interface values), its format's bits, its twiddles. -/
namespace Go.Proofs.YtnnjjblgilibgaaGreatV
open Go Go.RowKit
set_option linter.unusedVariables false
set_option linter.unusedSimpArgs false
set_option maxRecDepth 100000
set_option maxHeartbeats 40000000
theorem fine42 : Fine Tryz.prog 42 := fun _ _ => by kernel_rfl
theorem toVs_get : ∀ (l : List AV) (i : Nat), (toVs l)[i]? = l[i]?.map AV.toV
  | [], i => by simp [toVs]
  | x :: r, 0 => by simp [toVs]
  | x :: r, i + 1 => by rw [toVs, List.getElem?_cons_succ, List.getElem?_cons_succ]; exact toVs_get r i
/-- A value without memory is one value. -/
theorem eq_toV {w : World} {φ : Nat → Option Value} {N : Nat → Prop} {x : AV} {v : Value} (h : Rep w φ N x v) (hp : x.pure = true) : v = x.toV := by
  induction h with
  | raw v => rfl
  | agg l vs hl _ ih =>
    rw [AV.toV]
    congr 1
    apply Array.ext'
    apply List.ext_getElem?
    intro i
    rw [toVs_get]
    by_cases hi : i < l.length
    · have h1 := List.getElem?_eq_getElem hi
      have h2 := ih i _ h1 (allPure_mem (by simpa [AV.pure] using hp) _ (List.getElem_mem hi))
      rw [h1]
      have h3 : i < vs.size := by omega
      simp only [Option.map_some, Array.getElem?_toList, Array.getElem?_eq_getElem h3]
      rw [← h2]
      simp [Array.getD, h3]
    · rw [List.getElem?_eq_none (show vs.toList.length ≤ i by rw [Array.length_toList]; omega), List.getElem?_eq_none (show l.length ≤ i by omega)]
      rfl
  | tup l vs hl _ ih =>
    rw [AV.toV]
    congr 1
    apply Array.ext'
    apply List.ext_getElem?
    intro i
    rw [toVs_get]
    by_cases hi : i < l.length
    · have h1 := List.getElem?_eq_getElem hi
      have h2 := ih i _ h1 (allPure_mem (by simpa [AV.pure] using hp) _ (List.getElem_mem hi))
      rw [h1]
      have h3 : i < vs.size := by omega
      simp only [Option.map_some, Array.getElem?_toList, Array.getElem?_eq_getElem h3]
      rw [← h2]
      simp [Array.getD, h3]
    · rw [List.getElem?_eq_none (show vs.toList.length ≤ i by rw [Array.length_toList]; omega), List.getElem?_eq_none (show l.length ≤ i by omega)]
      rfl
  | _ => simp [AV.pure] at hp
section
variable {P : Program} {tt : TypeId → Option TI} (hT : TOk P tt) {n : Nat} {w0 : World} {M : Nat → Option Value} {N0 : NG} {ops : Array Oper} {Q : Exit → Act → World → Prop} {i : Nat} {rest : List Nat} {a : Act} {w : World} {s : St} {t : Nat} {op : Op} {ty : TypeId} {po : String} {af : Array Edge} {es0 : Array MapEntry} {c0 : Nat}
include hT
/-- An operation that the evaluator knows, in worlds that differ in a map made last. -/
theorem stepU (x : AV) {p : Prop} (ho : ops[i]? = some ⟨some t, op, ty, po, af, none⟩) (ht : t < n) (hx : x.pure = true) (hop : aop tt s.lb s.ev op = .val p x) (hp : p) (U : ∀ es c, TelS n w0 M N0 s a (w.alloc (.map es c)))
    (hK : ∀ a', (∀ es c, TelS n w0 M N0 (s.put (some t) x) a' (w.alloc (.map es c))) → wpOps P ops Q rest a' (w.alloc (.map es0 c0))) : wpOps P ops Q (i :: rest) a (w.alloc (.map es0 c0)) := by
  have hr : ∀ es c, (execOp a.eval ⟨some t, op, ty, po, af, none⟩).run P (w.alloc (.map es c)) = .ok (.value x.toV) (w.alloc (.map es c)) := by
    intro es c
    obtain ⟨φ, N, R⟩ := U es c
    obtain ⟨v, h1, h2⟩ := run_val (d := some t) (ty := ty) (po := po) (af := af) (g := none) hT R.ev R.lbl hop hp
    rw [← eq_toV h2 hx]
    exact h1
  exact hand_v ho rfl (hr es0 c0) (hK _ fun es c => tel_put (U es c) ht (fun _ _ => rep_toV x hx))
/-- An address into a label's cells. -/
theorem stepU_loc {t1 L o f : Nat} {T : TypeId} {p : Prop} (ho : ops[i]? = some ⟨some t, .fieldAddr T (.tmp t1) f, ty, po, af, none⟩) (ht : t < n) (h1 : look t1 s.env = some (.loc L 0)) (hop : aop tt s.lb s.ev (.fieldAddr T (.tmp t1) f) = .val p (.loc L o)) (hp : p) (U : ∀ es c, TelS n w0 M N0 s a (w.alloc (.map es c)))
    (hK : ∀ a', (∀ es c, TelS n w0 M N0 (s.put (some t) (.loc L o)) a' (w.alloc (.map es c))) → wpOps P ops Q rest a' (w.alloc (.map es0 c0))) : wpOps P ops Q (i :: rest) a (w.alloc (.map es0 c0)) := by
  have key : ∀ es c, ∃ b, a.eval (.tmp t1) = .pointer (some ⟨b, 0, none⟩) ∧ (execOp a.eval ⟨some t, .fieldAddr T (.tmp t1) f, ty, po, af, none⟩).run P (w.alloc (.map es c)) = .ok (.value (.pointer (some ⟨b, o, none⟩))) (w.alloc (.map es c)) ∧ TelS n w0 M N0 (s.put (some t) (.loc L o)) (a.put (some t) (.pointer (some ⟨b, o, none⟩))) (w.alloc (.map es c)) := by
    intro es c
    obtain ⟨φ, N, R⟩ := U es c
    obtain ⟨v, h2, h3⟩ := run_val (d := some t) (ty := ty) (po := po) (af := af) (g := none) hT R.ev R.lbl hop hp
    have h4 : Rep (w.alloc (.map es c)) φ N (.loc L 0) (a.eval (.tmp t1)) := R.env t1 _ h1
    generalize a.eval (.tmp t1) = u at h4
    cases h4 with
    | loc _ _ b hb =>
      have e : v = .pointer (some ⟨b, o, none⟩) := by
        cases h3 with
        | loc _ _ b' hb' =>
          rw [hb] at hb'
          simp only [Option.some.injEq, Value.pointer.injEq, Addr.mk.injEq, and_true] at hb'
          rw [hb']
      rw [e] at h2 h3
      have h5 := R.put (d := some t) ht h3
      rw [put_E] at h5
      exact ⟨b, rfl, h2, φ, N, h5⟩
  obtain ⟨b, e1, e2, _⟩ := key es0 c0
  refine hand_v ho rfl e2 (hK _ fun es c => ?_)
  obtain ⟨b', e1', _, e3'⟩ := key es c
  rw [e1] at e1'
  simp only [Value.pointer.injEq, Option.some.injEq, Addr.mk.injEq, and_true] at e1'
  rw [e1']
  exact e3'
omit hT in
theorem stepU_raw (v : Value) (ho : ops[i]? = some ⟨some t, op, ty, po, af, none⟩) (ht : t < n) (hr : ∀ W, (execOp a.eval ⟨some t, op, ty, po, af, none⟩).run P W = .ok (.value v) W) (U : ∀ es c, TelS n w0 M N0 s a (w.alloc (.map es c)))
    (hK : ∀ a', (∀ es c, TelS n w0 M N0 (s.put (some t) (.raw v)) a' (w.alloc (.map es c))) → wpOps P ops Q rest a' (w.alloc (.map es0 c0))) : wpOps P ops Q (i :: rest) a (w.alloc (.map es0 c0)) :=
  hand_v ho rfl (hr _) (hK _ fun es c => tel_put (U es c) ht (fun _ _ => .raw v))
omit hT in
theorem U_tov {u : Nat} {x : AV} (U : ∀ es c, TelS n w0 M N0 s a (w.alloc (.map es c))) (h : look u s.env = some x) (hp : x.pure = true) : a.eval (.tmp u) = x.toV := by
  obtain ⟨φ, N, R⟩ := U #[] 0
  exact eq_toV (R.env u _ h) hp
omit hT in
theorem U_raw {u : Nat} {v : Value} (U : ∀ es c, TelS n w0 M N0 s a (w.alloc (.map es c))) (h : look u s.env = some (.raw v)) : a.eval (.tmp u) = v := tel_raw (U #[] 0) h
end
/-- A plan's scale. -/
def scAV (s f : Int) : AV := if s = 0 then .iface 116 (.agg []) else if s = 1 then .iface 118 (.agg [.int f]) else .iface 119 (.agg [])
abbrev mE0 : MapEntry := ⟨.int .i64 0, .iface 116 (.agg #[]), 0⟩
abbrev mE1 (f : Int) : MapEntry := ⟨.int .i64 1, .iface 118 (.agg #[.int .i64 f]), 1⟩
abbrev mE2 : MapEntry := ⟨.int .i64 2, .iface 119 (.agg #[]), 2⟩
theorem run_mkI {t : TypeId} {W : World} {v : Value} {d : TypeDesc} (hu : Tryz.prog.underlying t = some d) (hd : ∀ m, d ≠ .interface m) : (Instr.makeInterface t v).run Tryz.prog W = .ok (.iface t v) W := by
  cases d <;> first | (exact absurd rfl (hd _)) | simp [Instr.makeInterface, run_underlying hu]
theorem ready_hand (k0 L : Nat) (f l k s m : Int) (i : Bool) (hs : 0 ≤ s ∧ s ≤ 2) (env : List (Nat × AV)) (lbl : List (Nat × Option LB)) (nx : Nat) (h1 : look 1 env = some (.loc L 0)) (hL : look L lbl = some (some (.box [.int f, .int l, .int k, .int s, .int m, .bool i])))
    {y0 y1 y2 y3 y4 y5 y6 y7 y8 y9 y10 y11 y12 y13 y14 y15 y16 : TypeId} {p0 p1 p2 p3 p4 p5 p6 p7 p8 p9 p10 p11 p12 p13 p14 p15 p16 : String} {a0 a1 a2 a3 a4 a5 a6 a7 a8 a9 a10 a11 a12 a13 a14 a15 a16 : Array Edge} :
    RegH Tryz.prog k0 #[⟨some 22, .makeMap 120 none, y0, p0, a0, none⟩, ⟨some 23, .build 116 #[], y1, p1, a1, none⟩, ⟨some 24, .makeInterface 116 (.tmp 23), y2, p2, a2, none⟩, ⟨none, .insert 120 (.tmp 22) (.const (.int .i64 0)) (.tmp 24), y3, p3, a3, none⟩,
      ⟨some 25, .fieldAddr 24 (.tmp 1) 0, y4, p4, a4, none⟩, ⟨some 26, .load 3 (.tmp 25), y5, p5, a5, none⟩, ⟨some 27, .build 118 #[(0, .tmp 26)], y6, p6, a6, none⟩, ⟨some 28, .makeInterface 118 (.tmp 27), y7, p7, a7, none⟩, ⟨none, .insert 120 (.tmp 22) (.const (.int .i64 1)) (.tmp 28), y8, p8, a8, none⟩,
      ⟨some 29, .build 119 #[], y9, p9, a9, none⟩, ⟨some 30, .makeInterface 119 (.tmp 29), y10, p10, a10, none⟩, ⟨none, .insert 120 (.tmp 22) (.const (.int .i64 2)) (.tmp 30), y11, p11, a11, none⟩, ⟨some 31, .move (.tmp 22), y12, p12, a12, none⟩,
      ⟨some 32, .fieldAddr 24 (.tmp 1) 3, y13, p13, a13, none⟩, ⟨some 33, .load 3 (.tmp 32), y14, p14, a14, none⟩, ⟨some 34, .lookup 120 (.tmp 31) (.tmp 33) false, y15, p15, a15, none⟩, ⟨some 7, .assign (.tmp 34), y16, p16, a16, none⟩] false
      ⟨env, lbl, nx⟩ ⟨(7, scAV s f) :: (34, .any) :: (33, .any) :: (32, .any) :: (31, .any) :: (30, .any) :: (29, .any) :: (28, .any) :: (27, .any) :: (26, .any) :: (25, .any) :: (24, .any) :: (23, .any) :: (22, .any) :: env, lbl, nx⟩ := by
  intro n w0 M N0 a w Q hM hd ht hQ
  refine ⟨fun _ => ?_, fun h => by cases h⟩
  simp only [dstsOk, dstLt, Bool.and_eq_true] at hd
  obtain ⟨d0, d1, d2, _, d4, d5, d6, d7, _, d9, d10, _, d12, d13, d14, d15, d16, _⟩ := hd
  have d0 := blt_lt d0
  have d1 := blt_lt d1
  have d2 := blt_lt d2
  have d4 := blt_lt d4
  have d5 := blt_lt d5
  have d6 := blt_lt d6
  have d7 := blt_lt d7
  have d9 := blt_lt d9
  have d10 := blt_lt d10
  have d12 := blt_lt d12
  have d13 := blt_lt d13
  have d14 := blt_lt d14
  have d15 := blt_lt d15
  have d16 := blt_lt d16
  have U0 : ∀ es c, TelS n w0 M N0 ⟨env, lbl, nx⟩ a (w.alloc (.map es c)) := fun es c => tel_below ht ((Below.refl _ w).alloc (Nat.le_refl _) _)
  have hp0 : (Instr.mapUpdate 120 (.map (some w.heap.size)) (.int .i64 0) (.iface 116 (.agg #[]))).run Tryz.prog (w.alloc (.map #[] 0)) = .ok () (w.alloc (.map #[mE0] 1)) := mapPut w #[] 0 0 _ Tryz.underlying120 Tryz.underlying3 rfl
  have hp1 : (Instr.mapUpdate 120 (.map (some w.heap.size)) (.int .i64 1) (.iface 118 (.agg #[.int .i64 f]))).run Tryz.prog (w.alloc (.map #[mE0] 1)) = .ok () (w.alloc (.map #[mE0, mE1 f] 2)) := mapPut w #[mE0] 1 1 _ Tryz.underlying120 Tryz.underlying3 rfl
  have hp2 : (Instr.mapUpdate 120 (.map (some w.heap.size)) (.int .i64 2) (.iface 119 (.agg #[]))).run Tryz.prog (w.alloc (.map #[mE0, mE1 f] 2)) = .ok () (w.alloc (.map #[mE0, mE1 f, mE2] 3)) := mapPut w #[mE0, mE1 f] 2 2 _ Tryz.underlying120 Tryz.underlying3 rfl
  have hlk : ∃ v, (∀ W φ N, Rep W φ N (scAV s f) v) ∧ (Instr.lookup 120 (.map (some w.heap.size)) (.int .i64 s) false).run Tryz.prog (w.alloc (.map #[mE0, mE1 f, mE2] 3)) = .ok v (w.alloc (.map #[mE0, mE1 f, mE2] 3)) := by
    rcases (show s = 0 ∨ s = 1 ∨ s = 2 by omega) with rfl | rfl | rfl
    · refine ⟨_, fun W φ N => .iface _ _ _ (rep_toV (.agg []) rfl), ?_⟩
      exact mapHit 0 false (i := 0) (heap_alloc_new w _) Tryz.underlying120 Tryz.underlying3 rfl
    · refine ⟨_, fun W φ N => .iface _ _ _ (rep_toV (.agg [.int f]) rfl), ?_⟩
      exact mapHit 1 false (i := 1) (heap_alloc_new w _) Tryz.underlying120 Tryz.underlying3 rfl
    · refine ⟨_, fun W φ N => .iface _ _ _ (rep_toV (.agg []) rfl), ?_⟩
      exact mapHit 2 false (i := 2) (heap_alloc_new w _) Tryz.underlying120 Tryz.underlying3 rfl
  show wpOps _ _ _ [0, 1, 2, 3, 4, 5, 6, 7, 8, 9, 10, 11, 12, 13, 14, 15, 16] a w
  have hmk := @run_makeMap Tryz.prog
  refine hand_v (o := ⟨some 22, .makeMap 120 none, y0, p0, a0, none⟩) (w' := w.alloc (.map #[] 0)) (v := .map (some w.heap.size)) rfl rfl (by simp [execOp, hmk]) ?_
  have U1 : ∀ es c, TelS n w0 M N0 _ _ (w.alloc (.map es c)) := fun es c => tel_put (t := 22) (U0 es c) d0 (x := .raw (.map (some w.heap.size))) (fun _ _ => .raw (.map (some w.heap.size)))
  clear ht U0
  show wpOps _ _ _ _ (a.put (some 22) _) _
  generalize a.put (some 22) (Value.map (some w.heap.size)) = b1 at *
  refine stepU tok (.agg []) rfl d1 rfl (p := True) (by simp only [evA, evT, evD, seval]) trivial U1 fun b2 U2 => ?_
  clear U1
  have e23 : b2.eval (.tmp 23) = .agg #[] := U_tov U2 (x := .agg []) rfl rfl
  refine stepU_raw (.iface 116 (.agg #[])) rfl d2 (fun W => by simp [execOp, e23, run_mkI (t := 116) (W := W) (v := .agg #[]) Tryz.underlying116 (by intro m h; cases h)]) U2 fun b3 U3 => ?_
  clear U2 e23
  have e22 : b3.eval (.tmp 22) = .map (some w.heap.size) := U_raw U3 rfl
  have e24 : b3.eval (.tmp 24) = .iface 116 (.agg #[]) := U_raw U3 rfl
  refine hand_skip (o := ⟨none, .insert 120 (.tmp 22) (.const (.int .i64 0)) (.tmp 24), y3, p3, a3, none⟩) (w' := w.alloc (.map #[mE0] 1)) rfl rfl (by simp [execOp, e22, e24, ev_const, hp0]) rfl ?_
  clear e22 e24
  refine stepU_loc tok (t1 := 1) (L := L) (o := 0) (f := 0) (T := 24) (p := True) rfl d4 h1 (by simp only [evA, evT, evD, seval, St.put, h1]; first | done | rfl) trivial U3 fun b4 U4 => ?_
  clear U3
  refine stepU tok (.int f) rfl d5 rfl (p := True) (by simp only [evA, evT, evD, seval, St.put, hL]; first | done | rfl) trivial U4 fun b5 U5 => ?_
  clear U4
  refine stepU tok (.agg [.int f]) rfl d6 rfl (p := True) (by simp only [evA, evT, evD, seval, St.put]; first | done | rfl) trivial U5 fun b6 U6 => ?_
  clear U5
  have e27 : b6.eval (.tmp 27) = .agg #[.int .i64 f] := U_tov U6 (x := .agg [.int f]) rfl rfl
  refine stepU_raw (.iface 118 (.agg #[.int .i64 f])) rfl d7 (fun W => by simp [execOp, e27, run_mkI (t := 118) (W := W) (v := .agg #[.int .i64 f]) Tryz.underlying118 (by intro m h; cases h)]) U6 fun b7 U7 => ?_
  clear U6 e27
  have e22 : b7.eval (.tmp 22) = .map (some w.heap.size) := U_raw U7 rfl
  have e28 : b7.eval (.tmp 28) = .iface 118 (.agg #[.int .i64 f]) := U_raw U7 rfl
  refine hand_skip (o := ⟨none, .insert 120 (.tmp 22) (.const (.int .i64 1)) (.tmp 28), y8, p8, a8, none⟩) (w' := w.alloc (.map #[mE0, mE1 f] 2)) rfl rfl (by simp [execOp, e22, e28, ev_const, hp1]) rfl ?_
  clear e22 e28
  refine stepU tok (.agg []) rfl d9 rfl (p := True) (by simp only [evA, evT, evD, seval]) trivial U7 fun b8 U8 => ?_
  clear U7
  have e29 : b8.eval (.tmp 29) = .agg #[] := U_tov U8 (x := .agg []) rfl rfl
  refine stepU_raw (.iface 119 (.agg #[])) rfl d10 (fun W => by simp [execOp, e29, run_mkI (t := 119) (W := W) (v := .agg #[]) Tryz.underlying119 (by intro m h; cases h)]) U8 fun b9 U9 => ?_
  clear U8 e29
  have e22 : b9.eval (.tmp 22) = .map (some w.heap.size) := U_raw U9 rfl
  have e30 : b9.eval (.tmp 30) = .iface 119 (.agg #[]) := U_raw U9 rfl
  refine hand_skip (o := ⟨none, .insert 120 (.tmp 22) (.const (.int .i64 2)) (.tmp 30), y11, p11, a11, none⟩) (w' := w.alloc (.map #[mE0, mE1 f, mE2] 3)) rfl rfl (by simp [execOp, e22, e30, ev_const, hp2]) rfl ?_
  clear e22 e30
  refine stepU tok (.raw (.map (some w.heap.size))) rfl d12 rfl (p := True) (by simp only [evA, evT, evD, seval, St.put]; first | done | rfl) trivial U9 fun b10 U10 => ?_
  clear U9
  refine stepU_loc tok (t1 := 1) (L := L) (o := 3) (f := 3) (T := 24) (p := True) rfl d13 h1 (by simp only [evA, evT, evD, seval, St.put, h1]; first | done | rfl) trivial U10 fun b11 U11 => ?_
  clear U10
  refine stepU tok (.int s) rfl d14 rfl (p := True) (by simp only [evA, evT, evD, seval, St.put, hL]; first | done | rfl) trivial U11 fun b12 U12 => ?_
  clear U11
  have e31 : b12.eval (.tmp 31) = .map (some w.heap.size) := U_raw U12 rfl
  have e33 : b12.eval (.tmp 33) = .int .i64 s := U_tov U12 (x := .int s) rfl rfl
  obtain ⟨v, hv, hl⟩ := hlk
  have u12 := U12 #[mE0, mE1 f, mE2] 3
  clear U12
  refine step_valN (scAV s f) v rfl d15 (by rw [← e31, ← e33] at hl; simp [execOp, hl]) (fun φ N => hv _ φ N) u12 fun b13 u13 => ?_
  refine step_assign (scAV s f) (u := 34) rfl d16 (by show look 34 ((34, _) :: _) = _; rw [look_cons, if_pos rfl]) u13 fun b14 u14 => ?_
  refine hQ _ _ (tel_any u14 ?_)
  exact ((((((((((((((Less.refl env).cons 22 (.inr rfl)).cons 23 (.inr rfl)).cons 24 (.inr rfl)).cons 25 (.inr rfl)).cons 26 (.inr rfl)).cons 27 (.inr rfl)).cons 28 (.inr rfl)).cons 29 (.inr rfl)).cons 30 (.inr rfl)).cons 31 (.inr rfl)).cons 32 (.inr rfl)).cons 33 (.inr rfl)).cons 34 (.inr rfl)).cons 7 (.inl rfl)
theorem sc_0 {f : Int} : scAV 0 f = .iface 116 (.agg []) := rfl
theorem sc_1 {f : Int} : scAV 1 f = .iface 118 (.agg [.int f]) := rfl
theorem sc_2 {f : Int} : scAV 2 f = .iface 119 (.agg []) := rfl
abbrev rV (f l k s m : Int) (i : Bool) : AV := .agg [.int f, .int l, .int k, .int s, .int m, .bool i, scAV s f, .int (fB f), .sl 2 (cxRows (tabV l.toNat (fB f - 2)))]
theorem ready.ok (f l k s m : Int) (i : Bool) (h : pOk f l k s m) : Ok Tryz.prog 42 [plV f l k s m i] (rV f l k s m i) := by
  obtain ⟨hf, hl, hk, hs, hm, hks⟩ := h
  have hf' : fmt f := by unfold fmt; omega
  have hT := Twiddles.ok l.toNat f (by omega) hf'
  rw [show ((l.toNat : Nat) : Int) = l by omega] at hT
  refine ok_of (X := fun _ => []) (Z := fun r => Nat.beq r 3) (res := [ResultVar.cell 2 79]) tok follows Tryz.func42 rfl rfl fine42 (by kernel_rfl) (by kernel_rfl) ?_
  simp only [evA, evB, evT, evD, seval]
  refine call_ok (Bits.ok f hf') rfl ?_
  simp only [evA, evB, evT, evD, seval]
  refine call_ok hT (by simp only [evA, evB, evT, evD, seval, cx_free]) ?_
  simp only [evA, evB, evT, evD, seval]
  refine hand_of _ (ready_hand 0 0 f l k s m i hs _ _ _ rfl rfl) ?_
  rcases (show s = 0 ∨ s = 1 ∨ s = 2 by omega) with rfl | rfl | rfl
  all_goals simp only [evA, evB, evT, evD, seval, cx_free, sc_0, sc_1, sc_2]
  all_goals rfl
end Go.Proofs.YtnnjjblgilibgaaGreatV

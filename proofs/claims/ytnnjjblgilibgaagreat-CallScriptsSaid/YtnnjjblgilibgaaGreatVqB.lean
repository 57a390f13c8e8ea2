import Derived.Test.YtnnjjblgilibgaaGreatVqA
import Derived.Test.YtnnjjblgilibgaaGreatVtU
import Derived.Test.YtnnjjblgilibgaaGreatVgA
/- Contracts: why a call may not be; the first one that is so is panicked. -/
namespace Go.Proofs.YtnnjjblgilibgaaGreatV
open Go Go.RowKit
set_option linter.unusedVariables false
set_option linter.unusedSimpArgs false
set_option maxRecDepth 100000
set_option maxHeartbeats 40000000
theorem fine106 : Fine Tryz.prog 106 := fun _ _ => by kernel_rfl
theorem fine103 : Fine Tryz.prog 103 := fun _ _ => by kernel_rfl
theorem fine104 : Fine Tryz.prog 104 := fun _ _ => by kernel_rfl
theorem fine105 : Fine Tryz.prog 105 := fun _ _ => by kernel_rfl
theorem fine107 : Fine Tryz.prog 107 := fun _ _ => by kernel_rfl
theorem fine70 : Fine Tryz.prog 70 := fun _ _ => by kernel_rfl
theorem fine69 : Fine Tryz.prog 69 := fun _ _ => by kernel_rfl
theorem Equal.same (xs : List (Int × Int)) (hl : xs.length ≤ 1000000000) : Ok Tryz.prog 106 [.sl 2 (cxRows xs), .sl 2 (cxRows xs)] (.bool true) := by
  refine ok_of (X := fun _ => []) (Z := fun _ => false) (res := [ResultVar.tmp 4]) tok follows Tryz.func106 rfl rfl fine106 (by kernel_rfl) (by kernel_rfl) ?_
  simp only [evA, evT, evD, seval, cx_len]
  refine l_inv (fun i => ⟨[(13, .int i), (12, .int xs.length), (0, .sl 2 (cxRows xs)), (1, .sl 2 (cxRows xs))], [], 0⟩) xs.length ?_ (fun i hi K hK => ?_) (fun K => ?_)
  · refine weak_of (fun l => l) rfl trivial ?_
    simp only [evA, evB, evT, evD, seval, cx_free, Int.natCast_zero]
  · have h1 : (i : Int) < xs.length := by omega
    have h2 : (0 : Int) ≤ i := by omega
    have h3 : IntKind.i64.wrap ((i : Int) + 1) = i + 1 := wr (by omega)
    simp only [evA, evT, evD, seval, h1, h2, h3, cx_len, Int.toNat_natCast, cx_get hi]
    refine hK _ (weak_of (fun l => l) rfl trivial ?_)
    simp only [evA, evB, evT, evD, seval, cx_free, Int.natCast_add, Int.natCast_one]
  · simp only [evA, evT, evD, seval]
theorem Equal.len (xs ys : List (Int × Int)) (hl : ¬ xs.length = ys.length) : Ok Tryz.prog 106 [.sl 2 (cxRows xs), .sl 2 (cxRows ys)] (.bool false) := by
  have h1 : ¬ (xs.length : Int) = (ys.length : Int) := by omega
  refine ok_of (X := fun _ => []) (Z := fun _ => false) (res := [ResultVar.tmp 4]) tok follows Tryz.func106 rfl rfl fine106 (by kernel_rfl) (by kernel_rfl) ?_
  simp only [evA, evT, evD, seval, cx_len, h1]
theorem Equal.diff (xs ys : List (Int × Int)) (hl : xs.length ≤ 1000000000) (hx : xs.length = ys.length) (h : ¬ xs = ys) : Ok Tryz.prog 106 [.sl 2 (cxRows xs), .sl 2 (cxRows ys)] (.bool false) := by
  obtain ⟨n, hn, hd, hs⟩ := diff_at xs ys hx h
  have hx' : (xs.length : Int) = ys.length := by omega
  refine ok_of (X := fun _ => []) (Z := fun _ => false) (res := [ResultVar.tmp 4]) tok follows Tryz.func106 rfl rfl fine106 (by kernel_rfl) (by kernel_rfl) ?_
  simp only [evA, evT, evD, seval, cx_len, hx']
  refine l_inv (fun i => ⟨[(13, .int i), (12, .int ys.length), (0, .sl 2 (cxRows xs)), (1, .sl 2 (cxRows ys))], [], 0⟩) n ?_ (fun i hi K hK => ?_) (fun K => ?_)
  · refine weak_of (fun l => l) rfl trivial ?_
    simp only [evA, evB, evT, evD, seval, cx_free, Int.natCast_zero]
  · have hil : i < xs.length := by omega
    have hil' : i < ys.length := by omega
    have h1 : (i : Int) < ys.length := by omega
    have h2 : (0 : Int) ≤ i := by omega
    have h3 : IntKind.i64.wrap ((i : Int) + 1) = i + 1 := wr (by omega)
    simp only [evA, evT, evD, seval, h1, h2, h3, cx_len, Int.toNat_natCast, cx_getD hil, cx_getD hil', hs i hi, hx']
    refine hK _ (weak_of (fun l => l) rfl trivial ?_)
    simp only [evA, evB, evT, evD, seval, cx_free, Int.natCast_add, Int.natCast_one]
  · have hil : n < xs.length := by omega
    have hil' : n < ys.length := by omega
    have h1 : (n : Int) < ys.length := by omega
    have h2 : (0 : Int) ≤ n := by omega
    simp only [evA, evT, evD, seval, h1, h2, cx_len, Int.toNat_natCast, cx_getD hil, cx_getD hil', hx']
    intro e
    simp only [List.cons.injEq, and_true] at e
    exact absurd (Prod.ext e.1 e.2) hd
/-- Are two rows of numbers the same? -/
theorem Equal.ok (xs ys : List (Int × Int)) (hl : xs.length ≤ 1000000000) : Ok Tryz.prog 106 [.sl 2 (cxRows xs), .sl 2 (cxRows ys)] (.bool (decide (xs = ys))) := by
  by_cases h : xs = ys
  · subst h
    rw [decide_eq_true rfl]
    exact Equal.same xs hl
  · rw [decide_eq_false h]
    by_cases hx : xs.length = ys.length
    · exact Equal.diff xs ys hl hx h
    · exact Equal.len xs ys hx
abbrev kP (f l k s m : Int) (i : Bool) : AV := .box [.int f, .int l, .int k, .int s, .int m, .bool i] 0
abbrev kX (xs : List (Int × Int)) : AV := .box [.sl 2 (cxRows xs)] 0
theorem w1.f (f l k s m : Int) (i : Bool) (h : pOk f l k s m) : Ok Tryz.prog 103 [kP f l k s m i] (.bool Bool.false) := by
  refine ok_of (X := fun _ => []) (Z := fun _ => false) (res := [ResultVar.tmp 1]) tok follows Tryz.func103 rfl rfl fine103 (by kernel_rfl) (by kernel_rfl) ?_
  simp only [evA, evT, evD, seval]
  refine call_ok (Check.ok f l k s m i h) rfl ?_
  simp only [evA, evT, evD, seval]
theorem w1.t (f l k s m : Int) (i : Bool) (h : ¬ pOk f l k s m) : Ok Tryz.prog 103 [kP f l k s m i] (.bool Bool.true) := by
  refine ok_of (X := fun _ => []) (Z := fun _ => false) (res := [ResultVar.tmp 1]) tok follows Tryz.func103 rfl rfl fine103 (by kernel_rfl) (by kernel_rfl) ?_
  simp only [evA, evT, evD, seval]
  refine call_ok (Check.bad f l k s m i h) rfl ?_
  simp only [evA, evT, evD, seval]
theorem w2.ok (f l k s m : Int) (i : Bool) (xs ds : List (Int × Int)) (hl : 2 ≤ l ∧ l ≤ 6) : Ok Tryz.prog 104 [kX xs, kP f l k s m i, kX ds] (.bool (decide (¬ ((xs.length : Int) = 2 ^ l.toNat ∧ (ds.length : Int) = 2 ^ l.toNat)))) := by
  obtain ⟨e, e0⟩ := p2l hl
  refine ok_of (X := fun _ => []) (Z := fun _ => false) (res := [ResultVar.tmp 3]) tok follows Tryz.func104 rfl rfl fine104 (by kernel_rfl) (by kernel_rfl) ?_
  simp only [evA, evT, evD, seval, cx_len, cx_free, e, e0]
  refine ⟨fun h => congrArg AV.bool ?_, fun h => congrArg AV.bool ?_⟩
  · rw [← decide_not]
    exact decide_eq_decide.2 (by simp [h])
  · simp [h]
theorem w3.ok (f k s m : Int) (i : Bool) (log : Nat) (ws : List (Int × Int)) (hf : fmt f) (hl : 2 ≤ log ∧ log ≤ 6) (hw : ws.length ≤ 1000000) : Ok Tryz.prog 105 [kP f log k s m i, kX ws] (.bool (!decide (ws = tabV log (fB f - 2)))) := by
  refine ok_of (X := fun _ => []) (Z := fun _ => false) (res := [ResultVar.tmp 2]) tok follows Tryz.func105 rfl rfl fine105 (by kernel_rfl) (by kernel_rfl) ?_
  simp only [evA, evT, evD, seval, cx_free]
  refine call_ok (Twiddles.ok log f hl hf) (by simp only [evA, evT, evD, seval, cx_free]) ?_
  simp only [evA, evT, evD, seval, cx_free]
  refine call_ok (Equal.ok ws (tabV log (fB f - 2)) (by omega)) rfl ?_
  simp only [evA, evT, evD, seval]
theorem w4.t (f l k s m e : Int) (i : Bool) (xs : List (Int × Int)) (he : e ≠ 0) (hR : Ok Tryz.prog 18 [.sl 2 (cxRows xs), plV f l k s m i] (.tup [blk0, .int e])) : Ok Tryz.prog 107 [kX xs, kP f l k s m i] (.bool Bool.true) := by
  refine ok_of (X := fun _ => []) (Z := fun _ => false) (res := [ResultVar.tmp 2]) tok follows Tryz.func107 rfl rfl fine107 (by kernel_rfl) (by kernel_rfl) ?_
  simp only [evA, evT, evD, seval, cx_free]
  refine call_ok hR rfl ?_
  simp only [evA, evT, evD, seval, he]
theorem w4.f (f l k s m : Int) (i : Bool) (xs : List (Int × Int)) (b : Blk) (hR : Ok Tryz.prog 18 [.sl 2 (cxRows xs), plV f l k s m i] (.tup [blkV b, .int 0])) : Ok Tryz.prog 107 [kX xs, kP f l k s m i] (.bool Bool.false) := by
  refine ok_of (X := fun _ => []) (Z := fun _ => false) (res := [ResultVar.tmp 2]) tok follows Tryz.func107 rfl rfl fine107 (by kernel_rfl) (by kernel_rfl) ?_
  simp only [evA, evT, evD, seval, cx_free]
  refine call_ok hR (by simp only [evA, evT, evD, seval, cx_free, in_free]) ?_
  simp only [evA, evT, evD, seval, cx_free, in_free]
/-- All of a call, in order. -/
abbrev whyR (f l k s m : Int) (i : Bool) (ds xs ws : List (Int × Int)) : List (List AV) := [[.int 4, .fn 103 [kP f l k s m i]], [.int 3, .fn 104 [kX xs, kP f l k s m i, kX ds]], [.int 5, .fn 105 [kP f l k s m i, kX ws]], [.int 2, .fn 107 [kX xs, kP f l k s m i]]]
theorem whys.ok (f l k s m : Int) (i : Bool) (ds xs ws : List (Int × Int)) : Ok Tryz.prog 70 [.sl 2 (cxRows ds), .sl 2 (cxRows xs), .sl 2 (cxRows ws), plV f l k s m i] (.sl 2 (whyR f l k s m i ds xs ws)) := by
  refine ok_of (X := fun _ => []) (Z := fun r => Nat.beq r 1) (res := [ResultVar.tmp 8]) tok follows Tryz.func70 rfl rfl fine70 (by kernel_rfl) (by kernel_rfl) ?_
  simp only [evA, evB, evT, evD, seval, cx_free]
  refine two_of tok (List.take 8 _) (List.drop 8 _) (List.take_append_drop 8 _).symm ?_
  simp only [evA, evB, evT, evD, seval, cx_free, List.toList_toArray]
  refine ⟨⟨[(16, .agg [.int 2, .fn 107 [kX xs, kP f l k s m i]]), (14, .agg [.int 5, .fn 105 [kP f l k s m i, kX ws]]), (12, .agg [.int 3, .fn 104 [kX xs, kP f l k s m i, kX ds]]), (10, .agg [.int 4, .fn 103 [kP f l k s m i]])], [], 0⟩, weak_of (fun l => l) rfl ?_ ?_, ?_⟩
  · simp only [evA, evB, evT, evD, seval]
  · simp only [evA, evB, evT, evD, seval, cx_free]
  simp only [evA, evB, evT, evD, seval, cx_free]
theorem held.no (f l k s m : Int) (i : Bool) (ds xs ws : List (Int × Int)) (h1 : Ok Tryz.prog 103 [kP f l k s m i] (.bool Bool.false)) (h2 : Ok Tryz.prog 104 [kX xs, kP f l k s m i, kX ds] (.bool Bool.false)) (h3 : Ok Tryz.prog 105 [kP f l k s m i, kX ws] (.bool Bool.false)) (h4 : Ok Tryz.prog 107 [kX xs, kP f l k s m i] (.bool Bool.false)) :
    Ok Tryz.prog 69 [.sl 2 (whyR f l k s m i ds xs ws)] (.tup []) := by
  refine ok_of (X := fun _ => []) (Z := fun _ => false) (res := []) tok follows Tryz.func69 rfl rfl fine69 (by kernel_rfl) (by kernel_rfl) ?_
  simp only [evA, evB, evT, evD, seval, cx_free]
  refine ⟨5, l_succ ?_⟩
  simp only [evA, evB, evT, evD, seval, cx_free]
  refine call_ok h1 rfl ?_
  simp only [evA, evB, evT, evD, seval, cx_free]
  refine l_succ ?_
  simp only [evA, evB, evT, evD, seval, cx_free]
  refine call_ok h2 rfl ?_
  simp only [evA, evB, evT, evD, seval, cx_free]
  refine l_succ ?_
  simp only [evA, evB, evT, evD, seval, cx_free]
  refine call_ok h3 rfl ?_
  simp only [evA, evB, evT, evD, seval, cx_free]
  refine l_succ ?_
  simp only [evA, evB, evT, evD, seval, cx_free]
  refine call_ok h4 rfl ?_
  simp only [evA, evB, evT, evD, seval, cx_free]
  refine l_succ ?_
  simp only [evA, evB, evT, evD, seval, cx_free]
  rfl
theorem panic_hand (L : Nat) (e : Int) (c : AV) (env : List (Nat × AV)) (lbl : List (Nat × Option LB)) (nx : Nat) (h3 : look 3 env = some (.loc L 0)) (hL : look L lbl = some (some (.box [.int e, c])))
    {y0 y1 y2 y3 : TypeId} {p0 p1 p2 p3 : String} {a0 a1 a2 a3 : Array Edge} :
    RegX Tryz.prog #[⟨some 13, .fieldAddr 149 (.tmp 3) 0, y0, p0, a0, none⟩, ⟨some 14, .load 28 (.tmp 13), y1, p1, a1, none⟩, ⟨some 15, .makeInterface 102 (.tmp 14), y2, p2, a2, none⟩, ⟨none, .panic (.tmp 15), y3, p3, a3, none⟩]
      (.panic [{ v := .iface 102 (.int .i64 e), recovered := false }]) ⟨env, lbl, nx⟩ ⟨(15, .raw (.iface 102 (.int .i64 e))) :: (14, .int e) :: (13, .loc L 0) :: env, lbl, nx⟩ := by
  intro n w0 M N0 a w Q hd ht hQ
  simp only [dstsOk, dstLt, Bool.and_eq_true] at hd
  obtain ⟨d0, d1, d2, _⟩ := hd
  have d0 := blt_lt d0
  have d1 := blt_lt d1
  have d2 := blt_lt d2
  show wpOps _ _ _ [0, 1, 2, 3] a w
  refine stepE tok (.loc L 0) (p := True) rfl d0 (by simp only [evA, evT, evD, seval, St.put, h3]; first | done | rfl) trivial ht fun b1 u1 => ?_
  refine stepE tok (.int e) (p := True) rfl d1 (by simp only [evA, evT, evD, seval, St.put, hL]; first | done | rfl) trivial u1 fun b2 u2 => ?_
  have e14 := tel_raw u2 (t := 14) (v := .int .i64 e) (by show look 14 ((14, _) :: _) = _; rw [look_cons, if_pos rfl])
  refine step_raw (.iface 102 (.int .i64 e)) rfl d2 (by simp [execOp, e14, run_mkI (t := 102) (W := w) (v := .int .i64 e) Tryz.underlying102 (by intro m h; cases h)]) u2 fun b3 u3 => ?_
  have e15 := tel_raw u3 (t := 15) (v := .iface 102 (.int .i64 e)) (by show look 15 ((15, _) :: _) = _; rw [look_cons, if_pos rfl])
  have hx : (execOp b3.eval ⟨none, .panic (.tmp 15), y3, p3, a3, none⟩).run Tryz.prog w = .halt (.panic (.iface 102 (.int .i64 e))) w := by
    simp [execOp, e15]
    rfl
  refine hand_op (o := ⟨none, .panic (.tmp 15), y3, p3, a3, none⟩) rfl rfl ?_
  unfold Oper.wp
  rw [hx]
  exact hQ _ _ u3
theorem held.j0 (f l k s m : Int) (i : Bool) (ds xs ws : List (Int × Int)) (h1 : Ok Tryz.prog 103 [kP f l k s m i] (.bool Bool.true)) :
    OkP Tryz.prog 69 [.sl 2 (whyR f l k s m i ds xs ws)] (.iface 102 (.int .i64 4)) := by
  refine okp_of tok follows Tryz.func69 (X := fun _ => []) (Y := fun r => Nat.beq r 4) rfl fine69 (by kernel_rfl) (by kernel_rfl) ?_
  simp only [evA, evB, evT, evD, seval, cx_free, p_seq, p_block, p_region, rp_f, p_loop, p_cond, cp_t, cp_f, p_skip, p_exit]
  refine ⟨5, l_succ ?_⟩
  simp only [evA, evB, evT, evD, seval, cx_free, p_seq, p_block, p_region, rp_f, p_loop, p_cond, cp_t, cp_f, p_skip, p_exit]
  refine call_ok h1 rfl ?_
  simp only [evA, evB, evT, evD, seval, cx_free, p_seq, p_block, p_region, rp_f, p_loop, p_cond, cp_t, cp_f, p_skip, p_exit]
  refine ⟨rfl, _, _, panic_hand 0 4 (.fn 103 [kP f l k s m i]) _ _ _ rfl rfl, ?_⟩
  rfl
theorem held.j1 (f l k s m : Int) (i : Bool) (ds xs ws : List (Int × Int)) (h1 : Ok Tryz.prog 103 [kP f l k s m i] (.bool Bool.false)) (h2 : Ok Tryz.prog 104 [kX xs, kP f l k s m i, kX ds] (.bool Bool.true)) :
    OkP Tryz.prog 69 [.sl 2 (whyR f l k s m i ds xs ws)] (.iface 102 (.int .i64 3)) := by
  refine okp_of tok follows Tryz.func69 (X := fun _ => []) (Y := fun r => Nat.beq r 4) rfl fine69 (by kernel_rfl) (by kernel_rfl) ?_
  simp only [evA, evB, evT, evD, seval, cx_free, p_seq, p_block, p_region, rp_f, p_loop, p_cond, cp_t, cp_f, p_skip, p_exit]
  refine ⟨5, l_succ ?_⟩
  simp only [evA, evB, evT, evD, seval, cx_free, p_seq, p_block, p_region, rp_f, p_loop, p_cond, cp_t, cp_f, p_skip, p_exit]
  refine call_ok h1 rfl ?_
  simp only [evA, evB, evT, evD, seval, cx_free, p_seq, p_block, p_region, rp_f, p_loop, p_cond, cp_t, cp_f, p_skip, p_exit]
  refine l_succ ?_
  simp only [evA, evB, evT, evD, seval, cx_free, p_seq, p_block, p_region, rp_f, p_loop, p_cond, cp_t, cp_f, p_skip, p_exit]
  refine call_ok h2 rfl ?_
  simp only [evA, evB, evT, evD, seval, cx_free, p_seq, p_block, p_region, rp_f, p_loop, p_cond, cp_t, cp_f, p_skip, p_exit]
  refine ⟨rfl, _, _, panic_hand 1 3 (.fn 104 [kX xs, kP f l k s m i, kX ds]) _ _ _ rfl rfl, ?_⟩
  rfl
theorem held.j2 (f l k s m : Int) (i : Bool) (ds xs ws : List (Int × Int)) (h1 : Ok Tryz.prog 103 [kP f l k s m i] (.bool Bool.false)) (h2 : Ok Tryz.prog 104 [kX xs, kP f l k s m i, kX ds] (.bool Bool.false)) (h3 : Ok Tryz.prog 105 [kP f l k s m i, kX ws] (.bool Bool.true)) :
    OkP Tryz.prog 69 [.sl 2 (whyR f l k s m i ds xs ws)] (.iface 102 (.int .i64 5)) := by
  refine okp_of tok follows Tryz.func69 (X := fun _ => []) (Y := fun r => Nat.beq r 4) rfl fine69 (by kernel_rfl) (by kernel_rfl) ?_
  simp only [evA, evB, evT, evD, seval, cx_free, p_seq, p_block, p_region, rp_f, p_loop, p_cond, cp_t, cp_f, p_skip, p_exit]
  refine ⟨5, l_succ ?_⟩
  simp only [evA, evB, evT, evD, seval, cx_free, p_seq, p_block, p_region, rp_f, p_loop, p_cond, cp_t, cp_f, p_skip, p_exit]
  refine call_ok h1 rfl ?_
  simp only [evA, evB, evT, evD, seval, cx_free, p_seq, p_block, p_region, rp_f, p_loop, p_cond, cp_t, cp_f, p_skip, p_exit]
  refine l_succ ?_
  simp only [evA, evB, evT, evD, seval, cx_free, p_seq, p_block, p_region, rp_f, p_loop, p_cond, cp_t, cp_f, p_skip, p_exit]
  refine call_ok h2 rfl ?_
  simp only [evA, evB, evT, evD, seval, cx_free, p_seq, p_block, p_region, rp_f, p_loop, p_cond, cp_t, cp_f, p_skip, p_exit]
  refine l_succ ?_
  simp only [evA, evB, evT, evD, seval, cx_free, p_seq, p_block, p_region, rp_f, p_loop, p_cond, cp_t, cp_f, p_skip, p_exit]
  refine call_ok h3 rfl ?_
  simp only [evA, evB, evT, evD, seval, cx_free, p_seq, p_block, p_region, rp_f, p_loop, p_cond, cp_t, cp_f, p_skip, p_exit]
  refine ⟨rfl, _, _, panic_hand 2 5 (.fn 105 [kP f l k s m i, kX ws]) _ _ _ rfl rfl, ?_⟩
  rfl
theorem held.j3 (f l k s m : Int) (i : Bool) (ds xs ws : List (Int × Int)) (h1 : Ok Tryz.prog 103 [kP f l k s m i] (.bool Bool.false)) (h2 : Ok Tryz.prog 104 [kX xs, kP f l k s m i, kX ds] (.bool Bool.false)) (h3 : Ok Tryz.prog 105 [kP f l k s m i, kX ws] (.bool Bool.false)) (h4 : Ok Tryz.prog 107 [kX xs, kP f l k s m i] (.bool Bool.true)) :
    OkP Tryz.prog 69 [.sl 2 (whyR f l k s m i ds xs ws)] (.iface 102 (.int .i64 2)) := by
  refine okp_of tok follows Tryz.func69 (X := fun _ => []) (Y := fun r => Nat.beq r 4) rfl fine69 (by kernel_rfl) (by kernel_rfl) ?_
  simp only [evA, evB, evT, evD, seval, cx_free, p_seq, p_block, p_region, rp_f, p_loop, p_cond, cp_t, cp_f, p_skip, p_exit]
  refine ⟨5, l_succ ?_⟩
  simp only [evA, evB, evT, evD, seval, cx_free, p_seq, p_block, p_region, rp_f, p_loop, p_cond, cp_t, cp_f, p_skip, p_exit]
  refine call_ok h1 rfl ?_
  simp only [evA, evB, evT, evD, seval, cx_free, p_seq, p_block, p_region, rp_f, p_loop, p_cond, cp_t, cp_f, p_skip, p_exit]
  refine l_succ ?_
  simp only [evA, evB, evT, evD, seval, cx_free, p_seq, p_block, p_region, rp_f, p_loop, p_cond, cp_t, cp_f, p_skip, p_exit]
  refine call_ok h2 rfl ?_
  simp only [evA, evB, evT, evD, seval, cx_free, p_seq, p_block, p_region, rp_f, p_loop, p_cond, cp_t, cp_f, p_skip, p_exit]
  refine l_succ ?_
  simp only [evA, evB, evT, evD, seval, cx_free, p_seq, p_block, p_region, rp_f, p_loop, p_cond, cp_t, cp_f, p_skip, p_exit]
  refine call_ok h3 rfl ?_
  simp only [evA, evB, evT, evD, seval, cx_free, p_seq, p_block, p_region, rp_f, p_loop, p_cond, cp_t, cp_f, p_skip, p_exit]
  refine l_succ ?_
  simp only [evA, evB, evT, evD, seval, cx_free, p_seq, p_block, p_region, rp_f, p_loop, p_cond, cp_t, cp_f, p_skip, p_exit]
  refine call_ok h4 rfl ?_
  simp only [evA, evB, evT, evD, seval, cx_free, p_seq, p_block, p_region, rp_f, p_loop, p_cond, cp_t, cp_f, p_skip, p_exit]
  refine ⟨rfl, _, _, panic_hand 3 2 (.fn 107 [kX xs, kP f l k s m i]) _ _ _ rfl rfl, ?_⟩
  rfl
end Go.Proofs.YtnnjjblgilibgaaGreatV

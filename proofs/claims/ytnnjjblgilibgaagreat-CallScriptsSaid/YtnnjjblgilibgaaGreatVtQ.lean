import Derived.Test.YtnnjjblgilibgaaGreatVtP
/- Contracts: the document's pass of a block, and its whole. -/
namespace Go.Proofs.YtnnjjblgilibgaaGreatV
open Go Go.RowKit
set_option linter.unusedVariables false
set_option linter.unusedSimpArgs false
set_option maxRecDepth 100000
set_option maxHeartbeats 40000000
section
variable {P : Program} {tt : TypeId → Option TI} (hT : TOk P tt) {n : Nat} {w0 : World} {M : Nat → Option Value} {N0 : NG} {ops : Array Oper} {Q : Exit → Act → World → Prop} {i : Nat} {rest : List Nat} {a : Act} {w : World} {s : St} {t : Nat} {op : Op} {ty : TypeId} {po : String} {af : Array Edge}
include hT
/-- An operation that the evaluator knows. -/
theorem stepE (x : AV) {p : Prop} (ho : ops[i]? = some ⟨some t, op, ty, po, af, none⟩) (ht : t < n) (hop : aop tt s.lb s.ev op = .val p x) (hp : p) (h : TelS n w0 M N0 s a w)
    (hK : ∀ a', TelS n w0 M N0 (s.put (some t) x) a' w → wpOps P ops Q rest a' w) : wpOps P ops Q (i :: rest) a w := by
  obtain ⟨φ, N, R⟩ := h
  obtain ⟨v, h1, h2⟩ := run_val (d := some t) (ty := ty) (po := po) (af := af) (g := none) hT R.ev R.lbl hop hp
  have h3 := R.put (d := some t) ht h2
  rw [put_E] at h3
  exact hand_v ho rfl h1 (hK _ ⟨φ, N, h3⟩)
omit hT in
/-- Nothing is put behind a slice. -/
theorem run_append_none {W : World} {st y elem : TypeId} {ti : TypeInfo} {v x : Value} (hu : P.underlying st = some (.slice elem)) (hs : P.info? elem = some ti) (hv : v = .slice none 0 0 ∨ ∃ g c, v = .slice (some ⟨g, 0, none⟩) 0 c) (hx : x = .slice none 0 0 ∨ ∃ b c, x = .slice (some b) 0 c) : (Builtin.append_ #[st, st] y #[v, x]).run P W = .ok v W := by
  rcases hv with rfl | ⟨g, c, rfl⟩ <;> rcases hx with rfl | ⟨b, c', rfl⟩
  all_goals simp [Builtin.append_, run_underlying hu, Builtin.lenOf, Builtin.firstCells, sizeOf, typeInfo, hs, loadCells, loadCellsFrom, storeCells]
end
theorem app_hand (k0 L m0 : Nat) (e1 : Int) (e2 : AV) (xs : AV) (env : List (Nat × AV)) (lbl : List (Nat × Option LB)) (nx : Nat) (h11 : look 11 env = some (.own L)) (hL : look L lbl = some (some (.row 3 1 []))) (h3 : look 3 env = some (.loc m0 0)) (hM : look m0 lbl = some (some (.box [xs, .int e1, e2, .sl 1 []])))
    {y0 y1 y2 y3 y4 : TypeId} {p0 p1 p2 p3 p4 : String} {a0 a1 a2 a3 a4 : Array Edge} :
    RegH Tryz.prog k0 #[⟨some 73, .move (.tmp 11), y0, p0, a0, none⟩, ⟨some 74, .fieldAddr 27 (.tmp 3) 3, y1, p1, a1, none⟩, ⟨some 75, .load 25 (.tmp 74), y2, p2, a2, none⟩, ⟨some 76, .call { callee := .builtin .append, args := #[.tmp 73, .tmp 75], argTypes := #[25, 25] }, y3, p3, a3, none⟩, ⟨some 11, .assign (.tmp 76), y4, p4, a4, none⟩] false
      ⟨env, lbl, nx⟩ ⟨(11, .own L) :: (76, .own L) :: (75, .sl 1 []) :: (74, .loc m0 3) :: (73, .own L) :: env, lbl, nx⟩ := by
  intro n w0 M N0 a w Q hM' hd ht hQ
  refine ⟨fun _ => ?_, fun h => by cases h⟩
  simp only [dstsOk, dstLt, Bool.and_eq_true] at hd
  obtain ⟨d0, d1, d2, d3, d4, _⟩ := hd
  have d0 := blt_lt d0
  have d1 := blt_lt d1
  have d2 := blt_lt d2
  have d3 := blt_lt d3
  have d4 := blt_lt d4
  show wpOps _ _ _ [0, 1, 2, 3, 4] a w
  refine step_move (.own L) (u := 11) rfl d0 h11 ht fun b1 u1 => ?_
  refine stepE tok (.loc m0 3) (p := True) rfl d1 (by simp only [evA, evT, evD, seval, St.put, h3]; first | done | rfl) trivial u1 fun b2 u2 => ?_
  refine stepE tok (.sl 1 []) (p := True) rfl d2 (by simp only [evA, evT, evD, seval, St.put, hM]; first | done | rfl) trivial u2 fun b3 u3 => ?_
  clear u1 u2 ht
  have u3' := u3
  obtain ⟨φ, N, R⟩ := u3
  have r1 : Rep w φ N (.own L) (b3.eval (.tmp 73)) := R.env 73 _ rfl
  have r2 : Rep w φ N (.sl 1 []) (b3.eval (.tmp 75)) := R.env 75 _ rfl
  have hLL : (St.lb ⟨(75, AV.sl 1 []) :: (74, AV.loc m0 3) :: (73, AV.own L) :: env, lbl, nx⟩) L = some (.row 3 1 []) := by
    show (look L lbl).getD none = _
    rw [hL]; rfl
  obtain ⟨v, xs', hφ, hv1, ho, hs, hr, hNb⟩ := R.lbl _ _ hLL
  obtain ⟨x1, hx1⟩ : ∃ x, b3.eval (.tmp 73) = x := ⟨_, rfl⟩
  obtain ⟨x2, hx2⟩ : ∃ x, b3.eval (.tmp 75) = x := ⟨_, rfl⟩
  rw [hx1] at r1
  rw [hx2] at r2
  have e1' : x1 = v := by
    cases r1 with
    | own _ _ h _ => rw [hφ] at h; exact (Option.some.inj h).symm
  subst e1'
  have hv : x1 = .slice none 0 0 ∨ ∃ g c, x1 = .slice (some ⟨g, 0, none⟩) 0 c := by
    rcases ho.2 with ⟨h, _⟩ | ⟨g, cap, cur, h, _⟩
    · exact .inl h
    · exact .inr ⟨g, cap, h⟩
  have hx : x2 = .slice none 0 0 ∨ ∃ b c, x2 = .slice (some b) 0 c := by
    cases r2 with
    | slnil => exact .inl rfl
    | slz _ a => exact .inr ⟨a, 0, rfl⟩
    | sl _ _ b o c cell hc hN hsz hw hr => exact .inr ⟨_, c, rfl⟩
  obtain ⟨hu, info, hin, hn'⟩ := tSlice_info tok (show tSlice tt 25 = some (3, _) from rfl)
  have hrun := run_append_none (P := Tryz.prog) (W := w) (y := y3) hu hin hv hx
  have hex : (execOp b3.eval ⟨some 76, .call { callee := .builtin .append, args := #[.tmp 73, .tmp 75], argTypes := #[25, 25] }, y3, p3, a3, none⟩).run Tryz.prog w = .ok (.value x1) w := by
    simp [execOp, resolve, invoke, builtin, hx1, hx2, hrun]
  refine hand_v rfl rfl hex ?_
  have u4 : TelS n w0 M N0 (St.put ⟨(75, .sl 1 []) :: (74, .loc m0 3) :: (73, .own L) :: env, lbl, nx⟩ (some 76) (.own L)) (b3.put (some 76) x1) w := by
    have := tel_move (t := 76) (u := 73) (x := .own L) u3' d3 rfl
    rw [hx1] at this
    exact this
  refine step_assign (.own L) (u := 76) rfl d4 (by show look 76 ((76, _) :: _) = _; rw [look_cons, if_pos rfl]) u4 fun b5 u5 => ?_
  exact hQ _ _ u5
theorem ref2_np (inv : Bool) (B s m : Int) (xs ws : List (Int × Int)) (H : Nat) (hl : lens xs.length) (hp : PassOf xs.length (2, H)) (h2 : ws.length = xs.length) (hset : setP B s m) (hx : nears 2147483648 xs) (hr : nears (2 ^ B.toNat) ws) :
    Ok Tryz.prog 64 [.sl 2 (cxRows xs), .sl 2 (cxRows ws), .int H, .int B, .int s, .int m, .bool inv] (.sl 2 (cxRows (npV inv B s m xs ws (2, H)))) := by
  have hll : xs.length ≤ 1000000 := by unfold lens at hl; omega
  generalize hq : ((2 : Int), (H : Int)) = q at hp
  cases hp with
  | two H' u a b c d e g hh =>
    simp only [Prod.mk.injEq, true_and] at hq
    obtain rfl : H = H' := by omega
    rw [np_two a e]
    exact RPass2.ok inv B s m xs ws H u hll a b c d e (by omega) hset hx hr
  | four H' u a b c d e g => simp at hq
theorem ref4_np (inv : Bool) (B s m : Int) (xs ws : List (Int × Int)) (H : Nat) (hl : lens xs.length) (hp : PassOf xs.length (4, H)) (h2 : ws.length = xs.length) (hset : setP B s m) (hx : nears 2147483648 xs) (hr : nears (2 ^ B.toNat) ws) :
    Ok Tryz.prog 65 [.sl 2 (cxRows xs), .sl 2 (cxRows ws), .int H, .int B, .int s, .int m, .bool inv] (.sl 2 (cxRows (npV inv B s m xs ws (4, H)))) := by
  have hll : xs.length ≤ 1000000 := by unfold lens at hl; omega
  generalize hq : ((4 : Int), (H : Int)) = q at hp
  cases hp with
  | four H' u a b c d e g =>
    simp only [Prod.mk.injEq, true_and] at hq
    obtain rfl : H = H' := by omega
    rw [np_four a e]
    exact RPass.ok inv B s m xs ws H u hll a b c d e (by omega) hset hx hr
  | two H' u a b c d e g => simp at hq
theorem one_in {log : Nat} (hl : 2 ≤ log ∧ log ≤ 6) : PassOf (2 ^ log) (2, ((1 : Nat) : Int)) := by
  refine pass_of (k := 0) hl ?_
  rcases (show log = 2 ∨ log = 3 ∨ log = 4 ∨ log = 5 ∨ log = 6 by omega) with rfl | rfl | rfl | rfl | rfl <;> decide
end Go.Proofs.YtnnjjblgilibgaaGreatV

import Derived.Test.YtfemklaeonkidaaRows
import Derived.Test.YtfemklaeonkidaaVfJ
import Derived.WalkKit
import Derived.ProofKit
import Derived.OpenShut
import Derived.ShutString
import Derived.ChangeOld
import Derived.Below
import Derived.SizedLaws
import Derived.Lib.SmallJoins
/- The row of the law FourSums. -/
namespace Go.Proofs.Ytfemklaeonkidaa.fourSums
open Go.ChangeShapes Go.WideShapes Go.ChangeAt Go.RowKit
open Go.Proofs.YtfemklaeonkidaaV
set_option linter.unusedVariables false
theorem own : ownKnob Try.prog.godebug = none := by kernel_rfl
theorem laidOut : laidOutB Try.prog = true := by kernel_rfl
theorem list8 {l : List Value} (h : l.length = 8) : ∃ c0 c1 c2 c3 c4 c5 c6 c7, l = [c0, c1, c2, c3, c4, c5, c6, c7] := by
  match l, h with
  | [c0, c1, c2, c3, c4, c5, c6, c7], _ => exact ⟨_, _, _, _, _, _, _, _, rfl⟩
theorem open_cx4 {H : Type} {enc : TypeId × Value → H} {W : World} {base : Nat} {v : Value} {d : DataW H} {p : List MemPlace} (hv : Value.okWide Try.prog W .any base 52 v) (h : DataW.Trod enc Try.prog W 0 (fun _ => true) true 52 v d p) :
    ∃ a0 b0 a1 b1 a2 b2 a3 b3 : Int, v = .agg #[.int .i64 a0, .int .i64 b0, .int .i64 a1, .int .i64 b1, .int .i64 a2, .int .i64 b2, .int .i64 a3, .int .i64 b3] := by
  unfold Value.okWide at hv
  rw [Try.underlying52] at hv
  obtain ⟨cs, rfl, hsz, _⟩ := hv
  have h8 : cs.toList.length = 8 := by
    rw [Array.length_toList, hsz]
    kernel_rfl
  obtain ⟨c0, c1, c2, c3, c4, c5, c6, c7, hl⟩ := list8 h8
  obtain ⟨fuel, hf⟩ := h
  have hf : DataW.trod enc Try.prog W 0 (fun _ => true) true fuel 52 [c0, c1, c2, c3, c4, c5, c6, c7] = some (d, p) := by rw [← hl]; exact hf
  obtain ⟨xs, m, _, _, _, hxl, hel⟩ := DataW.trod_array Try.underlying52 hf
  have hc : Try.prog.cellsOf 37 = 2 := by kernel_rfl
  have hc3 : Try.prog.cellsOf 3 = 1 := by kernel_rfl
  have key : ∀ (u w : Value) (y : DataW H × List MemPlace), DataW.trod enc Try.prog W 0 (fun _ => true) true m 37 [u, w] = some y → (∃ a, u = .int .i64 a) ∧ ∃ b, w = .int .i64 b := by
    intro u w y hy
    obtain ⟨y0, y1, n, _, _, g0, g1⟩ := trod_struct2 Try.underlying37 hy
    simp only [hc3, List.drop_zero, List.drop_succ_cons, List.take_succ_cons, List.take_zero] at g0 g1
    obtain ⟨a, e0, _, _⟩ := DataW.trod_int Try.underlying3 g0
    obtain ⟨b, e1, _, _⟩ := DataW.trod_int Try.underlying3 g1
    exact ⟨⟨a, by simpa using e0⟩, b, by simpa using e1⟩
  have hget : ∀ i, i < 4 → ∃ y, xs[i]? = some y := fun i hi => ⟨xs[i], by simp [hxl, hi]⟩
  obtain ⟨y0, k0⟩ := hget 0 (by decide)
  obtain ⟨y1, k1⟩ := hget 1 (by decide)
  obtain ⟨y2, k2⟩ := hget 2 (by decide)
  obtain ⟨y3, k3⟩ := hget 3 (by decide)
  have e0 := (hel 0 (by decide)).trans k0
  have e1 := (hel 1 (by decide)).trans k1
  have e2 := (hel 2 (by decide)).trans k2
  have e3 := (hel 3 (by decide)).trans k3
  simp only [hc, Nat.reduceMul, List.drop_zero, List.drop_succ_cons, List.take_succ_cons, List.take_zero] at e0 e1 e2 e3
  obtain ⟨⟨a0, rfl⟩, b0, rfl⟩ := key _ _ _ e0
  obtain ⟨⟨a1, rfl⟩, b1, rfl⟩ := key _ _ _ e1
  obtain ⟨⟨a2, rfl⟩, b2, rfl⟩ := key _ _ _ e2
  obtain ⟨⟨a3, rfl⟩, b3, rfl⟩ := key _ _ _ e3
  exact ⟨a0, b0, a1, b1, a2, b2, a3, b3, by rw [← Array.toList_inj.1 (show cs.toList = [.int .i64 a0, .int .i64 b0, .int .i64 a1, .int .i64 b1, .int .i64 a2, .int .i64 b2, .int .i64 a3, .int .i64 b3].toArray.toList from hl)]⟩
theorem rep_cx4 {W : World} {φ : Nat → Option Value} {N : Nat → Prop} (a0 b0 a1 b1 a2 b2 a3 b3 : Int) : Rep W φ N (arr4 a0 b0 a1 b1 a2 b2 a3 b3) (.agg #[.int .i64 a0, .int .i64 b0, .int .i64 a1, .int .i64 b1, .int .i64 a2, .int .i64 b2, .int .i64 a3, .int .i64 b3]) := by
  refine .agg _ _ rfl fun i x hx => ?_
  match i, hx with
  | 0, hx => cases hx; exact .raw _
  | 1, hx => cases hx; exact .raw _
  | 2, hx => cases hx; exact .raw _
  | 3, hx => cases hx; exact .raw _
  | 4, hx => cases hx; exact .raw _
  | 5, hx => cases hx; exact .raw _
  | 6, hx => cases hx; exact .raw _
  | 7, hx => cases hx; exact .raw _
  | i + 8, hx => simp at hx
theorem walk (W : World) (a0 b0 a1 b1 a2 b2 a3 b3 u0 v0 u1 v1 u2 v2 u3 v3 bits s mode : Int) (inv : Bool) : Calls Try.prog 10 #[.agg #[.int .i64 a0, .int .i64 b0, .int .i64 a1, .int .i64 b1, .int .i64 a2, .int .i64 b2, .int .i64 a3, .int .i64 b3], .agg #[.int .i64 u0, .int .i64 v0, .int .i64 u1, .int .i64 v1, .int .i64 u2, .int .i64 v2, .int .i64 u3, .int .i64 v3], .int .i64 bits, .int .i64 s, .int .i64 mode, .bool inv] W
    fun e W' => e = .returned (.bool true) ∧ Below W.heap.size W W' := by
  have h := (FourSums.true inv bits s mode a0 b0 a1 b1 a2 b2 a3 b3 u0 v0 u1 v1 u2 v2 u3 v3).2 W (fun _ => False) [.agg #[.int .i64 a0, .int .i64 b0, .int .i64 a1, .int .i64 b1, .int .i64 a2, .int .i64 b2, .int .i64 a3, .int .i64 b3], .agg #[.int .i64 u0, .int .i64 v0, .int .i64 u1, .int .i64 v1, .int .i64 u2, .int .i64 v2, .int .i64 u3, .int .i64 v3], .int .i64 bits, .int .i64 s, .int .i64 mode, .bool inv] (fun _ h => h.elim) rfl (fun i x hx => ?_)
  · refine h.mono fun e w' he => ?_
    obtain ⟨v, rfl, hb, hr⟩ := he
    rw [hr.of_raw]
    exact ⟨rfl, hb⟩
  · match i, hx with
    | 0, hx => cases hx; exact rep_cx4 ..
    | 1, hx => cases hx; exact rep_cx4 ..
    | 2, hx => cases hx; exact .raw _
    | 3, hx => cases hx; exact .raw _
    | 4, hx => cases hx; exact .raw _
    | 5, hx => cases hx; exact .raw _
    | i + 6, hx => simp at hx
set_option maxRecDepth 100000 in
theorem lifted (os : Os) (started : os.Started) (H : Type) (enc : TypeId × Value → H) :
    ReturnsInHanded {} Try.checked os 10 .any (Rows.fourSumsSpec.pre6 enc Try.prog Try.f10 Rows.fourSumsRow.domain false) (Rows.fourSumsSpec.post enc Try.prog Try.f10 false true false false) := by
  refine returnsInHanded_of_change_sized (C := Try.checked) own started (by kernel_rfl) Try.func10
    (ChangeSpec.witness6 (enc := enc) (C := Try.checked) false ⟨#[], #[.agg #[.int .i64 0, .int .i64 0, .int .i64 0, .int .i64 0, .int .i64 0, .int .i64 0, .int .i64 0, .int .i64 0], .agg #[.int .i64 0, .int .i64 0, .int .i64 0, .int .i64 0, .int .i64 0, .int .i64 0, .int .i64 0, .int .i64 0], .int .i64 0, .int .i64 0, .int .i64 0, .bool false], []⟩ 8 (by kernel_rfl) (by kernel_rfl) (by kernel_rfl) (by kernel_rfl)) ?_
  intro W base args ds gs before hval0 hW hcnd hsz0 _
  have hval : ∀ (j : Nat) t v, Try.f10.params[j]? = some t → args[j]? = some v → Value.okWide Try.prog W .any base t v := hval0
  have hW' := hW
  obtain ⟨p, q, hA0, hV, rfl, hfz, hnd⟩ := hW
  have hA : DataW.TrodAll enc Try.prog W 0 (fun _ => true) true Try.f10.params.toList args.toList ds p := hA0
  rw [Try.params10] at hA hval
  obtain ⟨v0, vs0, d0, ds0, p0, q0, hargs, rfl, rfl, h0, r0⟩ := trodAll_cons hA
  obtain ⟨v1, vs1, d1, ds1, p1, q1, rfl, rfl, rfl, h1, r1⟩ := trodAll_cons r0
  obtain ⟨v2, vs2, d2, ds2, p2, q2, rfl, rfl, rfl, h2, r2⟩ := trodAll_cons r1
  obtain ⟨v3, vs3, d3, ds3, p3, q3, rfl, rfl, rfl, h3, r3⟩ := trodAll_cons r2
  obtain ⟨v4, vs4, d4, ds4, p4, q4, rfl, rfl, rfl, h4, r4⟩ := trodAll_cons r3
  obtain ⟨v5, vs5, d5, ds5, p5, q5, rfl, rfl, rfl, h5, r5⟩ := trodAll_cons r4
  obtain ⟨rfl, rfl, rfl⟩ := trodAll_nil r5
  obtain rfl : args = #[v0, v1, v2, v3, v4, v5] := by cases args; simp_all
  obtain ⟨rfl, rfl⟩ := trodVars_none hV
  have k0 := h0
  have lt0 : ∀ x ∈ p0, x.block < W.heap.size := by obtain ⟨m, hm⟩ := k0; exact DataW.trod_lt m _ _ _ hm
  obtain ⟨a0, b0, a1, b1, a2, b2, a3, b3, rfl⟩ := open_cx4 (hval 0 52 v0 rfl rfl) h0
  have k1 := h1
  have lt1 : ∀ x ∈ p1, x.block < W.heap.size := by obtain ⟨m, hm⟩ := k1; exact DataW.trod_lt m _ _ _ hm
  obtain ⟨u0, w0, u1, w1, u2, w2, u3, w3, rfl⟩ := open_cx4 (hval 1 52 v1 rfl rfl) h1
  obtain ⟨bits, rfl, rfl, rfl, v2_⟩ := open_int Try.underlying3 (hval 2 3 v2 rfl rfl) h2
  obtain ⟨s, rfl, rfl, rfl, v3_⟩ := open_int Try.underlying3 (hval 3 3 v3 rfl rfl) h3
  obtain ⟨mode, rfl, rfl, rfl, v4_⟩ := open_int Try.underlying3 (hval 4 3 v4 rfl rfl) h4
  obtain ⟨inv, rfl, rfl, rfl⟩ := open_bool Try.underlying4 (hval 5 4 v5 rfl rfl) h5
  clear hA0 hval0 hsz0
  refine (walk W a0 b0 a1 b1 a2 b2 a3 b3 u0 w0 u1 w1 u2 w2 u3 w3 bits s mode inv).mono fun e W' ⟨he, bel⟩ => ?_
  subst he
  exact ⟨_, rfl, _, _, _, [], _, [], hW', trodAll_mk1 (shut_bool Try.underlying4 _), (trodAll_cons_mk (Below.trod laidOut (by kernel_rfl) (of_decide_eq_true (by kernel_rfl)) k0 bel lt0) (trodAll_cons_mk (Below.trod laidOut (by kernel_rfl) (of_decide_eq_true (by kernel_rfl)) k1 bel lt1) (trodAll_cons_mk (shut_int Try.underlying3 v2_) (trodAll_cons_mk (shut_int Try.underlying3 v3_) (trodAll_cons_mk (shut_int Try.underlying3 v4_) (trodAll_cons_mk (shut_bool Try.underlying4 _) trodAll_mk0)))))), rfl, bel.frame _, fun h => by cases h⟩
theorem over : Rows.fourSumsRow.holds Try.pinned (OpenSpec.ofChange Rows.fourSumsSpec) :=
  OpenClaim.holds_of_wide 10 Try.f10 rfl rfl rfl rfl rfl rfl rfl ⟨rfl, rfl, rfl, rfl, rfl⟩ rfl rfl rfl rfl rfl (by kernel_rfl) Try.func10 (by kernel_rfl)
    (of_decide_eq_true (by kernel_rfl)) (by unfold Func.isWrapper; first | (rw [if_pos (by decide +kernel)]; kernel_rfl) | (rw [if_neg (by decide +kernel)]; exact ⟨rfl, rfl⟩))
    (fun os started H enc _ => lifted os started H enc)
theorem proved : Rows.FourSumsSaid := over
#print axioms proved
end Go.Proofs.Ytfemklaeonkidaa.fourSums
namespace Go.Proofs.Ytfemklaeonkidaa
/-- The row, under a short name, for the claim. -/
theorem fourSums_holds : Rows.FourSumsSaid := fourSums.proved
end Go.Proofs.Ytfemklaeonkidaa

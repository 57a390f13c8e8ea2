import Derived.Test.YtnnjjblgilibgaaGreatRows
import Derived.Test.YtnnjjblgilibgaaGreatVqG
import Derived.Test.YtnnjjblgilibgaaGreatVgB
import Derived.Test.YtnnjjblgilibgaaGreatVpP
import Derived.WalkKit
import Derived.ProofKit
import Derived.OpenShut
import Derived.ShutString
import Derived.ChangeOld
import Derived.Below
import Derived.SizedLaws
import Derived.Lib.SmallJoins
/- The row of the law CallLeaves. -/
namespace Go.Proofs.YtnnjjblgilibgaaGreat.callLeaves
open Go.ChangeShapes Go.WideShapes Go.ChangeAt Go.RowKit
open Go.Proofs.YtnnjjblgilibgaaGreatV
set_option linter.unusedVariables false
theorem own : ownKnob Tryz.prog.godebug = none := by kernel_rfl
theorem laidOut : laidOutB Tryz.prog = true := by kernel_rfl
theorem walk (W : World) (x0 : List (Int × Int)) (v0 : Value) (h0 : ∀ φ, Rep W φ (fun b => b < W.heap.size) (.sl 2 (cxRows x0)) v0) (x1 : List (Int × Int)) (v1 : Value) (h1 : ∀ φ, Rep W φ (fun b => b < W.heap.size) (.sl 2 (cxRows x1)) v1) (x2 : List (Int × Int)) (v2 : Value) (h2 : ∀ φ, Rep W φ (fun b => b < W.heap.size) (.sl 2 (cxRows x2)) v2) (a3_0 a3_1 a3_2 a3_3 a3_4 : Int) (a3_5 : Bool) : Calls Tryz.prog 10 #[v0, v1, v2, .agg #[.int .i64 a3_0, .int .i64 a3_1, .int .i64 a3_2, .int .i64 a3_3, .int .i64 a3_4, .bool a3_5]] W
    fun e W' => e = .returned (.bool true) ∧ Below W.heap.size W W' := by
  have h := (CallLeaves.true x0 x1 x2 a3_0 a3_1 a3_2 a3_3 a3_4 a3_5).2 W (fun b => b < W.heap.size) [v0, v1, v2, .agg #[.int .i64 a3_0, .int .i64 a3_1, .int .i64 a3_2, .int .i64 a3_3, .int .i64 a3_4, .bool a3_5]] (fun _ h => h) rfl (fun i x hx => ?_)
  · refine h.mono fun e w' he => ?_
    obtain ⟨v, rfl, hb, hr⟩ := he
    rw [hr.of_raw]
    exact ⟨rfl, hb⟩
  · match i, hx with
    | 0, hx => cases hx; exact h0 _
    | 1, hx => cases hx; exact h1 _
    | 2, hx => cases hx; exact h2 _
    | 3, hx => cases hx; exact rep_plan ..
    | i + 4, hx => simp at hx
set_option maxRecDepth 100000 in
theorem lifted (os : Os) (started : os.Started) (H : Type) (enc : TypeId × Value → H) :
    ReturnsInHanded {} Tryz.checked os 10 .any (Rows.callLeavesSpec.pre6 enc Tryz.prog Tryz.f10 Rows.callLeavesRow.domain false) (Rows.callLeavesSpec.post enc Tryz.prog Tryz.f10 false true false false) := by
  refine returnsInHanded_of_change_sized (C := Tryz.checked) own started (by kernel_rfl) Tryz.func10
    (ChangeSpec.witness6 (enc := enc) (C := Tryz.checked) false ⟨#[], #[.slice none 0 0, .slice none 0 0, .slice none 0 0, .agg #[.int .i64 0, .int .i64 0, .int .i64 0, .int .i64 0, .int .i64 0, .bool false]], []⟩ 8 (by kernel_rfl) (by kernel_rfl) (by kernel_rfl) (by kernel_rfl)) ?_
  intro W base args ds gs before hval0 hW hcnd hsz0 _
  have hval : ∀ (j : Nat) t v, Tryz.f10.params[j]? = some t → args[j]? = some v → Value.okWide Tryz.prog W .any base t v := hval0
  have hW' := hW
  obtain ⟨p, q, hA0, hV, rfl, hfz, hnd⟩ := hW
  have hA : DataW.TrodAll enc Tryz.prog W 0 (fun _ => true) true Tryz.f10.params.toList args.toList ds p := hA0
  rw [Tryz.params10] at hA hval
  obtain ⟨v0, vs0, d0, ds0, p0, q0, hargs, rfl, rfl, h0, r0⟩ := trodAll_cons hA
  obtain ⟨v1, vs1, d1, ds1, p1, q1, rfl, rfl, rfl, h1, r1⟩ := trodAll_cons r0
  obtain ⟨v2, vs2, d2, ds2, p2, q2, rfl, rfl, rfl, h2, r2⟩ := trodAll_cons r1
  obtain ⟨v3, vs3, d3, ds3, p3, q3, rfl, rfl, rfl, h3, r3⟩ := trodAll_cons r2
  obtain ⟨rfl, rfl, rfl⟩ := trodAll_nil r3
  obtain rfl : args = #[v0, v1, v2, v3] := by cases args; simp_all
  obtain ⟨rfl, rfl⟩ := trodVars_none hV
  have k0 := h0
  have lt0 : ∀ x ∈ p0, x.block < W.heap.size := by obtain ⟨m, hm⟩ := k0; exact DataW.trod_lt m _ _ _ hm
  obtain ⟨x0, g0⟩ := open_rows (w := W) Tryz.underlying22 Tryz.underlying43 (by kernel_rfl) rfl rfl (by kernel_rfl) (by kernel_rfl) (by kernel_rfl) (by kernel_rfl) (hval 0 22 v0 rfl rfl) h0
  have k1 := h1
  have lt1 : ∀ x ∈ p1, x.block < W.heap.size := by obtain ⟨m, hm⟩ := k1; exact DataW.trod_lt m _ _ _ hm
  obtain ⟨x1, g1⟩ := open_rows (w := W) Tryz.underlying22 Tryz.underlying43 (by kernel_rfl) rfl rfl (by kernel_rfl) (by kernel_rfl) (by kernel_rfl) (by kernel_rfl) (hval 1 22 v1 rfl rfl) h1
  have k2 := h2
  have lt2 : ∀ x ∈ p2, x.block < W.heap.size := by obtain ⟨m, hm⟩ := k2; exact DataW.trod_lt m _ _ _ hm
  obtain ⟨x2, g2⟩ := open_rows (w := W) Tryz.underlying22 Tryz.underlying43 (by kernel_rfl) rfl rfl (by kernel_rfl) (by kernel_rfl) (by kernel_rfl) (by kernel_rfl) (hval 2 22 v2 rfl rfl) h2
  have k3 := h3
  have lt3 : ∀ x ∈ p3, x.block < W.heap.size := by obtain ⟨m, hm⟩ := k3; exact DataW.trod_lt m _ _ _ hm
  obtain ⟨a3_0, a3_1, a3_2, a3_3, a3_4, a3_5, rfl⟩ := open_plan (hval 3 24 v3 rfl rfl) h3
  clear hA0 hval0 hsz0
  refine (walk W x0 v0 g0 x1 v1 g1 x2 v2 g2 a3_0 a3_1 a3_2 a3_3 a3_4 a3_5).mono fun e W' ⟨he, bel⟩ => ?_
  subst he
  exact ⟨_, rfl, _, _, _, [], _, [], hW', trodAll_mk1 (shut_bool Tryz.underlying4 _), (trodAll_cons_mk (Below.trod laidOut (by kernel_rfl) (of_decide_eq_true (by kernel_rfl)) k0 bel lt0) (trodAll_cons_mk (Below.trod laidOut (by kernel_rfl) (of_decide_eq_true (by kernel_rfl)) k1 bel lt1) (trodAll_cons_mk (Below.trod laidOut (by kernel_rfl) (of_decide_eq_true (by kernel_rfl)) k2 bel lt2) (trodAll_cons_mk (Below.trod laidOut (by kernel_rfl) (of_decide_eq_true (by kernel_rfl)) k3 bel lt3) trodAll_mk0)))), rfl, bel.frame _, fun h => by cases h⟩
theorem over : Rows.callLeavesRow.holds Tryz.pinned (OpenSpec.ofChange Rows.callLeavesSpec) :=
  OpenClaim.holds_of_wide 10 Tryz.f10 rfl rfl rfl rfl rfl rfl rfl ⟨rfl, rfl, rfl, rfl, rfl⟩ rfl rfl rfl rfl rfl (by kernel_rfl) Tryz.func10 (by kernel_rfl)
    (of_decide_eq_true (by kernel_rfl)) (by unfold Func.isWrapper; first | (rw [if_pos (by decide +kernel)]; kernel_rfl) | (rw [if_neg (by decide +kernel)]; exact ⟨rfl, rfl⟩))
    (fun os started H enc _ => lifted os started H enc)
theorem proved : Rows.CallLeavesSaid := over
#print axioms proved
end Go.Proofs.YtnnjjblgilibgaaGreat.callLeaves
namespace Go.Proofs.YtnnjjblgilibgaaGreat
/-- The row, under a short name, for the claim. -/
theorem callLeaves_holds : Rows.CallLeavesSaid := callLeaves.proved
end Go.Proofs.YtnnjjblgilibgaaGreat

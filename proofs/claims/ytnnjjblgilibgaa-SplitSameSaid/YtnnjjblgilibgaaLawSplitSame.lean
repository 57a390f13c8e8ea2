import Derived.Test.YtnnjjblgilibgaaRows
import Derived.Test.YtnnjjblgilibgaaVlI
import Derived.Test.YtnnjjblgilibgaaVpK
import Derived.WalkKit
import Derived.ProofKit
import Derived.OpenShut
import Derived.ShutString
import Derived.ChangeOld
import Derived.Below
import Derived.SizedLaws
import Derived.Lib.SmallJoins
/- The row of the law SplitSame. -/
namespace Go.Proofs.Ytnnjjblgilibgaa.splitSame
open Go.ChangeShapes Go.WideShapes Go.ChangeAt Go.RowKit
open Go.Proofs.YtnnjjblgilibgaaV
set_option linter.unusedVariables false
theorem own : ownKnob Try.prog.godebug = none := by kernel_rfl
theorem laidOut : laidOutB Try.prog = true := by kernel_rfl
theorem walk (W : World) (a0_0 a0_1 : Int) (x1 : Int) (x2 : Int) (x3 : Int) (x4 : Bool) : Calls Try.prog 4 #[.agg #[.int .i64 a0_0, .int .i64 a0_1], .int .i64 x1, .int .i64 x2, .int .i64 x3, .bool x4] W
    fun e W' => e = .returned (.bool true) ∧ Below W.heap.size W W' := by
  have h := (SplitSame.true a0_0 a0_1 x1 x2 x3 x4).2 W (fun b => b < W.heap.size) [.agg #[.int .i64 a0_0, .int .i64 a0_1], .int .i64 x1, .int .i64 x2, .int .i64 x3, .bool x4] (fun _ h => h) rfl (fun i x hx => ?_)
  · refine h.mono fun e w' he => ?_
    obtain ⟨v, rfl, hb, hr⟩ := he
    rw [hr.of_raw]
    exact ⟨rfl, hb⟩
  · match i, hx with
    | 0, hx => cases hx; exact rep_cxA ..
    | 1, hx => cases hx; exact .raw _
    | 2, hx => cases hx; exact .raw _
    | 3, hx => cases hx; exact .raw _
    | 4, hx => cases hx; exact .raw _
    | i + 5, hx => simp at hx
set_option maxRecDepth 100000 in
theorem lifted (os : Os) (started : os.Started) (H : Type) (enc : TypeId × Value → H) :
    ReturnsInHanded {} Try.checked os 4 .any (Rows.splitSameSpec.pre6 enc Try.prog Try.f4 Rows.splitSameRow.domain false) (Rows.splitSameSpec.post enc Try.prog Try.f4 false true false false) := by
  refine returnsInHanded_of_change_sized (C := Try.checked) own started (by kernel_rfl) Try.func4
    (ChangeSpec.witness6 (enc := enc) (C := Try.checked) false ⟨#[], #[.agg #[.int .i64 0, .int .i64 0], .int .i64 0, .int .i64 0, .int .i64 0, .bool false], []⟩ 8 (by kernel_rfl) (by kernel_rfl) (by kernel_rfl) (by kernel_rfl)) ?_
  intro W base args ds gs before hval0 hW hcnd hsz0 _
  have hval : ∀ (j : Nat) t v, Try.f4.params[j]? = some t → args[j]? = some v → Value.okWide Try.prog W .any base t v := hval0
  have hW' := hW
  obtain ⟨p, q, hA0, hV, rfl, hfz, hnd⟩ := hW
  have hA : DataW.TrodAll enc Try.prog W 0 (fun _ => true) true Try.f4.params.toList args.toList ds p := hA0
  rw [Try.params4] at hA hval
  obtain ⟨v0, vs0, d0, ds0, p0, q0, hargs, rfl, rfl, h0, r0⟩ := trodAll_cons hA
  obtain ⟨v1, vs1, d1, ds1, p1, q1, rfl, rfl, rfl, h1, r1⟩ := trodAll_cons r0
  obtain ⟨v2, vs2, d2, ds2, p2, q2, rfl, rfl, rfl, h2, r2⟩ := trodAll_cons r1
  obtain ⟨v3, vs3, d3, ds3, p3, q3, rfl, rfl, rfl, h3, r3⟩ := trodAll_cons r2
  obtain ⟨v4, vs4, d4, ds4, p4, q4, rfl, rfl, rfl, h4, r4⟩ := trodAll_cons r3
  obtain ⟨rfl, rfl, rfl⟩ := trodAll_nil r4
  obtain rfl : args = #[v0, v1, v2, v3, v4] := by cases args; simp_all
  obtain ⟨rfl, rfl⟩ := trodVars_none hV
  have k0 := h0
  have lt0 : ∀ x ∈ p0, x.block < W.heap.size := by obtain ⟨m, hm⟩ := k0; exact DataW.trod_lt m _ _ _ hm
  obtain ⟨a0_0, a0_1, rfl⟩ := open_cx (hval 0 35 v0 rfl rfl) h0
  obtain ⟨x1, rfl, rfl, rfl, v1_⟩ := open_int Try.underlying3 (hval 1 3 v1 rfl rfl) h1
  obtain ⟨x2, rfl, rfl, rfl, v2_⟩ := open_int Try.underlying3 (hval 2 3 v2 rfl rfl) h2
  obtain ⟨x3, rfl, rfl, rfl, v3_⟩ := open_int Try.underlying3 (hval 3 3 v3 rfl rfl) h3
  obtain ⟨x4, rfl, rfl, rfl⟩ := open_bool Try.underlying4 (hval 4 4 v4 rfl rfl) h4
  clear hA0 hval0 hsz0
  refine (walk W a0_0 a0_1 x1 x2 x3 x4).mono fun e W' ⟨he, bel⟩ => ?_
  subst he
  exact ⟨_, rfl, _, _, _, [], _, [], hW', trodAll_mk1 (shut_bool Try.underlying4 _), (trodAll_cons_mk (Below.trod laidOut (by kernel_rfl) (of_decide_eq_true (by kernel_rfl)) k0 bel lt0) (trodAll_cons_mk (shut_int Try.underlying3 v1_) (trodAll_cons_mk (shut_int Try.underlying3 v2_) (trodAll_cons_mk (shut_int Try.underlying3 v3_) (trodAll_cons_mk (shut_bool Try.underlying4 _) trodAll_mk0))))), rfl, bel.frame _, fun h => by cases h⟩
theorem over : Rows.splitSameRow.holds Try.pinned (OpenSpec.ofChange Rows.splitSameSpec) :=
  OpenClaim.holds_of_wide 4 Try.f4 rfl rfl rfl rfl rfl rfl rfl ⟨rfl, rfl, rfl, rfl, rfl⟩ rfl rfl rfl rfl rfl (by kernel_rfl) Try.func4 (by kernel_rfl)
    (of_decide_eq_true (by kernel_rfl)) (by unfold Func.isWrapper; first | (rw [if_pos (by decide +kernel)]; kernel_rfl) | (rw [if_neg (by decide +kernel)]; exact ⟨rfl, rfl⟩))
    (fun os started H enc _ => lifted os started H enc)
theorem proved : Rows.SplitSameSaid := over
#print axioms proved
end Go.Proofs.Ytnnjjblgilibgaa.splitSame
namespace Go.Proofs.Ytnnjjblgilibgaa
/-- The row, under a short name, for the claim. -/
theorem splitSame_holds : Rows.SplitSameSaid := splitSame.proved
end Go.Proofs.Ytnnjjblgilibgaa

import Derived.Test.YtfmhdfaelgkmcaaRows
import Derived.Test.YtfmhdfaelgkmcaaVsI
import Derived.Test.YtfmhdfaelgkmcaaVpI
import Derived.WalkKit
import Derived.ProofKit
import Derived.OpenShut
import Derived.ShutString
import Derived.ChangeOld
import Derived.Below
import Derived.SizedLaws
import Derived.Lib.SmallJoins
/- The row of the law SingleMirrors. -/
namespace Go.Proofs.Ytfmhdfaelgkmcaa.singleMirrors
open Go.ChangeShapes Go.WideShapes Go.ChangeAt Go.RowKit
open Go.Proofs.YtfmhdfaelgkmcaaV
set_option linter.unusedVariables false
theorem own : ownKnob Try.prog.godebug = none := by kernel_rfl
theorem laidOut : laidOutB Try.prog = true := by kernel_rfl
theorem walk (W : World) (x0 : List Int) (v0 : Value) (h0 : ∀ φ, Rep W φ (fun b => b < W.heap.size) (.sl 1 (intRows x0)) v0) (x1 : Int) : Calls Try.prog 11 #[v0, .int .i64 x1] W
    fun e W' => e = .returned (.bool true) ∧ Below W.heap.size W W' := by
  have h := (SingleMirrors.true x0 x1).2 W (fun b => b < W.heap.size) [v0, .int .i64 x1] (fun _ h => h) rfl (fun i x hx => ?_)
  · refine h.mono fun e w' he => ?_
    obtain ⟨v, rfl, hb, hr⟩ := he
    rw [hr.of_raw]
    exact ⟨rfl, hb⟩
  · match i, hx with
    | 0, hx => cases hx; exact h0 _
    | 1, hx => cases hx; exact .raw _
    | i + 2, hx => simp at hx
set_option maxRecDepth 100000 in
theorem lifted (os : Os) (started : os.Started) (H : Type) (enc : TypeId × Value → H) :
    ReturnsInHanded {} Try.checked os 11 .any (Rows.singleMirrorsSpec.pre6 enc Try.prog Try.f11 Rows.singleMirrorsRow.domain false) (Rows.singleMirrorsSpec.post enc Try.prog Try.f11 false true false false) := by
  refine returnsInHanded_of_change_sized (C := Try.checked) own started (by kernel_rfl) Try.func11
    (ChangeSpec.witness6 (enc := enc) (C := Try.checked) false ⟨#[], #[.slice none 0 0, .int .i64 0], []⟩ 8 (by kernel_rfl) (by kernel_rfl) (by kernel_rfl) (by kernel_rfl)) ?_
  intro W base args ds gs before hval0 hW hcnd hsz0 _
  have hval : ∀ (j : Nat) t v, Try.f11.params[j]? = some t → args[j]? = some v → Value.okWide Try.prog W .any base t v := hval0
  have hW' := hW
  obtain ⟨p, q, hA0, hV, rfl, hfz, hnd⟩ := hW
  have hA : DataW.TrodAll enc Try.prog W 0 (fun _ => true) true Try.f11.params.toList args.toList ds p := hA0
  rw [Try.params11] at hA hval
  obtain ⟨v0, vs0, d0, ds0, p0, q0, hargs, rfl, rfl, h0, r0⟩ := trodAll_cons hA
  obtain ⟨v1, vs1, d1, ds1, p1, q1, rfl, rfl, rfl, h1, r1⟩ := trodAll_cons r0
  obtain ⟨rfl, rfl, rfl⟩ := trodAll_nil r1
  obtain rfl : args = #[v0, v1] := by cases args; simp_all
  obtain ⟨rfl, rfl⟩ := trodVars_none hV
  have k0 := h0
  have lt0 : ∀ x ∈ p0, x.block < W.heap.size := by obtain ⟨m, hm⟩ := k0; exact DataW.trod_lt m _ _ _ hm
  obtain ⟨x0, g0⟩ := open_int_rows (w := W) Try.underlying44 Try.underlying3 (by kernel_rfl) (hval 0 44 v0 rfl rfl) h0
  obtain ⟨x1, rfl, rfl, rfl, v1_⟩ := open_int Try.underlying3 (hval 1 3 v1 rfl rfl) h1
  clear hA0 hval0 hsz0
  refine (walk W x0 v0 g0 x1).mono fun e W' ⟨he, bel⟩ => ?_
  subst he
  exact ⟨_, rfl, _, _, _, [], _, [], hW', trodAll_mk1 (shut_bool Try.underlying4 _), (trodAll_cons_mk (Below.trod laidOut (by kernel_rfl) (of_decide_eq_true (by kernel_rfl)) k0 bel lt0) (trodAll_cons_mk (shut_int Try.underlying3 v1_) trodAll_mk0)), rfl, bel.frame _, fun h => by cases h⟩
theorem over : Rows.singleMirrorsRow.holds Try.pinned (OpenSpec.ofChange Rows.singleMirrorsSpec) :=
  OpenClaim.holds_of_wide 11 Try.f11 rfl rfl rfl rfl rfl rfl rfl ⟨rfl, rfl, rfl, rfl, rfl⟩ rfl rfl rfl rfl rfl (by kernel_rfl) Try.func11 (by kernel_rfl)
    (of_decide_eq_true (by kernel_rfl)) (by unfold Func.isWrapper; first | (rw [if_pos (by decide +kernel)]; kernel_rfl) | (rw [if_neg (by decide +kernel)]; exact ⟨rfl, rfl⟩))
    (fun os started H enc _ => lifted os started H enc)
theorem proved : Rows.SingleMirrorsSaid := over
#print axioms proved
end Go.Proofs.Ytfmhdfaelgkmcaa.singleMirrors
namespace Go.Proofs.Ytfmhdfaelgkmcaa
/-- The row, under a short name, for the claim. -/
theorem singleMirrors_holds : Rows.SingleMirrorsSaid := singleMirrors.proved
end Go.Proofs.Ytfmhdfaelgkmcaa

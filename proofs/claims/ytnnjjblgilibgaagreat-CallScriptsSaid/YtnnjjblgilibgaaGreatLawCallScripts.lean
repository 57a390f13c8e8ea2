import Derived.Test.YtnnjjblgilibgaaGreatRows
import Derived.Test.YtnnjjblgilibgaaGreatVqJ
import Derived.Test.YtnnjjblgilibgaaGreatVgB
import Derived.Test.YtnnjjblgilibgaaGreatVpC
import Derived.WalkKit
import Derived.ProofKit
import Derived.OpenShut
import Derived.ShutString
import Derived.ChangeOld
import Derived.Below
import Derived.SizedLaws
import Derived.Lib.SmallJoins
/- The row of the law CallScripts. -/
namespace Go.Proofs.YtnnjjblgilibgaaGreat.callScripts
open Go.ChangeShapes Go.WideShapes Go.ChangeAt Go.RowKit
open Go.Proofs.YtnnjjblgilibgaaGreatV
set_option linter.unusedVariables false
theorem own : ownKnob Tryz.prog.godebug = none := by kernel_rfl
theorem laidOut : laidOutB Tryz.prog = true := by kernel_rfl
theorem walk (W : World) (x0 : List (Int × Int)) (v0 : Value) (h0 : ∀ φ, Rep W φ (fun b => b < W.heap.size) (.sl 2 (cxRows x0)) v0) (x1 : List Cl) (v1 : Value) (h1 : ∀ φ, Rep W φ (fun b => b < W.heap.size) (.sl 8 (clRows x1)) v1) : Calls Tryz.prog 11 #[v0, v1] W
    fun e W' => e = .returned (.bool true) ∧ Below W.heap.size W W' := by
  have h := (CallScripts.true x0 x1).2 W (fun b => b < W.heap.size) [v0, v1] (fun _ h => h) rfl (fun i x hx => ?_)
  · refine h.mono fun e w' he => ?_
    obtain ⟨v, rfl, hb, hr⟩ := he
    rw [hr.of_raw]
    exact ⟨rfl, hb⟩
  · match i, hx with
    | 0, hx => cases hx; exact h0 _
    | 1, hx => cases hx; exact h1 _
    | i + 2, hx => simp at hx
set_option maxRecDepth 100000 in
theorem lifted (os : Os) (started : os.Started) (H : Type) (enc : TypeId × Value → H) :
    ReturnsInHanded {} Tryz.checked os 11 .any (Rows.callScriptsSpec.pre6 enc Tryz.prog Tryz.f11 Rows.callScriptsRow.domain false) (Rows.callScriptsSpec.post enc Tryz.prog Tryz.f11 false true false false) := by
  refine returnsInHanded_of_change_sized (C := Tryz.checked) own started (by kernel_rfl) Tryz.func11
    (ChangeSpec.witness6 (enc := enc) (C := Tryz.checked) false ⟨#[], #[.slice none 0 0, .slice none 0 0], []⟩ 8 (by kernel_rfl) (by kernel_rfl) (by kernel_rfl) (by kernel_rfl)) ?_
  intro W base args ds gs before hval0 hW hcnd hsz0 _
  have hval : ∀ (j : Nat) t v, Tryz.f11.params[j]? = some t → args[j]? = some v → Value.okWide Tryz.prog W .any base t v := hval0
  have hW' := hW
  obtain ⟨p, q, hA0, hV, rfl, hfz, hnd⟩ := hW
  have hA : DataW.TrodAll enc Tryz.prog W 0 (fun _ => true) true Tryz.f11.params.toList args.toList ds p := hA0
  rw [Tryz.params11] at hA hval
  obtain ⟨v0, vs0, d0, ds0, p0, q0, hargs, rfl, rfl, h0, r0⟩ := trodAll_cons hA
  obtain ⟨v1, vs1, d1, ds1, p1, q1, rfl, rfl, rfl, h1, r1⟩ := trodAll_cons r0
  obtain ⟨rfl, rfl, rfl⟩ := trodAll_nil r1
  obtain rfl : args = #[v0, v1] := by cases args; simp_all
  obtain ⟨rfl, rfl⟩ := trodVars_none hV
  have k0 := h0
  have lt0 : ∀ x ∈ p0, x.block < W.heap.size := by obtain ⟨m, hm⟩ := k0; exact DataW.trod_lt m _ _ _ hm
  obtain ⟨x0, g0⟩ := open_rows (w := W) Tryz.underlying22 Tryz.underlying43 (by kernel_rfl) rfl rfl (by kernel_rfl) (by kernel_rfl) (by kernel_rfl) (by kernel_rfl) (hval 0 22 v0 rfl rfl) h0
  have k1 := h1
  have lt1 : ∀ x ∈ p1, x.block < W.heap.size := by obtain ⟨m, hm⟩ := k1; exact DataW.trod_lt m _ _ _ hm
  obtain ⟨x1, g1⟩ := open_calls (hval 1 64 v1 rfl rfl) h1
  clear hA0 hval0 hsz0
  refine (walk W x0 v0 g0 x1 v1 g1).mono fun e W' ⟨he, bel⟩ => ?_
  subst he
  exact ⟨_, rfl, _, _, _, [], _, [], hW', trodAll_mk1 (shut_bool Tryz.underlying4 _), (trodAll_cons_mk (Below.trod laidOut (by kernel_rfl) (of_decide_eq_true (by kernel_rfl)) k0 bel lt0) (trodAll_cons_mk (Below.trod laidOut (by kernel_rfl) (of_decide_eq_true (by kernel_rfl)) k1 bel lt1) trodAll_mk0)), rfl, bel.frame _, fun h => by cases h⟩
theorem over : Rows.callScriptsRow.holds Tryz.pinned (OpenSpec.ofChange Rows.callScriptsSpec) :=
  OpenClaim.holds_of_wide 11 Tryz.f11 rfl rfl rfl rfl rfl rfl rfl ⟨rfl, rfl, rfl, rfl, rfl⟩ rfl rfl rfl rfl rfl (by kernel_rfl) Tryz.func11 (by kernel_rfl)
    (of_decide_eq_true (by kernel_rfl)) (by unfold Func.isWrapper; first | (rw [if_pos (by decide +kernel)]; kernel_rfl) | (rw [if_neg (by decide +kernel)]; exact ⟨rfl, rfl⟩))
    (fun os started H enc _ => lifted os started H enc)
theorem proved : Rows.CallScriptsSaid := over
#print axioms proved
end Go.Proofs.YtnnjjblgilibgaaGreat.callScripts
namespace Go.Proofs.YtnnjjblgilibgaaGreat
/-- The row, under a short name, for the claim. -/
theorem callScripts_holds : Rows.CallScriptsSaid := callScripts.proved
end Go.Proofs.YtnnjjblgilibgaaGreat

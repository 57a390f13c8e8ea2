-- Laid by this session's program hyb.py, out of the kit's print and this session's own contracts.
-- The row of the law headroomlaw03_CxSums, out of its Pure and its walk.
import Derived.Test.YtobkjhiicafkbaaRows
import Derived.Test.YtobkjhiicafkbaaPx28
import Derived.Test.YtobkjhiicafkbaaPureCxSums
import Derived.WalkKit
import Derived.ProofKit
import Derived.OpenShut
import Derived.ShutString
import Derived.ChangeOld
import Derived.Below
import Derived.SizedLaws
import Derived.Lib.SmallJoins
namespace Go.Proofs.Ytobkjhiicafkbaa.cxSums
open Go.ChangeShapes Go.WideShapes Go.ChangeAt Go.RowKit
open Go.ChangeMaps (open_string shut_string)
open Go.Proofs.YtobkjhiicafkbaaW.PrintWords Go.Proofs.Ytobkjhiicafkbaa.P
set_option linter.unusedVariables false
theorem own : ownKnob Try.prog.godebug = none := by kernel_rfl
theorem laidOut : laidOutB Try.prog = true := by kernel_rfl
set_option maxRecDepth 100000 in
theorem lifted (os : Os) (started : os.Started) (H : Type) (enc : TypeId × Value → H) :
    ReturnsInHanded {} Try.checked os 7 .any (Rows.cxSumsSpec.pre6 enc Try.prog Try.f7 Rows.cxSumsRow.domain false) (Rows.cxSumsSpec.post enc Try.prog Try.f7 false true false false) := by
  refine returnsInHanded_of_change_sized (C := Try.checked) own started (by kernel_rfl) Try.func7
    (ChangeSpec.witness6 (enc := enc) (C := Try.checked) false ⟨#[], #[.agg #[.int .i64 0, .int .i64 0], .agg #[.int .i64 0, .int .i64 0], .int .i64 0], []⟩ 8 (by kernel_rfl) (by kernel_rfl) (by kernel_rfl) (by kernel_rfl)) ?_
  intro W base args ds gs before hval0 hW hcnd hsz0 _
  have hsz : (DataW.weightsEach Try.prog (Try.f7.params.toList ++ Rows.cxSumsSpec.plain.varTypes Try.prog) (ds ++ gs)).all (· ≤ reachBytes) = true := hsz0
  have hval : ∀ (j : Nat) t v, Try.f7.params[j]? = some t → args[j]? = some v → Value.okWide Try.prog W .any base t v := hval0
  have hW' := hW
  obtain ⟨p, q, hA0, hV, rfl, hfz, hnd⟩ := hW
  have hA : DataW.TrodAll enc Try.prog W 0 (fun _ => true) true Try.f7.params.toList args.toList ds p := hA0
  rw [Try.params7] at hA hval hsz
  obtain ⟨v0, vs0, d0, ds0, p0, q0, hargs, rfl, rfl, h0, r0⟩ := trodAll_cons hA
  obtain ⟨v1, vs1, d1, ds1, p1, q1, rfl, rfl, rfl, h1, r1⟩ := trodAll_cons r0
  obtain ⟨v2, vs2, d2, ds2, p2, q2, rfl, rfl, rfl, h2, r2⟩ := trodAll_cons r1
  obtain ⟨rfl, rfl, rfl⟩ := trodAll_nil r2
  obtain rfl : args = #[v0, v1, v2] := by cases args; simp_all
  obtain ⟨rfl, rfl⟩ := trodVars_none hV
  have k0 := h0
  have lt0 : ∀ x ∈ p0, x.block < W.heap.size := by obtain ⟨m, hm⟩ := k0; exact DataW.trod_lt m _ _ _ hm
  obtain ⟨u0_0, u0_1, y0_0, y0_1, n0_, rfl, rfl, rfl, g0_0, g0_1⟩ := Go.Joins.open_agg2 Try.underlying31 (by kernel_rfl) (by kernel_rfl) (hval 0 31 v0 rfl rfl) h0
  obtain ⟨a0_0, e0_0, _, v0_0⟩ := DataW.trod_int Try.underlying3 g0_0
  cases e0_0
  obtain ⟨a0_1, e0_1, _, v0_1⟩ := DataW.trod_int Try.underlying3 g0_1
  cases e0_1
  have k1 := h1
  have lt1 : ∀ x ∈ p1, x.block < W.heap.size := by obtain ⟨m, hm⟩ := k1; exact DataW.trod_lt m _ _ _ hm
  obtain ⟨u1_0, u1_1, y1_0, y1_1, n1_, rfl, rfl, rfl, g1_0, g1_1⟩ := Go.Joins.open_agg2 Try.underlying31 (by kernel_rfl) (by kernel_rfl) (hval 1 31 v1 rfl rfl) h1
  obtain ⟨a1_0, e1_0, _, v1_0⟩ := DataW.trod_int Try.underlying3 g1_0
  cases e1_0
  obtain ⟨a1_1, e1_1, _, v1_1⟩ := DataW.trod_int Try.underlying3 g1_1
  cases e1_1
  obtain ⟨a2, rfl, rfl, rfl, v2_⟩ := open_int Try.underlying3 (hval 2 3 v2 rfl rfl) h2
  clear hA0 hval0 hsz0 hsz
  refine (P.headroomlaw03_CxSums.walk Pure.CxSums a0_0 a0_1 a1_0 a1_1 a2 W  v0_0 v0_1 v1_0 v1_1 v2_).mono fun e W' ⟨he, bel⟩ => ?_
  subst he
  exact ⟨_, rfl, _, _, _, [], _, [], hW', trodAll_mk1 (shut_bool Try.underlying4 _), (trodAll_cons_mk (Below.trod laidOut (by kernel_rfl) (of_decide_eq_true (by kernel_rfl)) k0 bel lt0) (trodAll_cons_mk (Below.trod laidOut (by kernel_rfl) (of_decide_eq_true (by kernel_rfl)) k1 bel lt1) (trodAll_cons_mk (shut_int Try.underlying3 v2_) trodAll_mk0))), rfl, bel.frame _, fun h => by cases h⟩
theorem over : Rows.cxSumsRow.holds Try.pinned (OpenSpec.ofChange Rows.cxSumsSpec) :=
  OpenClaim.holds_of_wide 7 Try.f7 rfl rfl rfl rfl rfl rfl rfl ⟨rfl, rfl, rfl, rfl, rfl⟩ rfl rfl rfl rfl rfl (by kernel_rfl) Try.func7 (by kernel_rfl)
    (of_decide_eq_true (by kernel_rfl)) (by unfold Func.isWrapper; first | (rw [if_pos (by decide +kernel)]; kernel_rfl) | (rw [if_neg (by decide +kernel)]; exact ⟨rfl, rfl⟩))
    (fun os started H enc _ => lifted os started H enc)
theorem proved : Rows.CxSumsSaid := over
#print axioms proved
end Go.Proofs.Ytobkjhiicafkbaa.cxSums
namespace Go.Proofs.Ytobkjhiicafkbaa
/-- The row, under a short name, for the claim. -/
theorem cxSums_holds : Rows.CxSumsSaid := cxSums.proved
end Go.Proofs.Ytobkjhiicafkbaa

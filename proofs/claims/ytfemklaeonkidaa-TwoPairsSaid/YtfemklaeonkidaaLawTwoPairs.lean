-- Laid by this session's program hyb.py, out of the kit's print and this session's own contracts.
-- The row of the law headroomlaw10_TwoPairs, out of its Pure and its walk.
import Derived.Test.YtfemklaeonkidaaRows
import Derived.Test.YtfemklaeonkidaaPx33
import Derived.Test.YtfemklaeonkidaaPureTwoPairs
import Derived.WalkKit
import Derived.ProofKit
import Derived.OpenShut
import Derived.ShutString
import Derived.ChangeOld
import Derived.Below
import Derived.SizedLaws
import Derived.Lib.SmallJoins
namespace Go.Proofs.Ytfemklaeonkidaa.twoPairs
open Go.ChangeShapes Go.WideShapes Go.ChangeAt Go.RowKit
open Go.ChangeMaps (open_string shut_string)
open Go.Proofs.YtfemklaeonkidaaW.PrintWords Go.Proofs.Ytfemklaeonkidaa.P
set_option linter.unusedVariables false
theorem own : ownKnob Try.prog.godebug = none := by kernel_rfl
theorem laidOut : laidOutB Try.prog = true := by kernel_rfl
set_option maxRecDepth 100000 in
theorem lifted (os : Os) (started : os.Started) (H : Type) (enc : TypeId × Value → H) :
    ReturnsInHanded {} Try.checked os 5 .any (Rows.twoPairsSpec.pre6 enc Try.prog Try.f5 Rows.twoPairsRow.domain false) (Rows.twoPairsSpec.post enc Try.prog Try.f5 false true false false) := by
  refine returnsInHanded_of_change_sized (C := Try.checked) own started (by kernel_rfl) Try.func5
    (ChangeSpec.witness6 (enc := enc) (C := Try.checked) false ⟨#[], #[.agg #[.int .i64 0, .int .i64 0], .agg #[.int .i64 0, .int .i64 0], .agg #[.int .i64 0, .int .i64 0], .int .i64 0, .int .i64 0, .int .i64 0], []⟩ 8 (by kernel_rfl) (by kernel_rfl) (by kernel_rfl) (by kernel_rfl)) ?_
  intro W base args ds gs before hval0 hW hcnd hsz0 _
  have hsz : (DataW.weightsEach Try.prog (Try.f5.params.toList ++ Rows.twoPairsSpec.plain.varTypes Try.prog) (ds ++ gs)).all (· ≤ reachBytes) = true := hsz0
  have hval : ∀ (j : Nat) t v, Try.f5.params[j]? = some t → args[j]? = some v → Value.okWide Try.prog W .any base t v := hval0
  have hW' := hW
  obtain ⟨p, q, hA0, hV, rfl, hfz, hnd⟩ := hW
  have hA : DataW.TrodAll enc Try.prog W 0 (fun _ => true) true Try.f5.params.toList args.toList ds p := hA0
  rw [Try.params5] at hA hval hsz
  obtain ⟨v0, vs0, d0, ds0, p0, q0, hargs, rfl, rfl, h0, r0⟩ := trodAll_cons hA
  obtain ⟨v1, vs1, d1, ds1, p1, q1, rfl, rfl, rfl, h1, r1⟩ := trodAll_cons r0
  obtain ⟨v2, vs2, d2, ds2, p2, q2, rfl, rfl, rfl, h2, r2⟩ := trodAll_cons r1
  obtain ⟨v3, vs3, d3, ds3, p3, q3, rfl, rfl, rfl, h3, r3⟩ := trodAll_cons r2
  obtain ⟨v4, vs4, d4, ds4, p4, q4, rfl, rfl, rfl, h4, r4⟩ := trodAll_cons r3
  obtain ⟨v5, vs5, d5, ds5, p5, q5, rfl, rfl, rfl, h5, r5⟩ := trodAll_cons r4
  obtain ⟨rfl, rfl, rfl⟩ := trodAll_nil r5
  obtain rfl : args = #[v0, v1, v2, v3, v4, v5] := by cases args; simp_all
  obtain ⟨rfl, rfl⟩ := trodVars_none hV
  have k0 := h0
  have lt0 : ∀ x ∈ p0, x.block < W.heap.size := by obtain ⟨m, hm⟩ := k0; exact DataW.trod_lt m _ _ _ hm
  obtain ⟨u0_0, u0_1, y0_0, y0_1, n0_, rfl, rfl, rfl, g0_0, g0_1⟩ := Go.Joins.open_agg2 Try.underlying37 (by kernel_rfl) (by kernel_rfl) (hval 0 37 v0 rfl rfl) h0
  obtain ⟨a0_0, e0_0, _, v0_0⟩ := DataW.trod_int Try.underlying3 g0_0
  cases e0_0
  obtain ⟨a0_1, e0_1, _, v0_1⟩ := DataW.trod_int Try.underlying3 g0_1
  cases e0_1
  have k1 := h1
  have lt1 : ∀ x ∈ p1, x.block < W.heap.size := by obtain ⟨m, hm⟩ := k1; exact DataW.trod_lt m _ _ _ hm
  obtain ⟨u1_0, u1_1, y1_0, y1_1, n1_, rfl, rfl, rfl, g1_0, g1_1⟩ := Go.Joins.open_agg2 Try.underlying37 (by kernel_rfl) (by kernel_rfl) (hval 1 37 v1 rfl rfl) h1
  obtain ⟨a1_0, e1_0, _, v1_0⟩ := DataW.trod_int Try.underlying3 g1_0
  cases e1_0
  obtain ⟨a1_1, e1_1, _, v1_1⟩ := DataW.trod_int Try.underlying3 g1_1
  cases e1_1
  have k2 := h2
  have lt2 : ∀ x ∈ p2, x.block < W.heap.size := by obtain ⟨m, hm⟩ := k2; exact DataW.trod_lt m _ _ _ hm
  obtain ⟨u2_0, u2_1, y2_0, y2_1, n2_, rfl, rfl, rfl, g2_0, g2_1⟩ := Go.Joins.open_agg2 Try.underlying37 (by kernel_rfl) (by kernel_rfl) (hval 2 37 v2 rfl rfl) h2
  obtain ⟨a2_0, e2_0, _, v2_0⟩ := DataW.trod_int Try.underlying3 g2_0
  cases e2_0
  obtain ⟨a2_1, e2_1, _, v2_1⟩ := DataW.trod_int Try.underlying3 g2_1
  cases e2_1
  obtain ⟨a3, rfl, rfl, rfl, v3_⟩ := open_int Try.underlying3 (hval 3 3 v3 rfl rfl) h3
  obtain ⟨a4, rfl, rfl, rfl, v4_⟩ := open_int Try.underlying3 (hval 4 3 v4 rfl rfl) h4
  obtain ⟨a5, rfl, rfl, rfl, v5_⟩ := open_int Try.underlying3 (hval 5 3 v5 rfl rfl) h5
  clear hA0 hval0 hsz0 hsz
  refine (P.headroomlaw10_TwoPairs.walk Pure.TwoPairs a0_0 a0_1 a1_0 a1_1 a2_0 a2_1 a3 a4 a5 W  v0_0 v0_1 v1_0 v1_1 v2_0 v2_1 v3_ v4_ v5_).mono fun e W' ⟨he, bel⟩ => ?_
  subst he
  exact ⟨_, rfl, _, _, _, [], _, [], hW', trodAll_mk1 (shut_bool Try.underlying4 _), (trodAll_cons_mk (Below.trod laidOut (by kernel_rfl) (of_decide_eq_true (by kernel_rfl)) k0 bel lt0) (trodAll_cons_mk (Below.trod laidOut (by kernel_rfl) (of_decide_eq_true (by kernel_rfl)) k1 bel lt1) (trodAll_cons_mk (Below.trod laidOut (by kernel_rfl) (of_decide_eq_true (by kernel_rfl)) k2 bel lt2) (trodAll_cons_mk (shut_int Try.underlying3 v3_) (trodAll_cons_mk (shut_int Try.underlying3 v4_) (trodAll_cons_mk (shut_int Try.underlying3 v5_) trodAll_mk0)))))), rfl, bel.frame _, fun h => by cases h⟩
theorem over : Rows.twoPairsRow.holds Try.pinned (OpenSpec.ofChange Rows.twoPairsSpec) :=
  OpenClaim.holds_of_wide 5 Try.f5 rfl rfl rfl rfl rfl rfl rfl ⟨rfl, rfl, rfl, rfl, rfl⟩ rfl rfl rfl rfl rfl (by kernel_rfl) Try.func5 (by kernel_rfl)
    (of_decide_eq_true (by kernel_rfl)) (by unfold Func.isWrapper; first | (rw [if_pos (by decide +kernel)]; kernel_rfl) | (rw [if_neg (by decide +kernel)]; exact ⟨rfl, rfl⟩))
    (fun os started H enc _ => lifted os started H enc)
theorem proved : Rows.TwoPairsSaid := over
#print axioms proved
end Go.Proofs.Ytfemklaeonkidaa.twoPairs
namespace Go.Proofs.Ytfemklaeonkidaa
/-- The row, under a short name, for the claim. -/
theorem twoPairs_holds : Rows.TwoPairsSaid := twoPairs.proved
end Go.Proofs.Ytfemklaeonkidaa

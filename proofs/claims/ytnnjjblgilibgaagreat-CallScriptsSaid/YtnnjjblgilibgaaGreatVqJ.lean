import Derived.Test.YtnnjjblgilibgaaGreatVqI
import Derived.Test.YtnnjjblgilibgaaGreatVqF
/- CallScripts answers true. -/
namespace Go.Proofs.YtnnjjblgilibgaaGreatV
open Go Go.RowKit
set_option linter.unusedVariables false
set_option linter.unusedSimpArgs false
set_option maxRecDepth 100000
set_option maxHeartbeats 40000000
theorem fine11 : Fine Tryz.prog 11 := fun _ _ => by kernel_rfl
theorem few_in {cs : List Cl} : ∀ c ∈ fewL cs, c.w.length ≤ 70 ∧ c.x.length ≤ 70 := by
  intro c hc
  obtain ⟨c', _, rfl⟩ := List.mem_map.1 hc
  exact ⟨take_lenT, take_lenT⟩
theorem few_len {cs : List Cl} : (fewL cs).length ≤ 22 := by
  unfold fewL
  rw [List.length_map, List.length_take]
  omega
theorem CallScripts.true (d : List (Int × Int)) (cs : List Cl) : Ok Tryz.prog 11 [.sl 2 (cxRows d), .sl 8 (clRows cs)] (.bool true) := by
  have hd := take_lenT (xs := d)
  have hcd := cut.ok d
  have hcf := few.ok cs
  have hF := few_in (cs := cs)
  have hFl := few_len (cs := cs)
  generalize d.take (min d.length 70) = D at *
  generalize fewL cs = F at *
  have hS := Script.ok D F (by omega) (fun c hc => by have := hF c hc; omega)
  have hR := RScript23.ok D F (by omega) (fun c hc => by have := hF c hc; omega)
  have hlen := scD_len (a := F.take 20) (ds := D)
  have hlenE := scE_len (a := F.take 20) (ds := D)
  rw [List.length_take] at hlenE
  generalize scD D (F.take 20) = Y at *
  generalize scE D (F.take 20) = E at *
  refine ok_of (X := fun _ => []) (Z := fun _ => false) (res := [ResultVar.tmp 4]) tok follows Tryz.func11 rfl rfl fine11 (by kernel_rfl) (by kernel_rfl) ?_
  simp only [evA, evT, evD, seval, cx_free, cl_free]
  refine call_ok hcd (by simp only [evA, evT, evD, seval, cx_free]) ?_
  simp only [evA, evT, evD, seval, cx_free, cl_free]
  refine call_ok hcf (by simp only [evA, evT, evD, seval, cl_free]) ?_
  simp only [evA, evT, evD, seval, cx_free, cl_free]
  refine call_ok hS (by simp only [evA, evT, evD, seval, cx_free, in_free]) ?_
  simp only [evA, evT, evD, seval, cx_free, cl_free, in_free]
  refine call_ok hR (by simp only [evA, evT, evD, seval, cx_free, in_free]) ?_
  simp only [evA, evT, evD, seval, cx_free, cl_free, in_free]
  refine call_ok alive23.ok rfl ?_
  simp only [evA, evT, evD, seval, cx_free, cl_free, in_free]
  refine call_ok (Same.ok Y (by omega)) rfl ?_
  simp only [evA, evT, evD, seval, cx_free, cl_free, in_free]
  refine call_ok (Errors.ok E (by omega)) rfl ?_
  simp only [evA, evT, evD, seval, cx_free, cl_free, in_free]
end Go.Proofs.YtnnjjblgilibgaaGreatV

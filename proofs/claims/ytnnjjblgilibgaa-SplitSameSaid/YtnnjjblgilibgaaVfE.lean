import Derived.Test.YtnnjjblgilibgaaVfC
import Derived.Test.YtnnjjblgilibgaaVfD
/- Contracts of the functions of the package four: a quad that may be, or not. -/
namespace Go.Proofs.YtnnjjblgilibgaaV
open Go Go.RowKit
set_option linter.unusedVariables false
set_option linter.unusedSimpArgs false
set_option maxRecDepth 100000
set_option maxHeartbeats 40000000
theorem one29 {bits : Int} (hb : 0 ≤ bits ∧ bits ≤ 29) : IntKind.i64.wrap (1 * 2 ^ min bits.toNat IntKind.i64.bits) = 2 ^ bits.toNat := by
  have h := pow29 hb
  rw [sh_min (by omega), Int.one_mul]
  exact wr (by omega)
theorem contains.no (F : Nat) (caps : List AV) (p : Int × Int → Prop) [DecidablePred p] (xs : List (Int × Int)) (hl : xs.length ≤ 1000000000) (hc : ∀ lb, caps.map (snap lb 6) = caps) (hc5 : ∀ lb, caps.map (snap lb 5) = caps) (hf : allFree caps = true) (h : ∀ x ∈ xs, Ok Try.prog F (cxA x.1 x.2 :: caps) (.bool (decide (p x)))) (hn : ∀ x ∈ xs, ¬ p x) :
    Ok Try.prog 23 [.sl 2 (cxRows xs), .fn F caps] (.bool false) := by
  have := contains.ok F caps p xs hl hc hc5 hf h
  rwa [decide_eq_false (by rintro ⟨x, hx, hp⟩; exact hn x hx hp)] at this
theorem contains.yes (F : Nat) (caps : List AV) (p : Int × Int → Prop) [DecidablePred p] (xs : List (Int × Int)) (hl : xs.length ≤ 1000000000) (hc : ∀ lb, caps.map (snap lb 6) = caps) (hc5 : ∀ lb, caps.map (snap lb 5) = caps) (hf : allFree caps = true) (h : ∀ x ∈ xs, Ok Try.prog F (cxA x.1 x.2 :: caps) (.bool (decide (p x)))) (hn : ∃ x ∈ xs, p x) :
    Ok Try.prog 23 [.sl 2 (cxRows xs), .fn F caps] (.bool true) := by
  have := contains.ok F caps p xs hl hc hc5 hf h
  rwa [decide_eq_true hn] at this
section
variable (inv : Bool) (bits s mode a0 b0 a1 b1 a2 b2 a3 b3 u0 v0 u1 v1 u2 v2 u3 v3 : Int) (hb : 0 ≤ bits ∧ bits ≤ 29) (hs : 0 ≤ s ∧ s ≤ 3) (hm : 0 ≤ mode ∧ mode ≤ 2)
include hb hs hm
end
end Go.Proofs.YtnnjjblgilibgaaV

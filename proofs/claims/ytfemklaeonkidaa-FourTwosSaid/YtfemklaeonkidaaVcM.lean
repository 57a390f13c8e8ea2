import Derived.Test.YtfemklaeonkidaaVcZ
import Derived.RangeFuncNested
import Derived.RangeFuncFrom
import Derived.RangeFuncLeaves
import Derived.RangeFuncCalls
import Derived.LoopNIn
import Derived.OrdersIn
/- A code in a function's own way, or in a round of a loop over a function. -/
namespace Go.Proofs.YtfemklaeonkidaaV
open Go Go.RowKit
set_option linter.unusedVariables false
set_option linter.unusedSimpArgs false
def calmOp (o : Oper) : Bool := match o.op with | .defer _ => false | _ => true
theorem op_in_round {l n : Nat} {P : Program} {ops : Array Oper} {Q : Exit → Act → World → Prop} (hQ : ¬ LetsOut Q) (hc : ops.toList.all calmOp = true) {i : Nat} {K : Act → World → Prop} {a : Act} {w : World} (h : wpOp P ops Q i K a w) : wpOpIn (Fence.wide.inRound l) n P ops Q i K a w := by
  unfold wpOp at h
  unfold wpOpIn
  cases ho : ops[i]? with
  | none => rw [ho] at h; exact h
  | some o =>
    rw [ho] at h
    have hm : o ∈ ops.toList := by
      obtain ⟨hi, e⟩ := Array.getElem?_eq_some_iff.1 ho
      rw [← e]
      exact Array.getElem_mem_toList hi
    have hcalm := List.all_eq_true.1 hc o hm
    have hd : ∀ c, o.op ≠ .defer c := by
      intro c e
      unfold calmOp at hcalm
      rw [e] at hcalm
      cases hcalm
    simp only at h ⊢
    split
    · rename_i hw
      rw [if_pos hw] at h
      rcases h with h | ⟨_, h⟩
      · unfold Oper.wp at h
        refine ⟨fun _ _ => trivial, ?_⟩
        rw [Fence.inRound_round, Oper.semAt_some l _ o hd]
        generalize (execOp a.eval o).run P w = r at *
        cases r with
        | ok x w' =>
          cases x
          case value v => exact h
          case skip => exact h
          case defer d => exact h
          case enter f args => exact ⟨fun hx => (Bool.false_ne_true hx).elim, CallsIn.inRound l (callsIn_wide.2 h)⟩
          case row row args =>
            refine ⟨fun hx => (Bool.false_ne_true hx).elim, fun c cs _ => ?_⟩
            obtain ⟨v, w'', r, s⟩ := h c cs
            exact ⟨v, w'', r, stepsIn_wide.2 s⟩
          all_goals exact h.elim
        | halt x w' => cases x <;> exact h
      · exact (hQ h).elim
    · rename_i hw
      rw [if_neg hw] at h
      exact ⟨fun _ _ => trivial, h⟩
theorem any_in_round {l n : Nat} {P : Program} {md : Region.Mode} {ops : Array Oper} {Q : Exit → Act → World → Prop} (hQ : ¬ LetsOut Q) (hc : ops.toList.all calmOp = true) : ∀ (fuel : Nat) (listed : Array Bool) (a : Act) (w : World), wpAny P md ops Q fuel listed a w → wpAnyIn (Fence.wide.inRound l) n P md ops Q fuel listed a w
  | 0, _, _, _, h => h
  | fuel + 1, _, _, _, h => ⟨h.1, fun i hi => wpOpIn_mono (fun a' w' h' => any_in_round hQ hc fuel _ a' w' h') (op_in_round hQ hc (h.2 i hi))⟩
theorem ops_op {P : Program} {ops : Array Oper} {Q : Exit → Act → World → Prop} (i : Nat) (rest : List Nat) (a : Act) (w : World) : wpOps P ops Q (i :: rest) a w = wpOp P ops Q i (wpOps P ops Q rest) a w := by
  cases h : ops[i]? <;> simp [wpOps, wpOp, h]
theorem ops_in_round {l n : Nat} {P : Program} {ops : Array Oper} {Q : Exit → Act → World → Prop} (hQ : ¬ LetsOut Q) (hc : ops.toList.all calmOp = true) : ∀ (is : List Nat) (a : Act) (w : World), wpOps P ops Q is a w → wpOpsIn (Fence.wide.inRound l) n P ops Q is a w
  | [], _, _, h => h
  | i :: rest, a, w, h => by
    rw [ops_op] at h
    rw [wpOpsIn_cons]
    exact wpOpIn_mono (fun a' w' h' => ops_in_round hQ hc rest a' w' h') (op_in_round hQ hc h)

/-- A code, in a function's own way or in a round. -/
def wpM (md : Option (Nat × Nat)) (P : Program) (c : Code) (Q : Exit → Act → World → Prop) (a : Act) (w : World) : Prop :=
  match md with
  | none => c.wp P Q a w
  | some (l, n) => c.wpIn (Fence.wide.inRound l) n P Q a w
def roundsM (md : Option (Nat × Nat)) (P : Program) (c : Code) (Q : Exit → Act → World → Prop) : Nat → Act → World → Prop
  | 0, _, _ => False
  | k + 1, a, w => wpM md P c (Exit.then (roundsM md P c Q k) Q) a w
section
variable {md : Option (Nat × Nat)} {P : Program} {Q : Exit → Act → World → Prop} {a : Act} {w : World}
theorem wpM_mono {c : Code} {Q' : Exit → Act → World → Prop} (h : wpM md P c Q a w) (hq : ∀ e a w, Q e a w → Q' e a w) : wpM md P c Q' a w := by
  match md, h with
  | none, h => exact Code.wp_mono hq h
  | some (l, n), h => exact wpIn_mono h hq
theorem wpM_skip (h : Q .normal a w) : wpM md P .skip Q a w := by
  match md with
  | none => exact wp_skip h
  | some (l, n) => exact wpIn_skip h
theorem wpM_label {t : Nat} (h : Q .normal a w) : wpM md P (.label t) Q a w := by
  match md with
  | none => exact wp_label h
  | some (l, n) => exact wpIn_label h
theorem wpM_exit {id : Nat} (h : Q (.exit id) a w) : wpM md P (.exit id) Q a w := by
  match md with
  | none => exact wp_exit h
  | some (l, n) => exact wpIn_exit h
theorem wpM_ret (h : Q .ret a w) : wpM md P .ret Q a w := by
  match md with
  | none => exact wp_ret h
  | some (l, n) => exact wpIn_ret h
theorem wpM_seq {x y : Code} (h : wpM md P x (Exit.then (wpM md P y Q) Q) a w) : wpM md P (.seq x y) Q a w := by
  match md, h with
  | none, h => exact wp_seq h
  | some (l, n), h => exact wpIn_seq h
theorem wpM_cond_split {c : Operand} {x y : Code} {t : Bool} (hc : a.eval c = .bool t) (ht : t = true → wpM md P x Q a w) (hf : t = false → wpM md P y Q a w) : wpM md P (.cond c x y) Q a w := by
  match md, ht, hf with
  | none, ht, hf => exact wp_cond_split hc ht hf
  | some (l, n), ht, hf => exact wpIn_cond_split hc ht hf
theorem wpM_block {id : Nat} {c : Code} (h : wpM md P c (Exit.inBlock id Q) a w) : wpM md P (.block id c) Q a w := by
  match md, h with
  | none, h => exact wp_block h
  | some (l, n), h => exact wpIn_block h
theorem wpM_loop {c : Code} (k : Nat) (h : roundsM md P c Q k a w) : wpM md P (.loop c) Q a w := by
  match md, h with
  | none, h =>
    have key : ∀ k a w, roundsM none P c Q k a w → Code.rounds P c Q k a w := by
      intro k
      induction k with
      | zero => intro a w h; exact h
      | succ k ih =>
        intro a w h
        refine Code.wp_mono (fun e a w hq => ?_) (show c.wp P _ a w from h)
        cases e with
        | normal => exact ih a w hq
        | _ => exact hq
    exact wp_loop_rounds k (key k a w h)
  | some (l, n), h =>
    have key : ∀ k a w, roundsM (some (l, n)) P c Q k a w → Code.roundsIn (Fence.wide.inRound l) n P c Q k a w := by
      intro k
      induction k with
      | zero => intro a w h; exact h
      | succ k ih =>
        intro a w h
        refine wpIn_mono (show c.wpIn _ n P _ a w from h) (fun e a w hq => ?_)
        cases e with
        | normal => exact ih a w hq
        | _ => exact hq
    exact wpIn_loop_rounds k (key k a w h)
/-- A region that ends well. -/
def onlyN (Q : Exit → Act → World → Prop) : Exit → Act → World → Prop
  | .normal, a, w => Q .normal a w
  | _, _, _ => False
theorem onlyN_lets : ¬ LetsOut (onlyN Q) := by rintro ⟨a, w, h⟩; exact h
theorem onlyN_le : ∀ e a w, onlyN Q e a w → Q e a w
  | .normal, _, _, h => h
theorem wpM_region {id : Nat} {ops : Array Oper} {d : Bool} (hm : P.follows .mixedOrders = true) (hc : ops.toList.all calmOp = true) (h0 : d = false → wpOps P ops (onlyN Q) (List.range ops.size) a w) (h1 : d = true → wpAny P .any ops (onlyN Q) ops.size (Array.replicate ops.size false) a { w with drawn := w.drawn + 1 }) : wpM md P (.region id ops d) Q a w := by
  refine wpM_mono ?_ onlyN_le
  match md, d, h0, h1 with
  | none, false, h0, _ => exact wp_region (h0 rfl)
  | none, true, _, h1 => exact wp_region_any hm (h1 rfl)
  | some (l, n), false, h0, _ => exact wpIn_region (ops_in_round onlyN_lets hc _ _ _ (h0 rfl))
  | some (l, n), true, _, h1 => exact wpIn_region_any hm (any_in_round onlyN_lets hc _ _ _ _ (h1 rfl))
end
end Go.Proofs.YtfemklaeonkidaaV

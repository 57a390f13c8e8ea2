import Derived.Test.YtnnjjblgilibgaaGreatVtH
import Derived.Test.YtnnjjblgilibgaaGreatVtJ
/- Contracts: why numbers may not be; the block that a plan is ready with; by the document too. -/
namespace Go.Proofs.YtnnjjblgilibgaaGreatV
open Go Go.RowKit
set_option linter.unusedVariables false
set_option linter.unusedSimpArgs false
set_option maxRecDepth 100000
set_option maxHeartbeats 40000000
theorem fine91 : Fine Tryz.prog 91 := fun _ _ => by kernel_rfl
theorem fine51 : Fine Tryz.prog 51 := fun _ _ => by kernel_rfl
theorem fine18 : Fine Tryz.prog 18 := fun _ _ => by kernel_rfl
theorem fine45 : Fine Tryz.prog 45 := fun _ _ => by kernel_rfl
theorem fine14 : Fine Tryz.prog 14 := fun _ _ => by kernel_rfl
theorem fine19 : Fine Tryz.prog 19 := fun _ _ => by kernel_rfl
/-- A result told less. -/
theorem Ok.less {P : Program} {F : FuncId} {args : List AV} {r r' : AV} (h : Ok P F args r) (hr : ∀ w φ N v, Rep w φ N r v → Rep w φ N r' v) : Ok P F args r' :=
  ⟨h.1, fun w N vs h1 h2 h3 => (h.2 w N vs h1 h2 h3).mono fun e w' => by
    rintro ⟨v, a, b, c⟩
    exact ⟨v, a, b, hr _ _ _ _ c⟩⟩
theorem nil_sl {w : World} {φ : Nat → Option Value} {N : Nat → Prop} {v : Value} {sz : Nat} (h : Rep w φ N (.raw (.slice none 0 0)) v) : Rep w φ N (.sl sz []) v := by
  cases h
  exact .slnil sz
theorem nil_agg {w : World} {φ : Nat → Option Value} {N : Nat → Prop} {v : Value} {a b c : AV} (h : Rep w φ N (.agg [a, b, c, .raw (.slice none 0 0)]) v) : Rep w φ N (.agg [a, b, c, .sl 1 []]) v := by
  cases h with
  | agg _ vs hl hh =>
    refine .agg _ vs hl fun i x hx => ?_
    match i, hx with
    | 0, hx => exact hh 0 x hx
    | 1, hx => exact hh 1 x hx
    | 2, hx => exact hh 2 x hx
    | 3, hx =>
      obtain rfl := Option.some.inj hx
      exact nil_sl (hh 3 _ rfl)
theorem nil_tup {w : World} {φ : Nat → Option Value} {N : Nat → Prop} {v : Value} {a b c d : AV} (h : Rep w φ N (.tup [.agg [a, b, c, .raw (.slice none 0 0)], d]) v) : Rep w φ N (.tup [.agg [a, b, c, .sl 1 []], d]) v := by
  cases h with
  | tup _ vs hl hh =>
    refine .tup _ vs hl fun i x hx => ?_
    match i, hx with
    | 0, hx =>
      obtain rfl := Option.some.inj hx
      exact nil_agg (hh 0 _ rfl)
    | 1, hx => exact hh 1 x hx
/-- No part is out of these bounds. -/
def inB (a b : Int) (x : Int × Int) : Prop := (a ≤ x.1 ∧ x.1 ≤ b) ∧ a ≤ x.2 ∧ x.2 ≤ b
instance (a b : Int) (x : Int × Int) : Decidable (inB a b x) := by unfold inB; infer_instance
theorem may1.ok (x y a b : Int) : Ok Tryz.prog 91 [cxA x y, .box [.int a] 0, .box [.int b] 0] (.bool (decide (¬ inB a b (x, y)))) := by
  refine ok_of (X := fun _ => []) (Z := fun _ => false) (res := [ResultVar.tmp 4]) tok follows Tryz.func91 rfl rfl fine91 (by kernel_rfl) (by kernel_rfl) ?_
  simp only [evA, evT, evD, seval]
  unfold inB
  refine ⟨fun h => congrArg AV.bool (decide_eq_decide.2 ?_), fun h => congrArg AV.bool (decide_eq_true ?_).symm⟩
  · dsimp only
    split at h <;> split <;> omega
  · dsimp only
    split at h <;> omega
/-- Why numbers may not be. -/
def whyM (f l k s m : Int) (top : Int) (xs : List (Int × Int)) : Int := if ¬ pOk f l k s m then 4 else if ¬ (xs.length : Int) = 2 ^ l.toNat then 3 else if ¬ (∀ x ∈ xs, inB (-fM f) top x) then 2 else 0
abbrev blk0 : AV := .agg [.raw (.slice none 0 0), .int 0, .bool Bool.false, .raw (.slice none 0 0)]
theorem p2l {l : Int} (h : 2 ≤ l ∧ l ≤ 6) : IntKind.i64.wrap (1 * 2 ^ min l.toNat IntKind.i64.bits) = 2 ^ l.toNat ∧ 0 ≤ l := by
  rcases (show l = 2 ∨ l = 3 ∨ l = 4 ∨ l = 5 ∨ l = 6 by omega) with rfl | rfl | rfl | rfl | rfl <;> decide
theorem may.size (f l k s m a b : Int) (i : Bool) (xs : List (Int × Int)) (hl : 2 ≤ l ∧ l ≤ 6) (h : ¬ (xs.length : Int) = 2 ^ l.toNat) : Ok Tryz.prog 51 [.sl 2 (cxRows xs), plV f l k s m i, .int a, .int b] (.int 3) := by
  obtain ⟨e, e0⟩ := p2l hl
  refine ok_of (X := fun _ => []) (Z := fun _ => false) (res := [ResultVar.tmp 8]) tok follows Tryz.func51 rfl rfl fine51 (by kernel_rfl) (by kernel_rfl) ?_
  simp only [evA, evT, evD, seval, cx_len, e, e0, h]
theorem may.range (f l k s m a b : Int) (i : Bool) (xs : List (Int × Int)) (hl : 2 ≤ l ∧ l ≤ 6) (h : (xs.length : Int) = 2 ^ l.toNat) (hn : ¬ (∀ x ∈ xs, inB a b x)) : Ok Tryz.prog 51 [.sl 2 (cxRows xs), plV f l k s m i, .int a, .int b] (.int 2) := by
  obtain ⟨e, e0⟩ := p2l hl
  have hll : xs.length ≤ 1000000000 := by
    rcases (show l = 2 ∨ l = 3 ∨ l = 4 ∨ l = 5 ∨ l = 6 by omega) with rfl | rfl | rfl | rfl | rfl <;> simp at h <;> omega
  have hC := contains.yes 91 [.box [.int a] 0, .box [.int b] 0] (fun x => ¬ inB a b x) xs hll (fun _ => rfl) (fun _ => rfl) rfl (fun x _ => may1.ok x.1 x.2 a b) (Classical.byContradiction fun hh => hn fun x hx => Classical.byContradiction fun g => hh ⟨x, hx, g⟩)
  refine ok_of (X := fun _ => []) (Z := fun _ => false) (res := [ResultVar.tmp 8]) tok follows Tryz.func51 rfl rfl fine51 (by kernel_rfl) (by kernel_rfl) ?_
  simp only [evA, evB, evT, evD, seval, cx_len, cx_free, e, e0, h]
  refine call_ok hC rfl ?_
  simp only [evA, evB, evT, evD, seval]
theorem may.ok (f l k s m a b : Int) (i : Bool) (xs : List (Int × Int)) (hl : 2 ≤ l ∧ l ≤ 6) (h : (xs.length : Int) = 2 ^ l.toNat) (hn : ∀ x ∈ xs, inB a b x) : Ok Tryz.prog 51 [.sl 2 (cxRows xs), plV f l k s m i, .int a, .int b] (.int 0) := by
  obtain ⟨e, e0⟩ := p2l hl
  have hll : xs.length ≤ 1000000000 := by
    rcases (show l = 2 ∨ l = 3 ∨ l = 4 ∨ l = 5 ∨ l = 6 by omega) with rfl | rfl | rfl | rfl | rfl <;> simp at h <;> omega
  have hC := contains.no 91 [.box [.int a] 0, .box [.int b] 0] (fun x => ¬ inB a b x) xs hll (fun _ => rfl) (fun _ => rfl) rfl (fun x _ => may1.ok x.1 x.2 a b) (fun x hx g => g (hn x hx))
  refine ok_of (X := fun _ => []) (Z := fun _ => false) (res := [ResultVar.tmp 8]) tok follows Tryz.func51 rfl rfl fine51 (by kernel_rfl) (by kernel_rfl) ?_
  simp only [evA, evB, evT, evD, seval, cx_len, cx_free, e, e0, h]
  refine call_ok hC rfl ?_
  simp only [evA, evB, evT, evD, seval]
theorem fmt_of {f l k s m : Int} (h : pOk f l k s m) : fmt f := by
  have := h.1
  unfold fmt
  omega
theorem neg1B {f : Int} (hf : fmt f) : IntKind.i64.wrap (-1 * 2 ^ min (fB f).toNat IntKind.i64.bits) = -fM f := by rcases hf with rfl | rfl <;> decide
theorem Ready.plan (f l k s m : Int) (i : Bool) (xs : List (Int × Int)) (h : ¬ pOk f l k s m) : Ok Tryz.prog 18 [.sl 2 (cxRows xs), plV f l k s m i] (.tup [blk0, .int 4]) := by
  refine ok_of (X := fun _ => []) (Z := fun _ => false) (res := [ResultVar.cell 4 27, ResultVar.tmp 5]) tok follows Tryz.func18 rfl rfl fine18 (by kernel_rfl) (by kernel_rfl) ?_
  simp only [evA, evT, evD, seval]
  refine call_ok (Check.bad f l k s m i h) rfl ?_
  simp only [evA, evT, evD, seval]
theorem Ready.bad (f l k s m e : Int) (i : Bool) (xs : List (Int × Int)) (h : pOk f l k s m) (he : e ≠ 0) (hM : Ok Tryz.prog 51 [.sl 2 (cxRows xs), plV f l k s m i, .int (-fM f), .int (fM f - 1)] (.int e)) : Ok Tryz.prog 18 [.sl 2 (cxRows xs), plV f l k s m i] (.tup [blk0, .int e]) := by
  have hf := fmt_of h
  refine ok_of (X := fun _ => []) (Z := fun _ => false) (res := [ResultVar.cell 4 27, ResultVar.tmp 5]) tok follows Tryz.func18 rfl rfl fine18 (by kernel_rfl) (by kernel_rfl) ?_
  simp only [evA, evT, evD, seval]
  refine call_ok (Check.ok f l k s m i h) rfl ?_
  simp only [evA, evT, evD, seval]
  refine call_ok (ready.ok f l k s m i h) ?_ ?_
  · rcases (show s = 0 ∨ s = 1 ∨ s = 2 by have := h.2.2.2.1; omega) with rfl | rfl | rfl
    all_goals simp only [evA, evT, evD, seval, sc_0, sc_1, sc_2, cx_free]
  rcases (show s = 0 ∨ s = 1 ∨ s = 2 by have := h.2.2.2.1; omega) with rfl | rfl | rfl
  all_goals
    simp only [evA, evT, evD, seval, sc_0, sc_1, sc_2, cx_free, neg1B hf, shB hf, fM_1 hf, fB_pos hf]
    refine call_ok hM rfl ?_
    simp only [evA, evT, evD, seval, he]
theorem nat_of {f l k s m : Int} (h : pOk f l k s m) : ∃ log : Nat, l = log ∧ 2 ≤ log ∧ log ≤ 6 := ⟨l.toNat, by have := h.2.1; omega, by have := h.2.1; omega, by have := h.2.1; omega⟩
theorem inB_mants {f : Int} {xs : List (Int × Int)} : (∀ x ∈ xs, inB (-fM f) (fM f - 1) x) ↔ mants f xs := by
  unfold mants inB mant
  constructor
  · intro h x hx
    have := h x hx
    omega
  · intro h x hx
    have := h x hx
    omega
theorem inB_near {f : Int} {xs : List (Int × Int)} : (∀ x ∈ xs, inB (-fM f) (fM f) x) ↔ nears (fM f) xs := by
  unfold nears inB win
  constructor
  · intro h x hx
    have := h x hx
    omega
  · intro h x hx
    have := h x hx
    omega
theorem Ready.ok (f k s m : Int) (i : Bool) (log : Nat) (h : pOk f log k s m) (xs : List (Int × Int)) (hx : xs.length = 2 ^ log) (hn : mants f xs) : Ok Tryz.prog 18 [.sl 2 (cxRows xs), plV f log k s m i] (.tup [blkV (rdB f log k s m xs), .int 0]) := by
  have hf := fmt_of h
  have hM := may.ok f log k s m (-fM f) (fM f - 1) i xs h.2.1 (by rw [hx, Int.toNat_natCast]; simp) (inB_mants.2 hn)
  refine Ok.less (r := .tup [.agg [.sl 2 (cxRows (rdB f log k s m xs).xs), .int (rdB f log k s m xs).e, .bool Bool.false, .raw (.slice none 0 0)], .int 0]) ?_ fun w φ N v hv => nil_tup hv
  have hfirst := first.ok f k s m i log h xs hx (mants_near hn)
  refine ok_of (X := fun _ => []) (Z := fun _ => false) (res := [ResultVar.cell 4 27, ResultVar.tmp 5]) tok follows Tryz.func18 rfl rfl fine18 (by kernel_rfl) (by kernel_rfl) ?_
  simp only [evA, evT, evD, seval]
  refine call_ok (Check.ok f log k s m i h) rfl ?_
  simp only [evA, evT, evD, seval]
  refine call_ok (ready.ok f log k s m i h) ?_ ?_
  · rcases (show s = 0 ∨ s = 1 ∨ s = 2 by have := h.2.2.2.1; omega) with rfl | rfl | rfl
    all_goals simp only [evA, evT, evD, seval, sc_0, sc_1, sc_2, cx_free]
  rcases (show s = 0 ∨ s = 1 ∨ s = 2 by have := h.2.2.2.1; omega) with rfl | rfl | rfl
  all_goals
    simp only [evA, evT, evD, seval, sc_0, sc_1, sc_2, cx_free, neg1B hf, shB hf, fM_1 hf, fB_pos hf]
    refine call_ok hM rfl ?_
    simp only [evA, evT, evD, seval, sc_0, sc_1, sc_2, cx_free]
    refine call_ok hfirst (by simp only [evA, evT, evD, seval, cx_free]) ?_
    simp only [evA, evT, evD, seval, cx_free]
    rfl
end Go.Proofs.YtnnjjblgilibgaaGreatV

import Derived.Test.YtfemklaeonkidaaVcC
/- Less is told of a state: slots are forgotten, labels are named anew or become contents. -/
namespace Go.Proofs.YtfemklaeonkidaaV
open Go Go.RowKit
set_option linter.unusedVariables false
set_option linter.unusedSimpArgs false

def LB.ren (ρ : Nat → Nat) : LB → LB
  | .box cells => .box (renAll ρ cells)
  | .row e sz rows => .row e sz (renRows ρ rows)
def LB.lt (k : Nat) : LB → Bool
  | .box cells => allLt k cells
  | .row _ _ rows => rowsLt k rows
def inN (l : Nat) : List Nat → Bool
  | [] => false
  | m :: r => Nat.beq l m || inN l r
def hideL (ids : List Nat) (lb : Nat → Option LB) : Nat → Option LB := fun l => if inN l ids then none else lb l
/-- What stands for a value. -/
def wkVal (σ : Nat → Nat) (k : Nat) (lbH : Nat → Option LB) (x y : AV) : Prop := (y = x ∧ x.free = true) ∨ (y = x.ren σ ∧ x.lt k = true) ∨ x = snap lbH 6 y
def wkO (σ : Nat → Nat) (k : Nat) (lbH : Nat → Option LB) (x : AV) : Option AV → Prop
  | some y => wkVal σ k lbH x y
  | none => False
def wkEnv (σ : Nat → Nat) (k : Nat) (lbH : Nat → Option LB) (env : List (Nat × AV)) : List (Nat × AV) → Prop
  | [] => True
  | (t, x) :: r => wkO σ k lbH x (look t env) ∧ wkEnv σ k lbH env r
def wkLB (σ : Nat → Nat) (k : Nat) (B B' : LB) : Prop := (B' = B ∧ B.free = true) ∨ (B' = B.ren σ ∧ B.lt k = true)
def wkOB (σ : Nat → Nat) (k : Nat) (B : LB) : Option LB → Prop
  | some B' => wkLB σ k B B'
  | none => False
def wkLbl (σ : Nat → Nat) (k : Nat) (lb : Nat → Option LB) : List (Nat × Option LB) → Prop
  | [] => True
  | (l, some B) :: r => (Nat.blt l k = true ∧ wkOB σ k B (lb (σ l)) ∧ (r.all fun p => !Nat.beq (σ p.1) (σ l)) = true) ∧ wkLbl σ k lb r
  | (_, none) :: _ => False

theorem inN_mem {l : Nat} : ∀ {ids : List Nat}, inN l ids = true ↔ l ∈ ids
  | [] => by simp [inN]
  | m :: r => by
    rw [inN, Bool.or_eq_true, inN_mem, List.mem_cons]
    constructor
    · rintro (h | h)
      · exact .inl (Nat.eq_of_beq_eq_true h)
      · exact .inr h
    · rintro (rfl | h)
      · exact .inl (Nat.beq_refl _)
      · exact .inr h
theorem wkEnv_look {σ : Nat → Nat} {k : Nat} {lbH : Nat → Option LB} {env : List (Nat × AV)} : ∀ {l : List (Nat × AV)} {t : Nat} {x : AV}, wkEnv σ k lbH env l → look t l = some x → ∃ y, look t env = some y ∧ wkVal σ k lbH x y
  | [], t, x, _, h => by cases h
  | (u, z) :: r, t, x, hw, h => by
    rw [look_if] at h
    split at h
    · rename_i e
      subst e
      obtain rfl := Option.some.inj h
      have h1 := hw.1
      cases hy : look t env with
      | none => rw [hy] at h1; exact h1.elim
      | some y => rw [hy] at h1; exact ⟨y, rfl, h1⟩
    · exact wkEnv_look hw.2 h
theorem wkLbl_look {σ : Nat → Nat} {k : Nat} {lb : Nat → Option LB} : ∀ {ls : List (Nat × Option LB)} {l : Nat} {B : LB}, wkLbl σ k lb ls → (look l ls).getD none = some B → l < k ∧ (∃ B', lb (σ l) = some B' ∧ wkLB σ k B B') ∧ σ l ∈ ls.map fun p => σ p.1
  | [], l, B, _, h => by cases h
  | (m, none) :: r, l, B, hw, h => hw.elim
  | (m, some C) :: r, l, B, hw, h => by
    rw [look_if] at h
    split at h
    · rename_i e
      subst e
      obtain rfl : C = B := by simpa using h
      refine ⟨blt_lt hw.1.1, ?_, by simp⟩
      have h1 := hw.1.2.1
      cases hy : lb (σ l) with
      | none => rw [hy] at h1; exact h1.elim
      | some B' => rw [hy] at h1; exact ⟨B', rfl, h1⟩
    · obtain ⟨h1, h2, h3⟩ := wkLbl_look hw.2 h
      exact ⟨h1, h2, by rw [List.map_cons]; exact List.mem_cons_of_mem _ h3⟩
theorem wkLbl_inj {σ : Nat → Nat} {k : Nat} {lb : Nat → Option LB} : ∀ {ls : List (Nat × Option LB)} {l l' : Nat} {B B' : LB}, wkLbl σ k lb ls → l ≠ l' → (look l ls).getD none = some B → (look l' ls).getD none = some B' → σ l ≠ σ l'
  | [], l, l', B, B', _, _, h, _ => by cases h
  | (m, none) :: r, l, l', B, B', hw, _, _, _ => hw.elim
  | (m, some C) :: r, l, l', B, B', hw, hne, h, h' => by
    have hall : ∀ j D, (look j r).getD none = some D → σ j ≠ σ m := by
      intro j D hj e
      obtain ⟨_, _, hm⟩ := wkLbl_look hw.2 hj
      obtain ⟨p, hp, hpe⟩ := List.mem_map.1 hm
      have := (List.all_eq_true.1 hw.1.2.2) p hp
      rw [hpe, e, Nat.beq_refl] at this
      cases this
    rw [look_if] at h h'
    split at h
    · rename_i e
      subst e
      split at h'
      · rename_i e'
        exact absurd e'.symm hne
      · exact fun e => hall l' B' h' e.symm
    · split at h'
      · rename_i e'
        subst e'
        exact hall l B h
      · exact wkLbl_inj hw.2 hne h h'

theorem Holds.conv' {w : World} {φ φ' : Nat → Option Value} {N N' : Nat → Prop} {l l' : Nat} {σ : Nat → Nat} {k : Nat} {B : LB} (h : Holds w φ N 0 l (B.ren σ)) (hf : B.lt k = true) (hs : ∀ j u, j < k → φ (σ j) = some u → φ' j = some u) (hφ : φ' l' = φ l) (hb : ∀ v b, φ l = some v → vblock v = some b → ¬ N' b) (hN : ∀ b, N b → N' b) : Holds w φ' N' 0 l' B := by
  have key : ∀ x v, Rep w φ N (x.ren σ) v → x.lt k = true → Rep w φ' N' x v := fun x v hr hx => (hr.mono (fun _ _ _ _ h => h) (fun _ _ h => h) hN).unren hs hx
  cases B with
  | box cells =>
    obtain ⟨b, ty, cs, hp, hg, hsz, hr, h0, hn⟩ := h
    have e : (renAll σ cells).length = cells.length := by rw [renAll_map]; simp
    exact ⟨b, ty, cs, hφ.trans hp, hg, hsz.trans e, fun i x hx => key x _ (hr i (x.ren σ) (by rw [renAll_map, List.getElem?_map, hx]; rfl)) (allLt_mem hf x (List.mem_of_getElem? hx)), h0, hb _ b hp rfl⟩
  | row e sz rows =>
    obtain ⟨v, xs, hp, h1, ho, hsz, hr, hn⟩ := h
    have el : (renRows σ rows).length = rows.length := by rw [renRows_map]; simp
    rw [el] at ho
    refine ⟨v, xs, hφ.trans hp, h1, ho, fun r hr' => ?_, fun i x hx => key x _ (hr i (x.ren σ) (by rw [renRows_flat, List.getElem?_map, hx]; rfl)) (rowsLt_mem hf x (List.mem_of_getElem? hx)), fun b hbv => hb v b hp ?_⟩
    · have := hsz (r.map (AV.ren σ)) (by rw [renRows_map]; exact List.mem_map.2 ⟨r, hr', rfl⟩)
      simpa using this
    · rcases ho.2 with ⟨rfl, _⟩ | ⟨g, cap, cur, rfl, _⟩ <;> exact hbv

/-- Slots forgotten, labels named anew or turned into contents. -/
theorem weak_of {k0 : Nat} {s s' : St} (σ : Nat → Nat) (hk : ((List.range k0).all fun l => Nat.blt l s'.next && (Nat.beq (σ l) l && (s'.lb l).isSome)) = true) (hl : wkLbl σ s'.next s.lb s'.lbl) (he : wkEnv σ s'.next (hideL (s'.lbl.map fun p => σ p.1) s.lb) s.env s'.env) : Weak k0 s s' := by
  intro n w0 M N0 a w hM ⟨φ, N, R⟩
  have hkey : ∀ l, l < k0 → l < s'.next ∧ σ l = l ∧ ∃ B, s'.lb l = some B := by
    intro l h
    have := (List.all_eq_true.1 hk) l (List.mem_range.2 h)
    simp only [Bool.and_eq_true] at this
    exact ⟨blt_lt this.1, Nat.eq_of_beq_eq_true this.2.1, Option.isSome_iff_exists.1 this.2.2⟩
  have hlive : ∀ l B, s'.lb l = some B → l < s'.next ∧ (∃ B', s.lb (σ l) = some B' ∧ wkLB σ s'.next B B') ∧ σ l ∈ s'.lbl.map fun p => σ p.1 := fun l B h => wkLbl_look hl h
  have hhide : ∀ l B, hideL (s'.lbl.map fun p => σ p.1) s.lb l = some B → s.lb l = some B ∧ l ∉ s'.lbl.map fun p => σ p.1 := by
    intro l B h
    unfold hideL at h
    split at h
    · cases h
    · rename_i hn
      exact ⟨h, fun e => hn (inN_mem.2 e)⟩
  have hNN : ∀ b, N b → NL N φ (hideL (s'.lbl.map fun p => σ p.1) s.lb) b := fun b h => .inl h
  have hs : ∀ j u, j < s'.next → φ (σ j) = some u → (if j < s'.next then φ (σ j) else none) = some u := fun j u hj h => by rw [if_pos hj]; exact h
  have hfar : ∀ l B v b, s'.lb l = some B → φ (σ l) = some v → vblock v = some b → ¬ NL N φ (hideL (s'.lbl.map fun p => σ p.1) s.lb) b := by
    rintro l B v b hB hv hb (h | ⟨l', v', B', h1, h2, h3⟩)
    · obtain ⟨_, ⟨B0, h0, _⟩, _⟩ := hlive l B hB
      obtain ⟨u, hu, _, hub⟩ := (R.lbl _ _ h0).place
      rw [hv] at hu
      obtain rfl := Option.some.inj hu
      exact (hub b hb).2.2 h
    · obtain ⟨_, ⟨B0, h0, _⟩, hm⟩ := hlive l B hB
      obtain ⟨g1, g2⟩ := hhide l' B' h1
      exact R.disj (σ l) l' B0 B' v v' b (fun e => g2 (by rw [← e]; exact hm)) h0 g1 hv h2 hb h3
  refine ⟨fun l => if l < s'.next then φ (σ l) else none, NL N φ (hideL (s'.lbl.map fun p => σ p.1) s.lb), R.defers.keep (Nat.le_refl _) hNN (fun _ _ => rfl), R.size, R.bel, fun l v h => ?_, fun b hb => ?_, fun b hb => ?_, fun t x hx => ?_, fun l B hB => ?_, fun l B v b hB hv hb => ?_, ?_, fun l hn => if_neg hn⟩
  · have hlk : l < k0 := by
      rcases Nat.lt_or_ge l k0 with h' | h'
      · exact h'
      · rw [hM l h'] at h; cases h
    obtain ⟨h1, h2, _⟩ := hkey l hlk
    show (if l < s'.next then _ else _) = _
    rw [if_pos h1, h2]
    exact R.ext l v h
  · rcases hb with hb | ⟨l, v, B, h1, h2, h3⟩
    · exact R.low b hb
    · obtain ⟨u, hu, _, hub⟩ := (R.lbl l B (hhide l B h1).1).place
      rw [h2] at hu
      obtain rfl := Option.some.inj hu
      exact (hub b h3).2.1
  · rcases hb with hb | ⟨l, v, B, h1, h2, h3⟩
    · exact R.nb b hb
    · obtain ⟨g1, g2⟩ := hhide l B h1
      rcases R.mine l B v b g1 h2 h3 with ⟨l0, v0, h0, hb0⟩ | h
      · exfalso
        have hlk : l0 < k0 := by
          rcases Nat.lt_or_ge l0 k0 with h' | h'
          · exact h'
          · rw [hM l0 h'] at h0; cases h0
        obtain ⟨_, e, B0, hB0⟩ := hkey l0 hlk
        obtain ⟨_, ⟨B1, h4, _⟩, hm⟩ := hlive l0 B0 hB0
        rw [e] at h4 hm
        exact R.disj l0 l B1 B v0 v b (fun e => g2 (by rw [← e]; exact hm)) h4 g1 (R.ext l0 v0 h0) h2 hb0 h3
      · exact .inr h
  · obtain ⟨y, hy, hw⟩ := wkEnv_look he hx
    have hr := R.env t y hy
    rcases hw with ⟨rfl, hf⟩ | ⟨rfl, hf⟩ | rfl
    · exact hr.any_of_free hf hNN
    · exact (hr.mono (fun _ _ _ _ h => h) (fun _ _ h => h) hNN).unren hs hf
    · exact (snap_ok (base := 0) (fun l B h => R.lbl l B (hhide l B h).1) 6 y _ hr).mono (φ := fun _ => none) (fun _ _ _ _ h => h) (fun _ _ h => by cases h) (fun _ h => h)
  · obtain ⟨h1, ⟨B', h2, h3⟩, _⟩ := hlive l B hB
    have hφ : (fun l => if l < s'.next then φ (σ l) else none) l = φ (σ l) := if_pos h1
    have hL := R.lbl _ _ h2
    rcases h3 with ⟨rfl, hf⟩ | ⟨rfl, hf⟩
    · exact hL.conv hf hφ (fun v b hv hb => hfar l _ v b hB hv hb) hNN
    · exact hL.conv' hf hs hφ (fun v b hv hb => hfar l _ v b hB hv hb) hNN
  · obtain ⟨h1, ⟨B', h2, h3⟩, _⟩ := hlive l B hB
    have hv : (if l < s'.next then φ (σ l) else none) = some v := hv
    rw [if_pos h1] at hv
    exact R.mine _ _ v b h2 hv hb
  · intro l l' B B' v v' b hne hB hB' hv hv' hb
    obtain ⟨h1, ⟨C, h2, _⟩, _⟩ := hlive l B hB
    obtain ⟨h1', ⟨C', h2', _⟩, _⟩ := hlive l' B' hB'
    have hv : (if l < s'.next then φ (σ l) else none) = some v := hv
    have hv' : (if l' < s'.next then φ (σ l') else none) = some v' := hv'
    rw [if_pos h1] at hv
    rw [if_pos h1'] at hv'
    exact R.disj _ _ C C' v v' b (wkLbl_inj hl hne hB hB') h2 h2' hv hv' hb
end Go.Proofs.YtfemklaeonkidaaV

import Derived.Test.YtfemklaeonkidaaVcO
/- What the evaluator says of the model: the code of a function. -/
namespace Go.Proofs.YtfemklaeonkidaaV
open Go Go.RowKit
set_option linter.unusedVariables false
set_option linter.unusedSimpArgs false

/-- Where it is asked for, less is told. -/
def wkK (k0 : Nat) (b : Bool) (s : St) (K : St → Prop) : Prop :=
  match b with
  | true => ∃ s', Weak k0 s s' ∧ K s'
  | false => K s

section
variable (P : Program) (tt : TypeId → Option TI) (X : Nat → List (List Operand)) (Z : Nat → Bool)

def loopN (k0 : Nat) (B : (Exit → St → Prop) → St → Prop) (Q : Exit → St → Prop) : Nat → St → Prop
  | 0, _ => False
  | k + 1, s => ∃ s', Weak k0 s s' ∧ B (fun e s1 => match e with | .normal => loopN k0 B Q k s1 | e => Q e s1) s'

def thenK (K : St → Prop) (Q : Exit → St → Prop) : Exit → St → Prop
  | .normal, s => K s
  | e, s => Q e s

def blockK (id : Nat) (Q : Exit → St → Prop) : Exit → St → Prop
  | .exit id', s => if Nat.beq id' id then Q .normal s else Q (.exit id') s
  | e, s => Q e s

/-- What a code comes to. -/
def evc : Nat → Code → (Exit → St → Prop) → St → Prop
  | _, .skip, Q, s => Q .normal s
  | _, .label _, Q, s => Q .normal s
  | k0, .region id ops d, Q, s => wkK k0 (Z id) s fun s => evr P tt ops ops.toList (X id) s (Q .normal)
  | k0, .seq a b, Q, s => evc k0 a (thenK (evc k0 b Q) Q) s
  | k0, .cond c x y, Q, s => match s.ev c with
    | .raw (.bool b) => (b = true → evc k0 x Q s) ∧ (b = false → evc k0 y Q s)
    | _ => False
  | k0, .block id c, Q, s => evc k0 c (blockK id Q) s
  | k0, .loop c, Q, s => ∃ k, loopN k0 (evc k0 c) Q k s
  | _, .exit id, Q, s => Q (.exit id) s
  | _, .ret, Q, s => Q .ret s
  | k0, .rangeFunc g ps as c, Q, s => rngK P k0 (fun k => evc k c) g ps as Q s
  | _, _, _, _ => False

def dstsOk (n : Nat) : List Oper → Bool
  | [] => true
  | o :: os => dstLt n o.dst && dstsOk n os
/-- No loop over a function. -/
def noRng : Code → Bool
  | .rangeFunc _ _ _ _ => false
  | .seq a b => noRng a && noRng b
  | .cond _ x y => noRng x && noRng y
  | .block _ c => noRng c
  | .loop c => noRng c
  | _ => true
def ltAll (n : Nat) : List Tmp → Bool
  | [] => true
  | p :: ps => Nat.blt p n && ltAll n ps
/-- A code's regions are such as the evaluator takes. -/
def codeOk (n : Nat) : Code → Bool
  | .region id ops d => dstsOk n ops.toList && (ops.toList.all calmOp && (!d || drawOk ops (X id)))
  | .seq a b => codeOk n a && codeOk n b
  | .cond _ x y => codeOk n x && codeOk n y
  | .block _ c => codeOk n c
  | .loop c => codeOk n c
  | .rangeFunc _ ps as c => (ltAll n ps.toList && asgOk n as) && (noRng c && codeOk n c)
  | _ => true
end

theorem ltAll_mem {n : Nat} : ∀ {l : List Tmp}, ltAll n l = true → ∀ p ∈ l, p < n
  | [], _, p, h => by cases h
  | q :: r, hl, p, h => by
    rw [ltAll, Bool.and_eq_true] at hl
    rcases List.mem_cons.1 h with rfl | h
    · exact blt_lt hl.1
    · exact ltAll_mem hl.2 p h
theorem dstsOk_mem {n : Nat} {os : List Oper} (h : dstsOk n os = true) : ∀ o ∈ os, okDst n o.dst := by
  induction os with
  | nil => intro o ho; cases ho
  | cons p os ih =>
    rw [dstsOk, Bool.and_eq_true] at h
    intro o ho
    rcases List.mem_cons.1 ho with e | ho
    · rw [e]; exact dstLt_ok h.1
    · exact ih h.2 o ho

section
variable {P : Program} {tt : TypeId → Option TI} (hT : TOk P tt) {n : Nat} {w0 : World} {M : Nat → Option Value} {N0 : NG} {X : Nat → List (List Operand)} {Z : Nat → Bool} {k0 : Nat}

theorem tel_fin {rs : List (Nat × Res)} {os : List Oper} {s sf : St} {a : Act} {w : World} (h : Tel n w0 M N0 (finU rs (fun l => l < s.next)) (finE os rs s.E) (finL rs s.lb) a w) (hU : ∀ l, finU rs (fun l => l < s.next) l → l < sf.next) (h1 : sf.E = finE os rs s.E) (h2 : sf.lb = finL rs s.lb) : TelS n w0 M N0 sf a w := by
  obtain ⟨φ, N, R⟩ := h
  refine ⟨φ, N, ?_⟩
  rw [h1, h2]
  exact R.more hU

theorem finU_lt {all : Array Oper} : ∀ {os : List Oper} {cr : List (List Operand)} {E : Nat → Option AV} {L : Nat → Option LB} {nx : Nat} {rs : List (Nat × Res)}, Trace P tt all os cr E L nx rs → ∀ (U : Nat → Prop), (∀ l, U l → l < nx) → ∀ l, finU rs U l → l < finN rs nx
  | _, _, _, _, _, _, .nil, U, hU, l, h => hU l h
  | _, _, _, _, _, _, .skip hg h', U, hU, l, h => finU_lt h' U hU l h
  | _, _, _, _, _, _, .exec (nx := nx) (r := r) hg hr hc h', U, hU, l, h => by
    refine finU_lt h' _ (fun l hl => ?_) l h
    cases r with
    | val x => exact hU l hl
    | put l' B => exact hU l hl
    | new B x =>
      show l < nx + 1
      rcases hl with hl | rfl
      · have := hU l hl; omega
      · omega
    | grow l' B x =>
      show l < nx + 1
      rcases hl with hl | rfl
      · have := hU l hl; omega
      · omega
    | eff l' B x =>
      show l < nx + 1
      rcases hl with hl | rfl
      · have := hU l hl; omega
      · omega

include hT
theorem any_ok {all : Array Oper} {crs : List (List Operand)} {U0 : Nat → Prop} {E0 : Nat → Option AV} {L0 : Nat → Option LB} {rs : List (Nat × Res)} (C : RCtx P tt n w0 M N0 all crs U0 E0 L0 rs) {Q : Exit → Act → World → Prop}
    (hQ : ∀ a w, Tel n w0 M N0 (finU rs U0) (finE all.toList rs E0) (finL rs L0) a w → Q .normal a w) : ∀ (fuel : Nat) (listed : Array Bool) (a : Act) (w : World), listed.size = all.size → Closed all (fun i => listed.getD i false) → ((List.range all.size).filter (fun i => !listed.getD i false)).length ≤ fuel →
      Tel n w0 M N0 (usedL rs (fun i => listed.getD i false) U0) (envL all.toList rs (fun i => listed.getD i false) E0) (lblL rs (fun i => listed.getD i false) L0) a w → wpAny P .any all Q fuel listed a w := by
  have hready : ∀ (listed : Array Bool) (i : Nat), listed.size = all.size → (i ∈ Region.ready .any all listed ↔ ∃ o, all[i]? = some o ∧ listed.getD i false = false ∧ ∀ k, edgeTo o k = true → listed.getD k false = true) := by
    intro listed i hs
    unfold Region.ready
    rw [List.mem_filter, List.mem_range]
    constructor
    · rintro ⟨hi, h⟩
      refine ⟨all[i], by simp [hi], ?_, ?_⟩
      · simp only [Bool.and_eq_true, Bool.not_eq_true'] at h
        have := h.1
        have hil : i < listed.size := by omega
        simpa [Array.getD, hil] using this
      · intro k hk
        simp only [Bool.and_eq_true] at h
        have h2 := h.2
        simp only [Array.getElem?_eq_getElem hi, Option.map_some, Option.getD_some, Array.all_eq_true_iff_forall_mem] at h2
        unfold edgeTo at hk
        rw [List.any_eq_true] at hk
        obtain ⟨e, he, hk⟩ := hk
        simp only [Bool.and_eq_true] at hk
        have := h2 e (by simpa using he)
        rw [hk.1] at this
        simp only [Bool.not_true, Bool.false_or] at this
        rw [Nat.eq_of_beq_eq_true hk.2] at this
        exact this
    · rintro ⟨o, ho, hl, hk⟩
      have hi : i < all.size := by
        rcases Nat.lt_or_ge i all.size with h' | h'
        · exact h'
        · rw [Array.getElem?_eq_none h'] at ho; cases ho
      refine ⟨hi, ?_⟩
      have hil : i < listed.size := by omega
      simp only [Bool.and_eq_true, Bool.not_eq_true']
      refine ⟨by simpa [Array.getD, hil] using hl, ?_⟩
      rw [ho]
      simp only [Option.map_some, Option.getD_some, Array.all_eq_true_iff_forall_mem]
      intro e he
      cases hb : Region.binds .any e with
      | false => rfl
      | true =>
        simp only [Bool.not_true, Bool.false_or]
        refine hk e.on ?_
        unfold edgeTo
        rw [List.any_eq_true]
        exact ⟨e, by simpa using he, by rw [hb]; simp [Nat.beq_refl]⟩
  have hdone : ∀ (listed : Array Bool), listed.size = all.size → Region.ready .any all listed = [] → ∀ i, i < all.size → listed.getD i false = true := by
    intro listed hs hr i
    induction i using Nat.strongRecOn with
    | _ i ih =>
      intro hi
      cases hl : listed.getD i false with
      | true => rfl
      | false =>
        exfalso
        have : i ∈ Region.ready .any all listed := by
          rw [hready listed i hs]
          refine ⟨all[i], by simp [hi], hl, fun k hk => ?_⟩
          have hself := C.self (j := i) (b := all[i]) (by simp [hi])
          unfold selfOk at hself
          unfold edgeTo at hk
          rw [List.any_eq_true] at hk
          obtain ⟨e, he, hk⟩ := hk
          simp only [Bool.and_eq_true] at hk
          have := (List.all_eq_true.1 hself) e he
          rw [hk.1] at this
          simp only [Bool.not_true, Bool.false_or] at this
          have h1 : e.on + 1 ≤ i := by simpa [Nat.blt] using this
          have h2 := Nat.eq_of_beq_eq_true hk.2
          exact ih k (by omega) (by omega)
        rw [hr] at this
        cases this
  have hfinal : ∀ (listed : Array Bool) (a : Act) (w : World), listed.size = all.size → Tel n w0 M N0 (usedL rs (fun i => listed.getD i false) U0) (envL all.toList rs (fun i => listed.getD i false) E0) (lblL rs (fun i => listed.getD i false) L0) a w → Region.ready .any all listed = [] → Q .normal a w := by
    intro listed a w hs ht hr
    have hall := hdone listed hs hr
    rw [envL_all _ _ _ _ (fun i hi => hall i (by simpa using hi)), lblL_all _ _ _ (fun i hi => hall i (by rw [← C.len]; exact hi))] at ht
    obtain ⟨φ, N, R⟩ := ht
    exact hQ a w ⟨φ, N, R.more fun m hm => usedL_fin _ _ _ _ hm⟩
  intro fuel
  induction fuel with
  | zero =>
    intro listed a w hs hc hf ht
    have hr : Region.ready .any all listed = [] := by
      cases hr : Region.ready .any all listed with
      | nil => rfl
      | cons i r =>
        exfalso
        have hi : i ∈ Region.ready .any all listed := by rw [hr]; simp
        obtain ⟨o, ho, hl, _⟩ := (hready listed i hs).1 hi
        have hi : i < all.size := by
          rcases Nat.lt_or_ge i all.size with h' | h'
          · exact h'
          · rw [Array.getElem?_eq_none h'] at ho; cases ho
        have : i ∈ (List.range all.size).filter (fun i => !listed.getD i false) := by
          rw [List.mem_filter]
          exact ⟨List.mem_range.2 hi, by rw [hl]; rfl⟩
        have := List.length_pos_of_mem this
        omega
    exact ⟨hr, hfinal listed a w hs ht hr⟩
  | succ fuel ih =>
    intro listed a w hs hc hf ht
    refine ⟨hfinal listed a w hs ht, fun i hi => ?_⟩
    obtain ⟨o, ho, hl, hk⟩ := (hready listed i hs).1 hi
    have hi' : i < all.size := by
      rcases Nat.lt_or_ge i all.size with h' | h'
      · exact h'
      · rw [Array.getElem?_eq_none h'] at ho; cases ho
    have hset : ∀ k, (listed.setIfInBounds i true).getD k false = if k = i then true else listed.getD k false := by
      intro k
      rw [Array.getD_eq_getD_getElem?, Array.getElem?_setIfInBounds]
      by_cases hki : k = i
      · subst hki
        simp [hs, hi']
      · rw [if_neg (fun e => hki e.symm), if_neg hki, Array.getD_eq_getD_getElem?]
    refine C.step hT hc ho hl hk hset ht (fun a' w' h' => ih _ a' w' (by simp [hs]) ?_ ?_ h')
    · intro j p k hp hj hek
      have hj : (listed.setIfInBounds i true).getD j false = true := hj
      show (listed.setIfInBounds i true).getD k false = true
      rw [hset] at hj ⊢
      split
      · rfl
      · by_cases hji : j = i
        · subst hji
          rw [ho] at hp
          obtain rfl := Option.some.inj hp
          exact hk k hek
        · rw [if_neg hji] at hj
          exact hc j p k hp hj hek
    · have hlt : ((List.range all.size).filter (fun k => !(listed.setIfInBounds i true).getD k false)).length < ((List.range all.size).filter (fun k => !listed.getD k false)).length := by
        have hsub : (List.range all.size).filter (fun k => !(listed.setIfInBounds i true).getD k false) = ((List.range all.size).filter (fun k => !listed.getD k false)).filter (fun k => !decide (k = i)) := by
          rw [List.filter_filter]
          refine List.filter_congr fun k _ => ?_
          rw [hset]
          by_cases hki : k = i
          · simp [hki]
          · simp [hki]
        rw [hsub]
        refine List.length_filter_lt_length_iff_exists.2 ⟨i, ?_, by simp⟩
        rw [List.mem_filter]
        exact ⟨List.mem_range.2 hi', by rw [hl]; rfl⟩
      omega

/-- A region, in whatever order it goes. -/
theorem region_sound (hm : P.follows .mixedOrders = true) {md : Option (Nat × Nat)} {id : Nat} {ops : Array Oper} {d : Bool} {K : St → Prop} {Q : Exit → Act → World → Prop} (hd : dstsOk n ops.toList = true) (hcalm : ops.toList.all calmOp = true) (hdraw : (!d || drawOk ops (X id)) = true) (hQ : ∀ s a w, K s → TelS n w0 M N0 s a w → Q .normal a w) {s : St} {a : Act} {w : World} (h : evr P tt ops ops.toList (X id) s K) (ht : TelS n w0 M N0 s a w) : wpM md P (Code.region id ops d) Q a w := by
  obtain ⟨rs, sf, htr, h1, h2, h3, hK⟩ := evr_trace ops ops.toList (X id) s h
  have hdo := dstsOk_mem hd
  have hU : ∀ l, finU rs (fun l => l < s.next) l → l < sf.next := by
    rw [h3]
    exact finU_lt htr _ (fun _ h => h)
  have hfin : ∀ a w, Tel n w0 M N0 (finU rs (fun l => l < s.next)) (finE ops.toList rs s.E) (finL rs s.lb) a w → onlyN Q .normal a w := fun a w h' => hQ sf a w hK (tel_fin h' hU h1 h2)
  have hfr : ∀ l, s.next ≤ l → ¬ l < s.next := fun l h => by omega
  refine wpM_region hm hcalm (fun hd' => ?_) (fun hd' => ?_)
  · have := trace_seq hT ops ops.toList 0 rfl hdo (X id) _ _ _ _ rs htr hfr hfin a w ht
    rwa [Array.length_toList, ← List.range_eq_range'] at this
  · rw [hd'] at hdraw
    simp only [Bool.not_true, Bool.false_or] at hdraw
    have hlabs := htr.labs
    have ht' : Tel n w0 M N0 (fun l => l < s.next) s.E s.lb a { w with drawn := w.drawn + 1 } := by
      obtain ⟨φ, N, R⟩ := ht
      exact ⟨φ, N, R.below (w' := w.drew) (Below.refl _ _).drew⟩
    have C : RCtx P tt n w0 M N0 ops (X id) (fun l => l < s.next) s.E s.lb rs :=
      ⟨fun j o ho => trace_at hT htr hdo _ a w ht hfr j o (by simpa using ho), by rw [hlabs.1]; simp, hlabs.2.2, fun i lab r hr hl => by have := hlabs.2.1 i lab r hr; omega, fun j o ho => hdo o (List.mem_of_getElem? (by simpa using ho)), hdraw⟩
    have hf : ∀ i, (Array.replicate ops.size false).getD i false = false := by
      intro i
      rw [Array.getD_eq_getD_getElem?, Array.getElem?_replicate]
      split <;> rfl
    refine any_ok hT C hfin ops.size _ a _ (by simp) ?_ ?_ ?_
    · intro j o i _ hj _
      have hj : (Array.replicate ops.size false).getD j false = true := hj
      rw [hf] at hj
      cases hj
    · exact Nat.le_trans (List.length_filter_le _ _) (by simp)
    · rw [envL_none _ _ _ _ hf, lblL_none _ _ _ hf]
      obtain ⟨φ, N, R⟩ := ht'
      exact ⟨φ, N, R.more fun m hm => .inl hm⟩

omit hT in
theorem noRng_seq {a b : Code} (h : noRng (.seq a b) = true) : noRng a = true ∧ noRng b = true := by
  rw [noRng, Bool.and_eq_true] at h
  exact h
/-- The code. -/
theorem evc_sound (hm : P.follows .mixedOrders = true) : ∀ (c : Code) (k0 : Nat) (md : Option (Nat × Nat)) (M : Nat → Option Value) (N0 : NG), (∀ l, k0 ≤ l → M l = none) → (md = none ∨ noRng c = true) → ∀ (Q : Exit → St → Prop) (Q' : Exit → Act → World → Prop), codeOk X n c = true → (∀ e s a w, Q e s → TelS n w0 M N0 s a w → Q' e a w) → ∀ s a w, evc P tt X Z k0 c Q s → TelS n w0 M N0 s a w → wpM md P c Q' a w
  | .skip, k0, md, M, N0, hM, hmd, Q, Q', _, hQ, s, a, w, h, ht => wpM_skip (hQ _ s a w h ht)
  | .label _, k0, md, M, N0, hM, hmd, Q, Q', _, hQ, s, a, w, h, ht => wpM_label (hQ _ s a w h ht)
  | .region id ops d, k0, md, M, N0, hM, hmd, Q, Q', hc, hQ, s, a, w, h, ht => by
    rw [codeOk, Bool.and_eq_true, Bool.and_eq_true] at hc
    have h : wkK k0 (Z id) s fun s => evr P tt ops ops.toList (X id) s (Q .normal) := h
    unfold wkK at h
    split at h
    · obtain ⟨s', hw, h⟩ := h
      exact region_sound hT hm hc.1 hc.2.1 hc.2.2 (fun s a w => hQ .normal s a w) h (hw _ _ _ _ _ _ hM ht)
    · exact region_sound hT hm hc.1 hc.2.1 hc.2.2 (fun s a w => hQ .normal s a w) h ht
  | .seq x y, k0, md, M, N0, hM, hmd, Q, Q', hc, hQ, s, a, w, h, ht => by
    rw [codeOk, Bool.and_eq_true] at hc
    refine wpM_seq (evc_sound hm x k0 md M N0 hM (hmd.imp id fun h => (noRng_seq h).1) _ _ hc.1 (fun e s a w hq ht => ?_) s a w h ht)
    cases e with
    | normal => exact evc_sound hm y k0 md M N0 hM (hmd.imp id fun h => (noRng_seq h).2) Q Q' hc.2 hQ s a w hq ht
    | _ => exact hQ _ s a w hq ht
  | .cond c x y, k0, md, M, N0, hM, hmd, Q, Q', hc, hQ, s, a, w, h, ht => by
    rw [codeOk, Bool.and_eq_true] at hc
    have hmx : md = none ∨ noRng x = true := hmd.imp id fun h => by rw [noRng, Bool.and_eq_true] at h; exact h.1
    have hmy : md = none ∨ noRng y = true := hmd.imp id fun h => by rw [noRng, Bool.and_eq_true] at h; exact h.2
    have hev : s.ev c = evE s.E c := by rw [evE_St]
    unfold evc at h
    split at h
    · rename_i b hb
      have hv : a.eval c = .bool b := by
        obtain ⟨φ, N, R⟩ := ht
        have := R.ev c
        rw [← hev, hb] at this
        exact this.of_raw
      refine wpM_cond_split hv (fun e => ?_) (fun e => ?_)
      · exact evc_sound hm x k0 md M N0 hM hmx Q Q' hc.1 hQ s a w (h.1 e) ht
      · exact evc_sound hm y k0 md M N0 hM hmy Q Q' hc.2 hQ s a w (h.2 e) ht
    · exact h.elim
  | .block id c, k0, md, M, N0, hM, hmd, Q, Q', hc, hQ, s, a, w, h, ht => by
    refine wpM_block (evc_sound hm c k0 md M N0 hM hmd _ _ hc (fun e s a w hq ht => ?_) s a w h ht)
    cases e with
    | exit id' =>
      show if id' = id then _ else _
      unfold blockK at hq
      by_cases hid : id' = id
      · subst hid
        rw [if_pos rfl]
        simp only [Nat.beq_refl, if_true] at hq
        exact hQ _ s a w hq ht
      · rw [if_neg hid]
        have : Nat.beq id' id = false := by
          cases hb : Nat.beq id' id with
          | false => rfl
          | true => exact absurd (Nat.eq_of_beq_eq_true hb) hid
        simp only [this, Bool.false_eq_true, if_false] at hq
        exact hQ _ s a w hq ht
    | _ => exact hQ _ s a w hq ht
  | .loop c, k0, md, M, N0, hM, hmd, Q, Q', hc, hQ, s, a, w, h, ht => by
    obtain ⟨k, h⟩ := h
    refine wpM_loop k ?_
    have hc' : codeOk X n c = true := hc
    have key : ∀ k s a w, loopN k0 (evc P tt X Z k0 c) Q k s → TelS n w0 M N0 s a w → roundsM md P c Q' k a w := by
      intro k
      induction k with
      | zero => intro s a w h _; exact h.elim
      | succ k ih =>
        intro s a w h ht
        obtain ⟨s', hw, h⟩ := h
        refine evc_sound hm c k0 md M N0 hM hmd _ _ hc' (fun e s a w hq ht => ?_) s' a w h (hw _ _ _ _ _ _ hM ht)
        cases e with
        | normal => exact ih s a w hq ht
        | _ => exact hQ _ s a w hq ht
    exact key k s a w h ht
  | .exit id, k0, md, M, N0, hM, hmd, Q, Q', _, hQ, s, a, w, h, ht => wpM_exit (hQ _ s a w h ht)
  | .ret, k0, md, M, N0, hM, hmd, Q, Q', _, hQ, s, a, w, h, ht => wpM_ret (hQ _ s a w h ht)
  | .rangeFunc g ps as c, k0, md, M, N0, hM, hmd, Q, Q', hc, hQ, s, a, w, h, ht => by
    rw [codeOk, Bool.and_eq_true, Bool.and_eq_true, Bool.and_eq_true] at hc
    rcases hmd with rfl | hmd
    · exact rng_sound hm (fun l m M' N0' kst Qb Qb' hM' hQb s a w hs ht => evc_sound hm c kst (some (l, m)) M' N0' hM' (.inr hc.2.1) Qb Qb' hc.2.2 hQb s a w hs ht) (ltAll_mem hc.1.1) hc.1.2 hM hQ h ht
    · cases hmd
  | .scope _, _, _, _, _, _, _, Q, Q', _, hQ, s, a, w, h, ht => h.elim
  | .goto _, _, _, _, _, _, _, Q, Q', _, hQ, s, a, w, h, ht => h.elim
  | .refuse _, _, _, _, _, _, _, Q, Q', _, hQ, s, a, w, h, ht => h.elim
end

/-! ### a function -/
def entryEnv : Nat → List AV → List (Nat × AV)
  | _, [] => []
  | k, x :: r => (k, x) :: entryEnv (k + 1) r
def entry (args : List AV) : St := ⟨entryEnv 0 args, [], 0⟩

/-- The results. -/
def resK (tt : TypeId → Option TI) (s : St) (K : List AV → Prop) : List ResultVar → List AV → Prop
  | [], acc => K acc.reverse
  | .tmp t :: r, acc => resK tt s K r (s.ev (.tmp t) :: acc)
  | .cell t ty :: r, acc => match aload tt s.lb ty (s.ev (.tmp t)) with
    | .val p x => p ∧ resK tt s K r (x :: acc)
    | _ => False
def resF (tmps : Array Value) : ResultVar → Sem Value
  | .tmp t => Pure.pure (tmps.getD t undef)
  | .cell x t => do loadVar t (← asAddr (tmps.getD x undef))
def retAV : List AV → AV
  | [x] => x
  | l => .tup l
def endK (tt : TypeId → Option TI) (res : List ResultVar) (r : AV) : Exit → St → Prop
  | .normal, s => resK tt s (fun l => retAV (l.map (snap s.lb 6)) = r) res []
  | .ret, s => resK tt s (fun l => retAV (l.map (snap s.lb 6)) = r) res []
  | _, _ => False

section
variable {P : Program} {tt : TypeId → Option TI} (hT : TOk P tt)

theorem look_entry : ∀ (args : List AV) (k t : Nat) (x : AV), look t (entryEnv k args) = some x → k ≤ t ∧ args[t - k]? = some x
  | [], k, t, x, h => by cases h
  | y :: r, k, t, x, h => by
    rw [entryEnv, look_if] at h
    split at h
    · rename_i e
      subst e
      simp at h
      simp [h]
    · rename_i e
      obtain ⟨h1, h2⟩ := look_entry r (k + 1) t x h
      refine ⟨by omega, ?_⟩
      rw [show t - k = (t - (k + 1)) + 1 by omega]
      simpa using h2

include hT
theorem res_run {n : Nat} {w0 w : World} {M : Nat → Option Value} {N0 : NG} {N U : Nat → Prop} {φ : Nat → Option Value} {s : St} {a : Act} (R : Rel n w0 M N0 φ N U s.E s.lb a w) {K : List AV → Prop} : ∀ (rv : List ResultVar) (acc : List AV), resK tt s K rv acc → ∃ l vs, K (acc.reverse ++ l) ∧ (rv.mapM (resF a.tmps)).run P w = .ok vs w ∧ l.length = vs.length ∧ ∀ i x, l[i]? = some x → Rep w φ N x (vs.getD i undef)
  | [], acc, h => by
    have h : K acc.reverse := h
    exact ⟨[], [], by simpa using h, by simp, rfl, by simp⟩
  | .tmp t :: r, acc, h => by
    obtain ⟨l, vs, h1, h2, h3, h4⟩ := res_run R r _ h
    refine ⟨s.ev (.tmp t) :: l, a.tmps.getD t undef :: vs, by simpa using h1, ?_, by simp [h3], fun i x hx => ?_⟩
    · rw [List.mapM_cons]
      have e : (resF a.tmps (.tmp t)).run P w = .ok (a.tmps.getD t undef) w := rfl
      simp only [Sem.run_bind, e, Result.andThen_ok, h2, Sem.run_pure]
    · cases i with
      | zero =>
        simp at hx
        subst hx
        have := R.ev (.tmp t)
        rw [evE_St] at this
        exact this
      | succ i => simpa using h4 i x (by simpa using hx)
  | .cell t ty :: r, acc, h => by
    unfold resK at h
    split at h
    · rename_i p x hx
      have hev := R.ev (.tmp t)
      rw [evE_St] at hev
      obtain ⟨v, g1, g2⟩ := aload_ok hT R.lbl hx h.1 hev
      obtain ⟨l, vs, h1, h2, h3, h4⟩ := res_run R r _ h.2
      have hv : ∃ ad, a.tmps.getD t undef = .pointer (some ad) ∧ (loadVar ty ad).run P w = .ok v w := by
        have e : a.eval (.tmp t) = a.tmps.getD t undef := rfl
        rw [e] at g1
        unfold Instr.loadAt Instr.sureAddr at g1
        split at g1
        · rename_i ad _
          exact ⟨ad, by assumption, by simpa using g1⟩
        · simp at g1
      obtain ⟨ad, e1, e2⟩ := hv
      refine ⟨x :: l, v :: vs, by simpa using h1, ?_, by simp [h3], fun i y hy => ?_⟩
      · rw [List.mapM_cons]
        have e : (resF a.tmps (.cell t ty)).run P w = .ok v w := by
          show (asAddr (a.tmps.getD t undef) >>= fun ad => loadVar ty ad).run P w = _
          rw [e1]
          simp [asAddr, e2]
        simp only [Sem.run_bind, e, Result.andThen_ok, h2, Sem.run_pure]
      · cases i with
        | zero => simp at hy; subst hy; exact g2
        | succ i => simpa using h4 i y (by simpa using hy)
    · exact h.elim

/-- Labels that are kept: the first ones, and maybe one more. -/
def hide (k : Nat) (id : Option Nat) (lb : Nat → Option LB) : Nat → Option LB := fun l => if Nat.blt l k then none else match id with
  | none => lb l
  | some i => if Nat.beq l i then none else lb l
/-- What of a result is told. -/
def outG (k : Nat) (id : Option Nat) (lb : Nat → Option LB) (x : AV) : AV :=
  match x, id with
  | .own l, some i => if Nat.beq l i then .own k else snap (hide k id lb) 6 (.own l)
  | x, _ => snap (hide k id lb) 6 x
def keptK (lb : Nat → Option LB) : Nat → List LB → Prop
  | _, [] => True
  | i, B :: r => lb i = some B ∧ B.free = true ∧ keptK lb (i + 1) r
def newK (lb : Nat → Option LB) (k : Nat) : Option Nat → Option LB → Prop
  | none, none => True
  | some i, some B => lb i = some B ∧ B.free = true ∧ Nat.ble k i = true
  | _, _ => False
def endG (tt : TypeId → Option TI) (res : List ResultVar) (L' : List LB) (id : Option Nat) (nw : Option LB) (r : AV) : Exit → St → Prop
  | .normal, s => resK tt s (fun l => keptK s.lb 0 L' ∧ newK s.lb L'.length id nw ∧ retAV (l.map (outG L'.length id s.lb)) = r) res []
  | .ret, s => resK tt s (fun l => keptK s.lb 0 L' ∧ newK s.lb L'.length id nw ∧ retAV (l.map (outG L'.length id s.lb)) = r) res []
  | _, _ => False
def lblsOf : Nat → List LB → List (Nat × Option LB)
  | _, [] => []
  | k, B :: r => (k, some B) :: lblsOf (k + 1) r
def entryG (L : List LB) (args : List AV) : St := ⟨entryEnv 0 args, lblsOf 0 L, L.length⟩

omit hT in
theorem kept_get {lb : Nat → Option LB} : ∀ {L : List LB} {k i : Nat} {B : LB}, keptK lb k L → L[i]? = some B → lb (k + i) = some B ∧ B.free = true
  | [], k, i, B, _, h => by simp at h
  | C :: r, k, 0, B, h, hB => by
    simp at hB
    subst hB
    exact ⟨h.1, h.2.1⟩
  | C :: r, k, i + 1, B, h, hB => by
    have := kept_get h.2.2 (by simpa using hB)
    rw [show k + (i + 1) = k + 1 + i by omega]
    exact this
omit hT in
theorem look_lbls : ∀ (L : List LB) (k l : Nat) (B : LB), (look l (lblsOf k L)).getD none = some B → k ≤ l ∧ L[l - k]? = some B
  | [], k, l, B, h => by simp [lblsOf, look] at h
  | C :: r, k, l, B, h => by
    rw [lblsOf, look_if] at h
    split at h
    · rename_i e
      subst e
      simpa using h
    · obtain ⟨h1, h2⟩ := look_lbls r (k + 1) l B h
      refine ⟨by omega, ?_⟩
      rw [show l - k = (l - (k + 1)) + 1 by omega]
      simpa using h2

/-- The results, taken. -/
theorem ret_run {n : Nat} {w0 w : World} {M : Nat → Option Value} {N0 : NG} {N U : Nat → Prop} {φ : Nat → Option Value} {s : St} {a : Act} (R : Rel n w0 M N0 φ N U s.E s.lb a w) {K : List AV → Prop} {fn : Func} (h : resK tt s K fn.results.toList []) {φ' : Nat → Option Value} {N' : Nat → Prop} {f : AV → AV} (hf : ∀ x v, Rep w φ N x v → Rep w φ' N' (f x) v) :
    ∃ l v, K l ∧ (results fn a.tmps).run P w = .ok v w ∧ Rep w φ' N' (retAV (l.map f)) v := by
  obtain ⟨l, us, h1, h2, h3, h4⟩ := res_run hT R _ _ h
  simp only [List.reverse_nil, List.nil_append] at h1
  have hsn : ∀ i x, (l.map f)[i]? = some x → Rep w φ' N' x (us.getD i undef) := by
    intro i x hx
    rw [List.getElem?_map] at hx
    cases hli : l[i]? with
    | none => rw [hli] at hx; cases hx
    | some y =>
      rw [hli] at hx
      obtain rfl := Option.some.inj hx
      exact hf y _ (h4 i y hli)
  have hmap : (fn.results.mapM (resF a.tmps)).run P w = .ok us.toArray w := by
    rw [Array.mapM_eq_mapM_toList]
    simp [h2]
  refine ⟨l, (if h : us.toArray.size = 1 then us.toArray[0] else .tuple us.toArray), h1, ?_, ?_⟩
  · have e : results fn a.tmps = (fn.results.mapM (resF a.tmps) >>= fun vs => Pure.pure (if h : vs.size = 1 then vs[0] else .tuple vs)) := rfl
    rw [e, Sem.run_bind, hmap]
    rfl
  · match l, us, h3, hsn with
    | [x], [u], _, hsn => simpa [retAV] using hsn 0 (f x) (by simp)
    | [], [], _, _ => exact .tup [] #[] rfl (by simp)
    | x :: y :: l, u :: u' :: us, h3, hsn =>
      have e : retAV ((x :: y :: l).map f) = .tup ((x :: y :: l).map f) := rfl
      rw [e, dif_neg (by simp)]
      refine .tup _ _ (by simpa using h3) fun i z hz => ?_
      have := hsn i z hz
      simpa [Array.getD_eq_getD_getElem?, List.getD_eq_getElem?_getD] using this

omit hT in
theorem entry_env {w : World} {φ : Nat → Option Value} {N : Nat → Prop} {args : List AV} {vs : List Value} {m : Nat} (hl : vs.length = args.length) (hr : ∀ i x, args[i]? = some x → Rep w φ N x (vs.getD i undef)) {t : Nat} {x : AV} (hx : look t (entryEnv 0 args) = some x) : Rep w φ N x ((vs.toArray ++ Array.replicate m undef).getD t undef) := by
  obtain ⟨_, hx⟩ := look_entry args 0 t x hx
  have := hr t x (by simpa using hx)
  have hlt : t < vs.length := by rw [hl]; have := getElem?_lt hx; omega
  rw [List.getD_eq_getElem?_getD, List.getElem?_eq_getElem hlt] at this
  rw [Array.getD_eq_getD_getElem?, Array.getElem?_append, if_pos (by simpa using hlt)]
  simpa [hlt] using this

omit hT in
/-- The marks of loops over functions, taken at the end. -/
theorem leaves_of {n : Nat} {w0 w1 : World} {M : Nat → Option Value} {N0 : NG} {φ : Nat → Option Value} {N U : Nat → Prop} {E : Nat → Option AV} {L : Nat → Option LB} {a : Act} (R0 : Rel n w0 M N0 φ N U E L a w1) (hlo : w0.heap.size ≤ N0.lo) {fn : Func} {RR : Ending → World → Prop}
    (h : ∀ w', Rel n w0 M ⟨N0.p, fun _ => none, 0, 0⟩ φ N U E L { tmps := a.tmps, defers := [] } w' → ∃ v, (results fn a.tmps).run P w' = .ok v w' ∧ RR (.returned v) w') : LeavesInM Fence.wide 9 P fn a.tmps RR a.defers .returning w1 := by
  have hstart : Rel n w0 M ⟨N0.p, fun _ => none, 0, 0⟩ φ N U E L { tmps := a.tmps, defers := [] } w1 := ⟨.none (Nat.zero_le _), R0.size, R0.bel, R0.ext, R0.low, R0.nb, R0.env, R0.lbl, R0.mine, R0.disj, R0.fresh⟩
  obtain ⟨hx, g, hy, h2, h3, h4⟩ := R0.defers
  have hds : ∀ d ∈ a.defers, ∃ D, d = { target := .collected D, args := #[] } ∧ w0.heap.size ≤ D ∧ w1.heap[D]? = some (.deferred (some [])) := fun d hd => by
    obtain ⟨D, e, hD, hl⟩ := h4 d hd
    exact ⟨D, e, Nat.le_trans hlo hl, (h2 D _ hD).2⟩
  clear R0 h2 h4 hx hy
  generalize a.defers = ds at *
  induction ds generalizing w1 with
  | nil => exact h w1 hstart
  | cons d ds ih =>
    obtain ⟨D, rfl, hb, hK⟩ := hds d (by simp)
    obtain ⟨hn1, hn2⟩ := List.nodup_cons.1 h3
    refine ⟨by simp, .inl ⟨D, _, rfl, run_takeDeferred hK, ih (w1 := w1.putObj D (.deferred none)) ?_ hn2 (fun d' hd' => ?_)⟩⟩
    · exact hstart.own (grownBy_putObj' w1 D _) (fun r e => by cases e; exact ⟨hb, _, hK, rfl⟩) (.none (Nat.zero_le _))
    · obtain ⟨D', e, hb', hK'⟩ := hds d' (by simp [hd'])
      refine ⟨D', e, hb', (World.putObj_heap_other (fun e' => hn1 ?_)).trans hK'⟩
      rw [← e', ← e]
      exact hd'
/-- A contract, out of what the evaluator says. -/
theorem ok_of' (hm : P.follows .mixedOrders = true) {X : Nat → List (List Operand)} {Z : Nat → Bool} {F : FuncId} {fn : Func} {c : Code} {args : List AV} {r : AV} (hf : P.funcs[F]? = some fn) (hb : fn.body = some c) (hF : Fine P F) (hc : codeOk X fn.ntmps c = true) (hn : Nat.ble args.length fn.ntmps = true) (h : evc P tt X Z 0 c (endK tt fn.results.toList r) (entry args)) : Ok P F args r := by
  refine ⟨hF, fun w N vs hN hl hr => ?_⟩
  refine (callsIn_wide (n := 9)).1 (callsIn_of_wp_marks hf hb trivial (wpIn_wide.2 ?_) rfl)
  have hn := Nat.le_of_ble_eq_true hn
  have ht : TelS fn.ntmps w (fun _ => none) ⟨N, fun _ => none, 0, w.heap.size⟩ (entry args) { tmps := vs.toArray ++ Array.replicate (fn.ntmps - vs.toArray.size) undef, defers := [] } w := by
    refine ⟨fun _ => none, N, ⟨.none (Nat.le_refl _), by simp; omega, But.refl _ _, (fun l v h => by cases h), hN, fun b h => .inl h, fun t x hx => entry_env hl hr hx, (fun l B hl => by cases hl), (fun l B v b hl => by cases hl), (fun l l' B B' v v' b _ hl => by cases hl), fun _ _ => rfl⟩⟩
  refine evc_sound hT hm c 0 none _ _ (fun _ _ => rfl) (.inl rfl) _ _ hc (fun e s a w1 hq ht => ?_) _ _ _ h ht
  have hend : resK tt s (fun l => retAV (l.map (snap s.lb 6)) = r) fn.results.toList [] → LeavesInM Fence.wide 9 P fn a.tmps (fun e w' => ∃ v, e = .returned v ∧ Below w.heap.size w w' ∧ Rep w' (fun _ => none) (fun b => N b ∨ (w.heap.size ≤ b ∧ b < w'.heap.size)) r v) a.defers .returning w1 := by
    intro hq
    obtain ⟨φ, N', R0⟩ := ht
    refine leaves_of R0 (Nat.le_refl _) fun w' R => ?_
    have hNL : ∀ b, NL N' φ s.lb b → N b ∨ (w.heap.size ≤ b ∧ b < w'.heap.size) := by
      intro b hb
      rcases hb with hb | ⟨l, v, B, hl, hv, hb⟩
      · rcases R.nb b hb with h | h
        · exact .inl h
        · exact .inr ⟨h, R.low b hb⟩
      · obtain ⟨u, hu, _, hub⟩ := (R.lbl l B hl).place
        rw [hv] at hu
        obtain rfl := Option.some.inj hu
        rcases R.mine l B v b hl hv hb with ⟨_, _, h, _⟩ | h
        · cases h
        · exact .inr ⟨h, (hub b hb).2.1⟩
    obtain ⟨l, v, h1, h2, h3⟩ := ret_run hT R hq (φ' := fun _ => none) (N' := fun b => N b ∨ (w.heap.size ≤ b ∧ b < w'.heap.size)) (f := snap s.lb 6) (fun x v hx => (snap_ok R.lbl 6 x v hx).mono (fun _ _ _ _ h => h) (fun _ _ h => h) hNL)
    rw [h1] at h3
    exact ⟨v, h2, v, rfl, ⟨R.bel.os, R.bel.tape, R.bel.output, R.bel.size, fun k hk => R.bel.block k hk (by rintro ⟨_, _, h, _⟩; cases h)⟩, h3⟩
  cases e with
  | normal => exact hend hq
  | ret => exact hend hq
  | _ => exact hq.elim
/-- The same, the results written out. -/
theorem ok_of (hm : P.follows .mixedOrders = true) {X : Nat → List (List Operand)} {Z : Nat → Bool} {F : FuncId} {fn : Func} {c : Code} {args : List AV} {r : AV} {res : List ResultVar} (hf : P.funcs[F]? = some fn) (hb : fn.body = some c) (hres : fn.results.toList = res) (hF : Fine P F) (hc : codeOk X fn.ntmps c = true) (hn : Nat.ble args.length fn.ntmps = true) (h : evc P tt X Z 0 c (endK tt res r) (entry args)) : Ok P F args r := by
  subst hres
  exact ok_of' hT hm hf hb hF hc hn h

/-- A contract of a function that writes. -/
theorem okg_of (hm : P.follows .mixedOrders = true) {X : Nat → List (List Operand)} {Z : Nat → Bool} {F : FuncId} {fn : Func} {c : Code} {L L' : List LB} {args : List AV} {id : Option Nat} {nw : Option LB} {r : AV} {res : List ResultVar} (hf : P.funcs[F]? = some fn) (hb : fn.body = some c) (hres : fn.results.toList = res) (hF : Fine P F) (hc : codeOk X fn.ntmps c = true) (hn : Nat.ble args.length fn.ntmps = true) (hlen : L'.length = L.length) (h : evc P tt X Z L.length c (endG tt res L' id nw r) (entryG L args)) : OkG P F L args L' nw r := by
  subst hres
  refine ⟨hF, hlen, fun w φ0 N vs hN hl hr hL hap hno => ?_⟩
  refine (callsIn_wide (n := 9)).1 (callsIn_of_wp_marks hf hb trivial (wpIn_wide.2 ?_) rfl)
  have hn := Nat.le_of_ble_eq_true hn
  have hsome : ∀ l, l < L.length → ∃ v, φ0 l = some v ∧ ∀ b, vblock v = some b → b < w.heap.size ∧ ¬ N b := by
    intro l hl
    obtain ⟨v, hv, _, hb⟩ := (hL l _ (List.getElem?_eq_getElem hl)).place
    exact ⟨v, hv, fun b h => (hb b h).2⟩
  have hlbl : ∀ l B, (entryG L args).lb l = some B → L[l]? = some B := fun l B h => by
    have := (look_lbls L 0 l B h).2
    simpa using this
  have ht : TelS fn.ntmps w φ0 ⟨N, fun _ => none, 0, w.heap.size⟩ (entryG L args) { tmps := vs.toArray ++ Array.replicate (fn.ntmps - vs.toArray.size) undef, defers := [] } w := by
    refine ⟨φ0, N, ⟨.none (Nat.le_refl _), by simp; omega, But.refl _ _, fun _ _ h => h, hN, fun b h => .inl h, fun t x hx => entry_env hl hr hx, fun l B h => hL l B (hlbl l B h), fun l B v b _ hv hb => .inl ⟨l, v, hv, hb⟩, fun l l' B B' v v' b hne h h' => hap l l' v v' b hne (getElem?_lt (hlbl l B h)) (getElem?_lt (hlbl l' B' h')), fun l hl => hno l (Nat.le_of_not_lt hl)⟩⟩
  refine evc_sound hT hm c _ none _ _ hno (.inl rfl) _ _ hc (fun e s a w1 hq ht => ?_) _ _ _ h ht
  have hend : resK tt s (fun l => keptK s.lb 0 L' ∧ newK s.lb L'.length id nw ∧ retAV (l.map (outG L'.length id s.lb)) = r) fn.results.toList [] → LeavesInM Fence.wide 9 P fn a.tmps (fun e w' => ∃ v' φ' N', e = .returned v' ∧ But (blocks φ0 L.length) w w' ∧ (∀ b, N' b → N b ∨ (w.heap.size ≤ b ∧ b < w'.heap.size)) ∧ (∀ l, l < L.length → φ' l = φ0 l) ∧ (∀ l, L.length < l → φ' l = none) ∧
      (∀ l B, L'[l]? = some B → Holds w' φ' N' 0 l B) ∧ (∀ B, nw = some B → Holds w' φ' N' 0 L.length B ∧ ∀ v b, φ' L.length = some v → vblock v = some b → w.heap.size ≤ b) ∧ (nw = none → φ' L.length = none) ∧ Rep w' φ' N' r v') a.defers .returning w1 := by
    intro hq
    obtain ⟨φ, N1, R0⟩ := ht
    refine leaves_of R0 (Nat.le_refl _) fun w' R => ?_
    rw [← hlen] at hsome ⊢
    -- which labels are kept
    have hkk : keptK s.lb 0 L' ∧ newK s.lb L'.length id nw := by
      obtain ⟨l, us, h1, _⟩ := res_run hT R _ _ hq
      exact ⟨h1.1, h1.2.1⟩
    obtain ⟨hk, hnk⟩ := hkk
    have hkept : ∀ l, l < L'.length → ∃ B v, L'[l]? = some B ∧ s.lb l = some B ∧ B.free = true ∧ φ0 l = some v ∧ φ l = some v := by
      intro l hl
      obtain ⟨h1, h2⟩ := kept_get hk (List.getElem?_eq_getElem hl)
      rw [Nat.zero_add] at h1
      obtain ⟨v, hv, _⟩ := hsome l hl
      exact ⟨_, v, List.getElem?_eq_getElem hl, h1, h2, hv, R.ext l v hv⟩
    have hPB : ∀ b, PB φ0 b → ∃ l v, l < L'.length ∧ φ0 l = some v ∧ vblock v = some b := by
      rintro b ⟨l, v, hv, hb⟩
      refine ⟨l, v, ?_, hv, hb⟩
      rcases Nat.lt_or_ge l L'.length with h | h
      · exact h
      · rw [hno l (by omega)] at hv; cases hv
    -- a label that is none of the first ones lies in a new block
    have hnew : ∀ l B v b, ¬ l < L'.length → s.lb l = some B → φ l = some v → vblock v = some b → w.heap.size ≤ b := by
      intro l B v b hl hB hv hb
      rcases R.mine l B v b hB hv hb with h | h
      · obtain ⟨l0, v0, h0, h1, h2⟩ := hPB b h
        obtain ⟨B0, v1, _, g1, _, g2, g3⟩ := hkept l0 h0
        rw [h1] at g2
        obtain rfl := Option.some.inj g2
        exact absurd hb (R.disj l0 l B0 B v0 v b (by omega) g1 hB g3 hv h2)
      · exact h
    have hhide : ∀ l B, hide L'.length id s.lb l = some B → ¬ l < L'.length ∧ id ≠ some l ∧ s.lb l = some B := by
      intro l B h
      unfold hide at h
      split at h
      · cases h
      · rename_i hl
        have hl' : ¬ l < L'.length := fun h' => hl (Nat.ble_eq_true_of_le h')
        split at h
        · exact ⟨hl', by simp, h⟩
        · split at h
          · cases h
          · rename_i i hli
            refine ⟨hl', fun e => ?_, h⟩
            obtain rfl := Option.some.inj e
            exact hli (Nat.beq_refl _)
    let φ' : Nat → Option Value := fun l => if l < L'.length then φ0 l else if l = L'.length then id.bind φ else none
    let N' : Nat → Prop := NL N1 φ (hide L'.length id s.lb)
    have hfar : ∀ l B v b, (l < L'.length ∨ id = some l) → s.lb l = some B → φ l = some v → vblock v = some b → ¬ N' b := by
      rintro l B v b hl hB hv hb (h | ⟨l', v', B', h1, h2, h3⟩)
      · obtain ⟨u, hu, _, hub⟩ := (R.lbl l B hB).place
        rw [hv] at hu
        obtain rfl := Option.some.inj hu
        exact (hub b hb).2.2 h
      · obtain ⟨g1, g2, g3⟩ := hhide l' B' h1
        refine R.disj l l' B B' v v' b (fun e => ?_) hB g3 hv h2 hb h3
        subst e
        rcases hl with hl | hl
        · exact g1 hl
        · exact g2 hl
    have hφlow : ∀ l v, l < L'.length → φ l = some v → φ' l = some v := by
      intro l v hl hv
      obtain ⟨_, u, _, _, _, h1, h2⟩ := hkept l hl
      rw [hv] at h2
      obtain rfl := Option.some.inj h2
      show (if l < L'.length then _ else _) = _
      rw [if_pos hl, h1]
    have hout : ∀ x v, Rep w' φ N1 x v → Rep w' φ' N' (outG L'.length id s.lb x) v := by
      intro x v hx
      have hs : Rep w' φ' N' (snap (hide L'.length id s.lb) 6 x) v := (snap_ok (base := 0) (fun l B h => R.lbl l B (hhide l B h).2.2) 6 x v hx).mono (φ := fun _ => none) (fun _ _ _ _ h => h) (fun _ _ h => by cases h) (fun _ h => h)
      unfold outG
      split
      · rename_i l i
        split
        · rename_i hli
          obtain rfl := Nat.eq_of_beq_eq_true hli
          cases hx with
          | own _ _ hφ h1 =>
            refine .own _ v ?_ h1
            show (if L'.length < L'.length then _ else _) = _
            rw [if_neg (Nat.lt_irrefl _), if_pos rfl]
            exact hφ
        · exact hs
      · exact hs
    obtain ⟨l, v, h1, h2, h3⟩ := ret_run hT R hq hout
    rw [h1.2.2] at h3
    refine ⟨v, h2, v, φ', N', rfl, ⟨R.bel.os, R.bel.tape, R.bel.output, R.bel.size, fun k hk hn => R.bel.block k hk (fun h => hn (by obtain ⟨l, v, a, b, c⟩ := hPB k h; exact ⟨l, v, a, b, c⟩))⟩, ?_, fun l hl => if_pos hl, fun l hl => ?_, fun l B hB => ?_, fun B hB => ?_, fun hnone => ?_, h3⟩
    · rintro b (hb | ⟨l, v, B, g1, g2, g3⟩)
      · rcases R.nb b hb with h | h
        · exact .inl h
        · exact .inr ⟨h, R.low b hb⟩
      · obtain ⟨k1, k2, k3⟩ := hhide l B g1
        obtain ⟨u, hu, _, hub⟩ := (R.lbl l B k3).place
        rw [g2] at hu
        obtain rfl := Option.some.inj hu
        exact .inr ⟨hnew l B v b k1 k3 g2 g3, (hub b g3).2.1⟩
    · show (if l < L'.length then _ else _) = _
      rw [if_neg (by omega), if_neg (by omega)]
    · have hl' := getElem?_lt hB
      obtain ⟨B', v', e1, e2, e3, e4, e5⟩ := hkept l hl'
      rw [hB] at e1
      obtain rfl := Option.some.inj e1
      exact (R.lbl l B e2).conv e3 ((hφlow l v' hl' e5).trans e5.symm) (fun u b hu hb => hfar l B u b (.inl hl') e2 hu hb) (fun b hb => .inl hb)
    · subst hB
      cases id with
      | none => exact hnk.elim
      | some i =>
        obtain ⟨e1, e2, e3⟩ := hnk
        have e3 := Nat.le_of_ble_eq_true e3
        have hφk : φ' L'.length = φ i := by
          show (if L'.length < L'.length then _ else _) = _
          rw [if_neg (Nat.lt_irrefl _), if_pos rfl]
          rfl
        refine ⟨(R.lbl i B e1).conv e2 hφk (fun u b hu hb => hfar i B u b (.inr rfl) e1 hu hb) (fun b hb => .inl hb), fun u b hu hb => ?_⟩
        rw [hφk] at hu
        exact hnew i B u b (by omega) e1 hu hb
    · subst hnone
      cases id with
      | none =>
        show (if L'.length < L'.length then _ else _) = _
        rw [if_neg (Nat.lt_irrefl _), if_pos rfl]
        rfl
      | some i => exact hnk.elim
  cases e with
  | normal => exact hend hq
  | ret => exact hend hq
  | _ => exact hq.elim
end
end Go.Proofs.YtfemklaeonkidaaV

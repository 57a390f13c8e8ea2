import Derived.Test.YtfemklaeonkidaaVcR6
/- What the evaluator says of the model: append, what a callee sees. -/
namespace Go.Proofs.YtfemklaeonkidaaV
open Go Go.RowKit
set_option linter.unusedVariables false
set_option linter.unusedSimpArgs false

section
variable {P : Program} {tt : TypeId → Option TI} (hT : TOk P tt) {w : World} {φ : Nat → Option Value} {N : Nat → Prop} {base : Nat} {lb : Nat → Option LB}

theorem one_rows {l : List AV} {vs : List Value} (h1 : allOne l = true) (hl : vs.length = l.length) (h : ∀ i x, l[i]? = some x → Rep w φ N x (vs.getD i undef)) : ∀ u ∈ vs, u.oneCell' = true := by
  intro u hu
  obtain ⟨i, hi, rfl⟩ := List.getElem_of_mem hu
  have := (h i l[i] (List.getElem?_eq_getElem (by omega))).one (allOne_mem h1 _ (List.getElem_mem _))
  simpa [List.getD_eq_getElem?_getD, hi] using this

/-- A slice's rows: where they lie. -/
theorem news_ok (hL : ∀ l B, lb l = some B → Holds w φ N base l B) {y : AV} {vy : Value} (hy : Rep w φ N y vy) {sz : Nat} {rows : List (List AV)} (hpos : 0 < rows.length)
    (h : newsOf lb y = some (sz, rows)) :
    (∀ r ∈ rows, r.length = sz) ∧ ∃ (a : Addr) (c : Nat) (news : List Value), vy = .slice (some a) rows.length c ∧ news.length = rows.length * sz ∧ (∀ j u, news[j]? = some u → w.cell? (a.add j) = some u) ∧ (∀ i x, rows.flatten[i]? = some x → Rep w φ N x (news.getD i undef)) := by
  unfold newsOf at h
  cases hy with
  | slnil sz' =>
    simp only [Option.some.injEq, Prod.mk.injEq] at h
    obtain ⟨rfl, rfl⟩ := h
    simp at hpos
  | sl sz' rows' b o c cell hc hN hsz hw hr =>
    simp only [Option.some.injEq, Prod.mk.injEq] at h
    obtain ⟨rfl, rfl⟩ := h
    have hfl := flat_len _ _ hsz
    refine ⟨hsz, ⟨b, o, none⟩, c, (List.range (rows'.length * sz')).map cell, rfl, by simp, fun j u hu => ?_, fun i x hx => ?_⟩
    · have hj := getElem?_lt hu
      simp at hj
      rw [List.getElem?_map, List.getElem?_range hj] at hu
      obtain rfl := Option.some.inj hu
      rw [addr_add]
      exact hw j (by omega)
    · have hi := getElem?_lt hx
      have : ((List.range (rows'.length * sz')).map cell).getD i undef = cell i := by
        rw [List.getD_eq_getElem?_getD, List.getElem?_map, List.getElem?_range (by omega)]
        rfl
      rw [this]
      exact hr i x hx
  | own l v hφ h1 =>
    simp only at h
    split at h
    · rename_i e sz' rows' hl
      simp only [Option.some.injEq, Prod.mk.injEq] at h
      obtain ⟨rfl, rfl⟩ := h
      obtain ⟨v', xs, hφ', h1', ho, hs, hr, hNb⟩ := hL _ _ hl
      rw [hφ] at hφ'
      obtain rfl := Option.some.inj hφ'
      rcases ho.2 with ⟨_, hz⟩ | ⟨g, cap, cur, rfl, hb, hg, hnc, hcm, hcs, htake⟩
      · omega
      · exact ⟨hs, ⟨g, 0, none⟩, cap, xs, rfl, ho.1, ho.cells (g := g) rfl, hr⟩
    · cases h
  | _ => simp at h

theorem own_slice {l e sz : Nat} {rows : List (List AV)} (h : Holds w φ N base l (.row e sz rows)) : ∃ v, φ l = some v ∧ vblock v = v.ownBlock := by
  obtain ⟨v, xs, hφ, h1, ho, _⟩ := h
  rcases ho.2 with ⟨rfl, _⟩ | ⟨g, cap, cur, rfl, _⟩
  · exact ⟨_, hφ, rfl⟩
  · exact ⟨_, hφ, rfl⟩

include hT
theorem aappend_ok (hL : ∀ l B, lb l = some B → Holds w φ N base l B) (hN : ∀ b, N b → b < w.heap.size) (hbase : base ≤ w.heap.size) {t ty : TypeId} {x y : AV} {vx vy : Value} {p : Prop} {l : Option Nat} {B : LB} (h : aappend tt lb t x y = .grow p l B) (hp : p) (hx : Rep w φ N x vx) (hy : Rep w φ N y vy) :
    ∃ v' w' row, (Builtin.append_ #[t, t] ty #[vx, vy]).run P w = .ok v' w' ∧ w.grownBy w' row ∧ (∀ b, row = some b → base ≤ b ∧ b < w.heap.size ∧ ¬ N b) ∧ (∀ k, φ k = none → Holds w' (upd φ k v') N base k B ∧ Rep w' (upd φ k v') N (.own k) v') ∧
      ((l = none ∧ row = none) ∨ ∃ l0 v0, l = some l0 ∧ (∃ B0, lb l0 = some B0) ∧ φ l0 = some v0 ∧ vblock v0 = row) ∧ (vblock v' = row ∨ vblock v' = some w.heap.size) := by
  unfold aappend at h
  split at h
  · cases h
  · rename_i e ei hS
    obtain ⟨hu, he⟩ := tSlice_ok hT hS
    obtain ⟨_, info, z, i1, i2, i3, i4, i5, i6, i7, i8, _⟩ := hT e ei he
    have hzs : z.cells.size = ei.size := by
      rw [← i7, ← i5]
      simp
    split at h
    · cases h
    · rename_i sz rows hnews
      have key : ∀ (v : Value) (n : Nat) (xs : List Value) (rows' : List (List AV)), w.ownsRow base e ei.size v n xs → n = rows'.length → (∀ r ∈ rows', r.length = ei.size) → (∀ i x, rows'.flatten[i]? = some x → Rep w φ N x (xs.getD i undef)) → (∀ b, v.ownBlock = some b → ¬ N b) → sz = ei.size → 0 < ei.size → 0 < rows.length → allOne rows.flatten = true → (n + rows.length) * ei.bytes ≤ 140737488355328 → n + rows.length ≤ 9223372036854775807 →
          ∃ v' w', (Builtin.append_ #[t, t] ty #[v, vy]).run P w = .ok v' w' ∧ w.grownBy w' v.ownBlock ∧ (∀ b, v.ownBlock = some b → base ≤ b ∧ b < w.heap.size ∧ ¬ N b) ∧ (∀ k, φ k = none → Holds w' (upd φ k v') N base k (.row e ei.size (rows' ++ rows)) ∧ Rep w' (upd φ k v') N (.own k) v') ∧ (vblock v' = v.ownBlock ∨ vblock v' = some w.heap.size) := by
        intro v n xs rows' hown hn hs' hr' hNb hsz hpos hm ho1 hby h63
        subst hn hsz
        obtain ⟨hs, a, c, news, rfl, hl, hc, hr⟩ := news_ok hL hy hm hnews
        have hone := one_rows ho1 (by rw [flat_len _ _ hs, hl]) hr
        obtain ⟨v', w', hrun, hown', hgr, hnil⟩ := run_append_own (P := P) w base t ty e info z ei.size ei.bytes hu i1 i4 i2 i3 hzs hpos v rows'.length xs hown a rows.length c news hl hc hone (by simp only [maxLen]; exact h63) hby hbase
        have hblk : v'.ownBlock = v.ownBlock ∨ v'.ownBlock = some w.heap.size := by
          have hl' : news.length = rows.length * info.size := by rw [hl, i2]
          rcases hown.2 with ⟨rfl, h0⟩ | ⟨g, cap, cur, rfl, hbg, hg, hnc, hcm, hcs, htake⟩
          · have hr2 := run_append_nil (P := P) w t ty e info z hu i1 i4 a rows.length c news hl' hc hm (by omega) (by rw [i3]; have : (0 + rows.length) * ei.bytes ≤ (rows'.length + rows.length) * ei.bytes := Nat.mul_le_mul_right _ (by omega); rw [Nat.zero_add] at this; omega)
            rw [hr2] at hrun
            simp only [Result.ok.injEq] at hrun
            right
            rw [← hrun.1]
            rfl
          · by_cases hroom : rows'.length + rows.length ≤ cap
            · have hfit : rows'.length * info.size + news.length ≤ cur.size := by rw [hl, hcs, i2, ← Nat.add_mul]; exact Nat.mul_le_mul_right _ hroom
              have hr2 := run_append_room (P := P) w t ty e info hu i1 g rows'.length cap cur hg a rows.length c news hl' hc hone hroom hfit
              rw [hr2] at hrun
              simp only [Result.ok.injEq] at hrun
              left
              rw [← hrun.1]
              rfl
            · have hr2 := run_append_grow (P := P) w t ty e info z hu i1 i4 ⟨g, 0, none⟩ rows'.length cap xs (by rw [i2]; exact hown.1) (hown.cells (g := g) rfl) a rows.length c news hl' hc (by omega) (by omega) (growslice_fits (by omega) (by rw [i3]; exact hby))
              rw [hr2] at hrun
              simp only [Result.ok.injEq] at hrun
              right
              rw [← hrun.1]
              rfl
        have hrow : ∀ b, v.ownBlock = some b → base ≤ b ∧ b < w.heap.size ∧ ¬ N b := fun b hb => ⟨(hown.lt b hb).1, (hown.lt b hb).2, hNb b hb⟩
        have hmono : ∀ (φ' : Nat → Option Value), (∀ k u, φ k = some u → φ' k = some u) → ∀ {x : AV} {v : Value}, Rep w φ N x v → Rep w' φ' N x v := by
          intro φ' hφ' x u hx
          exact hx.mono (fun b o v' hb hc' => (World.cell?_of_block (w := w) (w' := w') (a := ⟨b, o, none⟩) (hgr.block b (hN b hb) (by
            intro e'
            exact (hrow b e'.symm).2.2 hb))).trans hc') hφ' (fun _ h => h)
        have hv1 : v'.oneCell' = true ∧ vblock v' = v'.ownBlock := by
          rcases hown'.2 with ⟨rfl, _⟩ | ⟨g, cap, cur, rfl, _⟩
          · exact ⟨rfl, rfl⟩
          · exact ⟨rfl, rfl⟩
        refine ⟨v', w', hrun, hgr, hrow, fun k hk => ⟨⟨v', xs ++ news, upd_same, hv1.1, by rw [List.length_append]; exact hown', ?_, fun i x hx => ?_, fun b hb => ?_⟩, .own k v' upd_same hv1.1⟩, by rw [hv1.2]; exact hblk⟩
        · intro r hr2
          rcases List.mem_append.1 hr2 with h | h
          · exact hs' r h
          · exact hs r h
        · rw [List.flatten_append, List.getElem?_append] at hx
          have hfl' := flat_len _ _ hs'
          rw [List.getD_eq_getElem?_getD, List.getElem?_append, hown.1, ← hfl']
          split at hx
          · rename_i hlt
            rw [if_pos hlt]
            have := hmono (upd φ k v') (upd_ext hk) (hr' i x hx)
            rwa [List.getD_eq_getElem?_getD] at this
          · rename_i hlt
            rw [if_neg hlt]
            have := hmono (upd φ k v') (upd_ext hk) (hr _ x hx)
            rwa [List.getD_eq_getElem?_getD] at this
        · rcases hblk with h | h
          · rw [h] at hb
            exact hNb b hb
          · rw [h] at hb
            obtain rfl := Option.some.inj hb
            exact fun hn => Nat.lt_irrefl _ (hN _ hn)
      split at h
      · have e := hx.of_raw
        subst e
        simp only [Out.grow.injEq] at h
        obtain ⟨rfl, rfl, rfl⟩ := h
        obtain ⟨p1, p2, p3, p4, p5, p6⟩ := hp
        obtain ⟨v', w', h1, h2, h3, h4, h5⟩ := key (.slice none 0 0) 0 [] [] (World.ownsRow_nil w base e ei.size) rfl (by simp) (by simp) (by intro b hb; cases hb) p1 p2 p3 p4 (by rw [Nat.zero_add]; exact p5) (by omega)
        exact ⟨v', w', none, h1, h2, (by intro b hb; cases hb), by simpa using h4, .inl ⟨rfl, rfl⟩, h5⟩
      · rename_i l0
        split at h
        · rename_i e' sz' rows' hl
          simp only [Out.grow.injEq] at h
          obtain ⟨rfl, rfl, rfl⟩ := h
          obtain ⟨p1, rfl, rfl, p2, p3, p4, p5, p6⟩ := hp
          cases hx with
          | own _ v hφ h1 =>
            obtain ⟨v', xs, hφ', h1', ho, hs, hr, hNb⟩ := hL _ _ hl
            rw [hφ] at hφ'
            obtain rfl := Option.some.inj hφ'
            obtain ⟨v2, w', h1, h2, h3, h4, h5⟩ := key vx _ xs rows' ho rfl hs hr hNb p1 p2 p3 p4 p5 p6
            obtain ⟨v3, hv3, hv4⟩ := own_slice (hL _ _ hl)
            rw [hφ] at hv3
            obtain rfl := Option.some.inj hv3
            exact ⟨v2, w', _, h1, h2, h3, h4, .inr ⟨l0, _, rfl, ⟨_, hl⟩, hφ, hv4⟩, h5⟩
        · cases h
      · cases h
end

theorem allFree_mem {l : List AV} (h : allFree l = true) : ∀ x ∈ l, x.free = true := by
  induction l with
  | nil => intro x hx; cases hx
  | cons a r ih =>
    rw [allFree, Bool.and_eq_true] at h
    intro x hx
    rcases List.mem_cons.1 hx with rfl | hx
    · exact h.1
    · exact ih h.2 x hx
theorem rowsFree_mem {l : List (List AV)} (h : rowsFree l = true) : ∀ x ∈ l.flatten, x.free = true := by
  induction l with
  | nil => intro x hx; simp at hx
  | cons a r ih =>
    rw [rowsFree, Bool.and_eq_true] at h
    intro x hx
    rw [List.flatten_cons] at hx
    rcases List.mem_append.1 hx with hx | hx
    · exact allFree_mem h.1 x hx
    · exact ih h.2 x hx
theorem allPure_mem {l : List AV} (h : allPure l = true) : ∀ x ∈ l, x.pure = true := by
  induction l with
  | nil => intro x hx; cases hx
  | cons a r ih =>
    rw [allPure, Bool.and_eq_true] at h
    intro x hx
    rcases List.mem_cons.1 hx with rfl | hx
    · exact h.1
    · exact ih h.2 x hx

/-- What has no labels does not hang on them. -/
theorem Rep.free {w : World} {φ φ' : Nat → Option Value} {N : Nat → Prop} {x : AV} {v : Value} (h : Rep w φ N x v) (hf : x.free = true) : Rep w φ' N x v := by
  induction h with
  | any v => exact .any v
  | raw v => exact .raw v
  | agg l vs hl _ ih => exact .agg l vs hl fun i x hx => ih i x hx (allFree_mem (by simpa [AV.free] using hf) x (List.mem_of_getElem? hx))
  | tup l vs hl _ ih => exact .tup l vs hl fun i x hx => ih i x hx (allFree_mem (by simpa [AV.free] using hf) x (List.mem_of_getElem? hx))
  | fn f caps vs hl _ ih => exact .fn f caps vs hl fun i x hx => ih i x hx (allFree_mem (by simpa [AV.free] using hf) x (List.mem_of_getElem? hx))
  | iface t x v _ ih => exact .iface t x v (ih (by simpa [AV.free] using hf))
  | slnil sz => exact .slnil sz
  | sl sz rows b o c cell hc hb hsz hc' _ ih => exact .sl sz rows b o c cell hc hb hsz hc' fun i x hx => ih i x hx (rowsFree_mem (by simpa [AV.free] using hf) x (List.mem_of_getElem? hx))
  | box cells off b o cell hb hc' _ ih => exact .box cells off b o cell hb hc' fun i x hx => ih i x hx (allFree_mem (by simpa [AV.free] using hf) x (List.mem_of_getElem? hx))
  | _ => simp [AV.free] at hf

/-- What has no memory does not hang on it. -/
theorem Rep.pure {w w' : World} {φ φ' : Nat → Option Value} {N N' : Nat → Prop} {x : AV} {v : Value} (h : Rep w φ N x v) (hf : x.pure = true) : Rep w' φ' N' x v := by
  induction h with
  | raw v => exact .raw v
  | agg l vs hl _ ih => exact .agg l vs hl fun i x hx => ih i x hx (allPure_mem (by simpa [AV.pure] using hf) x (List.mem_of_getElem? hx))
  | tup l vs hl _ ih => exact .tup l vs hl fun i x hx => ih i x hx (allPure_mem (by simpa [AV.pure] using hf) x (List.mem_of_getElem? hx))
  | _ => simp [AV.pure] at hf

/-- Blocks that contents lie in: also those of labels. -/
def NL (N : Nat → Prop) (φ : Nat → Option Value) (lb : Nat → Option LB) : Nat → Prop := fun b => N b ∨ ∃ l v B, lb l = some B ∧ φ l = some v ∧ vblock v = some b

theorem snap_free {w : World} {φ : Nat → Option Value} {N : Nat → Prop} {lb : Nat → Option LB} : ∀ (fuel : Nat) (x : AV) (v : Value), Rep w φ N x v → x.free = true → Rep w (fun _ => none) N (snap lb fuel x) v
  | 0, x, v, _, _ => .any v
  | fuel + 1, x, v, h, hf => by
    have hmap : ∀ (l : List AV) (vs : Array Value), allFree l = true → (∀ i y, l[i]? = some y → Rep w φ N y (vs.getD i undef)) → ∀ i y, (l.map (snap lb fuel))[i]? = some y → Rep w (fun _ => none) N y (vs.getD i undef) := by
      intro l vs hl hr i y hy
      rw [List.getElem?_map] at hy
      cases hc : l[i]? with
      | none => rw [hc] at hy; cases hy
      | some z =>
        rw [hc] at hy
        obtain rfl := Option.some.inj hy
        exact snap_free fuel z _ (hr i z hc) (allFree_mem hl z (List.mem_of_getElem? hc))
    cases h with
    | agg l vs hl hr =>
      simp only [snap]
      exact .agg _ vs (by simpa using hl) (hmap l vs (by simpa [AV.free] using hf) hr)
    | tup l vs hl hr =>
      simp only [snap]
      exact .tup _ vs (by simpa using hl) (hmap l vs (by simpa [AV.free] using hf) hr)
    | fn f caps vs hl hr =>
      simp only [snap]
      exact .fn f _ vs (by simpa using hl) (hmap caps vs (by simpa [AV.free] using hf) hr)
    | raw v =>
      show Rep w _ N (if (AV.raw v).free = true then .raw v else .any) v
      rw [if_pos hf]
      exact .raw v
    | any v =>
      show Rep w _ N (if AV.any.free = true then .any else .any) v
      rw [if_pos hf]
      exact .any v
    | slnil sz =>
      show Rep w _ N (if (AV.sl sz []).free = true then .sl sz [] else .any) _
      rw [if_pos hf]
      exact .slnil sz
    | sl sz rows b o c cell hc hN hsz hw hr =>
      show Rep w _ N (if (AV.sl sz rows).free = true then .sl sz rows else .any) _
      rw [if_pos hf]
      exact (Rep.sl sz rows b o c cell hc hN hsz hw hr).free hf
    | box cells off b o cell hN hw hr =>
      show Rep w _ N (if (AV.box cells off).free = true then .box cells off else .any) _
      rw [if_pos hf]
      exact (Rep.box cells off b o cell hN hw hr).free hf
    | iface t x v hx =>
      show Rep w _ N (if (AV.iface t x).free = true then .iface t x else .any) _
      rw [if_pos hf]
      exact (Rep.iface t x v hx).free hf
    | _ => simp [AV.free] at hf

section
variable {w : World} {φ : Nat → Option Value} {N : Nat → Prop} {base : Nat} {lb : Nat → Option LB}
theorem snap_ok (hL : ∀ l B, lb l = some B → Holds w φ N base l B) : ∀ (fuel : Nat) (x : AV) (v : Value), Rep w φ N x v → Rep w (fun _ => none) (NL N φ lb) (snap lb fuel x) v
  | 0, x, v, _ => .any v
  | fuel + 1, x, v, h => by
    have hmono : ∀ {x : AV} {v : Value}, Rep w φ N x v → x.free = true → Rep w (fun _ => none) (NL N φ lb) x v := fun h hf => ((h.mono (φ' := φ) (N' := NL N φ lb) (fun _ _ _ _ hc => hc) (fun _ _ h => h) (fun _ h => .inl h))).free hf
    have hdef : ∀ {x : AV} {v : Value}, Rep w φ N x v → Rep w (fun _ => none) (NL N φ lb) (if x.free = true then x else .any) v := by
      intro x v h
      split
      · rename_i hf; exact hmono h hf
      · exact .any v
    cases h with
    | loc l off b hφ =>
      simp only [snap]
      split
      · rename_i cells hl
        obtain ⟨b', ty, cs, hφ', hg, hs, hr, hb, hNb⟩ := hL _ _ hl
        rw [hφ] at hφ'
        simp only [Option.some.injEq, Value.pointer.injEq, Addr.mk.injEq, and_true] at hφ'
        subst hφ'
        have := Rep.box (w := w) (φ := fun _ => none) (N := NL N φ lb) (cells.map (snap lb fuel)) off b 0 (fun k => cs.getD k undef) (.inr ⟨l, _, _, hl, hφ, rfl⟩) (fun k hk => by
          simp at hk
          have hk' : k < cs.size := by omega
          simp [World.cell?, hg, Array.getD, hk']) (fun k x hx => by
          rw [List.getElem?_map] at hx
          cases hc : cells[k]? with
          | none => rw [hc] at hx; cases hx
          | some y =>
            rw [hc] at hx
            obtain rfl := Option.some.inj hx
            exact snap_ok hL fuel y _ (hr k y hc))
        simpa using this
      · exact .any _
    | own l v hφ h1 =>
      simp only [snap]
      split
      · rename_i e sz rows hl
        split
        · rename_i hf
          obtain ⟨v', xs, hφ', h1', ho, hs, hr, hNb⟩ := hL _ _ hl
          rw [hφ] at hφ'
          obtain rfl := Option.some.inj hφ'
          have hfl := flat_len _ _ hs
          rcases ho.2 with ⟨rfl, hz⟩ | ⟨g, cap, cur, rfl, hb, hg, hnc, hcm, hcs, htake⟩
          · obtain rfl : rows = [] := List.eq_nil_of_length_eq_zero hz
            exact .slnil sz
          · refine .sl sz rows g 0 cap (fun k => xs.getD k undef) hnc (.inr ⟨l, _, _, hl, hφ, rfl⟩) hs (fun k hk => ?_) (fun k x hx => ?_)
            · have hkl : k < xs.length := by rw [ho.1]; omega
              have := ho.cells (g := g) rfl k _ (List.getElem?_eq_getElem hkl)
              rw [addr_add] at this
              rw [this, List.getD_eq_getElem?_getD, List.getElem?_eq_getElem hkl]
              rfl
            · exact hmono (hr k x hx) (rowsFree_mem hf x (List.mem_of_getElem? hx))
        · exact .any _
      · exact .any _
    | lsl l off n sz b c hφ hc =>
      simp only [snap]
      split
      · rename_i cells hl
        split
        · rename_i hf
          simp only [Bool.and_eq_true] at hf
          obtain ⟨hf1, hf2⟩ := hf
          have hf1 := Nat.le_of_ble_eq_true hf1
          obtain ⟨b', ty, cs, hφ', hg, hs, hr, hb, hNb⟩ := hL _ _ hl
          rw [hφ] at hφ'
          simp only [Option.some.injEq, Value.pointer.injEq, Addr.mk.injEq, and_true] at hφ'
          subst hφ'
          obtain ⟨c1, c2, c3⟩ := cutRows_ok sz n (cells.drop off) (by simp; omega)
          have hfl := flat_len _ _ c2
          have := Rep.sl (w := w) (φ := fun _ => none) (N := NL N φ lb) sz (cutRows sz n (cells.drop off)) b off c (fun k => cs.getD (off + k) undef) (by omega) (.inr ⟨l, _, _, hl, hφ, rfl⟩) c2 (fun k hk => by
            have hk' : off + k < cs.size := by rw [hfl, c1] at hk; omega
            simp [World.cell?, hg, Array.getD, hk']) (fun k x hx => by
            rw [c3, List.getElem?_take] at hx
            split at hx
            · rw [List.getElem?_drop] at hx
              exact hmono (hr _ x hx) (allFree_mem hf2 x (List.mem_of_getElem? hx))
            · cases hx)
          rw [c1] at this
          exact this
        · exact .any _
      · exact .any _
    | osl l off n sz b m c' c hφ hc hc' =>
      simp only [snap]
      split
      · rename_i e sz' rows hl
        split
        · rename_i hf
          simp only [Bool.and_eq_true] at hf
          obtain ⟨hf0, hf1, hf2⟩ := hf
          obtain rfl := Nat.eq_of_beq_eq_true hf0
          have hf1 := Nat.le_of_ble_eq_true hf1
          obtain ⟨v', xs, hφ', h1', ho, hs, hr, hNb⟩ := hL _ _ hl
          rw [hφ] at hφ'
          obtain rfl := Option.some.inj hφ'
          have hfl := flat_len _ _ hs
          have hs' : ∀ r ∈ (rows.drop off).take n, r.length = sz' := fun r hr => hs r (List.mem_of_mem_drop (List.mem_of_mem_take hr))
          have hfl' := flat_len _ _ hs'
          have hlen : ((rows.drop off).take n).length = n := by simp; omega
          have hflat : ((rows.drop off).take n).flatten = (rows.flatten.drop (off * sz')).take (n * sz') := by
            rw [flatten_take sz' n (rows.drop off) (fun r hr => hs r (List.mem_of_mem_drop hr)) (by simp; omega), flatten_drop sz' off rows hs (by omega)]
          have := Rep.sl (w := w) (φ := fun _ => none) (N := NL N φ lb) sz' ((rows.drop off).take n) b (off * sz') c (fun k => xs.getD (off * sz' + k) undef) (by omega) (.inr ⟨l, _, _, hl, hφ, rfl⟩) hs' (fun k hk => ?_) (fun k x hx => ?_)
          · rw [hlen] at this
            exact this
          · have h2 : (off + n) * sz' ≤ rows.length * sz' := Nat.mul_le_mul_right _ hf1
            rw [Nat.add_mul] at h2
            rw [hfl', hlen] at hk
            have hkl : off * sz' + k < xs.length := by rw [ho.1]; rcases ho.2 with ⟨h, _⟩ | ⟨g, cap, cur, h, _⟩ <;> simp at h; omega
            rcases ho.2 with ⟨h, _⟩ | ⟨g, cap, cur, h, rest⟩
            · cases h
            · simp only [Value.slice.injEq, Option.some.injEq, Addr.mk.injEq, and_true] at h
              obtain ⟨rfl, rfl, rfl⟩ := h
              have := ho.cells (g := b) rfl (off * sz' + k) _ (List.getElem?_eq_getElem hkl)
              rw [addr_add, Nat.zero_add] at this
              rw [this, List.getD_eq_getElem?_getD, List.getElem?_eq_getElem hkl]
              rfl
          · rw [hflat, List.getElem?_take] at hx
            split at hx
            · rw [List.getElem?_drop] at hx
              refine hmono (hr _ x hx) (rowsFree_mem hf2 x ?_)
              rw [hflat]
              refine List.mem_of_getElem? (i := k) ?_
              rw [List.getElem?_take, if_pos (by assumption), List.getElem?_drop]
              exact hx
            · cases hx
        · exact .any _
      · exact .any _
    | fn f caps vs hl hr =>
      simp only [snap]
      refine .fn f _ vs (by simpa using hl) fun i x hx => ?_
      rw [List.getElem?_map] at hx
      cases hc : caps[i]? with
      | none => rw [hc] at hx; cases hx
      | some y =>
        rw [hc] at hx
        obtain rfl := Option.some.inj hx
        exact snap_ok hL fuel y _ (hr i y hc)
    | agg l' vs hl hr =>
      simp only [snap]
      refine .agg _ vs (by simpa using hl) fun i x hx => ?_
      rw [List.getElem?_map] at hx
      cases hc : l'[i]? with
      | none => rw [hc] at hx; cases hx
      | some y =>
        rw [hc] at hx
        obtain rfl := Option.some.inj hx
        exact snap_ok hL fuel y _ (hr i y hc)
    | tup l' vs hl hr =>
      simp only [snap]
      refine .tup _ vs (by simpa using hl) fun i x hx => ?_
      rw [List.getElem?_map] at hx
      cases hc : l'[i]? with
      | none => rw [hc] at hx; cases hx
      | some y =>
        rw [hc] at hx
        obtain rfl := Option.some.inj hx
        exact snap_ok hL fuel y _ (hr i y hc)
    | raw v => exact hdef (.raw v)
    | slnil sz => exact hdef (.slnil sz)
    | any v => exact hdef (.any v)
    | _ => exact hdef (by constructor <;> assumption)
end
end Go.Proofs.YtfemklaeonkidaaV

import Derived.Test.YtfemklaeonkidaaVcR3
/- What the evaluator says of the model: parts of slices; what makes memory, writes it, or calls. -/
namespace Go.Proofs.YtfemklaeonkidaaV
open Go Go.RowKit
set_option linter.unusedVariables false
set_option linter.unusedSimpArgs false

theorem getElem?_lt {α : Type} {l : List α} {i : Nat} {x : α} (h : l[i]? = some x) : i < l.length := by
  rcases Nat.lt_or_ge i l.length with h' | h'
  · exact h'
  · rw [List.getElem?_eq_none h'] at h; cases h

theorem flatten_drop {α : Type} (sz : Nat) : ∀ (n : Nat) (rows : List (List α)), (∀ r ∈ rows, r.length = sz) → n ≤ rows.length → (rows.drop n).flatten = rows.flatten.drop (n * sz)
  | 0, rows, _, _ => by simp
  | n + 1, [], _, h => by simp at h
  | n + 1, a :: rows, hs, h => by
    have ha := hs a (by simp)
    rw [List.drop_succ_cons, flatten_drop sz n rows (fun r hr => hs r (by simp [hr])) (by simpa using h), List.flatten_cons, List.drop_append, ha]
    have e1 : a.drop ((n + 1) * sz) = [] := List.drop_eq_nil_of_le (by rw [ha, Nat.add_mul]; omega)
    have e2 : (n + 1) * sz - sz = n * sz := by rw [Nat.add_mul]; omega
    rw [e1, e2, List.nil_append]

theorem flatten_take {α : Type} (sz : Nat) : ∀ (n : Nat) (rows : List (List α)), (∀ r ∈ rows, r.length = sz) → n ≤ rows.length → (rows.take n).flatten = rows.flatten.take (n * sz)
  | 0, rows, _, _ => by simp
  | n + 1, [], _, h => by simp at h
  | n + 1, a :: rows, hs, h => by
    have ha := hs a (by simp)
    rw [List.take_succ_cons, List.flatten_cons, flatten_take sz n rows (fun r hr => hs r (by simp [hr])) (by simpa using h), List.flatten_cons, List.take_append, ha]
    have e1 : a.take ((n + 1) * sz) = a := List.take_of_length_le (by rw [ha, Nat.add_mul]; omega)
    have e2 : (n + 1) * sz - sz = n * sz := by rw [Nat.add_mul]; omega
    rw [e1, e2]

theorem cutRows_ok (sz : Nat) : ∀ (n : Nat) (l : List AV), n * sz ≤ l.length → (cutRows sz n l).length = n ∧ (∀ r ∈ cutRows sz n l, r.length = sz) ∧ (cutRows sz n l).flatten = l.take (n * sz)
  | 0, l, _ => ⟨rfl, by simp [cutRows], by simp [cutRows]⟩
  | n + 1, l, h => by
    rw [Nat.add_mul] at h
    obtain ⟨h1, h2, h3⟩ := cutRows_ok sz n (l.drop sz) (by simp; omega)
    refine ⟨by simp [cutRows, h1], ?_, ?_⟩
    · intro r hr
      rw [cutRows] at hr
      rcases List.mem_cons.1 hr with rfl | hr
      · simp; omega
      · exact h2 r hr
    · rw [cutRows, List.flatten_cons, h3]
      rw [Nat.add_mul, Nat.one_mul, Nat.add_comm, List.take_add]

section
variable {P : Program} {tt : TypeId → Option TI} (hT : TOk P tt) {w : World} {φ : Nat → Option Value} {N : Nat → Prop} {base : Nat} {lb : Nat → Option LB} {ev : Operand → AV} {ρ : Operand → Value}
include hT

omit hT in
theorem sl_part {sz : Nat} {rows : List (List AV)} {b o c : Nat} {cell : Nat → Value} (hc : rows.length ≤ c) (hN : N b) (hsz : ∀ r ∈ rows, r.length = sz)
    (hw : ∀ k, k < rows.flatten.length → w.cell? ⟨b, o + k, none⟩ = some (cell k)) (hr : ∀ k x, rows.flatten[k]? = some x → Rep w φ N x (cell k)) {l h : Nat} (hl : l ≤ h) (hh : h ≤ rows.length) {c' : Nat} (hc' : h - l ≤ c') {o' : Nat} (ho : h = l ∨ o' = o + l * sz) :
    Rep w φ N (.sl sz ((rows.take h).drop l)) (.slice (some ⟨b, o', none⟩) (h - l) c') := by
  have hlen : ((rows.take h).drop l).length = h - l := by simp; omega
  have hs1 : ∀ r ∈ rows.take h, r.length = sz := fun r hr => hsz r (List.mem_of_mem_take hr)
  have hs2 : ∀ r ∈ (rows.take h).drop l, r.length = sz := fun r hr => hs1 r (List.mem_of_mem_drop hr)
  have hfl : ((rows.take h).drop l).flatten = (rows.flatten.take (h * sz)).drop (l * sz) := by
    rw [flatten_drop sz l _ hs1 (by simp; omega), flatten_take sz h rows hsz hh]
  have hfll := flat_len sz rows hsz
  have hle : h * sz ≤ rows.length * sz := Nat.mul_le_mul_right _ hh
  have hle2 : l * sz ≤ h * sz := Nat.mul_le_mul_right _ hl
  rw [← hlen]
  by_cases he : h = l
  · subst he
    have hnil : (rows.take h).drop h = [] := List.drop_eq_nil_of_le (by simp; omega)
    rw [hnil]
    exact .sl sz [] b o' c' cell (Nat.zero_le _) hN (by simp) (by simp) (by simp)
  · obtain rfl := ho.resolve_left he
    refine .sl sz _ b (o + l * sz) c' (fun k => cell (l * sz + k)) (by rw [hlen]; exact hc') hN hs2 (fun k hk => ?_) (fun k x hx => ?_)
    · rw [hfl] at hk
      simp only [List.length_drop, List.length_take] at hk
      rw [Nat.add_assoc]
      exact hw _ (by omega)
    · rw [hfl, List.getElem?_drop, List.getElem?_take] at hx
      split at hx
      · exact hr _ _ hx
      · cases hx

theorem tSlice_info {t e : TypeId} {ei : TI} (h : tSlice tt t = some (e, ei)) : P.underlying t = some (.slice e) ∧ ∃ info, P.info? e = some info ∧ info.size = ei.size := by
  obtain ⟨hu, he⟩ := tSlice_ok hT h
  obtain ⟨_, info, z, hin, hn, _⟩ := hT _ _ he
  exact ⟨hu, info, hin, hn⟩

omit hT in
theorem bnd_some {d : Int} {o : Option AV} {v : Option Value} {i : Int} (h : bnd d o = some i) (h1 : ∀ y, o = some y → ∃ u, v = some u ∧ Rep w φ N y u) (h2 : o = none → v = none) : (v = none ∧ i = d) ∨ ∃ k, v = some (.int k i) := by
  cases o with
  | none => exact .inl ⟨h2 rfl, (Option.some.inj h).symm⟩
  | some y =>
    obtain ⟨u, rfl, hu⟩ := h1 y rfl
    cases hu with
    | raw v =>
      unfold bnd at h
      split at h
      · rename_i e; cases e
      · rename_i k l e
        simp only [Option.some.injEq, AV.raw.injEq] at e
        subst e
        obtain rfl := Option.some.inj h
        exact .inr ⟨_, rfl⟩
      · cases h
    | _ => simp [bnd] at h
theorem apart_ok {l off n sz : Nat} {t e : TypeId} {ei : TI} {x : AV} {lo hi mx : Option AV} {p : Prop} {vlo vhi vmx : Option Value} {b m c c' : Nat} (h : apart l off n sz ei lo hi mx = .val p x) (hp : p) (hS : tSlice tt t = some (e, ei))
    (hφ : φ l = some (.slice (some ⟨b, 0, none⟩) m c')) (hc : n ≤ c) (hc' : off + c ≤ c')
    (hlo : ∀ y, lo = some y → ∃ v, vlo = some v ∧ Rep w φ N y v) (hhi : ∀ y, hi = some y → ∃ v, vhi = some v ∧ Rep w φ N y v) (hmx : ∀ y, mx = some y → ∃ v, vmx = some v ∧ Rep w φ N y v) (hmx' : mx = none → vmx = none) (hlo' : lo = none → vlo = none) (hhi' : hi = none → vhi = none) :
    ∃ v, (Instr.sliceAt t (.slice (some ⟨b, off * sz, none⟩) n c) vlo vhi vmx).run P w = .ok v w ∧ Rep w φ N x v := by
  obtain ⟨hu, info, hin, hn⟩ := tSlice_info hT hS
  unfold apart at h
  split at h
  · rename_i i j k e1 e2 e3
    have hform : (hi.isSome || mx.isNone) = true := by
      cases hh : (hi.isSome || mx.isNone) with
      | true => rfl
      | false => rw [hh, if_neg (by decide)] at h; cases h
    rw [hform, if_pos rfl] at h
    simp only [Out.val.injEq] at h
    obtain ⟨rfl, rfl⟩ := h
    obtain ⟨rfl, h0, h1, h2, h3⟩ := hp
    have hi0 : i = (i.toNat : Int) := by omega
    have hj0 : j = (j.toNat : Int) := by omega
    have hk0 : k = (k.toNat : Int) := by omega
    generalize i.toNat = i' at hi0
    generalize j.toNat = j' at hj0
    generalize k.toNat = k' at hk0
    subst hi0 hj0 hk0
    have a1 : i' < j' := by omega
    have a2 : j' ≤ k' := by omega
    have a3 : k' ≤ n := by omega
    have ej : ((j' : Int) - (i' : Int)).toNat = j' - i' := by omega
    rw [ej]
    have hoff : off * ei.size + i' * info.size = (off + i') * ei.size := by rw [hn, Nat.add_mul]
    have hcase : ∀ (cm : Nat), k' ≤ cm → cm ≤ c → Rep w φ N (.osl l (off + i') (j' - i') ei.size) (.slice (some ⟨b, off * ei.size + i' * info.size, none⟩) (j' - i') (cm - i')) := fun cm g1 g2 => by
      rw [hoff]
      exact Rep.osl l (off + i') (j' - i') ei.size b m c' (cm - i') hφ (by omega) (by omega)
    have hform' : ¬ (vhi = none ∧ ∃ k v, vmx = some (.int k v)) := by
      rintro ⟨rfl, k, v, rfl⟩
      cases hi with
      | some y => obtain ⟨_, h, _⟩ := hhi y rfl; cases h
      | none =>
        cases mx with
        | some y => simp at hform
        | none => have := hmx' rfl; cases this
    have hlen : (k' : Nat) ≤ c := by omega
    clear hform
    rcases bnd_some e1 hlo hlo' with ⟨rfl, q1⟩ | ⟨q1, rfl⟩ <;> rcases bnd_some e2 hhi hhi' with ⟨rfl, q2⟩ | ⟨q2, rfl⟩ <;> rcases bnd_some e3 hmx hmx' with ⟨rfl, q3⟩ | ⟨k3, rfl⟩
    all_goals
      first | (exfalso; exact hform' ⟨rfl, _, _, rfl⟩) | skip
    all_goals
      clear hform' hlo hlo' hhi hhi' hmx hmx' e1 e2 e3
      have f1 : i' ≤ j' := by omega
      have f2 : j' ≤ c := by omega
      have f3 : k' ≤ c := by omega
      have f4 : i' ≤ k' := by omega
      have f5 : i' ≤ n := by omega
      have f6 : i' ≤ c := by omega
      have b1 : ¬ c = i' := by omega
      have b2 : ¬ k' = i' := by omega
      first | (have q1 := Int.ofNat_inj.1 q1; subst q1) | skip
      first | (have q2 := Int.ofNat_inj.1 q2; subst q2) | skip
      first
      | (refine ⟨_, ?_, hcase c (by omega) (Nat.le_refl _)⟩
         simp [Instr.sliceAt, Instr.slice, run_underlying hu, Instr.sliceBounds, Instr.sliceBound, asIntOf, run_sizeOf' hin, addr_add, *]
         done)
      | (refine ⟨_, ?_, hcase k' (Nat.le_refl _) (by omega)⟩
         simp [Instr.sliceAt, Instr.slice, run_underlying hu, Instr.sliceBounds, Instr.sliceBound, asIntOf, run_sizeOf' hin, addr_add, *]
         done)
  · cases h
theorem aslice_ok (hL : ∀ l B, lb l = some B → Holds w φ N base l B) {t : TypeId} {a x : AV} {lo hi mx : Option AV} {p : Prop} {va : Value} {vlo vhi vmx : Option Value} (h : aslice tt lb t a lo hi mx = .val p x) (hp : p) (ha : Rep w φ N a va)
    (hlo : ∀ y, lo = some y → ∃ v, vlo = some v ∧ Rep w φ N y v) (hhi : ∀ y, hi = some y → ∃ v, vhi = some v ∧ Rep w φ N y v) (hmx2 : ∀ y, mx = some y → ∃ v, vmx = some v ∧ Rep w φ N y v) (hmx : mx = none → vmx = none) (hlo' : lo = none → vlo = none) (hhi' : hi = none → vhi = none) :
    ∃ v, (Instr.sliceAt t va vlo vhi vmx).run P w = .ok v w ∧ Rep w φ N x v := by
  unfold aslice at h
  split at h
  · rename_i sz rows
    split at h
    all_goals try (cases h; done)
    · rename_i e ei hS
      obtain ⟨hu, info, hin, hn⟩ := tSlice_info hT hS
      simp only [Out.val.injEq] at h
      obtain ⟨rfl, rfl⟩ := h
      have hm := hmx rfl
      subst hm
      have e1 := hlo' rfl
      have e2 := hhi' rfl
      subst e1 e2
      cases ha with
      | slnil => exact ⟨_, by simp [Instr.sliceAt, Instr.slice, run_underlying hu, Instr.sliceBounds, run_sizeOf' hin], .slnil _⟩
      | sl _ rows b o c cell hc hN hsz hw hr =>
        refine ⟨_, ?_, Rep.sl sz rows b o c cell hc hN hsz hw hr⟩
        simp [Instr.sliceAt, Instr.slice, run_underlying hu, Instr.sliceBounds, run_sizeOf' hin, addr_add]
    · rename_i e ei kl l hS
      obtain ⟨hu, info, hin, hn⟩ := tSlice_info hT hS
      simp only [Out.val.injEq] at h
      obtain ⟨rfl, rfl⟩ := h
      have hm := hmx rfl
      subst hm
      have e2 := hhi' rfl
      obtain ⟨v, rfl, hv⟩ := hlo _ rfl
      have e := hv.of_raw
      subst e e2
      obtain ⟨rfl, h0, h1⟩ := hp
      cases ha with
      | slnil =>
        simp only [List.length_nil] at h1
        obtain rfl : l = 0 := by omega
        exact ⟨.slice none 0 0, by simp [Instr.sliceAt, Instr.slice, run_underlying hu, Instr.sliceBounds, Instr.sliceBound, asIntOf, run_sizeOf' hin], by simpa using Rep.slnil _⟩
      | sl _ rows b o c cell hc hN hsz hw hr =>
        have hd : rows.drop l.toNat = (rows.take rows.length).drop l.toNat := by simp
        rw [hd]
        by_cases hcl : c = l.toNat
        · refine ⟨.slice (some ⟨b, o, none⟩) (rows.length - l.toNat) (c - l.toNat), ?_, sl_part hc hN hsz hw hr (by omega) (Nat.le_refl _) (by omega) (.inl (by omega))⟩
          simp [Instr.sliceAt, Instr.slice, run_underlying hu, Instr.sliceBounds, Instr.sliceBound, asIntOf, run_sizeOf' hin, addr_add, h0, h1, hcl]
        · refine ⟨.slice (some ⟨b, o + l.toNat * info.size, none⟩) (rows.length - l.toNat) (c - l.toNat), ?_, sl_part hc hN hsz hw hr (by omega) (Nat.le_refl _) (by omega) (.inr (by rw [hn]))⟩
          simp [Instr.sliceAt, Instr.slice, run_underlying hu, Instr.sliceBounds, Instr.sliceBound, asIntOf, run_sizeOf' hin, addr_add, h0, h1, hcl]
    · rename_i e ei kl l hS
      obtain ⟨hu, info, hin, hn⟩ := tSlice_info hT hS
      simp only [Out.val.injEq] at h
      obtain ⟨rfl, rfl⟩ := h
      have hm := hmx rfl
      subst hm
      have e2 := hlo' rfl
      obtain ⟨v, rfl, hv⟩ := hhi _ rfl
      have e := hv.of_raw
      subst e e2
      obtain ⟨rfl, h0, h1⟩ := hp
      cases ha with
      | slnil =>
        simp only [List.length_nil] at h1
        obtain rfl : l = 0 := by omega
        exact ⟨.slice none 0 0, by simp [Instr.sliceAt, Instr.slice, run_underlying hu, Instr.sliceBounds, Instr.sliceBound, asIntOf, run_sizeOf' hin], by simpa using Rep.slnil _⟩
      | sl _ rows b o c cell hc hN hsz hw hr =>
        have hd : rows.take l.toNat = (rows.take l.toNat).drop 0 := by simp
        rw [hd]
        refine ⟨.slice (some ⟨b, o, none⟩) (l.toNat - 0) c, ?_, ?_⟩
        · simp [Instr.sliceAt, Instr.slice, run_underlying hu, Instr.sliceBounds, Instr.sliceBound, asIntOf, run_sizeOf' hin, addr_add, h0, show l ≤ (c : Int) by omega]
        · exact sl_part hc hN hsz hw hr (Nat.zero_le _) (by omega) (by omega) (.inr (by simp))
    · rename_i e ei kl l kh h' hS
      obtain ⟨hu, info, hin, hn⟩ := tSlice_info hT hS
      simp only [Out.val.injEq] at h
      obtain ⟨rfl, rfl⟩ := h
      have hm := hmx rfl
      subst hm
      obtain ⟨v, rfl, hv⟩ := hlo _ rfl
      have e := hv.of_raw
      subst e
      obtain ⟨v, rfl, hv⟩ := hhi _ rfl
      have e := hv.of_raw
      subst e
      obtain ⟨rfl, h0, h1, h2⟩ := hp
      cases ha with
      | slnil =>
        simp only [List.length_nil] at h2
        obtain rfl : l = 0 := by omega
        obtain rfl : h' = 0 := by omega
        exact ⟨.slice none 0 0, by simp [Instr.sliceAt, Instr.slice, run_underlying hu, Instr.sliceBounds, Instr.sliceBound, asIntOf, run_sizeOf' hin], by simpa using Rep.slnil _⟩
      | sl _ rows b o c cell hc hN hsz hw hr =>
        have hh0 : 0 ≤ h' := by omega
        have hhc : h' ≤ (c : Int) := by omega
        have hlh : l ≤ (h'.toNat : Int) := by omega
        have hlm : l ≤ max h' 0 := by omega
        by_cases hcl : c = l.toNat
        · refine ⟨.slice (some ⟨b, o, none⟩) (h'.toNat - l.toNat) (c - l.toNat), ?_, sl_part hc hN hsz hw hr (by omega) (by omega) (by omega) (.inl (by omega))⟩
          simp [Instr.sliceAt, Instr.slice, run_underlying hu, Instr.sliceBounds, Instr.sliceBound, asIntOf, run_sizeOf' hin, addr_add, h0, hh0, hhc, hlh, hcl, hlm, show h' ≤ max l 0 by omega]
        · refine ⟨.slice (some ⟨b, o + l.toNat * info.size, none⟩) (h'.toNat - l.toNat) (c - l.toNat), ?_, sl_part hc hN hsz hw hr (by omega) (by omega) (by omega) (.inr (by rw [hn]))⟩
          simp [Instr.sliceAt, Instr.slice, run_underlying hu, Instr.sliceBounds, Instr.sliceBound, asIntOf, run_sizeOf' hin, addr_add, h0, hh0, hhc, hlh, hcl, hlm]
  · rename_i l
    split at h
    · rename_i e ei e' sz rows hS hl
      cases ha with
      | own l v hφ h1 =>
        obtain ⟨v', xs, hφ', _, ho, _⟩ := hL l _ hl
        rw [hφ] at hφ'
        obtain rfl := Option.some.inj hφ'
        rcases ho.2 with ⟨rfl, hz⟩ | ⟨g, cap, cur, rfl, hb, hg, hnc, hcm, hcs, htake⟩
        · exfalso
          unfold apart at h
          split at h
          · split at h
            · simp only [Out.val.injEq] at h
              obtain ⟨rfl, _⟩ := h
              rw [hz] at hp
              omega
            · cases h
          · cases h
        · have := apart_ok (w := w) (N := N) hT h hp hS hφ hnc (by omega) hlo hhi hmx2 hmx hlo' hhi'
          rwa [Nat.zero_mul] at this
    · cases h
  · rename_i l off n sz
    split at h
    · rename_i e ei hS
      cases ha with
      | osl _ _ _ _ b m c' c hφ hc hc' => exact apart_ok (w := w) (N := N) hT h hp hS hφ hc hc' hlo hhi hmx2 hmx hlo' hhi'
    · cases h
  · rename_i l off
    split at h
    all_goals try (cases h; done)
    · rename_i n a m hA
      obtain ⟨e, hu, hs⟩ := tArr_ok hT hA
      obtain ⟨d, hd, _, ⟨info, hin, hn⟩, _⟩ := tSize_ok hT hs
      simp only [Out.val.injEq] at h
      obtain ⟨rfl, rfl⟩ := h
      have hm := hmx rfl
      have e1 := hlo' rfl
      have e2 := hhi' rfl
      subst hm e1 e2
      cases ha with
      | loc l off b hφ =>
        refine ⟨_, ?_, Rep.lsl l off n m b n hφ (Nat.le_refl _)⟩
        simp [Instr.sliceAt, Instr.sureAddr, run_underlying hu, Instr.sliceBounds, run_sizeOf' hin, addr_add]
    · rename_i n a m k lo' hA
      obtain ⟨e, hu, hs⟩ := tArr_ok hT hA
      obtain ⟨d, hd, _, ⟨info, hin, hn⟩, _⟩ := tSize_ok hT hs
      simp only [Out.val.injEq] at h
      obtain ⟨rfl, rfl⟩ := h
      have hm := hmx rfl
      obtain ⟨v, rfl, hv⟩ := hlo _ rfl
      have e1 := hv.of_raw
      have e2 := hhi' rfl
      subst hm e1 e2
      obtain ⟨h0, h1⟩ := hp
      cases ha with
      | loc l off b hφ =>
        refine ⟨_, ?_, Rep.lsl l (off + lo'.toNat * m) (n - lo'.toNat) m b (n - lo'.toNat) hφ (Nat.le_refl _)⟩
        have : ¬ n = lo'.toNat := by omega
        simp [Instr.sliceAt, Instr.sureAddr, run_underlying hu, Instr.sliceBounds, Instr.sliceBound, asIntOf, run_sizeOf' hin, addr_add, h0, show lo' ≤ (n : Int) by omega, this, hn]
  · cases h
end
end Go.Proofs.YtfemklaeonkidaaV

import Derived.Test.YtnnjjblgilibgaaGreatVqH
import Derived.Test.YtnnjjblgilibgaaGreatVpP
import Derived.Deep.Strs
/- A row's calls, opened. -/
namespace Go.Proofs.YtnnjjblgilibgaaGreatV
open Go Go.RowKit
open Go.ChangeShapes Go.WideShapes Go.ChangeAt Go.Deep
set_option linter.unusedVariables false
set_option linter.unusedSimpArgs false
set_option maxRecDepth 100000
section
variable {H : Type} {enc : TypeId × Value → H} {P : Program} {w : World}
/-- Numbers that lie in a cell: told by their contents. -/
theorem in_rows {n : Nat} {t e : TypeId} {f0 f1 : Field} {v : Value} {y : DataW H × List MemPlace} (ht : P.underlying t = some (.slice e)) (he : P.underlying e = some (.struct #[f0, f1]))
    (ce : P.cellsOf e = 2) (o0 : f0.offset = 0) (o1 : f1.offset = 1) (c0 : P.cellsOf f0.type = 1) (c1 : P.cellsOf f1.type = 1) (u0 : P.underlying f0.type = some (.int .i64)) (u1 : P.underlying f1.type = some (.int .i64))
    (h : DataW.trod enc P w 0 (fun _ => true) true n t [v] = some y) :
    ∃ xs : List (Int × Int), ∀ φ, Rep w φ (fun b => b < w.heap.size) (.sl 2 (cxRows xs)) v := by
  rcases open_slice_pairs ht he ce o0 o1 c0 c1 h with ⟨hcs, _⟩ | ⟨a, l, c, m, k, V0, V1, D0, D1, P0, P1, hcs, _, hl, hm, hmm, _, hx⟩
  · obtain rfl : v = .slice none 0 0 := by simpa using hcs
    exact ⟨[], fun φ => .slnil 2⟩
  · obtain rfl : v = .slice (some a) l c := by simpa using hcs
    have hmc : m = c := by rw [hmm, if_pos rfl]
    subst hmc
    by_cases h0 : m = 0
    · subst h0
      obtain rfl : l = 0 := by omega
      exact ⟨[], fun φ => .slz 2 a⟩
    · have hc0 := (hx 0 (by omega)).1
      rw [Nat.zero_mul, show a.add 0 = a from if_pos rfl] at hc0
      have hb : a.block < w.heap.size ∧ a.spot = none := by
        unfold World.cell? at hc0
        split at hc0
        · rename_i hh
          refine ⟨?_, ?_⟩
          · rcases Nat.lt_or_ge a.block w.heap.size with g | g
            · exact g
            · rw [Array.getElem?_eq_none g] at hh
              cases hh
          · split at hc0
            · cases hc0
            · rename_i g
              simpa using g
        · cases hc0
      obtain ⟨b, o, sp⟩ := a
      obtain ⟨hb, rfl⟩ := hb
      have each : ∀ i, i < l → ∃ q : Int × Int, w.cell? ⟨b, o + i * 2, none⟩ = some (.int .i64 q.1) ∧ w.cell? ⟨b, o + (i * 2 + 1), none⟩ = some (.int .i64 q.2) := by
        intro i hi
        obtain ⟨e0, e1, g0, g1⟩ := hx i (by omega)
        obtain ⟨x0, ea, _, _⟩ := DataW.trod_int u0 g0
        obtain ⟨x1, eb, _, _⟩ := DataW.trod_int u1 g1
        simp at ea eb
        rw [add_at] at e0 e1
        exact ⟨(x0, x1), ea ▸ e0, eb ▸ e1⟩
      obtain ⟨q, hq⟩ := choose_lt each
      refine ⟨(List.range l).map q, fun φ => ?_⟩
      have hlen : (cxRows ((List.range l).map q)).length = l := by simp [cxRows]
      have hsz : ∀ r ∈ cxRows ((List.range l).map q), r.length = 2 := by
        intro r hr
        obtain ⟨p, _, rfl⟩ := List.mem_map.1 hr
        rfl
      have hfl : (cxRows ((List.range l).map q)).flatten.length = l * 2 := by rw [flat_len 2 _ hsz, hlen]
      have hrow : ∀ i, i < l → (cxRows ((List.range l).map q))[i]? = some [.int (q i).1, .int (q i).2] := by
        intro i hi
        unfold cxRows
        rw [List.getElem?_map, List.getElem?_map, List.getElem?_range hi]
        rfl
      have := Rep.sl (w := w) (φ := φ) (N := fun b => b < w.heap.size) 2 (cxRows ((List.range l).map q)) b o m (fun k => if k % 2 = 0 then .int .i64 (q (k / 2)).1 else .int .i64 (q (k / 2)).2) (by rw [hlen]; exact hl) hb hsz (fun k hk => ?_) (fun k x hx => ?_)
      · rwa [hlen] at this
      · rw [hfl] at hk
        have hi : k / 2 < l := by omega
        obtain ⟨h1, h2⟩ := hq (k / 2) hi
        by_cases hk2 : k % 2 = 0
        · rw [if_pos hk2]
          rwa [show k / 2 * 2 = k by omega] at h1
        · rw [if_neg hk2]
          rwa [show k / 2 * 2 + 1 = k by omega] at h2
      · have hk := getElem?_lt hx
        rw [hfl] at hk
        have hi : k / 2 < l := by omega
        have g := flat_get 2 _ (k / 2) _ hsz (hrow _ hi) (k % 2) (by omega)
        rw [show k / 2 * 2 + k % 2 = k by omega, hx] at g
        by_cases hk2 : k % 2 = 0
        · rw [if_pos hk2]
          rw [hk2] at g
          obtain rfl := Option.some.inj g
          exact .raw _
        · rw [if_neg hk2]
          rw [show k % 2 = 1 by omega] at g
          obtain rfl := Option.some.inj g
          exact .raw _
end
theorem list8 {l : List Value} (h : l.length = 8) : ∃ c0 c1 c2 c3 c4 c5 c6 c7, l = [c0, c1, c2, c3, c4, c5, c6, c7] := by
  match l, h with
  | [c0, c1, c2, c3, c4, c5, c6, c7], _ => exact ⟨_, _, _, _, _, _, _, _, rfl⟩
instance : Inhabited Cl := ⟨⟨[], [], 0, 0, 0, 0, 0, Bool.false⟩⟩
theorem cl_sz (cs : List Cl) : ∀ r ∈ clRows cs, r.length = 8 := by
  intro r hr
  obtain ⟨p, _, rfl⟩ := List.mem_map.1 hr
  rfl
theorem open_calls {H : Type} {enc : TypeId × Value → H} {W : World} {base : Nat} {v : Value} {d : DataW H} {p : List MemPlace} (hv : Value.okWide Tryz.prog W .any base 64 v) (h : DataW.Trod enc Tryz.prog W 0 (fun _ => true) true 64 v d p) :
    ∃ cs : List Cl, ∀ φ, Rep W φ (fun b => b < W.heap.size) (.sl 8 (clRows cs)) v := by
  obtain ⟨A, l, c, rfl⟩ := okWide_row Tryz.underlying64 hv
  obtain ⟨fuel, hf⟩ := h
  have hc1 : Tryz.prog.cellsOf 22 = 1 := by kernel_rfl
  have hc6 : Tryz.prog.cellsOf 24 = 6 := by kernel_rfl
  have hc8 : Tryz.prog.cellsOf 107 = 8 := by kernel_rfl
  have hc3 : Tryz.prog.cellsOf 3 = 1 := by kernel_rfl
  have hc4 : Tryz.prog.cellsOf 4 = 1 := by kernel_rfl
  rcases open_slice Tryz.underlying64 hf with ⟨hcs, _⟩ | ⟨a, len, cap, m, n, D, Pl, hcs, _, hl, hm, hmm, _, hx⟩
  · simp [Value.cells] at hcs
    obtain ⟨rfl, rfl, rfl⟩ := hcs
    exact ⟨[], fun φ => .slnil 8⟩
  · simp [Value.cells] at hcs
    obtain ⟨rfl, rfl, rfl⟩ := hcs
    have hlm : l ≤ m := by rw [hmm]; split <;> omega
    obtain ⟨hs, hb⟩ := okWide_some Tryz.underlying64 hv
    obtain ⟨b, o, sp⟩ := a
    obtain rfl : sp = none := hs
    have each : ∀ i, i < l → ∃ q : Cl × List Value, (∀ j, j < 8 → W.cell? ⟨b, o + (i * 8 + j), none⟩ = some (q.2.getD j undef)) ∧ ∀ φ j x, (clR q.1)[j]? = some x → Rep W φ (fun b => b < W.heap.size) x (q.2.getD j undef) := by
      intro i hi
      obtain ⟨cs', h1, h2⟩ := hx i (by omega)
      rw [hc8] at h1
      obtain ⟨_, hlen, hcell⟩ := World.cells?_some h1
      obtain ⟨c0, c1, c2, c3, c4, c5, c6, c7, rfl⟩ := list8 hlen
      obtain ⟨y0, y1, y2, n2, _, _, g0, g1, g2⟩ := trod_struct3 Tryz.underlying107 h2
      simp only [hc1, hc6, List.drop_zero, List.drop_succ_cons, List.take_succ_cons, List.take_zero] at g0 g1 g2
      obtain ⟨xs, hxs⟩ := in_rows Tryz.underlying22 Tryz.underlying43 (by kernel_rfl) rfl rfl (by kernel_rfl) (by kernel_rfl) (by kernel_rfl) (by kernel_rfl) g0
      obtain ⟨ws, hws⟩ := in_rows Tryz.underlying22 Tryz.underlying43 (by kernel_rfl) rfl rfl (by kernel_rfl) (by kernel_rfl) (by kernel_rfl) (by kernel_rfl) g1
      obtain ⟨_, _, _, _, _, _, n3, k0, k1, k2, k3, k4, k5⟩ := trod_struct6 Tryz.underlying24 g2
      simp only [hc3, hc4, List.drop_zero, List.drop_succ_cons, List.take_succ_cons, List.take_zero] at k0 k1 k2 k3 k4 k5
      obtain ⟨a0, e0, _, _⟩ := DataW.trod_int Tryz.underlying3 k0
      obtain ⟨a1, e1, _, _⟩ := DataW.trod_int Tryz.underlying3 k1
      obtain ⟨a2, e2, _, _⟩ := DataW.trod_int Tryz.underlying3 k2
      obtain ⟨a3, e3, _, _⟩ := DataW.trod_int Tryz.underlying3 k3
      obtain ⟨a4, e4, _, _⟩ := DataW.trod_int Tryz.underlying3 k4
      obtain ⟨a5, e5, _⟩ := DataW.trod_bool Tryz.underlying4 k5
      obtain rfl : c2 = .int .i64 a0 := by simpa using e0
      obtain rfl : c3 = .int .i64 a1 := by simpa using e1
      obtain rfl : c4 = .int .i64 a2 := by simpa using e2
      obtain rfl : c5 = .int .i64 a3 := by simpa using e3
      obtain rfl : c6 = .int .i64 a4 := by simpa using e4
      obtain rfl : c7 = .bool a5 := by simpa using e5
      refine ⟨(⟨xs, ws, a0, a1, a2, a3, a4, a5⟩, [c0, c1, .int .i64 a0, .int .i64 a1, .int .i64 a2, .int .i64 a3, .int .i64 a4, .bool a5]), fun j hj => ?_, fun φ j x hx => ?_⟩
      · have := hcell j hj
        try rw [hc8] at this
        rw [add_at, add_at] at this
        rw [show o + (i * 8 + j) = o + i * 8 + j by omega, this]
        match j, hj with
        | 0, _ => rfl
        | 1, _ => rfl
        | 2, _ => rfl
        | 3, _ => rfl
        | 4, _ => rfl
        | 5, _ => rfl
        | 6, _ => rfl
        | 7, _ => rfl
      · match j, hx with
        | 0, hx => cases hx; exact hxs φ
        | 1, hx => cases hx; exact hws φ
        | 2, hx => cases hx; exact .raw _
        | 3, hx => cases hx; exact .raw _
        | 4, hx => cases hx; exact .raw _
        | 5, hx => cases hx; exact .raw _
        | 6, hx => cases hx; exact .raw _
        | 7, hx => cases hx; exact .raw _
        | j + 8, hx => simp [clR] at hx
    obtain ⟨q, hq⟩ := choose_lt each
    have hlen : (clRows ((List.range l).map fun i => (q i).1)).length = l := by simp [clRows]
    have hsz := cl_sz ((List.range l).map fun i => (q i).1)
    have hfl : (clRows ((List.range l).map fun i => (q i).1)).flatten.length = l * 8 := by rw [flat_len 8 _ hsz, hlen]
    have hrow : ∀ i, i < l → (clRows ((List.range l).map fun i => (q i).1))[i]? = some (clR (q i).1) := by
      intro i hi
      unfold clRows
      rw [List.getElem?_map, List.getElem?_map, List.getElem?_range hi]
      rfl
    refine ⟨(List.range l).map fun i => (q i).1, fun φ => ?_⟩
    have := Rep.sl (w := W) (φ := φ) (N := fun b => b < W.heap.size) 8 (clRows ((List.range l).map fun i => (q i).1)) b o c (fun k => (q (k / 8)).2.getD (k % 8) undef) (by rw [hlen]; exact hl) hb hsz (fun k hk => ?_) (fun k x hx => ?_)
    · rwa [hlen] at this
    · rw [hfl] at hk
      have hi : k / 8 < l := by omega
      have := (hq (k / 8) hi).1 (k % 8) (by omega)
      rwa [show k / 8 * 8 + k % 8 = k by omega] at this
    · have hk := getElem?_lt hx
      rw [hfl] at hk
      have hi : k / 8 < l := by omega
      have g := flat_get 8 _ (k / 8) _ hsz (hrow _ hi) (k % 8) (by omega)
      rw [show k / 8 * 8 + k % 8 = k by omega, hx] at g
      exact (hq (k / 8) hi).2 φ (k % 8) x g.symm
end Go.Proofs.YtnnjjblgilibgaaGreatV

import Derived.Test.YtnnjjblgilibgaaGreatVgC
/- Contracts: a copy of numbers; a block of quads. -/
namespace Go.Proofs.YtnnjjblgilibgaaGreatV
open Go Go.RowKit
set_option linter.unusedVariables false
set_option linter.unusedSimpArgs false
set_option maxRecDepth 100000
set_option maxHeartbeats 40000000
theorem fine118 : Fine Tryz.prog 118 := fun _ _ => by kernel_rfl
theorem fine126 : Fine Tryz.prog 126 := fun _ _ => by kernel_rfl
theorem cx_one : ∀ (xs : List (Int × Int)), allOne (cxRows xs).flatten = true
  | [] => rfl
  | p :: r => by
    show (allOne ([AV.int p.1, .int p.2] ++ (cxRows r).flatten)) = true
    exact cx_one r
mutual
theorem free_lt (k : Nat) : ∀ (x : AV), x.free = true → x.lt k = true
  | .any, _ => rfl
  | .raw _, _ => rfl
  | .agg l, h => allFree_lt k l h
  | .tup l, h => allFree_lt k l h
  | .sl sz l, h => rowsFree_lt k l h
  | .csl sz l, h => rowsFree_lt k l h
  | .fn f l, h => allFree_lt k l h
  | .iface t v, h => free_lt k v h
  | .box l off, h => allFree_lt k l h
theorem allFree_lt (k : Nat) : ∀ (l : List AV), allFree l = true → allLt k l = true
  | [], _ => rfl
  | x :: r, h => by
    rw [allFree, Bool.and_eq_true] at h
    rw [al_cons, free_lt k x h.1, allFree_lt k r h.2]
    rfl
theorem rowsFree_lt (k : Nat) : ∀ (l : List (List AV)), rowsFree l = true → rowsLt k l = true
  | [], _ => rfl
  | x :: r, h => by
    rw [rowsFree, Bool.and_eq_true] at h
    show (allLt k x && rowsLt k r) = true
    rw [allFree_lt k x h.1, rowsFree_lt k r h.2]
    rfl
end
theorem cx_lt {k : Nat} {xs : List (Int × Int)} : rowsLt k (cxRows xs) = true := rowsFree_lt k _ (cx_free xs)
theorem cx_ren {ρ : Nat → Nat} {xs : List (Int × Int)} : renRows ρ (cxRows xs) = cxRows xs := renRows_free ρ _ (cx_free xs)
theorem lt_sl {k sz : Nat} {l : List (List AV)} : AV.lt k (.sl sz l) = rowsLt k l := rfl
theorem cx_set {xs : List (Int × Int)} {i : Nat} {a b : Int} : (cxRows xs).set i [.int a, .int b] = cxRows (xs.set i (a, b)) := by
  unfold cxRows
  rw [List.map_set]
theorem cx_at {xs : List (Int × Int)} {i : Nat} (h : i < xs.length) : (cxRows xs)[i]? = some [.int (xs.getD i (0, 0)).1, .int (xs.getD i (0, 0)).2] := by
  unfold cxRows
  rw [List.getElem?_map, List.getElem?_eq_getElem h, getD_at h]
  rfl
theorem Clone.ok (xs : List (Int × Int)) (hl : xs.length ≤ 1000000) (h0 : 0 < xs.length) : OkG Tryz.prog 118 [] [.sl 2 (cxRows xs)] [] (some (.row 43 2 (cxRows xs))) (.own 0) := by
  refine okg_of (X := fun _ => []) (Z := fun _ => false) (res := [ResultVar.tmp 2]) tok follows Tryz.func118 rfl rfl fine118 (by kernel_rfl) (by kernel_rfl) (id := some 1) rfl ?_
  have h1 : xs.length * 16 ≤ 140737488355328 := by omega
  have h2 : xs.length ≤ 9223372036854775807 := by omega
  simp only [evA, evB, evT, evD, seval, cx_len, h0, cx_one, h1, h2, cx_free]
/-- Numbers, some of them turned. -/
def mix (xs : List (Int × Int)) (T : Nat → Int × Int) (P : Nat → Bool) : List (Int × Int) := (List.range xs.length).map fun i => if P i then T i else xs.getD i (0, 0)
theorem mix_len {xs : List (Int × Int)} {T : Nat → Int × Int} {P : Nat → Bool} : (mix xs T P).length = xs.length := by simp [mix]
theorem mix_at {xs : List (Int × Int)} {T : Nat → Int × Int} {P : Nat → Bool} {i : Nat} (h : i < xs.length) : (mix xs T P).getD i (0, 0) = if P i then T i else xs.getD i (0, 0) := by
  rw [getD_at (by rw [mix_len]; exact h)]
  simp [mix]
theorem ext_at {xs ys : List (Int × Int)} (h : xs.length = ys.length) (g : ∀ i, i < xs.length → xs.getD i (0, 0) = ys.getD i (0, 0)) : xs = ys := by
  refine List.ext_getElem h fun i h1 h2 => ?_
  have := g i h1
  rwa [getD_at h1, getD_at h2] at this
theorem mix_eq {xs : List (Int × Int)} {T T' : Nat → Int × Int} {P Q : Nat → Bool} (h : ∀ i, i < xs.length → P i = Q i) (g : ∀ i, i < xs.length → Q i = true → T i = T' i) : mix xs T P = mix xs T' Q := by
  refine ext_at (by rw [mix_len, mix_len]) fun i hi => ?_
  rw [mix_len] at hi
  rw [mix_at hi, mix_at hi, h i hi]
  split
  · rename_i hq
    exact g i hi hq
  · rfl
theorem mix_none {xs : List (Int × Int)} {T : Nat → Int × Int} {P : Nat → Bool} (h : ∀ i, i < xs.length → P i = false) : mix xs T P = xs := by
  refine ext_at mix_len fun i hi => ?_
  rw [mix_len] at hi
  rw [mix_at hi, h i hi]
  rfl
theorem set_at {xs : List (Int × Int)} {j i : Nat} {y : Int × Int} (hj : j < xs.length) (hi : i < xs.length) : (xs.set j y).getD i (0, 0) = if j = i then y else xs.getD i (0, 0) := by
  rw [getD_at (by simpa using hi), List.getElem_set]
  split
  · rfl
  · rw [getD_at hi]
theorem mix_set {xs : List (Int × Int)} {T : Nat → Int × Int} {P : Nat → Bool} {j : Nat} {y : Int × Int} (hj : j < xs.length) (hy : y = T j) : (mix xs T P).set j y = mix xs T fun i => P i || decide (j = i) := by
  refine ext_at (by simp [mix_len]) fun i hi => ?_
  simp only [List.length_set, mix_len] at hi
  rw [set_at (by rw [mix_len]; exact hj) (by rw [mix_len]; exact hi), mix_at hi, mix_at hi]
  by_cases h : j = i
  · subst h
    simp [hy]
  · simp [h]
section
variable (inv : Bool) (bits s mode : Int) (xs ws : List (Int × Int)) (off h u : Nat)
/-- A block's quad j. -/
def bq (j : Nat) (q : Int) : Int × Int :=
  qV inv bits s mode (xs.getD (off + j) (0, 0)).1 (xs.getD (off + j) (0, 0)).2 (xs.getD (off + (2 * h + j)) (0, 0)).1 (xs.getD (off + (2 * h + j)) (0, 0)).2 (xs.getD (off + (h + j)) (0, 0)).1 (xs.getD (off + (h + j)) (0, 0)).2 (xs.getD (off + (3 * h + j)) (0, 0)).1 (xs.getD (off + (3 * h + j)) (0, 0)).2
    (rootV ws inv (j * u)).1 (rootV ws inv (j * u)).2 (rootV ws inv (2 * j * u)).1 (rootV ws inv (2 * j * u)).2 (rootV ws inv (3 * j * u)).1 (rootV ws inv (3 * j * u)).2 q
def bT (i : Nat) : Int × Int := bq inv bits s mode xs ws off h u ((i - off) % h) (((i - off) / h : Nat) : Int)
def bP (j i : Nat) : Bool := decide (off ≤ i ∧ i < off + 4 * h ∧ (i - off) % h < j)
def cur (j : Nat) : List (Int × Int) := mix xs (bT inv bits s mode xs ws off h u) (bP off h j)
theorem bT_at {j : Nat} (hj : j < h) (q : Nat) : bT inv bits s mode xs ws off h u (off + (q * h + j)) = bq inv bits s mode xs ws off h u j q := by
  unfold bT
  have h1 : off + (q * h + j) - off = q * h + j := by omega
  have h2 : (q * h + j) % h = j := by rw [Nat.mul_comm, Nat.mul_add_mod, Nat.mod_eq_of_lt hj]
  have h3 : (q * h + j) / h = q := by rw [Nat.mul_comm, Nat.mul_add_div (by omega), Nat.div_eq_of_lt hj, Nat.add_zero]
  rw [h1, h2, h3]
theorem bP_no {j : Nat} (hj : j < h) (q : Nat) : bP off h j (off + (q * h + j)) = false := by
  unfold bP
  have h1 : off + (q * h + j) - off = q * h + j := by omega
  have h2 : (q * h + j) % h = j := by rw [Nat.mul_comm, Nat.mul_add_mod, Nat.mod_eq_of_lt hj]
  rw [h1, h2]
  simp
theorem cur_len (j : Nat) : (cur inv bits s mode xs ws off h u j).length = xs.length := mix_len
theorem cur_at {j : Nat} (hj : j < h) (q : Nat) (hx : off + (q * h + j) < xs.length) : (cur inv bits s mode xs ws off h u j).getD (off + (q * h + j)) (0, 0) = xs.getD (off + (q * h + j)) (0, 0) := by
  unfold cur
  rw [mix_at hx, bP_no off h hj q]
  rfl
theorem cur_step {j : Nat} (hj : j < h) (hx : off + 4 * h ≤ xs.length) :
    ((((cur inv bits s mode xs ws off h u j).set (off + j) (bq inv bits s mode xs ws off h u j 0)).set (off + (h + j)) (bq inv bits s mode xs ws off h u j 1)).set (off + (2 * h + j)) (bq inv bits s mode xs ws off h u j 2)).set (off + (3 * h + j)) (bq inv bits s mode xs ws off h u j 3) = cur inv bits s mode xs ws off h u (j + 1) := by
  have t0 : bT inv bits s mode xs ws off h u (off + j) = bq inv bits s mode xs ws off h u j 0 := by
    have := bT_at inv bits s mode xs ws off h u hj 0
    rwa [Nat.zero_mul, Nat.zero_add] at this
  have t1 : bT inv bits s mode xs ws off h u (off + (h + j)) = bq inv bits s mode xs ws off h u j 1 := by
    have := bT_at inv bits s mode xs ws off h u hj 1
    rwa [Nat.one_mul] at this
  have t2 : bT inv bits s mode xs ws off h u (off + (2 * h + j)) = bq inv bits s mode xs ws off h u j 2 := bT_at inv bits s mode xs ws off h u hj 2
  have t3 : bT inv bits s mode xs ws off h u (off + (3 * h + j)) = bq inv bits s mode xs ws off h u j 3 := bT_at inv bits s mode xs ws off h u hj 3
  unfold cur
  rw [mix_set (by omega) t0.symm, mix_set (by omega) t1.symm, mix_set (by omega) t2.symm, mix_set (by omega) t3.symm]
  refine mix_eq (fun i hi => ?_) fun _ _ _ => rfl
  have hd := Nat.div_add_mod (i - off) h
  have hm := Nat.mod_lt (i - off) (show 0 < h by omega)
  rw [Bool.eq_iff_iff]
  unfold bP
  simp only [Bool.or_eq_true, decide_eq_true_eq]
  constructor
  · rintro ((((⟨a, b, c⟩ | rfl) | rfl) | rfl) | rfl)
    · exact ⟨a, b, by omega⟩
    · exact ⟨by omega, by omega, by rw [show off + j - off = j by omega, Nat.mod_eq_of_lt hj]; omega⟩
    · exact ⟨by omega, by omega, by rw [show off + (h + j) - off = h * 1 + j by omega, Nat.mul_add_mod, Nat.mod_eq_of_lt hj]; omega⟩
    · exact ⟨by omega, by omega, by rw [show off + (2 * h + j) - off = h * 2 + j by omega, Nat.mul_add_mod, Nat.mod_eq_of_lt hj]; omega⟩
    · exact ⟨by omega, by omega, by rw [show off + (3 * h + j) - off = h * 3 + j by omega, Nat.mul_add_mod, Nat.mod_eq_of_lt hj]; omega⟩
  · rintro ⟨a, b, c⟩
    rcases Nat.lt_or_ge ((i - off) % h) j with hlt | hge
    · exact .inl (.inl (.inl (.inl ⟨a, b, hlt⟩)))
    · have hR : (i - off) % h = j := by omega
      rw [hR] at hd
      have hq : (i - off) / h < 4 := Nat.div_lt_of_lt_mul (by omega)
      generalize (i - off) / h = Q at hd hq
      have : Q = 0 ∨ Q = 1 ∨ Q = 2 ∨ Q = 3 := by omega
      rcases this with e | e | e | e
      · rw [e] at hd; exact .inl (.inl (.inl (.inr (by omega))))
      · rw [e] at hd; exact .inl (.inl (.inr (by omega)))
      · rw [e] at hd; exact .inl (.inr (by omega))
      · rw [e] at hd; exact .inr (by omega)
theorem cur_zero : cur inv bits s mode xs ws off h u 0 = xs := mix_none fun i _ => by simp [bP]
end
end Go.Proofs.YtnnjjblgilibgaaGreatV
/- Contract: a block of quads. -/
namespace Go.Proofs.YtnnjjblgilibgaaGreatV
open Go Go.RowKit
set_option linter.unusedVariables false
set_option linter.unusedSimpArgs false
set_option maxRecDepth 100000
set_option maxHeartbeats 40000000
section
variable (inv : Bool) (bits s mode : Int) (xs ws : List (Int × Int)) (off h u n : Nat)
/-- What a block asks for. -/
structure BlockH : Prop where
  len : xs.length ≤ 1000000
  wlen : ws.length ≤ 1000000
  n4 : n = 4 * h
  fit : off + 4 * h ≤ xs.length
  set : setP bits s mode
  near : ∀ i, off ≤ i → i < off + 4 * h → win 2147483648 (xs.getD i (0, 0)).1 (xs.getD i (0, 0)).2
  roots : nears (2 ^ bits.toNat) ws
  hu : ∀ k j, k < 4 → j < h → k * j * u < ws.length
  ub : u ≤ 1000000
theorem block.ok (H : BlockH bits s mode xs ws off h u n) :
    OkG Tryz.prog 126 [.row 43 2 (cxRows xs)] [.osl 0 off n 2, .sl 2 (cxRows ws), .int h, .int u, .int bits, .int s, .int mode, .bool inv] [.row 43 2 (cxRows (cur inv bits s mode xs ws off h u h))] none (retAV []) := by
  obtain ⟨hl, hw, hn, hfit, hset, hnear, hroots, hu, hub⟩ := H
  refine okg_of (X := fun _ => []) (Z := fun _ => false) (res := []) tok follows Tryz.func126 rfl rfl fine126 (by kernel_rfl) (by kernel_rfl) (id := none) rfl ?_
  simp only [evA, evB, evT, evD, seval]
  refine l_inv (fun j => ⟨[(23, .int j), (22, .int h), (0, .osl 0 off n 2), (1, .sl 2 (cxRows ws)), (2, .int h), (3, .int u), (4, .int bits), (5, .int s), (6, .int mode), (7, .bool inv)], [(0, some (.row 43 2 (cxRows (cur inv bits s mode xs ws off h u j))))], 1⟩) h ?_ (fun j hj K hK => ?_) (fun K => ?_)
  · refine weak_of (fun l => l) rfl ?_ ?_
    all_goals simp only [evA, evB, evT, evD, seval, cx_free, Int.natCast_zero, cur_zero]
  · have q0 : (j : Int) < h := by omega
    have q1 : (0 : Int) ≤ j := by omega
    have q2 : IntKind.i64.wrap ((j : Int) + 1) = ((j + 1 : Nat) : Int) := by rw [wr (by omega)]; omega
    have wl : (ws.length : Int) ≤ 1000000 := by omega
    have u0 : (0 * j * u : Nat) < ws.length := hu 0 j (by decide) hj
    have u1 : (j * u : Nat) < ws.length := by have := hu 1 j (by decide) hj; rwa [Nat.one_mul] at this
    have u2 : (2 * j * u : Nat) < ws.length := hu 2 j (by decide) hj
    have u3 : (3 * j * u : Nat) < ws.length := hu 3 j (by decide) hj
    rw [Nat.zero_mul, Nat.zero_mul] at u0
    have e0 : IntKind.i64.wrap (IntKind.i64.wrap (0 * (j : Int)) * u) = 0 := by rw [Int.zero_mul, w_0, Int.zero_mul, w_0]
    have e1 : IntKind.i64.wrap (IntKind.i64.wrap (1 * (j : Int)) * u) = ((j * u : Nat) : Int) := by
      rw [wr (x := 1 * (j : Int)) (by omega), show 1 * (j : Int) * u = ((j * u : Nat) : Int) by simp, wr (by omega)]
    have e2 : IntKind.i64.wrap (IntKind.i64.wrap (2 * (j : Int)) * u) = ((2 * j * u : Nat) : Int) := by
      rw [wr (x := 2 * (j : Int)) (by omega), show 2 * (j : Int) * u = ((2 * j * u : Nat) : Int) by simp, wr (by omega)]
    have e3 : IntKind.i64.wrap (IntKind.i64.wrap (3 * (j : Int)) * u) = ((3 * j * u : Nat) : Int) := by
      rw [wr (x := 3 * (j : Int)) (by omega), show 3 * (j : Int) * u = ((3 * j * u : Nat) : Int) by simp, wr (by omega)]
    have f0 : (0 : Int) < ws.length := by omega
    have f1 : ((j * u : Nat) : Int) < ws.length := by omega
    have f2 : ((2 * j * u : Nat) : Int) < ws.length := by omega
    have f3 : ((3 * j * u : Nat) : Int) < ws.length := by omega
    have p1 : (0 : Int) ≤ ((j * u : Nat) : Int) := by omega
    have p2 : (0 : Int) ≤ ((2 * j * u : Nat) : Int) := by omega
    have p3 : (0 : Int) ≤ ((3 * j * u : Nat) : Int) := by omega
    have i0 : IntKind.i64.wrap (IntKind.i64.wrap (0 * (h : Int)) + j) = j := by rw [Int.zero_mul, w_0, Int.zero_add, wr (by omega)]
    have i1 : IntKind.i64.wrap (IntKind.i64.wrap (1 * (h : Int)) + j) = ((h + j : Nat) : Int) := by rw [wr (x := 1 * (h : Int)) (by omega), wr (by omega)]; omega
    have i1' : IntKind.i64.wrap ((h : Int) + j) = ((h + j : Nat) : Int) := by rw [wr (by omega)]; omega
    have i2 : IntKind.i64.wrap (IntKind.i64.wrap (2 * (h : Int)) + j) = ((2 * h + j : Nat) : Int) := by rw [wr (x := 2 * (h : Int)) (by omega), wr (by omega)]; omega
    have i3 : IntKind.i64.wrap (IntKind.i64.wrap (3 * (h : Int)) + j) = ((3 * h + j : Nat) : Int) := by rw [wr (x := 3 * (h : Int)) (by omega), wr (by omega)]; omega
    have a0 : (j : Int) < n := by omega
    have a1 : ((h + j : Nat) : Int) < n := by omega
    have a2 : ((2 * h + j : Nat) : Int) < n := by omega
    have a3 : ((3 * h + j : Nat) : Int) < n := by omega
    have b1 : (0 : Int) ≤ ((h + j : Nat) : Int) := by omega
    have b2 : (0 : Int) ≤ ((2 * h + j : Nat) : Int) := by omega
    have b3 : (0 : Int) ≤ ((3 * h + j : Nat) : Int) := by omega
    have l0 : off + j < xs.length := by omega
    have l1 : off + (h + j) < xs.length := by omega
    have l2 : off + (2 * h + j) < xs.length := by omega
    have l3 : off + (3 * h + j) < xs.length := by omega
    have v0 : (cur inv bits s mode xs ws off h u j).getD (off + j) (0, 0) = xs.getD (off + j) (0, 0) := by
      have := cur_at inv bits s mode xs ws off h u hj 0 (by omega)
      rwa [Nat.zero_mul, Nat.zero_add] at this
    have v1 : (cur inv bits s mode xs ws off h u j).getD (off + (h + j)) (0, 0) = xs.getD (off + (h + j)) (0, 0) := by
      have := cur_at inv bits s mode xs ws off h u hj 1 (by omega)
      rwa [Nat.one_mul] at this
    have v2 : (cur inv bits s mode xs ws off h u j).getD (off + (2 * h + j)) (0, 0) = xs.getD (off + (2 * h + j)) (0, 0) := cur_at inv bits s mode xs ws off h u hj 2 (by omega)
    have v3 : (cur inv bits s mode xs ws off h u j).getD (off + (3 * h + j)) (0, 0) = xs.getD (off + (3 * h + j)) (0, 0) := cur_at inv bits s mode xs ws off h u hj 3 (by omega)
    have hstep := cur_step inv bits s mode xs ws off h u hj hfit
    have hp := pow29 hset.1
    have hroot : ∀ k, k < ws.length → win (2 ^ bits.toNat) (ws.getD k (0, 0)).1 (ws.getD k (0, 0)).2 := fun k hk => near_get hroots hk
    have hbig : ∀ k, k < ws.length → win 2305843009213693952 (ws.getD k (0, 0)).1 (ws.getD k (0, 0)).2 := fun k hk => win_mono (hroot k hk) (by omega)
    have hconj : ∀ k, k < ws.length → win (2 ^ bits.toNat) (ws.getD k (0, 0)).1 (-(ws.getD k (0, 0)).2) := fun k hk => by
      have := hroot k hk
      unfold win at *
      omega
    generalize hC : cur inv bits s mode xs ws off h u j = C at *
    have hCl : C.length = xs.length := by rw [← hC]; exact cur_len ..
    cases inv
    · simp only [evA, evT, evD, seval, q0]
      refine ⟨5, l_succ ?_⟩
      iterate 4
        simp only [evA, evT, evD, seval, e0, e1, e2, e3, f0, f1, f2, f3, p1, p2, p3, cx_len, Int.toNat_natCast, cx_getD u0, cx_getD u1, cx_getD u2, cx_getD u3]
        refine l_succ ?_
      simp only [evA, evT, evD, seval, i1', i2, i3, a0, a1, a2, a3, q1, b1, b2, b3, Int.toNat_natCast, cx_at, hCl, l0, l1, l2, l3, v0, v1, v2, v3]
      refine call_ok (quad.ok false bits s mode _ _ _ _ _ _ _ _ _ _ _ _ _ _ _ _ hset.1 hset.2.1 hset.2.2 (hnear _ (by omega) (by omega)) (hnear _ (by omega) (by omega)) (hnear _ (by omega) (by omega)) (hnear _ (by omega) (by omega)) (hroot _ u1) (hroot _ u2) (hroot _ u3)) rfl ?_
      simp only [evA, evT, evD, seval]
      refine ⟨5, l_succ ?_⟩
      iterate 4
        simp only [evA, evT, evD, seval, i0, i1, i2, i3, a0, a1, a2, a3, q1, b1, b2, b3, Int.toNat_natCast, cx_at, hCl, l0, l1, l2, l3, List.length_set, cx_set]
        refine l_succ ?_
      simp only [evA, evT, evD, seval, q2]
      refine hK _ (weak_of (fun l => l) rfl ?_ ?_)
      · simp only [evA, evB, evT, evD, seval, cx_free]
        exact .inl (congrArg (fun l => LB.row 43 2 (cxRows l)) hstep)
      · simp only [evA, evB, evT, evD, seval, cx_free]
    · simp only [evA, evT, evD, seval, q0]
      refine ⟨5, l_succ ?_⟩
      simp only [evA, evT, evD, seval, e0, f0, cx_len, Int.toNat_natCast, cx_getD u0]
      refine call_ok (Conj.ok _ _ (hbig _ u0)) rfl ?_
      simp only [evA, evT, evD, seval]
      refine l_succ ?_
      simp only [evA, evT, evD, seval, e1, f1, p1, cx_len, Int.toNat_natCast, cx_getD u1]
      refine call_ok (Conj.ok _ _ (hbig _ u1)) rfl ?_
      simp only [evA, evT, evD, seval]
      refine l_succ ?_
      simp only [evA, evT, evD, seval, e2, f2, p2, cx_len, Int.toNat_natCast, cx_getD u2]
      refine call_ok (Conj.ok _ _ (hbig _ u2)) rfl ?_
      simp only [evA, evT, evD, seval]
      refine l_succ ?_
      simp only [evA, evT, evD, seval, e3, f3, p3, cx_len, Int.toNat_natCast, cx_getD u3]
      refine call_ok (Conj.ok _ _ (hbig _ u3)) rfl ?_
      simp only [evA, evT, evD, seval]
      refine l_succ ?_
      simp only [evA, evT, evD, seval, i1', i2, i3, a0, a1, a2, a3, q1, b1, b2, b3, Int.toNat_natCast, cx_at, hCl, l0, l1, l2, l3, v0, v1, v2, v3]
      refine call_ok (quad.ok true bits s mode _ _ _ _ _ _ _ _ _ _ _ _ _ _ _ _ hset.1 hset.2.1 hset.2.2 (hnear _ (by omega) (by omega)) (hnear _ (by omega) (by omega)) (hnear _ (by omega) (by omega)) (hnear _ (by omega) (by omega)) (hconj _ u1) (hconj _ u2) (hconj _ u3)) rfl ?_
      simp only [evA, evT, evD, seval]
      refine ⟨5, l_succ ?_⟩
      iterate 4
        simp only [evA, evT, evD, seval, i0, i1, i2, i3, a0, a1, a2, a3, q1, b1, b2, b3, Int.toNat_natCast, cx_at, hCl, l0, l1, l2, l3, List.length_set, cx_set]
        refine l_succ ?_
      simp only [evA, evT, evD, seval, q2]
      refine hK _ (weak_of (fun l => l) rfl ?_ ?_)
      · simp only [evA, evB, evT, evD, seval, cx_free]
        exact .inl (congrArg (fun l => LB.row 43 2 (cxRows l)) hstep)
      · simp only [evA, evB, evT, evD, seval, cx_free]
  · simp only [evA, evB, evT, evD, seval, cx_free]
end
end Go.Proofs.YtnnjjblgilibgaaGreatV
/- Contract: a pass of kernel 4. -/
namespace Go.Proofs.YtnnjjblgilibgaaGreatV
open Go Go.RowKit
set_option linter.unusedVariables false
set_option linter.unusedSimpArgs false
set_option maxRecDepth 100000
set_option maxHeartbeats 40000000
theorem fine79 : Fine Tryz.prog 79 := fun _ _ => by kernel_rfl
theorem fine122 : Fine Tryz.prog 122 := fun _ _ => by kernel_rfl
theorem fine124 : Fine Tryz.prog 124 := fun _ _ => by kernel_rfl
theorem Pass1.ok (a b : Int) : Ok Tryz.prog 122 [cxA a b] (.bool (decide (¬ win 2147483648 a b))) := by
  refine ok_of (X := fun _ => []) (Z := fun _ => false) (res := [ResultVar.tmp 2]) tok follows Tryz.func122 rfl rfl fine122 (by kernel_rfl) (by kernel_rfl) ?_
  simp only [evA, evT, evD, seval]
  refine call_ok (narrow4.ok 2147483648 a b (by decide)) rfl ?_
  simp only [evA, evT, evD, seval, decide_not]
theorem Pass2.ok (a b bits : Int) (hb : 0 ≤ bits ∧ bits ≤ 29) : Ok Tryz.prog 124 [cxA a b, .box [.int bits] 0] (.bool (decide (¬ win (2 ^ bits.toNat) a b))) := by
  have h := pow29 hb
  have h0 := hb.1
  refine ok_of (X := fun _ => []) (Z := fun _ => false) (res := [ResultVar.tmp 3]) tok follows Tryz.func124 rfl rfl fine124 (by kernel_rfl) (by kernel_rfl) ?_
  simp only [evA, evT, evD, seval, one29 hb, h0]
  refine call_ok (narrow4.ok (2 ^ bits.toNat) a b (by omega)) rfl ?_
  simp only [evA, evT, evD, seval, decide_not]
section
variable (inv : Bool) (bits s mode : Int) (xs ws : List (Int × Int)) (h u : Nat)
def pT (i : Nat) : Int × Int := bT inv bits s mode xs ws (4 * h * (i / (4 * h))) h u i
def cP (k : Nat) : List (Int × Int) := mix xs (pT inv bits s mode xs ws h u) fun i => decide (i < 4 * h * k)
/-- All numbers turned. -/
def pV : List (Int × Int) := mix xs (pT inv bits s mode xs ws h u) fun _ => true
theorem cP_zero : cP inv bits s mode xs ws h u 0 = xs := mix_none fun i _ => by simp
theorem cP_all (hn : xs.length = 4 * h * u) : cP inv bits s mode xs ws h u u = pV inv bits s mode xs ws h u := mix_eq (fun i hi => by simp; omega) fun _ _ _ => rfl
theorem cP_len (k : Nat) : (cP inv bits s mode xs ws h u k).length = xs.length := mix_len
theorem pV_len : (pV inv bits s mode xs ws h u).length = xs.length := mix_len
theorem cP_at {k i : Nat} (hi : i < xs.length) (hk : 4 * h * k ≤ i) : (cP inv bits s mode xs ws h u k).getD i (0, 0) = xs.getD i (0, 0) := by
  unfold cP
  rw [mix_at hi, decide_eq_false (by omega)]
  rfl
theorem cP_step {k : Nat} (hh : 0 < h) (hx : 4 * h * k + 4 * h ≤ xs.length) : cur inv bits s mode (cP inv bits s mode xs ws h u k) ws (4 * h * k) h u h = cP inv bits s mode xs ws h u (k + 1) := by
  have e : 4 * h * (k + 1) = 4 * h * k + 4 * h := by rw [Nat.mul_add, Nat.mul_one]
  have hg : ∀ m, m < 4 * h → (cP inv bits s mode xs ws h u k).getD (4 * h * k + m) (0, 0) = xs.getD (4 * h * k + m) (0, 0) := fun m hm => cP_at _ _ _ _ _ _ _ _ (by omega) (by omega)
  refine ext_at (by rw [cur_len, cP_len, cP_len]) fun i hi => ?_
  rw [cur_len, cP_len] at hi
  unfold cur
  rw [mix_at (by rw [cP_len]; exact hi)]
  conv => rhs; unfold cP
  rw [mix_at hi]
  have hm := Nat.mod_lt (i - 4 * h * k) hh
  by_cases h1 : 4 * h * k ≤ i ∧ i < 4 * h * k + 4 * h
  · have hb : bP (4 * h * k) h h i = true := by unfold bP; simp; omega
    rw [hb, if_pos rfl, decide_eq_true (by omega : i < 4 * h * (k + 1)), if_pos rfl]
    unfold pT
    have hdiv : i / (4 * h) = k := by
      refine Nat.div_eq_of_lt_le ?_ ?_
      · rw [Nat.mul_comm]; exact h1.1
      · rw [Nat.mul_comm, e]; exact h1.2
    rw [hdiv]
    unfold bT bq
    rw [hg _ (by omega), hg _ (by omega), hg _ (by omega), hg _ (by omega)]
  · have hb : bP (4 * h * k) h h i = false := by unfold bP; simp; omega
    rw [hb, if_neg (by simp)]
    unfold cP
    rw [mix_at hi]
    by_cases h2 : i < 4 * h * k
    · rw [decide_eq_true h2, decide_eq_true (by omega : i < 4 * h * (k + 1))]
    · rw [decide_eq_false h2, decide_eq_false (by omega : ¬ i < 4 * h * (k + 1))]
end
theorem quarter_nat {h n : Int} (hn : lens n) (hq : half h n ∧ 4 * h ≤ n) : ∃ H u : Nat, h = H ∧ 0 < H ∧ H ≤ 16 ∧ n = ((4 * H * u : Nat) : Int) ∧ 0 < u ∧ u ≤ 16 ∧ Go.bits .and .i64 h (h - 1) = 0 := by
  obtain ⟨⟨h1, h2⟩, h3⟩ := hq
  have hh : h = 1 ∨ h = 2 ∨ h = 4 ∨ h = 8 ∨ h = 16 := by unfold lens at hn; omega
  rcases hn with rfl | rfl | rfl | rfl | rfl <;> rcases hh with rfl | rfl | rfl | rfl | rfl <;> first
    | (exfalso; omega)
    | exact ⟨1, 1, by decide⟩ | exact ⟨1, 2, by decide⟩ | exact ⟨1, 4, by decide⟩ | exact ⟨1, 8, by decide⟩ | exact ⟨1, 16, by decide⟩
    | exact ⟨2, 1, by decide⟩ | exact ⟨2, 2, by decide⟩ | exact ⟨2, 4, by decide⟩ | exact ⟨2, 8, by decide⟩
    | exact ⟨4, 1, by decide⟩ | exact ⟨4, 2, by decide⟩ | exact ⟨4, 4, by decide⟩
    | exact ⟨8, 1, by decide⟩ | exact ⟨8, 2, by decide⟩
    | exact ⟨16, 1, by decide⟩
theorem quarter_not {h n : Int} (hn : lens n) (hq : ¬ (half h n ∧ 4 * h ≤ n)) : h < 1 ∨ (¬ h < 1 ∧ n / 4 < h) ∨ (¬ h < 1 ∧ ¬ n / 4 < h ∧ IntKind.i64.wrap (h - 1) = h - 1 ∧ ¬ Go.bits .and .i64 h (h - 1) = 0) := by
  by_cases h1 : h < 1
  · exact .inl h1
  by_cases h2 : n / 4 < h
  · exact .inr (.inl ⟨h1, h2⟩)
  refine .inr (.inr ⟨h1, h2, wr (by unfold lens at hn; omega), ?_⟩)
  have hh : h = 1 ∨ h = 2 ∨ h = 3 ∨ h = 4 ∨ h = 5 ∨ h = 6 ∨ h = 7 ∨ h = 8 ∨ h = 9 ∨ h = 10 ∨ h = 11 ∨ h = 12 ∨ h = 13 ∨ h = 14 ∨ h = 15 ∨ h = 16 := by unfold lens at hn; omega
  unfold half at hq
  rcases hh with rfl | rfl | rfl | rfl | rfl | rfl | rfl | rfl | rfl | rfl | rfl | rfl | rfl | rfl | rfl | rfl <;> first | (exfalso; omega) | decide
theorem div4 {n : Nat} (hn : n ≤ 1000000) : IntKind.i64.wrap ((n : Int).tdiv 4) = (n : Int) / 4 := by
  rw [Int.tdiv_eq_ediv_of_nonneg (by omega)]
  exact wr (by omega)
section
variable (inv : Bool) (h bits s mode : Int) (xs ws : List (Int × Int)) (hl : xs.length ≤ 1000000) (hw : ws.length ≤ 1000000)
include hl hw
omit hw in
theorem Pass.no (e : Int) (he : Why (half h xs.length ∧ 4 * h ≤ xs.length) xs ws bits s mode e) :
    Ok Tryz.prog 79 [.sl 2 (cxRows xs), .sl 2 (cxRows ws), .int h, .int bits, .int s, .int mode, .bool inv] (.tup [.raw (.slice none 0 0), .int e]) := by
  have d4 := div4 hl
  refine ok_of (X := fun _ => []) (Z := fun _ => false) (res := [ResultVar.tmp 14, ResultVar.tmp 15]) tok follows Tryz.func79 rfl rfl fine79 (by kernel_rfl) (by kernel_rfl) ?_
  simp only [evA, evT, evD, seval, cx_len]
  rcases he with ⟨h1, rfl⟩ | ⟨h1, h2, rfl⟩ | ⟨h1, h2, h3, rfl⟩ | ⟨h1, h2, ⟨h3, hset⟩, h4, rfl⟩
  · refine call_ok (Log.bad _ h1) rfl ?_
    simp only [evA, evT, evD, seval]
  · refine call_ok (Log.ok _ h1) rfl ?_
    simp only [evA, evT, evD, seval, cx_len, h2]
  · refine call_ok (Log.ok _ h1) rfl ?_
    simp only [evA, evT, evD, seval, cx_len, h2, d4]
    by_cases hq : half h xs.length ∧ 4 * h ≤ xs.length
    · obtain ⟨H, u, rfl, g1, g2, g3, g4, g5, g6⟩ := quarter_nat h1 hq
      have k1 : ¬ (H : Int) < 1 := by omega
      have k2 : ¬ (xs.length : Int) / 4 < H := by omega
      have k3 : IntKind.i64.wrap ((H : Int) - 1) = H - 1 := wr (by omega)
      simp only [evA, evT, evD, seval, k1, k2, k3, g6]
      refine call_ok (settings4.ok bits s mode) rfl ?_
      simp only [evA, evT, evD, seval, show ¬ setP bits s mode from fun g => h3 ⟨hq, g⟩]
    · rcases quarter_not h1 hq with k1 | ⟨k1, k2⟩ | ⟨k1, k2, k3, k4⟩
      · simp only [evA, evT, evD, seval, k1]
      · simp only [evA, evT, evD, seval, k1, k2]
      · simp only [evA, evT, evD, seval, k1, k2, k3, k4]
  · obtain ⟨H, u, rfl, g1, g2, g3, g4, g5, g6⟩ := quarter_nat h1 h3
    have k1 : ¬ (H : Int) < 1 := by omega
    have k2 : ¬ (xs.length : Int) / 4 < H := by omega
    have k3 : IntKind.i64.wrap ((H : Int) - 1) = H - 1 := wr (by omega)
    refine call_ok (Log.ok _ h1) rfl ?_
    simp only [evA, evT, evD, seval, cx_len, h2, d4, k1, k2, k3, g6]
    refine call_ok (settings4.ok bits s mode) rfl ?_
    simp only [evA, evT, evD, seval, decide_eq_true hset, cx_free]
    by_cases hx : nears 2147483648 xs
    · refine call_ok (contains.no 122 [] (fun x => ¬ win 2147483648 x.1 x.2) xs (by omega) (fun _ => rfl) (fun _ => rfl) rfl (fun x _ => Pass1.ok x.1 x.2) (fun x hx' hn => hn (hx x hx'))) rfl ?_
      simp only [evA, evT, evD, seval, cx_free]
      refine call_ok (contains.yes 124 [.box [.int bits] 0] (fun x => ¬ win (2 ^ bits.toNat) x.1 x.2) ws (by omega) (fun _ => rfl) (fun _ => rfl) rfl (fun x _ => Pass2.ok x.1 x.2 bits hset.1) (Classical.byContradiction fun hn => h4 ⟨hx, fun x hx' => Classical.byContradiction fun hg => hn ⟨x, hx', hg⟩⟩)) rfl ?_
      simp only [evA, evT, evD, seval]
    · refine call_ok (contains.yes 122 [] (fun x => ¬ win 2147483648 x.1 x.2) xs (by omega) (fun _ => rfl) (fun _ => rfl) rfl (fun x _ => Pass1.ok x.1 x.2) (Classical.byContradiction fun hn => hx fun x hx' => Classical.byContradiction fun hg => hn ⟨x, hx', hg⟩)) rfl ?_
      simp only [evA, evT, evD, seval]
theorem Pass.ok (H u : Nat) (hH : 0 < H) (hH16 : H ≤ 16) (hu : u ≤ 16) (hu0 : 0 < u) (hn : xs.length = 4 * H * u) (hand : Go.bits .and .i64 H ((H : Int) - 1) = 0) (h1 : lens xs.length) (h2 : (ws.length : Int) = xs.length) (hset : setP bits s mode) (hx : nears 2147483648 xs) (hr : nears (2 ^ bits.toNat) ws) :
    Ok Tryz.prog 79 [.sl 2 (cxRows xs), .sl 2 (cxRows ws), .int H, .int bits, .int s, .int mode, .bool inv] (.tup [.sl 2 (cxRows (pV inv bits s mode xs ws H u)), .int 0]) := by
  have d4 := div4 hl
  have hpos : 0 < 4 * H * u := Nat.mul_pos (by omega) hu0
  have k1 : ¬ (H : Int) < 1 := by omega
  have k2 : ¬ (xs.length : Int) / 4 < H := by
    have : 4 * H * 1 ≤ 4 * H * u := Nat.mul_le_mul_left _ hu0
    omega
  have k3 : IntKind.i64.wrap ((H : Int) - 1) = H - 1 := wr (by omega)
  have m4 : IntKind.i64.wrap (4 * (H : Int)) = ((4 * H : Nat) : Int) := by rw [wr (by omega)]; omega
  have hdiv : IntKind.i64.wrap ((xs.length : Int).tdiv ((4 * H : Nat) : Int)) = u := by
    rw [Int.tdiv_eq_ediv_of_nonneg (by omega), hn, Int.natCast_mul (4 * H) u, Int.mul_ediv_cancel_left _ (by omega)]
    exact wr (by omega)
  have hnz : ¬ ((4 * H : Nat) : Int) = 0 := by omega
  refine ok_of (X := fun r => if Nat.beq r 12 then [[], [.const (.bool true)]] else if Nat.beq r 16 then [[], [], [], [], [], [], [], [], [], [], [], [], [], [], [], [], [], [], [], [], [], [], [.const (.bool true)]] else []) (Z := fun _ => false) (res := [ResultVar.tmp 14, ResultVar.tmp 15]) tok follows Tryz.func79 rfl rfl fine79 (by kernel_rfl) (by kernel_rfl) ?_
  simp only [evA, evT, evD, seval, cx_len]
  refine call_ok (Log.ok _ h1) rfl ?_
  simp only [evA, evT, evD, seval, cx_len, h2, d4, k1, k2, k3, hand]
  refine call_ok (settings4.ok bits s mode) rfl ?_
  simp only [evA, evT, evD, seval, decide_eq_true hset, cx_free]
  refine call_ok (contains.no 122 [] (fun x => ¬ win 2147483648 x.1 x.2) xs (by omega) (fun _ => rfl) (fun _ => rfl) rfl (fun x _ => Pass1.ok x.1 x.2) (fun x hx' hn => hn (hx x hx'))) rfl ?_
  simp only [evA, evT, evD, seval, cx_free]
  refine call_ok (contains.no 124 [.box [.int bits] 0] (fun x => ¬ win (2 ^ bits.toNat) x.1 x.2) ws (by omega) (fun _ => rfl) (fun _ => rfl) rfl (fun x _ => Pass2.ok x.1 x.2 bits hset.1) (fun x hx' hn => hn (hr x hx'))) rfl ?_
  simp only [evA, evT, evD, seval, cx_free]
  refine call_eff [] (Clone.ok xs hl (by omega)) rfl (by decide) ?_ ?_ rfl ?_ ?_ ?_ ?_ rfl rfl ?_
  all_goals simp only [evA, evB, evT, evD, seval, cx_free, cx_lt, cx_ren, lt_sl, rn_sl]
  refine l_inv (fun k => ⟨[(21, .int ((4 * H * k : Nat) : Int)), (20, .own 1), (10, .loc 0 0), (0, .sl 2 (cxRows xs)), (1, .sl 2 (cxRows ws)), (2, .int H), (4, .int s), (5, .int mode), (6, .bool inv)], [(1, some (.row 43 2 (cxRows (cP inv bits s mode xs ws H u k)))), (0, some (.box [.int bits]))], 2⟩) u ?_ (fun k hk K hK => ?_) (fun K => ?_)
  · refine weak_of (fun l => l) rfl ?_ ?_
    all_goals simp only [evA, evB, evT, evD, seval, cx_free, cP_zero, List.getD_nil, Nat.mul_zero, Int.natCast_zero]
  · have hk1 : 4 * H * (k + 1) ≤ 4 * H * u := Nat.mul_le_mul_left _ hk
    have hk2 : 4 * H * (k + 1) = 4 * H * k + 4 * H := by rw [Nat.mul_add, Nat.mul_one]
    have r1 : ((4 * H * k : Nat) : Int) < xs.length := by omega
    have r2 : IntKind.i64.wrap (((4 * H * k : Nat) : Int) + ((4 * H : Nat) : Int)) = ((4 * H * (k + 1) : Nat) : Int) := by rw [wr (by omega)]; omega
    have r3 : (0 : Int) ≤ ((4 * H * k : Nat) : Int) := by omega
    have r4 : ((4 * H * k : Nat) : Int) < ((4 * H * (k + 1) : Nat) : Int) := by omega
    have r5 : ((4 * H * (k + 1) : Nat) : Int) ≤ xs.length := by omega
    have r6 : (((4 * H * (k + 1) : Nat) : Int) - ((4 * H * k : Nat) : Int)).toNat = 4 * H := by omega
    have hst := cP_step inv bits s mode xs ws H u (k := k) hH (by omega)
    have hB : BlockH bits s mode (cP inv bits s mode xs ws H u k) ws (4 * H * k) H u (4 * H) := {
      len := by rw [cP_len]; exact hl
      wlen := hw
      n4 := rfl
      fit := by rw [cP_len]; omega
      set := hset
      near := fun i h1 h2 => by
        rw [cP_at _ _ _ _ _ _ _ _ (by omega) h1]
        exact near_get hx (by omega)
      roots := hr
      hu := fun a j ha hj => by
        have : a * j * u ≤ 3 * (H - 1) * u := Nat.mul_le_mul_right _ (Nat.mul_le_mul (by omega) (by omega))
        have h3 : 3 * (H - 1) * u < 4 * H * u := Nat.mul_lt_mul_of_pos_right (by omega) hu0
        omega
      ub := by omega }
    simp only [evA, evB, evT, evD, seval, cx_len, cP_len, r1, m4, r2, r3, r4, r5, r6, Int.toNat_natCast, hdiv, hnz, cx_free]
    refine call_eff [1] (block.ok inv bits s mode (cP inv bits s mode xs ws H u k) ws (4 * H * k) H u (4 * H) hB) rfl (by decide) ?_ ?_ rfl ?_ ?_ ?_ ?_ rfl rfl ?_
    all_goals simp only [evA, evB, evT, evD, seval, cx_free, cx_lt, cx_ren, lt_sl, rn_sl, m4, r2]
    refine hK _ (weak_of (fun l => l) rfl ?_ ?_)
    all_goals simp only [evA, evB, evT, evD, seval, cx_free, hst]
  · have r1 : ¬ ((4 * H * u : Nat) : Int) < xs.length := by omega
    simp only [evA, evT, evD, seval, cx_len, cP_len, pV_len, r1, cx_free, cP_all inv bits s mode xs ws H u hn]
end
end Go.Proofs.YtnnjjblgilibgaaGreatV
/- Contract: the document's pass of quarters. -/
namespace Go.Proofs.YtnnjjblgilibgaaGreatV
open Go Go.RowKit
set_option linter.unusedVariables false
set_option linter.unusedSimpArgs false
set_option maxRecDepth 100000
set_option maxHeartbeats 40000000
theorem fine65 : Fine Tryz.prog 65 := fun _ _ => by kernel_rfl
theorem tmod_nat (a b : Nat) : (a : Int).tmod b = ((a % b : Nat) : Int) := by
  rw [Int.tmod_eq_emod_of_nonneg (by omega), Int.natCast_emod]
theorem tdiv_nat (a b : Nat) : (a : Int).tdiv b = ((a / b : Nat) : Int) := by
  rw [Int.tdiv_eq_ediv_of_nonneg (by omega), Int.natCast_ediv]
theorem cx_cut {xs : List (Int × Int)} {a b : Nat} : ((cxRows xs).take b).drop a = cxRows ((xs.take b).drop a) := by
  unfold cxRows
  rw [List.map_drop, List.map_take]
theorem cut_at {xs : List (Int × Int)} {a b i : Nat} (hi : a + i < b) (hb : b ≤ xs.length) : (cxRows ((xs.take b).drop a)).getD i [] = [.int (xs.getD (a + i) (0, 0)).1, .int (xs.getD (a + i) (0, 0)).2] := by
  rw [cx_getD (by simp; omega)]
  have : ((xs.take b).drop a).getD i (0, 0) = xs.getD (a + i) (0, 0) := by
    rw [getD_at (by simp; omega), getD_at (by omega)]
    simp
  rw [this]
theorem cx_push {xs : List (Int × Int)} {a b : Int} : cxRows xs ++ [[.int a, .int b]] = cxRows (xs ++ [(a, b)]) := by simp [cxRows]
theorem take_push {xs : List (Int × Int)} {i : Nat} (h : i < xs.length) : xs.take i ++ [xs.getD i (0, 0)] = xs.take (i + 1) := by
  rw [getD_at h, List.take_append_getElem h]
section
variable (inv : Bool) (bits s mode : Int) (xs ws : List (Int × Int)) (H u : Nat)
theorem pV_at {i : Nat} (hi : i < xs.length) : (pV inv bits s mode xs ws H u).getD i (0, 0) = pT inv bits s mode xs ws H u i := by
  unfold pV
  rw [mix_at hi]
  rfl
theorem RPass.ok (hl : xs.length ≤ 1000000) (hH : 0 < H) (hH16 : H ≤ 16) (hu : u ≤ 16) (hu0 : 0 < u) (hn : xs.length = 4 * H * u) (h2 : (ws.length : Int) = xs.length) (hset : setP bits s mode) (hx : nears 2147483648 xs) (hr : nears (2 ^ bits.toNat) ws) :
    Ok Tryz.prog 65 [.sl 2 (cxRows xs), .sl 2 (cxRows ws), .int H, .int bits, .int s, .int mode, .bool inv] (.sl 2 (cxRows (pV inv bits s mode xs ws H u))) := by
  have m4 : IntKind.i64.wrap (4 * (H : Int)) = ((4 * H : Nat) : Int) := by rw [wr (by omega)]; omega
  have m3 : IntKind.i64.wrap (3 * (H : Int)) = ((3 * H : Nat) : Int) := by rw [wr (by omega)]; omega
  have m2 : IntKind.i64.wrap (2 * (H : Int)) = ((2 * H : Nat) : Int) := by rw [wr (by omega)]; omega
  have hdiv : IntKind.i64.wrap ((xs.length : Int).tdiv ((4 * H : Nat) : Int)) = u := by
    rw [Int.tdiv_eq_ediv_of_nonneg (by omega), hn, Int.natCast_mul (4 * H) u, Int.mul_ediv_cancel_left _ (by omega)]
    exact wr (by omega)
  have hnz : ¬ ((4 * H : Nat) : Int) = 0 := by omega
  have hnz1 : ¬ (H : Int) = 0 := by omega
  have hp := pow29 hset.1
  have hroot : ∀ k, k < ws.length → win (2 ^ bits.toNat) (rootV ws inv k).1 (rootV ws inv k).2 := fun k hk => by
    have := near_get hr hk
    cases inv
    · exact this
    · show win (2 ^ bits.toNat) (ws.getD k (0, 0)).1 (-(ws.getD k (0, 0)).2)
      unfold win at *
      omega
  have hbig : ∀ k, k < ws.length → win 2305843009213693952 (ws.getD k (0, 0)).1 (ws.getD k (0, 0)).2 := fun k hk => win_mono (near_get hr hk) (by omega)
  refine ok_of (X := fun _ => []) (Z := fun _ => false) (res := [ResultVar.tmp 14]) tok follows Tryz.func65 rfl rfl fine65 (by kernel_rfl) (by kernel_rfl) ?_
  simp only [evA, evT, evD, seval, cx_len, m4, hdiv, hnz]
  refine l_inv (fun i => ⟨[(18, .int i), (17, .own 0), (16, .int u), (15, .int xs.length), (0, .sl 2 (cxRows xs)), (1, .sl 2 (cxRows ws)), (2, .int H), (3, .int bits), (4, .int s), (5, .int mode), (6, .bool inv)], [(0, some (.row 43 2 (cxRows ((pV inv bits s mode xs ws H u).take i))))], 1⟩) xs.length ?_ (fun i hi K hK => ?_) (fun K => ?_)
  · refine weak_of (fun l => l) rfl ?_ ?_
    all_goals simp only [evA, evB, evT, evD, seval, cx_free, Int.natCast_zero]
    simp [cxRows]
  · have hdm := Nat.div_add_mod i (4 * H)
    have hmod := Nat.mod_lt i (show 0 < 4 * H by omega)
    have hgu : 4 * H * (i / (4 * H)) + 4 * H ≤ xs.length := by
      have h1 : i / (4 * H) < u := Nat.div_lt_of_lt_mul (by omega)
      have h2 : 4 * H * (i / (4 * H) + 1) ≤ 4 * H * u := Nat.mul_le_mul_left _ h1
      rw [Nat.mul_add, Nat.mul_one] at h2
      omega
    have hj := Nat.mod_lt (i - 4 * H * (i / (4 * H))) hH
    have hjm : i % H = (i - 4 * H * (i / (4 * H))) % H := by
      conv => lhs; rw [show i = H * (4 * (i / (4 * H))) + (i - 4 * H * (i / (4 * H))) by rw [show H * (4 * (i / (4 * H))) = 4 * H * (i / (4 * H)) by rw [← Nat.mul_assoc, Nat.mul_comm H 4]]; omega]
      rw [Nat.mul_add_mod]
    have hq : (i - 4 * H * (i / (4 * H))) / H < 4 := Nat.div_lt_of_lt_mul (by omega)
    have hpT : pT inv bits s mode xs ws H u i = bq inv bits s mode xs ws (4 * H * (i / (4 * H))) H u ((i - 4 * H * (i / (4 * H))) % H) (((i - 4 * H * (i / (4 * H))) / H : Nat) : Int) := rfl
    have hpush := take_push (xs := pV inv bits s mode xs ws H u) (i := i) (by rw [pV_len]; exact hi)
    rw [pV_at inv bits s mode xs ws H u hi, hpT] at hpush
    have c1 : (i : Int).tmod ((4 * H : Nat) : Int) = ((i % (4 * H) : Nat) : Int) := tmod_nat i (4 * H)
    have c2 : (i : Int).tmod (H : Int) = (((i - 4 * H * (i / (4 * H))) % H : Nat) : Int) := by rw [tmod_nat, hjm]
    have c4 : IntKind.i64.wrap ((i : Int) - ((i % (4 * H) : Nat) : Int)) = ((4 * H * (i / (4 * H)) : Nat) : Int) := by rw [wr (by omega)]; omega
    generalize hg : 4 * H * (i / (4 * H)) = g at *
    have c3 : IntKind.i64.wrap (((i - g : Nat) : Int).tdiv (H : Int)) = (((i - g) / H : Nat) : Int) := by
      rw [tdiv_nat]
      have := Nat.div_le_self (i - g) H
      generalize (i - g) / H = Q at *
      exact wr (by omega)
    have c5 : IntKind.i64.wrap ((i : Int) - (g : Int)) = ((i - g : Nat) : Int) := by rw [wr (by omega)]; omega
    generalize (i - g) % H = j at *
    generalize (i - g) / H = q at *
    have hju : ∀ a, a < 4 → a * j * u < ws.length := fun a ha => by
      have : a * j * u ≤ 3 * (H - 1) * u := Nat.mul_le_mul_right _ (Nat.mul_le_mul (by omega) (by omega))
      have h3 : 3 * (H - 1) * u < 4 * H * u := Nat.mul_lt_mul_of_pos_right (by omega) hu0
      omega
    have u1 : j * u < ws.length := by have := hju 1 (by decide); rwa [Nat.one_mul] at this
    have u2 := hju 2 (by decide)
    have u3 := hju 3 (by decide)
    have d1 : IntKind.i64.wrap ((g : Int) + (j : Int)) = ((g + j : Nat) : Int) := by rw [wr (by omega)]; omega
    have d2 : IntKind.i64.wrap ((g : Int) + ((3 * H : Nat) : Int)) = ((g + 3 * H : Nat) : Int) := by rw [wr (by omega)]; omega
    have d3 : IntKind.i64.wrap (((g + 3 * H : Nat) : Int) + (j : Int)) = ((g + 3 * H + j : Nat) : Int) := by rw [wr (by omega)]; omega
    have d4 : IntKind.i64.wrap (((g + 3 * H + j : Nat) : Int) + 1) = ((g + 3 * H + j + 1 : Nat) : Int) := by rw [wr (by omega)]; omega
    have d5 : IntKind.i64.wrap ((j : Int) * (u : Int)) = ((j * u : Nat) : Int) := by rw [← Int.natCast_mul, wr (by omega)]
    have d6 : IntKind.i64.wrap (2 * (j : Int)) = ((2 * j : Nat) : Int) := by rw [wr (by omega)]; omega
    have d7 : IntKind.i64.wrap (3 * (j : Int)) = ((3 * j : Nat) : Int) := by rw [wr (by omega)]; omega
    have d8 : IntKind.i64.wrap (((2 * j : Nat) : Int) * (u : Int)) = ((2 * j * u : Nat) : Int) := by rw [← Int.natCast_mul, wr (by omega)]
    have d9 : IntKind.i64.wrap (((3 * j : Nat) : Int) * (u : Int)) = ((3 * j * u : Nat) : Int) := by rw [← Int.natCast_mul, wr (by omega)]
    have s1 : (0 : Int) ≤ ((g + j : Nat) : Int) := by omega
    have s2 : ((g + j : Nat) : Int) ≤ ((g + 3 * H + j + 1 : Nat) : Int) := by omega
    have s3 : ((g + 3 * H + j + 1 : Nat) : Int) ≤ xs.length := by omega
    have hyl : ((((xs.take (g + 3 * H + j + 1)).drop (g + j)).length : Nat) : Int) = ((3 * H + 1 : Nat) : Int) := by
      rw [List.length_drop, List.length_take]
      omega
    have t0 := cut_at (xs := xs) (a := g + j) (b := g + 3 * H + j + 1) (i := 0) (by omega) (by omega)
    have t1 := cut_at (xs := xs) (a := g + j) (b := g + 3 * H + j + 1) (i := H) (by omega) (by omega)
    have t2 := cut_at (xs := xs) (a := g + j) (b := g + 3 * H + j + 1) (i := 2 * H) (by omega) (by omega)
    have t3 := cut_at (xs := xs) (a := g + j) (b := g + 3 * H + j + 1) (i := 3 * H) (by omega) (by omega)
    have y0 : (0 : Int) < ((3 * H + 1 : Nat) : Int) := by omega
    have y1 : (H : Int) < ((3 * H + 1 : Nat) : Int) := by omega
    have y2 : ((2 * H : Nat) : Int) < ((3 * H + 1 : Nat) : Int) := by omega
    have y3 : ((3 * H : Nat) : Int) < ((3 * H + 1 : Nat) : Int) := by omega
    have z1 : (0 : Int) ≤ (H : Int) := by omega
    have z2 : (0 : Int) ≤ ((2 * H : Nat) : Int) := by omega
    have z3 : (0 : Int) ≤ ((3 * H : Nat) : Int) := by omega
    have q0 : (i : Int) < xs.length := by omega
    have q1 : IntKind.i64.wrap ((i : Int) + 1) = ((i + 1 : Nat) : Int) := by rw [wr (by omega)]; omega
    rw [show g + j + 0 = g + j from rfl] at t0
    rw [show g + j + H = g + (H + j) by omega] at t1
    rw [show g + j + 2 * H = g + (2 * H + j) by omega] at t2
    rw [show g + j + 3 * H = g + (3 * H + j) by omega] at t3
    have n0 := near_get hx (i := g + j) (by omega)
    have n1 := near_get hx (i := g + (H + j)) (by omega)
    have n2 := near_get hx (i := g + (2 * H + j)) (by omega)
    have n3 := near_get hx (i := g + (3 * H + j)) (by omega)
    simp only [evA, evT, evD, seval, q0, m2, m3, m4, hnz, hnz1, c1, c2, c3, c4, c5, d1, d2, d3, d4, s1, s2, s3, cx_len, Int.toNat_natCast, cx_cut, hyl, y0, y1, y2, y3, z1, z2, z3, t0, t1, t2, t3, d5, d6, d7, d8, d9, cx_free]
    refine call_ok (RRoot.ok ws inv (j * u) u1 (hbig _ u1)) rfl ?_
    simp only [evA, evT, evD, seval, d6, d8, cx_free]
    refine call_ok (RRoot.ok ws inv (2 * j * u) u2 (hbig _ u2)) rfl ?_
    simp only [evA, evT, evD, seval, d7, d9, cx_free]
    refine call_ok (RRoot.ok ws inv (3 * j * u) u3 (hbig _ u3)) rfl ?_
    simp only [evA, evT, evD, seval]
    refine call_ok (Products.ok bits _ _ _ _ _ _ _ _ _ _ _ _ _ _ hset.1 n0 n2 n1 n3 (hroot _ u1) (hroot _ u2) (hroot _ u3)) rfl ?_
    simp only [evA, evT, evD, seval]
    have w0 : win 1152921504606846976 ((xs.getD (g + j) (0, 0)).1 * 2 ^ bits.toNat) ((xs.getD (g + j) (0, 0)).2 * 2 ^ bits.toNat) := by
      have a1 := (shl29 (a := (xs.getD (g + j) (0, 0)).1) hset.1 (by unfold win at n0; omega)).2
      have a2 := (shl29 (a := (xs.getD (g + j) (0, 0)).2) hset.1 (by unfold win at n0; omega)).2
      unfold win
      omega
    have hO : Ok Tryz.prog 101 _ (cxA (bq inv bits s mode xs ws g H u j q).1 (bq inv bits s mode xs ws g H u j q).2) := Out.ok inv q bits s mode _ _ _ _ _ _ _ _ (by omega) hset.1 hset.2.1 hset.2.2 w0 (times_win n2 (hroot _ u1) hp) (times_win n1 (hroot _ u2) hp) (times_win n3 (hroot _ u3) hp)
    have hti : ((pV inv bits s mode xs ws H u).take i).length = i := by rw [List.length_take, pV_len]; omega
    have hi1 : (i + 1) * 16 ≤ 140737488355328 := by omega
    have hi2 : i + 1 ≤ 9223372036854775807 := by omega
    refine call_ok hO rfl ?_
    simp only [evA, evB, evT, evD, seval, cx_len, hti, hi1, hi2, cx_push, hpush, q1]
    refine hK _ (weak_of (fun l => l + 3) rfl ?_ ?_)
    all_goals simp only [evA, evB, evT, evD, seval, cx_free]
  · have : (pV inv bits s mode xs ws H u).take xs.length = pV inv bits s mode xs ws H u := List.take_of_length_le (by rw [pV_len]; exact Nat.le_refl _)
    simp only [evA, evT, evD, seval, cx_free, this]
end
end Go.Proofs.YtnnjjblgilibgaaGreatV

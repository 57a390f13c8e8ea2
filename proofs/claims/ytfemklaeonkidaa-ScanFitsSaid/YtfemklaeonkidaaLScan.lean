/- What the program's and the document's functions of layer 9 answer, in closed form; numbers are of their kind. -/
import Derived.Test.YtfemklaeonkidaaPx0
import Derived.Test.YtfemklaeonkidaaPx10
import Derived.Test.YtfemklaeonkidaaPx12
import Derived.Test.YtfemklaeonkidaaPx13
import Derived.Test.YtfemklaeonkidaaPx8
import Derived.Test.YtfemklaeonkidaaLMath
import Derived.Test.YtfemklaeonkidaaLRound
import Derived.Test.YtfemklaeonkidaaLSat0
import Derived.Test.YtfemklaeonkidaaLCx0
namespace Go.Proofs.Ytfemklaeonkidaa.P
open Go.RowKit Go.Proofs.Ytfemklaeonkidaa.P Go.Proofs.YtfemklaeonkidaaW.PrintWords Go.Proofs.YtfemklaeonkidaaW.PrintLast Go.Proofs.YtfemklaeonkidaaW.PrintMore Go.Proofs.YtfemklaeonkidaaW.Hand
set_option linter.unusedVariables false
set_option linter.unusedSimpArgs false
theorem rd_get {l : List S37} {i : Int} (h0 : 0 ≤ i) (h : i.toNat < l.length) : rd_T37 l i = l[i.toNat] := by simp [rd_T37, List.getD_eq_getElem?_getD, List.getElem?_eq_getElem h]
def nar (a : S37) : Bool := win 2147483648 a.f0 a.f1
def mxa (m x : Int) : Int := max m (max x (-x))
def gstep (m : Int) (a : S37) : Int := mxa (mxa m a.f0) a.f1
def gmax (l : List S37) : Int := l.foldl gstep 0
theorem mxa_ge (m x : Int) : m ≤ mxa m x ∧ x ≤ mxa m x ∧ -x ≤ mxa m x := by
  unfold mxa
  omega
theorem mxa_le {m x b : Int} (h1 : m ≤ b) (h2 : -b ≤ x) (h3 : x ≤ b) : mxa m x ≤ b := by
  unfold mxa
  omega
theorem nar_bd {a : S37} (h : nar a = true) : -2147483648 ≤ a.f0 ∧ a.f0 ≤ 2147483648 ∧ -2147483648 ≤ a.f1 ∧ a.f1 ≤ 2147483648 := by
  have := win_true h
  omega
theorem fold_bd (l : List S37) (hl : l.all nar = true) : ∀ m : Int, 0 ≤ m → m ≤ 2147483648 → 0 ≤ l.foldl gstep m ∧ l.foldl gstep m ≤ 2147483648 := by
  induction l with
  | nil => exact fun m h0 h1 => ⟨h0, h1⟩
  | cons a l ih =>
    intro m h0 h1
    rw [List.all_cons, Bool.and_eq_true] at hl
    have hb := nar_bd hl.1
    have e1 := mxa_ge m a.f0
    have e2 := mxa_ge (mxa m a.f0) a.f1
    have e3 := mxa_le (m := m) (x := a.f0) (b := 2147483648) h1 (by omega) (by omega)
    have e4 := mxa_le (m := mxa m a.f0) (x := a.f1) (b := 2147483648) e3 (by omega) (by omega)
    rw [List.foldl_cons]
    exact ih hl.2 _ (by unfold gstep; omega) (by unfold gstep; omega)
theorem gmax_bd {l : List S37} (hl : l.all nar = true) : 0 ≤ gmax l ∧ gmax l ≤ 2147483648 := fold_bd l hl 0 (by decide) (by decide)
theorem fold_ge (l : List S37) : ∀ m : Int, m ≤ l.foldl gstep m ∧ ∀ a ∈ l, a.f0 ≤ l.foldl gstep m ∧ -a.f0 ≤ l.foldl gstep m ∧ a.f1 ≤ l.foldl gstep m ∧ -a.f1 ≤ l.foldl gstep m := by
  induction l with
  | nil => exact fun m => ⟨Int.le_refl _, fun a h => by cases h⟩
  | cons a l ih =>
    intro m
    obtain ⟨h1, h2⟩ := ih (gstep m a)
    have e1 := mxa_ge m a.f0
    have e2 := mxa_ge (mxa m a.f0) a.f1
    rw [List.foldl_cons]
    have e3 : gstep m a = mxa (mxa m a.f0) a.f1 := rfl
    refine ⟨by omega, fun b hb => ?_⟩
    rcases List.mem_cons.1 hb with rfl | hb
    · omega
    · exact h2 b hb
theorem gmax_ge {l : List S37} {a : S37} (h : a ∈ l) : a.f0 ≤ gmax l ∧ -a.f0 ≤ gmax l ∧ a.f1 ≤ gmax l ∧ -a.f1 ≤ gmax l := (fold_ge l 0).2 a h
theorem greatest3 {k : Nat} {m x y : Int} (hk : 10 ≤ k) (hm : 0 ≤ m ∧ m ≤ 2147483648) (hx : -2147483648 ≤ x ∧ x ≤ 2147483648) (hy : -2147483648 ≤ y ∧ y ≤ 2147483648) : scan_greatest.f k [m, x, y] = some (mxa (mxa m x) y) := by
  obtain ⟨k, rfl⟩ : ∃ n, k = n + 4 := ⟨k - 4, by omega⟩
  unfold scan_greatest.f
  have r0 : rd [m, x, y] 0 = m := rfl
  have r1 : rd [m, x, y] 1 = x := rfl
  have r2 : rd [m, x, y] 2 = y := rfl
  have l3 : (([m, x, y] : List Int).length : Int) = 3 := rfl
  have a1 : wrap64 (0 + 1) = 1 := w64 (by omega)
  have a2 : wrap64 (1 + 1) = 2 := w64 (by omega)
  have a3 : wrap64 (2 + 1) = 3 := w64 (by omega)
  rw [l3, scan_greatest.l0, if_pos (by decide), if_pos (by decide), l3, if_pos (by decide), r0, a1]
  rw [scan_greatest.l0, if_pos (by decide), if_pos (by decide), l3, if_pos (by decide), r1, a2]
  rw [scan_greatest.l0, if_pos (by decide), if_pos (by decide), l3, if_pos (by decide), r2, a3]
  rw [scan_greatest.l0, if_neg (by decide)]
  rw [w64 (a := -m) (by omega), w64 (a := -x) (by omega), w64 (a := -y) (by omega)]
  congr 1
  have e0 : mx (mx 0 m) (-m) = m := by unfold mx; split <;> split <;> omega
  have e1 : ∀ p z : Int, 0 ≤ p → mx (mx p z) (-z) = mxa p z := by
    intro p z hp
    unfold mx mxa
    split <;> split <;> omega
  rw [e0, e1 m x hm.1, e1 _ y (by have := mxa_ge m x; omega)]
theorem scan_Max_l (l : List S37) (hl : l.length ≤ 1000) (d : Nat) : ∀ (k : Nat) (i m : Int), 0 ≤ i → (l.length : Int) - i = d → d + 20 < k → 0 ≤ m → m ≤ 2147483648 →
    scan_Max.l0 k m l (l.length : Int) i = some (if (l.drop i.toNat).all nar = true then ((l.drop i.toNat).foldl gstep m, 0) else (0, 2)) := by
  induction d with
  | zero =>
    intro k i m hi hd hk h0 h1
    obtain ⟨k, rfl⟩ : ∃ n, k = n + 1 := ⟨k - 1, by omega⟩
    rw [scan_Max.l0, if_neg (by omega), List.drop_of_length_le (by omega)]
    rfl
  | succ d ih =>
    intro k i m hi hd hk h0 h1
    obtain ⟨k, rfl⟩ : ∃ n, k = n + 1 := ⟨k - 1, by omega⟩
    have hlt : i.toNat < l.length := by omega
    rw [scan_Max.l0, if_pos (by omega), if_pos hi, if_pos (by omega), rd_get hi hlt, List.drop_eq_getElem_cons hlt, List.all_cons, List.foldl_cons]
    cases hn : nar l[i.toNat] with
    | false =>
      have := win_false hn
      rw [Bool.false_and, if_neg (show ¬ (false = true) by decide)]
      by_cases h2 : mn l[i.toNat].f0 l[i.toNat].f1 < -2147483648
      · rw [if_pos h2]
      · rw [if_neg h2, if_pos (by unfold mn at h2; unfold mx; split at h2 <;> split <;> omega)]
    | true =>
      have hb := nar_bd hn
      have e1 := mxa_ge m l[i.toNat].f0
      have e2 := mxa_ge (mxa m l[i.toNat].f0) l[i.toNat].f1
      have e3 := mxa_le (m := m) (x := l[i.toNat].f0) (b := 2147483648) h1 (by omega) (by omega)
      have e4 := mxa_le (m := mxa m l[i.toNat].f0) (x := l[i.toNat].f1) (b := 2147483648) e3 (by omega) (by omega)
      rw [if_neg (by unfold mn; split <;> omega), if_neg (by unfold mx; split <;> omega), greatest3 (by omega) ⟨h0, h1⟩ (by omega) (by omega), Option.bind_some, w64 (a := i + 1) (by omega)]
      rw [ih k (i + 1) _ (by omega) (by omega) (by omega) (by omega) (by omega), show (i + 1).toNat = i.toNat + 1 by omega, Bool.true_and]
      rfl
def maxf (l : List S37) : Int × Int := if l.all nar = true then (gmax l, 0) else (0, 2)
theorem scan_Max_eq {k : Nat} {l : List S37} (hl : l.length ≤ 1000) (hk : 1100 ≤ k) : scan_Max.f k l = some (maxf l) := by
  unfold scan_Max.f
  rw [scan_Max_l l hl l.length k 0 0 (by decide) (by omega) (by omega) (by decide) (by decide)]
  rfl
theorem ref_Narrow_l (l : List S37) (hl : l.length ≤ 1000) (d : Nat) : ∀ (k : Nat) (i : Int), 0 ≤ i → (l.length : Int) - i = d → d + 70 < k →
    headroomref09_Narrow.l0 k l (l.length : Int) i = some ((l.drop i.toNat).all nar) := by
  induction d with
  | zero =>
    intro k i hi hd hk
    obtain ⟨k, rfl⟩ : ∃ n, k = n + 1 := ⟨k - 1, by omega⟩
    rw [headroomref09_Narrow.l0, if_neg (by omega), List.drop_of_length_le (by omega)]
    rfl
  | succ d ih =>
    intro k i hi hd hk
    obtain ⟨k, rfl⟩ : ∃ n, k = n + 1 := ⟨k - 1, by omega⟩
    have hlt : i.toNat < l.length := by omega
    have p31 : (2 : Int) ^ (31 : Int).toNat = 2147483648 := by decide
    rw [headroomref09_Narrow.l0, if_pos (by omega), if_pos hi, if_pos (by omega), ref_Pow (by omega) (by decide), Option.bind_some, p31, rd_get hi hlt, ref_Within (by decide) (by decide), Option.bind_some, List.drop_eq_getElem_cons hlt, List.all_cons]
    have e : win 2147483648 l[i.toNat].f0 l[i.toNat].f1 = nar l[i.toNat] := rfl
    rw [e]
    cases nar l[i.toNat] with
    | false => rfl
    | true => rw [if_pos rfl, w64 (a := i + 1) (by omega), ih k (i + 1) (by omega) (by omega) (by omega), show (i + 1).toNat = i.toNat + 1 by omega, Bool.true_and]
theorem ref_Narrow {k : Nat} {l : List S37} (hl : l.length ≤ 1000) (hk : 1100 ≤ k) : headroomref09_Narrow.f k l = some (l.all nar) := by
  unfold headroomref09_Narrow.f
  rw [ref_Narrow_l l hl l.length k 0 (by decide) (by omega) (by omega)]
  rfl
theorem ref_plain {x : Int} (hx : -2147483648 ≤ x ∧ x ≤ 2147483648) : headroomref09_plain.f x = some (if x < 0 then -x else x) := by
  unfold headroomref09_plain.f
  split
  · rw [w64 (by omega)]
  · rfl
theorem ref_Max_l (l : List S37) (hl : l.length ≤ 1000) (hn : l.all nar = true) (d : Nat) : ∀ (k : Nat) (i m : Int), 0 ≤ i → (l.length : Int) - i = d → 2 * d < k → 0 ≤ m → m ≤ 2147483648 →
    headroomref09_Max.l0 k m l (l.length : Int) i = some ((l.drop i.toNat).foldl gstep m) := by
  induction d with
  | zero =>
    intro k i m hi hd hk h0 h1
    obtain ⟨k, rfl⟩ : ∃ n, k = n + 1 := ⟨k - 1, by omega⟩
    rw [headroomref09_Max.l0, if_neg (by omega), List.drop_of_length_le (by omega)]
    rfl
  | succ d ih =>
    intro k i m hi hd hk h0 h1
    obtain ⟨k, rfl⟩ : ∃ n, k = n + 2 := ⟨k - 2, by omega⟩
    have hlt : i.toNat < l.length := by omega
    have hb := nar_bd (List.all_eq_true.1 hn _ (List.getElem_mem hlt))
    have e1 := mxa_ge m l[i.toNat].f0
    have e2 := mxa_ge (mxa m l[i.toNat].f0) l[i.toNat].f1
    have e3 := mxa_le (m := m) (x := l[i.toNat].f0) (b := 2147483648) h1 (by omega) (by omega)
    have e4 := mxa_le (m := mxa m l[i.toNat].f0) (x := l[i.toNat].f1) (b := 2147483648) e3 (by omega) (by omega)
    have key : ∀ p, headroomref09_Max.j1 (k + 1) p l (l.length : Int) i l[i.toNat].f0 l[i.toNat].f1 = headroomref09_Max.l0 k (if (if l[i.toNat].f1 < 0 then -l[i.toNat].f1 else l[i.toNat].f1) > p then (if l[i.toNat].f1 < 0 then -l[i.toNat].f1 else l[i.toNat].f1) else p) l (l.length : Int) (i + 1) := by
      intro p
      rw [headroomref09_Max.j1, ref_plain (by omega), Option.bind_some, Option.bind_some, w64 (a := i + 1) (by omega)]
      generalize (if l[i.toNat].f1 < 0 then -l[i.toNat].f1 else l[i.toNat].f1) = z
      split <;> rfl
    rw [headroomref09_Max.l0, if_pos (by omega), if_pos hi, if_pos (by omega), rd_get hi hlt, ref_plain (by omega), Option.bind_some, Option.bind_some, List.drop_eq_getElem_cons hlt, List.foldl_cons, key, key]
    have e5 : ∀ p z : Int, 0 ≤ p → (if (if z < 0 then -z else z) > p then (if z < 0 then -z else z) else p) = mxa p z := by
      intro p z hp
      unfold mxa
      split <;> omega
    have e6 : (if (if l[i.toNat].f0 < 0 then -l[i.toNat].f0 else l[i.toNat].f0) > m then (headroomref09_Max.l0 k (if (if l[i.toNat].f1 < 0 then -l[i.toNat].f1 else l[i.toNat].f1) > (if l[i.toNat].f0 < 0 then -l[i.toNat].f0 else l[i.toNat].f0) then (if l[i.toNat].f1 < 0 then -l[i.toNat].f1 else l[i.toNat].f1) else (if l[i.toNat].f0 < 0 then -l[i.toNat].f0 else l[i.toNat].f0)) l (l.length : Int) (i + 1)) else (headroomref09_Max.l0 k (if (if l[i.toNat].f1 < 0 then -l[i.toNat].f1 else l[i.toNat].f1) > m then (if l[i.toNat].f1 < 0 then -l[i.toNat].f1 else l[i.toNat].f1) else m) l (l.length : Int) (i + 1))) = headroomref09_Max.l0 k (gstep m l[i.toNat]) l (l.length : Int) (i + 1) := by
      unfold gstep
      rw [← e5 (mxa m l[i.toNat].f0) l[i.toNat].f1 (by omega), ← e5 m l[i.toNat].f0 h0]
      generalize (if l[i.toNat].f0 < 0 then -l[i.toNat].f0 else l[i.toNat].f0) = za
      generalize (if l[i.toNat].f1 < 0 then -l[i.toNat].f1 else l[i.toNat].f1) = zb
      split <;> rfl
    rw [e6, ih k (i + 1) _ (by omega) (by omega) (by omega) (by unfold gstep; omega) (by unfold gstep; omega), show (i + 1).toNat = i.toNat + 1 by omega]
theorem ref_Max {k : Nat} {l : List S37} (hl : l.length ≤ 1000) (hn : l.all nar = true) (hk : 2100 ≤ k) : headroomref09_Max.f k l = some (gmax l) := by
  unfold headroomref09_Max.f
  rw [ref_Max_l l hl hn l.length k 0 0 (by decide) (by omega) (by omega) (by decide) (by decide)]
  rfl
theorem cut_eq (l : List S37) : 0 ≤ mn (l.length : Int) 70 ∧ mn (l.length : Int) 70 ≤ (l.length : Int) ∧ (l.take (mn (l.length : Int) 70).toNat).length ≤ 70 := by
  rw [List.length_take]
  unfold mn
  split <;> omega
theorem same_self {k : Nat} {l : List S37} (hl : l.length ≤ 1000) (hk : 1100 ≤ k) : headroomref03_Same.f k l l = some true := by
  have key : ∀ (d k : Nat) (i : Int), 0 ≤ i → (l.length : Int) - i = d → d < k → headroomref03_Same.l0 k l l (l.length : Int) i = some true := by
    intro d
    induction d with
    | zero =>
      intro k i hi hd hk
      obtain ⟨k, rfl⟩ : ∃ n, k = n + 1 := ⟨k - 1, by omega⟩
      rw [headroomref03_Same.l0, if_neg (by omega)]
    | succ d ih =>
      intro k i hi hd hk
      obtain ⟨k, rfl⟩ : ∃ n, k = n + 1 := ⟨k - 1, by omega⟩
      rw [headroomref03_Same.l0, if_pos (by omega), if_pos hi, if_pos (by omega), if_pos (by omega)]
      simp only [beq_self_eq_true, Bool.not_true, Bool.or_self, Bool.false_eq_true, if_false]
      rw [w64 (a := i + 1) (by omega)]
      exact ih k (i + 1) (by omega) (by omega) (by omega)
  unfold headroomref03_Same.f
  rw [if_pos rfl]
  exact key l.length k 0 (by decide) (by omega) (by omega)
end Go.Proofs.Ytfemklaeonkidaa.P

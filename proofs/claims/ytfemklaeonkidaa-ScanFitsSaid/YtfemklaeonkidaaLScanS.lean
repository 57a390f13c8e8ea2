/- Shifts of layer 9, in closed form; numbers are of their kind. -/
import Derived.Test.YtfemklaeonkidaaPx0
import Derived.Test.YtfemklaeonkidaaPx18
import Derived.Test.YtfemklaeonkidaaPx20
import Derived.Test.YtfemklaeonkidaaPx21
import Derived.Test.YtfemklaeonkidaaPx7
import Derived.Test.YtfemklaeonkidaaLMath
import Derived.Test.YtfemklaeonkidaaLRound
import Derived.Test.YtfemklaeonkidaaLScan
import Derived.Test.YtfemklaeonkidaaLScanR
namespace Go.Proofs.Ytfemklaeonkidaa.P
open Go.RowKit Go.Proofs.Ytfemklaeonkidaa.P Go.Proofs.YtfemklaeonkidaaW.PrintWords Go.Proofs.YtfemklaeonkidaaW.PrintLast Go.Proofs.YtfemklaeonkidaaW.PrintMore Go.Proofs.YtfemklaeonkidaaW.Hand
set_option linter.unusedVariables false
set_option linter.unusedSimpArgs false
def wide (a : S37) : Prop := (-9223372036854775808 ≤ a.f0 ∧ a.f0 ≤ 9223372036854775807) ∧ -9223372036854775808 ≤ a.f1 ∧ a.f1 ≤ 9223372036854775807
theorem wide_take {l0 : List S37} {n : Nat} (h : ∀ x ∈ l0, (Lit.int .i64 x.f0).wf = true ∧ (Lit.int .i64 x.f1).wf = true) : ∀ x ∈ l0.take n, wide x := fun x hx => ⟨wf64 (h x (List.mem_of_mem_take hx)).1, wf64 (h x (List.mem_of_mem_take hx)).2⟩
theorem ref_Up {k : Nat} {x s : Int} (hk : 64 ≤ k) (hs : 0 ≤ s ∧ s ≤ 62) : headroomref09_Up.f k x s = some (canUp s x) := by
  have hp := pow_bd (n := (62 - s).toNat) (by omega)
  unfold headroomref09_Up.f canUp
  rw [w64 (a := 62 - s) (by omega), ref_Pow hk (by omega)]
  simp only [Option.bind_some]
  rw [w64 (by omega)]
  by_cases h : x ≤ 2 ^ (62 - s).toNat
  · rw [if_pos h]
    congr 1
    rw [decide_eq_decide]
    omega
  · rw [if_neg h, decide_eq_false (by omega)]
def ups (s : Int) (a : S37) : Bool := canUp s a.f0 && canUp s a.f1
theorem ref_Ups {k : Nat} {l : List S37} {s : Int} (hl : l.length ≤ 1000) (hk : 1100 ≤ k) (hs : 0 ≤ s ∧ s ≤ 62) : headroomref09_Ups.f k l s = some (l.all (ups s)) := by
  have key : ∀ (d k : Nat) (i : Int), 0 ≤ i → (l.length : Int) - i = d → d + 70 < k → headroomref09_Ups.l0 k s l (l.length : Int) i = some ((l.drop i.toNat).all (ups s)) := by
    intro d
    induction d with
    | zero =>
      intro k i hi hd hk
      obtain ⟨k, rfl⟩ : ∃ n, k = n + 1 := ⟨k - 1, by omega⟩
      rw [headroomref09_Ups.l0, if_neg (by omega), List.drop_of_length_le (by omega)]
      rfl
    | succ d ih =>
      intro k i hi hd hk
      obtain ⟨k, rfl⟩ : ∃ n, k = n + 1 := ⟨k - 1, by omega⟩
      have hlt : i.toNat < l.length := by omega
      rw [headroomref09_Ups.l0, if_pos (by omega), if_pos hi, if_pos (by omega), rd_get hi hlt, ref_Up (by omega) hs, Option.bind_some, ref_Up (by omega) hs, w64 (a := i + 1) (by omega), ih k (i + 1) (by omega) (by omega) (by omega), List.drop_eq_getElem_cons hlt, List.all_cons, show (i + 1).toNat = i.toNat + 1 by omega]
      have e : ups s l[i.toNat] = (canUp s l[i.toNat].f0 && canUp s l[i.toNat].f1) := rfl
      rw [e]
      cases canUp s l[i.toNat].f0 with
      | false => rfl
      | true => cases canUp s l[i.toNat].f1 with
        | false => rfl
        | true => rfl
  unfold headroomref09_Ups.f
  rw [key l.length k 0 (by decide) (by omega) (by omega)]
  rfl
theorem ups_bd {s x : Int} (hs : 0 ≤ s ∧ s ≤ 62) (h : canUp s x = true) : -4611686018427387904 ≤ x * 2 ^ s.toNat ∧ x * 2 ^ s.toNat ≤ 4611686018427387904 := by
  have h := of_decide_eq_true h
  have hp := pow_bd (n := s.toNat) (by omega)
  have e : (2 : Int) ^ (62 - s).toNat * 2 ^ s.toNat = 4611686018427387904 := by
    rw [← Int.pow_add, show (62 - s).toNat + s.toNat = 62 by omega, pow62]
  have h1 := Int.mul_le_mul_of_nonneg_right h.1 (show (0 : Int) ≤ 2 ^ s.toNat by omega)
  have h2 := Int.mul_le_mul_of_nonneg_right h.2 (show (0 : Int) ≤ 2 ^ s.toNat by omega)
  rw [Int.neg_mul, e] at h1
  rw [e] at h2
  exact ⟨h1, h2⟩
theorem ref_Shifted_down {k : Nat} {l : List S37} {s m : Int} (hl : l.length ≤ 1000) (hw : ∀ x ∈ l, wide x) (hk : 1200 ≤ k) (hs : 0 ≤ s ∧ s ≤ 62) (hm : m = 0 ∨ m = 1 ∨ m = 2) : headroomref09_Shifted.f k l s m = some (shifted l s m) := by
  have key : ∀ (d k : Nat) (i : Int) (acc : List S37), 0 ≤ i → (l.length : Int) - i = d → d + 110 < k → acc.length ≤ 1000 - d → headroomref09_Shifted.l0 k s m acc l (l.length : Int) i = some (acc ++ shifted (l.drop i.toNat) s m) := by
    intro d
    induction d with
    | zero =>
      intro k i acc hi hd hk _
      obtain ⟨k, rfl⟩ : ∃ n, k = n + 1 := ⟨k - 1, by omega⟩
      rw [headroomref09_Shifted.l0, if_neg (by omega), List.drop_of_length_le (by omega)]
      simp [shifted]
    | succ d ih =>
      intro k i acc hi hd hk ha
      obtain ⟨k, rfl⟩ : ∃ n, k = n + 1 := ⟨k - 1, by omega⟩
      have hlt : i.toNat < l.length := by omega
      have hx := hw _ (List.getElem_mem hlt)
      have e : headroomref03_Shift.f k l[i.toNat].f0 l[i.toNat].f1 s m = some (rshift l[i.toNat].f0 s m, rshift l[i.toNat].f1 s m) := by
        unfold headroomref03_Shift.f
        rw [ref_Shift (by omega) hx.1 hs.1 hs.2 hm, Option.bind_some, ref_Shift (by omega) hx.2 hs.1 hs.2 hm, Option.bind_some]
      rw [headroomref09_Shifted.l0, if_pos (by omega), if_pos hi, if_pos (by omega), if_pos (by omega), rd_get hi hlt, e, Option.bind_some, if_pos (by omega), w64 (a := i + 1) (by omega), ih k (i + 1) _ (by omega) (by omega) (by omega) (by rw [List.length_append, List.length_singleton]; omega), List.drop_eq_getElem_cons hlt, show (i + 1).toNat = i.toNat + 1 by omega, List.append_assoc]
      rfl
  unfold headroomref09_Shifted.f
  rw [key l.length k 0 [] (by decide) (by omega) (by omega) (by simp)]
  rfl
theorem ref_Shifted_up {k : Nat} {l : List S37} {s m : Int} (hl : l.length ≤ 1000) (hk : 1200 ≤ k) (hs : 0 < s ∧ s ≤ 62) (hu : l.all (ups s) = true) : headroomref09_Shifted.f k l (-s) m = some (upped l s) := by
  have key : ∀ (d k : Nat) (i : Int) (acc : List S37), 0 ≤ i → (l.length : Int) - i = d → d + 110 < k → acc.length ≤ 1000 - d → headroomref09_Shifted.l0 k (-s) m acc l (l.length : Int) i = some (acc ++ upped (l.drop i.toNat) s) := by
    intro d
    induction d with
    | zero =>
      intro k i acc hi hd hk _
      obtain ⟨k, rfl⟩ : ∃ n, k = n + 1 := ⟨k - 1, by omega⟩
      rw [headroomref09_Shifted.l0, if_neg (by omega), List.drop_of_length_le (by omega)]
      simp [upped]
    | succ d ih =>
      intro k i acc hi hd hk ha
      obtain ⟨k, rfl⟩ : ∃ n, k = n + 1 := ⟨k - 1, by omega⟩
      have hlt : i.toNat < l.length := by omega
      have hx := List.all_eq_true.1 hu _ (List.getElem_mem hlt)
      have hx := (Bool.and_eq_true _ _).mp hx
      have b0 := ups_bd (by omega) hx.1
      have b1 := ups_bd (by omega) hx.2
      rw [headroomref09_Shifted.l0, if_pos (by omega), if_pos hi, if_pos (by omega), if_neg (by omega), rd_get hi hlt, w64 (a := - -s) (by omega), ref_Pow (by omega) (by omega), Option.bind_some, if_pos (by omega), w64 (a := i + 1) (by omega), Int.neg_neg, w64 (a := l[i.toNat].f0 * _) (by omega), w64 (a := l[i.toNat].f1 * _) (by omega), ih k (i + 1) _ (by omega) (by omega) (by omega) (by rw [List.length_append, List.length_singleton]; omega), List.drop_eq_getElem_cons hlt, show (i + 1).toNat = i.toNat + 1 by omega, List.append_assoc]
      rfl
  unfold headroomref09_Shifted.f
  rw [key l.length k 0 [] (by decide) (by omega) (by omega) (by simp)]
  rfl
end Go.Proofs.Ytfemklaeonkidaa.P

/- Room and pre of layer 9, in closed form; numbers are of their kind. -/
import Derived.Test.YtfemklaeonkidaaPx15
import Derived.Test.YtfemklaeonkidaaPx16
import Derived.Test.YtfemklaeonkidaaPx2
import Derived.Test.YtfemklaeonkidaaPx3
import Derived.Test.YtfemklaeonkidaaPx5
import Derived.Test.YtfemklaeonkidaaLMath
import Derived.Test.YtfemklaeonkidaaLRound
import Derived.Test.YtfemklaeonkidaaLSat0
import Derived.Test.YtfemklaeonkidaaLScan
namespace Go.Proofs.Ytfemklaeonkidaa.P
open Go.RowKit Go.Proofs.Ytfemklaeonkidaa.P Go.Proofs.YtfemklaeonkidaaW.PrintWords Go.Proofs.YtfemklaeonkidaaW.PrintLast Go.Proofs.YtfemklaeonkidaaW.PrintMore Go.Proofs.YtfemklaeonkidaaW.Hand
set_option linter.unusedVariables false
set_option linter.unusedSimpArgs false
def IsRoom (m h r : Int) : Prop := 0 ≤ r ∧ (r = 0 ∨ m * 2 ^ r.toNat ≤ h) ∧ h < m * 2 ^ (r + 1).toNat
theorem pow_next {m r : Int} (hr : 0 ≤ r) : m * 2 ^ (r + 1).toNat = m * 2 ^ r.toNat * 2 := by
  rw [show (r + 1).toNat = r.toNat + 1 by omega, Int.pow_succ, Int.mul_assoc]
theorem mul_pow_mono {m : Int} (hm : 0 ≤ m) {a b : Nat} (h : a ≤ b) : m * 2 ^ a ≤ m * 2 ^ b := Int.mul_le_mul_of_nonneg_left (pow_le h) hm
theorem IsRoom.uniq {m h r r' : Int} (hm : 0 < m) (h1 : IsRoom m h r) (h2 : IsRoom m h r') : r = r' := by
  have key : ∀ {a b : Int}, IsRoom m h a → IsRoom m h b → ¬ a < b := by
    intro a b ha hb hlt
    have h3 := mul_pow_mono (m := m) (by omega) (a := (a + 1).toNat) (b := b.toNat) (by have := ha.1; omega)
    rcases hb.2.1 with h4 | h4
    · have := ha.1; omega
    · have := ha.2.2; omega
  have := key h1 h2
  have := key h2 h1
  omega
theorem le_mul_pow {m : Int} (hm : 0 ≤ m) (n : Nat) : m ≤ m * 2 ^ n := by
  have := mul_pow_mono hm (Nat.zero_le n)
  simpa using this
theorem mag_half (fmt : Int) : mag fmt / 2 = 2 ^ (if fmt = 1 then 30 else 14 : Nat) := by
  unfold mag
  split <;> decide
theorem room_up {m bits h : Int} (hm : 0 < m) (hmb : m ≤ 2147483648) (hb : bits = 15 ∧ h = 16384 ∨ bits = 31 ∧ h = 1073741824) (d : Nat) : ∀ (k : Nat) (s : Int), 0 ≤ s → s ≤ 30 → 31 - s = d → d < k → (s = 0 ∨ m * 2 ^ s.toNat ≤ h) →
    ∃ r, IsRoom m h r ∧ r ≤ 30 ∧ scan_Room.l0 k m bits s = some (r, 0) := by
  induction d with
  | zero => intro k s h0 h1 hd; omega
  | succ d ih =>
    intro k s h0 h1 hd hk hs
    obtain ⟨k, rfl⟩ : ∃ n, k = n + 1 := ⟨k - 1, by omega⟩
    have w1 : wrap64 (s + 1) = s + 1 := w64 (by omega)
    have w2 : wrap64 (bits - 1) = bits - 1 := w64 (by omega)
    have hp := pow_bd (n := (s + 1).toNat) (by omega)
    have hpp : (2 : Int) ^ (s + 1).toNat ≤ 2 ^ 31 := pow_le (by omega)
    have p31 : (2 : Int) ^ 31 = 2147483648 := by decide
    have hmul := mul_bd2 (x := m) (y := 2 ^ (s + 1).toNat) (m := 2147483648) (n := 2147483648) (by omega) hmb (by omega) (by omega)
    have e1 : shl .i64 m (s + 1) = m * 2 ^ (s + 1).toNat := by rw [shl64 (by omega), w64 (by omega)]
    have e2 : shl .i64 1 (bits - 1) = h := by
      rcases hb with ⟨rfl, rfl⟩ | ⟨rfl, rfl⟩ <;> rw [shl64 (by omega), w64] <;> decide
    rw [scan_Room.l0, w1, w2, if_pos (by omega), if_pos (by omega), e1, e2]
    have hmp : 0 < m * 2 ^ (s + 1).toNat := Int.mul_pos hm (by omega)
    by_cases hle : m * 2 ^ (s + 1).toNat ≤ h
    · rw [if_pos hle]
      have h30 : s + 1 ≤ 30 := by
        rcases Int.lt_or_le 30 (s + 1) with h5 | h5
        · have h6 : (2 : Int) ^ 31 ≤ 2 ^ (s + 1).toNat := pow_le (by omega)
          have h7 := Int.mul_le_mul_of_nonneg_right (show (1 : Int) ≤ m by omega) (show (0 : Int) ≤ 2 ^ (s + 1).toNat by omega)
          omega
        · exact h5
      exact ih k (s + 1) (by omega) h30 (by omega) (by omega) (.inr hle)
    · rw [if_neg hle]
      exact ⟨s, ⟨h0, hs, by omega⟩, h1, rfl⟩
theorem room_down {m fmt h : Int} (hm : 0 < m) (hmb : m ≤ 2147483648) (hf : fmt = 0 ∨ fmt = 1) (hh : h = mag fmt / 2) (d : Nat) : ∀ (k : Nat) (s : Int), 0 ≤ s → s ≤ 31 → s = d → d + 70 < k → h < m * 2 ^ (s + 1).toNat →
    ∃ r, IsRoom m h r ∧ headroomref09_Room.l0 k m fmt s = some r := by
  induction d with
  | zero =>
    intro k s h0 h1 hd hk hs
    obtain ⟨k, rfl⟩ : ∃ n, k = n + 1 := ⟨k - 1, by omega⟩
    rw [headroomref09_Room.l0, if_neg (by omega)]
    have : s = 0 := by omega
    subst this
    exact ⟨0, ⟨by decide, .inl rfl, hs⟩, rfl⟩
  | succ d ih =>
    intro k s h0 h1 hd hk hs
    obtain ⟨k, rfl⟩ : ∃ n, k = n + 1 := ⟨k - 1, by omega⟩
    have hp := pow_bd (n := s.toNat) (by omega)
    have hpp : (2 : Int) ^ s.toNat ≤ 2 ^ 31 := pow_le (by omega)
    have p31 : (2 : Int) ^ 31 = 2147483648 := by decide
    have hmul := mul_bd2 (x := m) (y := 2 ^ s.toNat) (m := 2147483648) (n := 2147483648) (by omega) hmb (by omega) (by omega)
    have hmg := mag_bd (fmt := fmt)
    have hdv : Int.tdiv (mag fmt) 2 = h := by rw [hh, Int.tdiv_eq_ediv_of_nonneg (by omega)]
    rw [headroomref09_Room.l0, if_pos (by omega), if_pos hm, ref_Pow (by omega) (by omega), Option.bind_some, ref_One (by omega) hf, Option.bind_some, hdv, w64 (a := h) (by omega), w64 (a := m * 2 ^ s.toNat) (by omega), w64 (a := s - 1) (by omega)]
    by_cases hle : m * 2 ^ s.toNat ≤ h
    · rw [if_pos hle]
      exact ⟨s, ⟨h0, .inr hle, hs⟩, rfl⟩
    · rw [if_neg hle]
      exact ih k (s - 1) (by omega) (by omega) (by omega) (by omega) (by rw [show s - 1 + 1 = s by omega]; omega)
theorem room_zero {fmt : Int} (d : Nat) : ∀ (k : Nat) (s : Int), 0 ≤ s → s ≤ 31 → s = d → d < k → headroomref09_Room.l0 k 0 fmt s = some 0 := by
  induction d with
  | zero =>
    intro k s h0 h1 hd hk
    obtain ⟨k, rfl⟩ : ∃ n, k = n + 1 := ⟨k - 1, by omega⟩
    rw [headroomref09_Room.l0, if_neg (by omega)]
  | succ d ih =>
    intro k s h0 h1 hd hk
    obtain ⟨k, rfl⟩ : ∃ n, k = n + 1 := ⟨k - 1, by omega⟩
    rw [headroomref09_Room.l0, if_pos (by omega), if_neg (by decide), w64 (a := s - 1) (by omega)]
    exact ih k (s - 1) (by omega) (by omega) (by omega) (by omega)
theorem scan_may_eq {m fmt : Int} : scan_may.f m fmt = some (if fmt = 0 ∨ fmt = 1 then if m < 0 ∨ mag fmt < m then (0, 2) else (if fmt = 1 then 31 else 15, 0) else (0, 1)) := by
  unfold scan_may.f sat_Bits.f
  have e15 : shl .i64 1 15 = 32768 := by rw [shl64 (by omega), w64] <;> decide
  have e31 : shl .i64 1 31 = 2147483648 := by rw [shl64 (by omega), w64] <;> decide
  by_cases h0 : fmt = 0
  · subst h0
    have hm : mag 0 = 32768 := rfl
    simp only [reduceIte, Option.bind_some, e15, hm]
    by_cases ha : m < 0
    · simp [ha]
    · by_cases hb : m > 32768
      · simp [ha, hb]
      · simp [ha, hb] <;> omega
  · by_cases h1 : fmt = 1
    · subst h1
      have hm : mag 1 = 2147483648 := rfl
      simp only [reduceIte, Option.bind_some, e31, hm, h0]
      by_cases ha : m < 0
      · simp [ha]
      · by_cases hb : m > 2147483648
        · simp [ha, hb]
        · simp [ha, hb] <;> omega
    · simp [h0, h1]
theorem scan_Room_bad {k : Nat} {m fmt : Int} (hk : 100 ≤ k) (h : ¬ ((fmt = 0 ∨ fmt = 1) ∧ 0 ≤ m ∧ m ≤ mag fmt)) : scan_Room.f k m fmt = some (0, if fmt = 0 ∨ fmt = 1 then 2 else 1) := by
  obtain ⟨k, rfl⟩ : ∃ n, k = n + 1 := ⟨k - 1, by omega⟩
  unfold scan_Room.f
  rw [scan_may_eq, Option.bind_some]
  by_cases hf : fmt = 0 ∨ fmt = 1
  · have hb : m < 0 ∨ mag fmt < m := by omega
    rw [if_pos hf, if_pos hf, if_pos hb, if_neg (by decide), scan_Room.j0, if_pos rfl]
  · rw [if_neg hf, if_neg hf, if_neg (by decide), scan_Room.j0, if_pos rfl]
/-- THE ROOM: what the program and the document's function both answer. -/
theorem room_both {m fmt : Int} (hf : fmt = 0 ∨ fmt = 1) (h0 : 0 ≤ m) (h1 : m ≤ mag fmt) : ∃ r, 0 ≤ r ∧ r ≤ 30 ∧ (m = 0 → r = 0) ∧ (0 < m → IsRoom m (mag fmt / 2) r) ∧ ∀ k, 200 ≤ k → scan_Room.f k m fmt = some (r, 0) ∧ headroomref09_Room.f k m fmt = some r := by
  have hmg := mag_bd (fmt := fmt)
  have hhead : ∀ k, 200 ≤ k → scan_Room.f k m fmt = if m = 0 then some (0, 0) else scan_Room.l0 (k - 1) m (if fmt = 1 then 31 else 15) 0 := by
    intro k hk
    obtain ⟨k, rfl⟩ : ∃ n, k = n + 1 := ⟨k - 1, by omega⟩
    unfold scan_Room.f
    rw [scan_may_eq, if_pos hf, if_neg (by omega), Option.bind_some]
    simp only [reduceIte]
    rw [scan_Room.j0]
    by_cases hm : m = 0
    · rw [if_pos hm, if_pos (by simp [hm])]
    · rw [if_neg hm, if_neg (by simp [hm])]
      rfl
  by_cases hm : m = 0
  · refine ⟨0, by decide, by decide, fun _ => rfl, fun h => by omega, fun k hk => ⟨by rw [hhead k hk, if_pos hm], ?_⟩⟩
    subst hm
    exact room_zero 31 k 31 (by decide) (by decide) rfl (by omega)
  · have hb : (if fmt = 1 then (31 : Int) else 15) = 15 ∧ mag fmt / 2 = 16384 ∨ (if fmt = 1 then (31 : Int) else 15) = 31 ∧ mag fmt / 2 = 1073741824 := by
      rcases hf with rfl | rfl
      · exact .inl ⟨rfl, rfl⟩
      · exact .inr ⟨rfl, rfl⟩
    obtain ⟨r, hr, hr30, _⟩ := room_up (m := m) (by omega) (by omega) hb 31 100 0 (by decide) (by decide) (by decide) (by decide) (.inl rfl)
    refine ⟨r, hr.1, hr30, fun h => absurd h hm, fun _ => hr, fun k hk => ⟨?_, ?_⟩⟩
    · obtain ⟨r', hr', _, e⟩ := room_up (m := m) (by omega) (by omega) hb 31 (k - 1) 0 (by decide) (by decide) (by decide) (by omega) (.inl rfl)
      rw [hhead k hk, if_neg hm, e, hr'.uniq (by omega) hr]
    · have h32 : mag fmt / 2 < m * 2 ^ ((31 : Int) + 1).toNat := by
        have p32 : (2 : Int) ^ ((31 : Int) + 1).toNat = 4294967296 := by decide
        rw [p32]
        omega
      obtain ⟨r', hr', e⟩ := room_down (m := m) (by omega) (by omega) hf rfl 31 k 31 (by decide) (by decide) rfl (by omega) h32
      unfold headroomref09_Room.f
      rw [e, hr'.uniq (by omega) hr]
theorem ref_Pre {k : Nat} {kernel fmt m : Int} (hk : 70 ≤ k) (hf : fmt = 0 ∨ fmt = 1) (hn : kernel = 2 ∨ kernel = 4) : headroomref09_Pre.f k kernel m fmt = some (pre kernel fmt m) := by
  obtain ⟨k, rfl⟩ : ∃ n, k = n + 2 := ⟨k - 2, by omega⟩
  have hmg := mag_bd (fmt := fmt)
  have t8 : wrap64 (Int.tdiv (mag fmt) 8) = mag fmt / 8 := by rw [Int.tdiv_eq_ediv_of_nonneg (by omega), w64 (by omega)]
  have t4 : wrap64 (Int.tdiv (mag fmt) 4) = mag fmt / 4 := by rw [Int.tdiv_eq_ediv_of_nonneg (by omega), w64 (by omega)]
  have t2 : wrap64 (Int.tdiv (mag fmt) 2) = mag fmt / 2 := by rw [Int.tdiv_eq_ediv_of_nonneg (by omega), w64 (by omega)]
  have c8 : mag fmt / 8 * 8 = mag fmt := by unfold mag; split <;> rfl
  have h2 : ∀ j, 64 ≤ j → headroomref09_Pre.f (j + 1) 2 m fmt = some (if m ≤ mag fmt / 4 then 0 else if m ≤ mag fmt / 2 then 1 else 2) := by
    intro j hj
    rw [headroomref09_Pre.f, ref_One hj hf, Option.bind_some, t8, t4, t2, if_neg (by decide)]
    split
    · rfl
    · split <;> rfl
  unfold pre
  rcases hn with rfl | rfl
  · rw [h2 (k + 1) (by omega)]
    rfl
  · rw [headroomref09_Pre.f, ref_One (by omega) hf, Option.bind_some, t8, t4, t2, if_pos rfl, h2 k (by omega), Option.bind_some]
    rw [if_pos rfl]
    split
    · rfl
    · congr 1
      rw [w64 (by split <;> (try split) <;> omega)]
      (repeat' split) <;> omega
theorem scan_alive {k : Nat} (hk : 200 ≤ k) : headroomlaw09_alive.f k = some true := by
  obtain ⟨r, h0, h1, _, hr, e⟩ := room_both (m := 1000) (fmt := 0) (.inl rfl) (by decide) (by decide)
  have h4 : r = 4 := (hr (by decide)).uniq (by decide) ⟨by decide, .inr (by decide), by decide⟩
  subst h4
  unfold headroomlaw09_alive.f
  rw [(e k hk).1]
  rfl
end Go.Proofs.Ytfemklaeonkidaa.P

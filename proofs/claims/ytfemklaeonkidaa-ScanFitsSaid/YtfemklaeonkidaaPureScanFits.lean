/- ScanFits: the plain law. -/
import Derived.Test.YtfemklaeonkidaaPx0
import Derived.Test.YtfemklaeonkidaaPx2
import Derived.Test.YtfemklaeonkidaaPx4
import Derived.Test.YtfemklaeonkidaaPx7
import Derived.Test.YtfemklaeonkidaaPx9
import Derived.Test.YtfemklaeonkidaaLScan
import Derived.Test.YtfemklaeonkidaaLScanR
import Derived.Test.YtfemklaeonkidaaLScanS
namespace Go.Proofs.Ytfemklaeonkidaa.Pure
open Go.RowKit Go.Proofs.Ytfemklaeonkidaa.P Go.Proofs.YtfemklaeonkidaaW.PrintWords Go.Proofs.YtfemklaeonkidaaW.PrintLast Go.Proofs.YtfemklaeonkidaaW.PrintMore Go.Proofs.YtfemklaeonkidaaW.Hand
set_option linter.unusedVariables false
set_option linter.unusedSimpArgs false
theorem shifted_zero (l : List S37) (M : Int) : shifted l 0 M = l := by
  unfold shifted
  have e : (fun a : S37 => (⟨rshift a.f0 0 M, rshift a.f1 0 M⟩ : S37)) = id := by
    funext a
    unfold rshift
    rw [if_pos rfl, if_pos rfl]
    rfl
  rw [e, List.map_id]
theorem shifted_upped {l : List S37} {r M : Int} (hr : 0 < r ∧ r ≤ 62) (hM : M = 0 ∨ M = 1 ∨ M = 2) (hu : l.all (ups r) = true) : shifted (upped l r) r M = l := by
  unfold shifted upped
  rw [List.map_map]
  have : ∀ a ∈ l, ((fun a : S37 => (⟨rshift a.f0 r M, rshift a.f1 r M⟩ : S37)) ∘ fun a => ⟨a.f0 * 2 ^ r.toNat, a.f1 * 2 ^ r.toNat⟩) a = id a := by
    intro a ha
    have hx := (Bool.and_eq_true _ _).mp (List.all_eq_true.1 hu a ha)
    have b0 := ups_bd (by omega) hx.1
    have b1 := ups_bd (by omega) hx.2
    show (⟨rshift (a.f0 * 2 ^ r.toNat) r M, rshift (a.f1 * 2 ^ r.toNat) r M⟩ : S37) = a
    rw [Int.mul_comm a.f0, Int.mul_comm a.f1, rshift_mul (by rw [Int.mul_comm]; omega) (by omega) hr.2 hM, rshift_mul (by rw [Int.mul_comm]; omega) (by omega) hr.2 hM]
  rw [List.map_congr_left this, List.map_id]
theorem j2_ok {k : Nat} {l : List S37} {r M : Int} (hk : 1300 ≤ k) (hl : l.length ≤ 70) (hr : 0 ≤ r ∧ r ≤ 30) (hM : M = 0 ∨ M = 1 ∨ M = 2) : headroomlaw09_ScanFits.j2 k l M r false = some true := by
  obtain ⟨k, rfl⟩ : ∃ n, k = n + 1 := ⟨k - 1, by omega⟩
  rw [headroomlaw09_ScanFits.j2, if_neg (by decide), w64 (a := -r) (by omega)]
  by_cases h0 : r = 0
  · subst h0
    have e : scan_Shifted.f l 0 M = some (l, 0) := by
      unfold scan_Shifted.f
      rw [if_pos ⟨by omega, by decide, by decide⟩, if_neg (by omega), if_pos (by decide), shifted_zero]
    rw [Int.neg_zero, e, Option.bind_some, if_pos rfl, e, Option.bind_some, if_pos rfl, same_self (by show l.length ≤ 1000; omega) (by omega), Option.bind_some]
  · have e0 : (fun a : S37 => canUp (- -r) a.f0 && canUp (- -r) a.f1) = ups r := by rw [Int.neg_neg]; rfl
    cases hu : l.all (ups r) with
    | false =>
      have e : scan_Shifted.f l (-r) M = some ([], 2) := by
        unfold scan_Shifted.f
        rw [if_pos ⟨by omega, by omega, by omega⟩, if_neg (by omega), if_neg (by omega), e0, hu, if_neg (by decide)]
      rw [e, Option.bind_some, if_neg (by decide), if_pos rfl]
      rfl
    | true =>
      have e : scan_Shifted.f l (-r) M = some (upped l r, 0) := by
        unfold scan_Shifted.f
        rw [if_pos ⟨by omega, by omega, by omega⟩, if_neg (by omega), if_neg (by omega), e0, hu, if_pos rfl, Int.neg_neg]
      have e2 : scan_Shifted.f (upped l r) r M = some (l, 0) := by
        unfold scan_Shifted.f
        rw [if_pos ⟨by unfold upped; rw [List.length_map]; omega, by omega, by omega⟩, if_neg (by omega), if_pos (by omega), shifted_upped (by omega) hM hu]
      rw [e, Option.bind_some, if_pos rfl, e2, Option.bind_some, if_pos rfl, same_self (by show l.length ≤ 1000; omega) (by omega), Option.bind_some]
theorem shl_one {y : Int} (h : 0 ≤ y ∧ y ≤ 62) : shl .i64 1 y = 2 ^ y.toNat := by
  have := pow_bd (n := y.toNat) (by omega)
  rw [shl64 (by omega), w64 (by omega)]
  omega
theorem j1_ok {k : Nat} {l : List S37} {m M b mg r p2 p4 : Int} (hb : b = 15 ∧ mg = 32768 ∨ b = 31 ∧ mg = 2147483648) (hm0 : 0 ≤ m) (hm1 : m ≤ mg) (hr : 0 ≤ r ∧ r ≤ 30) (hz : m = 0 → r = 0) (hroom : 0 < m → IsRoom m (mg / 2) r)
    (hp2 : p2 = if m ≤ mg / 4 then 0 else if m ≤ mg / 2 then 1 else 2) (hp4 : p4 = if m ≤ mg / 8 then 0 else if m ≤ mg / 4 then 1 else if m ≤ mg / 2 then 2 else 3) :
    headroomlaw09_ScanFits.j1 (k + 1) l m M b r p2 p4 false = headroomlaw09_ScanFits.j2 k l M r false := by
  have q2 : 0 ≤ p2 ∧ p2 ≤ 2 := by rw [hp2]; split <;> (try split) <;> omega
  have q4 : 0 ≤ p4 ∧ p4 ≤ 3 := by rw [hp4]; split <;> (try split) <;> (try split) <;> omega
  have w1 : wrap64 (b - 2) = b - 2 := w64 (by omega)
  have w2 : wrap64 (b - 1) = b - 1 := w64 (by omega)
  have w3 : wrap64 (b - 3) = b - 3 := w64 (by omega)
  have w4 : wrap64 (b - 2 + p2) = b - 2 + p2 := w64 (by omega)
  have w5 : wrap64 (b - 3 + p4) = b - 3 + p4 := w64 (by omega)
  have s1 : shl .i64 1 (b - 2) = mg / 4 := by
    rw [shl_one (by omega)]
    rcases hb with ⟨rfl, rfl⟩ | ⟨rfl, rfl⟩ <;> decide
  have s2 : shl .i64 1 (b - 1) = mg / 2 := by
    rw [shl_one (by omega)]
    rcases hb with ⟨rfl, rfl⟩ | ⟨rfl, rfl⟩ <;> decide
  have t2 : m ≤ shl .i64 1 (b - 2 + p2) := by
    rw [shl_one (by omega)]
    have hh : p2 = 0 ∧ m ≤ mg / 4 ∨ p2 = 1 ∧ m ≤ mg / 2 ∨ p2 = 2 := by rw [hp2]; split <;> (try split) <;> omega
    rcases hb with ⟨rfl, rfl⟩ | ⟨rfl, rfl⟩ <;> rcases hh with ⟨h, h'⟩ | ⟨h, h'⟩ | h <;> rw [h] <;> simp <;> omega
  have t4 : m ≤ shl .i64 1 (b - 3 + p4) := by
    rw [shl_one (by omega)]
    have hh : p4 = 0 ∧ m ≤ mg / 8 ∨ p4 = 1 ∧ m ≤ mg / 4 ∨ p4 = 2 ∧ m ≤ mg / 2 ∨ p4 = 3 := by rw [hp4]; split <;> (try split) <;> (try split) <;> omega
    rcases hb with ⟨rfl, rfl⟩ | ⟨rfl, rfl⟩ <;> rcases hh with ⟨h, h'⟩ | ⟨h, h'⟩ | ⟨h, h'⟩ | h <;> rw [h] <;> simp <;> omega
  have hpp : (2 : Int) ^ r.toNat ≤ 2 ^ 30 := pow_le (by omega)
  have p30 : (2 : Int) ^ 30 = 1073741824 := by decide
  have hp := pow_bd (n := r.toNat) (by omega)
  have hmul := mul_bd2 (x := m) (y := 2 ^ r.toNat) (m := 2147483648) (n := 2147483648) (by omega) (by omega) (by omega) (by omega)
  have s0 : shl .i64 m r = m * 2 ^ r.toNat := by rw [shl64 (by omega), w64 (by omega)]
  have f1 : 0 < m → mg / 4 < m * 2 ^ r.toNat := by
    intro h
    have := (hroom h).2.2
    rw [pow_next hr.1] at this
    omega
  have f2 : 0 < r → m * 2 ^ r.toNat ≤ mg / 2 := by
    intro h
    have hm : 0 < m := by
      rcases Int.lt_or_le 0 m with h5 | h5
      · exact h5
      · have := hz (by omega); omega
    rcases (hroom hm).2.1 with h5 | h5
    · omega
    · exact h5
  rw [headroomlaw09_ScanFits.j1, w1, w2, w3, w4, w5, s0, s1, s2]
  generalize m * 2 ^ r.toNat = g at *
  generalize shl .i64 1 (b - 2 + p2) = u2 at *
  generalize shl .i64 1 (b - 3 + p4) = u4 at *
  have hd : decide (p4 > 3) = false := decide_eq_false (by omega)
  clear hp hpp p30 hroom hp2 hp4 s0 s1 s2 hmul w1 w2 w3 w4 w5
  rw [if_neg (by decide), hd]
  by_cases hm : m > 0
  · have f1 := f1 hm
    by_cases hr1 : r > 0
    · have f2 := f2 hr1
      rw [if_pos hm, if_pos (by omega), if_pos (by omega), if_neg (by omega), if_pos hr1, if_pos (by omega), if_neg (by omega), if_pos (by omega), if_neg (by omega), if_pos (by omega), if_neg (by omega), if_neg (by omega)]
    · rw [if_pos hm, if_pos (by omega), if_pos (by omega), if_neg (by omega), if_neg hr1, if_pos (by omega), if_neg (by omega), if_pos (by omega), if_neg (by omega), if_neg (by omega)]
  · have hr1 : ¬ r > 0 := by have := hz (by omega); omega
    rw [if_neg hm, if_neg hr1, if_pos (by omega), if_neg (by omega), if_pos (by omega), if_neg (by omega), if_neg (by omega)]
theorem ScanFits : headroomlaw09_ScanFits.Pure := by
  intro l0 a1 a2 a3 _ _ _ h1 _ _
  have h1 := wf64 h1
  refine ⟨3000, ?_⟩
  obtain ⟨c0, c1, c2⟩ := cut_eq l0
  unfold headroomlaw09_ScanFits.f
  rw [if_pos c0, if_pos c1, Option.bind_some, norm_mod (by decide) (by decide), norm_mod (by decide) (by decide)]
  generalize l0.take (mn (l0.length : Int) 70).toNat = l at *
  have hM : a3 % 3 = 0 ∨ a3 % 3 = 1 ∨ a3 % 3 = 2 := by omega
  have hF : a2 % 2 = 0 ∨ a2 % 2 = 1 := by omega
  generalize a3 % 3 = M at *
  generalize a2 % 2 = F at *
  have key : ∀ (b mg : Int), (b = 15 ∧ mg = 32768 ∨ b = 31 ∧ mg = 2147483648) → mag F = mg → headroomlaw09_ScanFits.j0 3000 l a1 F M b false = some true := by
    intro b mg hb hmg
    have s1 : shl .i64 1 b = mg := by
      rw [shl_one (by omega)]
      rcases hb with ⟨rfl, rfl⟩ | ⟨rfl, rfl⟩ <;> decide
    have w1 : wrap64 (mg + 1) = mg + 1 := w64 (by omega)
    have ht : -(mg + 1) < Int.tmod a1 (mg + 1) ∧ Int.tmod a1 (mg + 1) < mg + 1 := ⟨by have := Int.lt_tmod_of_pos a1 (show 0 < mg + 1 by omega); omega, Int.tmod_lt_of_pos a1 (by omega)⟩
    have w2 : wrap64 (wrap64 (Int.tmod a1 (mg + 1) + mg) + 1) = Int.tmod a1 (mg + 1) + mg + 1 := by rw [w64 (a := Int.tmod a1 (mg + 1) + mg) (by omega), w64 (by omega)]
    have hm0 : 0 ≤ Int.tmod (Int.tmod a1 (mg + 1) + mg + 1) (mg + 1) := Int.tmod_nonneg _ (by omega)
    have hm1 : Int.tmod (Int.tmod a1 (mg + 1) + mg + 1) (mg + 1) < mg + 1 := Int.tmod_lt_of_pos _ (by omega)
    rw [show (3000 : Nat) = 2999 + 1 from rfl, headroomlaw09_ScanFits.j0, if_neg (by decide), if_pos (by omega), s1, w1, w2, if_neg (by omega)]
    generalize Int.tmod (Int.tmod a1 (mg + 1) + mg + 1) (mg + 1) = m at *
    obtain ⟨r, hr0, hr1, hz, hroom, e⟩ := room_both hF hm0 (show m ≤ mag F by omega)
    have e2 : scan_Pre.f 2 m F = some (if m ≤ mg / 4 then 0 else if m ≤ mg / 2 then 1 else 2, 0) := by
      unfold scan_Pre.f
      rw [if_pos ⟨hF, .inl rfl⟩, if_neg (by omega)]
      unfold pre
      rw [if_neg (by decide), hmg]
    have e4 : scan_Pre.f 4 m F = some (if m ≤ mg / 8 then 0 else if m ≤ mg / 4 then 1 else if m ≤ mg / 2 then 2 else 3, 0) := by
      unfold scan_Pre.f
      rw [if_pos ⟨hF, .inr rfl⟩, if_neg (by omega)]
      unfold pre
      rw [if_pos rfl, hmg]
    rw [(e 2999 (by decide)).1, Option.bind_some, e2, Option.bind_some, e4, Option.bind_some, if_pos rfl, if_pos rfl, if_pos rfl, scan_alive (by decide), Option.bind_some]
    rw [show (2999 : Nat) = 2998 + 1 from rfl, Bool.not_true]
    rw [hmg] at hroom
    rw [j1_ok hb hm0 (by omega) ⟨hr0, hr1⟩ hz hroom rfl rfl]
    exact j2_ok (by decide) (by omega) ⟨hr0, hr1⟩ hM
  rcases hF with rfl | rfl
  · have e : sat_Bits.f 0 = some (15, 0) := rfl
    rw [e, Option.bind_some, if_pos rfl, decide_eq_false (by decide)]
    exact key 15 32768 (.inl ⟨rfl, rfl⟩) rfl
  · have e : sat_Bits.f 1 = some (31, 0) := rfl
    rw [e, Option.bind_some, if_pos rfl, decide_eq_false (by decide)]
    exact key 31 2147483648 (.inr ⟨rfl, rfl⟩) rfl
end Go.Proofs.Ytfemklaeonkidaa.Pure

/- What the document's functions of layer 3 answer, in closed form; numbers are of their kind. -/
import Derived.Test.YtobkjhiicafkbaaPx21
import Derived.Test.YtobkjhiicafkbaaPx26
import Derived.Test.YtobkjhiicafkbaaPx27
import Derived.Test.YtobkjhiicafkbaaLMath
import Derived.Test.YtobkjhiicafkbaaLRound
namespace Go.Proofs.Ytobkjhiicafkbaa.P
open Go.RowKit Go.Proofs.Ytobkjhiicafkbaa.P Go.Proofs.YtobkjhiicafkbaaW.PrintWords Go.Proofs.YtobkjhiicafkbaaW.PrintLast Go.Proofs.YtobkjhiicafkbaaW.PrintMore Go.Proofs.YtobkjhiicafkbaaW.Hand
set_option linter.unusedVariables false
set_option linter.unusedSimpArgs false
theorem alive3 : headroomlaw03_alive.f = some true := by decide +kernel
theorem ref_Within {re im m : Int} (h0 : 0 ≤ m) (h1 : m ≤ 4611686018427387904) : headroomref03_Within.f re im m = some (win m re im) := by
  unfold headroomref03_Within.f win
  rw [w64 (a := -m) (by omega)]
  by_cases a : re ≤ m
  · rw [if_pos a]
    by_cases b : re ≥ -m
    · rw [if_pos b]
      by_cases c : im ≤ m
      · rw [if_pos c]
        congr 1
        rw [decide_eq_decide]
        omega
      · rw [if_neg c, decide_eq_false (by omega)]
    · rw [if_neg b, decide_eq_false (by omega)]
  · rw [if_neg a, decide_eq_false (by omega)]
theorem ref_Wide {k : Nat} (hk : 64 ≤ k) (re im : Int) : headroomref03_Wide.f k re im = some (win 2305843009213693952 re im) := by
  unfold headroomref03_Wide.f
  rw [ref_Pow hk (by decide), Option.bind_some]
  have e : (2 : Int) ^ (61 : Int).toNat = 2305843009213693952 := by decide
  rw [e, ref_Within (by decide) (by decide), Option.bind_some]
theorem ref_Turn_some {k : Nat} (hk : 1 ≤ k) (a b n : Int) : ∃ v, headroomref03_Turn.f k a b n = some v ∧ (-2305843009213693952 ≤ a ∧ a ≤ 2305843009213693952 → -2305843009213693952 ≤ b ∧ b ≤ 2305843009213693952 → v = qturn a b n) := by
  obtain ⟨k, rfl⟩ : ∃ m, k = m + 1 := ⟨k - 1, by omega⟩
  have e : headroomref03_Turn.f (k + 1) a b n = headroomref03_Turn.j0 (k + 1) (n % 4) a b := by
    unfold headroomref03_Turn.f
    rw [tmod_if]
    by_cases h : 0 ≤ n
    · rw [if_pos h, if_neg (by omega)]
    · rw [if_neg h]
      by_cases h2 : -(-n % 4) < 0
      · rw [if_pos h2, w64 (by omega), show -(-n % 4) + 4 = n % 4 by omega]
      · rw [if_neg h2, show -(-n % 4) = n % 4 by omega]
  rw [e]
  simp only [headroomref03_Turn.j0]
  have h4 : n % 4 = 0 ∨ n % 4 = 1 ∨ n % 4 = 2 ∨ n % 4 = 3 := by omega
  unfold qturn
  rcases h4 with h | h | h | h <;> rw [h] <;> simp only [Int.reduceEq, reduceIte]
  · exact ⟨_, rfl, fun _ _ => rfl⟩
  · exact ⟨_, rfl, fun h1 h2 => by rw [w64 (by omega)]⟩
  · exact ⟨_, rfl, fun h1 h2 => by rw [w64 (a := -a) (by omega), w64 (a := -b) (by omega)]⟩
  · exact ⟨_, rfl, fun h1 h2 => by rw [w64 (by omega)]⟩
theorem ref_Turn {k : Nat} (hk : 1 ≤ k) {a b : Int} (n : Int) (ha : -2305843009213693952 ≤ a ∧ a ≤ 2305843009213693952) (hb : -2305843009213693952 ≤ b ∧ b ≤ 2305843009213693952) : headroomref03_Turn.f k a b n = some (qturn a b n) := by
  obtain ⟨v, h1, h2⟩ := ref_Turn_some hk a b n
  rw [h1, h2 ha hb]
theorem told_no (x y : Int) : headroomlaw03_told.f 0 0 2 false x y = some true := by
  unfold headroomlaw03_told.f
  rfl
theorem told_yes (x y : Int) : headroomlaw03_told.f x y 0 true x y = some true := by
  unfold headroomlaw03_told.f
  simp
end Go.Proofs.Ytobkjhiicafkbaa.P

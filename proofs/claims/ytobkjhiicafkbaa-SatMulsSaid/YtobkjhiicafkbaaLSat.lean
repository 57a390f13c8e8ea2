/- What the document's functions of layer 2 answer, in closed form; numbers are of their kind. -/
import Derived.Test.YtobkjhiicafkbaaPx11
import Derived.Test.YtobkjhiicafkbaaPx12
import Derived.Test.YtobkjhiicafkbaaPx13
import Derived.Test.YtobkjhiicafkbaaPx14
import Derived.Test.YtobkjhiicafkbaaPx15
import Derived.Test.YtobkjhiicafkbaaPx7
import Derived.Test.YtobkjhiicafkbaaLMath
import Derived.Test.YtobkjhiicafkbaaLRound
namespace Go.Proofs.Ytobkjhiicafkbaa.P
open Go.RowKit Go.Proofs.Ytobkjhiicafkbaa.P Go.Proofs.YtobkjhiicafkbaaW.PrintWords Go.Proofs.YtobkjhiicafkbaaW.PrintLast Go.Proofs.YtobkjhiicafkbaaW.PrintMore Go.Proofs.YtobkjhiicafkbaaW.Hand
set_option linter.unusedVariables false
set_option linter.unusedSimpArgs false
theorem alive2 : headroomlaw02_alive.f = some true := by decide +kernel
theorem ref_One {k : Nat} {fmt : Int} (hk : 64 ≤ k) (hf : fmt = 0 ∨ fmt = 1) : headroomref02_One.f k fmt = some (mag fmt) := by
  unfold headroomref02_One.f headroomref02_Bits.f
  rcases hf with rfl | rfl
  · rw [if_pos rfl, Option.bind_some, ref_Pow hk (by decide), Option.bind_some]
    rfl
  · rw [if_neg (by decide), Option.bind_some, ref_Pow hk (by decide), Option.bind_some]
    rfl
theorem mag_bd {fmt : Int} : 32768 ≤ mag fmt ∧ mag fmt ≤ 2147483648 := by
  unfold mag
  split <;> omega
theorem ref_Clamp {k : Nat} {x fmt : Int} (hk : 64 ≤ k) (hf : fmt = 0 ∨ fmt = 1) : headroomref02_Clamp.f k x fmt = some (sclamp (mag fmt) x, sclamp (mag fmt) x != x, 0) := by
  unfold headroomref02_Clamp.f
  have hm := mag_bd (fmt := fmt)
  rw [ref_One hk hf, Option.bind_some, Option.bind_some, w64 (a := -mag fmt) (by omega)]
  unfold sclamp
  by_cases h1 : x < -mag fmt
  · rw [if_pos h1, if_pos h1]
    have : (-mag fmt != x) = true := by simp; omega
    rw [this]
  rw [if_neg h1, if_neg h1, Option.bind_some]
  by_cases h2 : x ≥ mag fmt
  · rw [if_pos h2, if_pos (by omega), Option.bind_some, w64 (by omega)]
    have : (mag fmt - 1 != x) = true := by simp; omega
    rw [this]
  · rw [if_neg h2, if_neg (by omega)]
    simp
theorem ref_In {k : Nat} {x fmt : Int} (hk : 64 ≤ k) (hf : fmt = 0 ∨ fmt = 1) : headroomref02_In.f k x fmt = some (inm (mag fmt) x) := by
  unfold headroomref02_In.f inm
  have hm := mag_bd (fmt := fmt)
  rw [ref_One hk hf, Option.bind_some, w64 (a := -mag fmt) (by omega)]
  by_cases h1 : x ≥ -mag fmt
  · rw [if_pos h1, Option.bind_some]
    congr 1
    rw [decide_eq_decide]
    omega
  · rw [if_neg h1, decide_eq_false (by omega)]
theorem ref_Format (fmt : Int) : headroomref02_Format.f fmt = some (decide (fmt = 0 ∨ fmt = 1)) := by
  unfold headroomref02_Format.f
  by_cases h : fmt = 0
  · rw [if_pos h, decide_eq_true (.inl h)]
  · rw [if_neg h]
    congr 1
    by_cases h1 : fmt = 1
    · subst h1; rfl
    · rw [decide_eq_false (by omega)]
      simpa using h1
theorem ref_Two_all {k : Nat} {a b fmt mode what v : Int} (hk : 200 ≤ k)
    (hv : (fmt = 0 ∨ fmt = 1) → (mode = 0 ∨ mode = 1 ∨ mode = 2) → inm (mag fmt) a = true → inm (mag fmt) b = true → ∀ k, 150 ≤ k →
      (if what = 0 then ((headroomref02_Clamp.f k (wrap64 (a + b)) fmt).bind fun bt177 => (some (bt177.1, bt177.2.1, bt177.2.2))) else (if what = 1 then ((headroomref02_Clamp.f k (wrap64 (a - b)) fmt).bind fun bt180 => (some (bt180.1, bt180.2.1, bt180.2.2))) else ((headroomref02_Bits.f fmt).bind fun t183 => ((headroomref01_Shift.f k (wrap64 (a * b)) t183 mode).bind fun t184 => ((headroomref02_Clamp.f k t184 fmt).bind fun bt185 => (some (bt185.1, bt185.2.1, bt185.2.2)))))))
        = some (sclamp (mag fmt) v, sclamp (mag fmt) v != v, 0)) :
    headroomref02_Two.f k a b fmt mode what = some (if mode < 0 ∨ 2 < mode then (0, false, 1) else satof fmt [a, b] v) := by
  obtain ⟨k, rfl⟩ : ∃ n, k = n + 1 + 1 := ⟨k - 2, by omega⟩
  unfold headroomref02_Two.f satof
  rw [ref_Format, Option.bind_some]
  by_cases hf : fmt = 0 ∨ fmt = 1
  · rw [decide_eq_true hf, if_pos rfl, if_pos hf]
    by_cases h1 : mode < 0
    · rw [if_pos h1, if_pos (.inl h1)]
      simp [headroomref02_Two.j0]
    rw [if_neg h1]
    by_cases h2 : mode > 2
    · rw [decide_eq_true h2, if_pos (.inr h2)]
      simp [headroomref02_Two.j0]
    rw [decide_eq_false h2, if_neg (by omega)]
    simp only [headroomref02_Two.j0, Bool.false_eq_true, if_false]
    rw [ref_In (by omega) hf, Option.bind_some, List.all_cons, List.all_cons, List.all_nil, Bool.and_true]
    cases ha : inm (mag fmt) a with
    | false =>
      rw [if_neg (by decide), Bool.false_and, if_neg (by decide)]
      simp [headroomref02_Two.j1]
    | true =>
      rw [if_pos rfl, ref_In (by omega) hf, Option.bind_some, Bool.true_and]
      cases hb : inm (mag fmt) b with
      | false =>
        rw [if_neg (by decide)]
        simp [headroomref02_Two.j1]
      | true =>
        rw [if_pos rfl]
        simp only [headroomref02_Two.j1, Bool.not_true, Bool.false_eq_true, if_false]
        exact hv hf (by omega) ha hb k (by omega)
  · rw [decide_eq_false hf, if_neg (by decide), if_neg hf]
    simp [headroomref02_Two.j0]
theorem inm_bd {fmt x : Int} (h : inm (mag fmt) x = true) : -2147483648 ≤ x ∧ x ≤ 2147483647 := by
  have := mag_bd (fmt := fmt)
  have := of_decide_eq_true h
  omega
theorem ref_Two_sum {k : Nat} {a b fmt : Int} (hk : 200 ≤ k) : headroomref02_Two.f k a b fmt 0 0 = some (satof fmt [a, b] (a + b)) := by
  rw [ref_Two_all (v := a + b) hk, if_neg (by decide)]
  intro hf _ ha hb k hk
  have := inm_bd ha
  have := inm_bd hb
  rw [if_pos rfl, w64 (by omega), ref_Clamp (by omega) hf, Option.bind_some]
theorem ref_Two_less {k : Nat} {a b fmt : Int} (hk : 200 ≤ k) : headroomref02_Two.f k a b fmt 0 1 = some (satof fmt [a, b] (a - b)) := by
  rw [ref_Two_all (v := a - b) hk, if_neg (by decide)]
  intro hf _ ha hb k hk
  have := inm_bd ha
  have := inm_bd hb
  rw [if_neg (by decide), if_pos rfl, w64 (by omega), ref_Clamp (by omega) hf, Option.bind_some]
theorem ref_Two_mul {k : Nat} {a b fmt mode : Int} (hk : 200 ≤ k) : headroomref02_Two.f k a b fmt mode 2 = some (if mode < 0 ∨ 2 < mode then (0, false, 1) else satof fmt [a, b] (rmul fmt mode a b)) := by
  rw [ref_Two_all (v := rmul fmt mode a b) hk]
  intro hf hm ha hb k hk
  unfold rmul
  rw [if_neg (by decide), if_neg (by decide)]
  rcases hf with rfl | rfl
  · simp only [headroomref02_Bits.f, if_true, Option.bind_some, Int.reduceEq, if_false]
    rw [ref_Shift (by omega) (w64_range _) (by decide) (by decide) hm, Option.bind_some, ref_Clamp (by omega) (.inl rfl), Option.bind_some]
  · simp only [headroomref02_Bits.f, if_true, Option.bind_some, Int.reduceEq, if_false]
    rw [ref_Shift (by omega) (w64_range _) (by decide) (by decide) hm, Option.bind_some, ref_Clamp (by omega) (.inr rfl), Option.bind_some]
end Go.Proofs.Ytobkjhiicafkbaa.P

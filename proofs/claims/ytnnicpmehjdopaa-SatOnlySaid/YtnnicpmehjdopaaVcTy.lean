import Derived.Test.YtnnicpmehjdopaaVcL
import Derived.Test.YtnnicpmehjdopaaProg
/- The types of the program, for the evaluator; what is asked of them; the functions' bodies. Printed by this session's program ty.py. -/
namespace Go.Proofs.YtnnicpmehjdopaaV
open Go Go.RowKit
set_option linter.unusedVariables false
set_option maxRecDepth 100000
def ttab : List (Nat × TI) :=
  [(3, ⟨.int .i64, 1, 8, [.int .i64 0], false⟩),
   (4, ⟨.bool, 1, 1, [.bool false], false⟩),
   (22, ⟨.int .i64, 1, 8, [.int .i64 0], false⟩),
   (29, ⟨.slice 22, 1, 24, [.slice none 0 0], false⟩),
   (30, ⟨.slice 3, 1, 24, [.slice none 0 0], false⟩),
   (34, ⟨.func #[] #[3] false, 1, 8, [.nilFunc], false⟩),
   (36, ⟨.func #[3] #[4] false, 1, 8, [.nilFunc], false⟩),
   (38, ⟨.slice 42, 1, 24, [.slice none 0 0], false⟩),
   (40, ⟨.func #[3, 3, 4] #[4] false, 1, 8, [.nilFunc], false⟩),
   (41, ⟨.struct #[⟨"up", 40, 0, false, "", "headroom/round", 0⟩], 1, 8, [.nilFunc], false⟩),
   (42, ⟨.struct #[⟨"up", 40, 0, false, "", "headroom/round", 0⟩], 1, 8, [.nilFunc], false⟩)]
def tt : TypeId → Option TI := fun t => look t ttab
theorem tok3 : Tok Try.prog 3 ⟨.int .i64, 1, 8, [.int .i64 0], false⟩ := tok_of (.int .i64 0) (by kernel_rfl) (by kernel_rfl) rfl (by first | exact fun _ => rfl | (intro h; cases h)) rfl (by first | exact fun _ => rfl | (intro h; cases h)) (trivial) (fun h => by cases h)
theorem tok4 : Tok Try.prog 4 ⟨.bool, 1, 1, [.bool false], false⟩ := tok_of (.bool false) (by kernel_rfl) (by kernel_rfl) rfl (by first | exact fun _ => rfl | (intro h; cases h)) rfl (by first | exact fun _ => rfl | (intro h; cases h)) (trivial) (fun h => by cases h)
theorem tok22 : Tok Try.prog 22 ⟨.int .i64, 1, 8, [.int .i64 0], false⟩ := tok_of (.int .i64 0) (by kernel_rfl) (by kernel_rfl) rfl (by first | exact fun _ => rfl | (intro h; cases h)) rfl (by first | exact fun _ => rfl | (intro h; cases h)) (trivial) (fun h => by cases h)
theorem tok29 : Tok Try.prog 29 ⟨.slice 22, 1, 24, [.slice none 0 0], false⟩ := tok_of (.slice none 0 0) (by kernel_rfl) (by kernel_rfl) rfl (by first | exact fun _ => rfl | (intro h; cases h)) rfl (by first | exact fun _ => rfl | (intro h; cases h)) (trivial) (fun h => by cases h)
theorem tok30 : Tok Try.prog 30 ⟨.slice 3, 1, 24, [.slice none 0 0], false⟩ := tok_of (.slice none 0 0) (by kernel_rfl) (by kernel_rfl) rfl (by first | exact fun _ => rfl | (intro h; cases h)) rfl (by first | exact fun _ => rfl | (intro h; cases h)) (trivial) (fun h => by cases h)
theorem tok34 : Tok Try.prog 34 ⟨.func #[] #[3] false, 1, 8, [.nilFunc], false⟩ := tok_of (.nilFunc) (by kernel_rfl) (by kernel_rfl) rfl (by first | exact fun _ => rfl | (intro h; cases h)) rfl (by first | exact fun _ => rfl | (intro h; cases h)) (trivial) (fun h => by cases h)
theorem tok36 : Tok Try.prog 36 ⟨.func #[3] #[4] false, 1, 8, [.nilFunc], false⟩ := tok_of (.nilFunc) (by kernel_rfl) (by kernel_rfl) rfl (by first | exact fun _ => rfl | (intro h; cases h)) rfl (by first | exact fun _ => rfl | (intro h; cases h)) (trivial) (fun h => by cases h)
theorem tok38 : Tok Try.prog 38 ⟨.slice 42, 1, 24, [.slice none 0 0], false⟩ := tok_of (.slice none 0 0) (by kernel_rfl) (by kernel_rfl) rfl (by first | exact fun _ => rfl | (intro h; cases h)) rfl (by first | exact fun _ => rfl | (intro h; cases h)) (trivial) (fun h => by cases h)
theorem tok40 : Tok Try.prog 40 ⟨.func #[3, 3, 4] #[4] false, 1, 8, [.nilFunc], false⟩ := tok_of (.nilFunc) (by kernel_rfl) (by kernel_rfl) rfl (by first | exact fun _ => rfl | (intro h; cases h)) rfl (by first | exact fun _ => rfl | (intro h; cases h)) (trivial) (fun h => by cases h)
theorem tok41 : Tok Try.prog 41 ⟨.struct #[⟨"up", 40, 0, false, "", "headroom/round", 0⟩], 1, 8, [.nilFunc], false⟩ := tok_of (.agg #[.nilFunc]) (by kernel_rfl) (by kernel_rfl) rfl (by first | exact fun _ => rfl | (intro h; cases h)) rfl (by first | exact fun _ => rfl | (intro h; cases h)) (⟨[(0, 1)], by kernel_rfl⟩) (fun h => by cases h)
theorem tok42 : Tok Try.prog 42 ⟨.struct #[⟨"up", 40, 0, false, "", "headroom/round", 0⟩], 1, 8, [.nilFunc], false⟩ := tok_of (.agg #[.nilFunc]) (by kernel_rfl) (by kernel_rfl) rfl (by first | exact fun _ => rfl | (intro h; cases h)) rfl (by first | exact fun _ => rfl | (intro h; cases h)) (⟨[(0, 1)], by kernel_rfl⟩) (fun h => by cases h)
theorem tok : TOk Try.prog tt := tok_list (tok_cons tok3 (tok_cons tok4 (tok_cons tok22 (tok_cons tok29 (tok_cons tok30 (tok_cons tok34 (tok_cons tok36 (tok_cons tok38 (tok_cons tok40 (tok_cons tok41 (tok_cons tok42 (tok_nil))))))))))))
theorem follows : Try.prog.follows .mixedOrders = true := by kernel_rfl
theorem ts3 : tSize tt 3 = some (false, 1) := rfl
theorem tz3 : tZero tt 3 = some [.raw (.int .i64 0)] := rfl
theorem ti3 : tInt tt 3 = some .i64 := rfl
theorem tb3 : tBool tt 3 = false := rfl
theorem te3 : tEq tt 3 = none := rfl
theorem tq3 : tSl tt 3 = false := rfl
theorem ts4 : tSize tt 4 = some (false, 1) := rfl
theorem tz4 : tZero tt 4 = some [.raw (.bool false)] := rfl
theorem tb4 : tBool tt 4 = true := rfl
theorem te4 : tEq tt 4 = none := rfl
theorem tq4 : tSl tt 4 = false := rfl
theorem ts22 : tSize tt 22 = some (false, 1) := rfl
theorem tz22 : tZero tt 22 = some [.raw (.int .i64 0)] := rfl
theorem ti22 : tInt tt 22 = some .i64 := rfl
theorem tb22 : tBool tt 22 = false := rfl
theorem te22 : tEq tt 22 = none := rfl
theorem tq22 : tSl tt 22 = false := rfl
theorem ts29 : tSize tt 29 = some (false, 1) := rfl
theorem tz29 : tZero tt 29 = some [.raw (.slice none 0 0)] := rfl
theorem tb29 : tBool tt 29 = false := rfl
theorem te29 : tEq tt 29 = none := rfl
theorem tq29 : tSl tt 29 = true := rfl
theorem tl29 : tSlice tt 29 = some (22, ⟨.int .i64, 1, 8, [.int .i64 0], false⟩) := rfl
theorem ts30 : tSize tt 30 = some (false, 1) := rfl
theorem tz30 : tZero tt 30 = some [.raw (.slice none 0 0)] := rfl
theorem tb30 : tBool tt 30 = false := rfl
theorem te30 : tEq tt 30 = none := rfl
theorem tq30 : tSl tt 30 = true := rfl
theorem tl30 : tSlice tt 30 = some (3, ⟨.int .i64, 1, 8, [.int .i64 0], false⟩) := rfl
theorem ts34 : tSize tt 34 = some (false, 1) := rfl
theorem tz34 : tZero tt 34 = some [.raw (.nilFunc)] := rfl
theorem tb34 : tBool tt 34 = false := rfl
theorem te34 : tEq tt 34 = none := rfl
theorem tq34 : tSl tt 34 = false := rfl
theorem ts36 : tSize tt 36 = some (false, 1) := rfl
theorem tz36 : tZero tt 36 = some [.raw (.nilFunc)] := rfl
theorem tb36 : tBool tt 36 = false := rfl
theorem te36 : tEq tt 36 = none := rfl
theorem tq36 : tSl tt 36 = false := rfl
theorem ts38 : tSize tt 38 = some (false, 1) := rfl
theorem tz38 : tZero tt 38 = some [.raw (.slice none 0 0)] := rfl
theorem tb38 : tBool tt 38 = false := rfl
theorem te38 : tEq tt 38 = none := rfl
theorem tq38 : tSl tt 38 = true := rfl
theorem tl38 : tSlice tt 38 = some (42, ⟨.struct #[⟨"up", 40, 0, false, "", "headroom/round", 0⟩], 1, 8, [.nilFunc], false⟩) := rfl
theorem ts40 : tSize tt 40 = some (false, 1) := rfl
theorem tz40 : tZero tt 40 = some [.raw (.nilFunc)] := rfl
theorem tb40 : tBool tt 40 = false := rfl
theorem te40 : tEq tt 40 = none := rfl
theorem tq40 : tSl tt 40 = false := rfl
theorem ts41 : tSize tt 41 = some (true, 1) := rfl
theorem tz41 : tZero tt 41 = some [.raw (.nilFunc)] := rfl
theorem tb41 : tBool tt 41 = false := rfl
theorem te41 : tEq tt 41 = none := rfl
theorem tq41 : tSl tt 41 = false := rfl
theorem tf41_0 : tField tt 41 0 = some (0, false, 1) := rfl
theorem tp41_0 : placeOf tt 41 0 = some (0, 1) := rfl
theorem ts42 : tSize tt 42 = some (true, 1) := rfl
theorem tz42 : tZero tt 42 = some [.raw (.nilFunc)] := rfl
theorem tb42 : tBool tt 42 = false := rfl
theorem te42 : tEq tt 42 = none := rfl
theorem tq42 : tSl tt 42 = false := rfl
theorem tf42_0 : tField tt 42 0 = some (0, false, 1) := rfl
theorem tp42_0 : placeOf tt 42 0 = some (0, 1) := rfl
end Go.Proofs.YtnnicpmehjdopaaV

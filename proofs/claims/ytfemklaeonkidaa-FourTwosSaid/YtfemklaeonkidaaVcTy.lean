import Derived.Test.YtfemklaeonkidaaVcL
import Derived.Test.YtfemklaeonkidaaProg
/- The types of the program, for the evaluator; what is asked of them; the functions' bodies. Printed by this session's program ty.py. -/
namespace Go.Proofs.YtfemklaeonkidaaV
open Go Go.RowKit
set_option linter.unusedVariables false
set_option maxRecDepth 100000
def ttab : List (Nat × TI) :=
  [(3, ⟨.int .i64, 1, 8, [.int .i64 0], false⟩),
   (4, ⟨.bool, 1, 1, [.bool false], false⟩),
   (22, ⟨.int .i64, 1, 8, [.int .i64 0], false⟩),
   (32, ⟨.slice 37, 1, 24, [.slice none 0 0], false⟩),
   (36, ⟨.struct #[⟨"Re", 3, 0, false, "", "", 0⟩, ⟨"Im", 3, 1, false, "", "", 8⟩], 2, 16, [.int .i64 0, .int .i64 0], true⟩),
   (37, ⟨.struct #[⟨"Re", 3, 0, false, "", "", 0⟩, ⟨"Im", 3, 1, false, "", "", 8⟩], 2, 16, [.int .i64 0, .int .i64 0], true⟩),
   (52, ⟨.array 4 37, 8, 64, [.int .i64 0, .int .i64 0, .int .i64 0, .int .i64 0, .int .i64 0, .int .i64 0, .int .i64 0, .int .i64 0], true⟩),
   (55, ⟨.struct #[⟨"A", 37, 0, false, "", "", 0⟩, ⟨"B", 37, 2, false, "", "", 16⟩, ⟨"C", 37, 4, false, "", "", 32⟩, ⟨"D", 37, 6, false, "", "", 48⟩], 8, 64, [.int .i64 0, .int .i64 0, .int .i64 0, .int .i64 0, .int .i64 0, .int .i64 0, .int .i64 0, .int .i64 0], false⟩),
   (56, ⟨.struct #[⟨"A", 37, 0, false, "", "", 0⟩, ⟨"B", 37, 2, false, "", "", 16⟩, ⟨"C", 37, 4, false, "", "", 32⟩, ⟨"D", 37, 6, false, "", "", 48⟩], 8, 64, [.int .i64 0, .int .i64 0, .int .i64 0, .int .i64 0, .int .i64 0, .int .i64 0, .int .i64 0, .int .i64 0], false⟩),
   (74, ⟨.func #[37] #[4] false, 1, 8, [.nilFunc], false⟩),
   (84, ⟨.slice 3, 1, 24, [.slice none 0 0], false⟩),
   (86, ⟨.slice 90, 1, 24, [.slice none 0 0], false⟩),
   (88, ⟨.func #[3, 3, 4] #[4] false, 1, 8, [.nilFunc], false⟩),
   (89, ⟨.struct #[⟨"up", 88, 0, false, "", "headroom/round", 0⟩], 1, 8, [.nilFunc], false⟩),
   (90, ⟨.struct #[⟨"up", 88, 0, false, "", "headroom/round", 0⟩], 1, 8, [.nilFunc], false⟩),
   (92, ⟨.array 4 3, 4, 32, [.int .i64 0, .int .i64 0, .int .i64 0, .int .i64 0], true⟩),
   (97, ⟨.func #[] #[37] false, 1, 8, [.nilFunc], false⟩)]
def tt : TypeId → Option TI := fun t => look t ttab
theorem tok3 : Tok Try.prog 3 ⟨.int .i64, 1, 8, [.int .i64 0], false⟩ := tok_of (.int .i64 0) (by kernel_rfl) (by kernel_rfl) rfl (by first | exact fun _ => rfl | (intro h; cases h)) rfl (by first | exact fun _ => rfl | (intro h; cases h)) (trivial) (fun h => by cases h)
theorem tok4 : Tok Try.prog 4 ⟨.bool, 1, 1, [.bool false], false⟩ := tok_of (.bool false) (by kernel_rfl) (by kernel_rfl) rfl (by first | exact fun _ => rfl | (intro h; cases h)) rfl (by first | exact fun _ => rfl | (intro h; cases h)) (trivial) (fun h => by cases h)
theorem tok22 : Tok Try.prog 22 ⟨.int .i64, 1, 8, [.int .i64 0], false⟩ := tok_of (.int .i64 0) (by kernel_rfl) (by kernel_rfl) rfl (by first | exact fun _ => rfl | (intro h; cases h)) rfl (by first | exact fun _ => rfl | (intro h; cases h)) (trivial) (fun h => by cases h)
theorem tok32 : Tok Try.prog 32 ⟨.slice 37, 1, 24, [.slice none 0 0], false⟩ := tok_of (.slice none 0 0) (by kernel_rfl) (by kernel_rfl) rfl (by first | exact fun _ => rfl | (intro h; cases h)) rfl (by first | exact fun _ => rfl | (intro h; cases h)) (trivial) (fun h => by cases h)
theorem eqt36 : EqT Try.prog 36 2 := eqT_struct (by kernel_rfl) Try.underlying36 (by kernel_rfl) ⟨rfl, by kernel_rfl, rfl, rfl, by kernel_rfl, rfl, rfl⟩
theorem tok36 : Tok Try.prog 36 ⟨.struct #[⟨"Re", 3, 0, false, "", "", 0⟩, ⟨"Im", 3, 1, false, "", "", 8⟩], 2, 16, [.int .i64 0, .int .i64 0], true⟩ := tok_of (.agg #[.int .i64 0, .int .i64 0]) (by kernel_rfl) (by kernel_rfl) rfl (by first | exact fun _ => rfl | (intro h; cases h)) rfl (by first | exact fun _ => rfl | (intro h; cases h)) (⟨[(0, 1), (1, 1)], by kernel_rfl⟩) (fun _ => eqt36)
theorem eqt37 : EqT Try.prog 37 2 := eqT_struct (by kernel_rfl) Try.underlying37 (by kernel_rfl) ⟨rfl, by kernel_rfl, rfl, rfl, by kernel_rfl, rfl, rfl⟩
theorem tok37 : Tok Try.prog 37 ⟨.struct #[⟨"Re", 3, 0, false, "", "", 0⟩, ⟨"Im", 3, 1, false, "", "", 8⟩], 2, 16, [.int .i64 0, .int .i64 0], true⟩ := tok_of (.agg #[.int .i64 0, .int .i64 0]) (by kernel_rfl) (by kernel_rfl) rfl (by first | exact fun _ => rfl | (intro h; cases h)) rfl (by first | exact fun _ => rfl | (intro h; cases h)) (⟨[(0, 1), (1, 1)], by kernel_rfl⟩) (fun _ => eqt37)
theorem eqt52 : EqT Try.prog 52 8 := eqT_array (e := 37) (c := 2) (m := 4) (by kernel_rfl) Try.underlying52 Try.underlying37 rfl (by kernel_rfl) (eqT_small Try.underlying37 (by kernel_rfl) ⟨rfl, by kernel_rfl, rfl, rfl, by kernel_rfl, rfl, rfl⟩)
theorem tok52 : Tok Try.prog 52 ⟨.array 4 37, 8, 64, [.int .i64 0, .int .i64 0, .int .i64 0, .int .i64 0, .int .i64 0, .int .i64 0, .int .i64 0, .int .i64 0], true⟩ := tok_of (.agg #[.int .i64 0, .int .i64 0, .int .i64 0, .int .i64 0, .int .i64 0, .int .i64 0, .int .i64 0, .int .i64 0]) (by kernel_rfl) (by kernel_rfl) rfl (by first | exact fun _ => rfl | (intro h; cases h)) rfl (by first | exact fun _ => rfl | (intro h; cases h)) (some_of (by kernel_rfl)) (fun _ => eqt52)
theorem tok55 : Tok Try.prog 55 ⟨.struct #[⟨"A", 37, 0, false, "", "", 0⟩, ⟨"B", 37, 2, false, "", "", 16⟩, ⟨"C", 37, 4, false, "", "", 32⟩, ⟨"D", 37, 6, false, "", "", 48⟩], 8, 64, [.int .i64 0, .int .i64 0, .int .i64 0, .int .i64 0, .int .i64 0, .int .i64 0, .int .i64 0, .int .i64 0], false⟩ := tok_of (.agg #[.int .i64 0, .int .i64 0, .int .i64 0, .int .i64 0, .int .i64 0, .int .i64 0, .int .i64 0, .int .i64 0]) (by kernel_rfl) (by kernel_rfl) rfl (by first | exact fun _ => rfl | (intro h; cases h)) rfl (by first | exact fun _ => rfl | (intro h; cases h)) (⟨[(0, 2), (2, 2), (4, 2), (6, 2)], by kernel_rfl⟩) (fun h => by cases h)
theorem tok56 : Tok Try.prog 56 ⟨.struct #[⟨"A", 37, 0, false, "", "", 0⟩, ⟨"B", 37, 2, false, "", "", 16⟩, ⟨"C", 37, 4, false, "", "", 32⟩, ⟨"D", 37, 6, false, "", "", 48⟩], 8, 64, [.int .i64 0, .int .i64 0, .int .i64 0, .int .i64 0, .int .i64 0, .int .i64 0, .int .i64 0, .int .i64 0], false⟩ := tok_of (.agg #[.int .i64 0, .int .i64 0, .int .i64 0, .int .i64 0, .int .i64 0, .int .i64 0, .int .i64 0, .int .i64 0]) (by kernel_rfl) (by kernel_rfl) rfl (by first | exact fun _ => rfl | (intro h; cases h)) rfl (by first | exact fun _ => rfl | (intro h; cases h)) (⟨[(0, 2), (2, 2), (4, 2), (6, 2)], by kernel_rfl⟩) (fun h => by cases h)
theorem tok74 : Tok Try.prog 74 ⟨.func #[37] #[4] false, 1, 8, [.nilFunc], false⟩ := tok_of (.nilFunc) (by kernel_rfl) (by kernel_rfl) rfl (by first | exact fun _ => rfl | (intro h; cases h)) rfl (by first | exact fun _ => rfl | (intro h; cases h)) (trivial) (fun h => by cases h)
theorem tok84 : Tok Try.prog 84 ⟨.slice 3, 1, 24, [.slice none 0 0], false⟩ := tok_of (.slice none 0 0) (by kernel_rfl) (by kernel_rfl) rfl (by first | exact fun _ => rfl | (intro h; cases h)) rfl (by first | exact fun _ => rfl | (intro h; cases h)) (trivial) (fun h => by cases h)
theorem tok86 : Tok Try.prog 86 ⟨.slice 90, 1, 24, [.slice none 0 0], false⟩ := tok_of (.slice none 0 0) (by kernel_rfl) (by kernel_rfl) rfl (by first | exact fun _ => rfl | (intro h; cases h)) rfl (by first | exact fun _ => rfl | (intro h; cases h)) (trivial) (fun h => by cases h)
theorem tok88 : Tok Try.prog 88 ⟨.func #[3, 3, 4] #[4] false, 1, 8, [.nilFunc], false⟩ := tok_of (.nilFunc) (by kernel_rfl) (by kernel_rfl) rfl (by first | exact fun _ => rfl | (intro h; cases h)) rfl (by first | exact fun _ => rfl | (intro h; cases h)) (trivial) (fun h => by cases h)
theorem tok89 : Tok Try.prog 89 ⟨.struct #[⟨"up", 88, 0, false, "", "headroom/round", 0⟩], 1, 8, [.nilFunc], false⟩ := tok_of (.agg #[.nilFunc]) (by kernel_rfl) (by kernel_rfl) rfl (by first | exact fun _ => rfl | (intro h; cases h)) rfl (by first | exact fun _ => rfl | (intro h; cases h)) (⟨[(0, 1)], by kernel_rfl⟩) (fun h => by cases h)
theorem tok90 : Tok Try.prog 90 ⟨.struct #[⟨"up", 88, 0, false, "", "headroom/round", 0⟩], 1, 8, [.nilFunc], false⟩ := tok_of (.agg #[.nilFunc]) (by kernel_rfl) (by kernel_rfl) rfl (by first | exact fun _ => rfl | (intro h; cases h)) rfl (by first | exact fun _ => rfl | (intro h; cases h)) (⟨[(0, 1)], by kernel_rfl⟩) (fun h => by cases h)
theorem eqt92 : EqT Try.prog 92 4 := eqT_ints (e := 3) (by kernel_rfl) Try.underlying92 Try.underlying3 (by kernel_rfl)
theorem tok92 : Tok Try.prog 92 ⟨.array 4 3, 4, 32, [.int .i64 0, .int .i64 0, .int .i64 0, .int .i64 0], true⟩ := tok_of (.agg #[.int .i64 0, .int .i64 0, .int .i64 0, .int .i64 0]) (by kernel_rfl) (by kernel_rfl) rfl (by first | exact fun _ => rfl | (intro h; cases h)) rfl (by first | exact fun _ => rfl | (intro h; cases h)) (some_of (by kernel_rfl)) (fun _ => eqt92)
theorem tok97 : Tok Try.prog 97 ⟨.func #[] #[37] false, 1, 8, [.nilFunc], false⟩ := tok_of (.nilFunc) (by kernel_rfl) (by kernel_rfl) rfl (by first | exact fun _ => rfl | (intro h; cases h)) rfl (by first | exact fun _ => rfl | (intro h; cases h)) (trivial) (fun h => by cases h)
theorem tok : TOk Try.prog tt := tok_list (tok_cons tok3 (tok_cons tok4 (tok_cons tok22 (tok_cons tok32 (tok_cons tok36 (tok_cons tok37 (tok_cons tok52 (tok_cons tok55 (tok_cons tok56 (tok_cons tok74 (tok_cons tok84 (tok_cons tok86 (tok_cons tok88 (tok_cons tok89 (tok_cons tok90 (tok_cons tok92 (tok_cons tok97 (tok_nil))))))))))))))))))
theorem follows : Try.prog.follows .mixedOrders = true := by kernel_rfl
theorem ts3 : tSize tt 3 = some (false, 1) := rfl
theorem tz3 : tZero tt 3 = some [.raw (.int .i64 0)] := rfl
theorem ti3 : tInt tt 3 = some .i64 := rfl
theorem tb3 : tBool tt 3 = false := rfl
theorem te3 : tEq tt 3 = none := rfl
theorem tq3 : tSl tt 3 = false := rfl
theorem ts4 : tSize tt 4 = some (false, 1) := rfl
theorem tz4 : tZero tt 4 = some [.raw (.bool false)] := rfl
theorem tb4 : tBool tt 4 = true := rfl
theorem te4 : tEq tt 4 = none := rfl
theorem tq4 : tSl tt 4 = false := rfl
theorem ts22 : tSize tt 22 = some (false, 1) := rfl
theorem tz22 : tZero tt 22 = some [.raw (.int .i64 0)] := rfl
theorem ti22 : tInt tt 22 = some .i64 := rfl
theorem tb22 : tBool tt 22 = false := rfl
theorem te22 : tEq tt 22 = none := rfl
theorem tq22 : tSl tt 22 = false := rfl
theorem ts32 : tSize tt 32 = some (false, 1) := rfl
theorem tz32 : tZero tt 32 = some [.raw (.slice none 0 0)] := rfl
theorem tb32 : tBool tt 32 = false := rfl
theorem te32 : tEq tt 32 = none := rfl
theorem tq32 : tSl tt 32 = true := rfl
theorem tl32 : tSlice tt 32 = some (37, ⟨.struct #[⟨"Re", 3, 0, false, "", "", 0⟩, ⟨"Im", 3, 1, false, "", "", 8⟩], 2, 16, [.int .i64 0, .int .i64 0], true⟩) := rfl
theorem ts36 : tSize tt 36 = some (true, 2) := rfl
theorem tz36 : tZero tt 36 = some [.raw (.int .i64 0), .raw (.int .i64 0)] := rfl
theorem tb36 : tBool tt 36 = false := rfl
theorem te36 : tEq tt 36 = some 2 := rfl
theorem tq36 : tSl tt 36 = false := rfl
theorem tf36_0 : tField tt 36 0 = some (0, false, 1) := rfl
theorem tp36_0 : placeOf tt 36 0 = some (0, 1) := rfl
theorem tf36_1 : tField tt 36 1 = some (1, false, 1) := rfl
theorem tp36_1 : placeOf tt 36 1 = some (1, 1) := rfl
theorem ts37 : tSize tt 37 = some (true, 2) := rfl
theorem tz37 : tZero tt 37 = some [.raw (.int .i64 0), .raw (.int .i64 0)] := rfl
theorem tb37 : tBool tt 37 = false := rfl
theorem te37 : tEq tt 37 = some 2 := rfl
theorem tq37 : tSl tt 37 = false := rfl
theorem tf37_0 : tField tt 37 0 = some (0, false, 1) := rfl
theorem tp37_0 : placeOf tt 37 0 = some (0, 1) := rfl
theorem tf37_1 : tField tt 37 1 = some (1, false, 1) := rfl
theorem tp37_1 : placeOf tt 37 1 = some (1, 1) := rfl
theorem ts52 : tSize tt 52 = some (true, 8) := rfl
theorem tz52 : tZero tt 52 = some [.raw (.int .i64 0), .raw (.int .i64 0), .raw (.int .i64 0), .raw (.int .i64 0), .raw (.int .i64 0), .raw (.int .i64 0), .raw (.int .i64 0), .raw (.int .i64 0)] := rfl
theorem tb52 : tBool tt 52 = false := rfl
theorem te52 : tEq tt 52 = some 8 := rfl
theorem tq52 : tSl tt 52 = false := rfl
theorem ta52 : tArr tt 52 = some (4, true, 2) := rfl
theorem tp52_0 : placeOf tt 52 0 = some (0 * 2, 2) := rfl
theorem tp52_1 : placeOf tt 52 1 = some (1 * 2, 2) := rfl
theorem tp52_2 : placeOf tt 52 2 = some (2 * 2, 2) := rfl
theorem tp52_3 : placeOf tt 52 3 = some (3 * 2, 2) := rfl
theorem ts55 : tSize tt 55 = some (true, 8) := rfl
theorem tz55 : tZero tt 55 = some [.raw (.int .i64 0), .raw (.int .i64 0), .raw (.int .i64 0), .raw (.int .i64 0), .raw (.int .i64 0), .raw (.int .i64 0), .raw (.int .i64 0), .raw (.int .i64 0)] := rfl
theorem tb55 : tBool tt 55 = false := rfl
theorem te55 : tEq tt 55 = none := rfl
theorem tq55 : tSl tt 55 = false := rfl
theorem tf55_0 : tField tt 55 0 = some (0, true, 2) := rfl
theorem tp55_0 : placeOf tt 55 0 = some (0, 2) := rfl
theorem tf55_1 : tField tt 55 1 = some (2, true, 2) := rfl
theorem tp55_1 : placeOf tt 55 1 = some (2, 2) := rfl
theorem tf55_2 : tField tt 55 2 = some (4, true, 2) := rfl
theorem tp55_2 : placeOf tt 55 2 = some (4, 2) := rfl
theorem tf55_3 : tField tt 55 3 = some (6, true, 2) := rfl
theorem tp55_3 : placeOf tt 55 3 = some (6, 2) := rfl
theorem ts56 : tSize tt 56 = some (true, 8) := rfl
theorem tz56 : tZero tt 56 = some [.raw (.int .i64 0), .raw (.int .i64 0), .raw (.int .i64 0), .raw (.int .i64 0), .raw (.int .i64 0), .raw (.int .i64 0), .raw (.int .i64 0), .raw (.int .i64 0)] := rfl
theorem tb56 : tBool tt 56 = false := rfl
theorem te56 : tEq tt 56 = none := rfl
theorem tq56 : tSl tt 56 = false := rfl
theorem tf56_0 : tField tt 56 0 = some (0, true, 2) := rfl
theorem tp56_0 : placeOf tt 56 0 = some (0, 2) := rfl
theorem tf56_1 : tField tt 56 1 = some (2, true, 2) := rfl
theorem tp56_1 : placeOf tt 56 1 = some (2, 2) := rfl
theorem tf56_2 : tField tt 56 2 = some (4, true, 2) := rfl
theorem tp56_2 : placeOf tt 56 2 = some (4, 2) := rfl
theorem tf56_3 : tField tt 56 3 = some (6, true, 2) := rfl
theorem tp56_3 : placeOf tt 56 3 = some (6, 2) := rfl
theorem ts74 : tSize tt 74 = some (false, 1) := rfl
theorem tz74 : tZero tt 74 = some [.raw (.nilFunc)] := rfl
theorem tb74 : tBool tt 74 = false := rfl
theorem te74 : tEq tt 74 = none := rfl
theorem tq74 : tSl tt 74 = false := rfl
theorem ts84 : tSize tt 84 = some (false, 1) := rfl
theorem tz84 : tZero tt 84 = some [.raw (.slice none 0 0)] := rfl
theorem tb84 : tBool tt 84 = false := rfl
theorem te84 : tEq tt 84 = none := rfl
theorem tq84 : tSl tt 84 = true := rfl
theorem tl84 : tSlice tt 84 = some (3, ⟨.int .i64, 1, 8, [.int .i64 0], false⟩) := rfl
theorem ts86 : tSize tt 86 = some (false, 1) := rfl
theorem tz86 : tZero tt 86 = some [.raw (.slice none 0 0)] := rfl
theorem tb86 : tBool tt 86 = false := rfl
theorem te86 : tEq tt 86 = none := rfl
theorem tq86 : tSl tt 86 = true := rfl
theorem tl86 : tSlice tt 86 = some (90, ⟨.struct #[⟨"up", 88, 0, false, "", "headroom/round", 0⟩], 1, 8, [.nilFunc], false⟩) := rfl
theorem ts88 : tSize tt 88 = some (false, 1) := rfl
theorem tz88 : tZero tt 88 = some [.raw (.nilFunc)] := rfl
theorem tb88 : tBool tt 88 = false := rfl
theorem te88 : tEq tt 88 = none := rfl
theorem tq88 : tSl tt 88 = false := rfl
theorem ts89 : tSize tt 89 = some (true, 1) := rfl
theorem tz89 : tZero tt 89 = some [.raw (.nilFunc)] := rfl
theorem tb89 : tBool tt 89 = false := rfl
theorem te89 : tEq tt 89 = none := rfl
theorem tq89 : tSl tt 89 = false := rfl
theorem tf89_0 : tField tt 89 0 = some (0, false, 1) := rfl
theorem tp89_0 : placeOf tt 89 0 = some (0, 1) := rfl
theorem ts90 : tSize tt 90 = some (true, 1) := rfl
theorem tz90 : tZero tt 90 = some [.raw (.nilFunc)] := rfl
theorem tb90 : tBool tt 90 = false := rfl
theorem te90 : tEq tt 90 = none := rfl
theorem tq90 : tSl tt 90 = false := rfl
theorem tf90_0 : tField tt 90 0 = some (0, false, 1) := rfl
theorem tp90_0 : placeOf tt 90 0 = some (0, 1) := rfl
theorem ts92 : tSize tt 92 = some (true, 4) := rfl
theorem tz92 : tZero tt 92 = some [.raw (.int .i64 0), .raw (.int .i64 0), .raw (.int .i64 0), .raw (.int .i64 0)] := rfl
theorem tb92 : tBool tt 92 = false := rfl
theorem te92 : tEq tt 92 = some 4 := rfl
theorem tq92 : tSl tt 92 = false := rfl
theorem ta92 : tArr tt 92 = some (4, false, 1) := rfl
theorem tp92_0 : placeOf tt 92 0 = some (0 * 1, 1) := rfl
theorem tp92_1 : placeOf tt 92 1 = some (1 * 1, 1) := rfl
theorem tp92_2 : placeOf tt 92 2 = some (2 * 1, 1) := rfl
theorem tp92_3 : placeOf tt 92 3 = some (3 * 1, 1) := rfl
theorem ts97 : tSize tt 97 = some (false, 1) := rfl
theorem tz97 : tZero tt 97 = some [.raw (.nilFunc)] := rfl
theorem tb97 : tBool tt 97 = false := rfl
theorem te97 : tEq tt 97 = none := rfl
theorem tq97 : tSl tt 97 = false := rfl
end Go.Proofs.YtfemklaeonkidaaV

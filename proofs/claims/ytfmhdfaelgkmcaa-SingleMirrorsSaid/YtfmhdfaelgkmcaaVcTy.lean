import Derived.Test.YtfmhdfaelgkmcaaVcL
import Derived.Test.YtfmhdfaelgkmcaaProg
/- The types of the program, for the evaluator; what is asked of them; the functions' bodies. Printed by this session's program ty.py. -/
namespace Go.Proofs.YtfmhdfaelgkmcaaV
open Go Go.RowKit
set_option linter.unusedVariables false
set_option maxRecDepth 100000
def ttab : List (Nat × TI) :=
  [(3, ⟨.int .i64, 1, 8, [.int .i64 0], false⟩),
   (4, ⟨.bool, 1, 1, [.bool false], false⟩),
   (22, ⟨.struct #[⟨"Re", 3, 0, false, "", "", 0⟩, ⟨"Im", 3, 1, false, "", "", 8⟩], 2, 16, [.int .i64 0, .int .i64 0], true⟩),
   (23, ⟨.struct #[⟨"Re", 3, 0, false, "", "", 0⟩, ⟨"Im", 3, 1, false, "", "", 8⟩], 2, 16, [.int .i64 0, .int .i64 0], true⟩),
   (24, ⟨.int .i64, 1, 8, [.int .i64 0], false⟩),
   (33, ⟨.slice 24, 1, 24, [.slice none 0 0], false⟩),
   (37, ⟨.slice 23, 1, 24, [.slice none 0 0], false⟩),
   (42, ⟨.func #[3] #[4] false, 1, 8, [.nilFunc], false⟩),
   (44, ⟨.slice 3, 1, 24, [.slice none 0 0], false⟩),
   (75, ⟨.struct #[⟨"A", 44, 0, false, "", "", 0⟩, ⟨"K", 3, 1, false, "", "", 24⟩], 2, 32, [.slice none 0 0, .int .i64 0], false⟩),
   (76, ⟨.struct #[⟨"A", 44, 0, false, "", "", 0⟩, ⟨"K", 3, 1, false, "", "", 24⟩], 2, 32, [.slice none 0 0, .int .i64 0], false⟩),
   (80, ⟨.func #[] #[23] false, 1, 8, [.nilFunc], false⟩),
   (82, ⟨.func #[3] #[23] false, 1, 8, [.nilFunc], false⟩),
   (89, ⟨.struct #[⟨"now", 3, 0, false, "", "headroom/single", 0⟩, ⟨"old", 3, 1, false, "", "headroom/single", 8⟩], 2, 16, [.int .i64 0, .int .i64 0], true⟩),
   (90, ⟨.struct #[⟨"now", 3, 0, false, "", "headroom/single", 0⟩, ⟨"old", 3, 1, false, "", "headroom/single", 8⟩], 2, 16, [.int .i64 0, .int .i64 0], true⟩),
   (91, ⟨.func #[42] #[] false, 1, 8, [.nilFunc], false⟩),
   (92, ⟨.func #[42] #[] false, 1, 8, [.nilFunc], false⟩),
   (99, ⟨.struct #[⟨"High", 3, 0, false, "", "", 0⟩, ⟨"Low", 3, 1, false, "", "", 8⟩], 2, 16, [.int .i64 0, .int .i64 0], true⟩),
   (100, ⟨.struct #[⟨"High", 3, 0, false, "", "", 0⟩, ⟨"Low", 3, 1, false, "", "", 8⟩], 2, 16, [.int .i64 0, .int .i64 0], true⟩),
   (116, ⟨.array 2 3, 2, 16, [.int .i64 0, .int .i64 0], true⟩),
   (117, ⟨.array 2 3, 2, 16, [.int .i64 0, .int .i64 0], true⟩),
   (122, ⟨.slice 126, 1, 24, [.slice none 0 0], false⟩),
   (124, ⟨.func #[3, 3, 4] #[4] false, 1, 8, [.nilFunc], false⟩),
   (125, ⟨.struct #[⟨"up", 124, 0, false, "", "headroom/round", 0⟩], 1, 8, [.nilFunc], false⟩),
   (126, ⟨.struct #[⟨"up", 124, 0, false, "", "headroom/round", 0⟩], 1, 8, [.nilFunc], false⟩),
   (132, ⟨.func #[] #[3, 24] false, 1, 8, [.nilFunc], false⟩),
   (133, ⟨.struct #[⟨"P", 23, 0, false, "", "", 0⟩, ⟨"Left", 3, 2, false, "", "", 16⟩], 3, 24, [.int .i64 0, .int .i64 0, .int .i64 0], false⟩),
   (134, ⟨.struct #[⟨"P", 23, 0, false, "", "", 0⟩, ⟨"Left", 3, 2, false, "", "", 16⟩], 3, 24, [.int .i64 0, .int .i64 0, .int .i64 0], false⟩),
   (144, ⟨.array 45 3, 45, 360, [.int .i64 0, .int .i64 0, .int .i64 0, .int .i64 0, .int .i64 0, .int .i64 0, .int .i64 0, .int .i64 0, .int .i64 0, .int .i64 0, .int .i64 0, .int .i64 0, .int .i64 0, .int .i64 0, .int .i64 0, .int .i64 0, .int .i64 0, .int .i64 0, .int .i64 0, .int .i64 0, .int .i64 0, .int .i64 0, .int .i64 0, .int .i64 0, .int .i64 0, .int .i64 0, .int .i64 0, .int .i64 0, .int .i64 0, .int .i64 0, .int .i64 0, .int .i64 0, .int .i64 0, .int .i64 0, .int .i64 0, .int .i64 0, .int .i64 0, .int .i64 0, .int .i64 0, .int .i64 0, .int .i64 0, .int .i64 0, .int .i64 0, .int .i64 0, .int .i64 0], false⟩)]
def tt : TypeId → Option TI := fun t => look t ttab
theorem tok3 : Tok Try.prog 3 ⟨.int .i64, 1, 8, [.int .i64 0], false⟩ := tok_of (.int .i64 0) (by kernel_rfl) (by kernel_rfl) rfl (by first | exact fun _ => rfl | (intro h; cases h)) rfl (by first | exact fun _ => rfl | (intro h; cases h)) (trivial) (fun h => by cases h)
theorem tok4 : Tok Try.prog 4 ⟨.bool, 1, 1, [.bool false], false⟩ := tok_of (.bool false) (by kernel_rfl) (by kernel_rfl) rfl (by first | exact fun _ => rfl | (intro h; cases h)) rfl (by first | exact fun _ => rfl | (intro h; cases h)) (trivial) (fun h => by cases h)
theorem eqt22 : EqT Try.prog 22 2 := eqT_struct (by kernel_rfl) Try.underlying22 (by kernel_rfl) ⟨rfl, by kernel_rfl, rfl, rfl, by kernel_rfl, rfl, rfl⟩
theorem tok22 : Tok Try.prog 22 ⟨.struct #[⟨"Re", 3, 0, false, "", "", 0⟩, ⟨"Im", 3, 1, false, "", "", 8⟩], 2, 16, [.int .i64 0, .int .i64 0], true⟩ := tok_of (.agg #[.int .i64 0, .int .i64 0]) (by kernel_rfl) (by kernel_rfl) rfl (by first | exact fun _ => rfl | (intro h; cases h)) rfl (by first | exact fun _ => rfl | (intro h; cases h)) (⟨[(0, 1), (1, 1)], by kernel_rfl⟩) (fun _ => eqt22)
theorem eqt23 : EqT Try.prog 23 2 := eqT_struct (by kernel_rfl) Try.underlying23 (by kernel_rfl) ⟨rfl, by kernel_rfl, rfl, rfl, by kernel_rfl, rfl, rfl⟩
theorem tok23 : Tok Try.prog 23 ⟨.struct #[⟨"Re", 3, 0, false, "", "", 0⟩, ⟨"Im", 3, 1, false, "", "", 8⟩], 2, 16, [.int .i64 0, .int .i64 0], true⟩ := tok_of (.agg #[.int .i64 0, .int .i64 0]) (by kernel_rfl) (by kernel_rfl) rfl (by first | exact fun _ => rfl | (intro h; cases h)) rfl (by first | exact fun _ => rfl | (intro h; cases h)) (⟨[(0, 1), (1, 1)], by kernel_rfl⟩) (fun _ => eqt23)
theorem tok24 : Tok Try.prog 24 ⟨.int .i64, 1, 8, [.int .i64 0], false⟩ := tok_of (.int .i64 0) (by kernel_rfl) (by kernel_rfl) rfl (by first | exact fun _ => rfl | (intro h; cases h)) rfl (by first | exact fun _ => rfl | (intro h; cases h)) (trivial) (fun h => by cases h)
theorem tok33 : Tok Try.prog 33 ⟨.slice 24, 1, 24, [.slice none 0 0], false⟩ := tok_of (.slice none 0 0) (by kernel_rfl) (by kernel_rfl) rfl (by first | exact fun _ => rfl | (intro h; cases h)) rfl (by first | exact fun _ => rfl | (intro h; cases h)) (trivial) (fun h => by cases h)
theorem tok37 : Tok Try.prog 37 ⟨.slice 23, 1, 24, [.slice none 0 0], false⟩ := tok_of (.slice none 0 0) (by kernel_rfl) (by kernel_rfl) rfl (by first | exact fun _ => rfl | (intro h; cases h)) rfl (by first | exact fun _ => rfl | (intro h; cases h)) (trivial) (fun h => by cases h)
theorem tok42 : Tok Try.prog 42 ⟨.func #[3] #[4] false, 1, 8, [.nilFunc], false⟩ := tok_of (.nilFunc) (by kernel_rfl) (by kernel_rfl) rfl (by first | exact fun _ => rfl | (intro h; cases h)) rfl (by first | exact fun _ => rfl | (intro h; cases h)) (trivial) (fun h => by cases h)
theorem tok44 : Tok Try.prog 44 ⟨.slice 3, 1, 24, [.slice none 0 0], false⟩ := tok_of (.slice none 0 0) (by kernel_rfl) (by kernel_rfl) rfl (by first | exact fun _ => rfl | (intro h; cases h)) rfl (by first | exact fun _ => rfl | (intro h; cases h)) (trivial) (fun h => by cases h)
theorem tok75 : Tok Try.prog 75 ⟨.struct #[⟨"A", 44, 0, false, "", "", 0⟩, ⟨"K", 3, 1, false, "", "", 24⟩], 2, 32, [.slice none 0 0, .int .i64 0], false⟩ := tok_of (.agg #[.slice none 0 0, .int .i64 0]) (by kernel_rfl) (by kernel_rfl) rfl (by first | exact fun _ => rfl | (intro h; cases h)) rfl (by first | exact fun _ => rfl | (intro h; cases h)) (⟨[(0, 1), (1, 1)], by kernel_rfl⟩) (fun h => by cases h)
theorem tok76 : Tok Try.prog 76 ⟨.struct #[⟨"A", 44, 0, false, "", "", 0⟩, ⟨"K", 3, 1, false, "", "", 24⟩], 2, 32, [.slice none 0 0, .int .i64 0], false⟩ := tok_of (.agg #[.slice none 0 0, .int .i64 0]) (by kernel_rfl) (by kernel_rfl) rfl (by first | exact fun _ => rfl | (intro h; cases h)) rfl (by first | exact fun _ => rfl | (intro h; cases h)) (⟨[(0, 1), (1, 1)], by kernel_rfl⟩) (fun h => by cases h)
theorem tok80 : Tok Try.prog 80 ⟨.func #[] #[23] false, 1, 8, [.nilFunc], false⟩ := tok_of (.nilFunc) (by kernel_rfl) (by kernel_rfl) rfl (by first | exact fun _ => rfl | (intro h; cases h)) rfl (by first | exact fun _ => rfl | (intro h; cases h)) (trivial) (fun h => by cases h)
theorem tok82 : Tok Try.prog 82 ⟨.func #[3] #[23] false, 1, 8, [.nilFunc], false⟩ := tok_of (.nilFunc) (by kernel_rfl) (by kernel_rfl) rfl (by first | exact fun _ => rfl | (intro h; cases h)) rfl (by first | exact fun _ => rfl | (intro h; cases h)) (trivial) (fun h => by cases h)
theorem eqt89 : EqT Try.prog 89 2 := eqT_struct (by kernel_rfl) Try.underlying89 (by kernel_rfl) ⟨rfl, by kernel_rfl, rfl, rfl, by kernel_rfl, rfl, rfl⟩
theorem tok89 : Tok Try.prog 89 ⟨.struct #[⟨"now", 3, 0, false, "", "headroom/single", 0⟩, ⟨"old", 3, 1, false, "", "headroom/single", 8⟩], 2, 16, [.int .i64 0, .int .i64 0], true⟩ := tok_of (.agg #[.int .i64 0, .int .i64 0]) (by kernel_rfl) (by kernel_rfl) rfl (by first | exact fun _ => rfl | (intro h; cases h)) rfl (by first | exact fun _ => rfl | (intro h; cases h)) (⟨[(0, 1), (1, 1)], by kernel_rfl⟩) (fun _ => eqt89)
theorem eqt90 : EqT Try.prog 90 2 := eqT_struct (by kernel_rfl) Try.underlying90 (by kernel_rfl) ⟨rfl, by kernel_rfl, rfl, rfl, by kernel_rfl, rfl, rfl⟩
theorem tok90 : Tok Try.prog 90 ⟨.struct #[⟨"now", 3, 0, false, "", "headroom/single", 0⟩, ⟨"old", 3, 1, false, "", "headroom/single", 8⟩], 2, 16, [.int .i64 0, .int .i64 0], true⟩ := tok_of (.agg #[.int .i64 0, .int .i64 0]) (by kernel_rfl) (by kernel_rfl) rfl (by first | exact fun _ => rfl | (intro h; cases h)) rfl (by first | exact fun _ => rfl | (intro h; cases h)) (⟨[(0, 1), (1, 1)], by kernel_rfl⟩) (fun _ => eqt90)
theorem tok91 : Tok Try.prog 91 ⟨.func #[42] #[] false, 1, 8, [.nilFunc], false⟩ := tok_of (.nilFunc) (by kernel_rfl) (by kernel_rfl) rfl (by first | exact fun _ => rfl | (intro h; cases h)) rfl (by first | exact fun _ => rfl | (intro h; cases h)) (trivial) (fun h => by cases h)
theorem tok92 : Tok Try.prog 92 ⟨.func #[42] #[] false, 1, 8, [.nilFunc], false⟩ := tok_of (.nilFunc) (by kernel_rfl) (by kernel_rfl) rfl (by first | exact fun _ => rfl | (intro h; cases h)) rfl (by first | exact fun _ => rfl | (intro h; cases h)) (trivial) (fun h => by cases h)
theorem eqt99 : EqT Try.prog 99 2 := eqT_struct (by kernel_rfl) Try.underlying99 (by kernel_rfl) ⟨rfl, by kernel_rfl, rfl, rfl, by kernel_rfl, rfl, rfl⟩
theorem tok99 : Tok Try.prog 99 ⟨.struct #[⟨"High", 3, 0, false, "", "", 0⟩, ⟨"Low", 3, 1, false, "", "", 8⟩], 2, 16, [.int .i64 0, .int .i64 0], true⟩ := tok_of (.agg #[.int .i64 0, .int .i64 0]) (by kernel_rfl) (by kernel_rfl) rfl (by first | exact fun _ => rfl | (intro h; cases h)) rfl (by first | exact fun _ => rfl | (intro h; cases h)) (⟨[(0, 1), (1, 1)], by kernel_rfl⟩) (fun _ => eqt99)
theorem eqt100 : EqT Try.prog 100 2 := eqT_struct (by kernel_rfl) Try.underlying100 (by kernel_rfl) ⟨rfl, by kernel_rfl, rfl, rfl, by kernel_rfl, rfl, rfl⟩
theorem tok100 : Tok Try.prog 100 ⟨.struct #[⟨"High", 3, 0, false, "", "", 0⟩, ⟨"Low", 3, 1, false, "", "", 8⟩], 2, 16, [.int .i64 0, .int .i64 0], true⟩ := tok_of (.agg #[.int .i64 0, .int .i64 0]) (by kernel_rfl) (by kernel_rfl) rfl (by first | exact fun _ => rfl | (intro h; cases h)) rfl (by first | exact fun _ => rfl | (intro h; cases h)) (⟨[(0, 1), (1, 1)], by kernel_rfl⟩) (fun _ => eqt100)
theorem eqt116 : EqT Try.prog 116 2 := eqT_ints (e := 3) (by kernel_rfl) Try.underlying116 Try.underlying3 (by kernel_rfl)
theorem tok116 : Tok Try.prog 116 ⟨.array 2 3, 2, 16, [.int .i64 0, .int .i64 0], true⟩ := tok_of (.agg #[.int .i64 0, .int .i64 0]) (by kernel_rfl) (by kernel_rfl) rfl (by first | exact fun _ => rfl | (intro h; cases h)) rfl (by first | exact fun _ => rfl | (intro h; cases h)) (some_of (by kernel_rfl)) (fun _ => eqt116)
theorem eqt117 : EqT Try.prog 117 2 := eqT_ints (e := 3) (by kernel_rfl) Try.underlying117 Try.underlying3 (by kernel_rfl)
theorem tok117 : Tok Try.prog 117 ⟨.array 2 3, 2, 16, [.int .i64 0, .int .i64 0], true⟩ := tok_of (.agg #[.int .i64 0, .int .i64 0]) (by kernel_rfl) (by kernel_rfl) rfl (by first | exact fun _ => rfl | (intro h; cases h)) rfl (by first | exact fun _ => rfl | (intro h; cases h)) (some_of (by kernel_rfl)) (fun _ => eqt117)
theorem tok122 : Tok Try.prog 122 ⟨.slice 126, 1, 24, [.slice none 0 0], false⟩ := tok_of (.slice none 0 0) (by kernel_rfl) (by kernel_rfl) rfl (by first | exact fun _ => rfl | (intro h; cases h)) rfl (by first | exact fun _ => rfl | (intro h; cases h)) (trivial) (fun h => by cases h)
theorem tok124 : Tok Try.prog 124 ⟨.func #[3, 3, 4] #[4] false, 1, 8, [.nilFunc], false⟩ := tok_of (.nilFunc) (by kernel_rfl) (by kernel_rfl) rfl (by first | exact fun _ => rfl | (intro h; cases h)) rfl (by first | exact fun _ => rfl | (intro h; cases h)) (trivial) (fun h => by cases h)
theorem tok125 : Tok Try.prog 125 ⟨.struct #[⟨"up", 124, 0, false, "", "headroom/round", 0⟩], 1, 8, [.nilFunc], false⟩ := tok_of (.agg #[.nilFunc]) (by kernel_rfl) (by kernel_rfl) rfl (by first | exact fun _ => rfl | (intro h; cases h)) rfl (by first | exact fun _ => rfl | (intro h; cases h)) (⟨[(0, 1)], by kernel_rfl⟩) (fun h => by cases h)
theorem tok126 : Tok Try.prog 126 ⟨.struct #[⟨"up", 124, 0, false, "", "headroom/round", 0⟩], 1, 8, [.nilFunc], false⟩ := tok_of (.agg #[.nilFunc]) (by kernel_rfl) (by kernel_rfl) rfl (by first | exact fun _ => rfl | (intro h; cases h)) rfl (by first | exact fun _ => rfl | (intro h; cases h)) (⟨[(0, 1)], by kernel_rfl⟩) (fun h => by cases h)
theorem tok132 : Tok Try.prog 132 ⟨.func #[] #[3, 24] false, 1, 8, [.nilFunc], false⟩ := tok_of (.nilFunc) (by kernel_rfl) (by kernel_rfl) rfl (by first | exact fun _ => rfl | (intro h; cases h)) rfl (by first | exact fun _ => rfl | (intro h; cases h)) (trivial) (fun h => by cases h)
theorem tok133 : Tok Try.prog 133 ⟨.struct #[⟨"P", 23, 0, false, "", "", 0⟩, ⟨"Left", 3, 2, false, "", "", 16⟩], 3, 24, [.int .i64 0, .int .i64 0, .int .i64 0], false⟩ := tok_of (.agg #[.int .i64 0, .int .i64 0, .int .i64 0]) (by kernel_rfl) (by kernel_rfl) rfl (by first | exact fun _ => rfl | (intro h; cases h)) rfl (by first | exact fun _ => rfl | (intro h; cases h)) (⟨[(0, 2), (2, 1)], by kernel_rfl⟩) (fun h => by cases h)
theorem tok134 : Tok Try.prog 134 ⟨.struct #[⟨"P", 23, 0, false, "", "", 0⟩, ⟨"Left", 3, 2, false, "", "", 16⟩], 3, 24, [.int .i64 0, .int .i64 0, .int .i64 0], false⟩ := tok_of (.agg #[.int .i64 0, .int .i64 0, .int .i64 0]) (by kernel_rfl) (by kernel_rfl) rfl (by first | exact fun _ => rfl | (intro h; cases h)) rfl (by first | exact fun _ => rfl | (intro h; cases h)) (⟨[(0, 2), (2, 1)], by kernel_rfl⟩) (fun h => by cases h)
theorem tok144 : Tok Try.prog 144 ⟨.array 45 3, 45, 360, [.int .i64 0, .int .i64 0, .int .i64 0, .int .i64 0, .int .i64 0, .int .i64 0, .int .i64 0, .int .i64 0, .int .i64 0, .int .i64 0, .int .i64 0, .int .i64 0, .int .i64 0, .int .i64 0, .int .i64 0, .int .i64 0, .int .i64 0, .int .i64 0, .int .i64 0, .int .i64 0, .int .i64 0, .int .i64 0, .int .i64 0, .int .i64 0, .int .i64 0, .int .i64 0, .int .i64 0, .int .i64 0, .int .i64 0, .int .i64 0, .int .i64 0, .int .i64 0, .int .i64 0, .int .i64 0, .int .i64 0, .int .i64 0, .int .i64 0, .int .i64 0, .int .i64 0, .int .i64 0, .int .i64 0, .int .i64 0, .int .i64 0, .int .i64 0, .int .i64 0], false⟩ := tok_of (.agg #[.int .i64 0, .int .i64 0, .int .i64 0, .int .i64 0, .int .i64 0, .int .i64 0, .int .i64 0, .int .i64 0, .int .i64 0, .int .i64 0, .int .i64 0, .int .i64 0, .int .i64 0, .int .i64 0, .int .i64 0, .int .i64 0, .int .i64 0, .int .i64 0, .int .i64 0, .int .i64 0, .int .i64 0, .int .i64 0, .int .i64 0, .int .i64 0, .int .i64 0, .int .i64 0, .int .i64 0, .int .i64 0, .int .i64 0, .int .i64 0, .int .i64 0, .int .i64 0, .int .i64 0, .int .i64 0, .int .i64 0, .int .i64 0, .int .i64 0, .int .i64 0, .int .i64 0, .int .i64 0, .int .i64 0, .int .i64 0, .int .i64 0, .int .i64 0, .int .i64 0]) (by kernel_rfl) (by kernel_rfl) rfl (by first | exact fun _ => rfl | (intro h; cases h)) rfl (by first | exact fun _ => rfl | (intro h; cases h)) (some_of (by kernel_rfl)) (fun h => by cases h)
theorem tok : TOk Try.prog tt := tok_list (tok_cons tok3 (tok_cons tok4 (tok_cons tok22 (tok_cons tok23 (tok_cons tok24 (tok_cons tok33 (tok_cons tok37 (tok_cons tok42 (tok_cons tok44 (tok_cons tok75 (tok_cons tok76 (tok_cons tok80 (tok_cons tok82 (tok_cons tok89 (tok_cons tok90 (tok_cons tok91 (tok_cons tok92 (tok_cons tok99 (tok_cons tok100 (tok_cons tok116 (tok_cons tok117 (tok_cons tok122 (tok_cons tok124 (tok_cons tok125 (tok_cons tok126 (tok_cons tok132 (tok_cons tok133 (tok_cons tok134 (tok_cons tok144 (tok_nil))))))))))))))))))))))))))))))
theorem follows : Try.prog.follows .mixedOrders = true := by kernel_rfl
theorem ts3 : tSize tt 3 = some (false, 1) := rfl
theorem tz3 : tZero tt 3 = some [.raw (.int .i64 0)] := rfl
theorem ti3 : tInt tt 3 = some .i64 := rfl
theorem tb3 : tBool tt 3 = false := rfl
theorem te3 : tEq tt 3 = none := rfl
theorem tq3 : tSl tt 3 = false := rfl
theorem ts4 : tSize tt 4 = some (false, 1) := rfl
theorem tz4 : tZero tt 4 = some [.raw (.bool false)] := rfl
theorem tb4 : tBool tt 4 = true := rfl
theorem te4 : tEq tt 4 = none := rfl
theorem tq4 : tSl tt 4 = false := rfl
theorem ts22 : tSize tt 22 = some (true, 2) := rfl
theorem tz22 : tZero tt 22 = some [.raw (.int .i64 0), .raw (.int .i64 0)] := rfl
theorem tb22 : tBool tt 22 = false := rfl
theorem te22 : tEq tt 22 = some 2 := rfl
theorem tq22 : tSl tt 22 = false := rfl
theorem tf22_0 : tField tt 22 0 = some (0, false, 1) := rfl
theorem tp22_0 : placeOf tt 22 0 = some (0, 1) := rfl
theorem tf22_1 : tField tt 22 1 = some (1, false, 1) := rfl
theorem tp22_1 : placeOf tt 22 1 = some (1, 1) := rfl
theorem ts23 : tSize tt 23 = some (true, 2) := rfl
theorem tz23 : tZero tt 23 = some [.raw (.int .i64 0), .raw (.int .i64 0)] := rfl
theorem tb23 : tBool tt 23 = false := rfl
theorem te23 : tEq tt 23 = some 2 := rfl
theorem tq23 : tSl tt 23 = false := rfl
theorem tf23_0 : tField tt 23 0 = some (0, false, 1) := rfl
theorem tp23_0 : placeOf tt 23 0 = some (0, 1) := rfl
theorem tf23_1 : tField tt 23 1 = some (1, false, 1) := rfl
theorem tp23_1 : placeOf tt 23 1 = some (1, 1) := rfl
theorem ts24 : tSize tt 24 = some (false, 1) := rfl
theorem tz24 : tZero tt 24 = some [.raw (.int .i64 0)] := rfl
theorem ti24 : tInt tt 24 = some .i64 := rfl
theorem tb24 : tBool tt 24 = false := rfl
theorem te24 : tEq tt 24 = none := rfl
theorem tq24 : tSl tt 24 = false := rfl
theorem ts33 : tSize tt 33 = some (false, 1) := rfl
theorem tz33 : tZero tt 33 = some [.raw (.slice none 0 0)] := rfl
theorem tb33 : tBool tt 33 = false := rfl
theorem te33 : tEq tt 33 = none := rfl
theorem tq33 : tSl tt 33 = true := rfl
theorem tl33 : tSlice tt 33 = some (24, ⟨.int .i64, 1, 8, [.int .i64 0], false⟩) := rfl
theorem ts37 : tSize tt 37 = some (false, 1) := rfl
theorem tz37 : tZero tt 37 = some [.raw (.slice none 0 0)] := rfl
theorem tb37 : tBool tt 37 = false := rfl
theorem te37 : tEq tt 37 = none := rfl
theorem tq37 : tSl tt 37 = true := rfl
theorem tl37 : tSlice tt 37 = some (23, ⟨.struct #[⟨"Re", 3, 0, false, "", "", 0⟩, ⟨"Im", 3, 1, false, "", "", 8⟩], 2, 16, [.int .i64 0, .int .i64 0], true⟩) := rfl
theorem ts42 : tSize tt 42 = some (false, 1) := rfl
theorem tz42 : tZero tt 42 = some [.raw (.nilFunc)] := rfl
theorem tb42 : tBool tt 42 = false := rfl
theorem te42 : tEq tt 42 = none := rfl
theorem tq42 : tSl tt 42 = false := rfl
theorem ts44 : tSize tt 44 = some (false, 1) := rfl
theorem tz44 : tZero tt 44 = some [.raw (.slice none 0 0)] := rfl
theorem tb44 : tBool tt 44 = false := rfl
theorem te44 : tEq tt 44 = none := rfl
theorem tq44 : tSl tt 44 = true := rfl
theorem tl44 : tSlice tt 44 = some (3, ⟨.int .i64, 1, 8, [.int .i64 0], false⟩) := rfl
theorem ts75 : tSize tt 75 = some (true, 2) := rfl
theorem tz75 : tZero tt 75 = some [.raw (.slice none 0 0), .raw (.int .i64 0)] := rfl
theorem tb75 : tBool tt 75 = false := rfl
theorem te75 : tEq tt 75 = none := rfl
theorem tq75 : tSl tt 75 = false := rfl
theorem tf75_0 : tField tt 75 0 = some (0, false, 1) := rfl
theorem tp75_0 : placeOf tt 75 0 = some (0, 1) := rfl
theorem tf75_1 : tField tt 75 1 = some (1, false, 1) := rfl
theorem tp75_1 : placeOf tt 75 1 = some (1, 1) := rfl
theorem ts76 : tSize tt 76 = some (true, 2) := rfl
theorem tz76 : tZero tt 76 = some [.raw (.slice none 0 0), .raw (.int .i64 0)] := rfl
theorem tb76 : tBool tt 76 = false := rfl
theorem te76 : tEq tt 76 = none := rfl
theorem tq76 : tSl tt 76 = false := rfl
theorem tf76_0 : tField tt 76 0 = some (0, false, 1) := rfl
theorem tp76_0 : placeOf tt 76 0 = some (0, 1) := rfl
theorem tf76_1 : tField tt 76 1 = some (1, false, 1) := rfl
theorem tp76_1 : placeOf tt 76 1 = some (1, 1) := rfl
theorem ts80 : tSize tt 80 = some (false, 1) := rfl
theorem tz80 : tZero tt 80 = some [.raw (.nilFunc)] := rfl
theorem tb80 : tBool tt 80 = false := rfl
theorem te80 : tEq tt 80 = none := rfl
theorem tq80 : tSl tt 80 = false := rfl
theorem ts82 : tSize tt 82 = some (false, 1) := rfl
theorem tz82 : tZero tt 82 = some [.raw (.nilFunc)] := rfl
theorem tb82 : tBool tt 82 = false := rfl
theorem te82 : tEq tt 82 = none := rfl
theorem tq82 : tSl tt 82 = false := rfl
theorem ts89 : tSize tt 89 = some (true, 2) := rfl
theorem tz89 : tZero tt 89 = some [.raw (.int .i64 0), .raw (.int .i64 0)] := rfl
theorem tb89 : tBool tt 89 = false := rfl
theorem te89 : tEq tt 89 = some 2 := rfl
theorem tq89 : tSl tt 89 = false := rfl
theorem tf89_0 : tField tt 89 0 = some (0, false, 1) := rfl
theorem tp89_0 : placeOf tt 89 0 = some (0, 1) := rfl
theorem tf89_1 : tField tt 89 1 = some (1, false, 1) := rfl
theorem tp89_1 : placeOf tt 89 1 = some (1, 1) := rfl
theorem ts90 : tSize tt 90 = some (true, 2) := rfl
theorem tz90 : tZero tt 90 = some [.raw (.int .i64 0), .raw (.int .i64 0)] := rfl
theorem tb90 : tBool tt 90 = false := rfl
theorem te90 : tEq tt 90 = some 2 := rfl
theorem tq90 : tSl tt 90 = false := rfl
theorem tf90_0 : tField tt 90 0 = some (0, false, 1) := rfl
theorem tp90_0 : placeOf tt 90 0 = some (0, 1) := rfl
theorem tf90_1 : tField tt 90 1 = some (1, false, 1) := rfl
theorem tp90_1 : placeOf tt 90 1 = some (1, 1) := rfl
theorem ts91 : tSize tt 91 = some (false, 1) := rfl
theorem tz91 : tZero tt 91 = some [.raw (.nilFunc)] := rfl
theorem tb91 : tBool tt 91 = false := rfl
theorem te91 : tEq tt 91 = none := rfl
theorem tq91 : tSl tt 91 = false := rfl
theorem ts92 : tSize tt 92 = some (false, 1) := rfl
theorem tz92 : tZero tt 92 = some [.raw (.nilFunc)] := rfl
theorem tb92 : tBool tt 92 = false := rfl
theorem te92 : tEq tt 92 = none := rfl
theorem tq92 : tSl tt 92 = false := rfl
theorem ts99 : tSize tt 99 = some (true, 2) := rfl
theorem tz99 : tZero tt 99 = some [.raw (.int .i64 0), .raw (.int .i64 0)] := rfl
theorem tb99 : tBool tt 99 = false := rfl
theorem te99 : tEq tt 99 = some 2 := rfl
theorem tq99 : tSl tt 99 = false := rfl
theorem tf99_0 : tField tt 99 0 = some (0, false, 1) := rfl
theorem tp99_0 : placeOf tt 99 0 = some (0, 1) := rfl
theorem tf99_1 : tField tt 99 1 = some (1, false, 1) := rfl
theorem tp99_1 : placeOf tt 99 1 = some (1, 1) := rfl
theorem ts100 : tSize tt 100 = some (true, 2) := rfl
theorem tz100 : tZero tt 100 = some [.raw (.int .i64 0), .raw (.int .i64 0)] := rfl
theorem tb100 : tBool tt 100 = false := rfl
theorem te100 : tEq tt 100 = some 2 := rfl
theorem tq100 : tSl tt 100 = false := rfl
theorem tf100_0 : tField tt 100 0 = some (0, false, 1) := rfl
theorem tp100_0 : placeOf tt 100 0 = some (0, 1) := rfl
theorem tf100_1 : tField tt 100 1 = some (1, false, 1) := rfl
theorem tp100_1 : placeOf tt 100 1 = some (1, 1) := rfl
theorem ts116 : tSize tt 116 = some (true, 2) := rfl
theorem tz116 : tZero tt 116 = some [.raw (.int .i64 0), .raw (.int .i64 0)] := rfl
theorem tb116 : tBool tt 116 = false := rfl
theorem te116 : tEq tt 116 = some 2 := rfl
theorem tq116 : tSl tt 116 = false := rfl
theorem ta116 : tArr tt 116 = some (2, false, 1) := rfl
theorem tp116_0 : placeOf tt 116 0 = some (0 * 1, 1) := rfl
theorem tp116_1 : placeOf tt 116 1 = some (1 * 1, 1) := rfl
theorem ts117 : tSize tt 117 = some (true, 2) := rfl
theorem tz117 : tZero tt 117 = some [.raw (.int .i64 0), .raw (.int .i64 0)] := rfl
theorem tb117 : tBool tt 117 = false := rfl
theorem te117 : tEq tt 117 = some 2 := rfl
theorem tq117 : tSl tt 117 = false := rfl
theorem ta117 : tArr tt 117 = some (2, false, 1) := rfl
theorem tp117_0 : placeOf tt 117 0 = some (0 * 1, 1) := rfl
theorem tp117_1 : placeOf tt 117 1 = some (1 * 1, 1) := rfl
theorem ts122 : tSize tt 122 = some (false, 1) := rfl
theorem tz122 : tZero tt 122 = some [.raw (.slice none 0 0)] := rfl
theorem tb122 : tBool tt 122 = false := rfl
theorem te122 : tEq tt 122 = none := rfl
theorem tq122 : tSl tt 122 = true := rfl
theorem tl122 : tSlice tt 122 = some (126, ⟨.struct #[⟨"up", 124, 0, false, "", "headroom/round", 0⟩], 1, 8, [.nilFunc], false⟩) := rfl
theorem ts124 : tSize tt 124 = some (false, 1) := rfl
theorem tz124 : tZero tt 124 = some [.raw (.nilFunc)] := rfl
theorem tb124 : tBool tt 124 = false := rfl
theorem te124 : tEq tt 124 = none := rfl
theorem tq124 : tSl tt 124 = false := rfl
theorem ts125 : tSize tt 125 = some (true, 1) := rfl
theorem tz125 : tZero tt 125 = some [.raw (.nilFunc)] := rfl
theorem tb125 : tBool tt 125 = false := rfl
theorem te125 : tEq tt 125 = none := rfl
theorem tq125 : tSl tt 125 = false := rfl
theorem tf125_0 : tField tt 125 0 = some (0, false, 1) := rfl
theorem tp125_0 : placeOf tt 125 0 = some (0, 1) := rfl
theorem ts126 : tSize tt 126 = some (true, 1) := rfl
theorem tz126 : tZero tt 126 = some [.raw (.nilFunc)] := rfl
theorem tb126 : tBool tt 126 = false := rfl
theorem te126 : tEq tt 126 = none := rfl
theorem tq126 : tSl tt 126 = false := rfl
theorem tf126_0 : tField tt 126 0 = some (0, false, 1) := rfl
theorem tp126_0 : placeOf tt 126 0 = some (0, 1) := rfl
theorem ts132 : tSize tt 132 = some (false, 1) := rfl
theorem tz132 : tZero tt 132 = some [.raw (.nilFunc)] := rfl
theorem tb132 : tBool tt 132 = false := rfl
theorem te132 : tEq tt 132 = none := rfl
theorem tq132 : tSl tt 132 = false := rfl
theorem ts133 : tSize tt 133 = some (true, 3) := rfl
theorem tz133 : tZero tt 133 = some [.raw (.int .i64 0), .raw (.int .i64 0), .raw (.int .i64 0)] := rfl
theorem tb133 : tBool tt 133 = false := rfl
theorem te133 : tEq tt 133 = none := rfl
theorem tq133 : tSl tt 133 = false := rfl
theorem tf133_0 : tField tt 133 0 = some (0, true, 2) := rfl
theorem tp133_0 : placeOf tt 133 0 = some (0, 2) := rfl
theorem tf133_1 : tField tt 133 1 = some (2, false, 1) := rfl
theorem tp133_1 : placeOf tt 133 1 = some (2, 1) := rfl
theorem ts134 : tSize tt 134 = some (true, 3) := rfl
theorem tz134 : tZero tt 134 = some [.raw (.int .i64 0), .raw (.int .i64 0), .raw (.int .i64 0)] := rfl
theorem tb134 : tBool tt 134 = false := rfl
theorem te134 : tEq tt 134 = none := rfl
theorem tq134 : tSl tt 134 = false := rfl
theorem tf134_0 : tField tt 134 0 = some (0, true, 2) := rfl
theorem tp134_0 : placeOf tt 134 0 = some (0, 2) := rfl
theorem tf134_1 : tField tt 134 1 = some (2, false, 1) := rfl
theorem tp134_1 : placeOf tt 134 1 = some (2, 1) := rfl
theorem ts144 : tSize tt 144 = some (true, 45) := rfl
theorem tz144 : tZero tt 144 = some [.raw (.int .i64 0), .raw (.int .i64 0), .raw (.int .i64 0), .raw (.int .i64 0), .raw (.int .i64 0), .raw (.int .i64 0), .raw (.int .i64 0), .raw (.int .i64 0), .raw (.int .i64 0), .raw (.int .i64 0), .raw (.int .i64 0), .raw (.int .i64 0), .raw (.int .i64 0), .raw (.int .i64 0), .raw (.int .i64 0), .raw (.int .i64 0), .raw (.int .i64 0), .raw (.int .i64 0), .raw (.int .i64 0), .raw (.int .i64 0), .raw (.int .i64 0), .raw (.int .i64 0), .raw (.int .i64 0), .raw (.int .i64 0), .raw (.int .i64 0), .raw (.int .i64 0), .raw (.int .i64 0), .raw (.int .i64 0), .raw (.int .i64 0), .raw (.int .i64 0), .raw (.int .i64 0), .raw (.int .i64 0), .raw (.int .i64 0), .raw (.int .i64 0), .raw (.int .i64 0), .raw (.int .i64 0), .raw (.int .i64 0), .raw (.int .i64 0), .raw (.int .i64 0), .raw (.int .i64 0), .raw (.int .i64 0), .raw (.int .i64 0), .raw (.int .i64 0), .raw (.int .i64 0), .raw (.int .i64 0)] := rfl
theorem tb144 : tBool tt 144 = false := rfl
theorem te144 : tEq tt 144 = none := rfl
theorem tq144 : tSl tt 144 = false := rfl
theorem ta144 : tArr tt 144 = some (45, false, 1) := rfl
theorem tp144_0 : placeOf tt 144 0 = some (0 * 1, 1) := rfl
theorem tp144_1 : placeOf tt 144 1 = some (1 * 1, 1) := rfl
theorem tp144_2 : placeOf tt 144 2 = some (2 * 1, 1) := rfl
theorem tp144_3 : placeOf tt 144 3 = some (3 * 1, 1) := rfl
theorem tp144_4 : placeOf tt 144 4 = some (4 * 1, 1) := rfl
theorem tp144_5 : placeOf tt 144 5 = some (5 * 1, 1) := rfl
theorem tp144_6 : placeOf tt 144 6 = some (6 * 1, 1) := rfl
theorem tp144_7 : placeOf tt 144 7 = some (7 * 1, 1) := rfl
theorem tp144_8 : placeOf tt 144 8 = some (8 * 1, 1) := rfl
theorem tp144_9 : placeOf tt 144 9 = some (9 * 1, 1) := rfl
theorem tp144_10 : placeOf tt 144 10 = some (10 * 1, 1) := rfl
theorem tp144_11 : placeOf tt 144 11 = some (11 * 1, 1) := rfl
theorem tp144_12 : placeOf tt 144 12 = some (12 * 1, 1) := rfl
theorem tp144_13 : placeOf tt 144 13 = some (13 * 1, 1) := rfl
theorem tp144_14 : placeOf tt 144 14 = some (14 * 1, 1) := rfl
theorem tp144_15 : placeOf tt 144 15 = some (15 * 1, 1) := rfl
theorem tp144_16 : placeOf tt 144 16 = some (16 * 1, 1) := rfl
theorem tp144_17 : placeOf tt 144 17 = some (17 * 1, 1) := rfl
theorem tp144_18 : placeOf tt 144 18 = some (18 * 1, 1) := rfl
theorem tp144_19 : placeOf tt 144 19 = some (19 * 1, 1) := rfl
theorem tp144_20 : placeOf tt 144 20 = some (20 * 1, 1) := rfl
theorem tp144_21 : placeOf tt 144 21 = some (21 * 1, 1) := rfl
theorem tp144_22 : placeOf tt 144 22 = some (22 * 1, 1) := rfl
theorem tp144_23 : placeOf tt 144 23 = some (23 * 1, 1) := rfl
theorem tp144_24 : placeOf tt 144 24 = some (24 * 1, 1) := rfl
theorem tp144_25 : placeOf tt 144 25 = some (25 * 1, 1) := rfl
theorem tp144_26 : placeOf tt 144 26 = some (26 * 1, 1) := rfl
theorem tp144_27 : placeOf tt 144 27 = some (27 * 1, 1) := rfl
theorem tp144_28 : placeOf tt 144 28 = some (28 * 1, 1) := rfl
theorem tp144_29 : placeOf tt 144 29 = some (29 * 1, 1) := rfl
theorem tp144_30 : placeOf tt 144 30 = some (30 * 1, 1) := rfl
theorem tp144_31 : placeOf tt 144 31 = some (31 * 1, 1) := rfl
theorem tp144_32 : placeOf tt 144 32 = some (32 * 1, 1) := rfl
theorem tp144_33 : placeOf tt 144 33 = some (33 * 1, 1) := rfl
theorem tp144_34 : placeOf tt 144 34 = some (34 * 1, 1) := rfl
theorem tp144_35 : placeOf tt 144 35 = some (35 * 1, 1) := rfl
theorem tp144_36 : placeOf tt 144 36 = some (36 * 1, 1) := rfl
theorem tp144_37 : placeOf tt 144 37 = some (37 * 1, 1) := rfl
theorem tp144_38 : placeOf tt 144 38 = some (38 * 1, 1) := rfl
theorem tp144_39 : placeOf tt 144 39 = some (39 * 1, 1) := rfl
theorem tp144_40 : placeOf tt 144 40 = some (40 * 1, 1) := rfl
theorem tp144_41 : placeOf tt 144 41 = some (41 * 1, 1) := rfl
theorem tp144_42 : placeOf tt 144 42 = some (42 * 1, 1) := rfl
theorem tp144_43 : placeOf tt 144 43 = some (43 * 1, 1) := rfl
theorem tp144_44 : placeOf tt 144 44 = some (44 * 1, 1) := rfl
end Go.Proofs.YtfmhdfaelgkmcaaV

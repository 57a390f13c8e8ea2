import Derived.Test.YtnnjjblgilibgaaVcL
import Derived.Test.YtnnjjblgilibgaaProg
/- The types of the program, for the evaluator; what is asked of them; the functions' bodies. Printed by this session's program ty.py. -/
namespace Go.Proofs.YtnnjjblgilibgaaV
open Go Go.RowKit
set_option linter.unusedVariables false
set_option maxRecDepth 100000
def ttab : List (Nat × TI) :=
  [(3, ⟨.int .i64, 1, 8, [.int .i64 0], false⟩),
   (4, ⟨.bool, 1, 1, [.bool false], false⟩),
   (22, ⟨.slice 35, 1, 24, [.slice none 0 0], false⟩),
   (23, ⟨.int .i64, 1, 8, [.int .i64 0], false⟩),
   (34, ⟨.struct #[⟨"Re", 3, 0, false, "", "", 0⟩, ⟨"Im", 3, 1, false, "", "", 8⟩], 2, 16, [.int .i64 0, .int .i64 0], true⟩),
   (35, ⟨.struct #[⟨"Re", 3, 0, false, "", "", 0⟩, ⟨"Im", 3, 1, false, "", "", 8⟩], 2, 16, [.int .i64 0, .int .i64 0], true⟩),
   (39, ⟨.struct #[⟨"U", 35, 0, false, "", "", 0⟩, ⟨"V", 35, 2, false, "", "", 16⟩, ⟨"Y", 35, 4, false, "", "", 32⟩, ⟨"Z", 35, 6, false, "", "", 48⟩, ⟨"W", 35, 8, false, "", "", 64⟩, ⟨"W3", 35, 10, false, "", "", 80⟩], 12, 96, [.int .i64 0, .int .i64 0, .int .i64 0, .int .i64 0, .int .i64 0, .int .i64 0, .int .i64 0, .int .i64 0, .int .i64 0, .int .i64 0, .int .i64 0, .int .i64 0], false⟩),
   (40, ⟨.struct #[⟨"U", 35, 0, false, "", "", 0⟩, ⟨"V", 35, 2, false, "", "", 16⟩, ⟨"Y", 35, 4, false, "", "", 32⟩, ⟨"Z", 35, 6, false, "", "", 48⟩, ⟨"W", 35, 8, false, "", "", 64⟩, ⟨"W3", 35, 10, false, "", "", 80⟩], 12, 96, [.int .i64 0, .int .i64 0, .int .i64 0, .int .i64 0, .int .i64 0, .int .i64 0, .int .i64 0, .int .i64 0, .int .i64 0, .int .i64 0, .int .i64 0, .int .i64 0], false⟩),
   (41, ⟨.array 4 35, 8, 64, [.int .i64 0, .int .i64 0, .int .i64 0, .int .i64 0, .int .i64 0, .int .i64 0, .int .i64 0, .int .i64 0], true⟩),
   (52, ⟨.func #[35] #[4] false, 1, 8, [.nilFunc], false⟩),
   (55, ⟨.struct #[⟨"w", 22, 0, false, "", "headroom/split", 0⟩, ⟨"bits", 3, 1, false, "", "headroom/split", 24⟩, ⟨"mode", 3, 2, false, "", "headroom/split", 32⟩, ⟨"turn", 3, 3, false, "", "headroom/split", 40⟩], 4, 48, [.slice none 0 0, .int .i64 0, .int .i64 0, .int .i64 0], false⟩),
   (56, ⟨.struct #[⟨"w", 22, 0, false, "", "headroom/split", 0⟩, ⟨"bits", 3, 1, false, "", "headroom/split", 24⟩, ⟨"mode", 3, 2, false, "", "headroom/split", 32⟩, ⟨"turn", 3, 3, false, "", "headroom/split", 40⟩], 4, 48, [.slice none 0 0, .int .i64 0, .int .i64 0, .int .i64 0], false⟩),
   (64, ⟨.slice 68, 1, 24, [.slice none 0 0], false⟩),
   (66, ⟨.func #[3, 3, 4] #[4] false, 1, 8, [.nilFunc], false⟩),
   (67, ⟨.struct #[⟨"up", 66, 0, false, "", "headroom/round", 0⟩], 1, 8, [.nilFunc], false⟩),
   (68, ⟨.struct #[⟨"up", 66, 0, false, "", "headroom/round", 0⟩], 1, 8, [.nilFunc], false⟩),
   (73, ⟨.func #[52] #[] false, 1, 8, [.nilFunc], false⟩),
   (74, ⟨.func #[52] #[] false, 1, 8, [.nilFunc], false⟩),
   (76, ⟨.func #[3] #[35] false, 1, 8, [.nilFunc], false⟩),
   (79, ⟨.slice 3, 1, 24, [.slice none 0 0], false⟩),
   (80, ⟨.struct #[⟨"A", 79, 0, false, "", "", 0⟩, ⟨"K", 3, 1, false, "", "", 24⟩], 2, 32, [.slice none 0 0, .int .i64 0], false⟩),
   (81, ⟨.struct #[⟨"A", 79, 0, false, "", "", 0⟩, ⟨"K", 3, 1, false, "", "", 24⟩], 2, 32, [.slice none 0 0, .int .i64 0], false⟩),
   (98, ⟨.func #[] #[35] false, 1, 8, [.nilFunc], false⟩),
   (101, ⟨.struct #[⟨"P", 35, 0, false, "", "", 0⟩, ⟨"Left", 3, 2, false, "", "", 16⟩], 3, 24, [.int .i64 0, .int .i64 0, .int .i64 0], false⟩),
   (102, ⟨.struct #[⟨"P", 35, 0, false, "", "", 0⟩, ⟨"Left", 3, 2, false, "", "", 16⟩], 3, 24, [.int .i64 0, .int .i64 0, .int .i64 0], false⟩),
   (106, ⟨.func #[] #[3, 23] false, 1, 8, [.nilFunc], false⟩),
   (113, ⟨.array 2 3, 2, 16, [.int .i64 0, .int .i64 0], true⟩),
   (118, ⟨.array 45 3, 45, 360, [.int .i64 0, .int .i64 0, .int .i64 0, .int .i64 0, .int .i64 0, .int .i64 0, .int .i64 0, .int .i64 0, .int .i64 0, .int .i64 0, .int .i64 0, .int .i64 0, .int .i64 0, .int .i64 0, .int .i64 0, .int .i64 0, .int .i64 0, .int .i64 0, .int .i64 0, .int .i64 0, .int .i64 0, .int .i64 0, .int .i64 0, .int .i64 0, .int .i64 0, .int .i64 0, .int .i64 0, .int .i64 0, .int .i64 0, .int .i64 0, .int .i64 0, .int .i64 0, .int .i64 0, .int .i64 0, .int .i64 0, .int .i64 0, .int .i64 0, .int .i64 0, .int .i64 0, .int .i64 0, .int .i64 0, .int .i64 0, .int .i64 0, .int .i64 0, .int .i64 0], false⟩)]
def tt : TypeId → Option TI := fun t => look t ttab
theorem tok3 : Tok Try.prog 3 ⟨.int .i64, 1, 8, [.int .i64 0], false⟩ := tok_of (.int .i64 0) (by kernel_rfl) (by kernel_rfl) rfl (by first | exact fun _ => rfl | (intro h; cases h)) rfl (by first | exact fun _ => rfl | (intro h; cases h)) (trivial) (fun h => by cases h)
theorem tok4 : Tok Try.prog 4 ⟨.bool, 1, 1, [.bool false], false⟩ := tok_of (.bool false) (by kernel_rfl) (by kernel_rfl) rfl (by first | exact fun _ => rfl | (intro h; cases h)) rfl (by first | exact fun _ => rfl | (intro h; cases h)) (trivial) (fun h => by cases h)
theorem tok22 : Tok Try.prog 22 ⟨.slice 35, 1, 24, [.slice none 0 0], false⟩ := tok_of (.slice none 0 0) (by kernel_rfl) (by kernel_rfl) rfl (by first | exact fun _ => rfl | (intro h; cases h)) rfl (by first | exact fun _ => rfl | (intro h; cases h)) (trivial) (fun h => by cases h)
theorem tok23 : Tok Try.prog 23 ⟨.int .i64, 1, 8, [.int .i64 0], false⟩ := tok_of (.int .i64 0) (by kernel_rfl) (by kernel_rfl) rfl (by first | exact fun _ => rfl | (intro h; cases h)) rfl (by first | exact fun _ => rfl | (intro h; cases h)) (trivial) (fun h => by cases h)
theorem eqt34 : EqT Try.prog 34 2 := eqT_struct (by kernel_rfl) Try.underlying34 (by kernel_rfl) ⟨rfl, by kernel_rfl, rfl, rfl, by kernel_rfl, rfl, rfl⟩
theorem tok34 : Tok Try.prog 34 ⟨.struct #[⟨"Re", 3, 0, false, "", "", 0⟩, ⟨"Im", 3, 1, false, "", "", 8⟩], 2, 16, [.int .i64 0, .int .i64 0], true⟩ := tok_of (.agg #[.int .i64 0, .int .i64 0]) (by kernel_rfl) (by kernel_rfl) rfl (by first | exact fun _ => rfl | (intro h; cases h)) rfl (by first | exact fun _ => rfl | (intro h; cases h)) (⟨[(0, 1), (1, 1)], by kernel_rfl⟩) (fun _ => eqt34)
theorem eqt35 : EqT Try.prog 35 2 := eqT_struct (by kernel_rfl) Try.underlying35 (by kernel_rfl) ⟨rfl, by kernel_rfl, rfl, rfl, by kernel_rfl, rfl, rfl⟩
theorem tok35 : Tok Try.prog 35 ⟨.struct #[⟨"Re", 3, 0, false, "", "", 0⟩, ⟨"Im", 3, 1, false, "", "", 8⟩], 2, 16, [.int .i64 0, .int .i64 0], true⟩ := tok_of (.agg #[.int .i64 0, .int .i64 0]) (by kernel_rfl) (by kernel_rfl) rfl (by first | exact fun _ => rfl | (intro h; cases h)) rfl (by first | exact fun _ => rfl | (intro h; cases h)) (⟨[(0, 1), (1, 1)], by kernel_rfl⟩) (fun _ => eqt35)
theorem tok39 : Tok Try.prog 39 ⟨.struct #[⟨"U", 35, 0, false, "", "", 0⟩, ⟨"V", 35, 2, false, "", "", 16⟩, ⟨"Y", 35, 4, false, "", "", 32⟩, ⟨"Z", 35, 6, false, "", "", 48⟩, ⟨"W", 35, 8, false, "", "", 64⟩, ⟨"W3", 35, 10, false, "", "", 80⟩], 12, 96, [.int .i64 0, .int .i64 0, .int .i64 0, .int .i64 0, .int .i64 0, .int .i64 0, .int .i64 0, .int .i64 0, .int .i64 0, .int .i64 0, .int .i64 0, .int .i64 0], false⟩ := tok_of (.agg #[.int .i64 0, .int .i64 0, .int .i64 0, .int .i64 0, .int .i64 0, .int .i64 0, .int .i64 0, .int .i64 0, .int .i64 0, .int .i64 0, .int .i64 0, .int .i64 0]) (by kernel_rfl) (by kernel_rfl) rfl (by first | exact fun _ => rfl | (intro h; cases h)) rfl (by first | exact fun _ => rfl | (intro h; cases h)) (⟨[(0, 2), (2, 2), (4, 2), (6, 2), (8, 2), (10, 2)], by kernel_rfl⟩) (fun h => by cases h)
theorem tok40 : Tok Try.prog 40 ⟨.struct #[⟨"U", 35, 0, false, "", "", 0⟩, ⟨"V", 35, 2, false, "", "", 16⟩, ⟨"Y", 35, 4, false, "", "", 32⟩, ⟨"Z", 35, 6, false, "", "", 48⟩, ⟨"W", 35, 8, false, "", "", 64⟩, ⟨"W3", 35, 10, false, "", "", 80⟩], 12, 96, [.int .i64 0, .int .i64 0, .int .i64 0, .int .i64 0, .int .i64 0, .int .i64 0, .int .i64 0, .int .i64 0, .int .i64 0, .int .i64 0, .int .i64 0, .int .i64 0], false⟩ := tok_of (.agg #[.int .i64 0, .int .i64 0, .int .i64 0, .int .i64 0, .int .i64 0, .int .i64 0, .int .i64 0, .int .i64 0, .int .i64 0, .int .i64 0, .int .i64 0, .int .i64 0]) (by kernel_rfl) (by kernel_rfl) rfl (by first | exact fun _ => rfl | (intro h; cases h)) rfl (by first | exact fun _ => rfl | (intro h; cases h)) (⟨[(0, 2), (2, 2), (4, 2), (6, 2), (8, 2), (10, 2)], by kernel_rfl⟩) (fun h => by cases h)
theorem eqt41 : EqT Try.prog 41 8 := eqT_array (e := 35) (c := 2) (m := 4) (by kernel_rfl) Try.underlying41 Try.underlying35 rfl (by kernel_rfl) (eqT_small Try.underlying35 (by kernel_rfl) ⟨rfl, by kernel_rfl, rfl, rfl, by kernel_rfl, rfl, rfl⟩)
theorem tok41 : Tok Try.prog 41 ⟨.array 4 35, 8, 64, [.int .i64 0, .int .i64 0, .int .i64 0, .int .i64 0, .int .i64 0, .int .i64 0, .int .i64 0, .int .i64 0], true⟩ := tok_of (.agg #[.int .i64 0, .int .i64 0, .int .i64 0, .int .i64 0, .int .i64 0, .int .i64 0, .int .i64 0, .int .i64 0]) (by kernel_rfl) (by kernel_rfl) rfl (by first | exact fun _ => rfl | (intro h; cases h)) rfl (by first | exact fun _ => rfl | (intro h; cases h)) (some_of (by kernel_rfl)) (fun _ => eqt41)
theorem tok52 : Tok Try.prog 52 ⟨.func #[35] #[4] false, 1, 8, [.nilFunc], false⟩ := tok_of (.nilFunc) (by kernel_rfl) (by kernel_rfl) rfl (by first | exact fun _ => rfl | (intro h; cases h)) rfl (by first | exact fun _ => rfl | (intro h; cases h)) (trivial) (fun h => by cases h)
theorem tok55 : Tok Try.prog 55 ⟨.struct #[⟨"w", 22, 0, false, "", "headroom/split", 0⟩, ⟨"bits", 3, 1, false, "", "headroom/split", 24⟩, ⟨"mode", 3, 2, false, "", "headroom/split", 32⟩, ⟨"turn", 3, 3, false, "", "headroom/split", 40⟩], 4, 48, [.slice none 0 0, .int .i64 0, .int .i64 0, .int .i64 0], false⟩ := tok_of (.agg #[.slice none 0 0, .int .i64 0, .int .i64 0, .int .i64 0]) (by kernel_rfl) (by kernel_rfl) rfl (by first | exact fun _ => rfl | (intro h; cases h)) rfl (by first | exact fun _ => rfl | (intro h; cases h)) (⟨[(0, 1), (1, 1), (2, 1), (3, 1)], by kernel_rfl⟩) (fun h => by cases h)
theorem tok56 : Tok Try.prog 56 ⟨.struct #[⟨"w", 22, 0, false, "", "headroom/split", 0⟩, ⟨"bits", 3, 1, false, "", "headroom/split", 24⟩, ⟨"mode", 3, 2, false, "", "headroom/split", 32⟩, ⟨"turn", 3, 3, false, "", "headroom/split", 40⟩], 4, 48, [.slice none 0 0, .int .i64 0, .int .i64 0, .int .i64 0], false⟩ := tok_of (.agg #[.slice none 0 0, .int .i64 0, .int .i64 0, .int .i64 0]) (by kernel_rfl) (by kernel_rfl) rfl (by first | exact fun _ => rfl | (intro h; cases h)) rfl (by first | exact fun _ => rfl | (intro h; cases h)) (⟨[(0, 1), (1, 1), (2, 1), (3, 1)], by kernel_rfl⟩) (fun h => by cases h)
theorem tok64 : Tok Try.prog 64 ⟨.slice 68, 1, 24, [.slice none 0 0], false⟩ := tok_of (.slice none 0 0) (by kernel_rfl) (by kernel_rfl) rfl (by first | exact fun _ => rfl | (intro h; cases h)) rfl (by first | exact fun _ => rfl | (intro h; cases h)) (trivial) (fun h => by cases h)
theorem tok66 : Tok Try.prog 66 ⟨.func #[3, 3, 4] #[4] false, 1, 8, [.nilFunc], false⟩ := tok_of (.nilFunc) (by kernel_rfl) (by kernel_rfl) rfl (by first | exact fun _ => rfl | (intro h; cases h)) rfl (by first | exact fun _ => rfl | (intro h; cases h)) (trivial) (fun h => by cases h)
theorem tok67 : Tok Try.prog 67 ⟨.struct #[⟨"up", 66, 0, false, "", "headroom/round", 0⟩], 1, 8, [.nilFunc], false⟩ := tok_of (.agg #[.nilFunc]) (by kernel_rfl) (by kernel_rfl) rfl (by first | exact fun _ => rfl | (intro h; cases h)) rfl (by first | exact fun _ => rfl | (intro h; cases h)) (⟨[(0, 1)], by kernel_rfl⟩) (fun h => by cases h)
theorem tok68 : Tok Try.prog 68 ⟨.struct #[⟨"up", 66, 0, false, "", "headroom/round", 0⟩], 1, 8, [.nilFunc], false⟩ := tok_of (.agg #[.nilFunc]) (by kernel_rfl) (by kernel_rfl) rfl (by first | exact fun _ => rfl | (intro h; cases h)) rfl (by first | exact fun _ => rfl | (intro h; cases h)) (⟨[(0, 1)], by kernel_rfl⟩) (fun h => by cases h)
theorem tok73 : Tok Try.prog 73 ⟨.func #[52] #[] false, 1, 8, [.nilFunc], false⟩ := tok_of (.nilFunc) (by kernel_rfl) (by kernel_rfl) rfl (by first | exact fun _ => rfl | (intro h; cases h)) rfl (by first | exact fun _ => rfl | (intro h; cases h)) (trivial) (fun h => by cases h)
theorem tok74 : Tok Try.prog 74 ⟨.func #[52] #[] false, 1, 8, [.nilFunc], false⟩ := tok_of (.nilFunc) (by kernel_rfl) (by kernel_rfl) rfl (by first | exact fun _ => rfl | (intro h; cases h)) rfl (by first | exact fun _ => rfl | (intro h; cases h)) (trivial) (fun h => by cases h)
theorem tok76 : Tok Try.prog 76 ⟨.func #[3] #[35] false, 1, 8, [.nilFunc], false⟩ := tok_of (.nilFunc) (by kernel_rfl) (by kernel_rfl) rfl (by first | exact fun _ => rfl | (intro h; cases h)) rfl (by first | exact fun _ => rfl | (intro h; cases h)) (trivial) (fun h => by cases h)
theorem tok79 : Tok Try.prog 79 ⟨.slice 3, 1, 24, [.slice none 0 0], false⟩ := tok_of (.slice none 0 0) (by kernel_rfl) (by kernel_rfl) rfl (by first | exact fun _ => rfl | (intro h; cases h)) rfl (by first | exact fun _ => rfl | (intro h; cases h)) (trivial) (fun h => by cases h)
theorem tok80 : Tok Try.prog 80 ⟨.struct #[⟨"A", 79, 0, false, "", "", 0⟩, ⟨"K", 3, 1, false, "", "", 24⟩], 2, 32, [.slice none 0 0, .int .i64 0], false⟩ := tok_of (.agg #[.slice none 0 0, .int .i64 0]) (by kernel_rfl) (by kernel_rfl) rfl (by first | exact fun _ => rfl | (intro h; cases h)) rfl (by first | exact fun _ => rfl | (intro h; cases h)) (⟨[(0, 1), (1, 1)], by kernel_rfl⟩) (fun h => by cases h)
theorem tok81 : Tok Try.prog 81 ⟨.struct #[⟨"A", 79, 0, false, "", "", 0⟩, ⟨"K", 3, 1, false, "", "", 24⟩], 2, 32, [.slice none 0 0, .int .i64 0], false⟩ := tok_of (.agg #[.slice none 0 0, .int .i64 0]) (by kernel_rfl) (by kernel_rfl) rfl (by first | exact fun _ => rfl | (intro h; cases h)) rfl (by first | exact fun _ => rfl | (intro h; cases h)) (⟨[(0, 1), (1, 1)], by kernel_rfl⟩) (fun h => by cases h)
theorem tok98 : Tok Try.prog 98 ⟨.func #[] #[35] false, 1, 8, [.nilFunc], false⟩ := tok_of (.nilFunc) (by kernel_rfl) (by kernel_rfl) rfl (by first | exact fun _ => rfl | (intro h; cases h)) rfl (by first | exact fun _ => rfl | (intro h; cases h)) (trivial) (fun h => by cases h)
theorem tok101 : Tok Try.prog 101 ⟨.struct #[⟨"P", 35, 0, false, "", "", 0⟩, ⟨"Left", 3, 2, false, "", "", 16⟩], 3, 24, [.int .i64 0, .int .i64 0, .int .i64 0], false⟩ := tok_of (.agg #[.int .i64 0, .int .i64 0, .int .i64 0]) (by kernel_rfl) (by kernel_rfl) rfl (by first | exact fun _ => rfl | (intro h; cases h)) rfl (by first | exact fun _ => rfl | (intro h; cases h)) (⟨[(0, 2), (2, 1)], by kernel_rfl⟩) (fun h => by cases h)
theorem tok102 : Tok Try.prog 102 ⟨.struct #[⟨"P", 35, 0, false, "", "", 0⟩, ⟨"Left", 3, 2, false, "", "", 16⟩], 3, 24, [.int .i64 0, .int .i64 0, .int .i64 0], false⟩ := tok_of (.agg #[.int .i64 0, .int .i64 0, .int .i64 0]) (by kernel_rfl) (by kernel_rfl) rfl (by first | exact fun _ => rfl | (intro h; cases h)) rfl (by first | exact fun _ => rfl | (intro h; cases h)) (⟨[(0, 2), (2, 1)], by kernel_rfl⟩) (fun h => by cases h)
theorem tok106 : Tok Try.prog 106 ⟨.func #[] #[3, 23] false, 1, 8, [.nilFunc], false⟩ := tok_of (.nilFunc) (by kernel_rfl) (by kernel_rfl) rfl (by first | exact fun _ => rfl | (intro h; cases h)) rfl (by first | exact fun _ => rfl | (intro h; cases h)) (trivial) (fun h => by cases h)
theorem eqt113 : EqT Try.prog 113 2 := eqT_ints (e := 3) (by kernel_rfl) Try.underlying113 Try.underlying3 (by kernel_rfl)
theorem tok113 : Tok Try.prog 113 ⟨.array 2 3, 2, 16, [.int .i64 0, .int .i64 0], true⟩ := tok_of (.agg #[.int .i64 0, .int .i64 0]) (by kernel_rfl) (by kernel_rfl) rfl (by first | exact fun _ => rfl | (intro h; cases h)) rfl (by first | exact fun _ => rfl | (intro h; cases h)) (some_of (by kernel_rfl)) (fun _ => eqt113)
theorem tok118 : Tok Try.prog 118 ⟨.array 45 3, 45, 360, [.int .i64 0, .int .i64 0, .int .i64 0, .int .i64 0, .int .i64 0, .int .i64 0, .int .i64 0, .int .i64 0, .int .i64 0, .int .i64 0, .int .i64 0, .int .i64 0, .int .i64 0, .int .i64 0, .int .i64 0, .int .i64 0, .int .i64 0, .int .i64 0, .int .i64 0, .int .i64 0, .int .i64 0, .int .i64 0, .int .i64 0, .int .i64 0, .int .i64 0, .int .i64 0, .int .i64 0, .int .i64 0, .int .i64 0, .int .i64 0, .int .i64 0, .int .i64 0, .int .i64 0, .int .i64 0, .int .i64 0, .int .i64 0, .int .i64 0, .int .i64 0, .int .i64 0, .int .i64 0, .int .i64 0, .int .i64 0, .int .i64 0, .int .i64 0, .int .i64 0], false⟩ := tok_of (.agg #[.int .i64 0, .int .i64 0, .int .i64 0, .int .i64 0, .int .i64 0, .int .i64 0, .int .i64 0, .int .i64 0, .int .i64 0, .int .i64 0, .int .i64 0, .int .i64 0, .int .i64 0, .int .i64 0, .int .i64 0, .int .i64 0, .int .i64 0, .int .i64 0, .int .i64 0, .int .i64 0, .int .i64 0, .int .i64 0, .int .i64 0, .int .i64 0, .int .i64 0, .int .i64 0, .int .i64 0, .int .i64 0, .int .i64 0, .int .i64 0, .int .i64 0, .int .i64 0, .int .i64 0, .int .i64 0, .int .i64 0, .int .i64 0, .int .i64 0, .int .i64 0, .int .i64 0, .int .i64 0, .int .i64 0, .int .i64 0, .int .i64 0, .int .i64 0, .int .i64 0]) (by kernel_rfl) (by kernel_rfl) rfl (by first | exact fun _ => rfl | (intro h; cases h)) rfl (by first | exact fun _ => rfl | (intro h; cases h)) (some_of (by kernel_rfl)) (fun h => by cases h)
theorem tok : TOk Try.prog tt := tok_list (tok_cons tok3 (tok_cons tok4 (tok_cons tok22 (tok_cons tok23 (tok_cons tok34 (tok_cons tok35 (tok_cons tok39 (tok_cons tok40 (tok_cons tok41 (tok_cons tok52 (tok_cons tok55 (tok_cons tok56 (tok_cons tok64 (tok_cons tok66 (tok_cons tok67 (tok_cons tok68 (tok_cons tok73 (tok_cons tok74 (tok_cons tok76 (tok_cons tok79 (tok_cons tok80 (tok_cons tok81 (tok_cons tok98 (tok_cons tok101 (tok_cons tok102 (tok_cons tok106 (tok_cons tok113 (tok_cons tok118 (tok_nil)))))))))))))))))))))))))))))
theorem follows : Try.prog.follows .mixedOrders = true := by kernel_rfl
theorem ts3 : tSize tt 3 = some (false, 1) := rfl
theorem tz3 : tZero tt 3 = some [.raw (.int .i64 0)] := rfl
theorem ti3 : tInt tt 3 = some .i64 := rfl
theorem tb3 : tBool tt 3 = false := rfl
theorem te3 : tEq tt 3 = none := rfl
theorem tq3 : tSl tt 3 = false := rfl
theorem ts4 : tSize tt 4 = some (false, 1) := rfl
theorem tz4 : tZero tt 4 = some [.raw (.bool false)] := rfl
theorem tb4 : tBool tt 4 = true := rfl
theorem te4 : tEq tt 4 = none := rfl
theorem tq4 : tSl tt 4 = false := rfl
theorem ts22 : tSize tt 22 = some (false, 1) := rfl
theorem tz22 : tZero tt 22 = some [.raw (.slice none 0 0)] := rfl
theorem tb22 : tBool tt 22 = false := rfl
theorem te22 : tEq tt 22 = none := rfl
theorem tq22 : tSl tt 22 = true := rfl
theorem tl22 : tSlice tt 22 = some (35, ⟨.struct #[⟨"Re", 3, 0, false, "", "", 0⟩, ⟨"Im", 3, 1, false, "", "", 8⟩], 2, 16, [.int .i64 0, .int .i64 0], true⟩) := rfl
theorem ts23 : tSize tt 23 = some (false, 1) := rfl
theorem tz23 : tZero tt 23 = some [.raw (.int .i64 0)] := rfl
theorem ti23 : tInt tt 23 = some .i64 := rfl
theorem tb23 : tBool tt 23 = false := rfl
theorem te23 : tEq tt 23 = none := rfl
theorem tq23 : tSl tt 23 = false := rfl
theorem ts34 : tSize tt 34 = some (true, 2) := rfl
theorem tz34 : tZero tt 34 = some [.raw (.int .i64 0), .raw (.int .i64 0)] := rfl
theorem tb34 : tBool tt 34 = false := rfl
theorem te34 : tEq tt 34 = some 2 := rfl
theorem tq34 : tSl tt 34 = false := rfl
theorem tf34_0 : tField tt 34 0 = some (0, false, 1) := rfl
theorem tp34_0 : placeOf tt 34 0 = some (0, 1) := rfl
theorem tf34_1 : tField tt 34 1 = some (1, false, 1) := rfl
theorem tp34_1 : placeOf tt 34 1 = some (1, 1) := rfl
theorem ts35 : tSize tt 35 = some (true, 2) := rfl
theorem tz35 : tZero tt 35 = some [.raw (.int .i64 0), .raw (.int .i64 0)] := rfl
theorem tb35 : tBool tt 35 = false := rfl
theorem te35 : tEq tt 35 = some 2 := rfl
theorem tq35 : tSl tt 35 = false := rfl
theorem tf35_0 : tField tt 35 0 = some (0, false, 1) := rfl
theorem tp35_0 : placeOf tt 35 0 = some (0, 1) := rfl
theorem tf35_1 : tField tt 35 1 = some (1, false, 1) := rfl
theorem tp35_1 : placeOf tt 35 1 = some (1, 1) := rfl
theorem ts39 : tSize tt 39 = some (true, 12) := rfl
theorem tz39 : tZero tt 39 = some [.raw (.int .i64 0), .raw (.int .i64 0), .raw (.int .i64 0), .raw (.int .i64 0), .raw (.int .i64 0), .raw (.int .i64 0), .raw (.int .i64 0), .raw (.int .i64 0), .raw (.int .i64 0), .raw (.int .i64 0), .raw (.int .i64 0), .raw (.int .i64 0)] := rfl
theorem tb39 : tBool tt 39 = false := rfl
theorem te39 : tEq tt 39 = none := rfl
theorem tq39 : tSl tt 39 = false := rfl
theorem tf39_0 : tField tt 39 0 = some (0, true, 2) := rfl
theorem tp39_0 : placeOf tt 39 0 = some (0, 2) := rfl
theorem tf39_1 : tField tt 39 1 = some (2, true, 2) := rfl
theorem tp39_1 : placeOf tt 39 1 = some (2, 2) := rfl
theorem tf39_2 : tField tt 39 2 = some (4, true, 2) := rfl
theorem tp39_2 : placeOf tt 39 2 = some (4, 2) := rfl
theorem tf39_3 : tField tt 39 3 = some (6, true, 2) := rfl
theorem tp39_3 : placeOf tt 39 3 = some (6, 2) := rfl
theorem tf39_4 : tField tt 39 4 = some (8, true, 2) := rfl
theorem tp39_4 : placeOf tt 39 4 = some (8, 2) := rfl
theorem tf39_5 : tField tt 39 5 = some (10, true, 2) := rfl
theorem tp39_5 : placeOf tt 39 5 = some (10, 2) := rfl
theorem ts40 : tSize tt 40 = some (true, 12) := rfl
theorem tz40 : tZero tt 40 = some [.raw (.int .i64 0), .raw (.int .i64 0), .raw (.int .i64 0), .raw (.int .i64 0), .raw (.int .i64 0), .raw (.int .i64 0), .raw (.int .i64 0), .raw (.int .i64 0), .raw (.int .i64 0), .raw (.int .i64 0), .raw (.int .i64 0), .raw (.int .i64 0)] := rfl
theorem tb40 : tBool tt 40 = false := rfl
theorem te40 : tEq tt 40 = none := rfl
theorem tq40 : tSl tt 40 = false := rfl
theorem tf40_0 : tField tt 40 0 = some (0, true, 2) := rfl
theorem tp40_0 : placeOf tt 40 0 = some (0, 2) := rfl
theorem tf40_1 : tField tt 40 1 = some (2, true, 2) := rfl
theorem tp40_1 : placeOf tt 40 1 = some (2, 2) := rfl
theorem tf40_2 : tField tt 40 2 = some (4, true, 2) := rfl
theorem tp40_2 : placeOf tt 40 2 = some (4, 2) := rfl
theorem tf40_3 : tField tt 40 3 = some (6, true, 2) := rfl
theorem tp40_3 : placeOf tt 40 3 = some (6, 2) := rfl
theorem tf40_4 : tField tt 40 4 = some (8, true, 2) := rfl
theorem tp40_4 : placeOf tt 40 4 = some (8, 2) := rfl
theorem tf40_5 : tField tt 40 5 = some (10, true, 2) := rfl
theorem tp40_5 : placeOf tt 40 5 = some (10, 2) := rfl
theorem ts41 : tSize tt 41 = some (true, 8) := rfl
theorem tz41 : tZero tt 41 = some [.raw (.int .i64 0), .raw (.int .i64 0), .raw (.int .i64 0), .raw (.int .i64 0), .raw (.int .i64 0), .raw (.int .i64 0), .raw (.int .i64 0), .raw (.int .i64 0)] := rfl
theorem tb41 : tBool tt 41 = false := rfl
theorem te41 : tEq tt 41 = some 8 := rfl
theorem tq41 : tSl tt 41 = false := rfl
theorem ta41 : tArr tt 41 = some (4, true, 2) := rfl
theorem tp41_0 : placeOf tt 41 0 = some (0 * 2, 2) := rfl
theorem tp41_1 : placeOf tt 41 1 = some (1 * 2, 2) := rfl
theorem tp41_2 : placeOf tt 41 2 = some (2 * 2, 2) := rfl
theorem tp41_3 : placeOf tt 41 3 = some (3 * 2, 2) := rfl
theorem ts52 : tSize tt 52 = some (false, 1) := rfl
theorem tz52 : tZero tt 52 = some [.raw (.nilFunc)] := rfl
theorem tb52 : tBool tt 52 = false := rfl
theorem te52 : tEq tt 52 = none := rfl
theorem tq52 : tSl tt 52 = false := rfl
theorem ts55 : tSize tt 55 = some (true, 4) := rfl
theorem tz55 : tZero tt 55 = some [.raw (.slice none 0 0), .raw (.int .i64 0), .raw (.int .i64 0), .raw (.int .i64 0)] := rfl
theorem tb55 : tBool tt 55 = false := rfl
theorem te55 : tEq tt 55 = none := rfl
theorem tq55 : tSl tt 55 = false := rfl
theorem tf55_0 : tField tt 55 0 = some (0, false, 1) := rfl
theorem tp55_0 : placeOf tt 55 0 = some (0, 1) := rfl
theorem tf55_1 : tField tt 55 1 = some (1, false, 1) := rfl
theorem tp55_1 : placeOf tt 55 1 = some (1, 1) := rfl
theorem tf55_2 : tField tt 55 2 = some (2, false, 1) := rfl
theorem tp55_2 : placeOf tt 55 2 = some (2, 1) := rfl
theorem tf55_3 : tField tt 55 3 = some (3, false, 1) := rfl
theorem tp55_3 : placeOf tt 55 3 = some (3, 1) := rfl
theorem ts56 : tSize tt 56 = some (true, 4) := rfl
theorem tz56 : tZero tt 56 = some [.raw (.slice none 0 0), .raw (.int .i64 0), .raw (.int .i64 0), .raw (.int .i64 0)] := rfl
theorem tb56 : tBool tt 56 = false := rfl
theorem te56 : tEq tt 56 = none := rfl
theorem tq56 : tSl tt 56 = false := rfl
theorem tf56_0 : tField tt 56 0 = some (0, false, 1) := rfl
theorem tp56_0 : placeOf tt 56 0 = some (0, 1) := rfl
theorem tf56_1 : tField tt 56 1 = some (1, false, 1) := rfl
theorem tp56_1 : placeOf tt 56 1 = some (1, 1) := rfl
theorem tf56_2 : tField tt 56 2 = some (2, false, 1) := rfl
theorem tp56_2 : placeOf tt 56 2 = some (2, 1) := rfl
theorem tf56_3 : tField tt 56 3 = some (3, false, 1) := rfl
theorem tp56_3 : placeOf tt 56 3 = some (3, 1) := rfl
theorem ts64 : tSize tt 64 = some (false, 1) := rfl
theorem tz64 : tZero tt 64 = some [.raw (.slice none 0 0)] := rfl
theorem tb64 : tBool tt 64 = false := rfl
theorem te64 : tEq tt 64 = none := rfl
theorem tq64 : tSl tt 64 = true := rfl
theorem tl64 : tSlice tt 64 = some (68, ⟨.struct #[⟨"up", 66, 0, false, "", "headroom/round", 0⟩], 1, 8, [.nilFunc], false⟩) := rfl
theorem ts66 : tSize tt 66 = some (false, 1) := rfl
theorem tz66 : tZero tt 66 = some [.raw (.nilFunc)] := rfl
theorem tb66 : tBool tt 66 = false := rfl
theorem te66 : tEq tt 66 = none := rfl
theorem tq66 : tSl tt 66 = false := rfl
theorem ts67 : tSize tt 67 = some (true, 1) := rfl
theorem tz67 : tZero tt 67 = some [.raw (.nilFunc)] := rfl
theorem tb67 : tBool tt 67 = false := rfl
theorem te67 : tEq tt 67 = none := rfl
theorem tq67 : tSl tt 67 = false := rfl
theorem tf67_0 : tField tt 67 0 = some (0, false, 1) := rfl
theorem tp67_0 : placeOf tt 67 0 = some (0, 1) := rfl
theorem ts68 : tSize tt 68 = some (true, 1) := rfl
theorem tz68 : tZero tt 68 = some [.raw (.nilFunc)] := rfl
theorem tb68 : tBool tt 68 = false := rfl
theorem te68 : tEq tt 68 = none := rfl
theorem tq68 : tSl tt 68 = false := rfl
theorem tf68_0 : tField tt 68 0 = some (0, false, 1) := rfl
theorem tp68_0 : placeOf tt 68 0 = some (0, 1) := rfl
theorem ts73 : tSize tt 73 = some (false, 1) := rfl
theorem tz73 : tZero tt 73 = some [.raw (.nilFunc)] := rfl
theorem tb73 : tBool tt 73 = false := rfl
theorem te73 : tEq tt 73 = none := rfl
theorem tq73 : tSl tt 73 = false := rfl
theorem ts74 : tSize tt 74 = some (false, 1) := rfl
theorem tz74 : tZero tt 74 = some [.raw (.nilFunc)] := rfl
theorem tb74 : tBool tt 74 = false := rfl
theorem te74 : tEq tt 74 = none := rfl
theorem tq74 : tSl tt 74 = false := rfl
theorem ts76 : tSize tt 76 = some (false, 1) := rfl
theorem tz76 : tZero tt 76 = some [.raw (.nilFunc)] := rfl
theorem tb76 : tBool tt 76 = false := rfl
theorem te76 : tEq tt 76 = none := rfl
theorem tq76 : tSl tt 76 = false := rfl
theorem ts79 : tSize tt 79 = some (false, 1) := rfl
theorem tz79 : tZero tt 79 = some [.raw (.slice none 0 0)] := rfl
theorem tb79 : tBool tt 79 = false := rfl
theorem te79 : tEq tt 79 = none := rfl
theorem tq79 : tSl tt 79 = true := rfl
theorem tl79 : tSlice tt 79 = some (3, ⟨.int .i64, 1, 8, [.int .i64 0], false⟩) := rfl
theorem ts80 : tSize tt 80 = some (true, 2) := rfl
theorem tz80 : tZero tt 80 = some [.raw (.slice none 0 0), .raw (.int .i64 0)] := rfl
theorem tb80 : tBool tt 80 = false := rfl
theorem te80 : tEq tt 80 = none := rfl
theorem tq80 : tSl tt 80 = false := rfl
theorem tf80_0 : tField tt 80 0 = some (0, false, 1) := rfl
theorem tp80_0 : placeOf tt 80 0 = some (0, 1) := rfl
theorem tf80_1 : tField tt 80 1 = some (1, false, 1) := rfl
theorem tp80_1 : placeOf tt 80 1 = some (1, 1) := rfl
theorem ts81 : tSize tt 81 = some (true, 2) := rfl
theorem tz81 : tZero tt 81 = some [.raw (.slice none 0 0), .raw (.int .i64 0)] := rfl
theorem tb81 : tBool tt 81 = false := rfl
theorem te81 : tEq tt 81 = none := rfl
theorem tq81 : tSl tt 81 = false := rfl
theorem tf81_0 : tField tt 81 0 = some (0, false, 1) := rfl
theorem tp81_0 : placeOf tt 81 0 = some (0, 1) := rfl
theorem tf81_1 : tField tt 81 1 = some (1, false, 1) := rfl
theorem tp81_1 : placeOf tt 81 1 = some (1, 1) := rfl
theorem ts98 : tSize tt 98 = some (false, 1) := rfl
theorem tz98 : tZero tt 98 = some [.raw (.nilFunc)] := rfl
theorem tb98 : tBool tt 98 = false := rfl
theorem te98 : tEq tt 98 = none := rfl
theorem tq98 : tSl tt 98 = false := rfl
theorem ts101 : tSize tt 101 = some (true, 3) := rfl
theorem tz101 : tZero tt 101 = some [.raw (.int .i64 0), .raw (.int .i64 0), .raw (.int .i64 0)] := rfl
theorem tb101 : tBool tt 101 = false := rfl
theorem te101 : tEq tt 101 = none := rfl
theorem tq101 : tSl tt 101 = false := rfl
theorem tf101_0 : tField tt 101 0 = some (0, true, 2) := rfl
theorem tp101_0 : placeOf tt 101 0 = some (0, 2) := rfl
theorem tf101_1 : tField tt 101 1 = some (2, false, 1) := rfl
theorem tp101_1 : placeOf tt 101 1 = some (2, 1) := rfl
theorem ts102 : tSize tt 102 = some (true, 3) := rfl
theorem tz102 : tZero tt 102 = some [.raw (.int .i64 0), .raw (.int .i64 0), .raw (.int .i64 0)] := rfl
theorem tb102 : tBool tt 102 = false := rfl
theorem te102 : tEq tt 102 = none := rfl
theorem tq102 : tSl tt 102 = false := rfl
theorem tf102_0 : tField tt 102 0 = some (0, true, 2) := rfl
theorem tp102_0 : placeOf tt 102 0 = some (0, 2) := rfl
theorem tf102_1 : tField tt 102 1 = some (2, false, 1) := rfl
theorem tp102_1 : placeOf tt 102 1 = some (2, 1) := rfl
theorem ts106 : tSize tt 106 = some (false, 1) := rfl
theorem tz106 : tZero tt 106 = some [.raw (.nilFunc)] := rfl
theorem tb106 : tBool tt 106 = false := rfl
theorem te106 : tEq tt 106 = none := rfl
theorem tq106 : tSl tt 106 = false := rfl
theorem ts113 : tSize tt 113 = some (true, 2) := rfl
theorem tz113 : tZero tt 113 = some [.raw (.int .i64 0), .raw (.int .i64 0)] := rfl
theorem tb113 : tBool tt 113 = false := rfl
theorem te113 : tEq tt 113 = some 2 := rfl
theorem tq113 : tSl tt 113 = false := rfl
theorem ta113 : tArr tt 113 = some (2, false, 1) := rfl
theorem tp113_0 : placeOf tt 113 0 = some (0 * 1, 1) := rfl
theorem tp113_1 : placeOf tt 113 1 = some (1 * 1, 1) := rfl
theorem ts118 : tSize tt 118 = some (true, 45) := rfl
theorem tz118 : tZero tt 118 = some [.raw (.int .i64 0), .raw (.int .i64 0), .raw (.int .i64 0), .raw (.int .i64 0), .raw (.int .i64 0), .raw (.int .i64 0), .raw (.int .i64 0), .raw (.int .i64 0), .raw (.int .i64 0), .raw (.int .i64 0), .raw (.int .i64 0), .raw (.int .i64 0), .raw (.int .i64 0), .raw (.int .i64 0), .raw (.int .i64 0), .raw (.int .i64 0), .raw (.int .i64 0), .raw (.int .i64 0), .raw (.int .i64 0), .raw (.int .i64 0), .raw (.int .i64 0), .raw (.int .i64 0), .raw (.int .i64 0), .raw (.int .i64 0), .raw (.int .i64 0), .raw (.int .i64 0), .raw (.int .i64 0), .raw (.int .i64 0), .raw (.int .i64 0), .raw (.int .i64 0), .raw (.int .i64 0), .raw (.int .i64 0), .raw (.int .i64 0), .raw (.int .i64 0), .raw (.int .i64 0), .raw (.int .i64 0), .raw (.int .i64 0), .raw (.int .i64 0), .raw (.int .i64 0), .raw (.int .i64 0), .raw (.int .i64 0), .raw (.int .i64 0), .raw (.int .i64 0), .raw (.int .i64 0), .raw (.int .i64 0)] := rfl
theorem tb118 : tBool tt 118 = false := rfl
theorem te118 : tEq tt 118 = none := rfl
theorem tq118 : tSl tt 118 = false := rfl
theorem ta118 : tArr tt 118 = some (45, false, 1) := rfl
theorem tp118_0 : placeOf tt 118 0 = some (0 * 1, 1) := rfl
theorem tp118_1 : placeOf tt 118 1 = some (1 * 1, 1) := rfl
theorem tp118_2 : placeOf tt 118 2 = some (2 * 1, 1) := rfl
theorem tp118_3 : placeOf tt 118 3 = some (3 * 1, 1) := rfl
theorem tp118_4 : placeOf tt 118 4 = some (4 * 1, 1) := rfl
theorem tp118_5 : placeOf tt 118 5 = some (5 * 1, 1) := rfl
theorem tp118_6 : placeOf tt 118 6 = some (6 * 1, 1) := rfl
theorem tp118_7 : placeOf tt 118 7 = some (7 * 1, 1) := rfl
theorem tp118_8 : placeOf tt 118 8 = some (8 * 1, 1) := rfl
theorem tp118_9 : placeOf tt 118 9 = some (9 * 1, 1) := rfl
theorem tp118_10 : placeOf tt 118 10 = some (10 * 1, 1) := rfl
theorem tp118_11 : placeOf tt 118 11 = some (11 * 1, 1) := rfl
theorem tp118_12 : placeOf tt 118 12 = some (12 * 1, 1) := rfl
theorem tp118_13 : placeOf tt 118 13 = some (13 * 1, 1) := rfl
theorem tp118_14 : placeOf tt 118 14 = some (14 * 1, 1) := rfl
theorem tp118_15 : placeOf tt 118 15 = some (15 * 1, 1) := rfl
theorem tp118_16 : placeOf tt 118 16 = some (16 * 1, 1) := rfl
theorem tp118_17 : placeOf tt 118 17 = some (17 * 1, 1) := rfl
theorem tp118_18 : placeOf tt 118 18 = some (18 * 1, 1) := rfl
theorem tp118_19 : placeOf tt 118 19 = some (19 * 1, 1) := rfl
theorem tp118_20 : placeOf tt 118 20 = some (20 * 1, 1) := rfl
theorem tp118_21 : placeOf tt 118 21 = some (21 * 1, 1) := rfl
theorem tp118_22 : placeOf tt 118 22 = some (22 * 1, 1) := rfl
theorem tp118_23 : placeOf tt 118 23 = some (23 * 1, 1) := rfl
theorem tp118_24 : placeOf tt 118 24 = some (24 * 1, 1) := rfl
theorem tp118_25 : placeOf tt 118 25 = some (25 * 1, 1) := rfl
theorem tp118_26 : placeOf tt 118 26 = some (26 * 1, 1) := rfl
theorem tp118_27 : placeOf tt 118 27 = some (27 * 1, 1) := rfl
theorem tp118_28 : placeOf tt 118 28 = some (28 * 1, 1) := rfl
theorem tp118_29 : placeOf tt 118 29 = some (29 * 1, 1) := rfl
theorem tp118_30 : placeOf tt 118 30 = some (30 * 1, 1) := rfl
theorem tp118_31 : placeOf tt 118 31 = some (31 * 1, 1) := rfl
theorem tp118_32 : placeOf tt 118 32 = some (32 * 1, 1) := rfl
theorem tp118_33 : placeOf tt 118 33 = some (33 * 1, 1) := rfl
theorem tp118_34 : placeOf tt 118 34 = some (34 * 1, 1) := rfl
theorem tp118_35 : placeOf tt 118 35 = some (35 * 1, 1) := rfl
theorem tp118_36 : placeOf tt 118 36 = some (36 * 1, 1) := rfl
theorem tp118_37 : placeOf tt 118 37 = some (37 * 1, 1) := rfl
theorem tp118_38 : placeOf tt 118 38 = some (38 * 1, 1) := rfl
theorem tp118_39 : placeOf tt 118 39 = some (39 * 1, 1) := rfl
theorem tp118_40 : placeOf tt 118 40 = some (40 * 1, 1) := rfl
theorem tp118_41 : placeOf tt 118 41 = some (41 * 1, 1) := rfl
theorem tp118_42 : placeOf tt 118 42 = some (42 * 1, 1) := rfl
theorem tp118_43 : placeOf tt 118 43 = some (43 * 1, 1) := rfl
theorem tp118_44 : placeOf tt 118 44 = some (44 * 1, 1) := rfl
end Go.Proofs.YtnnjjblgilibgaaV

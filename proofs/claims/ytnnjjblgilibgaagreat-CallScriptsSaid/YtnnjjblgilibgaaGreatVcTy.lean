import Derived.Test.YtnnjjblgilibgaaGreatVcL
import Derived.Test.YtnnjjblgilibgaaGreatProg
/- The types of the program, for the evaluator; what is asked of them; the functions' bodies. Printed by this session's program ty.py. -/
namespace Go.Proofs.YtnnjjblgilibgaaGreatV
open Go Go.RowKit
set_option linter.unusedVariables false
set_option maxRecDepth 100000
def ttab : List (Nat × TI) :=
  [(3, ⟨.int .i64, 1, 8, [.int .i64 0], false, []⟩),
   (4, ⟨.bool, 1, 1, [.bool false], false, []⟩),
   (20, ⟨.interface #[], 1, 16, [.nilIface], false, []⟩),
   (22, ⟨.slice 43, 1, 24, [.slice none 0 0], false, []⟩),
   (23, ⟨.struct #[⟨"Format", 3, 0, false, "", "", 0⟩, ⟨"Log", 3, 1, false, "", "", 8⟩, ⟨"Kernel", 3, 2, false, "", "", 16⟩, ⟨"Scale", 3, 3, false, "", "", 24⟩, ⟨"Mode", 3, 4, false, "", "", 32⟩, ⟨"Inverse", 4, 5, false, "", "", 40⟩], 6, 48, [.int .i64 0, .int .i64 0, .int .i64 0, .int .i64 0, .int .i64 0, .bool false], false, []⟩),
   (24, ⟨.struct #[⟨"Format", 3, 0, false, "", "", 0⟩, ⟨"Log", 3, 1, false, "", "", 8⟩, ⟨"Kernel", 3, 2, false, "", "", 16⟩, ⟨"Scale", 3, 3, false, "", "", 24⟩, ⟨"Mode", 3, 4, false, "", "", 32⟩, ⟨"Inverse", 4, 5, false, "", "", 40⟩], 6, 48, [.int .i64 0, .int .i64 0, .int .i64 0, .int .i64 0, .int .i64 0, .bool false], false, []⟩),
   (25, ⟨.slice 3, 1, 24, [.slice none 0 0], false, []⟩),
   (26, ⟨.struct #[⟨"X", 22, 0, false, "", "", 0⟩, ⟨"Exp", 3, 1, false, "", "", 24⟩, ⟨"Sat", 4, 2, false, "", "", 32⟩, ⟨"Shifts", 25, 3, false, "", "", 40⟩], 4, 64, [.slice none 0 0, .int .i64 0, .bool false, .slice none 0 0], false, []⟩),
   (27, ⟨.struct #[⟨"X", 22, 0, false, "", "", 0⟩, ⟨"Exp", 3, 1, false, "", "", 24⟩, ⟨"Sat", 4, 2, false, "", "", 32⟩, ⟨"Shifts", 25, 3, false, "", "", 40⟩], 4, 64, [.slice none 0 0, .int .i64 0, .bool false, .slice none 0 0], false, []⟩),
   (28, ⟨.int .i64, 1, 8, [.int .i64 0], false, []⟩),
   (32, ⟨.func #[] #[4] false, 1, 8, [.nilFunc], false, []⟩),
   (42, ⟨.struct #[⟨"Re", 3, 0, false, "", "", 0⟩, ⟨"Im", 3, 1, false, "", "", 8⟩], 2, 16, [.int .i64 0, .int .i64 0], true, []⟩),
   (43, ⟨.struct #[⟨"Re", 3, 0, false, "", "", 0⟩, ⟨"Im", 3, 1, false, "", "", 8⟩], 2, 16, [.int .i64 0, .int .i64 0], true, []⟩),
   (48, ⟨.slice 52, 1, 24, [.slice none 0 0], false, []⟩),
   (51, ⟨.struct #[⟨"Kernel", 3, 0, false, "", "", 0⟩, ⟨"H", 3, 1, false, "", "", 8⟩], 2, 16, [.int .i64 0, .int .i64 0], true, []⟩),
   (52, ⟨.struct #[⟨"Kernel", 3, 0, false, "", "", 0⟩, ⟨"H", 3, 1, false, "", "", 8⟩], 2, 16, [.int .i64 0, .int .i64 0], true, []⟩),
   (64, ⟨.slice 107, 1, 24, [.slice none 0 0], false, []⟩),
   (66, ⟨.slice 28, 1, 24, [.slice none 0 0], false, []⟩),
   (69, ⟨.struct #[⟨"X", 22, 0, false, "", "", 0⟩, ⟨"E", 66, 1, false, "", "", 24⟩], 2, 48, [.slice none 0 0, .slice none 0 0], false, []⟩),
   (70, ⟨.struct #[⟨"X", 22, 0, false, "", "", 0⟩, ⟨"E", 66, 1, false, "", "", 24⟩], 2, 48, [.slice none 0 0, .slice none 0 0], false, []⟩),
   (76, ⟨.interface #[("headroom/fft.first", 91), ("headroom/fft.pass", 121)], 1, 16, [.nilIface], false, []⟩),
   (77, ⟨.interface #[("headroom/fft.first", 91), ("headroom/fft.pass", 121)], 1, 16, [.nilIface], false, []⟩),
   (78, ⟨.struct #[⟨"p", 24, 0, false, "", "headroom/fft", 0⟩, ⟨"s", 77, 6, false, "", "headroom/fft", 48⟩, ⟨"bits", 3, 7, false, "", "headroom/fft", 64⟩, ⟨"w", 22, 8, false, "", "headroom/fft", 72⟩], 9, 96, [.int .i64 0, .int .i64 0, .int .i64 0, .int .i64 0, .int .i64 0, .bool false, .nilIface, .int .i64 0, .slice none 0 0], false, []⟩),
   (79, ⟨.struct #[⟨"p", 24, 0, false, "", "headroom/fft", 0⟩, ⟨"s", 77, 6, false, "", "headroom/fft", 48⟩, ⟨"bits", 3, 7, false, "", "headroom/fft", 64⟩, ⟨"w", 22, 8, false, "", "headroom/fft", 72⟩], 9, 96, [.int .i64 0, .int .i64 0, .int .i64 0, .int .i64 0, .int .i64 0, .bool false, .nilIface, .int .i64 0, .slice none 0 0], false, [("headroom/fft.first", 52)]⟩),
   (104, ⟨.slice 149, 1, 24, [.slice none 0 0], false, []⟩),
   (106, ⟨.struct #[⟨"X", 22, 0, false, "", "", 0⟩, ⟨"W", 22, 1, false, "", "", 24⟩, ⟨"Plan", 24, 2, false, "", "", 48⟩], 8, 96, [.slice none 0 0, .slice none 0 0, .int .i64 0, .int .i64 0, .int .i64 0, .int .i64 0, .int .i64 0, .bool false], false, []⟩),
   (107, ⟨.struct #[⟨"X", 22, 0, false, "", "", 0⟩, ⟨"W", 22, 1, false, "", "", 24⟩, ⟨"Plan", 24, 2, false, "", "", 48⟩], 8, 96, [.slice none 0 0, .slice none 0 0, .int .i64 0, .int .i64 0, .int .i64 0, .int .i64 0, .int .i64 0, .bool false], false, []⟩),
   (110, ⟨.func #[43] #[4] false, 1, 8, [.nilFunc], false, []⟩),
   (113, ⟨.struct #[⟨"w", 22, 0, false, "", "headroom/split", 0⟩, ⟨"bits", 3, 1, false, "", "headroom/split", 24⟩, ⟨"mode", 3, 2, false, "", "headroom/split", 32⟩, ⟨"turn", 3, 3, false, "", "headroom/split", 40⟩], 4, 48, [.slice none 0 0, .int .i64 0, .int .i64 0, .int .i64 0], false, []⟩),
   (114, ⟨.struct #[⟨"w", 22, 0, false, "", "headroom/split", 0⟩, ⟨"bits", 3, 1, false, "", "headroom/split", 24⟩, ⟨"mode", 3, 2, false, "", "headroom/split", 32⟩, ⟨"turn", 3, 3, false, "", "headroom/split", 40⟩], 4, 48, [.slice none 0 0, .int .i64 0, .int .i64 0, .int .i64 0], false, []⟩),
   (115, ⟨.struct #[], 0, 0, [], false, []⟩),
   (116, ⟨.struct #[], 0, 0, [], false, [("headroom/fft.first", 207), ("headroom/fft.pass", 208)]⟩),
   (117, ⟨.struct #[⟨"format", 3, 0, false, "", "headroom/fft", 0⟩], 1, 8, [.int .i64 0], true, []⟩),
   (118, ⟨.struct #[⟨"format", 3, 0, false, "", "headroom/fft", 0⟩], 1, 8, [.int .i64 0], true, [("headroom/fft.first", 209), ("headroom/fft.pass", 210)]⟩),
   (119, ⟨.struct #[], 0, 0, [], false, [("headroom/fft.first", 212), ("headroom/fft.pass", 213)]⟩),
   (128, ⟨.struct #[⟨"U", 43, 0, false, "", "", 0⟩, ⟨"V", 43, 2, false, "", "", 16⟩, ⟨"Y", 43, 4, false, "", "", 32⟩, ⟨"Z", 43, 6, false, "", "", 48⟩, ⟨"W", 43, 8, false, "", "", 64⟩, ⟨"W3", 43, 10, false, "", "", 80⟩], 12, 96, [.int .i64 0, .int .i64 0, .int .i64 0, .int .i64 0, .int .i64 0, .int .i64 0, .int .i64 0, .int .i64 0, .int .i64 0, .int .i64 0, .int .i64 0, .int .i64 0], false, []⟩),
   (129, ⟨.struct #[⟨"U", 43, 0, false, "", "", 0⟩, ⟨"V", 43, 2, false, "", "", 16⟩, ⟨"Y", 43, 4, false, "", "", 32⟩, ⟨"Z", 43, 6, false, "", "", 48⟩, ⟨"W", 43, 8, false, "", "", 64⟩, ⟨"W3", 43, 10, false, "", "", 80⟩], 12, 96, [.int .i64 0, .int .i64 0, .int .i64 0, .int .i64 0, .int .i64 0, .int .i64 0, .int .i64 0, .int .i64 0, .int .i64 0, .int .i64 0, .int .i64 0, .int .i64 0], false, []⟩),
   (134, ⟨.slice 138, 1, 24, [.slice none 0 0], false, []⟩),
   (136, ⟨.func #[3, 3, 4] #[4] false, 1, 8, [.nilFunc], false, []⟩),
   (137, ⟨.struct #[⟨"up", 136, 0, false, "", "headroom/round", 0⟩], 1, 8, [.nilFunc], false, []⟩),
   (138, ⟨.struct #[⟨"up", 136, 0, false, "", "headroom/round", 0⟩], 1, 8, [.nilFunc], false, []⟩),
   (141, ⟨.struct #[⟨"A", 43, 0, false, "", "", 0⟩, ⟨"B", 43, 2, false, "", "", 16⟩, ⟨"C", 43, 4, false, "", "", 32⟩, ⟨"D", 43, 6, false, "", "", 48⟩], 8, 64, [.int .i64 0, .int .i64 0, .int .i64 0, .int .i64 0, .int .i64 0, .int .i64 0, .int .i64 0, .int .i64 0], false, []⟩),
   (142, ⟨.struct #[⟨"A", 43, 0, false, "", "", 0⟩, ⟨"B", 43, 2, false, "", "", 16⟩, ⟨"C", 43, 4, false, "", "", 32⟩, ⟨"D", 43, 6, false, "", "", 48⟩], 8, 64, [.int .i64 0, .int .i64 0, .int .i64 0, .int .i64 0, .int .i64 0, .int .i64 0, .int .i64 0, .int .i64 0], false, []⟩),
   (145, ⟨.struct #[⟨"X", 3, 0, false, "", "", 0⟩, ⟨"Is", 4, 1, false, "", "", 8⟩, ⟨"E", 28, 2, false, "", "", 16⟩], 3, 24, [.int .i64 0, .bool false, .int .i64 0], false, []⟩),
   (146, ⟨.struct #[⟨"X", 3, 0, false, "", "", 0⟩, ⟨"Is", 4, 1, false, "", "", 8⟩, ⟨"E", 28, 2, false, "", "", 16⟩], 3, 24, [.int .i64 0, .bool false, .int .i64 0], false, []⟩),
   (148, ⟨.struct #[⟨"error", 28, 0, false, "", "headroom/call", 0⟩, ⟨"is", 32, 1, false, "", "headroom/call", 8⟩], 2, 16, [.int .i64 0, .nilFunc], false, []⟩),
   (149, ⟨.struct #[⟨"error", 28, 0, false, "", "headroom/call", 0⟩, ⟨"is", 32, 1, false, "", "headroom/call", 8⟩], 2, 16, [.int .i64 0, .nilFunc], false, []⟩),
   (152, ⟨.func #[110] #[] false, 1, 8, [.nilFunc], false, []⟩),
   (153, ⟨.func #[110] #[] false, 1, 8, [.nilFunc], false, []⟩),
   (155, ⟨.array 4 43, 8, 64, [.int .i64 0, .int .i64 0, .int .i64 0, .int .i64 0, .int .i64 0, .int .i64 0, .int .i64 0, .int .i64 0], true, []⟩),
   (157, ⟨.func #[3] #[43] false, 1, 8, [.nilFunc], false, []⟩),
   (168, ⟨.struct #[⟨"A", 25, 0, false, "", "", 0⟩, ⟨"K", 3, 1, false, "", "", 24⟩], 2, 32, [.slice none 0 0, .int .i64 0], false, []⟩),
   (169, ⟨.struct #[⟨"A", 25, 0, false, "", "", 0⟩, ⟨"K", 3, 1, false, "", "", 24⟩], 2, 32, [.slice none 0 0, .int .i64 0], false, []⟩),
   (182, ⟨.func #[] #[43] false, 1, 8, [.nilFunc], false, []⟩),
   (189, ⟨.array 4 3, 4, 32, [.int .i64 0, .int .i64 0, .int .i64 0, .int .i64 0], true, []⟩),
   (193, ⟨.struct #[⟨"P", 43, 0, false, "", "", 0⟩, ⟨"Left", 3, 2, false, "", "", 16⟩], 3, 24, [.int .i64 0, .int .i64 0, .int .i64 0], false, []⟩),
   (194, ⟨.struct #[⟨"P", 43, 0, false, "", "", 0⟩, ⟨"Left", 3, 2, false, "", "", 16⟩], 3, 24, [.int .i64 0, .int .i64 0, .int .i64 0], false, []⟩),
   (198, ⟨.func #[] #[3, 28] false, 1, 8, [.nilFunc], false, []⟩),
   (205, ⟨.array 2 3, 2, 16, [.int .i64 0, .int .i64 0], true, []⟩),
   (209, ⟨.array 45 3, 45, 360, [.int .i64 0, .int .i64 0, .int .i64 0, .int .i64 0, .int .i64 0, .int .i64 0, .int .i64 0, .int .i64 0, .int .i64 0, .int .i64 0, .int .i64 0, .int .i64 0, .int .i64 0, .int .i64 0, .int .i64 0, .int .i64 0, .int .i64 0, .int .i64 0, .int .i64 0, .int .i64 0, .int .i64 0, .int .i64 0, .int .i64 0, .int .i64 0, .int .i64 0, .int .i64 0, .int .i64 0, .int .i64 0, .int .i64 0, .int .i64 0, .int .i64 0, .int .i64 0, .int .i64 0, .int .i64 0, .int .i64 0, .int .i64 0, .int .i64 0, .int .i64 0, .int .i64 0, .int .i64 0, .int .i64 0, .int .i64 0, .int .i64 0, .int .i64 0, .int .i64 0], false, []⟩)]
def tt : TypeId → Option TI := fun t => look t ttab
theorem tok3 : Tok Tryz.prog 3 ⟨.int .i64, 1, 8, [.int .i64 0], false, []⟩ := tok_of (.int .i64 0) (by kernel_rfl) (by kernel_rfl) rfl (by first | exact fun _ => rfl | (intro h; cases h)) rfl (by first | exact fun _ => rfl | (intro h; cases h)) (trivial) (fun h => by cases h) (fun p h => by cases h)
theorem tok4 : Tok Tryz.prog 4 ⟨.bool, 1, 1, [.bool false], false, []⟩ := tok_of (.bool false) (by kernel_rfl) (by kernel_rfl) rfl (by first | exact fun _ => rfl | (intro h; cases h)) rfl (by first | exact fun _ => rfl | (intro h; cases h)) (trivial) (fun h => by cases h) (fun p h => by cases h)
theorem tok20 : Tok Tryz.prog 20 ⟨.interface #[], 1, 16, [.nilIface], false, []⟩ := tok_of (.nilIface) (by kernel_rfl) (by kernel_rfl) rfl (by first | exact fun _ => rfl | (intro h; cases h)) rfl (by first | exact fun _ => rfl | (intro h; cases h)) (trivial) (fun h => by cases h) (fun p h => by cases h)
theorem tok22 : Tok Tryz.prog 22 ⟨.slice 43, 1, 24, [.slice none 0 0], false, []⟩ := tok_of (.slice none 0 0) (by kernel_rfl) (by kernel_rfl) rfl (by first | exact fun _ => rfl | (intro h; cases h)) rfl (by first | exact fun _ => rfl | (intro h; cases h)) (trivial) (fun h => by cases h) (fun p h => by cases h)
theorem tok23 : Tok Tryz.prog 23 ⟨.struct #[⟨"Format", 3, 0, false, "", "", 0⟩, ⟨"Log", 3, 1, false, "", "", 8⟩, ⟨"Kernel", 3, 2, false, "", "", 16⟩, ⟨"Scale", 3, 3, false, "", "", 24⟩, ⟨"Mode", 3, 4, false, "", "", 32⟩, ⟨"Inverse", 4, 5, false, "", "", 40⟩], 6, 48, [.int .i64 0, .int .i64 0, .int .i64 0, .int .i64 0, .int .i64 0, .bool false], false, []⟩ := tok_of (.agg #[.int .i64 0, .int .i64 0, .int .i64 0, .int .i64 0, .int .i64 0, .bool false]) (by kernel_rfl) (by kernel_rfl) rfl (by first | exact fun _ => rfl | (intro h; cases h)) rfl (by first | exact fun _ => rfl | (intro h; cases h)) (⟨[(0, 1), (1, 1), (2, 1), (3, 1), (4, 1), (5, 1)], by kernel_rfl⟩) (fun h => by cases h) (fun p h => by cases h)
theorem tok24 : Tok Tryz.prog 24 ⟨.struct #[⟨"Format", 3, 0, false, "", "", 0⟩, ⟨"Log", 3, 1, false, "", "", 8⟩, ⟨"Kernel", 3, 2, false, "", "", 16⟩, ⟨"Scale", 3, 3, false, "", "", 24⟩, ⟨"Mode", 3, 4, false, "", "", 32⟩, ⟨"Inverse", 4, 5, false, "", "", 40⟩], 6, 48, [.int .i64 0, .int .i64 0, .int .i64 0, .int .i64 0, .int .i64 0, .bool false], false, []⟩ := tok_of (.agg #[.int .i64 0, .int .i64 0, .int .i64 0, .int .i64 0, .int .i64 0, .bool false]) (by kernel_rfl) (by kernel_rfl) rfl (by first | exact fun _ => rfl | (intro h; cases h)) rfl (by first | exact fun _ => rfl | (intro h; cases h)) (⟨[(0, 1), (1, 1), (2, 1), (3, 1), (4, 1), (5, 1)], by kernel_rfl⟩) (fun h => by cases h) (fun p h => by cases h)
theorem tok25 : Tok Tryz.prog 25 ⟨.slice 3, 1, 24, [.slice none 0 0], false, []⟩ := tok_of (.slice none 0 0) (by kernel_rfl) (by kernel_rfl) rfl (by first | exact fun _ => rfl | (intro h; cases h)) rfl (by first | exact fun _ => rfl | (intro h; cases h)) (trivial) (fun h => by cases h) (fun p h => by cases h)
theorem tok26 : Tok Tryz.prog 26 ⟨.struct #[⟨"X", 22, 0, false, "", "", 0⟩, ⟨"Exp", 3, 1, false, "", "", 24⟩, ⟨"Sat", 4, 2, false, "", "", 32⟩, ⟨"Shifts", 25, 3, false, "", "", 40⟩], 4, 64, [.slice none 0 0, .int .i64 0, .bool false, .slice none 0 0], false, []⟩ := tok_of (.agg #[.slice none 0 0, .int .i64 0, .bool false, .slice none 0 0]) (by kernel_rfl) (by kernel_rfl) rfl (by first | exact fun _ => rfl | (intro h; cases h)) rfl (by first | exact fun _ => rfl | (intro h; cases h)) (⟨[(0, 1), (1, 1), (2, 1), (3, 1)], by kernel_rfl⟩) (fun h => by cases h) (fun p h => by cases h)
theorem tok27 : Tok Tryz.prog 27 ⟨.struct #[⟨"X", 22, 0, false, "", "", 0⟩, ⟨"Exp", 3, 1, false, "", "", 24⟩, ⟨"Sat", 4, 2, false, "", "", 32⟩, ⟨"Shifts", 25, 3, false, "", "", 40⟩], 4, 64, [.slice none 0 0, .int .i64 0, .bool false, .slice none 0 0], false, []⟩ := tok_of (.agg #[.slice none 0 0, .int .i64 0, .bool false, .slice none 0 0]) (by kernel_rfl) (by kernel_rfl) rfl (by first | exact fun _ => rfl | (intro h; cases h)) rfl (by first | exact fun _ => rfl | (intro h; cases h)) (⟨[(0, 1), (1, 1), (2, 1), (3, 1)], by kernel_rfl⟩) (fun h => by cases h) (fun p h => by cases h)
theorem tok28 : Tok Tryz.prog 28 ⟨.int .i64, 1, 8, [.int .i64 0], false, []⟩ := tok_of (.int .i64 0) (by kernel_rfl) (by kernel_rfl) rfl (by first | exact fun _ => rfl | (intro h; cases h)) rfl (by first | exact fun _ => rfl | (intro h; cases h)) (trivial) (fun h => by cases h) (fun p h => by cases h)
theorem tok32 : Tok Tryz.prog 32 ⟨.func #[] #[4] false, 1, 8, [.nilFunc], false, []⟩ := tok_of (.nilFunc) (by kernel_rfl) (by kernel_rfl) rfl (by first | exact fun _ => rfl | (intro h; cases h)) rfl (by first | exact fun _ => rfl | (intro h; cases h)) (trivial) (fun h => by cases h) (fun p h => by cases h)
theorem eqt42 : EqT Tryz.prog 42 2 := eqT_struct (by kernel_rfl) Tryz.underlying42 (by kernel_rfl) ⟨rfl, by kernel_rfl, rfl, rfl, by kernel_rfl, rfl, rfl⟩
theorem tok42 : Tok Tryz.prog 42 ⟨.struct #[⟨"Re", 3, 0, false, "", "", 0⟩, ⟨"Im", 3, 1, false, "", "", 8⟩], 2, 16, [.int .i64 0, .int .i64 0], true, []⟩ := tok_of (.agg #[.int .i64 0, .int .i64 0]) (by kernel_rfl) (by kernel_rfl) rfl (by first | exact fun _ => rfl | (intro h; cases h)) rfl (by first | exact fun _ => rfl | (intro h; cases h)) (⟨[(0, 1), (1, 1)], by kernel_rfl⟩) (fun _ => eqt42) (fun p h => by cases h)
theorem eqt43 : EqT Tryz.prog 43 2 := eqT_struct (by kernel_rfl) Tryz.underlying43 (by kernel_rfl) ⟨rfl, by kernel_rfl, rfl, rfl, by kernel_rfl, rfl, rfl⟩
theorem tok43 : Tok Tryz.prog 43 ⟨.struct #[⟨"Re", 3, 0, false, "", "", 0⟩, ⟨"Im", 3, 1, false, "", "", 8⟩], 2, 16, [.int .i64 0, .int .i64 0], true, []⟩ := tok_of (.agg #[.int .i64 0, .int .i64 0]) (by kernel_rfl) (by kernel_rfl) rfl (by first | exact fun _ => rfl | (intro h; cases h)) rfl (by first | exact fun _ => rfl | (intro h; cases h)) (⟨[(0, 1), (1, 1)], by kernel_rfl⟩) (fun _ => eqt43) (fun p h => by cases h)
theorem tok48 : Tok Tryz.prog 48 ⟨.slice 52, 1, 24, [.slice none 0 0], false, []⟩ := tok_of (.slice none 0 0) (by kernel_rfl) (by kernel_rfl) rfl (by first | exact fun _ => rfl | (intro h; cases h)) rfl (by first | exact fun _ => rfl | (intro h; cases h)) (trivial) (fun h => by cases h) (fun p h => by cases h)
theorem eqt51 : EqT Tryz.prog 51 2 := eqT_struct (by kernel_rfl) Tryz.underlying51 (by kernel_rfl) ⟨rfl, by kernel_rfl, rfl, rfl, by kernel_rfl, rfl, rfl⟩
theorem tok51 : Tok Tryz.prog 51 ⟨.struct #[⟨"Kernel", 3, 0, false, "", "", 0⟩, ⟨"H", 3, 1, false, "", "", 8⟩], 2, 16, [.int .i64 0, .int .i64 0], true, []⟩ := tok_of (.agg #[.int .i64 0, .int .i64 0]) (by kernel_rfl) (by kernel_rfl) rfl (by first | exact fun _ => rfl | (intro h; cases h)) rfl (by first | exact fun _ => rfl | (intro h; cases h)) (⟨[(0, 1), (1, 1)], by kernel_rfl⟩) (fun _ => eqt51) (fun p h => by cases h)
theorem eqt52 : EqT Tryz.prog 52 2 := eqT_struct (by kernel_rfl) Tryz.underlying52 (by kernel_rfl) ⟨rfl, by kernel_rfl, rfl, rfl, by kernel_rfl, rfl, rfl⟩
theorem tok52 : Tok Tryz.prog 52 ⟨.struct #[⟨"Kernel", 3, 0, false, "", "", 0⟩, ⟨"H", 3, 1, false, "", "", 8⟩], 2, 16, [.int .i64 0, .int .i64 0], true, []⟩ := tok_of (.agg #[.int .i64 0, .int .i64 0]) (by kernel_rfl) (by kernel_rfl) rfl (by first | exact fun _ => rfl | (intro h; cases h)) rfl (by first | exact fun _ => rfl | (intro h; cases h)) (⟨[(0, 1), (1, 1)], by kernel_rfl⟩) (fun _ => eqt52) (fun p h => by cases h)
theorem tok64 : Tok Tryz.prog 64 ⟨.slice 107, 1, 24, [.slice none 0 0], false, []⟩ := tok_of (.slice none 0 0) (by kernel_rfl) (by kernel_rfl) rfl (by first | exact fun _ => rfl | (intro h; cases h)) rfl (by first | exact fun _ => rfl | (intro h; cases h)) (trivial) (fun h => by cases h) (fun p h => by cases h)
theorem tok66 : Tok Tryz.prog 66 ⟨.slice 28, 1, 24, [.slice none 0 0], false, []⟩ := tok_of (.slice none 0 0) (by kernel_rfl) (by kernel_rfl) rfl (by first | exact fun _ => rfl | (intro h; cases h)) rfl (by first | exact fun _ => rfl | (intro h; cases h)) (trivial) (fun h => by cases h) (fun p h => by cases h)
theorem tok69 : Tok Tryz.prog 69 ⟨.struct #[⟨"X", 22, 0, false, "", "", 0⟩, ⟨"E", 66, 1, false, "", "", 24⟩], 2, 48, [.slice none 0 0, .slice none 0 0], false, []⟩ := tok_of (.agg #[.slice none 0 0, .slice none 0 0]) (by kernel_rfl) (by kernel_rfl) rfl (by first | exact fun _ => rfl | (intro h; cases h)) rfl (by first | exact fun _ => rfl | (intro h; cases h)) (⟨[(0, 1), (1, 1)], by kernel_rfl⟩) (fun h => by cases h) (fun p h => by cases h)
theorem tok70 : Tok Tryz.prog 70 ⟨.struct #[⟨"X", 22, 0, false, "", "", 0⟩, ⟨"E", 66, 1, false, "", "", 24⟩], 2, 48, [.slice none 0 0, .slice none 0 0], false, []⟩ := tok_of (.agg #[.slice none 0 0, .slice none 0 0]) (by kernel_rfl) (by kernel_rfl) rfl (by first | exact fun _ => rfl | (intro h; cases h)) rfl (by first | exact fun _ => rfl | (intro h; cases h)) (⟨[(0, 1), (1, 1)], by kernel_rfl⟩) (fun h => by cases h) (fun p h => by cases h)
theorem tok76 : Tok Tryz.prog 76 ⟨.interface #[("headroom/fft.first", 91), ("headroom/fft.pass", 121)], 1, 16, [.nilIface], false, []⟩ := tok_of (.nilIface) (by kernel_rfl) (by kernel_rfl) rfl (by first | exact fun _ => rfl | (intro h; cases h)) rfl (by first | exact fun _ => rfl | (intro h; cases h)) (trivial) (fun h => by cases h) (fun p h => by cases h)
theorem tok77 : Tok Tryz.prog 77 ⟨.interface #[("headroom/fft.first", 91), ("headroom/fft.pass", 121)], 1, 16, [.nilIface], false, []⟩ := tok_of (.nilIface) (by kernel_rfl) (by kernel_rfl) rfl (by first | exact fun _ => rfl | (intro h; cases h)) rfl (by first | exact fun _ => rfl | (intro h; cases h)) (trivial) (fun h => by cases h) (fun p h => by cases h)
theorem tok78 : Tok Tryz.prog 78 ⟨.struct #[⟨"p", 24, 0, false, "", "headroom/fft", 0⟩, ⟨"s", 77, 6, false, "", "headroom/fft", 48⟩, ⟨"bits", 3, 7, false, "", "headroom/fft", 64⟩, ⟨"w", 22, 8, false, "", "headroom/fft", 72⟩], 9, 96, [.int .i64 0, .int .i64 0, .int .i64 0, .int .i64 0, .int .i64 0, .bool false, .nilIface, .int .i64 0, .slice none 0 0], false, []⟩ := tok_of (.agg #[.int .i64 0, .int .i64 0, .int .i64 0, .int .i64 0, .int .i64 0, .bool false, .nilIface, .int .i64 0, .slice none 0 0]) (by kernel_rfl) (by kernel_rfl) rfl (by first | exact fun _ => rfl | (intro h; cases h)) rfl (by first | exact fun _ => rfl | (intro h; cases h)) (⟨[(0, 6), (6, 1), (7, 1), (8, 1)], by kernel_rfl⟩) (fun h => by cases h) (fun p h => by cases h)
theorem meth79_0 : MethT Tryz.prog 79 "headroom/fft.first" 52 := meth_of (d := .struct #[⟨"p", 24, 0, false, "", "headroom/fft", 0⟩, ⟨"s", 77, 6, false, "", "headroom/fft", 48⟩, ⟨"bits", 3, 7, false, "", "headroom/fft", 64⟩, ⟨"w", 22, 8, false, "", "headroom/fft", 72⟩]) (by kernel_rfl) (fun e h => by cases h) (by kernel_rfl)
theorem tok79 : Tok Tryz.prog 79 ⟨.struct #[⟨"p", 24, 0, false, "", "headroom/fft", 0⟩, ⟨"s", 77, 6, false, "", "headroom/fft", 48⟩, ⟨"bits", 3, 7, false, "", "headroom/fft", 64⟩, ⟨"w", 22, 8, false, "", "headroom/fft", 72⟩], 9, 96, [.int .i64 0, .int .i64 0, .int .i64 0, .int .i64 0, .int .i64 0, .bool false, .nilIface, .int .i64 0, .slice none 0 0], false, [("headroom/fft.first", 52)]⟩ := tok_of (.agg #[.int .i64 0, .int .i64 0, .int .i64 0, .int .i64 0, .int .i64 0, .bool false, .nilIface, .int .i64 0, .slice none 0 0]) (by kernel_rfl) (by kernel_rfl) rfl (by first | exact fun _ => rfl | (intro h; cases h)) rfl (by first | exact fun _ => rfl | (intro h; cases h)) (⟨[(0, 6), (6, 1), (7, 1), (8, 1)], by kernel_rfl⟩) (fun h => by cases h) (fun p h => by simp only [List.mem_cons, List.not_mem_nil, or_false] at h; rcases h with rfl; exact meth79_0)
theorem tok104 : Tok Tryz.prog 104 ⟨.slice 149, 1, 24, [.slice none 0 0], false, []⟩ := tok_of (.slice none 0 0) (by kernel_rfl) (by kernel_rfl) rfl (by first | exact fun _ => rfl | (intro h; cases h)) rfl (by first | exact fun _ => rfl | (intro h; cases h)) (trivial) (fun h => by cases h) (fun p h => by cases h)
theorem tok106 : Tok Tryz.prog 106 ⟨.struct #[⟨"X", 22, 0, false, "", "", 0⟩, ⟨"W", 22, 1, false, "", "", 24⟩, ⟨"Plan", 24, 2, false, "", "", 48⟩], 8, 96, [.slice none 0 0, .slice none 0 0, .int .i64 0, .int .i64 0, .int .i64 0, .int .i64 0, .int .i64 0, .bool false], false, []⟩ := tok_of (.agg #[.slice none 0 0, .slice none 0 0, .int .i64 0, .int .i64 0, .int .i64 0, .int .i64 0, .int .i64 0, .bool false]) (by kernel_rfl) (by kernel_rfl) rfl (by first | exact fun _ => rfl | (intro h; cases h)) rfl (by first | exact fun _ => rfl | (intro h; cases h)) (⟨[(0, 1), (1, 1), (2, 6)], by kernel_rfl⟩) (fun h => by cases h) (fun p h => by cases h)
theorem tok107 : Tok Tryz.prog 107 ⟨.struct #[⟨"X", 22, 0, false, "", "", 0⟩, ⟨"W", 22, 1, false, "", "", 24⟩, ⟨"Plan", 24, 2, false, "", "", 48⟩], 8, 96, [.slice none 0 0, .slice none 0 0, .int .i64 0, .int .i64 0, .int .i64 0, .int .i64 0, .int .i64 0, .bool false], false, []⟩ := tok_of (.agg #[.slice none 0 0, .slice none 0 0, .int .i64 0, .int .i64 0, .int .i64 0, .int .i64 0, .int .i64 0, .bool false]) (by kernel_rfl) (by kernel_rfl) rfl (by first | exact fun _ => rfl | (intro h; cases h)) rfl (by first | exact fun _ => rfl | (intro h; cases h)) (⟨[(0, 1), (1, 1), (2, 6)], by kernel_rfl⟩) (fun h => by cases h) (fun p h => by cases h)
theorem tok110 : Tok Tryz.prog 110 ⟨.func #[43] #[4] false, 1, 8, [.nilFunc], false, []⟩ := tok_of (.nilFunc) (by kernel_rfl) (by kernel_rfl) rfl (by first | exact fun _ => rfl | (intro h; cases h)) rfl (by first | exact fun _ => rfl | (intro h; cases h)) (trivial) (fun h => by cases h) (fun p h => by cases h)
theorem tok113 : Tok Tryz.prog 113 ⟨.struct #[⟨"w", 22, 0, false, "", "headroom/split", 0⟩, ⟨"bits", 3, 1, false, "", "headroom/split", 24⟩, ⟨"mode", 3, 2, false, "", "headroom/split", 32⟩, ⟨"turn", 3, 3, false, "", "headroom/split", 40⟩], 4, 48, [.slice none 0 0, .int .i64 0, .int .i64 0, .int .i64 0], false, []⟩ := tok_of (.agg #[.slice none 0 0, .int .i64 0, .int .i64 0, .int .i64 0]) (by kernel_rfl) (by kernel_rfl) rfl (by first | exact fun _ => rfl | (intro h; cases h)) rfl (by first | exact fun _ => rfl | (intro h; cases h)) (⟨[(0, 1), (1, 1), (2, 1), (3, 1)], by kernel_rfl⟩) (fun h => by cases h) (fun p h => by cases h)
theorem tok114 : Tok Tryz.prog 114 ⟨.struct #[⟨"w", 22, 0, false, "", "headroom/split", 0⟩, ⟨"bits", 3, 1, false, "", "headroom/split", 24⟩, ⟨"mode", 3, 2, false, "", "headroom/split", 32⟩, ⟨"turn", 3, 3, false, "", "headroom/split", 40⟩], 4, 48, [.slice none 0 0, .int .i64 0, .int .i64 0, .int .i64 0], false, []⟩ := tok_of (.agg #[.slice none 0 0, .int .i64 0, .int .i64 0, .int .i64 0]) (by kernel_rfl) (by kernel_rfl) rfl (by first | exact fun _ => rfl | (intro h; cases h)) rfl (by first | exact fun _ => rfl | (intro h; cases h)) (⟨[(0, 1), (1, 1), (2, 1), (3, 1)], by kernel_rfl⟩) (fun h => by cases h) (fun p h => by cases h)
theorem tok115 : Tok Tryz.prog 115 ⟨.struct #[], 0, 0, [], false, []⟩ := tok_of (.agg #[]) (by kernel_rfl) (by kernel_rfl) rfl (by first | exact fun _ => rfl | (intro h; cases h)) rfl (by first | exact fun _ => rfl | (intro h; cases h)) (⟨[], by kernel_rfl⟩) (fun h => by cases h) (fun p h => by cases h)
theorem meth116_0 : MethT Tryz.prog 116 "headroom/fft.first" 207 := meth_of (d := .struct #[]) (by kernel_rfl) (fun e h => by cases h) (by kernel_rfl)
theorem meth116_1 : MethT Tryz.prog 116 "headroom/fft.pass" 208 := meth_of (d := .struct #[]) (by kernel_rfl) (fun e h => by cases h) (by kernel_rfl)
theorem tok116 : Tok Tryz.prog 116 ⟨.struct #[], 0, 0, [], false, [("headroom/fft.first", 207), ("headroom/fft.pass", 208)]⟩ := tok_of (.agg #[]) (by kernel_rfl) (by kernel_rfl) rfl (by first | exact fun _ => rfl | (intro h; cases h)) rfl (by first | exact fun _ => rfl | (intro h; cases h)) (⟨[], by kernel_rfl⟩) (fun h => by cases h) (fun p h => by simp only [List.mem_cons, List.not_mem_nil, or_false] at h; rcases h with rfl | rfl; exact meth116_0; exact meth116_1)
theorem eqt117 : EqT Tryz.prog 117 1 := eqT_struct (by kernel_rfl) Tryz.underlying117 (by kernel_rfl) ⟨rfl, by kernel_rfl, rfl, rfl⟩
theorem tok117 : Tok Tryz.prog 117 ⟨.struct #[⟨"format", 3, 0, false, "", "headroom/fft", 0⟩], 1, 8, [.int .i64 0], true, []⟩ := tok_of (.agg #[.int .i64 0]) (by kernel_rfl) (by kernel_rfl) rfl (by first | exact fun _ => rfl | (intro h; cases h)) rfl (by first | exact fun _ => rfl | (intro h; cases h)) (⟨[(0, 1)], by kernel_rfl⟩) (fun _ => eqt117) (fun p h => by cases h)
theorem meth118_0 : MethT Tryz.prog 118 "headroom/fft.first" 209 := meth_of (d := .struct #[⟨"format", 3, 0, false, "", "headroom/fft", 0⟩]) (by kernel_rfl) (fun e h => by cases h) (by kernel_rfl)
theorem meth118_1 : MethT Tryz.prog 118 "headroom/fft.pass" 210 := meth_of (d := .struct #[⟨"format", 3, 0, false, "", "headroom/fft", 0⟩]) (by kernel_rfl) (fun e h => by cases h) (by kernel_rfl)
theorem eqt118 : EqT Tryz.prog 118 1 := eqT_struct (by kernel_rfl) Tryz.underlying118 (by kernel_rfl) ⟨rfl, by kernel_rfl, rfl, rfl⟩
theorem tok118 : Tok Tryz.prog 118 ⟨.struct #[⟨"format", 3, 0, false, "", "headroom/fft", 0⟩], 1, 8, [.int .i64 0], true, [("headroom/fft.first", 209), ("headroom/fft.pass", 210)]⟩ := tok_of (.agg #[.int .i64 0]) (by kernel_rfl) (by kernel_rfl) rfl (by first | exact fun _ => rfl | (intro h; cases h)) rfl (by first | exact fun _ => rfl | (intro h; cases h)) (⟨[(0, 1)], by kernel_rfl⟩) (fun _ => eqt118) (fun p h => by simp only [List.mem_cons, List.not_mem_nil, or_false] at h; rcases h with rfl | rfl; exact meth118_0; exact meth118_1)
theorem meth119_0 : MethT Tryz.prog 119 "headroom/fft.first" 212 := meth_of (d := .struct #[]) (by kernel_rfl) (fun e h => by cases h) (by kernel_rfl)
theorem meth119_1 : MethT Tryz.prog 119 "headroom/fft.pass" 213 := meth_of (d := .struct #[]) (by kernel_rfl) (fun e h => by cases h) (by kernel_rfl)
theorem tok119 : Tok Tryz.prog 119 ⟨.struct #[], 0, 0, [], false, [("headroom/fft.first", 212), ("headroom/fft.pass", 213)]⟩ := tok_of (.agg #[]) (by kernel_rfl) (by kernel_rfl) rfl (by first | exact fun _ => rfl | (intro h; cases h)) rfl (by first | exact fun _ => rfl | (intro h; cases h)) (⟨[], by kernel_rfl⟩) (fun h => by cases h) (fun p h => by simp only [List.mem_cons, List.not_mem_nil, or_false] at h; rcases h with rfl | rfl; exact meth119_0; exact meth119_1)
theorem tok128 : Tok Tryz.prog 128 ⟨.struct #[⟨"U", 43, 0, false, "", "", 0⟩, ⟨"V", 43, 2, false, "", "", 16⟩, ⟨"Y", 43, 4, false, "", "", 32⟩, ⟨"Z", 43, 6, false, "", "", 48⟩, ⟨"W", 43, 8, false, "", "", 64⟩, ⟨"W3", 43, 10, false, "", "", 80⟩], 12, 96, [.int .i64 0, .int .i64 0, .int .i64 0, .int .i64 0, .int .i64 0, .int .i64 0, .int .i64 0, .int .i64 0, .int .i64 0, .int .i64 0, .int .i64 0, .int .i64 0], false, []⟩ := tok_of (.agg #[.int .i64 0, .int .i64 0, .int .i64 0, .int .i64 0, .int .i64 0, .int .i64 0, .int .i64 0, .int .i64 0, .int .i64 0, .int .i64 0, .int .i64 0, .int .i64 0]) (by kernel_rfl) (by kernel_rfl) rfl (by first | exact fun _ => rfl | (intro h; cases h)) rfl (by first | exact fun _ => rfl | (intro h; cases h)) (⟨[(0, 2), (2, 2), (4, 2), (6, 2), (8, 2), (10, 2)], by kernel_rfl⟩) (fun h => by cases h) (fun p h => by cases h)
theorem tok129 : Tok Tryz.prog 129 ⟨.struct #[⟨"U", 43, 0, false, "", "", 0⟩, ⟨"V", 43, 2, false, "", "", 16⟩, ⟨"Y", 43, 4, false, "", "", 32⟩, ⟨"Z", 43, 6, false, "", "", 48⟩, ⟨"W", 43, 8, false, "", "", 64⟩, ⟨"W3", 43, 10, false, "", "", 80⟩], 12, 96, [.int .i64 0, .int .i64 0, .int .i64 0, .int .i64 0, .int .i64 0, .int .i64 0, .int .i64 0, .int .i64 0, .int .i64 0, .int .i64 0, .int .i64 0, .int .i64 0], false, []⟩ := tok_of (.agg #[.int .i64 0, .int .i64 0, .int .i64 0, .int .i64 0, .int .i64 0, .int .i64 0, .int .i64 0, .int .i64 0, .int .i64 0, .int .i64 0, .int .i64 0, .int .i64 0]) (by kernel_rfl) (by kernel_rfl) rfl (by first | exact fun _ => rfl | (intro h; cases h)) rfl (by first | exact fun _ => rfl | (intro h; cases h)) (⟨[(0, 2), (2, 2), (4, 2), (6, 2), (8, 2), (10, 2)], by kernel_rfl⟩) (fun h => by cases h) (fun p h => by cases h)
theorem tok134 : Tok Tryz.prog 134 ⟨.slice 138, 1, 24, [.slice none 0 0], false, []⟩ := tok_of (.slice none 0 0) (by kernel_rfl) (by kernel_rfl) rfl (by first | exact fun _ => rfl | (intro h; cases h)) rfl (by first | exact fun _ => rfl | (intro h; cases h)) (trivial) (fun h => by cases h) (fun p h => by cases h)
theorem tok136 : Tok Tryz.prog 136 ⟨.func #[3, 3, 4] #[4] false, 1, 8, [.nilFunc], false, []⟩ := tok_of (.nilFunc) (by kernel_rfl) (by kernel_rfl) rfl (by first | exact fun _ => rfl | (intro h; cases h)) rfl (by first | exact fun _ => rfl | (intro h; cases h)) (trivial) (fun h => by cases h) (fun p h => by cases h)
theorem tok137 : Tok Tryz.prog 137 ⟨.struct #[⟨"up", 136, 0, false, "", "headroom/round", 0⟩], 1, 8, [.nilFunc], false, []⟩ := tok_of (.agg #[.nilFunc]) (by kernel_rfl) (by kernel_rfl) rfl (by first | exact fun _ => rfl | (intro h; cases h)) rfl (by first | exact fun _ => rfl | (intro h; cases h)) (⟨[(0, 1)], by kernel_rfl⟩) (fun h => by cases h) (fun p h => by cases h)
theorem tok138 : Tok Tryz.prog 138 ⟨.struct #[⟨"up", 136, 0, false, "", "headroom/round", 0⟩], 1, 8, [.nilFunc], false, []⟩ := tok_of (.agg #[.nilFunc]) (by kernel_rfl) (by kernel_rfl) rfl (by first | exact fun _ => rfl | (intro h; cases h)) rfl (by first | exact fun _ => rfl | (intro h; cases h)) (⟨[(0, 1)], by kernel_rfl⟩) (fun h => by cases h) (fun p h => by cases h)
theorem tok141 : Tok Tryz.prog 141 ⟨.struct #[⟨"A", 43, 0, false, "", "", 0⟩, ⟨"B", 43, 2, false, "", "", 16⟩, ⟨"C", 43, 4, false, "", "", 32⟩, ⟨"D", 43, 6, false, "", "", 48⟩], 8, 64, [.int .i64 0, .int .i64 0, .int .i64 0, .int .i64 0, .int .i64 0, .int .i64 0, .int .i64 0, .int .i64 0], false, []⟩ := tok_of (.agg #[.int .i64 0, .int .i64 0, .int .i64 0, .int .i64 0, .int .i64 0, .int .i64 0, .int .i64 0, .int .i64 0]) (by kernel_rfl) (by kernel_rfl) rfl (by first | exact fun _ => rfl | (intro h; cases h)) rfl (by first | exact fun _ => rfl | (intro h; cases h)) (⟨[(0, 2), (2, 2), (4, 2), (6, 2)], by kernel_rfl⟩) (fun h => by cases h) (fun p h => by cases h)
theorem tok142 : Tok Tryz.prog 142 ⟨.struct #[⟨"A", 43, 0, false, "", "", 0⟩, ⟨"B", 43, 2, false, "", "", 16⟩, ⟨"C", 43, 4, false, "", "", 32⟩, ⟨"D", 43, 6, false, "", "", 48⟩], 8, 64, [.int .i64 0, .int .i64 0, .int .i64 0, .int .i64 0, .int .i64 0, .int .i64 0, .int .i64 0, .int .i64 0], false, []⟩ := tok_of (.agg #[.int .i64 0, .int .i64 0, .int .i64 0, .int .i64 0, .int .i64 0, .int .i64 0, .int .i64 0, .int .i64 0]) (by kernel_rfl) (by kernel_rfl) rfl (by first | exact fun _ => rfl | (intro h; cases h)) rfl (by first | exact fun _ => rfl | (intro h; cases h)) (⟨[(0, 2), (2, 2), (4, 2), (6, 2)], by kernel_rfl⟩) (fun h => by cases h) (fun p h => by cases h)
theorem tok145 : Tok Tryz.prog 145 ⟨.struct #[⟨"X", 3, 0, false, "", "", 0⟩, ⟨"Is", 4, 1, false, "", "", 8⟩, ⟨"E", 28, 2, false, "", "", 16⟩], 3, 24, [.int .i64 0, .bool false, .int .i64 0], false, []⟩ := tok_of (.agg #[.int .i64 0, .bool false, .int .i64 0]) (by kernel_rfl) (by kernel_rfl) rfl (by first | exact fun _ => rfl | (intro h; cases h)) rfl (by first | exact fun _ => rfl | (intro h; cases h)) (⟨[(0, 1), (1, 1), (2, 1)], by kernel_rfl⟩) (fun h => by cases h) (fun p h => by cases h)
theorem tok146 : Tok Tryz.prog 146 ⟨.struct #[⟨"X", 3, 0, false, "", "", 0⟩, ⟨"Is", 4, 1, false, "", "", 8⟩, ⟨"E", 28, 2, false, "", "", 16⟩], 3, 24, [.int .i64 0, .bool false, .int .i64 0], false, []⟩ := tok_of (.agg #[.int .i64 0, .bool false, .int .i64 0]) (by kernel_rfl) (by kernel_rfl) rfl (by first | exact fun _ => rfl | (intro h; cases h)) rfl (by first | exact fun _ => rfl | (intro h; cases h)) (⟨[(0, 1), (1, 1), (2, 1)], by kernel_rfl⟩) (fun h => by cases h) (fun p h => by cases h)
theorem tok148 : Tok Tryz.prog 148 ⟨.struct #[⟨"error", 28, 0, false, "", "headroom/call", 0⟩, ⟨"is", 32, 1, false, "", "headroom/call", 8⟩], 2, 16, [.int .i64 0, .nilFunc], false, []⟩ := tok_of (.agg #[.int .i64 0, .nilFunc]) (by kernel_rfl) (by kernel_rfl) rfl (by first | exact fun _ => rfl | (intro h; cases h)) rfl (by first | exact fun _ => rfl | (intro h; cases h)) (⟨[(0, 1), (1, 1)], by kernel_rfl⟩) (fun h => by cases h) (fun p h => by cases h)
theorem tok149 : Tok Tryz.prog 149 ⟨.struct #[⟨"error", 28, 0, false, "", "headroom/call", 0⟩, ⟨"is", 32, 1, false, "", "headroom/call", 8⟩], 2, 16, [.int .i64 0, .nilFunc], false, []⟩ := tok_of (.agg #[.int .i64 0, .nilFunc]) (by kernel_rfl) (by kernel_rfl) rfl (by first | exact fun _ => rfl | (intro h; cases h)) rfl (by first | exact fun _ => rfl | (intro h; cases h)) (⟨[(0, 1), (1, 1)], by kernel_rfl⟩) (fun h => by cases h) (fun p h => by cases h)
theorem tok152 : Tok Tryz.prog 152 ⟨.func #[110] #[] false, 1, 8, [.nilFunc], false, []⟩ := tok_of (.nilFunc) (by kernel_rfl) (by kernel_rfl) rfl (by first | exact fun _ => rfl | (intro h; cases h)) rfl (by first | exact fun _ => rfl | (intro h; cases h)) (trivial) (fun h => by cases h) (fun p h => by cases h)
theorem tok153 : Tok Tryz.prog 153 ⟨.func #[110] #[] false, 1, 8, [.nilFunc], false, []⟩ := tok_of (.nilFunc) (by kernel_rfl) (by kernel_rfl) rfl (by first | exact fun _ => rfl | (intro h; cases h)) rfl (by first | exact fun _ => rfl | (intro h; cases h)) (trivial) (fun h => by cases h) (fun p h => by cases h)
theorem eqt155 : EqT Tryz.prog 155 8 := eqT_array (e := 43) (c := 2) (m := 4) (by kernel_rfl) Tryz.underlying155 Tryz.underlying43 rfl (by kernel_rfl) (eqT_small Tryz.underlying43 (by kernel_rfl) ⟨rfl, by kernel_rfl, rfl, rfl, by kernel_rfl, rfl, rfl⟩)
theorem tok155 : Tok Tryz.prog 155 ⟨.array 4 43, 8, 64, [.int .i64 0, .int .i64 0, .int .i64 0, .int .i64 0, .int .i64 0, .int .i64 0, .int .i64 0, .int .i64 0], true, []⟩ := tok_of (.agg #[.int .i64 0, .int .i64 0, .int .i64 0, .int .i64 0, .int .i64 0, .int .i64 0, .int .i64 0, .int .i64 0]) (by kernel_rfl) (by kernel_rfl) rfl (by first | exact fun _ => rfl | (intro h; cases h)) rfl (by first | exact fun _ => rfl | (intro h; cases h)) (some_of (by kernel_rfl)) (fun _ => eqt155) (fun p h => by cases h)
theorem tok157 : Tok Tryz.prog 157 ⟨.func #[3] #[43] false, 1, 8, [.nilFunc], false, []⟩ := tok_of (.nilFunc) (by kernel_rfl) (by kernel_rfl) rfl (by first | exact fun _ => rfl | (intro h; cases h)) rfl (by first | exact fun _ => rfl | (intro h; cases h)) (trivial) (fun h => by cases h) (fun p h => by cases h)
theorem tok168 : Tok Tryz.prog 168 ⟨.struct #[⟨"A", 25, 0, false, "", "", 0⟩, ⟨"K", 3, 1, false, "", "", 24⟩], 2, 32, [.slice none 0 0, .int .i64 0], false, []⟩ := tok_of (.agg #[.slice none 0 0, .int .i64 0]) (by kernel_rfl) (by kernel_rfl) rfl (by first | exact fun _ => rfl | (intro h; cases h)) rfl (by first | exact fun _ => rfl | (intro h; cases h)) (⟨[(0, 1), (1, 1)], by kernel_rfl⟩) (fun h => by cases h) (fun p h => by cases h)
theorem tok169 : Tok Tryz.prog 169 ⟨.struct #[⟨"A", 25, 0, false, "", "", 0⟩, ⟨"K", 3, 1, false, "", "", 24⟩], 2, 32, [.slice none 0 0, .int .i64 0], false, []⟩ := tok_of (.agg #[.slice none 0 0, .int .i64 0]) (by kernel_rfl) (by kernel_rfl) rfl (by first | exact fun _ => rfl | (intro h; cases h)) rfl (by first | exact fun _ => rfl | (intro h; cases h)) (⟨[(0, 1), (1, 1)], by kernel_rfl⟩) (fun h => by cases h) (fun p h => by cases h)
theorem tok182 : Tok Tryz.prog 182 ⟨.func #[] #[43] false, 1, 8, [.nilFunc], false, []⟩ := tok_of (.nilFunc) (by kernel_rfl) (by kernel_rfl) rfl (by first | exact fun _ => rfl | (intro h; cases h)) rfl (by first | exact fun _ => rfl | (intro h; cases h)) (trivial) (fun h => by cases h) (fun p h => by cases h)
theorem eqt189 : EqT Tryz.prog 189 4 := eqT_ints (e := 3) (by kernel_rfl) Tryz.underlying189 Tryz.underlying3 (by kernel_rfl)
theorem tok189 : Tok Tryz.prog 189 ⟨.array 4 3, 4, 32, [.int .i64 0, .int .i64 0, .int .i64 0, .int .i64 0], true, []⟩ := tok_of (.agg #[.int .i64 0, .int .i64 0, .int .i64 0, .int .i64 0]) (by kernel_rfl) (by kernel_rfl) rfl (by first | exact fun _ => rfl | (intro h; cases h)) rfl (by first | exact fun _ => rfl | (intro h; cases h)) (some_of (by kernel_rfl)) (fun _ => eqt189) (fun p h => by cases h)
theorem tok193 : Tok Tryz.prog 193 ⟨.struct #[⟨"P", 43, 0, false, "", "", 0⟩, ⟨"Left", 3, 2, false, "", "", 16⟩], 3, 24, [.int .i64 0, .int .i64 0, .int .i64 0], false, []⟩ := tok_of (.agg #[.int .i64 0, .int .i64 0, .int .i64 0]) (by kernel_rfl) (by kernel_rfl) rfl (by first | exact fun _ => rfl | (intro h; cases h)) rfl (by first | exact fun _ => rfl | (intro h; cases h)) (⟨[(0, 2), (2, 1)], by kernel_rfl⟩) (fun h => by cases h) (fun p h => by cases h)
theorem tok194 : Tok Tryz.prog 194 ⟨.struct #[⟨"P", 43, 0, false, "", "", 0⟩, ⟨"Left", 3, 2, false, "", "", 16⟩], 3, 24, [.int .i64 0, .int .i64 0, .int .i64 0], false, []⟩ := tok_of (.agg #[.int .i64 0, .int .i64 0, .int .i64 0]) (by kernel_rfl) (by kernel_rfl) rfl (by first | exact fun _ => rfl | (intro h; cases h)) rfl (by first | exact fun _ => rfl | (intro h; cases h)) (⟨[(0, 2), (2, 1)], by kernel_rfl⟩) (fun h => by cases h) (fun p h => by cases h)
theorem tok198 : Tok Tryz.prog 198 ⟨.func #[] #[3, 28] false, 1, 8, [.nilFunc], false, []⟩ := tok_of (.nilFunc) (by kernel_rfl) (by kernel_rfl) rfl (by first | exact fun _ => rfl | (intro h; cases h)) rfl (by first | exact fun _ => rfl | (intro h; cases h)) (trivial) (fun h => by cases h) (fun p h => by cases h)
theorem eqt205 : EqT Tryz.prog 205 2 := eqT_ints (e := 3) (by kernel_rfl) Tryz.underlying205 Tryz.underlying3 (by kernel_rfl)
theorem tok205 : Tok Tryz.prog 205 ⟨.array 2 3, 2, 16, [.int .i64 0, .int .i64 0], true, []⟩ := tok_of (.agg #[.int .i64 0, .int .i64 0]) (by kernel_rfl) (by kernel_rfl) rfl (by first | exact fun _ => rfl | (intro h; cases h)) rfl (by first | exact fun _ => rfl | (intro h; cases h)) (some_of (by kernel_rfl)) (fun _ => eqt205) (fun p h => by cases h)
theorem tok209 : Tok Tryz.prog 209 ⟨.array 45 3, 45, 360, [.int .i64 0, .int .i64 0, .int .i64 0, .int .i64 0, .int .i64 0, .int .i64 0, .int .i64 0, .int .i64 0, .int .i64 0, .int .i64 0, .int .i64 0, .int .i64 0, .int .i64 0, .int .i64 0, .int .i64 0, .int .i64 0, .int .i64 0, .int .i64 0, .int .i64 0, .int .i64 0, .int .i64 0, .int .i64 0, .int .i64 0, .int .i64 0, .int .i64 0, .int .i64 0, .int .i64 0, .int .i64 0, .int .i64 0, .int .i64 0, .int .i64 0, .int .i64 0, .int .i64 0, .int .i64 0, .int .i64 0, .int .i64 0, .int .i64 0, .int .i64 0, .int .i64 0, .int .i64 0, .int .i64 0, .int .i64 0, .int .i64 0, .int .i64 0, .int .i64 0], false, []⟩ := tok_of (.agg #[.int .i64 0, .int .i64 0, .int .i64 0, .int .i64 0, .int .i64 0, .int .i64 0, .int .i64 0, .int .i64 0, .int .i64 0, .int .i64 0, .int .i64 0, .int .i64 0, .int .i64 0, .int .i64 0, .int .i64 0, .int .i64 0, .int .i64 0, .int .i64 0, .int .i64 0, .int .i64 0, .int .i64 0, .int .i64 0, .int .i64 0, .int .i64 0, .int .i64 0, .int .i64 0, .int .i64 0, .int .i64 0, .int .i64 0, .int .i64 0, .int .i64 0, .int .i64 0, .int .i64 0, .int .i64 0, .int .i64 0, .int .i64 0, .int .i64 0, .int .i64 0, .int .i64 0, .int .i64 0, .int .i64 0, .int .i64 0, .int .i64 0, .int .i64 0, .int .i64 0]) (by kernel_rfl) (by kernel_rfl) rfl (by first | exact fun _ => rfl | (intro h; cases h)) rfl (by first | exact fun _ => rfl | (intro h; cases h)) (some_of (by kernel_rfl)) (fun h => by cases h) (fun p h => by cases h)
theorem tok : TOk Tryz.prog tt := tok_list (tok_cons tok3 (tok_cons tok4 (tok_cons tok20 (tok_cons tok22 (tok_cons tok23 (tok_cons tok24 (tok_cons tok25 (tok_cons tok26 (tok_cons tok27 (tok_cons tok28 (tok_cons tok32 (tok_cons tok42 (tok_cons tok43 (tok_cons tok48 (tok_cons tok51 (tok_cons tok52 (tok_cons tok64 (tok_cons tok66 (tok_cons tok69 (tok_cons tok70 (tok_cons tok76 (tok_cons tok77 (tok_cons tok78 (tok_cons tok79 (tok_cons tok104 (tok_cons tok106 (tok_cons tok107 (tok_cons tok110 (tok_cons tok113 (tok_cons tok114 (tok_cons tok115 (tok_cons tok116 (tok_cons tok117 (tok_cons tok118 (tok_cons tok119 (tok_cons tok128 (tok_cons tok129 (tok_cons tok134 (tok_cons tok136 (tok_cons tok137 (tok_cons tok138 (tok_cons tok141 (tok_cons tok142 (tok_cons tok145 (tok_cons tok146 (tok_cons tok148 (tok_cons tok149 (tok_cons tok152 (tok_cons tok153 (tok_cons tok155 (tok_cons tok157 (tok_cons tok168 (tok_cons tok169 (tok_cons tok182 (tok_cons tok189 (tok_cons tok193 (tok_cons tok194 (tok_cons tok198 (tok_cons tok205 (tok_cons tok209 (tok_nil)))))))))))))))))))))))))))))))))))))))))))))))))))))))))))))
theorem follows : Tryz.prog.follows .mixedOrders = true := by kernel_rfl
theorem ts3 : tSize tt 3 = some (false, 1) := rfl
theorem tz3 : tZero tt 3 = some [.raw (.int .i64 0)] := rfl
theorem ti3 : tInt tt 3 = some .i64 := rfl
theorem tb3 : tBool tt 3 = false := rfl
theorem te3 : tEq tt 3 = none := rfl
theorem tq3 : tSl tt 3 = false := rfl
theorem ts4 : tSize tt 4 = some (false, 1) := rfl
theorem tz4 : tZero tt 4 = some [.raw (.bool false)] := rfl
theorem tb4 : tBool tt 4 = true := rfl
theorem te4 : tEq tt 4 = none := rfl
theorem tq4 : tSl tt 4 = false := rfl
theorem ts20 : tSize tt 20 = some (false, 1) := rfl
theorem tz20 : tZero tt 20 = some [.raw (.nilIface)] := rfl
theorem tb20 : tBool tt 20 = false := rfl
theorem te20 : tEq tt 20 = none := rfl
theorem tq20 : tSl tt 20 = false := rfl
theorem ts22 : tSize tt 22 = some (false, 1) := rfl
theorem tz22 : tZero tt 22 = some [.raw (.slice none 0 0)] := rfl
theorem tb22 : tBool tt 22 = false := rfl
theorem te22 : tEq tt 22 = none := rfl
theorem tq22 : tSl tt 22 = true := rfl
theorem tl22 : tSlice tt 22 = some (43, ⟨.struct #[⟨"Re", 3, 0, false, "", "", 0⟩, ⟨"Im", 3, 1, false, "", "", 8⟩], 2, 16, [.int .i64 0, .int .i64 0], true, []⟩) := rfl
theorem ts23 : tSize tt 23 = some (true, 6) := rfl
theorem tz23 : tZero tt 23 = some [.raw (.int .i64 0), .raw (.int .i64 0), .raw (.int .i64 0), .raw (.int .i64 0), .raw (.int .i64 0), .raw (.bool false)] := rfl
theorem tb23 : tBool tt 23 = false := rfl
theorem te23 : tEq tt 23 = none := rfl
theorem tq23 : tSl tt 23 = false := rfl
theorem tf23_0 : tField tt 23 0 = some (0, false, 1) := rfl
theorem tp23_0 : placeOf tt 23 0 = some (0, 1) := rfl
theorem tf23_1 : tField tt 23 1 = some (1, false, 1) := rfl
theorem tp23_1 : placeOf tt 23 1 = some (1, 1) := rfl
theorem tf23_2 : tField tt 23 2 = some (2, false, 1) := rfl
theorem tp23_2 : placeOf tt 23 2 = some (2, 1) := rfl
theorem tf23_3 : tField tt 23 3 = some (3, false, 1) := rfl
theorem tp23_3 : placeOf tt 23 3 = some (3, 1) := rfl
theorem tf23_4 : tField tt 23 4 = some (4, false, 1) := rfl
theorem tp23_4 : placeOf tt 23 4 = some (4, 1) := rfl
theorem tf23_5 : tField tt 23 5 = some (5, false, 1) := rfl
theorem tp23_5 : placeOf tt 23 5 = some (5, 1) := rfl
theorem ts24 : tSize tt 24 = some (true, 6) := rfl
theorem tz24 : tZero tt 24 = some [.raw (.int .i64 0), .raw (.int .i64 0), .raw (.int .i64 0), .raw (.int .i64 0), .raw (.int .i64 0), .raw (.bool false)] := rfl
theorem tb24 : tBool tt 24 = false := rfl
theorem te24 : tEq tt 24 = none := rfl
theorem tq24 : tSl tt 24 = false := rfl
theorem tf24_0 : tField tt 24 0 = some (0, false, 1) := rfl
theorem tp24_0 : placeOf tt 24 0 = some (0, 1) := rfl
theorem tf24_1 : tField tt 24 1 = some (1, false, 1) := rfl
theorem tp24_1 : placeOf tt 24 1 = some (1, 1) := rfl
theorem tf24_2 : tField tt 24 2 = some (2, false, 1) := rfl
theorem tp24_2 : placeOf tt 24 2 = some (2, 1) := rfl
theorem tf24_3 : tField tt 24 3 = some (3, false, 1) := rfl
theorem tp24_3 : placeOf tt 24 3 = some (3, 1) := rfl
theorem tf24_4 : tField tt 24 4 = some (4, false, 1) := rfl
theorem tp24_4 : placeOf tt 24 4 = some (4, 1) := rfl
theorem tf24_5 : tField tt 24 5 = some (5, false, 1) := rfl
theorem tp24_5 : placeOf tt 24 5 = some (5, 1) := rfl
theorem ts25 : tSize tt 25 = some (false, 1) := rfl
theorem tz25 : tZero tt 25 = some [.raw (.slice none 0 0)] := rfl
theorem tb25 : tBool tt 25 = false := rfl
theorem te25 : tEq tt 25 = none := rfl
theorem tq25 : tSl tt 25 = true := rfl
theorem tl25 : tSlice tt 25 = some (3, ⟨.int .i64, 1, 8, [.int .i64 0], false, []⟩) := rfl
theorem ts26 : tSize tt 26 = some (true, 4) := rfl
theorem tz26 : tZero tt 26 = some [.raw (.slice none 0 0), .raw (.int .i64 0), .raw (.bool false), .raw (.slice none 0 0)] := rfl
theorem tb26 : tBool tt 26 = false := rfl
theorem te26 : tEq tt 26 = none := rfl
theorem tq26 : tSl tt 26 = false := rfl
theorem tf26_0 : tField tt 26 0 = some (0, false, 1) := rfl
theorem tp26_0 : placeOf tt 26 0 = some (0, 1) := rfl
theorem tf26_1 : tField tt 26 1 = some (1, false, 1) := rfl
theorem tp26_1 : placeOf tt 26 1 = some (1, 1) := rfl
theorem tf26_2 : tField tt 26 2 = some (2, false, 1) := rfl
theorem tp26_2 : placeOf tt 26 2 = some (2, 1) := rfl
theorem tf26_3 : tField tt 26 3 = some (3, false, 1) := rfl
theorem tp26_3 : placeOf tt 26 3 = some (3, 1) := rfl
theorem ts27 : tSize tt 27 = some (true, 4) := rfl
theorem tz27 : tZero tt 27 = some [.raw (.slice none 0 0), .raw (.int .i64 0), .raw (.bool false), .raw (.slice none 0 0)] := rfl
theorem tb27 : tBool tt 27 = false := rfl
theorem te27 : tEq tt 27 = none := rfl
theorem tq27 : tSl tt 27 = false := rfl
theorem tf27_0 : tField tt 27 0 = some (0, false, 1) := rfl
theorem tp27_0 : placeOf tt 27 0 = some (0, 1) := rfl
theorem tf27_1 : tField tt 27 1 = some (1, false, 1) := rfl
theorem tp27_1 : placeOf tt 27 1 = some (1, 1) := rfl
theorem tf27_2 : tField tt 27 2 = some (2, false, 1) := rfl
theorem tp27_2 : placeOf tt 27 2 = some (2, 1) := rfl
theorem tf27_3 : tField tt 27 3 = some (3, false, 1) := rfl
theorem tp27_3 : placeOf tt 27 3 = some (3, 1) := rfl
theorem ts28 : tSize tt 28 = some (false, 1) := rfl
theorem tz28 : tZero tt 28 = some [.raw (.int .i64 0)] := rfl
theorem ti28 : tInt tt 28 = some .i64 := rfl
theorem tb28 : tBool tt 28 = false := rfl
theorem te28 : tEq tt 28 = none := rfl
theorem tq28 : tSl tt 28 = false := rfl
theorem ts32 : tSize tt 32 = some (false, 1) := rfl
theorem tz32 : tZero tt 32 = some [.raw (.nilFunc)] := rfl
theorem tb32 : tBool tt 32 = false := rfl
theorem te32 : tEq tt 32 = none := rfl
theorem tq32 : tSl tt 32 = false := rfl
theorem ts42 : tSize tt 42 = some (true, 2) := rfl
theorem tz42 : tZero tt 42 = some [.raw (.int .i64 0), .raw (.int .i64 0)] := rfl
theorem tb42 : tBool tt 42 = false := rfl
theorem te42 : tEq tt 42 = some 2 := rfl
theorem tq42 : tSl tt 42 = false := rfl
theorem tf42_0 : tField tt 42 0 = some (0, false, 1) := rfl
theorem tp42_0 : placeOf tt 42 0 = some (0, 1) := rfl
theorem tf42_1 : tField tt 42 1 = some (1, false, 1) := rfl
theorem tp42_1 : placeOf tt 42 1 = some (1, 1) := rfl
theorem ts43 : tSize tt 43 = some (true, 2) := rfl
theorem tz43 : tZero tt 43 = some [.raw (.int .i64 0), .raw (.int .i64 0)] := rfl
theorem tb43 : tBool tt 43 = false := rfl
theorem te43 : tEq tt 43 = some 2 := rfl
theorem tq43 : tSl tt 43 = false := rfl
theorem tf43_0 : tField tt 43 0 = some (0, false, 1) := rfl
theorem tp43_0 : placeOf tt 43 0 = some (0, 1) := rfl
theorem tf43_1 : tField tt 43 1 = some (1, false, 1) := rfl
theorem tp43_1 : placeOf tt 43 1 = some (1, 1) := rfl
theorem ts48 : tSize tt 48 = some (false, 1) := rfl
theorem tz48 : tZero tt 48 = some [.raw (.slice none 0 0)] := rfl
theorem tb48 : tBool tt 48 = false := rfl
theorem te48 : tEq tt 48 = none := rfl
theorem tq48 : tSl tt 48 = true := rfl
theorem tl48 : tSlice tt 48 = some (52, ⟨.struct #[⟨"Kernel", 3, 0, false, "", "", 0⟩, ⟨"H", 3, 1, false, "", "", 8⟩], 2, 16, [.int .i64 0, .int .i64 0], true, []⟩) := rfl
theorem ts51 : tSize tt 51 = some (true, 2) := rfl
theorem tz51 : tZero tt 51 = some [.raw (.int .i64 0), .raw (.int .i64 0)] := rfl
theorem tb51 : tBool tt 51 = false := rfl
theorem te51 : tEq tt 51 = some 2 := rfl
theorem tq51 : tSl tt 51 = false := rfl
theorem tf51_0 : tField tt 51 0 = some (0, false, 1) := rfl
theorem tp51_0 : placeOf tt 51 0 = some (0, 1) := rfl
theorem tf51_1 : tField tt 51 1 = some (1, false, 1) := rfl
theorem tp51_1 : placeOf tt 51 1 = some (1, 1) := rfl
theorem ts52 : tSize tt 52 = some (true, 2) := rfl
theorem tz52 : tZero tt 52 = some [.raw (.int .i64 0), .raw (.int .i64 0)] := rfl
theorem tb52 : tBool tt 52 = false := rfl
theorem te52 : tEq tt 52 = some 2 := rfl
theorem tq52 : tSl tt 52 = false := rfl
theorem tf52_0 : tField tt 52 0 = some (0, false, 1) := rfl
theorem tp52_0 : placeOf tt 52 0 = some (0, 1) := rfl
theorem tf52_1 : tField tt 52 1 = some (1, false, 1) := rfl
theorem tp52_1 : placeOf tt 52 1 = some (1, 1) := rfl
theorem ts64 : tSize tt 64 = some (false, 1) := rfl
theorem tz64 : tZero tt 64 = some [.raw (.slice none 0 0)] := rfl
theorem tb64 : tBool tt 64 = false := rfl
theorem te64 : tEq tt 64 = none := rfl
theorem tq64 : tSl tt 64 = true := rfl
theorem tl64 : tSlice tt 64 = some (107, ⟨.struct #[⟨"X", 22, 0, false, "", "", 0⟩, ⟨"W", 22, 1, false, "", "", 24⟩, ⟨"Plan", 24, 2, false, "", "", 48⟩], 8, 96, [.slice none 0 0, .slice none 0 0, .int .i64 0, .int .i64 0, .int .i64 0, .int .i64 0, .int .i64 0, .bool false], false, []⟩) := rfl
theorem ts66 : tSize tt 66 = some (false, 1) := rfl
theorem tz66 : tZero tt 66 = some [.raw (.slice none 0 0)] := rfl
theorem tb66 : tBool tt 66 = false := rfl
theorem te66 : tEq tt 66 = none := rfl
theorem tq66 : tSl tt 66 = true := rfl
theorem tl66 : tSlice tt 66 = some (28, ⟨.int .i64, 1, 8, [.int .i64 0], false, []⟩) := rfl
theorem ts69 : tSize tt 69 = some (true, 2) := rfl
theorem tz69 : tZero tt 69 = some [.raw (.slice none 0 0), .raw (.slice none 0 0)] := rfl
theorem tb69 : tBool tt 69 = false := rfl
theorem te69 : tEq tt 69 = none := rfl
theorem tq69 : tSl tt 69 = false := rfl
theorem tf69_0 : tField tt 69 0 = some (0, false, 1) := rfl
theorem tp69_0 : placeOf tt 69 0 = some (0, 1) := rfl
theorem tf69_1 : tField tt 69 1 = some (1, false, 1) := rfl
theorem tp69_1 : placeOf tt 69 1 = some (1, 1) := rfl
theorem ts70 : tSize tt 70 = some (true, 2) := rfl
theorem tz70 : tZero tt 70 = some [.raw (.slice none 0 0), .raw (.slice none 0 0)] := rfl
theorem tb70 : tBool tt 70 = false := rfl
theorem te70 : tEq tt 70 = none := rfl
theorem tq70 : tSl tt 70 = false := rfl
theorem tf70_0 : tField tt 70 0 = some (0, false, 1) := rfl
theorem tp70_0 : placeOf tt 70 0 = some (0, 1) := rfl
theorem tf70_1 : tField tt 70 1 = some (1, false, 1) := rfl
theorem tp70_1 : placeOf tt 70 1 = some (1, 1) := rfl
theorem ts76 : tSize tt 76 = some (false, 1) := rfl
theorem tz76 : tZero tt 76 = some [.raw (.nilIface)] := rfl
theorem tb76 : tBool tt 76 = false := rfl
theorem te76 : tEq tt 76 = none := rfl
theorem tq76 : tSl tt 76 = false := rfl
theorem ts77 : tSize tt 77 = some (false, 1) := rfl
theorem tz77 : tZero tt 77 = some [.raw (.nilIface)] := rfl
theorem tb77 : tBool tt 77 = false := rfl
theorem te77 : tEq tt 77 = none := rfl
theorem tq77 : tSl tt 77 = false := rfl
theorem ts78 : tSize tt 78 = some (true, 9) := rfl
theorem tz78 : tZero tt 78 = some [.raw (.int .i64 0), .raw (.int .i64 0), .raw (.int .i64 0), .raw (.int .i64 0), .raw (.int .i64 0), .raw (.bool false), .raw (.nilIface), .raw (.int .i64 0), .raw (.slice none 0 0)] := rfl
theorem tb78 : tBool tt 78 = false := rfl
theorem te78 : tEq tt 78 = none := rfl
theorem tq78 : tSl tt 78 = false := rfl
theorem tf78_0 : tField tt 78 0 = some (0, true, 6) := rfl
theorem tp78_0 : placeOf tt 78 0 = some (0, 6) := rfl
theorem tf78_1 : tField tt 78 1 = some (6, false, 1) := rfl
theorem tp78_1 : placeOf tt 78 1 = some (6, 1) := rfl
theorem tf78_2 : tField tt 78 2 = some (7, false, 1) := rfl
theorem tp78_2 : placeOf tt 78 2 = some (7, 1) := rfl
theorem tf78_3 : tField tt 78 3 = some (8, false, 1) := rfl
theorem tp78_3 : placeOf tt 78 3 = some (8, 1) := rfl
theorem ts79 : tSize tt 79 = some (true, 9) := rfl
theorem tz79 : tZero tt 79 = some [.raw (.int .i64 0), .raw (.int .i64 0), .raw (.int .i64 0), .raw (.int .i64 0), .raw (.int .i64 0), .raw (.bool false), .raw (.nilIface), .raw (.int .i64 0), .raw (.slice none 0 0)] := rfl
theorem tm79_0 : tMeth tt 79 "headroom/fft.first" = some 52 := by kernel_rfl
theorem tb79 : tBool tt 79 = false := rfl
theorem te79 : tEq tt 79 = none := rfl
theorem tq79 : tSl tt 79 = false := rfl
theorem tf79_0 : tField tt 79 0 = some (0, true, 6) := rfl
theorem tp79_0 : placeOf tt 79 0 = some (0, 6) := rfl
theorem tf79_1 : tField tt 79 1 = some (6, false, 1) := rfl
theorem tp79_1 : placeOf tt 79 1 = some (6, 1) := rfl
theorem tf79_2 : tField tt 79 2 = some (7, false, 1) := rfl
theorem tp79_2 : placeOf tt 79 2 = some (7, 1) := rfl
theorem tf79_3 : tField tt 79 3 = some (8, false, 1) := rfl
theorem tp79_3 : placeOf tt 79 3 = some (8, 1) := rfl
theorem ts104 : tSize tt 104 = some (false, 1) := rfl
theorem tz104 : tZero tt 104 = some [.raw (.slice none 0 0)] := rfl
theorem tb104 : tBool tt 104 = false := rfl
theorem te104 : tEq tt 104 = none := rfl
theorem tq104 : tSl tt 104 = true := rfl
theorem tl104 : tSlice tt 104 = some (149, ⟨.struct #[⟨"error", 28, 0, false, "", "headroom/call", 0⟩, ⟨"is", 32, 1, false, "", "headroom/call", 8⟩], 2, 16, [.int .i64 0, .nilFunc], false, []⟩) := rfl
theorem ts106 : tSize tt 106 = some (true, 8) := rfl
theorem tz106 : tZero tt 106 = some [.raw (.slice none 0 0), .raw (.slice none 0 0), .raw (.int .i64 0), .raw (.int .i64 0), .raw (.int .i64 0), .raw (.int .i64 0), .raw (.int .i64 0), .raw (.bool false)] := rfl
theorem tb106 : tBool tt 106 = false := rfl
theorem te106 : tEq tt 106 = none := rfl
theorem tq106 : tSl tt 106 = false := rfl
theorem tf106_0 : tField tt 106 0 = some (0, false, 1) := rfl
theorem tp106_0 : placeOf tt 106 0 = some (0, 1) := rfl
theorem tf106_1 : tField tt 106 1 = some (1, false, 1) := rfl
theorem tp106_1 : placeOf tt 106 1 = some (1, 1) := rfl
theorem tf106_2 : tField tt 106 2 = some (2, true, 6) := rfl
theorem tp106_2 : placeOf tt 106 2 = some (2, 6) := rfl
theorem ts107 : tSize tt 107 = some (true, 8) := rfl
theorem tz107 : tZero tt 107 = some [.raw (.slice none 0 0), .raw (.slice none 0 0), .raw (.int .i64 0), .raw (.int .i64 0), .raw (.int .i64 0), .raw (.int .i64 0), .raw (.int .i64 0), .raw (.bool false)] := rfl
theorem tb107 : tBool tt 107 = false := rfl
theorem te107 : tEq tt 107 = none := rfl
theorem tq107 : tSl tt 107 = false := rfl
theorem tf107_0 : tField tt 107 0 = some (0, false, 1) := rfl
theorem tp107_0 : placeOf tt 107 0 = some (0, 1) := rfl
theorem tf107_1 : tField tt 107 1 = some (1, false, 1) := rfl
theorem tp107_1 : placeOf tt 107 1 = some (1, 1) := rfl
theorem tf107_2 : tField tt 107 2 = some (2, true, 6) := rfl
theorem tp107_2 : placeOf tt 107 2 = some (2, 6) := rfl
theorem ts110 : tSize tt 110 = some (false, 1) := rfl
theorem tz110 : tZero tt 110 = some [.raw (.nilFunc)] := rfl
theorem tb110 : tBool tt 110 = false := rfl
theorem te110 : tEq tt 110 = none := rfl
theorem tq110 : tSl tt 110 = false := rfl
theorem ts113 : tSize tt 113 = some (true, 4) := rfl
theorem tz113 : tZero tt 113 = some [.raw (.slice none 0 0), .raw (.int .i64 0), .raw (.int .i64 0), .raw (.int .i64 0)] := rfl
theorem tb113 : tBool tt 113 = false := rfl
theorem te113 : tEq tt 113 = none := rfl
theorem tq113 : tSl tt 113 = false := rfl
theorem tf113_0 : tField tt 113 0 = some (0, false, 1) := rfl
theorem tp113_0 : placeOf tt 113 0 = some (0, 1) := rfl
theorem tf113_1 : tField tt 113 1 = some (1, false, 1) := rfl
theorem tp113_1 : placeOf tt 113 1 = some (1, 1) := rfl
theorem tf113_2 : tField tt 113 2 = some (2, false, 1) := rfl
theorem tp113_2 : placeOf tt 113 2 = some (2, 1) := rfl
theorem tf113_3 : tField tt 113 3 = some (3, false, 1) := rfl
theorem tp113_3 : placeOf tt 113 3 = some (3, 1) := rfl
theorem ts114 : tSize tt 114 = some (true, 4) := rfl
theorem tz114 : tZero tt 114 = some [.raw (.slice none 0 0), .raw (.int .i64 0), .raw (.int .i64 0), .raw (.int .i64 0)] := rfl
theorem tb114 : tBool tt 114 = false := rfl
theorem te114 : tEq tt 114 = none := rfl
theorem tq114 : tSl tt 114 = false := rfl
theorem tf114_0 : tField tt 114 0 = some (0, false, 1) := rfl
theorem tp114_0 : placeOf tt 114 0 = some (0, 1) := rfl
theorem tf114_1 : tField tt 114 1 = some (1, false, 1) := rfl
theorem tp114_1 : placeOf tt 114 1 = some (1, 1) := rfl
theorem tf114_2 : tField tt 114 2 = some (2, false, 1) := rfl
theorem tp114_2 : placeOf tt 114 2 = some (2, 1) := rfl
theorem tf114_3 : tField tt 114 3 = some (3, false, 1) := rfl
theorem tp114_3 : placeOf tt 114 3 = some (3, 1) := rfl
theorem ts115 : tSize tt 115 = some (true, 0) := rfl
theorem tz115 : tZero tt 115 = some [] := rfl
theorem tb115 : tBool tt 115 = false := rfl
theorem te115 : tEq tt 115 = none := rfl
theorem tq115 : tSl tt 115 = false := rfl
theorem ts116 : tSize tt 116 = some (true, 0) := rfl
theorem tz116 : tZero tt 116 = some [] := rfl
theorem tm116_0 : tMeth tt 116 "headroom/fft.first" = some 207 := by kernel_rfl
theorem tm116_1 : tMeth tt 116 "headroom/fft.pass" = some 208 := by kernel_rfl
theorem tb116 : tBool tt 116 = false := rfl
theorem te116 : tEq tt 116 = none := rfl
theorem tq116 : tSl tt 116 = false := rfl
theorem ts117 : tSize tt 117 = some (true, 1) := rfl
theorem tz117 : tZero tt 117 = some [.raw (.int .i64 0)] := rfl
theorem tb117 : tBool tt 117 = false := rfl
theorem te117 : tEq tt 117 = some 1 := rfl
theorem tq117 : tSl tt 117 = false := rfl
theorem tf117_0 : tField tt 117 0 = some (0, false, 1) := rfl
theorem tp117_0 : placeOf tt 117 0 = some (0, 1) := rfl
theorem ts118 : tSize tt 118 = some (true, 1) := rfl
theorem tz118 : tZero tt 118 = some [.raw (.int .i64 0)] := rfl
theorem tm118_0 : tMeth tt 118 "headroom/fft.first" = some 209 := by kernel_rfl
theorem tm118_1 : tMeth tt 118 "headroom/fft.pass" = some 210 := by kernel_rfl
theorem tb118 : tBool tt 118 = false := rfl
theorem te118 : tEq tt 118 = some 1 := rfl
theorem tq118 : tSl tt 118 = false := rfl
theorem tf118_0 : tField tt 118 0 = some (0, false, 1) := rfl
theorem tp118_0 : placeOf tt 118 0 = some (0, 1) := rfl
theorem ts119 : tSize tt 119 = some (true, 0) := rfl
theorem tz119 : tZero tt 119 = some [] := rfl
theorem tm119_0 : tMeth tt 119 "headroom/fft.first" = some 212 := by kernel_rfl
theorem tm119_1 : tMeth tt 119 "headroom/fft.pass" = some 213 := by kernel_rfl
theorem tb119 : tBool tt 119 = false := rfl
theorem te119 : tEq tt 119 = none := rfl
theorem tq119 : tSl tt 119 = false := rfl
theorem ts128 : tSize tt 128 = some (true, 12) := rfl
theorem tz128 : tZero tt 128 = some [.raw (.int .i64 0), .raw (.int .i64 0), .raw (.int .i64 0), .raw (.int .i64 0), .raw (.int .i64 0), .raw (.int .i64 0), .raw (.int .i64 0), .raw (.int .i64 0), .raw (.int .i64 0), .raw (.int .i64 0), .raw (.int .i64 0), .raw (.int .i64 0)] := rfl
theorem tb128 : tBool tt 128 = false := rfl
theorem te128 : tEq tt 128 = none := rfl
theorem tq128 : tSl tt 128 = false := rfl
theorem tf128_0 : tField tt 128 0 = some (0, true, 2) := rfl
theorem tp128_0 : placeOf tt 128 0 = some (0, 2) := rfl
theorem tf128_1 : tField tt 128 1 = some (2, true, 2) := rfl
theorem tp128_1 : placeOf tt 128 1 = some (2, 2) := rfl
theorem tf128_2 : tField tt 128 2 = some (4, true, 2) := rfl
theorem tp128_2 : placeOf tt 128 2 = some (4, 2) := rfl
theorem tf128_3 : tField tt 128 3 = some (6, true, 2) := rfl
theorem tp128_3 : placeOf tt 128 3 = some (6, 2) := rfl
theorem tf128_4 : tField tt 128 4 = some (8, true, 2) := rfl
theorem tp128_4 : placeOf tt 128 4 = some (8, 2) := rfl
theorem tf128_5 : tField tt 128 5 = some (10, true, 2) := rfl
theorem tp128_5 : placeOf tt 128 5 = some (10, 2) := rfl
theorem ts129 : tSize tt 129 = some (true, 12) := rfl
theorem tz129 : tZero tt 129 = some [.raw (.int .i64 0), .raw (.int .i64 0), .raw (.int .i64 0), .raw (.int .i64 0), .raw (.int .i64 0), .raw (.int .i64 0), .raw (.int .i64 0), .raw (.int .i64 0), .raw (.int .i64 0), .raw (.int .i64 0), .raw (.int .i64 0), .raw (.int .i64 0)] := rfl
theorem tb129 : tBool tt 129 = false := rfl
theorem te129 : tEq tt 129 = none := rfl
theorem tq129 : tSl tt 129 = false := rfl
theorem tf129_0 : tField tt 129 0 = some (0, true, 2) := rfl
theorem tp129_0 : placeOf tt 129 0 = some (0, 2) := rfl
theorem tf129_1 : tField tt 129 1 = some (2, true, 2) := rfl
theorem tp129_1 : placeOf tt 129 1 = some (2, 2) := rfl
theorem tf129_2 : tField tt 129 2 = some (4, true, 2) := rfl
theorem tp129_2 : placeOf tt 129 2 = some (4, 2) := rfl
theorem tf129_3 : tField tt 129 3 = some (6, true, 2) := rfl
theorem tp129_3 : placeOf tt 129 3 = some (6, 2) := rfl
theorem tf129_4 : tField tt 129 4 = some (8, true, 2) := rfl
theorem tp129_4 : placeOf tt 129 4 = some (8, 2) := rfl
theorem tf129_5 : tField tt 129 5 = some (10, true, 2) := rfl
theorem tp129_5 : placeOf tt 129 5 = some (10, 2) := rfl
theorem ts134 : tSize tt 134 = some (false, 1) := rfl
theorem tz134 : tZero tt 134 = some [.raw (.slice none 0 0)] := rfl
theorem tb134 : tBool tt 134 = false := rfl
theorem te134 : tEq tt 134 = none := rfl
theorem tq134 : tSl tt 134 = true := rfl
theorem tl134 : tSlice tt 134 = some (138, ⟨.struct #[⟨"up", 136, 0, false, "", "headroom/round", 0⟩], 1, 8, [.nilFunc], false, []⟩) := rfl
theorem ts136 : tSize tt 136 = some (false, 1) := rfl
theorem tz136 : tZero tt 136 = some [.raw (.nilFunc)] := rfl
theorem tb136 : tBool tt 136 = false := rfl
theorem te136 : tEq tt 136 = none := rfl
theorem tq136 : tSl tt 136 = false := rfl
theorem ts137 : tSize tt 137 = some (true, 1) := rfl
theorem tz137 : tZero tt 137 = some [.raw (.nilFunc)] := rfl
theorem tb137 : tBool tt 137 = false := rfl
theorem te137 : tEq tt 137 = none := rfl
theorem tq137 : tSl tt 137 = false := rfl
theorem tf137_0 : tField tt 137 0 = some (0, false, 1) := rfl
theorem tp137_0 : placeOf tt 137 0 = some (0, 1) := rfl
theorem ts138 : tSize tt 138 = some (true, 1) := rfl
theorem tz138 : tZero tt 138 = some [.raw (.nilFunc)] := rfl
theorem tb138 : tBool tt 138 = false := rfl
theorem te138 : tEq tt 138 = none := rfl
theorem tq138 : tSl tt 138 = false := rfl
theorem tf138_0 : tField tt 138 0 = some (0, false, 1) := rfl
theorem tp138_0 : placeOf tt 138 0 = some (0, 1) := rfl
theorem ts141 : tSize tt 141 = some (true, 8) := rfl
theorem tz141 : tZero tt 141 = some [.raw (.int .i64 0), .raw (.int .i64 0), .raw (.int .i64 0), .raw (.int .i64 0), .raw (.int .i64 0), .raw (.int .i64 0), .raw (.int .i64 0), .raw (.int .i64 0)] := rfl
theorem tb141 : tBool tt 141 = false := rfl
theorem te141 : tEq tt 141 = none := rfl
theorem tq141 : tSl tt 141 = false := rfl
theorem tf141_0 : tField tt 141 0 = some (0, true, 2) := rfl
theorem tp141_0 : placeOf tt 141 0 = some (0, 2) := rfl
theorem tf141_1 : tField tt 141 1 = some (2, true, 2) := rfl
theorem tp141_1 : placeOf tt 141 1 = some (2, 2) := rfl
theorem tf141_2 : tField tt 141 2 = some (4, true, 2) := rfl
theorem tp141_2 : placeOf tt 141 2 = some (4, 2) := rfl
theorem tf141_3 : tField tt 141 3 = some (6, true, 2) := rfl
theorem tp141_3 : placeOf tt 141 3 = some (6, 2) := rfl
theorem ts142 : tSize tt 142 = some (true, 8) := rfl
theorem tz142 : tZero tt 142 = some [.raw (.int .i64 0), .raw (.int .i64 0), .raw (.int .i64 0), .raw (.int .i64 0), .raw (.int .i64 0), .raw (.int .i64 0), .raw (.int .i64 0), .raw (.int .i64 0)] := rfl
theorem tb142 : tBool tt 142 = false := rfl
theorem te142 : tEq tt 142 = none := rfl
theorem tq142 : tSl tt 142 = false := rfl
theorem tf142_0 : tField tt 142 0 = some (0, true, 2) := rfl
theorem tp142_0 : placeOf tt 142 0 = some (0, 2) := rfl
theorem tf142_1 : tField tt 142 1 = some (2, true, 2) := rfl
theorem tp142_1 : placeOf tt 142 1 = some (2, 2) := rfl
theorem tf142_2 : tField tt 142 2 = some (4, true, 2) := rfl
theorem tp142_2 : placeOf tt 142 2 = some (4, 2) := rfl
theorem tf142_3 : tField tt 142 3 = some (6, true, 2) := rfl
theorem tp142_3 : placeOf tt 142 3 = some (6, 2) := rfl
theorem ts145 : tSize tt 145 = some (true, 3) := rfl
theorem tz145 : tZero tt 145 = some [.raw (.int .i64 0), .raw (.bool false), .raw (.int .i64 0)] := rfl
theorem tb145 : tBool tt 145 = false := rfl
theorem te145 : tEq tt 145 = none := rfl
theorem tq145 : tSl tt 145 = false := rfl
theorem tf145_0 : tField tt 145 0 = some (0, false, 1) := rfl
theorem tp145_0 : placeOf tt 145 0 = some (0, 1) := rfl
theorem tf145_1 : tField tt 145 1 = some (1, false, 1) := rfl
theorem tp145_1 : placeOf tt 145 1 = some (1, 1) := rfl
theorem tf145_2 : tField tt 145 2 = some (2, false, 1) := rfl
theorem tp145_2 : placeOf tt 145 2 = some (2, 1) := rfl
theorem ts146 : tSize tt 146 = some (true, 3) := rfl
theorem tz146 : tZero tt 146 = some [.raw (.int .i64 0), .raw (.bool false), .raw (.int .i64 0)] := rfl
theorem tb146 : tBool tt 146 = false := rfl
theorem te146 : tEq tt 146 = none := rfl
theorem tq146 : tSl tt 146 = false := rfl
theorem tf146_0 : tField tt 146 0 = some (0, false, 1) := rfl
theorem tp146_0 : placeOf tt 146 0 = some (0, 1) := rfl
theorem tf146_1 : tField tt 146 1 = some (1, false, 1) := rfl
theorem tp146_1 : placeOf tt 146 1 = some (1, 1) := rfl
theorem tf146_2 : tField tt 146 2 = some (2, false, 1) := rfl
theorem tp146_2 : placeOf tt 146 2 = some (2, 1) := rfl
theorem ts148 : tSize tt 148 = some (true, 2) := rfl
theorem tz148 : tZero tt 148 = some [.raw (.int .i64 0), .raw (.nilFunc)] := rfl
theorem tb148 : tBool tt 148 = false := rfl
theorem te148 : tEq tt 148 = none := rfl
theorem tq148 : tSl tt 148 = false := rfl
theorem tf148_0 : tField tt 148 0 = some (0, false, 1) := rfl
theorem tp148_0 : placeOf tt 148 0 = some (0, 1) := rfl
theorem tf148_1 : tField tt 148 1 = some (1, false, 1) := rfl
theorem tp148_1 : placeOf tt 148 1 = some (1, 1) := rfl
theorem ts149 : tSize tt 149 = some (true, 2) := rfl
theorem tz149 : tZero tt 149 = some [.raw (.int .i64 0), .raw (.nilFunc)] := rfl
theorem tb149 : tBool tt 149 = false := rfl
theorem te149 : tEq tt 149 = none := rfl
theorem tq149 : tSl tt 149 = false := rfl
theorem tf149_0 : tField tt 149 0 = some (0, false, 1) := rfl
theorem tp149_0 : placeOf tt 149 0 = some (0, 1) := rfl
theorem tf149_1 : tField tt 149 1 = some (1, false, 1) := rfl
theorem tp149_1 : placeOf tt 149 1 = some (1, 1) := rfl
theorem ts152 : tSize tt 152 = some (false, 1) := rfl
theorem tz152 : tZero tt 152 = some [.raw (.nilFunc)] := rfl
theorem tb152 : tBool tt 152 = false := rfl
theorem te152 : tEq tt 152 = none := rfl
theorem tq152 : tSl tt 152 = false := rfl
theorem ts153 : tSize tt 153 = some (false, 1) := rfl
theorem tz153 : tZero tt 153 = some [.raw (.nilFunc)] := rfl
theorem tb153 : tBool tt 153 = false := rfl
theorem te153 : tEq tt 153 = none := rfl
theorem tq153 : tSl tt 153 = false := rfl
theorem ts155 : tSize tt 155 = some (true, 8) := rfl
theorem tz155 : tZero tt 155 = some [.raw (.int .i64 0), .raw (.int .i64 0), .raw (.int .i64 0), .raw (.int .i64 0), .raw (.int .i64 0), .raw (.int .i64 0), .raw (.int .i64 0), .raw (.int .i64 0)] := rfl
theorem tb155 : tBool tt 155 = false := rfl
theorem te155 : tEq tt 155 = some 8 := rfl
theorem tq155 : tSl tt 155 = false := rfl
theorem ta155 : tArr tt 155 = some (4, true, 2) := rfl
theorem tp155_0 : placeOf tt 155 0 = some (0 * 2, 2) := rfl
theorem tp155_1 : placeOf tt 155 1 = some (1 * 2, 2) := rfl
theorem tp155_2 : placeOf tt 155 2 = some (2 * 2, 2) := rfl
theorem tp155_3 : placeOf tt 155 3 = some (3 * 2, 2) := rfl
theorem ts157 : tSize tt 157 = some (false, 1) := rfl
theorem tz157 : tZero tt 157 = some [.raw (.nilFunc)] := rfl
theorem tb157 : tBool tt 157 = false := rfl
theorem te157 : tEq tt 157 = none := rfl
theorem tq157 : tSl tt 157 = false := rfl
theorem ts168 : tSize tt 168 = some (true, 2) := rfl
theorem tz168 : tZero tt 168 = some [.raw (.slice none 0 0), .raw (.int .i64 0)] := rfl
theorem tb168 : tBool tt 168 = false := rfl
theorem te168 : tEq tt 168 = none := rfl
theorem tq168 : tSl tt 168 = false := rfl
theorem tf168_0 : tField tt 168 0 = some (0, false, 1) := rfl
theorem tp168_0 : placeOf tt 168 0 = some (0, 1) := rfl
theorem tf168_1 : tField tt 168 1 = some (1, false, 1) := rfl
theorem tp168_1 : placeOf tt 168 1 = some (1, 1) := rfl
theorem ts169 : tSize tt 169 = some (true, 2) := rfl
theorem tz169 : tZero tt 169 = some [.raw (.slice none 0 0), .raw (.int .i64 0)] := rfl
theorem tb169 : tBool tt 169 = false := rfl
theorem te169 : tEq tt 169 = none := rfl
theorem tq169 : tSl tt 169 = false := rfl
theorem tf169_0 : tField tt 169 0 = some (0, false, 1) := rfl
theorem tp169_0 : placeOf tt 169 0 = some (0, 1) := rfl
theorem tf169_1 : tField tt 169 1 = some (1, false, 1) := rfl
theorem tp169_1 : placeOf tt 169 1 = some (1, 1) := rfl
theorem ts182 : tSize tt 182 = some (false, 1) := rfl
theorem tz182 : tZero tt 182 = some [.raw (.nilFunc)] := rfl
theorem tb182 : tBool tt 182 = false := rfl
theorem te182 : tEq tt 182 = none := rfl
theorem tq182 : tSl tt 182 = false := rfl
theorem ts189 : tSize tt 189 = some (true, 4) := rfl
theorem tz189 : tZero tt 189 = some [.raw (.int .i64 0), .raw (.int .i64 0), .raw (.int .i64 0), .raw (.int .i64 0)] := rfl
theorem tb189 : tBool tt 189 = false := rfl
theorem te189 : tEq tt 189 = some 4 := rfl
theorem tq189 : tSl tt 189 = false := rfl
theorem ta189 : tArr tt 189 = some (4, false, 1) := rfl
theorem tp189_0 : placeOf tt 189 0 = some (0 * 1, 1) := rfl
theorem tp189_1 : placeOf tt 189 1 = some (1 * 1, 1) := rfl
theorem tp189_2 : placeOf tt 189 2 = some (2 * 1, 1) := rfl
theorem tp189_3 : placeOf tt 189 3 = some (3 * 1, 1) := rfl
theorem ts193 : tSize tt 193 = some (true, 3) := rfl
theorem tz193 : tZero tt 193 = some [.raw (.int .i64 0), .raw (.int .i64 0), .raw (.int .i64 0)] := rfl
theorem tb193 : tBool tt 193 = false := rfl
theorem te193 : tEq tt 193 = none := rfl
theorem tq193 : tSl tt 193 = false := rfl
theorem tf193_0 : tField tt 193 0 = some (0, true, 2) := rfl
theorem tp193_0 : placeOf tt 193 0 = some (0, 2) := rfl
theorem tf193_1 : tField tt 193 1 = some (2, false, 1) := rfl
theorem tp193_1 : placeOf tt 193 1 = some (2, 1) := rfl
theorem ts194 : tSize tt 194 = some (true, 3) := rfl
theorem tz194 : tZero tt 194 = some [.raw (.int .i64 0), .raw (.int .i64 0), .raw (.int .i64 0)] := rfl
theorem tb194 : tBool tt 194 = false := rfl
theorem te194 : tEq tt 194 = none := rfl
theorem tq194 : tSl tt 194 = false := rfl
theorem tf194_0 : tField tt 194 0 = some (0, true, 2) := rfl
theorem tp194_0 : placeOf tt 194 0 = some (0, 2) := rfl
theorem tf194_1 : tField tt 194 1 = some (2, false, 1) := rfl
theorem tp194_1 : placeOf tt 194 1 = some (2, 1) := rfl
theorem ts198 : tSize tt 198 = some (false, 1) := rfl
theorem tz198 : tZero tt 198 = some [.raw (.nilFunc)] := rfl
theorem tb198 : tBool tt 198 = false := rfl
theorem te198 : tEq tt 198 = none := rfl
theorem tq198 : tSl tt 198 = false := rfl
theorem ts205 : tSize tt 205 = some (true, 2) := rfl
theorem tz205 : tZero tt 205 = some [.raw (.int .i64 0), .raw (.int .i64 0)] := rfl
theorem tb205 : tBool tt 205 = false := rfl
theorem te205 : tEq tt 205 = some 2 := rfl
theorem tq205 : tSl tt 205 = false := rfl
theorem ta205 : tArr tt 205 = some (2, false, 1) := rfl
theorem tp205_0 : placeOf tt 205 0 = some (0 * 1, 1) := rfl
theorem tp205_1 : placeOf tt 205 1 = some (1 * 1, 1) := rfl
theorem ts209 : tSize tt 209 = some (true, 45) := rfl
theorem tz209 : tZero tt 209 = some [.raw (.int .i64 0), .raw (.int .i64 0), .raw (.int .i64 0), .raw (.int .i64 0), .raw (.int .i64 0), .raw (.int .i64 0), .raw (.int .i64 0), .raw (.int .i64 0), .raw (.int .i64 0), .raw (.int .i64 0), .raw (.int .i64 0), .raw (.int .i64 0), .raw (.int .i64 0), .raw (.int .i64 0), .raw (.int .i64 0), .raw (.int .i64 0), .raw (.int .i64 0), .raw (.int .i64 0), .raw (.int .i64 0), .raw (.int .i64 0), .raw (.int .i64 0), .raw (.int .i64 0), .raw (.int .i64 0), .raw (.int .i64 0), .raw (.int .i64 0), .raw (.int .i64 0), .raw (.int .i64 0), .raw (.int .i64 0), .raw (.int .i64 0), .raw (.int .i64 0), .raw (.int .i64 0), .raw (.int .i64 0), .raw (.int .i64 0), .raw (.int .i64 0), .raw (.int .i64 0), .raw (.int .i64 0), .raw (.int .i64 0), .raw (.int .i64 0), .raw (.int .i64 0), .raw (.int .i64 0), .raw (.int .i64 0), .raw (.int .i64 0), .raw (.int .i64 0), .raw (.int .i64 0), .raw (.int .i64 0)] := rfl
theorem tb209 : tBool tt 209 = false := rfl
theorem te209 : tEq tt 209 = none := rfl
theorem tq209 : tSl tt 209 = false := rfl
theorem ta209 : tArr tt 209 = some (45, false, 1) := rfl
theorem tp209_0 : placeOf tt 209 0 = some (0 * 1, 1) := rfl
theorem tp209_1 : placeOf tt 209 1 = some (1 * 1, 1) := rfl
theorem tp209_2 : placeOf tt 209 2 = some (2 * 1, 1) := rfl
theorem tp209_3 : placeOf tt 209 3 = some (3 * 1, 1) := rfl
theorem tp209_4 : placeOf tt 209 4 = some (4 * 1, 1) := rfl
theorem tp209_5 : placeOf tt 209 5 = some (5 * 1, 1) := rfl
theorem tp209_6 : placeOf tt 209 6 = some (6 * 1, 1) := rfl
theorem tp209_7 : placeOf tt 209 7 = some (7 * 1, 1) := rfl
theorem tp209_8 : placeOf tt 209 8 = some (8 * 1, 1) := rfl
theorem tp209_9 : placeOf tt 209 9 = some (9 * 1, 1) := rfl
theorem tp209_10 : placeOf tt 209 10 = some (10 * 1, 1) := rfl
theorem tp209_11 : placeOf tt 209 11 = some (11 * 1, 1) := rfl
theorem tp209_12 : placeOf tt 209 12 = some (12 * 1, 1) := rfl
theorem tp209_13 : placeOf tt 209 13 = some (13 * 1, 1) := rfl
theorem tp209_14 : placeOf tt 209 14 = some (14 * 1, 1) := rfl
theorem tp209_15 : placeOf tt 209 15 = some (15 * 1, 1) := rfl
theorem tp209_16 : placeOf tt 209 16 = some (16 * 1, 1) := rfl
theorem tp209_17 : placeOf tt 209 17 = some (17 * 1, 1) := rfl
theorem tp209_18 : placeOf tt 209 18 = some (18 * 1, 1) := rfl
theorem tp209_19 : placeOf tt 209 19 = some (19 * 1, 1) := rfl
theorem tp209_20 : placeOf tt 209 20 = some (20 * 1, 1) := rfl
theorem tp209_21 : placeOf tt 209 21 = some (21 * 1, 1) := rfl
theorem tp209_22 : placeOf tt 209 22 = some (22 * 1, 1) := rfl
theorem tp209_23 : placeOf tt 209 23 = some (23 * 1, 1) := rfl
theorem tp209_24 : placeOf tt 209 24 = some (24 * 1, 1) := rfl
theorem tp209_25 : placeOf tt 209 25 = some (25 * 1, 1) := rfl
theorem tp209_26 : placeOf tt 209 26 = some (26 * 1, 1) := rfl
theorem tp209_27 : placeOf tt 209 27 = some (27 * 1, 1) := rfl
theorem tp209_28 : placeOf tt 209 28 = some (28 * 1, 1) := rfl
theorem tp209_29 : placeOf tt 209 29 = some (29 * 1, 1) := rfl
theorem tp209_30 : placeOf tt 209 30 = some (30 * 1, 1) := rfl
theorem tp209_31 : placeOf tt 209 31 = some (31 * 1, 1) := rfl
theorem tp209_32 : placeOf tt 209 32 = some (32 * 1, 1) := rfl
theorem tp209_33 : placeOf tt 209 33 = some (33 * 1, 1) := rfl
theorem tp209_34 : placeOf tt 209 34 = some (34 * 1, 1) := rfl
theorem tp209_35 : placeOf tt 209 35 = some (35 * 1, 1) := rfl
theorem tp209_36 : placeOf tt 209 36 = some (36 * 1, 1) := rfl
theorem tp209_37 : placeOf tt 209 37 = some (37 * 1, 1) := rfl
theorem tp209_38 : placeOf tt 209 38 = some (38 * 1, 1) := rfl
theorem tp209_39 : placeOf tt 209 39 = some (39 * 1, 1) := rfl
theorem tp209_40 : placeOf tt 209 40 = some (40 * 1, 1) := rfl
theorem tp209_41 : placeOf tt 209 41 = some (41 * 1, 1) := rfl
theorem tp209_42 : placeOf tt 209 42 = some (42 * 1, 1) := rfl
theorem tp209_43 : placeOf tt 209 43 = some (43 * 1, 1) := rfl
theorem tp209_44 : placeOf tt 209 44 = some (44 * 1, 1) := rfl
end Go.Proofs.YtnnjjblgilibgaaGreatV

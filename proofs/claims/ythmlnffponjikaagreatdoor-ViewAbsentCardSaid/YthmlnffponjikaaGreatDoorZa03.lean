/- What the rules ask of the types. Printed by facts.sh. | Functions of which it is only said that they return something of a kind. No program is named. | The generations of what is known get new names. No program is named. | Functions that hand back an object of their own. No program is named. | Functions that turn a row of plain values; calls that only look at what is handed in; function values. No program is named. | From contracts about worlds to contracts about values, and back; a row that is shown. No program is named. | The types of the wiki, and how their values lie in cells. No program is named. Written by types.py. | How the data of the wiki are written as values. No program is named. Written by mkpv.py. -/
import Derived.Test.YthmlnffponjikaaGreatDoorRows
import Derived.Test.YthmlnffponjikaaGreatDoorZa02
import Derived.Test.YthmlnffponjikaaGreatDoorZa01
namespace Go.Proofs.YthmlnffponjikaaGreatDoor
namespace VL
instance : Ze Tryz.prog 0 [.un] := ⟨by kernel_rfl⟩
instance : Ld Tryz.prog 0 false 1 := ⟨by kernel_rfl⟩
instance : Ze Tryz.prog 1 [.un] := ⟨by kernel_rfl⟩
instance : Ld Tryz.prog 1 false 1 := ⟨by kernel_rfl⟩
instance : Ze Tryz.prog 2 [.int .i64 0] := ⟨by kernel_rfl⟩
instance : Ld Tryz.prog 2 false 1 := ⟨by kernel_rfl⟩
instance : Kd Tryz.prog 2 .i64 := ⟨by kernel_rfl⟩
instance : Ze Tryz.prog 3 [.int .i64 0] := ⟨by kernel_rfl⟩
instance : Ld Tryz.prog 3 false 1 := ⟨by kernel_rfl⟩
instance : Kd Tryz.prog 3 .i64 := ⟨by kernel_rfl⟩
instance : Ze Tryz.prog 4 [.bool false] := ⟨by kernel_rfl⟩
instance : Ld Tryz.prog 4 false 1 := ⟨by kernel_rfl⟩
instance : Ze Tryz.prog 5 [.int .u8 0] := ⟨by kernel_rfl⟩
instance : Ld Tryz.prog 5 false 1 := ⟨by kernel_rfl⟩
instance : Kd Tryz.prog 5 .u8 := ⟨by kernel_rfl⟩
instance : Ze Tryz.prog 6 [.int .u8 0] := ⟨by kernel_rfl⟩
instance : Ld Tryz.prog 6 false 1 := ⟨by kernel_rfl⟩
instance : Kd Tryz.prog 6 .u8 := ⟨by kernel_rfl⟩
instance : Ze Tryz.prog 7 [.int .i64 0, .int .i64 0, .bool false, .int .u8 0] := ⟨by kernel_rfl⟩
instance : Ld Tryz.prog 7 true 4 := ⟨by kernel_rfl⟩
instance : EqT Tryz.prog 7 := ⟨by kernel_rfl⟩
instance : Fld Tryz.prog 7 0 0 false 1 := ⟨by kernel_rfl, rfl⟩
instance : Fld Tryz.prog 7 1 1 false 1 := ⟨by kernel_rfl, rfl⟩
instance : Fld Tryz.prog 7 2 2 false 1 := ⟨by kernel_rfl, rfl⟩
instance : Fld Tryz.prog 7 3 3 false 1 := ⟨by kernel_rfl, rfl⟩
instance : St Tryz.prog 7 [some (0, 1), some (1, 1), some (2, 1), some (3, 1)] [.int .i64 0, .int .i64 0, .bool false, .int .u8 0] := ⟨by kernel_rfl⟩
instance : Ze Tryz.prog 8 [.int .i64 0, .int .i64 0, .bool false, .int .u8 0] := ⟨by kernel_rfl⟩
instance : Ld Tryz.prog 8 true 4 := ⟨by kernel_rfl⟩
instance : EqT Tryz.prog 8 := ⟨by kernel_rfl⟩
instance : Fld Tryz.prog 8 0 0 false 1 := ⟨by kernel_rfl, rfl⟩
instance : Fld Tryz.prog 8 1 1 false 1 := ⟨by kernel_rfl, rfl⟩
instance : Fld Tryz.prog 8 2 2 false 1 := ⟨by kernel_rfl, rfl⟩
instance : Fld Tryz.prog 8 3 3 false 1 := ⟨by kernel_rfl, rfl⟩
instance : St Tryz.prog 8 [some (0, 1), some (1, 1), some (2, 1), some (3, 1)] [.int .i64 0, .int .i64 0, .bool false, .int .u8 0] := ⟨by kernel_rfl⟩
instance : Ze Tryz.prog 9 [.str ⟨#[]⟩] := ⟨by kernel_rfl⟩
instance : Ld Tryz.prog 9 false 1 := ⟨by kernel_rfl⟩
instance : Ze Tryz.prog 10 [.str ⟨#[]⟩] := ⟨by kernel_rfl⟩
instance : Ld Tryz.prog 10 false 1 := ⟨by kernel_rfl⟩
instance : Ze Tryz.prog 11 [.str ⟨#[]⟩] := ⟨by kernel_rfl⟩
instance : Ld Tryz.prog 11 false 1 := ⟨by kernel_rfl⟩
instance : Ze Tryz.prog 12 [.int .u64 0] := ⟨by kernel_rfl⟩
instance : Ld Tryz.prog 12 false 1 := ⟨by kernel_rfl⟩
instance : Kd Tryz.prog 12 .u64 := ⟨by kernel_rfl⟩
instance : Ze Tryz.prog 13 [.str ⟨#[]⟩, .int .u64 0] := ⟨by kernel_rfl⟩
instance : Ld Tryz.prog 13 true 2 := ⟨by kernel_rfl⟩
instance : EqT Tryz.prog 13 := ⟨by kernel_rfl⟩
instance : Fld Tryz.prog 13 0 0 false 1 := ⟨by kernel_rfl, rfl⟩
instance : Fld Tryz.prog 13 1 1 false 1 := ⟨by kernel_rfl, rfl⟩
instance : St Tryz.prog 13 [some (0, 1), some (1, 1)] [.str ⟨#[]⟩, .int .u64 0] := ⟨by kernel_rfl⟩
instance : Ze Tryz.prog 14 [.str ⟨#[]⟩, .int .u64 0] := ⟨by kernel_rfl⟩
instance : Ld Tryz.prog 14 true 2 := ⟨by kernel_rfl⟩
instance : EqT Tryz.prog 14 := ⟨by kernel_rfl⟩
instance : Fld Tryz.prog 14 0 0 false 1 := ⟨by kernel_rfl, rfl⟩
instance : Fld Tryz.prog 14 1 1 false 1 := ⟨by kernel_rfl, rfl⟩
instance : St Tryz.prog 14 [some (0, 1), some (1, 1)] [.str ⟨#[]⟩, .int .u64 0] := ⟨by kernel_rfl⟩
instance : Ze Tryz.prog 15 [.un] := ⟨by kernel_rfl⟩
instance : Ld Tryz.prog 15 false 1 := ⟨by kernel_rfl⟩
instance : Ze Tryz.prog 16 [.un] := ⟨by kernel_rfl⟩
instance : Ld Tryz.prog 16 false 1 := ⟨by kernel_rfl⟩
instance : Ze Tryz.prog 17 [.un] := ⟨by kernel_rfl⟩
instance : Ld Tryz.prog 17 false 1 := ⟨by kernel_rfl⟩
instance : Ze Tryz.prog 18 [.un] := ⟨by kernel_rfl⟩
instance : Ld Tryz.prog 18 true 1 := ⟨by kernel_rfl⟩
instance : EqT Tryz.prog 18 := ⟨by kernel_rfl⟩
instance : Fld Tryz.prog 18 0 0 false 1 := ⟨by kernel_rfl, rfl⟩
instance : St Tryz.prog 18 [some (0, 1)] [.un] := ⟨by kernel_rfl⟩
instance : Ze Tryz.prog 19 [.un] := ⟨by kernel_rfl⟩
instance : Ld Tryz.prog 19 true 1 := ⟨by kernel_rfl⟩
instance : EqT Tryz.prog 19 := ⟨by kernel_rfl⟩
instance : Fld Tryz.prog 19 0 0 false 1 := ⟨by kernel_rfl, rfl⟩
instance : St Tryz.prog 19 [some (0, 1)] [.un] := ⟨by kernel_rfl⟩
instance : Ze Tryz.prog 20 [.un] := ⟨by kernel_rfl⟩
instance : Ld Tryz.prog 20 false 1 := ⟨by kernel_rfl⟩
instance : Ze Tryz.prog 21 [.int .i32 0] := ⟨by kernel_rfl⟩
instance : Ld Tryz.prog 21 false 1 := ⟨by kernel_rfl⟩
instance : Kd Tryz.prog 21 .i32 := ⟨by kernel_rfl⟩
instance : Ze Tryz.prog 22 [.nil] := ⟨by kernel_rfl⟩
instance : Ld Tryz.prog 22 false 1 := ⟨by kernel_rfl⟩
instance : Sl Tryz.prog 22 49 4 48 [.int .i64 0, .str ⟨#[]⟩, .str ⟨#[]⟩, .int .i64 0] := ⟨by kernel_rfl, rfl, rfl⟩
instance : Ze Tryz.prog 23 [.nil] := ⟨by kernel_rfl⟩
instance : Ld Tryz.prog 23 false 1 := ⟨by kernel_rfl⟩
instance : Sl Tryz.prog 23 77 2 40 [.str ⟨#[]⟩, .nil] := ⟨by kernel_rfl, rfl, rfl⟩
instance : Ze Tryz.prog 24 [.nil] := ⟨by kernel_rfl⟩
instance : Ld Tryz.prog 24 false 1 := ⟨by kernel_rfl⟩
instance : Sl Tryz.prog 24 89 6 64 [.bool false, .int .i64 0, .str ⟨#[]⟩, .int .i64 0, .int .i64 0, .str ⟨#[]⟩] := ⟨by kernel_rfl, rfl, rfl⟩
instance : Ze Tryz.prog 25 [.nil] := ⟨by kernel_rfl⟩
instance : Ld Tryz.prog 25 false 1 := ⟨by kernel_rfl⟩
instance : Sl Tryz.prog 25 139 5 64 [.bool false, .str ⟨#[]⟩, .int .i64 0, .str ⟨#[]⟩, .str ⟨#[]⟩] := ⟨by kernel_rfl, rfl, rfl⟩
instance : Ze Tryz.prog 26 [.nil, .nil, .nil] := ⟨by kernel_rfl⟩
instance : Ld Tryz.prog 26 true 3 := ⟨by kernel_rfl⟩
instance : EqT Tryz.prog 26 := ⟨by kernel_rfl⟩
instance : Fld Tryz.prog 26 0 0 false 1 := ⟨by kernel_rfl, rfl⟩
instance : Fld Tryz.prog 26 1 1 false 1 := ⟨by kernel_rfl, rfl⟩
instance : Fld Tryz.prog 26 2 2 false 1 := ⟨by kernel_rfl, rfl⟩
instance : St Tryz.prog 26 [some (0, 1), some (1, 1), some (2, 1)] [.nil, .nil, .nil] := ⟨by kernel_rfl⟩
instance : Ze Tryz.prog 27 [.nil, .nil, .nil] := ⟨by kernel_rfl⟩
instance : Ld Tryz.prog 27 true 3 := ⟨by kernel_rfl⟩
instance : EqT Tryz.prog 27 := ⟨by kernel_rfl⟩
instance : Fld Tryz.prog 27 0 0 false 1 := ⟨by kernel_rfl, rfl⟩
instance : Fld Tryz.prog 27 1 1 false 1 := ⟨by kernel_rfl, rfl⟩
instance : Fld Tryz.prog 27 2 2 false 1 := ⟨by kernel_rfl, rfl⟩
instance : St Tryz.prog 27 [some (0, 1), some (1, 1), some (2, 1)] [.nil, .nil, .nil] := ⟨by kernel_rfl⟩
instance : Ze Tryz.prog 28 [.nil] := ⟨by kernel_rfl⟩
instance : Ld Tryz.prog 28 false 1 := ⟨by kernel_rfl⟩
instance : Sl Tryz.prog 28 9 1 16 [.str ⟨#[]⟩] := ⟨by kernel_rfl, rfl, rfl⟩
instance : Ze Tryz.prog 29 [.nil] := ⟨by kernel_rfl⟩
instance : Ld Tryz.prog 29 false 1 := ⟨by kernel_rfl⟩
instance : Sl Tryz.prog 29 70 7 72 [.int .i64 0, .int .i64 0, .str ⟨#[]⟩, .int .i64 0, .bool false, .str ⟨#[]⟩, .int .i64 0] := ⟨by kernel_rfl, rfl, rfl⟩
instance : Ze Tryz.prog 30 [.nil, .nil, .nil, .nil, .nil, .int .i64 0, .nil] := ⟨by kernel_rfl⟩
instance : Ld Tryz.prog 30 true 7 := ⟨by kernel_rfl⟩
instance : EqT Tryz.prog 30 := ⟨by kernel_rfl⟩
instance : Fld Tryz.prog 30 0 0 false 1 := ⟨by kernel_rfl, rfl⟩
instance : Fld Tryz.prog 30 1 1 true 3 := ⟨by kernel_rfl, rfl⟩
instance : Fld Tryz.prog 30 2 4 false 1 := ⟨by kernel_rfl, rfl⟩
instance : Fld Tryz.prog 30 3 5 false 1 := ⟨by kernel_rfl, rfl⟩
instance : Fld Tryz.prog 30 4 6 false 1 := ⟨by kernel_rfl, rfl⟩
instance : St Tryz.prog 30 [some (0, 1), some (1, 3), some (4, 1), some (5, 1), some (6, 1)] [.nil, .nil, .nil, .nil, .nil, .int .i64 0, .nil] := ⟨by kernel_rfl⟩
instance : Ze Tryz.prog 31 [.nil, .nil, .nil, .nil, .nil, .int .i64 0, .nil] := ⟨by kernel_rfl⟩
instance : Ld Tryz.prog 31 true 7 := ⟨by kernel_rfl⟩
instance : EqT Tryz.prog 31 := ⟨by kernel_rfl⟩
instance : Fld Tryz.prog 31 0 0 false 1 := ⟨by kernel_rfl, rfl⟩
instance : Fld Tryz.prog 31 1 1 true 3 := ⟨by kernel_rfl, rfl⟩
instance : Fld Tryz.prog 31 2 4 false 1 := ⟨by kernel_rfl, rfl⟩
instance : Fld Tryz.prog 31 3 5 false 1 := ⟨by kernel_rfl, rfl⟩
instance : Fld Tryz.prog 31 4 6 false 1 := ⟨by kernel_rfl, rfl⟩
instance : St Tryz.prog 31 [some (0, 1), some (1, 3), some (4, 1), some (5, 1), some (6, 1)] [.nil, .nil, .nil, .nil, .nil, .int .i64 0, .nil] := ⟨by kernel_rfl⟩
instance : Ze Tryz.prog 32 [.nil] := ⟨by kernel_rfl⟩
instance : Ld Tryz.prog 32 false 1 := ⟨by kernel_rfl⟩
instance : Sl Tryz.prog 32 3 1 8 [.int .i64 0] := ⟨by kernel_rfl, rfl, rfl⟩
instance : Ze Tryz.prog 33 [.int .i64 0, .str ⟨#[]⟩] := ⟨by kernel_rfl⟩
instance : Ld Tryz.prog 33 true 2 := ⟨by kernel_rfl⟩
instance : EqT Tryz.prog 33 := ⟨by kernel_rfl⟩
instance : Fld Tryz.prog 33 0 0 false 1 := ⟨by kernel_rfl, rfl⟩
instance : Fld Tryz.prog 33 1 1 false 1 := ⟨by kernel_rfl, rfl⟩
instance : St Tryz.prog 33 [some (0, 1), some (1, 1)] [.int .i64 0, .str ⟨#[]⟩] := ⟨by kernel_rfl⟩
instance : Ze Tryz.prog 34 [.int .i64 0, .str ⟨#[]⟩] := ⟨by kernel_rfl⟩
instance : Ld Tryz.prog 34 true 2 := ⟨by kernel_rfl⟩
instance : EqT Tryz.prog 34 := ⟨by kernel_rfl⟩
instance : Fld Tryz.prog 34 0 0 false 1 := ⟨by kernel_rfl, rfl⟩
instance : Fld Tryz.prog 34 1 1 false 1 := ⟨by kernel_rfl, rfl⟩
instance : St Tryz.prog 34 [some (0, 1), some (1, 1)] [.int .i64 0, .str ⟨#[]⟩] := ⟨by kernel_rfl⟩
instance : Ze Tryz.prog 35 [.int .i64 0, .int .i64 0, .str ⟨#[]⟩, .int .i64 0] := ⟨by kernel_rfl⟩
instance : Ld Tryz.prog 35 true 4 := ⟨by kernel_rfl⟩
instance : EqT Tryz.prog 35 := ⟨by kernel_rfl⟩
instance : Fld Tryz.prog 35 0 0 false 1 := ⟨by kernel_rfl, rfl⟩
instance : Fld Tryz.prog 35 1 1 true 2 := ⟨by kernel_rfl, rfl⟩
instance : Fld Tryz.prog 35 2 3 false 1 := ⟨by kernel_rfl, rfl⟩
instance : St Tryz.prog 35 [some (0, 1), some (1, 2), some (3, 1)] [.int .i64 0, .int .i64 0, .str ⟨#[]⟩, .int .i64 0] := ⟨by kernel_rfl⟩
instance : Ze Tryz.prog 36 [.int .i64 0, .int .i64 0, .str ⟨#[]⟩, .int .i64 0] := ⟨by kernel_rfl⟩
instance : Ld Tryz.prog 36 true 4 := ⟨by kernel_rfl⟩
instance : EqT Tryz.prog 36 := ⟨by kernel_rfl⟩
instance : Fld Tryz.prog 36 0 0 false 1 := ⟨by kernel_rfl, rfl⟩
instance : Fld Tryz.prog 36 1 1 true 2 := ⟨by kernel_rfl, rfl⟩
instance : Fld Tryz.prog 36 2 3 false 1 := ⟨by kernel_rfl, rfl⟩
instance : St Tryz.prog 36 [some (0, 1), some (1, 2), some (3, 1)] [.int .i64 0, .int .i64 0, .str ⟨#[]⟩, .int .i64 0] := ⟨by kernel_rfl⟩
instance : Ze Tryz.prog 37 [.un] := ⟨by kernel_rfl⟩
instance : Ld Tryz.prog 37 false 1 := ⟨by kernel_rfl⟩
instance : Ze Tryz.prog 38 [.un] := ⟨by kernel_rfl⟩
instance : Ld Tryz.prog 38 false 1 := ⟨by kernel_rfl⟩
instance : Ze Tryz.prog 39 [.un] := ⟨by kernel_rfl⟩
instance : Ld Tryz.prog 39 false 1 := ⟨by kernel_rfl⟩
instance : Ze Tryz.prog 40 [.un] := ⟨by kernel_rfl⟩
instance : Ld Tryz.prog 40 false 1 := ⟨by kernel_rfl⟩
instance : Ze Tryz.prog 41 [.un] := ⟨by kernel_rfl⟩
instance : Ld Tryz.prog 41 false 1 := ⟨by kernel_rfl⟩
instance : Ze Tryz.prog 42 [.un] := ⟨by kernel_rfl⟩
instance : Ld Tryz.prog 42 false 1 := ⟨by kernel_rfl⟩
instance : Ze Tryz.prog 43 [.un] := ⟨by kernel_rfl⟩
instance : Ld Tryz.prog 43 false 1 := ⟨by kernel_rfl⟩
instance : Ze Tryz.prog 44 [.int .i64 0] := ⟨by kernel_rfl⟩
instance : Ld Tryz.prog 44 false 1 := ⟨by kernel_rfl⟩
instance : Kd Tryz.prog 44 .i64 := ⟨by kernel_rfl⟩
instance : Ze Tryz.prog 45 [.un] := ⟨by kernel_rfl⟩
instance : Ld Tryz.prog 45 false 1 := ⟨by kernel_rfl⟩
instance : Ze Tryz.prog 46 [.un] := ⟨by kernel_rfl⟩
instance : Ld Tryz.prog 46 false 1 := ⟨by kernel_rfl⟩
instance : Ze Tryz.prog 47 [.un] := ⟨by kernel_rfl⟩
instance : Ld Tryz.prog 47 false 1 := ⟨by kernel_rfl⟩
instance : Ze Tryz.prog 48 [.int .i64 0, .str ⟨#[]⟩, .str ⟨#[]⟩, .int .i64 0] := ⟨by kernel_rfl⟩
instance : Ld Tryz.prog 48 true 4 := ⟨by kernel_rfl⟩
instance : EqT Tryz.prog 48 := ⟨by kernel_rfl⟩
instance : Fld Tryz.prog 48 0 0 true 2 := ⟨by kernel_rfl, rfl⟩
instance : Fld Tryz.prog 48 1 2 false 1 := ⟨by kernel_rfl, rfl⟩
instance : Fld Tryz.prog 48 2 3 false 1 := ⟨by kernel_rfl, rfl⟩
instance : St Tryz.prog 48 [some (0, 2), some (2, 1), some (3, 1)] [.int .i64 0, .str ⟨#[]⟩, .str ⟨#[]⟩, .int .i64 0] := ⟨by kernel_rfl⟩
instance : Ze Tryz.prog 49 [.int .i64 0, .str ⟨#[]⟩, .str ⟨#[]⟩, .int .i64 0] := ⟨by kernel_rfl⟩
instance : Ld Tryz.prog 49 true 4 := ⟨by kernel_rfl⟩
instance : EqT Tryz.prog 49 := ⟨by kernel_rfl⟩
instance : Fld Tryz.prog 49 0 0 true 2 := ⟨by kernel_rfl, rfl⟩
instance : Fld Tryz.prog 49 1 2 false 1 := ⟨by kernel_rfl, rfl⟩
instance : Fld Tryz.prog 49 2 3 false 1 := ⟨by kernel_rfl, rfl⟩
instance : St Tryz.prog 49 [some (0, 2), some (2, 1), some (3, 1)] [.int .i64 0, .str ⟨#[]⟩, .str ⟨#[]⟩, .int .i64 0] := ⟨by kernel_rfl⟩
instance : Ze Tryz.prog 50 [.bool false, .str ⟨#[]⟩, .int .i64 0] := ⟨by kernel_rfl⟩
instance : Ld Tryz.prog 50 true 3 := ⟨by kernel_rfl⟩
instance : EqT Tryz.prog 50 := ⟨by kernel_rfl⟩
instance : Fld Tryz.prog 50 0 0 false 1 := ⟨by kernel_rfl, rfl⟩
instance : Fld Tryz.prog 50 1 1 false 1 := ⟨by kernel_rfl, rfl⟩
instance : Fld Tryz.prog 50 2 2 false 1 := ⟨by kernel_rfl, rfl⟩
instance : St Tryz.prog 50 [some (0, 1), some (1, 1), some (2, 1)] [.bool false, .str ⟨#[]⟩, .int .i64 0] := ⟨by kernel_rfl⟩
instance : Ze Tryz.prog 51 [.bool false, .str ⟨#[]⟩, .int .i64 0] := ⟨by kernel_rfl⟩
instance : Ld Tryz.prog 51 true 3 := ⟨by kernel_rfl⟩
instance : EqT Tryz.prog 51 := ⟨by kernel_rfl⟩
instance : Fld Tryz.prog 51 0 0 false 1 := ⟨by kernel_rfl, rfl⟩
instance : Fld Tryz.prog 51 1 1 false 1 := ⟨by kernel_rfl, rfl⟩
instance : Fld Tryz.prog 51 2 2 false 1 := ⟨by kernel_rfl, rfl⟩
instance : St Tryz.prog 51 [some (0, 1), some (1, 1), some (2, 1)] [.bool false, .str ⟨#[]⟩, .int .i64 0] := ⟨by kernel_rfl⟩
instance : Ze Tryz.prog 52 [.un] := ⟨by kernel_rfl⟩
instance : Ld Tryz.prog 52 false 1 := ⟨by kernel_rfl⟩
instance : Ze Tryz.prog 53 [.un] := ⟨by kernel_rfl⟩
instance : Ld Tryz.prog 53 false 1 := ⟨by kernel_rfl⟩
instance : Ze Tryz.prog 54 [.un] := ⟨by kernel_rfl⟩
instance : Ld Tryz.prog 54 false 1 := ⟨by kernel_rfl⟩
instance : Ze Tryz.prog 55 [.un] := ⟨by kernel_rfl⟩
instance : Ld Tryz.prog 55 false 1 := ⟨by kernel_rfl⟩
instance : Ze Tryz.prog 56 [.nil] := ⟨by kernel_rfl⟩
instance : Ld Tryz.prog 56 false 1 := ⟨by kernel_rfl⟩
instance : Sl Tryz.prog 56 116 3 32 [.int .i64 0, .int .i64 0, .str ⟨#[]⟩] := ⟨by kernel_rfl, rfl, rfl⟩
instance : Ze Tryz.prog 57 [.nil] := ⟨by kernel_rfl⟩
instance : Ld Tryz.prog 57 false 1 := ⟨by kernel_rfl⟩
instance : Sl Tryz.prog 57 61 3 40 [.int .i64 0, .str ⟨#[]⟩, .str ⟨#[]⟩] := ⟨by kernel_rfl, rfl, rfl⟩
instance : Ze Tryz.prog 58 [.un] := ⟨by kernel_rfl⟩
instance : Ld Tryz.prog 58 false 1 := ⟨by kernel_rfl⟩
instance : Ze Tryz.prog 59 [.un] := ⟨by kernel_rfl⟩
instance : Ld Tryz.prog 59 false 1 := ⟨by kernel_rfl⟩
instance : Ze Tryz.prog 60 [.int .i64 0, .str ⟨#[]⟩, .str ⟨#[]⟩] := ⟨by kernel_rfl⟩
instance : Ld Tryz.prog 60 true 3 := ⟨by kernel_rfl⟩
instance : EqT Tryz.prog 60 := ⟨by kernel_rfl⟩
instance : Fld Tryz.prog 60 0 0 true 2 := ⟨by kernel_rfl, rfl⟩
instance : Fld Tryz.prog 60 1 2 false 1 := ⟨by kernel_rfl, rfl⟩
instance : St Tryz.prog 60 [some (0, 2), some (2, 1)] [.int .i64 0, .str ⟨#[]⟩, .str ⟨#[]⟩] := ⟨by kernel_rfl⟩
instance : Ze Tryz.prog 61 [.int .i64 0, .str ⟨#[]⟩, .str ⟨#[]⟩] := ⟨by kernel_rfl⟩
instance : Ld Tryz.prog 61 true 3 := ⟨by kernel_rfl⟩
instance : EqT Tryz.prog 61 := ⟨by kernel_rfl⟩
instance : Fld Tryz.prog 61 0 0 true 2 := ⟨by kernel_rfl, rfl⟩
instance : Fld Tryz.prog 61 1 2 false 1 := ⟨by kernel_rfl, rfl⟩
instance : St Tryz.prog 61 [some (0, 2), some (2, 1)] [.int .i64 0, .str ⟨#[]⟩, .str ⟨#[]⟩] := ⟨by kernel_rfl⟩
instance : Ze Tryz.prog 62 [.un] := ⟨by kernel_rfl⟩
instance : Ld Tryz.prog 62 false 1 := ⟨by kernel_rfl⟩
instance : Ze Tryz.prog 63 [.un] := ⟨by kernel_rfl⟩
instance : Ld Tryz.prog 63 false 1 := ⟨by kernel_rfl⟩
instance : Ze Tryz.prog 64 [.un] := ⟨by kernel_rfl⟩
instance : Ld Tryz.prog 64 false 1 := ⟨by kernel_rfl⟩
instance : Ze Tryz.prog 65 [.un] := ⟨by kernel_rfl⟩
instance : Ld Tryz.prog 65 false 1 := ⟨by kernel_rfl⟩
instance : Ze Tryz.prog 66 [.un] := ⟨by kernel_rfl⟩
instance : Ld Tryz.prog 66 false 1 := ⟨by kernel_rfl⟩
instance : Ze Tryz.prog 67 [.nil] := ⟨by kernel_rfl⟩
instance : Ld Tryz.prog 67 false 1 := ⟨by kernel_rfl⟩
instance : Sl Tryz.prog 67 36 4 40 [.int .i64 0, .int .i64 0, .str ⟨#[]⟩, .int .i64 0] := ⟨by kernel_rfl, rfl, rfl⟩
instance : Ze Tryz.prog 68 [.un] := ⟨by kernel_rfl⟩
instance : Ld Tryz.prog 68 false 1 := ⟨by kernel_rfl⟩
instance : Ze Tryz.prog 69 [.int .i64 0, .int .i64 0, .str ⟨#[]⟩, .int .i64 0, .bool false, .str ⟨#[]⟩, .int .i64 0] := ⟨by kernel_rfl⟩
instance : Ld Tryz.prog 69 true 7 := ⟨by kernel_rfl⟩
instance : EqT Tryz.prog 69 := ⟨by kernel_rfl⟩
instance : Fld Tryz.prog 69 0 0 true 4 := ⟨by kernel_rfl, rfl⟩
instance : Fld Tryz.prog 69 1 4 true 3 := ⟨by kernel_rfl, rfl⟩
instance : St Tryz.prog 69 [some (0, 4), some (4, 3)] [.int .i64 0, .int .i64 0, .str ⟨#[]⟩, .int .i64 0, .bool false, .str ⟨#[]⟩, .int .i64 0] := ⟨by kernel_rfl⟩
instance : Ze Tryz.prog 70 [.int .i64 0, .int .i64 0, .str ⟨#[]⟩, .int .i64 0, .bool false, .str ⟨#[]⟩, .int .i64 0] := ⟨by kernel_rfl⟩
instance : Ld Tryz.prog 70 true 7 := ⟨by kernel_rfl⟩
instance : EqT Tryz.prog 70 := ⟨by kernel_rfl⟩
instance : Fld Tryz.prog 70 0 0 true 4 := ⟨by kernel_rfl, rfl⟩
instance : Fld Tryz.prog 70 1 4 true 3 := ⟨by kernel_rfl, rfl⟩
instance : St Tryz.prog 70 [some (0, 4), some (4, 3)] [.int .i64 0, .int .i64 0, .str ⟨#[]⟩, .int .i64 0, .bool false, .str ⟨#[]⟩, .int .i64 0] := ⟨by kernel_rfl⟩
instance : Ze Tryz.prog 71 [.un] := ⟨by kernel_rfl⟩
instance : Ld Tryz.prog 71 false 1 := ⟨by kernel_rfl⟩
instance : Ze Tryz.prog 72 [.un] := ⟨by kernel_rfl⟩
instance : Ld Tryz.prog 72 false 1 := ⟨by kernel_rfl⟩
instance : Ze Tryz.prog 73 [.un] := ⟨by kernel_rfl⟩
instance : Ld Tryz.prog 73 false 1 := ⟨by kernel_rfl⟩
instance : Ze Tryz.prog 74 [.un] := ⟨by kernel_rfl⟩
instance : Ld Tryz.prog 74 false 1 := ⟨by kernel_rfl⟩
instance : Ze Tryz.prog 75 [.un] := ⟨by kernel_rfl⟩
instance : Ld Tryz.prog 75 false 1 := ⟨by kernel_rfl⟩
instance : Ze Tryz.prog 76 [.str ⟨#[]⟩, .nil] := ⟨by kernel_rfl⟩
instance : Ld Tryz.prog 76 true 2 := ⟨by kernel_rfl⟩
instance : EqT Tryz.prog 76 := ⟨by kernel_rfl⟩
instance : Fld Tryz.prog 76 0 0 false 1 := ⟨by kernel_rfl, rfl⟩
instance : Fld Tryz.prog 76 1 1 false 1 := ⟨by kernel_rfl, rfl⟩
instance : St Tryz.prog 76 [some (0, 1), some (1, 1)] [.str ⟨#[]⟩, .nil] := ⟨by kernel_rfl⟩
instance : Ze Tryz.prog 77 [.str ⟨#[]⟩, .nil] := ⟨by kernel_rfl⟩
instance : Ld Tryz.prog 77 true 2 := ⟨by kernel_rfl⟩
instance : EqT Tryz.prog 77 := ⟨by kernel_rfl⟩
instance : Fld Tryz.prog 77 0 0 false 1 := ⟨by kernel_rfl, rfl⟩
instance : Fld Tryz.prog 77 1 1 false 1 := ⟨by kernel_rfl, rfl⟩
instance : St Tryz.prog 77 [some (0, 1), some (1, 1)] [.str ⟨#[]⟩, .nil] := ⟨by kernel_rfl⟩
instance : Ze Tryz.prog 78 [.un] := ⟨by kernel_rfl⟩
instance : Ld Tryz.prog 78 false 1 := ⟨by kernel_rfl⟩
instance : Ze Tryz.prog 79 [.nil, .int .i64 0] := ⟨by kernel_rfl⟩
instance : Ld Tryz.prog 79 true 2 := ⟨by kernel_rfl⟩
instance : EqT Tryz.prog 79 := ⟨by kernel_rfl⟩
instance : Fld Tryz.prog 79 0 0 false 1 := ⟨by kernel_rfl, rfl⟩
instance : Fld Tryz.prog 79 1 1 false 1 := ⟨by kernel_rfl, rfl⟩
instance : St Tryz.prog 79 [some (0, 1), some (1, 1)] [.nil, .int .i64 0] := ⟨by kernel_rfl⟩
instance : Ze Tryz.prog 80 [.nil, .int .i64 0] := ⟨by kernel_rfl⟩
instance : Ld Tryz.prog 80 true 2 := ⟨by kernel_rfl⟩
instance : EqT Tryz.prog 80 := ⟨by kernel_rfl⟩
instance : Fld Tryz.prog 80 0 0 false 1 := ⟨by kernel_rfl, rfl⟩
instance : Fld Tryz.prog 80 1 1 false 1 := ⟨by kernel_rfl, rfl⟩
instance : St Tryz.prog 80 [some (0, 1), some (1, 1)] [.nil, .int .i64 0] := ⟨by kernel_rfl⟩
instance : Ze Tryz.prog 81 [.nil] := ⟨by kernel_rfl⟩
instance : Ld Tryz.prog 81 false 1 := ⟨by kernel_rfl⟩
instance : Sl Tryz.prog 81 34 2 24 [.int .i64 0, .str ⟨#[]⟩] := ⟨by kernel_rfl, rfl, rfl⟩
instance : Ze Tryz.prog 82 [.un] := ⟨by kernel_rfl⟩
instance : Ld Tryz.prog 82 false 1 := ⟨by kernel_rfl⟩
instance : Ze Tryz.prog 83 [.un] := ⟨by kernel_rfl⟩
instance : Ld Tryz.prog 83 false 1 := ⟨by kernel_rfl⟩
instance : Ze Tryz.prog 84 [.un] := ⟨by kernel_rfl⟩
instance : Ld Tryz.prog 84 false 1 := ⟨by kernel_rfl⟩
instance : Ze Tryz.prog 85 [.un] := ⟨by kernel_rfl⟩
instance : Ld Tryz.prog 85 false 1 := ⟨by kernel_rfl⟩
instance : Ze Tryz.prog 86 [.int .i64 0, .int .i64 0, .str ⟨#[]⟩] := ⟨by kernel_rfl⟩
instance : Ld Tryz.prog 86 true 3 := ⟨by kernel_rfl⟩
instance : EqT Tryz.prog 86 := ⟨by kernel_rfl⟩
instance : Fld Tryz.prog 86 0 0 false 1 := ⟨by kernel_rfl, rfl⟩
instance : Fld Tryz.prog 86 1 1 true 2 := ⟨by kernel_rfl, rfl⟩
instance : St Tryz.prog 86 [some (0, 1), some (1, 2)] [.int .i64 0, .int .i64 0, .str ⟨#[]⟩] := ⟨by kernel_rfl⟩
instance : Ze Tryz.prog 87 [.int .i64 0, .int .i64 0, .str ⟨#[]⟩] := ⟨by kernel_rfl⟩
instance : Ld Tryz.prog 87 true 3 := ⟨by kernel_rfl⟩
instance : EqT Tryz.prog 87 := ⟨by kernel_rfl⟩
instance : Fld Tryz.prog 87 0 0 false 1 := ⟨by kernel_rfl, rfl⟩
instance : Fld Tryz.prog 87 1 1 true 2 := ⟨by kernel_rfl, rfl⟩
instance : St Tryz.prog 87 [some (0, 1), some (1, 2)] [.int .i64 0, .int .i64 0, .str ⟨#[]⟩] := ⟨by kernel_rfl⟩
instance : Ze Tryz.prog 88 [.bool false, .int .i64 0, .str ⟨#[]⟩, .int .i64 0, .int .i64 0, .str ⟨#[]⟩] := ⟨by kernel_rfl⟩
instance : Ld Tryz.prog 88 true 6 := ⟨by kernel_rfl⟩
instance : EqT Tryz.prog 88 := ⟨by kernel_rfl⟩
instance : Fld Tryz.prog 88 0 0 false 1 := ⟨by kernel_rfl, rfl⟩
instance : Fld Tryz.prog 88 1 1 false 1 := ⟨by kernel_rfl, rfl⟩
instance : Fld Tryz.prog 88 2 2 false 1 := ⟨by kernel_rfl, rfl⟩
instance : Fld Tryz.prog 88 3 3 true 3 := ⟨by kernel_rfl, rfl⟩
instance : St Tryz.prog 88 [some (0, 1), some (1, 1), some (2, 1), some (3, 3)] [.bool false, .int .i64 0, .str ⟨#[]⟩, .int .i64 0, .int .i64 0, .str ⟨#[]⟩] := ⟨by kernel_rfl⟩
instance : Ze Tryz.prog 89 [.bool false, .int .i64 0, .str ⟨#[]⟩, .int .i64 0, .int .i64 0, .str ⟨#[]⟩] := ⟨by kernel_rfl⟩
instance : Ld Tryz.prog 89 true 6 := ⟨by kernel_rfl⟩
instance : EqT Tryz.prog 89 := ⟨by kernel_rfl⟩
instance : Fld Tryz.prog 89 0 0 false 1 := ⟨by kernel_rfl, rfl⟩
instance : Fld Tryz.prog 89 1 1 false 1 := ⟨by kernel_rfl, rfl⟩
instance : Fld Tryz.prog 89 2 2 false 1 := ⟨by kernel_rfl, rfl⟩
instance : Fld Tryz.prog 89 3 3 true 3 := ⟨by kernel_rfl, rfl⟩
instance : St Tryz.prog 89 [some (0, 1), some (1, 1), some (2, 1), some (3, 3)] [.bool false, .int .i64 0, .str ⟨#[]⟩, .int .i64 0, .int .i64 0, .str ⟨#[]⟩] := ⟨by kernel_rfl⟩
instance : Ze Tryz.prog 90 [.un] := ⟨by kernel_rfl⟩
instance : Ld Tryz.prog 90 false 1 := ⟨by kernel_rfl⟩
instance : Ze Tryz.prog 91 [.un] := ⟨by kernel_rfl⟩
instance : Ld Tryz.prog 91 false 1 := ⟨by kernel_rfl⟩
instance : Ze Tryz.prog 92 [.un] := ⟨by kernel_rfl⟩
instance : Ld Tryz.prog 92 false 1 := ⟨by kernel_rfl⟩
instance : Ze Tryz.prog 93 [.un] := ⟨by kernel_rfl⟩
instance : Ld Tryz.prog 93 false 1 := ⟨by kernel_rfl⟩
instance : Ze Tryz.prog 94 [.un] := ⟨by kernel_rfl⟩
instance : Ld Tryz.prog 94 false 1 := ⟨by kernel_rfl⟩
instance : Ze Tryz.prog 95 [.un] := ⟨by kernel_rfl⟩
instance : Ld Tryz.prog 95 false 1 := ⟨by kernel_rfl⟩
instance : Ze Tryz.prog 96 [.un] := ⟨by kernel_rfl⟩
instance : Ld Tryz.prog 96 false 1 := ⟨by kernel_rfl⟩
instance : Ze Tryz.prog 97 [.un] := ⟨by kernel_rfl⟩
instance : Ld Tryz.prog 97 false 1 := ⟨by kernel_rfl⟩
instance : Ze Tryz.prog 98 [.un] := ⟨by kernel_rfl⟩
instance : Ld Tryz.prog 98 false 1 := ⟨by kernel_rfl⟩
instance : Ze Tryz.prog 99 [.un] := ⟨by kernel_rfl⟩
instance : Ld Tryz.prog 99 false 1 := ⟨by kernel_rfl⟩
instance : Ze Tryz.prog 100 [.un] := ⟨by kernel_rfl⟩
instance : Ld Tryz.prog 100 false 1 := ⟨by kernel_rfl⟩
instance : Ze Tryz.prog 101 [.un] := ⟨by kernel_rfl⟩
instance : Ld Tryz.prog 101 false 1 := ⟨by kernel_rfl⟩
instance : Ze Tryz.prog 102 [.un] := ⟨by kernel_rfl⟩
instance : Ld Tryz.prog 102 false 1 := ⟨by kernel_rfl⟩
instance : Ze Tryz.prog 103 [.un] := ⟨by kernel_rfl⟩
instance : Ld Tryz.prog 103 false 1 := ⟨by kernel_rfl⟩
instance : Ze Tryz.prog 104 [.un] := ⟨by kernel_rfl⟩
instance : Ld Tryz.prog 104 false 1 := ⟨by kernel_rfl⟩
instance : Ze Tryz.prog 105 [.un] := ⟨by kernel_rfl⟩
instance : Ld Tryz.prog 105 false 1 := ⟨by kernel_rfl⟩
instance : Ze Tryz.prog 106 [.un] := ⟨by kernel_rfl⟩
instance : Ld Tryz.prog 106 false 1 := ⟨by kernel_rfl⟩
instance : Ze Tryz.prog 107 [.nil] := ⟨by kernel_rfl⟩
instance : Ld Tryz.prog 107 false 1 := ⟨by kernel_rfl⟩
instance : Sl Tryz.prog 107 188 5 80 [.int .i64 0, .int .i64 0, .str ⟨#[]⟩, .nil, .nil] := ⟨by kernel_rfl, rfl, rfl⟩
instance : Ze Tryz.prog 108 [.un] := ⟨by kernel_rfl⟩
instance : Ld Tryz.prog 108 false 1 := ⟨by kernel_rfl⟩
instance : Ze Tryz.prog 109 [.un] := ⟨by kernel_rfl⟩
instance : Ld Tryz.prog 109 false 1 := ⟨by kernel_rfl⟩
instance : Ze Tryz.prog 110 [.un] := ⟨by kernel_rfl⟩
instance : Ld Tryz.prog 110 false 1 := ⟨by kernel_rfl⟩
instance : Ze Tryz.prog 111 [.nil, .nil] := ⟨by kernel_rfl⟩
instance : Ld Tryz.prog 111 true 2 := ⟨by kernel_rfl⟩
instance : EqT Tryz.prog 111 := ⟨by kernel_rfl⟩
instance : Fld Tryz.prog 111 0 0 false 1 := ⟨by kernel_rfl, rfl⟩
instance : Fld Tryz.prog 111 1 1 false 1 := ⟨by kernel_rfl, rfl⟩
instance : St Tryz.prog 111 [some (0, 1), some (1, 1)] [.nil, .nil] := ⟨by kernel_rfl⟩
instance : Ze Tryz.prog 112 [.nil, .nil] := ⟨by kernel_rfl⟩
instance : Ld Tryz.prog 112 true 2 := ⟨by kernel_rfl⟩
instance : EqT Tryz.prog 112 := ⟨by kernel_rfl⟩
instance : Fld Tryz.prog 112 0 0 false 1 := ⟨by kernel_rfl, rfl⟩
instance : Fld Tryz.prog 112 1 1 false 1 := ⟨by kernel_rfl, rfl⟩
instance : St Tryz.prog 112 [some (0, 1), some (1, 1)] [.nil, .nil] := ⟨by kernel_rfl⟩
instance : Ze Tryz.prog 113 [.un] := ⟨by kernel_rfl⟩
instance : Ld Tryz.prog 113 false 1 := ⟨by kernel_rfl⟩
instance : Ze Tryz.prog 114 [.un] := ⟨by kernel_rfl⟩
instance : Ld Tryz.prog 114 false 1 := ⟨by kernel_rfl⟩
instance : Ze Tryz.prog 115 [.un] := ⟨by kernel_rfl⟩
instance : Ld Tryz.prog 115 false 1 := ⟨by kernel_rfl⟩
instance : Ze Tryz.prog 116 [.int .i64 0, .int .i64 0, .str ⟨#[]⟩] := ⟨by kernel_rfl⟩
instance : Ld Tryz.prog 116 true 3 := ⟨by kernel_rfl⟩
instance : EqT Tryz.prog 116 := ⟨by kernel_rfl⟩
instance : Fld Tryz.prog 116 0 0 false 1 := ⟨by kernel_rfl, rfl⟩
instance : Fld Tryz.prog 116 1 1 true 2 := ⟨by kernel_rfl, rfl⟩
instance : St Tryz.prog 116 [some (0, 1), some (1, 2)] [.int .i64 0, .int .i64 0, .str ⟨#[]⟩] := ⟨by kernel_rfl⟩
instance : Ze Tryz.prog 117 [.un] := ⟨by kernel_rfl⟩
instance : Ld Tryz.prog 117 false 1 := ⟨by kernel_rfl⟩
instance : Ze Tryz.prog 118 [.un] := ⟨by kernel_rfl⟩
instance : Ld Tryz.prog 118 false 1 := ⟨by kernel_rfl⟩
instance : Ze Tryz.prog 119 [.un] := ⟨by kernel_rfl⟩
instance : Ld Tryz.prog 119 false 1 := ⟨by kernel_rfl⟩
instance : Ze Tryz.prog 120 [.un] := ⟨by kernel_rfl⟩
instance : Ld Tryz.prog 120 false 1 := ⟨by kernel_rfl⟩
instance : Ze Tryz.prog 121 [.un] := ⟨by kernel_rfl⟩
instance : Ld Tryz.prog 121 false 1 := ⟨by kernel_rfl⟩
instance : Ze Tryz.prog 122 [.un] := ⟨by kernel_rfl⟩
instance : Ld Tryz.prog 122 false 1 := ⟨by kernel_rfl⟩
instance : Ze Tryz.prog 123 [.un] := ⟨by kernel_rfl⟩
instance : Ld Tryz.prog 123 false 1 := ⟨by kernel_rfl⟩
instance : Ze Tryz.prog 124 [.un] := ⟨by kernel_rfl⟩
instance : Ld Tryz.prog 124 false 1 := ⟨by kernel_rfl⟩
instance : Ze Tryz.prog 125 [.un] := ⟨by kernel_rfl⟩
instance : Ld Tryz.prog 125 false 1 := ⟨by kernel_rfl⟩
instance : Ze Tryz.prog 126 [.str ⟨#[]⟩, .str ⟨#[]⟩, .str ⟨#[]⟩, .str ⟨#[]⟩, .str ⟨#[]⟩, .str ⟨#[]⟩] := ⟨by kernel_rfl⟩
instance : Ld Tryz.prog 126 true 6 := ⟨by kernel_rfl⟩
instance : EqT Tryz.prog 126 := ⟨by kernel_rfl⟩
instance : Ix Tryz.prog 126 6 := ⟨by kernel_rfl⟩
instance : Ar Tryz.prog 126 6 1 := ⟨by kernel_rfl⟩
instance : Az Tryz.prog 126 1 [.str ⟨#[]⟩, .str ⟨#[]⟩, .str ⟨#[]⟩, .str ⟨#[]⟩, .str ⟨#[]⟩, .str ⟨#[]⟩] := ⟨by kernel_rfl, by kernel_rfl⟩
instance : Ze Tryz.prog 127 [.un] := ⟨by kernel_rfl⟩
instance : Ld Tryz.prog 127 false 1 := ⟨by kernel_rfl⟩
instance : Ze Tryz.prog 128 [.un] := ⟨by kernel_rfl⟩
instance : Ld Tryz.prog 128 false 1 := ⟨by kernel_rfl⟩
instance : Ze Tryz.prog 129 [.nil] := ⟨by kernel_rfl⟩
instance : Ld Tryz.prog 129 false 1 := ⟨by kernel_rfl⟩
instance : Sl Tryz.prog 129 5 1 1 [.int .u8 0] := ⟨by kernel_rfl, rfl, rfl⟩
instance : Ze Tryz.prog 130 [.un, .nil] := ⟨by kernel_rfl⟩
instance : Ld Tryz.prog 130 true 2 := ⟨by kernel_rfl⟩
instance : EqT Tryz.prog 130 := ⟨by kernel_rfl⟩
instance : Fld Tryz.prog 130 0 0 false 1 := ⟨by kernel_rfl, rfl⟩
instance : Fld Tryz.prog 130 1 1 false 1 := ⟨by kernel_rfl, rfl⟩
instance : St Tryz.prog 130 [some (0, 1), some (1, 1)] [.un, .nil] := ⟨by kernel_rfl⟩
instance : Ze Tryz.prog 131 [.un, .nil] := ⟨by kernel_rfl⟩
instance : Ld Tryz.prog 131 true 2 := ⟨by kernel_rfl⟩
instance : EqT Tryz.prog 131 := ⟨by kernel_rfl⟩
instance : Fld Tryz.prog 131 0 0 false 1 := ⟨by kernel_rfl, rfl⟩
instance : Fld Tryz.prog 131 1 1 false 1 := ⟨by kernel_rfl, rfl⟩
instance : St Tryz.prog 131 [some (0, 1), some (1, 1)] [.un, .nil] := ⟨by kernel_rfl⟩
instance : Ze Tryz.prog 132 [.un] := ⟨by kernel_rfl⟩
instance : Ld Tryz.prog 132 false 1 := ⟨by kernel_rfl⟩
instance : Ze Tryz.prog 133 [.un] := ⟨by kernel_rfl⟩
instance : Ld Tryz.prog 133 false 1 := ⟨by kernel_rfl⟩
instance : Ze Tryz.prog 134 [.un] := ⟨by kernel_rfl⟩
instance : Ld Tryz.prog 134 false 1 := ⟨by kernel_rfl⟩
instance : Ze Tryz.prog 135 [.un] := ⟨by kernel_rfl⟩
instance : Ld Tryz.prog 135 false 1 := ⟨by kernel_rfl⟩
instance : Ze Tryz.prog 136 [.un] := ⟨by kernel_rfl⟩
instance : Ld Tryz.prog 136 false 1 := ⟨by kernel_rfl⟩
instance : Ze Tryz.prog 137 [.un] := ⟨by kernel_rfl⟩
instance : Ld Tryz.prog 137 false 1 := ⟨by kernel_rfl⟩
instance : Ze Tryz.prog 138 [.bool false, .str ⟨#[]⟩, .int .i64 0, .str ⟨#[]⟩, .str ⟨#[]⟩] := ⟨by kernel_rfl⟩
instance : Ld Tryz.prog 138 true 5 := ⟨by kernel_rfl⟩
instance : EqT Tryz.prog 138 := ⟨by kernel_rfl⟩
instance : Fld Tryz.prog 138 0 0 false 1 := ⟨by kernel_rfl, rfl⟩
instance : Fld Tryz.prog 138 1 1 false 1 := ⟨by kernel_rfl, rfl⟩
instance : Fld Tryz.prog 138 2 2 true 2 := ⟨by kernel_rfl, rfl⟩
instance : Fld Tryz.prog 138 3 4 false 1 := ⟨by kernel_rfl, rfl⟩
instance : St Tryz.prog 138 [some (0, 1), some (1, 1), some (2, 2), some (4, 1)] [.bool false, .str ⟨#[]⟩, .int .i64 0, .str ⟨#[]⟩, .str ⟨#[]⟩] := ⟨by kernel_rfl⟩
instance : Ze Tryz.prog 139 [.bool false, .str ⟨#[]⟩, .int .i64 0, .str ⟨#[]⟩, .str ⟨#[]⟩] := ⟨by kernel_rfl⟩
instance : Ld Tryz.prog 139 true 5 := ⟨by kernel_rfl⟩
instance : EqT Tryz.prog 139 := ⟨by kernel_rfl⟩
instance : Fld Tryz.prog 139 0 0 false 1 := ⟨by kernel_rfl, rfl⟩
instance : Fld Tryz.prog 139 1 1 false 1 := ⟨by kernel_rfl, rfl⟩
instance : Fld Tryz.prog 139 2 2 true 2 := ⟨by kernel_rfl, rfl⟩
instance : Fld Tryz.prog 139 3 4 false 1 := ⟨by kernel_rfl, rfl⟩
instance : St Tryz.prog 139 [some (0, 1), some (1, 1), some (2, 2), some (4, 1)] [.bool false, .str ⟨#[]⟩, .int .i64 0, .str ⟨#[]⟩, .str ⟨#[]⟩] := ⟨by kernel_rfl⟩
instance : Ze Tryz.prog 140 [.un] := ⟨by kernel_rfl⟩
instance : Ld Tryz.prog 140 false 1 := ⟨by kernel_rfl⟩
instance : Ze Tryz.prog 141 [.un] := ⟨by kernel_rfl⟩
instance : Ld Tryz.prog 141 false 1 := ⟨by kernel_rfl⟩
instance : Ze Tryz.prog 142 [.int .u64 0] := ⟨by kernel_rfl⟩
instance : Ld Tryz.prog 142 false 1 := ⟨by kernel_rfl⟩
instance : Kd Tryz.prog 142 .u64 := ⟨by kernel_rfl⟩
instance : Ze Tryz.prog 143 [.un] := ⟨by kernel_rfl⟩
instance : Ld Tryz.prog 143 false 1 := ⟨by kernel_rfl⟩
instance : Ze Tryz.prog 144 [.un] := ⟨by kernel_rfl⟩
instance : Ld Tryz.prog 144 false 1 := ⟨by kernel_rfl⟩
instance : Ze Tryz.prog 145 [.un] := ⟨by kernel_rfl⟩
instance : Ld Tryz.prog 145 false 1 := ⟨by kernel_rfl⟩
instance : Ze Tryz.prog 146 [.un] := ⟨by kernel_rfl⟩
instance : Ld Tryz.prog 146 false 1 := ⟨by kernel_rfl⟩
instance : Ze Tryz.prog 147 [.un] := ⟨by kernel_rfl⟩
instance : Ld Tryz.prog 147 false 1 := ⟨by kernel_rfl⟩
instance : Ze Tryz.prog 148 [.un] := ⟨by kernel_rfl⟩
instance : Ld Tryz.prog 148 false 1 := ⟨by kernel_rfl⟩
instance : Ze Tryz.prog 149 [.un] := ⟨by kernel_rfl⟩
instance : Ld Tryz.prog 149 false 1 := ⟨by kernel_rfl⟩
instance : Ze Tryz.prog 150 [.un] := ⟨by kernel_rfl⟩
instance : Ld Tryz.prog 150 false 1 := ⟨by kernel_rfl⟩
instance : Ze Tryz.prog 151 [.un] := ⟨by kernel_rfl⟩
instance : Ld Tryz.prog 151 false 1 := ⟨by kernel_rfl⟩
instance : Ze Tryz.prog 152 [.un] := ⟨by kernel_rfl⟩
instance : Ld Tryz.prog 152 false 1 := ⟨by kernel_rfl⟩
instance : Ze Tryz.prog 153 [.un] := ⟨by kernel_rfl⟩
instance : Ld Tryz.prog 153 false 1 := ⟨by kernel_rfl⟩
instance : Ze Tryz.prog 154 [.un] := ⟨by kernel_rfl⟩
instance : Ld Tryz.prog 154 false 1 := ⟨by kernel_rfl⟩
instance : Ze Tryz.prog 155 [.un] := ⟨by kernel_rfl⟩
instance : Ld Tryz.prog 155 false 1 := ⟨by kernel_rfl⟩
instance : Ze Tryz.prog 156 [.un] := ⟨by kernel_rfl⟩
instance : Ld Tryz.prog 156 false 1 := ⟨by kernel_rfl⟩
instance : Ze Tryz.prog 157 [.un] := ⟨by kernel_rfl⟩
instance : Ld Tryz.prog 157 false 1 := ⟨by kernel_rfl⟩
instance : Ze Tryz.prog 158 [.un] := ⟨by kernel_rfl⟩
instance : Ld Tryz.prog 158 false 1 := ⟨by kernel_rfl⟩
instance : Ze Tryz.prog 159 [.un] := ⟨by kernel_rfl⟩
instance : Ld Tryz.prog 159 false 1 := ⟨by kernel_rfl⟩
instance : Ze Tryz.prog 160 [.un] := ⟨by kernel_rfl⟩
instance : Ld Tryz.prog 160 false 1 := ⟨by kernel_rfl⟩
instance : Ze Tryz.prog 161 [.un] := ⟨by kernel_rfl⟩
instance : Ld Tryz.prog 161 false 1 := ⟨by kernel_rfl⟩
instance : Ze Tryz.prog 162 [.un] := ⟨by kernel_rfl⟩
instance : Ld Tryz.prog 162 false 1 := ⟨by kernel_rfl⟩
instance : Ze Tryz.prog 163 [.int .i64 0, .int .i64 0, .int .i64 0] := ⟨by kernel_rfl⟩
instance : Ld Tryz.prog 163 true 3 := ⟨by kernel_rfl⟩
instance : EqT Tryz.prog 163 := ⟨by kernel_rfl⟩
instance : Fld Tryz.prog 163 0 0 false 1 := ⟨by kernel_rfl, rfl⟩
instance : Fld Tryz.prog 163 1 1 false 1 := ⟨by kernel_rfl, rfl⟩
instance : Fld Tryz.prog 163 2 2 false 1 := ⟨by kernel_rfl, rfl⟩
instance : St Tryz.prog 163 [some (0, 1), some (1, 1), some (2, 1)] [.int .i64 0, .int .i64 0, .int .i64 0] := ⟨by kernel_rfl⟩
instance : Ze Tryz.prog 164 [.int .i64 0, .int .i64 0, .int .i64 0] := ⟨by kernel_rfl⟩
instance : Ld Tryz.prog 164 true 3 := ⟨by kernel_rfl⟩
instance : EqT Tryz.prog 164 := ⟨by kernel_rfl⟩
instance : Fld Tryz.prog 164 0 0 false 1 := ⟨by kernel_rfl, rfl⟩
instance : Fld Tryz.prog 164 1 1 false 1 := ⟨by kernel_rfl, rfl⟩
instance : Fld Tryz.prog 164 2 2 false 1 := ⟨by kernel_rfl, rfl⟩
instance : St Tryz.prog 164 [some (0, 1), some (1, 1), some (2, 1)] [.int .i64 0, .int .i64 0, .int .i64 0] := ⟨by kernel_rfl⟩
instance : Ze Tryz.prog 165 [.un] := ⟨by kernel_rfl⟩
instance : Ld Tryz.prog 165 false 1 := ⟨by kernel_rfl⟩
instance : Ze Tryz.prog 166 [.un] := ⟨by kernel_rfl⟩
instance : Ld Tryz.prog 166 false 1 := ⟨by kernel_rfl⟩
instance : Ze Tryz.prog 167 [.un] := ⟨by kernel_rfl⟩
instance : Ld Tryz.prog 167 false 1 := ⟨by kernel_rfl⟩
instance : Ze Tryz.prog 168 [.nil] := ⟨by kernel_rfl⟩
instance : Ld Tryz.prog 168 false 1 := ⟨by kernel_rfl⟩
instance : Sl Tryz.prog 168 87 3 32 [.int .i64 0, .int .i64 0, .str ⟨#[]⟩] := ⟨by kernel_rfl, rfl, rfl⟩
instance : Ze Tryz.prog 169 [.un] := ⟨by kernel_rfl⟩
instance : Ld Tryz.prog 169 false 1 := ⟨by kernel_rfl⟩
instance : Ze Tryz.prog 170 [.un] := ⟨by kernel_rfl⟩
instance : Ld Tryz.prog 170 false 1 := ⟨by kernel_rfl⟩
instance : Ze Tryz.prog 171 [.un] := ⟨by kernel_rfl⟩
instance : Ld Tryz.prog 171 false 1 := ⟨by kernel_rfl⟩
instance : Ze Tryz.prog 172 [.nil] := ⟨by kernel_rfl⟩
instance : Ld Tryz.prog 172 false 1 := ⟨by kernel_rfl⟩
instance : Sl Tryz.prog 172 184 3 24 [.int .i64 0, .int .i64 0, .int .i64 0] := ⟨by kernel_rfl, rfl, rfl⟩
instance : Ze Tryz.prog 173 [.un] := ⟨by kernel_rfl⟩
instance : Ld Tryz.prog 173 false 1 := ⟨by kernel_rfl⟩
instance : Ze Tryz.prog 174 [.un] := ⟨by kernel_rfl⟩
instance : Ld Tryz.prog 174 false 1 := ⟨by kernel_rfl⟩
instance : Ze Tryz.prog 175 [.un] := ⟨by kernel_rfl⟩
instance : Ld Tryz.prog 175 false 1 := ⟨by kernel_rfl⟩
instance : Ze Tryz.prog 176 [.un] := ⟨by kernel_rfl⟩
instance : Ld Tryz.prog 176 false 1 := ⟨by kernel_rfl⟩
instance : Ze Tryz.prog 177 [.nil] := ⟨by kernel_rfl⟩
instance : Ld Tryz.prog 177 false 1 := ⟨by kernel_rfl⟩
instance : Sl Tryz.prog 177 192 3 56 [.bool false, .nil, .nil] := ⟨by kernel_rfl, rfl, rfl⟩
instance : Ze Tryz.prog 178 [.int .i64 0, .int .i64 0, .int .i64 0, .nil, .nil] := ⟨by kernel_rfl⟩
instance : Ld Tryz.prog 178 true 5 := ⟨by kernel_rfl⟩
instance : EqT Tryz.prog 178 := ⟨by kernel_rfl⟩
instance : Fld Tryz.prog 178 0 0 false 1 := ⟨by kernel_rfl, rfl⟩
instance : Fld Tryz.prog 178 1 1 false 1 := ⟨by kernel_rfl, rfl⟩
instance : Fld Tryz.prog 178 2 2 false 1 := ⟨by kernel_rfl, rfl⟩
instance : Fld Tryz.prog 178 3 3 false 1 := ⟨by kernel_rfl, rfl⟩
instance : Fld Tryz.prog 178 4 4 false 1 := ⟨by kernel_rfl, rfl⟩
instance : St Tryz.prog 178 [some (0, 1), some (1, 1), some (2, 1), some (3, 1), some (4, 1)] [.int .i64 0, .int .i64 0, .int .i64 0, .nil, .nil] := ⟨by kernel_rfl⟩
instance : Ze Tryz.prog 179 [.int .i64 0, .int .i64 0, .int .i64 0, .nil, .nil] := ⟨by kernel_rfl⟩
instance : Ld Tryz.prog 179 true 5 := ⟨by kernel_rfl⟩
instance : EqT Tryz.prog 179 := ⟨by kernel_rfl⟩
instance : Fld Tryz.prog 179 0 0 false 1 := ⟨by kernel_rfl, rfl⟩
instance : Fld Tryz.prog 179 1 1 false 1 := ⟨by kernel_rfl, rfl⟩
instance : Fld Tryz.prog 179 2 2 false 1 := ⟨by kernel_rfl, rfl⟩
instance : Fld Tryz.prog 179 3 3 false 1 := ⟨by kernel_rfl, rfl⟩
instance : Fld Tryz.prog 179 4 4 false 1 := ⟨by kernel_rfl, rfl⟩
instance : St Tryz.prog 179 [some (0, 1), some (1, 1), some (2, 1), some (3, 1), some (4, 1)] [.int .i64 0, .int .i64 0, .int .i64 0, .nil, .nil] := ⟨by kernel_rfl⟩
instance : Ze Tryz.prog 180 [.nil] := ⟨by kernel_rfl⟩
instance : Ld Tryz.prog 180 false 1 := ⟨by kernel_rfl⟩
instance : Sl Tryz.prog 180 176 1 8 [.un] := ⟨by kernel_rfl, rfl, rfl⟩
instance : Ze Tryz.prog 181 [.nil] := ⟨by kernel_rfl⟩
instance : Ld Tryz.prog 181 true 1 := ⟨by kernel_rfl⟩
instance : EqT Tryz.prog 181 := ⟨by kernel_rfl⟩
instance : Fld Tryz.prog 181 0 0 false 1 := ⟨by kernel_rfl, rfl⟩
instance : St Tryz.prog 181 [some (0, 1)] [.nil] := ⟨by kernel_rfl⟩
instance : Ze Tryz.prog 182 [.nil] := ⟨by kernel_rfl⟩
instance : Ld Tryz.prog 182 true 1 := ⟨by kernel_rfl⟩
instance : EqT Tryz.prog 182 := ⟨by kernel_rfl⟩
instance : Fld Tryz.prog 182 0 0 false 1 := ⟨by kernel_rfl, rfl⟩
instance : St Tryz.prog 182 [some (0, 1)] [.nil] := ⟨by kernel_rfl⟩
instance : Ze Tryz.prog 183 [.int .i64 0, .int .i64 0, .int .i64 0] := ⟨by kernel_rfl⟩
instance : Ld Tryz.prog 183 true 3 := ⟨by kernel_rfl⟩
instance : EqT Tryz.prog 183 := ⟨by kernel_rfl⟩
instance : Fld Tryz.prog 183 0 0 false 1 := ⟨by kernel_rfl, rfl⟩
instance : Fld Tryz.prog 183 1 1 false 1 := ⟨by kernel_rfl, rfl⟩
instance : Fld Tryz.prog 183 2 2 false 1 := ⟨by kernel_rfl, rfl⟩
instance : St Tryz.prog 183 [some (0, 1), some (1, 1), some (2, 1)] [.int .i64 0, .int .i64 0, .int .i64 0] := ⟨by kernel_rfl⟩
instance : Ze Tryz.prog 184 [.int .i64 0, .int .i64 0, .int .i64 0] := ⟨by kernel_rfl⟩
instance : Ld Tryz.prog 184 true 3 := ⟨by kernel_rfl⟩
instance : EqT Tryz.prog 184 := ⟨by kernel_rfl⟩
instance : Fld Tryz.prog 184 0 0 false 1 := ⟨by kernel_rfl, rfl⟩
instance : Fld Tryz.prog 184 1 1 false 1 := ⟨by kernel_rfl, rfl⟩
instance : Fld Tryz.prog 184 2 2 false 1 := ⟨by kernel_rfl, rfl⟩
instance : St Tryz.prog 184 [some (0, 1), some (1, 1), some (2, 1)] [.int .i64 0, .int .i64 0, .int .i64 0] := ⟨by kernel_rfl⟩
instance : Ze Tryz.prog 185 [.un] := ⟨by kernel_rfl⟩
instance : Ld Tryz.prog 185 false 1 := ⟨by kernel_rfl⟩
instance : Ze Tryz.prog 186 [.un] := ⟨by kernel_rfl⟩
instance : Ld Tryz.prog 186 false 1 := ⟨by kernel_rfl⟩
instance : Ze Tryz.prog 187 [.int .i64 0, .int .i64 0, .str ⟨#[]⟩, .nil, .nil] := ⟨by kernel_rfl⟩
instance : Ld Tryz.prog 187 true 5 := ⟨by kernel_rfl⟩
instance : EqT Tryz.prog 187 := ⟨by kernel_rfl⟩
instance : Fld Tryz.prog 187 0 0 false 1 := ⟨by kernel_rfl, rfl⟩
instance : Fld Tryz.prog 187 1 1 false 1 := ⟨by kernel_rfl, rfl⟩
instance : Fld Tryz.prog 187 2 2 false 1 := ⟨by kernel_rfl, rfl⟩
instance : Fld Tryz.prog 187 3 3 false 1 := ⟨by kernel_rfl, rfl⟩
instance : Fld Tryz.prog 187 4 4 false 1 := ⟨by kernel_rfl, rfl⟩
instance : St Tryz.prog 187 [some (0, 1), some (1, 1), some (2, 1), some (3, 1), some (4, 1)] [.int .i64 0, .int .i64 0, .str ⟨#[]⟩, .nil, .nil] := ⟨by kernel_rfl⟩
instance : Ze Tryz.prog 188 [.int .i64 0, .int .i64 0, .str ⟨#[]⟩, .nil, .nil] := ⟨by kernel_rfl⟩
instance : Ld Tryz.prog 188 true 5 := ⟨by kernel_rfl⟩
instance : EqT Tryz.prog 188 := ⟨by kernel_rfl⟩
instance : Fld Tryz.prog 188 0 0 false 1 := ⟨by kernel_rfl, rfl⟩
instance : Fld Tryz.prog 188 1 1 false 1 := ⟨by kernel_rfl, rfl⟩
instance : Fld Tryz.prog 188 2 2 false 1 := ⟨by kernel_rfl, rfl⟩
instance : Fld Tryz.prog 188 3 3 false 1 := ⟨by kernel_rfl, rfl⟩
instance : Fld Tryz.prog 188 4 4 false 1 := ⟨by kernel_rfl, rfl⟩
instance : St Tryz.prog 188 [some (0, 1), some (1, 1), some (2, 1), some (3, 1), some (4, 1)] [.int .i64 0, .int .i64 0, .str ⟨#[]⟩, .nil, .nil] := ⟨by kernel_rfl⟩
instance : Ze Tryz.prog 189 [.un] := ⟨by kernel_rfl⟩
instance : Ld Tryz.prog 189 false 1 := ⟨by kernel_rfl⟩
instance : Ze Tryz.prog 190 [.un] := ⟨by kernel_rfl⟩
instance : Ld Tryz.prog 190 false 1 := ⟨by kernel_rfl⟩
instance : Ze Tryz.prog 191 [.bool false, .nil, .nil] := ⟨by kernel_rfl⟩
instance : Ld Tryz.prog 191 true 3 := ⟨by kernel_rfl⟩
instance : EqT Tryz.prog 191 := ⟨by kernel_rfl⟩
instance : Fld Tryz.prog 191 0 0 false 1 := ⟨by kernel_rfl, rfl⟩
instance : Fld Tryz.prog 191 1 1 false 1 := ⟨by kernel_rfl, rfl⟩
instance : Fld Tryz.prog 191 2 2 false 1 := ⟨by kernel_rfl, rfl⟩
instance : St Tryz.prog 191 [some (0, 1), some (1, 1), some (2, 1)] [.bool false, .nil, .nil] := ⟨by kernel_rfl⟩
instance : Ze Tryz.prog 192 [.bool false, .nil, .nil] := ⟨by kernel_rfl⟩
instance : Ld Tryz.prog 192 true 3 := ⟨by kernel_rfl⟩
instance : EqT Tryz.prog 192 := ⟨by kernel_rfl⟩
instance : Fld Tryz.prog 192 0 0 false 1 := ⟨by kernel_rfl, rfl⟩
instance : Fld Tryz.prog 192 1 1 false 1 := ⟨by kernel_rfl, rfl⟩
instance : Fld Tryz.prog 192 2 2 false 1 := ⟨by kernel_rfl, rfl⟩
instance : St Tryz.prog 192 [some (0, 1), some (1, 1), some (2, 1)] [.bool false, .nil, .nil] := ⟨by kernel_rfl⟩
instance : Ze Tryz.prog 193 [.un] := ⟨by kernel_rfl⟩
instance : Ld Tryz.prog 193 false 1 := ⟨by kernel_rfl⟩
instance : Ze Tryz.prog 194 [.un] := ⟨by kernel_rfl⟩
instance : Ld Tryz.prog 194 false 1 := ⟨by kernel_rfl⟩
instance : Ze Tryz.prog 195 [.un] := ⟨by kernel_rfl⟩
instance : Ld Tryz.prog 195 false 1 := ⟨by kernel_rfl⟩
instance : Ze Tryz.prog 196 [.un] := ⟨by kernel_rfl⟩
instance : Ld Tryz.prog 196 false 1 := ⟨by kernel_rfl⟩
instance : Ze Tryz.prog 197 [.un] := ⟨by kernel_rfl⟩
instance : Ld Tryz.prog 197 false 1 := ⟨by kernel_rfl⟩
instance : Ze Tryz.prog 198 [.un] := ⟨by kernel_rfl⟩
instance : Ld Tryz.prog 198 false 1 := ⟨by kernel_rfl⟩
instance : Ze Tryz.prog 199 [.un] := ⟨by kernel_rfl⟩
instance : Ld Tryz.prog 199 false 1 := ⟨by kernel_rfl⟩
instance : Ze Tryz.prog 200 [.un] := ⟨by kernel_rfl⟩
instance : Ld Tryz.prog 200 false 1 := ⟨by kernel_rfl⟩
instance : Ze Tryz.prog 201 [.un] := ⟨by kernel_rfl⟩
instance : Ld Tryz.prog 201 false 1 := ⟨by kernel_rfl⟩
instance : Ze Tryz.prog 202 [.un] := ⟨by kernel_rfl⟩
instance : Ld Tryz.prog 202 false 1 := ⟨by kernel_rfl⟩
instance : Ze Tryz.prog 203 [.un] := ⟨by kernel_rfl⟩
instance : Ld Tryz.prog 203 false 1 := ⟨by kernel_rfl⟩
instance : Ze Tryz.prog 204 [.un] := ⟨by kernel_rfl⟩
instance : Ld Tryz.prog 204 false 1 := ⟨by kernel_rfl⟩
instance : Ze Tryz.prog 205 [.int .u32 0] := ⟨by kernel_rfl⟩
instance : Ld Tryz.prog 205 false 1 := ⟨by kernel_rfl⟩
instance : Kd Tryz.prog 205 .u32 := ⟨by kernel_rfl⟩
instance : Ze Tryz.prog 206 [.un] := ⟨by kernel_rfl⟩
instance : Ld Tryz.prog 206 false 1 := ⟨by kernel_rfl⟩
instance : Ze Tryz.prog 207 [.un] := ⟨by kernel_rfl⟩
instance : Ld Tryz.prog 207 false 1 := ⟨by kernel_rfl⟩
instance : Ze Tryz.prog 208 [.int .u64 0] := ⟨by kernel_rfl⟩
instance : Ld Tryz.prog 208 false 1 := ⟨by kernel_rfl⟩
instance : Kd Tryz.prog 208 .u64 := ⟨by kernel_rfl⟩
instance : Ze Tryz.prog 209 [.un] := ⟨by kernel_rfl⟩
instance : Ld Tryz.prog 209 false 1 := ⟨by kernel_rfl⟩
instance : Ze Tryz.prog 210 [.un] := ⟨by kernel_rfl⟩
instance : Ld Tryz.prog 210 false 1 := ⟨by kernel_rfl⟩
instance : Ze Tryz.prog 211 [.un] := ⟨by kernel_rfl⟩
instance : Ld Tryz.prog 211 false 1 := ⟨by kernel_rfl⟩
instance : Ze Tryz.prog 212 [.un] := ⟨by kernel_rfl⟩
instance : Ld Tryz.prog 212 false 1 := ⟨by kernel_rfl⟩
instance : Ze Tryz.prog 213 [.un] := ⟨by kernel_rfl⟩
instance : Ld Tryz.prog 213 false 1 := ⟨by kernel_rfl⟩
instance : Ze Tryz.prog 214 [.un] := ⟨by kernel_rfl⟩
instance : Ld Tryz.prog 214 false 1 := ⟨by kernel_rfl⟩
instance : Ze Tryz.prog 215 [.un] := ⟨by kernel_rfl⟩
instance : Ld Tryz.prog 215 false 1 := ⟨by kernel_rfl⟩
instance : Ze Tryz.prog 216 [.un] := ⟨by kernel_rfl⟩
instance : Ld Tryz.prog 216 false 1 := ⟨by kernel_rfl⟩
instance : Ze Tryz.prog 217 [.un] := ⟨by kernel_rfl⟩
instance : Ld Tryz.prog 217 false 1 := ⟨by kernel_rfl⟩
instance : Ze Tryz.prog 218 [.un] := ⟨by kernel_rfl⟩
instance : Ld Tryz.prog 218 false 1 := ⟨by kernel_rfl⟩
instance : Ze Tryz.prog 219 [.un] := ⟨by kernel_rfl⟩
instance : Ld Tryz.prog 219 false 1 := ⟨by kernel_rfl⟩
instance : Ze Tryz.prog 220 [.un] := ⟨by kernel_rfl⟩
instance : Ld Tryz.prog 220 false 1 := ⟨by kernel_rfl⟩
instance : Ze Tryz.prog 221 [.un] := ⟨by kernel_rfl⟩
instance : Ld Tryz.prog 221 false 1 := ⟨by kernel_rfl⟩
instance : Ze Tryz.prog 222 [.un] := ⟨by kernel_rfl⟩
instance : Ld Tryz.prog 222 false 1 := ⟨by kernel_rfl⟩
instance : Ze Tryz.prog 223 [.un] := ⟨by kernel_rfl⟩
instance : Ld Tryz.prog 223 false 1 := ⟨by kernel_rfl⟩
instance : Ze Tryz.prog 224 [.un] := ⟨by kernel_rfl⟩
instance : Ld Tryz.prog 224 false 1 := ⟨by kernel_rfl⟩
instance : Ze Tryz.prog 225 [.un] := ⟨by kernel_rfl⟩
instance : Ld Tryz.prog 225 false 1 := ⟨by kernel_rfl⟩
instance : Ze Tryz.prog 226 [.un] := ⟨by kernel_rfl⟩
instance : Ld Tryz.prog 226 false 1 := ⟨by kernel_rfl⟩
instance : Ze Tryz.prog 227 [.un] := ⟨by kernel_rfl⟩
instance : Ld Tryz.prog 227 false 1 := ⟨by kernel_rfl⟩
instance : Ze Tryz.prog 228 [.un] := ⟨by kernel_rfl⟩
instance : Ld Tryz.prog 228 false 1 := ⟨by kernel_rfl⟩
instance : Ze Tryz.prog 229 [.un] := ⟨by kernel_rfl⟩
instance : Ld Tryz.prog 229 false 1 := ⟨by kernel_rfl⟩
instance : Ze Tryz.prog 230 [.un] := ⟨by kernel_rfl⟩
instance : Ld Tryz.prog 230 false 1 := ⟨by kernel_rfl⟩
instance : Ze Tryz.prog 231 [.un] := ⟨by kernel_rfl⟩
instance : Ld Tryz.prog 231 false 1 := ⟨by kernel_rfl⟩
instance : Ze Tryz.prog 232 [.un] := ⟨by kernel_rfl⟩
instance : Ld Tryz.prog 232 false 1 := ⟨by kernel_rfl⟩
instance : Ze Tryz.prog 233 [.un] := ⟨by kernel_rfl⟩
instance : Ld Tryz.prog 233 false 1 := ⟨by kernel_rfl⟩
instance : Ze Tryz.prog 234 [.un] := ⟨by kernel_rfl⟩
instance : Ld Tryz.prog 234 false 1 := ⟨by kernel_rfl⟩
instance : Ze Tryz.prog 235 [.un] := ⟨by kernel_rfl⟩
instance : Ld Tryz.prog 235 false 1 := ⟨by kernel_rfl⟩
instance : Ze Tryz.prog 238 [.un] := ⟨by kernel_rfl⟩
instance : Ld Tryz.prog 238 false 1 := ⟨by kernel_rfl⟩
instance : Ze Tryz.prog 239 [.un] := ⟨by kernel_rfl⟩
instance : Ld Tryz.prog 239 false 1 := ⟨by kernel_rfl⟩
instance : Ze Tryz.prog 240 [.un] := ⟨by kernel_rfl⟩
instance : Ld Tryz.prog 240 false 1 := ⟨by kernel_rfl⟩
instance : Ze Tryz.prog 241 [.un] := ⟨by kernel_rfl⟩
instance : Ld Tryz.prog 241 false 1 := ⟨by kernel_rfl⟩
instance : Ze Tryz.prog 242 [.un] := ⟨by kernel_rfl⟩
instance : Ld Tryz.prog 242 false 1 := ⟨by kernel_rfl⟩
instance : Ze Tryz.prog 243 [.int .i64 0] := ⟨by kernel_rfl⟩
instance : Ld Tryz.prog 243 false 1 := ⟨by kernel_rfl⟩
instance : Kd Tryz.prog 243 .i64 := ⟨by kernel_rfl⟩
instance : Ze Tryz.prog 244 [.un] := ⟨by kernel_rfl⟩
instance : Ld Tryz.prog 244 false 1 := ⟨by kernel_rfl⟩
instance : Ze Tryz.prog 245 [.un] := ⟨by kernel_rfl⟩
instance : Ld Tryz.prog 245 false 1 := ⟨by kernel_rfl⟩
instance : Ze Tryz.prog 246 [.un] := ⟨by kernel_rfl⟩
instance : Ld Tryz.prog 246 false 1 := ⟨by kernel_rfl⟩
instance : Ze Tryz.prog 247 [.un] := ⟨by kernel_rfl⟩
instance : Ld Tryz.prog 247 false 1 := ⟨by kernel_rfl⟩
instance : Ze Tryz.prog 248 [.un] := ⟨by kernel_rfl⟩
instance : Ld Tryz.prog 248 false 1 := ⟨by kernel_rfl⟩
instance : Ze Tryz.prog 249 [.un] := ⟨by kernel_rfl⟩
instance : Ld Tryz.prog 249 false 1 := ⟨by kernel_rfl⟩
instance : Ze Tryz.prog 250 [.un] := ⟨by kernel_rfl⟩
instance : Ld Tryz.prog 250 false 1 := ⟨by kernel_rfl⟩
instance : Ze Tryz.prog 251 [.un] := ⟨by kernel_rfl⟩
instance : Ld Tryz.prog 251 false 1 := ⟨by kernel_rfl⟩
instance : Ze Tryz.prog 252 [.un] := ⟨by kernel_rfl⟩
instance : Ld Tryz.prog 252 false 1 := ⟨by kernel_rfl⟩
instance : Ze Tryz.prog 253 [.un] := ⟨by kernel_rfl⟩
instance : Ld Tryz.prog 253 false 1 := ⟨by kernel_rfl⟩
instance : Ze Tryz.prog 254 [.un] := ⟨by kernel_rfl⟩
instance : Ld Tryz.prog 254 false 1 := ⟨by kernel_rfl⟩
instance : Ze Tryz.prog 255 [.un] := ⟨by kernel_rfl⟩
instance : Ld Tryz.prog 255 false 1 := ⟨by kernel_rfl⟩
instance : Ze Tryz.prog 256 [.un] := ⟨by kernel_rfl⟩
instance : Ld Tryz.prog 256 false 1 := ⟨by kernel_rfl⟩
instance : Ze Tryz.prog 257 [.un] := ⟨by kernel_rfl⟩
instance : Ld Tryz.prog 257 false 1 := ⟨by kernel_rfl⟩
instance : Ze Tryz.prog 258 [.un] := ⟨by kernel_rfl⟩
instance : Ld Tryz.prog 258 false 1 := ⟨by kernel_rfl⟩
instance : Ze Tryz.prog 259 [.un] := ⟨by kernel_rfl⟩
instance : Ld Tryz.prog 259 false 1 := ⟨by kernel_rfl⟩
instance : Ze Tryz.prog 260 [.un] := ⟨by kernel_rfl⟩
instance : Ld Tryz.prog 260 false 1 := ⟨by kernel_rfl⟩
instance : Ze Tryz.prog 261 [.int .i64 0, .int .i64 0, .int .i64 0, .nil, .nil] := ⟨by kernel_rfl⟩
instance : Ld Tryz.prog 261 true 5 := ⟨by kernel_rfl⟩
instance : EqT Tryz.prog 261 := ⟨by kernel_rfl⟩
instance : Fld Tryz.prog 261 0 0 false 1 := ⟨by kernel_rfl, rfl⟩
instance : Fld Tryz.prog 261 1 1 false 1 := ⟨by kernel_rfl, rfl⟩
instance : Fld Tryz.prog 261 2 2 false 1 := ⟨by kernel_rfl, rfl⟩
instance : Fld Tryz.prog 261 3 3 false 1 := ⟨by kernel_rfl, rfl⟩
instance : Fld Tryz.prog 261 4 4 false 1 := ⟨by kernel_rfl, rfl⟩
instance : St Tryz.prog 261 [some (0, 1), some (1, 1), some (2, 1), some (3, 1), some (4, 1)] [.int .i64 0, .int .i64 0, .int .i64 0, .nil, .nil] := ⟨by kernel_rfl⟩
instance : Ze Tryz.prog 262 [.int .i64 0, .int .i64 0, .int .i64 0, .nil, .nil] := ⟨by kernel_rfl⟩
instance : Ld Tryz.prog 262 true 5 := ⟨by kernel_rfl⟩
instance : EqT Tryz.prog 262 := ⟨by kernel_rfl⟩
instance : Fld Tryz.prog 262 0 0 false 1 := ⟨by kernel_rfl, rfl⟩
instance : Fld Tryz.prog 262 1 1 false 1 := ⟨by kernel_rfl, rfl⟩
instance : Fld Tryz.prog 262 2 2 false 1 := ⟨by kernel_rfl, rfl⟩
instance : Fld Tryz.prog 262 3 3 false 1 := ⟨by kernel_rfl, rfl⟩
instance : Fld Tryz.prog 262 4 4 false 1 := ⟨by kernel_rfl, rfl⟩
instance : St Tryz.prog 262 [some (0, 1), some (1, 1), some (2, 1), some (3, 1), some (4, 1)] [.int .i64 0, .int .i64 0, .int .i64 0, .nil, .nil] := ⟨by kernel_rfl⟩
instance : Ze Tryz.prog 263 [.nil] := ⟨by kernel_rfl⟩
instance : Ld Tryz.prog 263 false 1 := ⟨by kernel_rfl⟩
instance : Sl Tryz.prog 263 262 5 72 [.int .i64 0, .int .i64 0, .int .i64 0, .nil, .nil] := ⟨by kernel_rfl, rfl, rfl⟩
instance : Ze Tryz.prog 264 [.nil] := ⟨by kernel_rfl⟩
instance : Ld Tryz.prog 264 true 1 := ⟨by kernel_rfl⟩
instance : EqT Tryz.prog 264 := ⟨by kernel_rfl⟩
instance : Fld Tryz.prog 264 0 0 false 1 := ⟨by kernel_rfl, rfl⟩
instance : St Tryz.prog 264 [some (0, 1)] [.nil] := ⟨by kernel_rfl⟩
instance : Ze Tryz.prog 265 [.nil] := ⟨by kernel_rfl⟩
instance : Ld Tryz.prog 265 true 1 := ⟨by kernel_rfl⟩
instance : EqT Tryz.prog 265 := ⟨by kernel_rfl⟩
instance : Fld Tryz.prog 265 0 0 false 1 := ⟨by kernel_rfl, rfl⟩
instance : St Tryz.prog 265 [some (0, 1)] [.nil] := ⟨by kernel_rfl⟩
instance : Ze Tryz.prog 266 [.un] := ⟨by kernel_rfl⟩
instance : Ld Tryz.prog 266 false 1 := ⟨by kernel_rfl⟩
instance : Ze Tryz.prog 267 [.un] := ⟨by kernel_rfl⟩
instance : Ld Tryz.prog 267 false 1 := ⟨by kernel_rfl⟩
instance : Ze Tryz.prog 268 [.un] := ⟨by kernel_rfl⟩
instance : Ld Tryz.prog 268 false 1 := ⟨by kernel_rfl⟩
instance : Ze Tryz.prog 269 [.un] := ⟨by kernel_rfl⟩
instance : Ld Tryz.prog 269 false 1 := ⟨by kernel_rfl⟩
instance : Ze Tryz.prog 270 [.un] := ⟨by kernel_rfl⟩
instance : Ld Tryz.prog 270 false 1 := ⟨by kernel_rfl⟩
instance : Ze Tryz.prog 271 [.un] := ⟨by kernel_rfl⟩
instance : Ld Tryz.prog 271 false 1 := ⟨by kernel_rfl⟩
instance : Ze Tryz.prog 272 [.un] := ⟨by kernel_rfl⟩
instance : Ld Tryz.prog 272 false 1 := ⟨by kernel_rfl⟩
instance : Ze Tryz.prog 273 [.un] := ⟨by kernel_rfl⟩
instance : Ld Tryz.prog 273 false 1 := ⟨by kernel_rfl⟩
instance : Ze Tryz.prog 274 [.un] := ⟨by kernel_rfl⟩
instance : Ld Tryz.prog 274 false 1 := ⟨by kernel_rfl⟩
instance : Ze Tryz.prog 275 [.str ⟨#[]⟩, .str ⟨#[]⟩, .str ⟨#[]⟩] := ⟨by kernel_rfl⟩
instance : Ld Tryz.prog 275 true 3 := ⟨by kernel_rfl⟩
instance : EqT Tryz.prog 275 := ⟨by kernel_rfl⟩
instance : Ix Tryz.prog 275 3 := ⟨by kernel_rfl⟩
instance : Ar Tryz.prog 275 3 1 := ⟨by kernel_rfl⟩
instance : Az Tryz.prog 275 1 [.str ⟨#[]⟩, .str ⟨#[]⟩, .str ⟨#[]⟩] := ⟨by kernel_rfl, by kernel_rfl⟩
instance : Ze Tryz.prog 276 [.un] := ⟨by kernel_rfl⟩
instance : Ld Tryz.prog 276 false 1 := ⟨by kernel_rfl⟩
instance : Ze Tryz.prog 277 [.un] := ⟨by kernel_rfl⟩
instance : Ld Tryz.prog 277 false 1 := ⟨by kernel_rfl⟩
instance : Ze Tryz.prog 278 [.un] := ⟨by kernel_rfl⟩
instance : Ld Tryz.prog 278 false 1 := ⟨by kernel_rfl⟩
instance : Ze Tryz.prog 279 [.un] := ⟨by kernel_rfl⟩
instance : Ld Tryz.prog 279 false 1 := ⟨by kernel_rfl⟩
instance : Ze Tryz.prog 280 [.un] := ⟨by kernel_rfl⟩
instance : Ld Tryz.prog 280 false 1 := ⟨by kernel_rfl⟩
instance : Ze Tryz.prog 281 [.int .u64 0] := ⟨by kernel_rfl⟩
instance : Ld Tryz.prog 281 false 1 := ⟨by kernel_rfl⟩
instance : Kd Tryz.prog 281 .u64 := ⟨by kernel_rfl⟩
instance : Ze Tryz.prog 282 [.un] := ⟨by kernel_rfl⟩
instance : Ld Tryz.prog 282 false 1 := ⟨by kernel_rfl⟩
instance : Ze Tryz.prog 283 [.un] := ⟨by kernel_rfl⟩
instance : Ld Tryz.prog 283 false 1 := ⟨by kernel_rfl⟩
instance : Ze Tryz.prog 284 [.un] := ⟨by kernel_rfl⟩
instance : Ld Tryz.prog 284 false 1 := ⟨by kernel_rfl⟩
instance : Ze Tryz.prog 285 [.un] := ⟨by kernel_rfl⟩
instance : Ld Tryz.prog 285 false 1 := ⟨by kernel_rfl⟩
instance : Ze Tryz.prog 286 [.un] := ⟨by kernel_rfl⟩
instance : Ld Tryz.prog 286 false 1 := ⟨by kernel_rfl⟩
instance : Ze Tryz.prog 287 [.un] := ⟨by kernel_rfl⟩
instance : Ld Tryz.prog 287 false 1 := ⟨by kernel_rfl⟩
instance : Ze Tryz.prog 288 [.un] := ⟨by kernel_rfl⟩
instance : Ld Tryz.prog 288 false 1 := ⟨by kernel_rfl⟩
instance : Ze Tryz.prog 289 [.un] := ⟨by kernel_rfl⟩
instance : Ld Tryz.prog 289 false 1 := ⟨by kernel_rfl⟩
instance : Ze Tryz.prog 290 [.un] := ⟨by kernel_rfl⟩
instance : Ld Tryz.prog 290 false 1 := ⟨by kernel_rfl⟩
instance : Ze Tryz.prog 291 [.un] := ⟨by kernel_rfl⟩
instance : Ld Tryz.prog 291 false 1 := ⟨by kernel_rfl⟩
instance : Ze Tryz.prog 292 [.un] := ⟨by kernel_rfl⟩
instance : Ld Tryz.prog 292 false 1 := ⟨by kernel_rfl⟩
instance : Ze Tryz.prog 293 [.un] := ⟨by kernel_rfl⟩
instance : Ld Tryz.prog 293 false 1 := ⟨by kernel_rfl⟩
instance : Ze Tryz.prog 294 [.un] := ⟨by kernel_rfl⟩
instance : Ld Tryz.prog 294 false 1 := ⟨by kernel_rfl⟩
instance : Ze Tryz.prog 295 [.un] := ⟨by kernel_rfl⟩
instance : Ld Tryz.prog 295 false 1 := ⟨by kernel_rfl⟩
instance : Ze Tryz.prog 296 [.un] := ⟨by kernel_rfl⟩
instance : Ld Tryz.prog 296 false 1 := ⟨by kernel_rfl⟩
instance : Ze Tryz.prog 297 [.un] := ⟨by kernel_rfl⟩
instance : Ld Tryz.prog 297 false 1 := ⟨by kernel_rfl⟩
instance : Ze Tryz.prog 298 [.un] := ⟨by kernel_rfl⟩
instance : Ld Tryz.prog 298 false 1 := ⟨by kernel_rfl⟩
instance : Ze Tryz.prog 299 [.un] := ⟨by kernel_rfl⟩
instance : Ld Tryz.prog 299 false 1 := ⟨by kernel_rfl⟩
instance : Ze Tryz.prog 300 [.un] := ⟨by kernel_rfl⟩
instance : Ld Tryz.prog 300 false 1 := ⟨by kernel_rfl⟩
instance : Ze Tryz.prog 301 [.un] := ⟨by kernel_rfl⟩
instance : Ld Tryz.prog 301 false 1 := ⟨by kernel_rfl⟩
instance : Ze Tryz.prog 303 [.int .u8 0, .int .u8 0] := ⟨by kernel_rfl⟩
instance : Ld Tryz.prog 303 true 2 := ⟨by kernel_rfl⟩
instance : EqT Tryz.prog 303 := ⟨by kernel_rfl⟩
instance : Fld Tryz.prog 303 0 0 false 1 := ⟨by kernel_rfl, rfl⟩
instance : Fld Tryz.prog 303 1 1 false 1 := ⟨by kernel_rfl, rfl⟩
instance : St Tryz.prog 303 [some (0, 1), some (1, 1)] [.int .u8 0, .int .u8 0] := ⟨by kernel_rfl⟩
instance : Ze Tryz.prog 304 [.int .u8 0, .int .u8 0] := ⟨by kernel_rfl⟩
instance : Ld Tryz.prog 304 true 2 := ⟨by kernel_rfl⟩
instance : EqT Tryz.prog 304 := ⟨by kernel_rfl⟩
instance : Fld Tryz.prog 304 0 0 false 1 := ⟨by kernel_rfl, rfl⟩
instance : Fld Tryz.prog 304 1 1 false 1 := ⟨by kernel_rfl, rfl⟩
instance : St Tryz.prog 304 [some (0, 1), some (1, 1)] [.int .u8 0, .int .u8 0] := ⟨by kernel_rfl⟩
instance : Ze Tryz.prog 305 [.int .u8 0, .int .u8 0, .int .u8 0, .int .u8 0, .int .u8 0, .int .u8 0, .int .u8 0, .int .u8 0, .int .u8 0, .int .u8 0, .int .u8 0, .int .u8 0, .int .u8 0, .int .u8 0, .int .u8 0, .int .u8 0, .int .u8 0, .int .u8 0, .int .u8 0, .int .u8 0, .int .u8 0, .int .u8 0, .int .u8 0, .int .u8 0, .int .u8 0, .int .u8 0, .int .u8 0, .int .u8 0, .int .u8 0, .int .u8 0, .int .u8 0, .int .u8 0] := ⟨by kernel_rfl⟩
instance : Ld Tryz.prog 305 true 32 := ⟨by kernel_rfl⟩
instance : EqT Tryz.prog 305 := ⟨by kernel_rfl⟩
instance : Ar Tryz.prog 305 16 2 := ⟨by kernel_rfl⟩
instance : Az Tryz.prog 305 2 [.int .u8 0, .int .u8 0, .int .u8 0, .int .u8 0, .int .u8 0, .int .u8 0, .int .u8 0, .int .u8 0, .int .u8 0, .int .u8 0, .int .u8 0, .int .u8 0, .int .u8 0, .int .u8 0, .int .u8 0, .int .u8 0, .int .u8 0, .int .u8 0, .int .u8 0, .int .u8 0, .int .u8 0, .int .u8 0, .int .u8 0, .int .u8 0, .int .u8 0, .int .u8 0, .int .u8 0, .int .u8 0, .int .u8 0, .int .u8 0, .int .u8 0, .int .u8 0] := ⟨by kernel_rfl, by kernel_rfl⟩
instance : Ze Tryz.prog 306 [.un, .un, .un, .str ⟨#[]⟩] := ⟨by kernel_rfl⟩
instance : Ld Tryz.prog 306 true 4 := ⟨by kernel_rfl⟩
instance : EqT Tryz.prog 306 := ⟨by kernel_rfl⟩
instance : Fld Tryz.prog 306 0 0 false 1 := ⟨by kernel_rfl, rfl⟩
instance : Fld Tryz.prog 306 1 1 false 1 := ⟨by kernel_rfl, rfl⟩
instance : Fld Tryz.prog 306 2 2 false 1 := ⟨by kernel_rfl, rfl⟩
instance : Fld Tryz.prog 306 3 3 false 1 := ⟨by kernel_rfl, rfl⟩
instance : St Tryz.prog 306 [some (0, 1), some (1, 1), some (2, 1), some (3, 1)] [.un, .un, .un, .str ⟨#[]⟩] := ⟨by kernel_rfl⟩
instance : Ze Tryz.prog 307 [.un, .un, .un, .str ⟨#[]⟩] := ⟨by kernel_rfl⟩
instance : Ld Tryz.prog 307 true 4 := ⟨by kernel_rfl⟩
instance : EqT Tryz.prog 307 := ⟨by kernel_rfl⟩
instance : Fld Tryz.prog 307 0 0 false 1 := ⟨by kernel_rfl, rfl⟩
instance : Fld Tryz.prog 307 1 1 false 1 := ⟨by kernel_rfl, rfl⟩
instance : Fld Tryz.prog 307 2 2 false 1 := ⟨by kernel_rfl, rfl⟩
instance : Fld Tryz.prog 307 3 3 false 1 := ⟨by kernel_rfl, rfl⟩
instance : St Tryz.prog 307 [some (0, 1), some (1, 1), some (2, 1), some (3, 1)] [.un, .un, .un, .str ⟨#[]⟩] := ⟨by kernel_rfl⟩
instance : Ze Tryz.prog 308 [] := ⟨by kernel_rfl⟩
instance : Ld Tryz.prog 308 true 0 := ⟨by kernel_rfl⟩
instance : EqT Tryz.prog 308 := ⟨by kernel_rfl⟩
instance : Ix Tryz.prog 308 0 := ⟨by kernel_rfl⟩
instance : Ar Tryz.prog 308 0 1 := ⟨by kernel_rfl⟩
instance : Az Tryz.prog 308 1 [] := ⟨by kernel_rfl, by kernel_rfl⟩
instance : Ze Tryz.prog 309 [] := ⟨by kernel_rfl⟩
instance : Ld Tryz.prog 309 true 0 := ⟨by kernel_rfl⟩
instance : EqT Tryz.prog 309 := ⟨by kernel_rfl⟩
instance : St Tryz.prog 309 [some (0, 0)] [] := ⟨by kernel_rfl⟩
instance : Ze Tryz.prog 310 [] := ⟨by kernel_rfl⟩
instance : Ld Tryz.prog 310 true 0 := ⟨by kernel_rfl⟩
instance : EqT Tryz.prog 310 := ⟨by kernel_rfl⟩
instance : St Tryz.prog 310 [some (0, 0)] [] := ⟨by kernel_rfl⟩
instance : Ze Tryz.prog 311 [.int .u8 0] := ⟨by kernel_rfl⟩
instance : Ld Tryz.prog 311 false 1 := ⟨by kernel_rfl⟩
instance : Kd Tryz.prog 311 .u8 := ⟨by kernel_rfl⟩
instance : Ze Tryz.prog 312 [.int .u8 0] := ⟨by kernel_rfl⟩
instance : Ld Tryz.prog 312 false 1 := ⟨by kernel_rfl⟩
instance : Kd Tryz.prog 312 .u8 := ⟨by kernel_rfl⟩
instance : Ze Tryz.prog 313 [.un] := ⟨by kernel_rfl⟩
instance : Ld Tryz.prog 313 false 1 := ⟨by kernel_rfl⟩
instance : Ze Tryz.prog 314 [.int .i32 0] := ⟨by kernel_rfl⟩
instance : Ld Tryz.prog 314 false 1 := ⟨by kernel_rfl⟩
instance : Kd Tryz.prog 314 .i32 := ⟨by kernel_rfl⟩
instance : Ze Tryz.prog 315 [.int .i32 0] := ⟨by kernel_rfl⟩
instance : Ld Tryz.prog 315 false 1 := ⟨by kernel_rfl⟩
instance : Kd Tryz.prog 315 .i32 := ⟨by kernel_rfl⟩
instance : Ze Tryz.prog 316 [.int .u64 0, .int .u64 0, .int .u32 0, .int .u8 0, .int .u8 0, .int .u8 0, .int .u8 0, .un, .un, .int .i32 0, .int .i32 0] := ⟨by kernel_rfl⟩
instance : Ld Tryz.prog 316 true 11 := ⟨by kernel_rfl⟩
instance : EqT Tryz.prog 316 := ⟨by kernel_rfl⟩
instance : Fld Tryz.prog 316 0 0 false 1 := ⟨by kernel_rfl, rfl⟩
instance : Fld Tryz.prog 316 1 1 false 1 := ⟨by kernel_rfl, rfl⟩
instance : Fld Tryz.prog 316 2 2 false 1 := ⟨by kernel_rfl, rfl⟩
instance : Fld Tryz.prog 316 3 3 false 1 := ⟨by kernel_rfl, rfl⟩
instance : Fld Tryz.prog 316 4 4 false 1 := ⟨by kernel_rfl, rfl⟩
instance : Fld Tryz.prog 316 5 5 false 1 := ⟨by kernel_rfl, rfl⟩
instance : Fld Tryz.prog 316 6 6 false 1 := ⟨by kernel_rfl, rfl⟩
instance : Fld Tryz.prog 316 7 7 false 1 := ⟨by kernel_rfl, rfl⟩
instance : Fld Tryz.prog 316 8 8 false 1 := ⟨by kernel_rfl, rfl⟩
instance : Fld Tryz.prog 316 9 9 false 1 := ⟨by kernel_rfl, rfl⟩
instance : Fld Tryz.prog 316 10 10 false 1 := ⟨by kernel_rfl, rfl⟩
instance : St Tryz.prog 316 [some (0, 1), some (1, 1), some (2, 1), some (3, 1), some (4, 1), some (5, 1), some (6, 1), some (7, 1), some (8, 1), some (9, 1), some (10, 1)] [.int .u64 0, .int .u64 0, .int .u32 0, .int .u8 0, .int .u8 0, .int .u8 0, .int .u8 0, .un, .un, .int .i32 0, .int .i32 0] := ⟨by kernel_rfl⟩
instance : Ze Tryz.prog 317 [.int .u64 0, .int .u64 0, .int .u32 0, .int .u8 0, .int .u8 0, .int .u8 0, .int .u8 0, .un, .un, .int .i32 0, .int .i32 0] := ⟨by kernel_rfl⟩
instance : Ld Tryz.prog 317 true 11 := ⟨by kernel_rfl⟩
instance : EqT Tryz.prog 317 := ⟨by kernel_rfl⟩
instance : Fld Tryz.prog 317 0 0 false 1 := ⟨by kernel_rfl, rfl⟩
instance : Fld Tryz.prog 317 1 1 false 1 := ⟨by kernel_rfl, rfl⟩
instance : Fld Tryz.prog 317 2 2 false 1 := ⟨by kernel_rfl, rfl⟩
instance : Fld Tryz.prog 317 3 3 false 1 := ⟨by kernel_rfl, rfl⟩
instance : Fld Tryz.prog 317 4 4 false 1 := ⟨by kernel_rfl, rfl⟩
instance : Fld Tryz.prog 317 5 5 false 1 := ⟨by kernel_rfl, rfl⟩
instance : Fld Tryz.prog 317 6 6 false 1 := ⟨by kernel_rfl, rfl⟩
instance : Fld Tryz.prog 317 7 7 false 1 := ⟨by kernel_rfl, rfl⟩
instance : Fld Tryz.prog 317 8 8 false 1 := ⟨by kernel_rfl, rfl⟩
instance : Fld Tryz.prog 317 9 9 false 1 := ⟨by kernel_rfl, rfl⟩
instance : Fld Tryz.prog 317 10 10 false 1 := ⟨by kernel_rfl, rfl⟩
instance : St Tryz.prog 317 [some (0, 1), some (1, 1), some (2, 1), some (3, 1), some (4, 1), some (5, 1), some (6, 1), some (7, 1), some (8, 1), some (9, 1), some (10, 1)] [.int .u64 0, .int .u64 0, .int .u32 0, .int .u8 0, .int .u8 0, .int .u8 0, .int .u8 0, .un, .un, .int .i32 0, .int .i32 0] := ⟨by kernel_rfl⟩
instance : WInv Tryz.prog := ⟨fun W => ∃ m, W.cell? ⟨0, 0, none⟩ = some (.int .i64 m)⟩
theorem mix : Tryz.prog.follows .mixedOrders = true := by kernel_rfl
end VL
end Go.Proofs.YthmlnffponjikaaGreatDoor
namespace Go.Proofs.YthmlnffponjikaaGreatDoor
namespace VL
open Go.RowKit
theorem sz_mk (a : Array UInt8) : ByteArray.size ⟨a⟩ = a.size := rfl
section
variable {P : Program} [WInv P]
theorem pws_one {c : Code} {s s' : FS} {e : Ex} {Q : Ex → FS → Prop} (h : RunC P c s e s') (hq : Q e s') : PWs P [c] Q s := ⟨e, s', h, by cases e <;> exact hq⟩
theorem contract_runOE (hmix : P.follows .mixedOrders = true) {f : FuncId} {fn : Func} {c : Code} {args : List PV} {j : Nat} {os : List PV} {R : PV → List PV → Prop} (hf : P.funcs[f]? = some fn) (hg : isGo P f = true) (hb : fn.body = some c) (hok : (decide (args.length ≤ fn.ntmps) && codeOK fn.ntmps c) = true)
    (h : PWs P [c] (fun e s => ∃ res obj', R res obj' ∧ RetO P fn.results.toList res j obj' e s) (mkS (argTm 0 args) [(j, some ((0, j), .box os))] 1)) : ∃ res obj', R res obj' ∧ Contract P f args (some (j, os)) res obj' := by
  obtain ⟨e, s', h1, res, obj', h2, h3⟩ := pw_of_one h
  exact ⟨res, obj', h2, contract_runO hmix hf hg hb hok (pws_one h1 h3)⟩
theorem contract_runE (hmix : P.follows .mixedOrders = true) {f : FuncId} {fn : Func} {c : Code} {args : List PV} {R : PV → Prop} (hf : P.funcs[f]? = some fn) (hg : isGo P f = true) (hb : fn.body = some c) (hok : (decide (args.length ≤ fn.ntmps) && codeOK fn.ntmps c) = true)
    (h : PWs P [c] (fun e s => ∃ res, R res ∧ RetQ P fn.results.toList res e s) (mkS (argTm 0 args) [] 1)) : ∃ res, R res ∧ Contract0 P f args res := by
  obtain ⟨e, s', h1, res, h2, h3⟩ := pw_of_one h
  exact ⟨res, h2, contract_run hmix hf hg hb hok (pws_one h1 h3)⟩
/-- Ways that part come together again. -/
def joinK {α : Type} (St : α → Nat → FS) (J : α → Prop) (Q : Ex → FS → Prop) : Ex → FS → Prop
  | .normal, s => ∃ a ng, J a ∧ Shift s (St a ng)
  | e, s => Q e s
theorem pws_join {α : Type} {c c2 : Code} {cs : List Code} {Q : Ex → FS → Prop} {s : FS} (St : α → Nat → FS) (J : α → Prop) (h : PWs P [c] (joinK St J Q) s) (k : ∀ a ng, J a → PWs P (c2 :: cs) Q (St a ng)) : PWs P (c :: c2 :: cs) Q s := by
  refine pw_mono (pw_of_one h) fun e s' h => ?_
  cases e with
  | normal =>
    obtain ⟨a, ng, h1, h2⟩ := h
    exact pws_shift h2 (k a ng h1) (by simp)
  | exit id => exact h
  | ret => exact h
theorem jk_normal {α : Type} {St : α → Nat → FS} {J : α → Prop} {Q : Ex → FS → Prop} {s : FS} (a : α) (ng : Nat) (h1 : J a) (h3 : Shift s (St a ng)) : joinK St J Q .normal s := ⟨a, ng, h1, h3⟩
end
end VL
end Go.Proofs.YthmlnffponjikaaGreatDoor
namespace Go.Proofs.YthmlnffponjikaaGreatDoor
namespace VL
open Go.RowKit
/-- New names and what they stand for. -/
def toG (σ : List (Gen × Gen)) (g : Gen) : Option Gen := if g.1 = 0 then some g else (σ.find? fun q => q.1 == g).map (·.2)
def ren1 (σ : List (Gen × Gen)) : PV → Option PV
  | .ptr t g o => (toG σ g).map fun g => .ptr t g o
  | .elp t g i k o => (toG σ g).map fun g => .elp t g i k o
  | .row t g => (toG σ g).map fun g => .row t g
  | .agg _ => none
  | .tup _ => none
  | .fn _ _ => none
  | p => some p
def renL (σ : List (Gen × Gen)) : List PV → Option (List PV)
  | [] => some []
  | p :: ps => match ren1 σ p, renL σ ps with
    | some q, some qs => some (q :: qs)
    | _, _ => none
def ren (σ : List (Gen × Gen)) : PV → Option PV
  | .agg ps => (renL σ ps).map .agg
  | p => ren1 σ p
def renV (σ : List (Gen × Gen)) : Option (Gen × VObj) → Option (Gen × VObj)
  | some (g, .box cs) => match toG σ g, renL σ cs with
    | some g, some cs => some (g, .box cs)
    | _, _ => none
  | some (g, .row E k sh els) => (toG σ g).map fun g => (g, .row E k sh els)
  | none => none
def renC (σ : List (Gen × Gen)) (x : Ctx) : Ctx := ⟨fun g' => ∃ g, toG σ g' = some g ∧ x.G g, x.F, x.W, fun g' => x.ρ ((toG σ g').getD g')⟩
section
variable {σ : List (Gen × Gen)} {x : Ctx}
theorem ren1_rep {p q : PV} {v : Value} (h : ren1 σ p = some q) (hr : Rep x q v) : Rep (renC σ x) p v := by
  cases p with
  | ptr t g' o =>
    simp only [ren1, Option.map_eq_some_iff] at h
    obtain ⟨g, h1, rfl⟩ := h
    cases hr with
    | ptr _ _ _ b hG hb => exact .ptr _ _ _ b ⟨g, h1, hG⟩ (by simp only [renC, h1]; exact hb)
  | elp t g' i k o =>
    simp only [ren1, Option.map_eq_some_iff] at h
    obtain ⟨g, h1, rfl⟩ := h
    cases hr with
    | elp _ _ _ _ _ b hG hb => exact .elp _ _ _ _ _ b ⟨g, h1, hG⟩ (by simp only [renC, h1]; exact hb)
  | row t g' =>
    simp only [ren1, Option.map_eq_some_iff] at h
    obtain ⟨g, h1, rfl⟩ := h
    cases hr with
    | row _ _ A n c hG hv => exact .row _ _ A n c ⟨g, h1, hG⟩ (by simp only [renC, h1]; exact hv)
  | agg ps => cases h
  | tup ps => cases h
  | fn f ps => cases h
  | un => exact .un _
  | nil =>
    injection h with h
    subst h
    cases hr
    exact .nil
  | cel cs =>
    injection h with h
    subst h
    cases hr with
    | cel _ b off f hcell hh => exact .cel cs b off f hcell fun j p hp => (hh j p hp).pure_mono (hcell j p hp).1 (fun _ _ h => h) (fun _ _ _ _ h => h)
  | bool b => injection h with h; subst h; exact hr.pure_mono rfl (fun _ _ h => h) (fun _ _ _ _ h => h)
  | int k n => injection h with h; subst h; exact hr.pure_mono rfl (fun _ _ h => h) (fun _ _ _ _ h => h)
  | str s => injection h with h; subst h; exact hr.pure_mono rfl (fun _ _ h => h) (fun _ _ _ _ h => h)
  | sl els => injection h with h; subst h; exact hr.pure_mono rfl (fun _ _ h => h) (fun _ _ _ _ h => h)
theorem ren1_cell {p q : PV} (h : ren1 σ p = some q) (hq : q.cell = true) : p.cell = true := by
  cases p with
  | ptr t g' o => rfl
  | row t g' => rfl
  | agg ps => cases h
  | tup ps => cases h
  | fn f ps => cases h
  | elp t g' i k o =>
    simp only [ren1, Option.map_eq_some_iff] at h
    obtain ⟨g, h1, rfl⟩ := h
    cases hq
  | un => injection h with h; subst h; exact hq
  | nil => rfl
  | cel cs => injection h with h; subst h; exact hq
  | bool b => rfl
  | int k n => rfl
  | str s => rfl
  | sl els => rfl
theorem renL_spec : ∀ {ps qs : List PV}, renL σ ps = some qs → ps.length = qs.length ∧ ∀ (i : Nat) (p : PV), ps[i]? = some p → ∃ q, qs[i]? = some q ∧ ren1 σ p = some q
  | [], qs, h => by
    injection h with h
    subst h
    exact ⟨rfl, fun i p hp => by simp at hp⟩
  | p :: ps, qs, h => by
    simp only [renL] at h
    split at h
    · rename_i q qs' h1 h2
      injection h with h
      subst h
      obtain ⟨h3, h4⟩ := renL_spec h2
      refine ⟨by simp [h3], fun i p' hp => ?_⟩
      cases i with
      | zero =>
        simp only [List.getElem?_cons_zero, Option.some.injEq] at hp
        subst hp
        exact ⟨q, rfl, h1⟩
      | succ i =>
        simp only [List.getElem?_cons_succ] at hp ⊢
        exact h4 i p' hp
    · cases h
theorem ren_rep {p q : PV} {v : Value} (h : ren σ p = some q) (hr : Rep x q v) : Rep (renC σ x) p v := by
  cases p with
  | agg ps =>
    simp only [ren, Option.map_eq_some_iff] at h
    obtain ⟨qs, h1, rfl⟩ := h
    obtain ⟨h2, h3⟩ := renL_spec h1
    cases hr with
    | agg _ cs hl hh =>
      refine .agg ps cs (h2.trans hl) fun i p v hp hv => ?_
      obtain ⟨q, hq, hpq⟩ := h3 i p hp
      exact ren1_rep hpq (hh i q v hq hv)
  | _ => exact ren1_rep h hr
theorem renV_rep {B : Nat} {D : Nat → Prop} {g' g : Gen} {o' o : VObj} (h : renV σ (some (g', o')) = some (g, o)) (hr : x.G g ∧ ObRep x B D g o) : toG σ g' = some g ∧ (renC σ x).G g' ∧ ObRep (renC σ x) B D g' o' := by
  cases o' with
  | box cs' =>
    simp only [renV] at h
    split at h
    · rename_i g1 cs h1 h2
      injection h with h
      injection h with e1 e2
      subst e1 e2
      refine ⟨h1, ⟨_, h1, hr.1⟩, ?_⟩
      obtain ⟨b, T, vs, q1, q2, q3, q4, q5, q6⟩ := hr.2
      obtain ⟨h3, h4⟩ := renL_spec h2
      refine ⟨b, T, vs, by simp only [renC, h1]; exact q1, q2, h3.trans q3, fun p hp => ?_, fun j p v hp hv => ?_, q6⟩
      · obtain ⟨i, hi⟩ := List.getElem?_of_mem hp
        obtain ⟨q, hq, hpq⟩ := h4 i p hi
        exact ren1_cell hpq (q4 q (List.mem_of_getElem? hq))
      · obtain ⟨q, hq, hpq⟩ := h4 j p hp
        exact ren1_rep hpq (q5 j q v hq hv)
    · cases h
  | row E k sh els =>
    simp only [renV, Option.map_eq_some_iff] at h
    obtain ⟨g1, h1, h2⟩ := h
    injection h2 with e1 e2
    subst e1 e2
    refine ⟨h1, ⟨_, h1, hr.1⟩, ?_⟩
    obtain ⟨q1, q2, vs, q3, q4, q5⟩ := hr.2
    have hρ : (renC σ x).ρ g' = x.ρ g1 := by simp only [renC, h1]; rfl
    refine ⟨q1, q2, vs, by rw [hρ]; exact q3, fun m p v hp hv => (q4 m p v hp hv).pure_mono ?_ (fun _ _ h => h) (fun _ _ _ _ h => h), by rw [hρ]; exact q5⟩
    obtain ⟨e, he, hpe⟩ := List.mem_flatten.1 (List.mem_of_getElem? hp)
    exact q2 e he p hpe
end
def subTR (σ : List (Gen × Gen)) (tm : List (Nat × PV)) : List (Nat × PV) → Prop
  | [] => True
  | (k, v) :: r => ren σ v = some (look tm k) ∧ subTR σ tm r
def subOR (σ : List (Gen × Gen)) (ob : List (Nat × Option (Gen × VObj))) : List (Nat × Option (Gen × VObj)) → Prop
  | [] => True
  | (k, v) :: r => (renV σ v = lookO ob k ∧ (renV σ v).isSome = true) ∧ subOR σ ob r
/-- What is known, under new names. -/
theorem shift_ren (σ : List (Gen × Gen)) {tm tm' : List (Nat × PV)} {ob ob' : List (Nat × Option (Gen × VObj))} {ng ng' : Nat} (h1 : subTR σ tm tm') (h2 : subOR σ ob ob') (h3 : (decide (0 < ng') && σ.all fun q => decide (q.1.1 < ng')) = true) : Shift (mkS tm ob ng) (mkS tm' ob' ng') := fun r a x h => by
  simp only [Bool.and_eq_true, decide_eq_true_eq, List.all_eq_true] at h3
  have k1 : ∀ (l : List (Nat × PV)), subTR σ tm l → ∀ t, look l t = .un ∨ ren σ (look l t) = some (look tm t) := fun l => by
    induction l with
    | nil => intro _ t; exact .inl rfl
    | cons q l ih =>
      obtain ⟨k, v⟩ := q
      intro hl t
      show (if t = k then v else look l t) = _ ∨ ren σ (if t = k then v else look l t) = _
      split
      · rename_i e; subst e; exact .inr hl.1
      · exact ih hl.2 t
  have k2 : ∀ (l : List (Nat × Option (Gen × VObj))), subOR σ ob l → ∀ t, lookO l t = none ∨ (renV σ (lookO l t) = lookO ob t ∧ (renV σ (lookO l t)).isSome = true) := fun l => by
    induction l with
    | nil => intro _ t; exact .inl rfl
    | cons q l ih =>
      obtain ⟨k, v⟩ := q
      intro hl t
      show (if t = k then v else lookO l t) = _ ∨ (renV σ (if t = k then v else lookO l t) = _ ∧ (renV σ (if t = k then v else lookO l t)).isSome = true)
      split
      · rename_i e; subst e; exact .inr hl.1
      · exact ih hl.2 t
  have k3 : ∀ t g' o', lookO ob' t = some (g', o') → ∃ g o, lookO ob t = some (g, o) ∧ renV σ (some (g', o')) = some (g, o) := fun t g' o' ho => by
    rcases k2 ob' h2 t with e | ⟨e1, e2⟩
    · rw [e] at ho; cases ho
    · rw [ho] at e1 e2
      obtain ⟨⟨g, o⟩, hw⟩ := Option.isSome_iff_exists.1 e2
      exact ⟨g, o, by rw [← e1, hw], hw⟩
  refine ⟨renC σ x, rfl, h.defers, h.size, h.gr, fun g' hg' => .inl ?_, fun t => ?_, fun t g' o' ho => ?_, fun t t' g g' o o' b hne e1 e2 hb => ?_, h.flt, h.f0, h.fnew, fun g hg => ?_, h.inv⟩
  · obtain ⟨g, hg, _⟩ := hg'
    unfold toG at hg
    show g'.1 < ng'
    split at hg
    · rename_i e; omega
    · simp only [Option.map_eq_some_iff] at hg
      obtain ⟨q, hq, _⟩ := hg
      have hm := List.mem_of_find?_eq_some hq
      have he := List.find?_some hq
      simp only [beq_iff_eq] at he
      rw [← he]
      exact h3.2 q hm
  · rcases k1 tm' h1 t with e | e
    · show Rep _ (look tm' t) _
      rw [e]; exact .un _
    · exact ren_rep e (h.tm t)
  · obtain ⟨g, o, e1, e2⟩ := k3 t g' o' ho
    exact (renV_rep e2 (h.ob t g o e1)).2
  · obtain ⟨g1, o1, q1, q2⟩ := k3 t g o e1
    obtain ⟨g2, o2, q3, q4⟩ := k3 t' g' o' e2
    have r1 := (renV_rep q2 (h.ob t g1 o1 q1)).1
    have r2 := (renV_rep q4 (h.ob t' g2 o2 q3)).1
    simp only [renC, r1, Option.getD_some] at hb
    simp only [renC, r2, Option.getD_some]
    exact h.apart t t' g1 g2 o1 o2 b hne q1 q3 hb
  · have h0 := h.inv.2 g hg
    have : toG σ g = some g := by unfold toG; rw [if_pos h0]
    exact ⟨⟨g, this, (h.rho g hg).1⟩, by simp only [renC, this, Option.getD_some]; exact (h.rho g hg).2⟩
/-- .. and nil in slot t becomes the row t of its own, under the name (1, t). -/
theorem shift_nilR (σ : List (Gen × Gen)) {tm tm' : List (Nat × PV)} {ob ob' : List (Nat × Option (Gen × VObj))} {ng ng' : Nat} (t E k : Nat) (h0 : look tm t = .nil) (h1 : subTR (((1, t), (ng, 0)) :: σ) ((t, .row t (ng, 0)) :: tm) tm') (h2 : subOR (((1, t), (ng, 0)) :: σ) ((t, some ((ng, 0), .row E k false [])) :: ob) ob')
    (h3 : (decide (0 < ng') && (((1, t), (ng, 0)) :: σ).all fun q => decide (q.1.1 < ng')) = true) : Shift (mkS tm ob ng) (mkS tm' ob' ng') :=
  Shift.trans (shift_row (t := t) (u := t) (E := E) (k := k) h0) (shift_ren (tm := (t, .row t (ng, 0)) :: tm) (ob := (t, some ((ng, 0), .row E k false [])) :: ob) _ h1 h2 h3)
end VL
end Go.Proofs.YthmlnffponjikaaGreatDoor
namespace Go.Proofs.YthmlnffponjikaaGreatDoor
namespace VL
open Go.RowKit

/-- A value that leads to an object. -/
def newVal (o : VObj) (d : Nat) (g : Gen) : PV := match o with
  | .box _ => .ptr d g 0
  | .row _ _ _ _ => .row d g
/-- Function f, called with these values, hands back a new object; nothing else turns. -/
structure ContractN (P : Program) [WInv P] (f : FuncId) (args : List PV) (o : VObj) : Prop where
  isGo : VL.isGo P f = true
  pure : ∀ cs, o = .box cs → cs.all PV.pure = true
  calls : ∀ (x : Ctx) (vs : Array Value), Pre x args none vs → (∀ W', Gr (fun _ => False) x.W W' → WInv.I P W') → Calls P f vs x.W fun e W' =>
    ∃ y v, y.W = W' ∧ e = .returned v ∧ Step x y ∧ Gr (fun _ => False) x.W y.W ∧ (∀ b o, y.F b o → x.F b o ∨ x.W.heap.size ≤ b) ∧ (∀ b o, y.F b o → b < y.W.heap.size) ∧ ∃ g, y.ρ g = v ∧ ObRep y x.W.heap.size (fun _ => False) g o
section
variable {P : Program} [WInv P] {r : Run} {ops : Array Oper} {o : Oper} {i : Nat} {s s' : FS}
omit [WInv P] in
theorem agree_call {f : Operand} {es : Array Operand} {ts : Array TypeId} (ho : o.op = .call { callee := .value f, args := es, argTypes := ts }) (h : Agree ops o s s') :
    es.toList.map (ev s') = es.toList.map (ev s) ∧ (∀ p ∈ es.toList.map (ev s), ∀ t ∈ keysP s.ob p, s.ob t = s'.ob t) ∧ ev s' f = ev s f ∧ ∀ t ∈ keysP s.ob (ev s f), s.ob t = s'.ob t := by
  have hm : ∀ e ∈ es.toList, e ∈ o.op.operands := fun e he => by rw [ho]; simp [Op.operands, Call.operands]; exact .inr (by simpa using he)
  have hf : f ∈ o.op.operands := by rw [ho]; simp [Op.operands, Call.operands]
  refine ⟨(List.map_congr_left fun e he => h.ev e (hm e he)).symm, fun p hp t ht => ?_, (h.ev f hf).symm, fun t ht => h.key hf (by rw [ho]; rfl) t ht⟩
  obtain ⟨e, he, rfl⟩ := List.mem_map.1 hp
  exact h.key (hm e he) (by rw [ho]; rfl) t ht
omit [WInv P] in
theorem ObRep.newOf {x y : Ctx} {B B' : Nat} {D : Nat → Prop} {g g' : Gen} {ob : VObj} (h : ObRep x B (fun _ => False) g ob) (hρ : y.ρ g' = x.ρ g) (hF : y.F = x.F) (hW : y.W = x.W) (hB : B' ≤ B) (hp : ∀ cs, ob = .box cs → cs.all PV.pure = true) : ObRep y B' D g' ob := by
  have hr : ∀ (p : PV) (v : Value), p.pure = true → Rep x p v → Rep y p v := fun p v hp h => h.pure_mono hp (fun _ _ h => by rw [hF]; exact h) (fun _ _ _ _ h => by rw [hW]; exact h)
  cases ob with
  | box cs =>
    obtain ⟨b, T, vs, h1, h2, h3, h4, h5, h6, h7⟩ := h
    refine ⟨b, T, vs, hρ.trans h1, by rw [hW]; exact h2, h3, h4, fun j p w hj hw => hr p w (List.all_eq_true.1 (hp cs rfl) p (List.mem_of_getElem? hj)) (h5 j p w hj hw), .inl (Nat.le_trans hB (h6.resolve_right fun e => e)), fun o => by rw [hF]; exact h7 o⟩
  | row E k sh els =>
    obtain ⟨h1, h2, vs, h3, h4, h5⟩ := h
    refine ⟨h1, h2, vs, ?_, fun m p w hj hw => ?_, fun b hb o ho => h5 b (by rw [← hρ]; exact hb) o (by rw [← hF]; exact ho)⟩
    · rw [hW, hρ]
      exact ⟨h3.1, h3.2.imp id fun ⟨b, cap, cur, hv, hB', rest⟩ => ⟨b, cap, cur, hv, Nat.le_trans hB hB', rest⟩⟩
    · obtain ⟨e, he, hpe⟩ := List.mem_flatten.1 (List.mem_of_getElem? hj)
      exact hr p w (h2 e he p hpe) (h4 m p w hj hw)
omit [WInv P] in
theorem newVal_rep {y : Ctx} {B : Nat} {D : Nat → Prop} {g : Gen} {ob : VObj} {d : Nat} {v : Value} (h : ObRep y B D g ob) (hG : y.G g) (hv : y.ρ g = v) : Rep y (newVal ob d g) v := by
  cases ob with
  | box cs =>
    obtain ⟨b, T, vs, h1, _⟩ := h
    rw [← hv, h1]
    exact .ptr _ _ _ b hG (by rw [h1]; rfl)
  | row E k sh els =>
    obtain ⟨_, _, vs, h3, _⟩ := h
    obtain ⟨A, c, e, _⟩ := ownsRow_form h3
    rw [← hv, e]
    exact .row _ _ _ _ _ hG e
/-- A call that hands back a new object. -/
theorem ok_callN {f : FuncId} {es : Array Operand} {ts : Array TypeId} {args : List PV} {us : List (Nat × Option (Gen × VObj))} {dd : Nat} {ob : VObj} (ho : o.op = .call { callee := .value (.func f), args := es, argTypes := ts })
    (ha : resA s.ob (es.toList.map (ev s)) = some (args, us)) (hc : ContractN P f args ob) (hI : r.I = WInv.I P) : OpOK P r o i s ⟨newVal ob dd (s.ng, i), us ++ [(dd, some ((s.ng, i), ob))]⟩ := by
  intro S a x Q hX hi hd
  obtain ⟨F1, st1, hX1, hR1, _⟩ := resA_sound _ (Flip.refl s.ob) hX (g := fun j => (es.map a.eval).getD j undef) ha (fun j p hp => by
    rw [List.getElem?_map] at hp
    cases he : es.toList[j]? with
    | none => rw [he] at hp; simp at hp
    | some e =>
      rw [he] at hp
      simp only [Option.map_some, Option.some.injEq] at hp
      subst hp
      have hea : es[j]? = some e := by simpa using he
      have : (es.map a.eval).getD j undef = a.eval e := by simp [hea]
      rw [this]
      exact ev_rep hX e)
  let z : Ctx := ⟨fun _ => False, F1, x.W, x.ρ⟩
  have hlen : args.length = es.size := by rw [resA_len _ ha]; simp
  have hpre : Pre z args none (es.map a.eval) := by
    refine ⟨by simpa using hlen, fun j p v hp hv => ?_, fun j os h => by simp at h, fun g hg => hg.elim, fun b o hb => hX1.flt b o hb⟩
    obtain ⟨h1, h2⟩ := hR1 j p hp
    rw [Array.getD_eq_getD_getElem?, hv] at h2
    exact h2.clean_mono h1 (fun _ _ h => h) (fun _ _ _ _ h => h)
  have hcalls := hc.calls z _ hpre fun W' hW => by
    rw [← hI]
    exact hX.inv.1 W' (hX.gr.trans' hW.os hW.tape hW.output hW.size fun b hb _ => hW.block b (Nat.lt_of_lt_of_le hb hX.gr.size) fun h => h)
  unfold Oper.wp
  rw [exec_call ho hc.isGo, Oper.upon_enter]
  refine hcalls.mono ?_
  rintro e W' ⟨y, v, rfl, rfl, hst, hgr, hfn, hfl, g0, hv, hob⟩
  have hnew : ¬ x.G (s.ng, i) := fun hg => by
    rcases hX.gens _ hg with e | ⟨_, e⟩
    · exact absurd e (Nat.lt_irrefl _)
    · exact hi e
  let y' : Ctx := ⟨fun g => x.G g ∨ g = (s.ng, i), y.F, y.W, fun g => if g = (s.ng, i) then v else x.ρ g⟩
  have hρ : y'.ρ (s.ng, i) = v := if_pos rfl
  have k : Step { x with F := F1 } y' := ⟨fun g hg => ⟨.inl hg, if_neg (fun (e : g = (s.ng, i)) => hnew (by rw [← e]; exact hg))⟩, fun b o hb => hst.F b o hb, fun b o v hb hv => hst.W b o v hb hv⟩
  have hob' : ∀ {B : Nat} {D : Nat → Prop}, B ≤ x.W.heap.size → ObRep y' B D (s.ng, i) ob := fun hB => hob.newOf (hρ.trans hv.symm) rfl rfl hB hc.pure
  refine ⟨y', rfl, ?_⟩
  rw [app_flips]
  refine hX1.change k hd hgr.os hgr.tape hgr.output hgr.size (fun b hb _ => hgr.block b hb (fun e => e)) hfn hfl (fun g hg => ?_) (.inr rfl) (hob' hX1.gr.size) (fun b hb => .inl ?_) (newVal_rep (hob' (Nat.le_refl _) (D := fun _ => False)) (.inr rfl) hρ)
  · rcases hg with hg | rfl
    · exact (hX.gens g hg).imp id fun ⟨e, f⟩ => ⟨e, .inl f⟩
    · exact .inr ⟨rfl, .inr rfl⟩
  · exact (((hob' (Nat.le_refl _) (D := fun _ => False)).lt b hb).2).resolve_right fun e => e
theorem opR_callN {f : FuncId} {es : Array Operand} {ts : Array TypeId} {args : List PV} {us : List (Nat × Option (Gen × VObj))} {dd : Nat} {ob : VObj} (hw : wantedV ops s o = some true) (ho : o.op = .call { callee := .value (.func f), args := es, argTypes := ts })
    (ha : resA s.ob (es.toList.map (ev s)) = some (args, us)) (hc : ContractN P f args ob) : OpR P ops i o s ⟨newVal ob dd (s.ng, i), us ++ [(dd, some ((s.ng, i), ob))]⟩ := .any hw fun s' r hA hI => by
  obtain ⟨e1, e2, _⟩ := agree_call ho hA
  rw [hA.ng]
  refine ok_callN ho ?_ hc hI
  rw [e1, ← ha]
  exact (resA_congr fun p hp t ht => e2 p hp t (keys2_P ht)).symm
/-- What is handed back, with what it leads to shown to others. -/
def pubO (f : Nat → Option (Gen × VObj)) : VObj → Option (VObj × List (Nat × Option (Gen × VObj)))
  | .box cs => (resL f cs).map fun (qs, us) => (.box qs, us)
  | .row E k false els => some (.row E k false els, [])
  | .row _ _ true _ => none
/-- What a function does that hands back an object of its own. -/
theorem contractN_of (hmix : P.follows .mixedOrders = true) {f : FuncId} {fn : Func} {c : Code} {args : List PV} {e : Ex} {s1 : FS} {t : Nat} {g : Gen} {o2 ob : VObj} {us : List (Nat × Option (Gen × VObj))}
    (hg : isGo P f = true) (hf : P.funcs[f]? = some fn) (hb : fn.body = some c) (hn : args.length ≤ fn.ntmps) (hok : codeOK fn.ntmps c = true) (hrun : RunC P c (initS args none) e s1) (he : e = .normal ∨ e = .ret)
    (hres : resVs P s1 fn.results.toList = some [newVal o2 t g]) (hob : s1.ob t = some (g, o2)) (hpub : pubO s1.ob o2 = some (ob, us)) : ContractN P f args ob := by
  have hpure : ∀ cs, ob = .box cs → cs.all PV.pure = true := fun cs hcs => by
    subst hcs
    cases o2 with
    | row E k sh els => cases sh <;> simp [pubO] at hpub
    | box cs2 =>
      simp only [pubO, Option.map_eq_some_iff] at hpub
      obtain ⟨⟨qs, us'⟩, h1, h2⟩ := hpub
      simp only [Prod.mk.injEq, VObj.box.injEq] at h2
      rw [← h2.1]
      exact resL_pure' _ h1
  refine ⟨hg, hpure, fun x vs hpre hinv => ?_⟩
  let r : Run := ⟨x.W, fun _ => False, (vs ++ Array.replicate (fn.ntmps - vs.size) undef).size, x.F, x.G, x.ρ, WInv.I P⟩
  have hNr : r.N = fn.ntmps := by
    have := hpre.size
    simp [r]
    omega
  have hX : RstX r (fun _ => False) (initS args none) { tmps := vs ++ Array.replicate (fn.ntmps - vs.size) undef, defers := [] } x := by
    refine ⟨rfl, rfl, Gr.refl _ _, fun g hg => ?_, fun t => ?_, fun t g o ho => by simp [initS, initO] at ho, fun t t' g g' o o' b hne h1 h2 => by simp [initS, initO] at h1, hpre.flt, fun _ _ h => h, fun _ _ h => .inl h, fun _ h => ⟨h, rfl⟩, ⟨hinv, fun g hg => by obtain ⟨j, os, h, _⟩ := hpre.gen g hg; cases h⟩⟩
    · obtain ⟨j, os, h, _⟩ := hpre.gen g hg
      cases h
    · show Rep x (args.getD t (.tup [])) _
      rw [Array.getD_eq_getD_getElem?, Array.getElem?_append, List.getD_eq_getElem?_getD]
      by_cases ht : t < vs.size
      · rw [if_pos ht, List.getElem?_eq_getElem (by rw [hpre.size]; exact ht), Array.getElem?_eq_getElem ht]
        exact hpre.rep t _ _ (List.getElem?_eq_getElem (by rw [hpre.size]; exact ht)) (Array.getElem?_eq_getElem ht)
      · rw [if_neg ht, List.getElem?_eq_none (by rw [hpre.size]; omega)]
        have : (Array.replicate (fn.ntmps - vs.size) undef)[t - vs.size]?.getD undef = undef := by
          rw [Array.getElem?_replicate]
          split <;> rfl
        rw [this]
        exact .tup [] #[] rfl (fun i p v hp => by simp at hp)
  refine calls_of_wp hf hb ?_
  refine (runC_sound hmix hrun).1 r _ x _ ⟨rfl, by rw [hNr]; exact hok⟩ hX fun a' y hY => ?_
  obtain ⟨ws, h1, h2, h3⟩ := results_sound hY fn.results.toList hres
  match ws, h2 with
  | [w], _ =>
  have hw : Rep y (newVal o2 t g) w := h3 0 _ rfl
  obtain ⟨hG, hO⟩ := hY.ob t g o2 hob
  have hρw : y.ρ g = w := by
    cases o2 with
    | box cs =>
      obtain ⟨b, T, cv, q1, _⟩ := hO
      cases hw with
      | ptr _ _ _ b2 _ hb2 =>
        rw [q1] at hb2 ⊢
        obtain rfl : b = b2 := by simpa [blk] using hb2
        rfl
    | row E k sh els => cases hw with | row _ _ A n c _ hv => exact hv
  have hend : (results fn a'.tmps).run P y.W = .ok w y.W := by
    have : (fn.results.mapM (resM a')).run P y.W = .ok #[w] y.W := by
      rw [Array.mapM_eq_mapM_toList, map_eq_pure_bind, Sem.run_bind, h1]
      rfl
    have e : results fn a'.tmps = (fn.results.mapM (resM a') >>= fun vs => pure (if h : vs.size = 1 then vs[0] else .tuple vs)) := by
      unfold results
      congr 1
    rw [e, Sem.run_bind, this]
    rfl
  have fin : ∀ (F2 : Nat → Nat → Prop) (s2 : FS), RstX r (fun _ => False) s2 a' { y with F := F2 } → ObRep { y with F := F2 } x.W.heap.size (fun _ => False) g ob →
      ∃ v, (results fn a'.tmps).run P y.W = .ok v y.W ∧ (fun e W' => ∃ y v, y.W = W' ∧ e = Ending.returned v ∧ Step x y ∧ Gr (fun _ => False) x.W y.W ∧ (∀ b o, y.F b o → x.F b o ∨ x.W.heap.size ≤ b) ∧ (∀ b o, y.F b o → b < y.W.heap.size) ∧ ∃ g, y.ρ g = v ∧ ObRep y x.W.heap.size (fun _ => False) g ob) (Ending.returned v) y.W := fun F2 s2 hY2 hO2 => by
    refine ⟨w, hend, { y with F := F2 }, w, rfl, rfl, ⟨fun g hg => hY2.rho g hg, fun b o hb => hY2.f0 b o hb, fun b o v hb hv => ?_⟩, hY2.gr, hY2.fnew, hY2.flt, g, hρw, hO2⟩
    exact (World.cell?_of_block (hY2.gr.block b (hpre.flt b o hb) (fun e => e))).trans hv
  have hfin : ∃ v, (results fn a'.tmps).run P y.W = .ok v y.W ∧ (fun e W' => ∃ y v, y.W = W' ∧ e = Ending.returned v ∧ Step x y ∧ Gr (fun _ => False) x.W y.W ∧ (∀ b o, y.F b o → x.F b o ∨ x.W.heap.size ≤ b) ∧ (∀ b o, y.F b o → b < y.W.heap.size) ∧ ∃ g, y.ρ g = v ∧ ObRep y x.W.heap.size (fun _ => False) g ob) (Ending.returned v) y.W := by
    cases o2 with
    | row E k sh els =>
      cases sh with
      | true => simp [pubO] at hpub
      | false =>
        simp only [pubO, Option.some.injEq, Prod.mk.injEq] at hpub
        obtain ⟨rfl, _⟩ := hpub
        exact fin y.F s1 hY hO
    | box cs2 =>
      simp only [pubO, Option.map_eq_some_iff] at hpub
      obtain ⟨⟨qs, us'⟩, g2, g3⟩ := hpub
      simp only [Prod.mk.injEq] at g3
      obtain ⟨rfl, _⟩ := g3
      obtain ⟨b, T, cv, q1, q2, q3, q4, q5, q6, q7⟩ := hO
      obtain ⟨F2, st2, hY2, hR2, hl2, hf2⟩ := resL_sound cs2 (Flip.refl s1.ob) hY (g := fun j => cv.getD j undef) g2 (fun j p hp => by
        have hlt : j < cv.size := by rw [← q3]; exact (List.getElem?_eq_some_iff.1 hp).1
        have : cv.getD j undef = cv[j] := by simp [hlt]
        rw [this]
        exact q5 j p _ hp (Array.getElem?_eq_getElem hlt))
      obtain ⟨_, b2, T2, cv2, w1, w2, w3, w4, w5, w6, w7⟩ := hY2.ob t _ _ (hf2.box hob)
      change y.ρ g = _ at w1
      rw [q1] at w1
      injection w1 with w1
      injection w1 with w1
      injection w1 with w1
      subst w1
      refine fin F2 _ hY2 ⟨b, T, cv, q1, q2, by rw [hl2, q3], fun p hp => ?_, fun k p v hp hv => ?_, q6, w7⟩
      · obtain ⟨k, hk⟩ := List.getElem?_of_mem hp
        exact PV.cell_of_pure (hR2 k p hk).1
      · have := (hR2 k p hp).2
        rw [Array.getD_eq_getD_getElem?, hv] at this
        exact this
  rcases he with rfl | rfl
  · exact ⟨hY.defers, hfin⟩
  · exact ⟨hY.defers, hfin⟩
/-- How a call ends that hands back an object of its own. -/
def RetN (P : Program) (rs : List ResultVar) (ob : VObj) : Ex → FS → Prop
  | .exit _, _ => False
  | _, s => ∃ t g o2 us, resVs P s rs = some [newVal o2 t g] ∧ s.ob t = some (g, o2) ∧ pubO s.ob o2 = some (ob, us)
omit [WInv P] in
theorem rn_ret {rs : List ResultVar} {ob o2 : VObj} {t : Nat} {g : Gen} {us : List (Nat × Option (Gen × VObj))} (h1 : resVs P s rs = some [newVal o2 t g]) (h2 : s.ob t = some (g, o2)) (h3 : pubO s.ob o2 = some (ob, us)) : RetN P rs ob .ret s := ⟨t, g, o2, us, h1, h2, h3⟩
theorem contract_runN (hmix : P.follows .mixedOrders = true) {f : FuncId} {fn : Func} {c : Code} {args : List PV} {ob : VObj} (hf : P.funcs[f]? = some fn) (hg : isGo P f = true) (hb : fn.body = some c) (hok : (decide (args.length ≤ fn.ntmps) && codeOK fn.ntmps c) = true)
    (h : PWs P [c] (RetN P fn.results.toList ob) (mkS (argTm 0 args) [] 1)) : ContractN P f args ob := by
  simp only [Bool.and_eq_true, decide_eq_true_eq] at hok
  obtain ⟨e, s', h1, h2⟩ := pw_of_one h
  have hsh : Shift (initS args none) (mkS (argTm 0 args) [] 1) := shift_drop (fun t => by
    rcases argTm_look args 0 t with h | ⟨_, h⟩
    · exact .inl h
    · exact .inr h) (fun t => .inl rfl) (Nat.le_refl _)
  cases e with
  | exit id => exact h2.elim
  | normal =>
    obtain ⟨t, g, o2, us, h3, h4, h5⟩ := h2
    exact contractN_of hmix hg hf hb hok.1 hok.2 (.shift hsh h1) (.inl rfl) h3 h4 h5
  | ret =>
    obtain ⟨t, g, o2, us, h3, h4, h5⟩ := h2
    exact contractN_of hmix hg hf hb hok.1 hok.2 (.shift hsh h1) (.inr rfl) h3 h4 h5
theorem contract_runNE (hmix : P.follows .mixedOrders = true) {f : FuncId} {fn : Func} {c : Code} {args : List PV} {R : VObj → Prop} (hf : P.funcs[f]? = some fn) (hg : isGo P f = true) (hb : fn.body = some c) (hok : (decide (args.length ≤ fn.ntmps) && codeOK fn.ntmps c) = true)
    (h : PWs P [c] (fun e s => ∃ ob, R ob ∧ RetN P fn.results.toList ob e s) (mkS (argTm 0 args) [] 1)) : ∃ ob, R ob ∧ ContractN P f args ob := by
  obtain ⟨e, s', h1, ob, h2, h3⟩ := pw_of_one h
  exact ⟨ob, h2, contract_runN hmix hf hg hb hok (pws_one h1 h3)⟩
end
section
variable {P : Program} [WInv P] {ops : Array Oper} {draw : Bool} {i : Nat} {L : List Oper} {acc : List (List Nat × List Nat)} {K : FS → Prop} {tm : List (Nat × PV)} {ob : List (Nat × Option (Gen × VObj))} {ng : Nat}
  {ty : TypeId} {pos : String} {after : Array Edge} {gd : Option (Nat × Bool)}
/-- A call that hands back a new object. -/
theorem g_callN {dd : Nat} {f : FuncId} {es : Array Operand} {ts : Array TypeId} {args : List PV} {us : List (Nat × Option (Gen × VObj))} {o2 : VObj} (hc : ContractN P f args o2) (hw : wantedV ops (mkS tm ob ng) ⟨some dd, .call ⟨.value (.func f), es, ts⟩, ty, pos, after, gd⟩ = some true)
    (ha : resA (lookO ob) (es.toList.map (evL tm)) = some (args, us))
    (k : GoL P ops draw (i + 1) L (acc ++ [(keysO (mkS tm ob ng) ⟨some dd, .call ⟨.value (.func f), es, ts⟩, ty, pos, after, gd⟩, (us ++ [(dd, some ((ng, i), o2))]).map (·.1))])
      (mkS ((dd, newVal o2 dd (ng, i)) :: tm) ((us ++ [(dd, some ((ng, i), o2))]).reverse ++ ob) ng) K) : GoL P ops draw i (⟨some dd, .call ⟨.value (.func f), es, ts⟩, ty, pos, after, gd⟩ :: L) acc (mkS tm ob ng) K := by
  refine go_op (opR_callN (dd := dd) hw rfl (by rw [ev_mkS]; exact ha) hc) ?_
  rw [mkS_app]
  exact k
end
end VL
end Go.Proofs.YthmlnffponjikaaGreatDoor
namespace Go.Proofs.YthmlnffponjikaaGreatDoor
namespace VL
open Go.RowKit

/-- Function f turns a row of plain values in place. -/
structure ContractM (P : Program) [WInv P] (f : FuncId) (E k : Nat) (els els' : List (List PV)) : Prop where
  isGo : VL.isGo P f = true
  len : ∀ e ∈ els', e.length = k
  pure : ∀ e ∈ els', ∀ p ∈ e, p.pure = true
  plain : (plainL els.flatten).isSome = true
  calls : ∀ (W : World) (v : Value) (vs : List Value), W.ownsRow 0 E k v els.length vs → plainL els.flatten = some vs → (∀ W', Gr (fun b => blk v = some b) W W' → WInv.I P W') → Calls P f #[v] W fun e W' =>
    ∃ vs', e = .returned (.tuple #[]) ∧ plainL els'.flatten = some vs' ∧ W'.ownsRow 0 E k v els'.length vs' ∧ Gr (fun b => blk v = some b) W W'
section
variable {P : Program} [WInv P] {r : Run} {ops : Array Oper} {o : Oper} {i : Nat} {s s' : FS}
theorem ok_callM {f : FuncId} {es : Array Operand} {ts : Array TypeId} {t : Nat} {g : Gen} {E k : Nat} {els els' : List (List PV)} (ho : o.op = .call { callee := .value (.func f), args := es, argTypes := ts })
    (he : es.toList.map (ev s) = [.row t g]) (hob : s.ob t = some (g, .row E k false els)) (hc : ContractM P f E k els els') (hI : r.I = WInv.I P) : OpOK P r o i s ⟨.tup [], [(t, some (g, .row E k false els'))]⟩ := by
  intro S a x Q hX hi hd
  obtain ⟨e, hes, hev⟩ : ∃ e, es = #[e] ∧ ev s e = .row t g := by
    match h : es.toList with
    | [] => rw [h] at he; simp at he
    | [e] => rw [h] at he; exact ⟨e, list1 h, by simpa using he⟩
    | _ :: _ :: _ => rw [h] at he; simp at he
  have hr := ev_rep hX e
  rw [hev] at hr
  generalize hv : a.eval e = v at hr
  obtain ⟨hG, hO⟩ := hX.ob t g _ hob
  obtain ⟨h1, h2, vs, h3, h4, h5⟩ := hO
  have hρ : x.ρ g = v := by cases hr with | row _ _ A n c _ hvv => exact hvv
  rw [hρ] at h3
  obtain ⟨vs0, hp0⟩ := Option.isSome_iff_exists.1 hc.plain
  have hvs : vs = vs0 := plainL_rep _ hp0 vs (by rw [flat_len els h1]; exact h3.1.symm) h4
  rw [← hvs] at hp0
  have hbig : r.W0.heap.size ≤ x.W.heap.size := hX.gr.size
  have hown : ∀ b, blk v = some b → r.W0.heap.size ≤ b := fun b hb => by
    rcases h3.2 with ⟨hn, _⟩ | ⟨b', cap, cur, hv', hB, _⟩
    · rw [hn] at hb; simp [blk] at hb
    · rw [hv'] at hb
      obtain rfl : b' = b := by simpa [blk] using hb
      exact hB
  have hcalls := hc.calls x.W v vs ⟨h3.1, h3.2.imp id fun ⟨b, cap, cur, hv, hB', rest⟩ => ⟨b, cap, cur, hv, Nat.zero_le _, rest⟩⟩ hp0 fun W' hW => by
    rw [← hI]
    exact hX.inv.1 W' (hX.gr.trans' hW.os hW.tape hW.output hW.size fun b hb _ => hW.block b (Nat.lt_of_lt_of_le hb hbig) fun e => by have := hown b e; omega)
  unfold Oper.wp
  rw [exec_call ho hc.isGo, Oper.upon_enter, hes]
  have : (#[e].map a.eval) = #[v] := by simp [hv]
  rw [this]
  refine hcalls.mono ?_
  rintro e' W' ⟨vs', rfl, hp', hown', hgr⟩
  have hnF : ∀ b o, x.F b o → ¬ blk v = some b := fun b o hF hb => by
    have := (h5 b (by rw [hρ]; exact hb) o hF).1
    cases this
  let y : Ctx := { x with W := W' }
  have k2 : Step x y := ⟨fun _ h => ⟨h, rfl⟩, fun _ _ h => h, fun b o w hF hw => (World.cell?_of_block (hgr.block b (hX.flt b o hF) (hnF b o hF))).trans hw⟩
  refine ⟨y, rfl, hX.change k2 hd hgr.os hgr.tape hgr.output hgr.size (fun b hb hne => hgr.block b hb fun e => hne g _ hob (by rw [hρ]; exact e)) (fun _ _ h => .inl h) (fun b o hb => Nat.lt_of_lt_of_le (hX.flt b o hb) hgr.size)
    (fun g' hg' => (hX.gens g' hg').imp id fun ⟨e1, e2⟩ => ⟨e1, .inl e2⟩) hG ⟨hc.len, hc.pure, vs', ?_, fun m p w hm hw => ?_, fun b hb o ho => absurd (h5 b hb o ho).1 (by simp)⟩ (fun b hb => .inr ⟨g, _, hob, hb⟩) (.tup [] #[] rfl (fun i p v hp => by simp at hp))⟩
  · show W'.ownsRow r.W0.heap.size E k (x.ρ g) els'.length vs'
    rw [hρ]
    exact ⟨hown'.1, hown'.2.imp id fun ⟨b, cap, cur, hv, hB', rest⟩ => ⟨b, cap, cur, hv, hown b (by rw [hv]; rfl), rest⟩⟩
  · obtain ⟨w2, h6, h7⟩ := plainL_at hp' hm
    rw [hw] at h6
    injection h6 with h6
    subst h6
    rw [← h7]
    exact rep_const y w
theorem opR_callM {f : FuncId} {es : Array Operand} {ts : Array TypeId} {t : Nat} {g : Gen} {E k : Nat} {els els' : List (List PV)} (hw : wantedV ops s o = some true) (ho : o.op = .call { callee := .value (.func f), args := es, argTypes := ts })
    (he : es.toList.map (ev s) = [.row t g]) (hob : s.ob t = some (g, .row E k false els)) (hc : ContractM P f E k els els') : OpR P ops i o s ⟨.tup [], [(t, some (g, .row E k false els'))]⟩ := .any hw fun s' r hA hI => by
  obtain ⟨e1, e2, _⟩ := agree_call ho hA
  refine ok_callM ho (by rw [e1, he]) ?_ hc hI
  rw [← e2 (.row t g) (by rw [he]; simp) t (by simp [keysP, keys2, keys1])]
  exact hob

/- Calls that only look. -/
def mapO (h : PV → Option PV) : List PV → Option (List PV)
  | [] => some []
  | p :: ps => match h p, mapO h ps with
    | some q, some qs => some (q :: qs)
    | _, _ => none
theorem mapO_spec {h : PV → Option PV} : ∀ {ps qs : List PV}, mapO h ps = some qs → qs.length = ps.length ∧ ∀ (i : Nat) (q : PV), qs[i]? = some q → ∃ p, ps[i]? = some p ∧ h p = some q
  | [], qs, e => by
    injection e with e
    subst e
    exact ⟨rfl, fun i q hq => by simp at hq⟩
  | p :: ps, qs, e => by
    simp only [mapO] at e
    split at e
    · rename_i q qs' h1 h2
      injection e with e
      subst e
      obtain ⟨h3, h4⟩ := mapO_spec h2
      refine ⟨by simp [h3], fun i q' hq => ?_⟩
      cases i with
      | zero =>
        simp only [List.getElem?_cons_zero, Option.some.injEq] at hq
        subst hq
        exact ⟨p, rfl, h1⟩
      | succ i =>
        simp only [List.getElem?_cons_succ] at hq ⊢
        exact h4 i q' hq
    · cases e
theorem mapO_congr {h h' : PV → Option PV} : ∀ {ps : List PV}, (∀ p ∈ ps, h p = h' p) → mapO h ps = mapO h' ps
  | [], _ => rfl
  | p :: ps, e => by
    simp only [mapO]
    rw [e p (List.mem_cons_self ..), mapO_congr fun q hq => e q (List.mem_cons_of_mem _ hq)]
/-- A value of one cell, as one that only looks sees it. -/
def frz1 (f : Nat → Option (Gen × VObj)) : PV → Option PV
  | .bool b => some (.bool b)
  | .int k n => some (.int k n)
  | .str s => some (.str s)
  | .sl els => some (.sl els)
  | .nil => some (.sl [])
  | .row t g => match getOb f t g with
    | some (.row _ _ _ els) => some (.sl els)
    | _ => none
  | _ => none
def frzC (f : Nat → Option (Gen × VObj)) : PV → Option PV
  | .ptr t g off => match getOb f t g with
    | some (.box cs) => (mapO (frz1 f) (cs.drop off)).map .cel
    | _ => none
  | .cel cs => some (.cel cs)
  | _ => none
def frz (f : Nat → Option (Gen × VObj)) : PV → Option PV
  | .agg ps => (mapO (frz1 f) ps).map .agg
  | .fn g caps => (mapO (frzC f) caps).map (.fn g)
  | .ptr t g off => frzC f (.ptr t g off)
  | .cel cs => some (.cel cs)
  | p => frz1 f p
/-- What one that only looks knows: all cells of the objects stay. -/
def frozen (s : FS) (x : Ctx) : Ctx := ⟨fun _ => False, fun b o => x.F b o ∨ (b < x.W.heap.size ∧ ∃ t g ob, s.ob t = some (g, ob) ∧ blk (x.ρ g) = some b), x.W, x.ρ⟩
theorem frz1_pure {f : Nat → Option (Gen × VObj)} {p q : PV} (h : frz1 f p = some q) : q.pure = true := by
  cases p <;> simp only [frz1] at h <;> first
    | (cases h; done)
    | (injection h with h; subst h; rfl)
    | (split at h
       · injection h with h; subst h; rfl
       · cases h)
omit [WInv P] in
theorem row_rep {S : Nat → Prop} {a : Act} {x : Ctx} (hX : RstX r S s a x) {t : Nat} {g : Gen} {E k : Nat} {sh : Bool} {els : List (List PV)} (ho : s.ob t = some (g, .row E k sh els)) : Rep (frozen s x) (.sl els) (x.ρ g) := by
  obtain ⟨hg, hO⟩ := hX.ob t g _ ho
  have hO' := hO
  obtain ⟨h1, h2, vs, h3, h4, h5⟩ := hO
  rcases h3.2 with ⟨hn, hl⟩ | ⟨b, cap, cur, hv, hB, hh, hc, hm, hs, ht⟩
  · rw [hn]
    have : els = [] := List.eq_nil_of_length_eq_zero hl
    subst this
    exact .sl [] none 0 0 k 0 0 (fun _ _ => undef) rfl (Nat.le_refl _) (by omega) (by simp) (by omega) (fun i j e p he => by simp at he) (fun i j e p he => by simp at he)
  · have hblk : blk (x.ρ g) = some b := by rw [hv]; rfl
    have hlt : b < x.W.heap.size := (hO'.lt b hblk).1
    rw [hv]
    have key : ∀ (i j : Nat) (e : List PV) (p : PV), els[i]? = some e → e[j]? = some p → ∃ v, x.W.cell? ⟨b, i * k + j, none⟩ = some v ∧ Rep x p v := fun i j e p hi hj => by
      obtain ⟨b', n, c, e1, _, _, _, _, hc⟩ := row_cells hO' hi
      rw [hv] at e1
      injection e1 with e1
      injection e1 with e1
      injection e1 with e1
      subst e1
      exact hc j p hj
    refine .sl els _ _ _ k b 0 (fun i j => (x.W.cell? ⟨b, i * k + j, none⟩).getD undef) rfl hc (by unfold maxLen at hm; omega) h1 (fun _ => rfl) (fun i j e p hi hj => ?_) (fun i j e p hi hj => ?_)
    · obtain ⟨v, hv2, _⟩ := key i j e p hi hj
      refine ⟨h2 e (List.mem_of_getElem? hi) p (List.mem_of_getElem? hj), .inr ⟨hlt, t, g, _, ho, hblk⟩, ?_⟩
      rw [Nat.zero_add]
      show x.W.cell? _ = _
      rw [hv2]; rfl
    · obtain ⟨v, hv2, hr⟩ := key i j e p hi hj
      rw [hv2]
      exact hr.pure_mono (h2 e (List.mem_of_getElem? hi) p (List.mem_of_getElem? hj)) (fun _ _ h => .inl h) (fun _ _ _ _ h => h)
omit [WInv P] in
theorem frz1_rep {S : Nat → Prop} {a : Act} {x : Ctx} (hX : RstX r S s a x) {p q : PV} {v : Value} (h : frz1 s.ob p = some q) (hr : Rep x p v) : Rep (frozen s x) q v := by
  have pm : ∀ {p : PV} {v : Value}, p.pure = true → Rep x p v → Rep (frozen s x) p v := fun hp hr => hr.pure_mono hp (fun _ _ h => .inl h) (fun _ _ _ _ h => h)
  cases p with
  | bool b => injection h with h; subst h; exact pm rfl hr
  | int k n => injection h with h; subst h; exact pm rfl hr
  | str b => injection h with h; subst h; exact pm rfl hr
  | sl els => injection h with h; subst h; exact pm rfl hr
  | nil =>
    injection h with h
    subst h
    cases hr
    exact .sl [] none 0 0 0 0 0 (fun _ _ => undef) rfl (Nat.le_refl _) (by omega) (by simp) (by omega) (fun i j e p he => by simp at he) (fun i j e p he => by simp at he)
  | row t g =>
    simp only [frz1] at h
    split at h
    · rename_i E k sh els hob
      injection h with h
      subst h
      cases hr with
      | row _ _ A n c hG hv =>
        rw [← hv]
        exact row_rep hX (getOb_some hob)
    · cases h
  | _ => cases h
omit [WInv P] in
theorem frzC_rep {S : Nat → Prop} {a : Act} {x : Ctx} (hX : RstX r S s a x) {p q : PV} {v : Value} (h : frzC s.ob p = some q) (hr : Rep x p v) : Rep (frozen s x) q v := by
  cases p with
  | ptr t g off =>
    simp only [frzC] at h
    split at h
    · rename_i cs hob
      simp only [Option.map_eq_some_iff] at h
      obtain ⟨qs, h1, rfl⟩ := h
      obtain ⟨h2, h3⟩ := mapO_spec h1
      obtain ⟨b, off', rfl, hc⟩ := readAt_sound hX (p := .ptr t g off) (cs := cs.drop off) (by simp only [readAt, hob]) hr
      have hbk : b < x.W.heap.size ∧ blk (x.ρ g) = some b := by
        obtain ⟨_, hO⟩ := hX.ob t g _ (getOb_some hob)
        cases hr with
        | ptr _ _ _ _ _ hb => exact ⟨(hO.lt b hb).1, hb⟩
      refine .cel qs b off' (fun j => (x.W.cell? ⟨b, off' + j, none⟩).getD undef) (fun j q hq => ?_) (fun j q hq => ?_)
      · obtain ⟨p, hp, hpq⟩ := h3 j q hq
        obtain ⟨u, hu, _⟩ := hc j p hp
        refine ⟨frz1_pure hpq, .inr ⟨hbk.1, t, g, _, getOb_some hob, hbk.2⟩, ?_⟩
        show x.W.cell? _ = _
        rw [hu]; rfl
      · obtain ⟨p, hp, hpq⟩ := h3 j q hq
        obtain ⟨u, hu, hru⟩ := hc j p hp
        rw [hu]
        exact frz1_rep hX hpq hru
    · cases h
  | cel cs =>
    injection h with h
    subst h
    cases hr with
    | cel _ b off f hcell hh => exact .cel cs b off f (fun j p hp => ⟨(hcell j p hp).1, .inl (hcell j p hp).2.1, (hcell j p hp).2.2⟩) fun j p hp => (hh j p hp).pure_mono (hcell j p hp).1 (fun _ _ h => .inl h) (fun _ _ _ _ h => h)
  | _ => cases h
omit [WInv P] in
theorem frz_rep {S : Nat → Prop} {a : Act} {x : Ctx} (hX : RstX r S s a x) {p q : PV} {v : Value} (h : frz s.ob p = some q) (hr : Rep x p v) : Rep (frozen s x) q v := by
  cases p with
  | agg ps =>
    simp only [frz, Option.map_eq_some_iff] at h
    obtain ⟨qs, h1, rfl⟩ := h
    obtain ⟨h2, h3⟩ := mapO_spec h1
    cases hr with
    | agg _ cs hl hh =>
      refine .agg qs cs (by rw [h2, hl]) fun i q w hq hw => ?_
      obtain ⟨p, hp, hpq⟩ := h3 i q hq
      exact frz1_rep hX hpq (hh i p w hp hw)
  | fn f caps =>
    simp only [frz, Option.map_eq_some_iff] at h
    obtain ⟨qs, h1, rfl⟩ := h
    obtain ⟨h2, h3⟩ := mapO_spec h1
    cases hr with
    | fn _ _ cs hl hh =>
      refine .fn f qs cs (by rw [h2, hl]) fun i q w hq hw => ?_
      obtain ⟨p, hp, hpq⟩ := h3 i q hq
      exact frzC_rep hX hpq (hh i p w hp hw)
  | ptr t g off => exact frzC_rep hX (p := .ptr t g off) h hr
  | cel cs => exact frzC_rep hX (p := .cel cs) h hr
  | bool b => exact frz1_rep hX (p := .bool b) h hr
  | int k n => exact frz1_rep hX (p := .int k n) h hr
  | str b => exact frz1_rep hX (p := .str b) h hr
  | sl els => exact frz1_rep hX (p := .sl els) h hr
  | nil => exact frz1_rep hX (p := .nil) h hr
  | row t g => exact frz1_rep hX (p := .row t g) h hr
  | elp t g i k off => cases h
  | tup ps => cases h
  | un => cases h
/-- Values that lead nowhere. -/
def PV.dry1 : PV → Bool
  | .bool _ | .int _ _ | .str _ => true
  | _ => false
def PV.dry2 : PV → Bool
  | .agg ps => ps.all PV.dry1
  | p => p.dry1
def PV.dry : PV → Bool
  | .tup ps => ps.all PV.dry2
  | p => p.dry2
omit [WInv P] in
theorem Rep.dry1 {x y : Ctx} {p : PV} {v : Value} (h : Rep x p v) (hp : p.dry1 = true) : Rep y p v := by
  cases h <;> simp [PV.dry1] at hp <;> constructor
omit [WInv P] in
theorem Rep.dry2 {x y : Ctx} {p : PV} {v : Value} (h : Rep x p v) (hp : p.dry2 = true) : Rep y p v := by
  cases p with
  | agg ps =>
    cases h with
    | agg _ cs hl hh => exact .agg ps cs hl fun i q w hq hw => (hh i q w hq hw).dry1 (List.all_eq_true.1 hp q (List.mem_of_getElem? hq))
  | _ => exact h.dry1 hp
omit [WInv P] in
theorem Rep.dry {x y : Ctx} {p : PV} {v : Value} (h : Rep x p v) (hp : p.dry = true) : Rep y p v := by
  cases p with
  | tup ps =>
    cases h with
    | tup _ cs hl hh => exact .tup ps cs hl fun i q w hq hw => (hh i q w hq hw).dry2 (List.all_eq_true.1 hp q (List.mem_of_getElem? hq))
  | _ => exact h.dry2 hp
theorem frz1_congr {f f' : Nat → Option (Gen × VObj)} {p : PV} (h : ∀ t ∈ keys1 p, f t = f' t) : frz1 f p = frz1 f' p := by
  cases p <;> simp only [frz1]
  rename_i t g
  rw [getOb_congr (h t (by simp [keys1])) g]
theorem frzC_congr {f f' : Nat → Option (Gen × VObj)} {p : PV} (h : ∀ t ∈ keys0 p, f t = f' t) (h2 : ∀ t ∈ (keys0 p).flatMap (keysI f), f t = f' t) : frzC f p = frzC f' p := by
  cases p <;> simp only [frzC]
  rename_i t g off
  have e := h t (by simp [keys0])
  rw [getOb_congr e g]
  split
  · rename_i cs hob
    rw [mapO_congr fun q hq => frz1_congr fun t' ht' => h2 t' (List.mem_flatMap.2 ⟨t, by simp [keys0], ?_⟩)]
    unfold keysI
    rw [e, getOb_some hob]
    exact List.mem_flatMap.2 ⟨q, List.mem_of_mem_drop hq, ht'⟩
  · rfl
theorem frz_congr {f f' : Nat → Option (Gen × VObj)} {p : PV} (h : ∀ t ∈ keysP f p, f t = f' t) : frz f p = frz f' p := by
  have h1 : ∀ t ∈ keys2 p, f t = f' t := fun t ht => h t (List.mem_append_left _ ht)
  have h2 : ∀ t ∈ (keys2 p).flatMap (keysI f), f t = f' t := fun t ht => h t (List.mem_append_right _ ht)
  cases p with
  | agg ps =>
    simp only [frz]
    rw [mapO_congr fun q hq => frz1_congr fun t ht => h1 t (List.mem_flatMap.2 ⟨q, hq, ht⟩)]
  | fn g caps =>
    simp only [frz]
    rw [mapO_congr fun q hq => frzC_congr (fun t ht => h1 t (List.mem_flatMap.2 ⟨q, hq, ht⟩)) (fun t ht => h2 t ?_)]
    obtain ⟨u, hu, ht⟩ := List.mem_flatMap.1 ht
    exact List.mem_flatMap.2 ⟨u, List.mem_flatMap.2 ⟨q, hq, hu⟩, ht⟩
  | ptr t g off => exact frzC_congr (p := .ptr t g off) h1 h2
  | cel cs => rfl
  | row t g => exact frz1_congr (p := .row t g) h1
  | _ => rfl
omit [WInv P] in
theorem exec_callV {a : Act} {e : Operand} {f : FuncId} {cs : Array Value} {es : Array Operand} {ts : Array TypeId} (ho : o.op = .call { callee := .value e, args := es, argTypes := ts }) (he : a.eval e = .func (.func f) #[] cs) (hg : isGo P f = true) (W : World) :
    (execOp a.eval o).run P W = .ok (.enter f (es.map a.eval ++ cs)) W := by
  unfold isGo at hg
  split at hg
  · rename_i fn hfn
    simp only [Bool.and_eq_true, bne_iff_ne, ne_eq] at hg
    obtain ⟨h1, h2⟩ := hg
    unfold execOp
    rw [ho]
    have h3 : ¬ fn.body = none := by cases h : fn.body <;> simp_all
    simp [resolve, he, Deferred.ofValue, invoke, callFunc, hfn, h3, h1]
  · cases hg
/-- A call of a function or of a function value that only looks at what it is handed, and hands back what leads nowhere. -/
theorem ok_callF {e : Operand} {f : FuncId} {caps : List PV} {es : Array Operand} {ts : Array TypeId} {args1 args2 : List PV} {res : PV} (ho : o.op = .call { callee := .value e, args := es, argTypes := ts }) (hf : ev s e = .fn f caps)
    (ha : mapO (frz s.ob) (es.toList.map (ev s)) = some args1) (hcp : mapO (frzC s.ob) caps = some args2) (hc : Contract P f (args1 ++ args2) none res []) (hp : res.dry = true) (hI : r.I = WInv.I P) : OpOK P r o i s ⟨res, []⟩ := by
  intro S a x Q hX hi hd
  have hr := ev_rep hX e
  rw [hf] at hr
  generalize hv : a.eval e = v at hr
  cases hr with
  | fn _ _ cs hl hh =>
  obtain ⟨h1, h2⟩ := mapO_spec ha
  obtain ⟨h3, h4⟩ := mapO_spec hcp
  have hl1 : args1.length = (es.map a.eval).size := by rw [h1]; simp
  have hpre : Pre (frozen s x) (args1 ++ args2) none (es.map a.eval ++ cs) := by
    refine ⟨by rw [List.length_append, hl1, h3, hl]; simp, fun j p w hj hw => ?_, fun j os h => by simp at h, fun g hg => hg.elim, fun b o hb => ?_⟩
    · rw [List.getElem?_append] at hj
      rw [Array.getElem?_append] at hw
      by_cases hlt : j < args1.length
      · rw [if_pos hlt] at hj
        rw [if_pos (by rw [← hl1]; exact hlt)] at hw
        obtain ⟨q, hq, hqp⟩ := h2 j p hj
        rw [List.getElem?_map, Option.map_eq_some_iff] at hq
        obtain ⟨e', he', rfl⟩ := hq
        rw [Array.getElem?_map, Option.map_eq_some_iff] at hw
        obtain ⟨e2, he2, rfl⟩ := hw
        rw [Array.getElem?_toList] at he'
        rw [he'] at he2
        injection he2 with he2
        subst he2
        exact frz_rep hX hqp (ev_rep hX e')
      · rw [if_neg hlt] at hj
        rw [if_neg (by rw [← hl1]; exact hlt), ← hl1] at hw
        obtain ⟨q, hq, hqp⟩ := h4 _ p hj
        exact frzC_rep hX hqp (hh _ q w hq hw)
    · rcases hb with hb | hb
      · exact hX.flt b o hb
      · exact hb.1
  have hcalls := hc.calls (frozen s x) _ hpre fun W' hW => by
    rw [← hI]
    exact hX.inv.1 W' (hX.gr.trans' hW.os hW.tape hW.output hW.size fun b hb _ => hW.block b (Nat.lt_of_lt_of_le hb hX.gr.size) fun ⟨j, os, h, _⟩ => by simp at h)
  unfold Oper.wp
  rw [exec_callV ho hv hc.isGo, Oper.upon_enter]
  refine hcalls.mono ?_
  rintro e' W' ⟨y, v, rfl, rfl, hpost⟩
  have hgr : Gr (fun _ => False) x.W y.W := ⟨hpost.gr.os, hpost.gr.tape, hpost.gr.output, hpost.gr.size, fun b hb _ => hpost.gr.block b hb (fun ⟨j, os, h, _⟩ => by simp at h)⟩
  let y' : Ctx := ⟨x.G, x.F, y.W, x.ρ⟩
  have k : Step x y' := ⟨fun _ h => ⟨h, rfl⟩, fun _ _ h => h, fun b o w hb hw => (World.cell?_of_block (hgr.block b (hX.flt b o hb) (fun e => e))).trans hw⟩
  have hX2 : RstX r S s a y' := hX.grow k (fun _ h => h) hgr (fun _ _ h => .inl h) (fun b o hb => Nat.lt_of_lt_of_le (hX.flt b o hb) hgr.size)
  exact ⟨y', rfl, (hX2.pureVal hd (hpost.rep.dry hp)).moreS fun _ h => .inl h⟩
theorem opR_callF {e : Operand} {f : FuncId} {caps : List PV} {es : Array Operand} {ts : Array TypeId} {args1 args2 : List PV} {res : PV} (hw : wantedV ops s o = some true) (ho : o.op = .call { callee := .value e, args := es, argTypes := ts }) (hf : ev s e = .fn f caps)
    (ha : mapO (frz s.ob) (es.toList.map (ev s)) = some args1) (hcp : mapO (frzC s.ob) caps = some args2) (hc : Contract P f (args1 ++ args2) none res []) (hp : res.dry = true) : OpR P ops i o s ⟨res, []⟩ := .any hw fun s' r hA hI => by
  obtain ⟨e1, e2, e3, e4⟩ := agree_call ho hA
  refine ok_callF ho (by rw [e3]; exact hf) ?_ ?_ hc hp hI
  · rw [e1, ← ha]
    exact (mapO_congr fun p hp => frz_congr fun t ht => e2 p hp t ht).symm
  · rw [← hcp]
    refine (mapO_congr fun q hq => frzC_congr (fun t ht => e4 t ?_) (fun t ht => e4 t ?_)).symm
    · rw [hf]
      exact List.mem_append_left _ (List.mem_flatMap.2 ⟨q, hq, ht⟩)
    · rw [hf]
      obtain ⟨u, hu, ht⟩ := List.mem_flatMap.1 ht
      exact List.mem_append_right _ (List.mem_flatMap.2 ⟨u, List.mem_flatMap.2 ⟨q, hq, hu⟩, ht⟩)
theorem opR_makeFunc {f : FuncId} {es : Array Operand} (hw : wantedV ops s o = some true) (ho : o.op = .makeFunc (.func f) #[] es) : OpR P ops i o s ⟨.fn f (es.toList.map (ev s)), []⟩ := .any hw fun s' r hA hI => by
  have hm : ∀ e ∈ es.toList, e ∈ o.op.operands := fun e he => by rw [ho]; simp [Op.operands]; simpa using he
  have e1 : es.toList.map (ev s) = es.toList.map (ev s') := List.map_congr_left fun e he => hA.ev e (hm e he)
  rw [e1]
  intro S a x Q hX hi hd
  refine wp_value (v := .func (.func f) #[] (es.map a.eval)) (W' := x.W) ?_ (hX.val hd (.fn f _ _ (by simp) fun j p v hp hv => ?_))
  · unfold execOp
    rw [ho]
    simp [Instr.makeFunc]
  · rw [List.getElem?_map, Option.map_eq_some_iff] at hp
    obtain ⟨e, he, rfl⟩ := hp
    rw [Array.getElem?_map, Option.map_eq_some_iff] at hv
    obtain ⟨e2, he2, rfl⟩ := hv
    rw [Array.getElem?_toList] at he
    rw [he] at he2
    injection he2 with he2
    subst he2
    exact ev_rep hX e
end
section
variable {P : Program} [WInv P] {ops : Array Oper} {draw : Bool} {i : Nat} {L : List Oper} {acc : List (List Nat × List Nat)} {K : FS → Prop} {tm : List (Nat × PV)} {ob : List (Nat × Option (Gen × VObj))} {ng : Nat}
  {d : Option Tmp} {ty : TypeId} {pos : String} {after : Array Edge} {gd : Option (Nat × Bool)}
theorem g_callM {f : FuncId} {es : Array Operand} {ts : Array TypeId} {t : Nat} {g : Gen} {E k : Nat} {els els' : List (List PV)} (hc : ContractM P f E k els els') (hw : wantedV ops (mkS tm ob ng) ⟨d, .call ⟨.value (.func f), es, ts⟩, ty, pos, after, gd⟩ = some true)
    (he : es.toList.map (evL tm) = [.row t g]) (hob : lookO ob t = some (g, .row E k false els))
    (kk : GoL P ops draw (i + 1) L (acc ++ [(keysO (mkS tm ob ng) ⟨d, .call ⟨.value (.func f), es, ts⟩, ty, pos, after, gd⟩, [t])]) (mkS (putT d (.tup []) tm) ((t, some (g, .row E k false els')) :: ob) ng) K) :
    GoL P ops draw i (⟨d, .call ⟨.value (.func f), es, ts⟩, ty, pos, after, gd⟩ :: L) acc (mkS tm ob ng) K := by
  refine go_op (opR_callM hw rfl (by rw [ev_mkS]; exact he) hob hc) ?_
  rw [mkS_app]
  exact kk
/-- A call that only looks. -/
theorem g_callF {e : Operand} {f : FuncId} {caps : List PV} {es : Array Operand} {ts : Array TypeId} {args1 args2 : List PV} {res : PV} (hc : Contract P f (args1 ++ args2) none res []) (hw : wantedV ops (mkS tm ob ng) ⟨d, .call ⟨.value e, es, ts⟩, ty, pos, after, gd⟩ = some true)
    (hf : evL tm e = .fn f caps) (ha : mapO (frz (lookO ob)) (es.toList.map (evL tm)) = some args1) (hcp : mapO (frzC (lookO ob)) caps = some args2) (hp : res.dry = true)
    (k : GoL P ops draw (i + 1) L (acc ++ [(keysO (mkS tm ob ng) ⟨d, .call ⟨.value e, es, ts⟩, ty, pos, after, gd⟩, [])]) (mkS (putT d res tm) ob ng) K) : GoL P ops draw i (⟨d, .call ⟨.value e, es, ts⟩, ty, pos, after, gd⟩ :: L) acc (mkS tm ob ng) K := by
  refine go_op (opR_callF hw rfl (by rw [ev_mkS]; exact hf) (by rw [ev_mkS]; exact ha) hcp hc hp) ?_
  rw [mkS_app]
  exact k
/-- .. of a function by its name. -/
theorem g_look {f : FuncId} {es : Array Operand} {ts : Array TypeId} {args : List PV} {res : PV} (hc : Contract P f args none res []) (hw : wantedV ops (mkS tm ob ng) ⟨d, .call ⟨.value (.func f), es, ts⟩, ty, pos, after, gd⟩ = some true)
    (ha : mapO (frz (lookO ob)) (es.toList.map (evL tm)) = some args) (hp : res.dry = true)
    (k : GoL P ops draw (i + 1) L (acc ++ [(keysO (mkS tm ob ng) ⟨d, .call ⟨.value (.func f), es, ts⟩, ty, pos, after, gd⟩, [])]) (mkS (putT d res tm) ob ng) K) : GoL P ops draw i (⟨d, .call ⟨.value (.func f), es, ts⟩, ty, pos, after, gd⟩ :: L) acc (mkS tm ob ng) K :=
  g_callF (caps := []) (args2 := []) (by rw [List.append_nil]; exact hc) hw rfl ha rfl hp k
theorem g_makeFunc {f : FuncId} {es : Array Operand} (hw : wantedV ops (mkS tm ob ng) ⟨d, .makeFunc (.func f) #[] es, ty, pos, after, gd⟩ = some true) {caps : List PV} (he : es.toList.map (evL tm) = caps)
    (k : GoL P ops draw (i + 1) L (acc ++ [(keysO (mkS tm ob ng) ⟨d, .makeFunc (.func f) #[] es, ty, pos, after, gd⟩, [])]) (mkS (putT d (.fn f caps) tm) ob ng) K) : GoL P ops draw i (⟨d, .makeFunc (.func f) #[] es, ty, pos, after, gd⟩ :: L) acc (mkS tm ob ng) K := by
  refine go_op (opR_makeFunc hw rfl) ?_
  rw [mkS_app, ev_mkS, he]
  exact k
end
end VL
end Go.Proofs.YthmlnffponjikaaGreatDoor
namespace Go.Proofs.YthmlnffponjikaaGreatDoor
namespace VL
open Go.RowKit

def plainA : List PV → Option (List Value)
  | [] => some []
  | p :: ps => match plain p, plainA ps with
    | some v, some vs => some (v :: vs)
    | _, _ => none
theorem plainA_rep {x : Ctx} : ∀ (ps : List PV) {vs : List Value} (_ : plainA ps = some vs) (ws : List Value) (_ : ps.length = ws.length) (_ : ∀ (i : Nat) (p : PV) (v : Value), ps[i]? = some p → ws[i]? = some v → Rep x p v), ws = vs
  | [], vs, h, ws, hl, _ => by
    simp only [plainA, Option.some.injEq] at h
    subst h
    exact List.eq_nil_of_length_eq_zero hl.symm
  | p :: ps, vs, h, [], hl, _ => by simp at hl
  | p :: ps, vs, h, w :: ws, hl, hr => by
    simp only [plainA] at h
    split at h
    · rename_i v vs' h1 h2
      injection h with h
      subst h
      rw [plain_rep h1 (hr 0 p w rfl rfl), plainA_rep ps h2 ws (by simpa using hl) fun i p v hp hv => hr (i + 1) p v (by simpa using hp) (by simpa using hv)]
    · cases h
theorem Gr.ofBelow {w w' : World} (h : Below w.heap.size w w') : Gr (fun _ => False) w w' := ⟨h.os, h.tape, h.output, h.size, fun b hb _ => h.block b hb⟩
theorem PV.clean_of_dry {p : PV} (h : p.dry2 = true) : p.clean = true := by
  have d1 : ∀ {p : PV}, p.dry1 = true → p.pure = true := fun {p} h => by cases p <;> simp_all [PV.dry1, PV.pure]
  cases p with
  | agg ps => exact List.all_eq_true.2 fun q hq => d1 (List.all_eq_true.1 h q hq)
  | bool b => rfl
  | int k n => rfl
  | str s => rfl
  | _ => simp [PV.dry2, PV.dry1] at h
theorem PV.result_of_dry {p : PV} (h : p.dry = true) : p.result = true := by
  cases p with
  | tup ps => exact List.all_eq_true.2 fun q hq => PV.clean_of_dry (List.all_eq_true.1 h q hq)
  | agg ps => exact PV.clean_of_dry (p := .agg ps) h
  | bool b => rfl
  | int k n => rfl
  | str s => rfl
  | _ => simp [PV.dry, PV.dry2, PV.dry1] at h
section
variable {P : Program} [WInv P]
/-- What is known of a function in worlds holds in values, where the result leads nowhere. -/
theorem contract_world {f : FuncId} {args : List PV} {res : PV} {v : Value} (hg : isGo P f = true) (hr : res.dry = true) (hv : ∀ x : Ctx, Rep x res v)
    (h : ∀ (x : Ctx) (vs : Array Value), Pre x args none vs → WInv.I P x.W → Calls P f vs x.W fun e w' => e = .returned v ∧ Below x.W.heap.size x.W w') : Contract P f args none res [] := by
  refine ⟨hg, PV.result_of_dry hr, rfl, fun x vs hpre hI => ?_⟩
  refine (h x vs hpre (hI x.W (Gr.refl _ _))).mono ?_
  rintro _ w' ⟨rfl, hb⟩
  have hF : ∀ b o v, x.F b o → x.W.cell? ⟨b, o, none⟩ = some v → w'.cell? ⟨b, o, none⟩ = some v := fun b o v hF hv => (World.cell?_of_block (hb.block b (hpre.flt b o hF))).trans hv
  have st : Step x { x with W := w' } := ⟨fun _ h => ⟨h, rfl⟩, fun _ _ h => h, hF⟩
  refine ⟨{ x with W := w' }, v, rfl, rfl, st, ?_, fun _ _ h => .inl h, fun b o h => Nat.lt_of_lt_of_le (hpre.flt b o h) hb.size, hv _, fun j os h => by cases h⟩
  exact ⟨hb.os, hb.tape, hb.output, hb.size, fun b hlt _ => hb.block b hlt⟩
theorem contract_plain {f : FuncId} {args : List PV} {vals : List Value} {res : PV} {v : Value} (hg : isGo P f = true) (hp : plainA args = some vals) (hr : res.dry = true) (hv : ∀ x : Ctx, Rep x res v)
    (h : ∀ w, WInv.I P w → Calls P f vals.toArray w fun e w' => e = .returned v ∧ Below w.heap.size w w') : Contract P f args none res [] :=
  contract_world hg hr hv fun x vs hpre hI => by
    have e : vs.toList = vals := plainA_rep args hp vs.toList (by simpa using hpre.size) fun i p v hp hv => hpre.rep i p v hp (by simpa using hv)
    obtain rfl : vs = vals.toArray := by rw [← e]
    exact h x.W hI
/-- A list of strings, as worlds know it. -/
theorem strs_of_rep {x : Ctx} (hflt : ∀ b o, x.F b o → b < x.W.heap.size) {L : List ByteArray} {v : Value} (h : Rep x (.sl (L.map fun s => [.str s])) v) : ∃ A n c, v = .slice A n c ∧ SlR x.W A n c L := by
  generalize hels : (L.map fun s => [PV.str s]) = els at h
  cases h with
  | sl _ A n c k b off f hn hc hm hk hA hcell hh =>
    subst hels
    refine ⟨A, n, c, rfl, by simpa using hn, hc, hm, fun h0 => ?_⟩
    have hL : 0 < L.length := by rw [hn, List.length_map] at h0; exact h0
    have at_ : ∀ i s, L[i]? = some s → x.F b (off + i * k + 0) ∧ x.W.cell? ⟨b, off + i * k + 0, none⟩ = some (.string s) := fun i s hi => by
      have h1 : (L.map fun s => [PV.str s])[i]? = some [.str s] := by rw [List.getElem?_map, hi]; rfl
      obtain ⟨_, h2, h3⟩ := hcell i 0 _ _ h1 rfl
      have h4 := hh i 0 _ _ h1 rfl
      refine ⟨h2, ?_⟩
      rw [h3]
      generalize f i 0 = u at h4
      cases h4
      rfl
    have hk1 : k = 1 := by
      obtain ⟨s, hs⟩ : ∃ s, L[0]? = some s := ⟨_, List.getElem?_eq_getElem hL⟩
      exact (hk [.str s] (List.mem_map.2 ⟨s, List.mem_of_getElem? hs, rfl⟩)).symm
    subst hk1
    obtain ⟨s0, hs0⟩ : ∃ s, L[0]? = some s := ⟨_, List.getElem?_eq_getElem hL⟩
    refine ⟨b, off, fun i => match L[i]? with | some s => [.string s] | none => [], hA h0, trivial, hflt _ _ (at_ 0 s0 hs0).1, fun i s hi => ?_⟩
    simp only [hi]
    refine ⟨rfl, fun j v hj => ?_⟩
    cases j with
    | zero => simp at hj; subst hj; exact (at_ i s hi).2
    | succ j => simp at hj
/-- All that a world holds stays. -/
def oldC (w : World) : Ctx := ⟨fun _ => False, fun b _ => b < w.heap.size, w, fun _ => undef⟩
/-- What is known of a function in values holds in worlds. -/
theorem calls_of_contract {f : FuncId} {args : List PV} {res : PV} (hc : Contract P f args none res []) {w : World} {vs : Array Value} (hl : args.length = vs.size) (hr : ∀ (i : Nat) (p : PV) (v : Value), args[i]? = some p → vs[i]? = some v → Rep (oldC w) p v)
    (hI : ∀ w', Below w.heap.size w w' → WInv.I P w') : Calls P f vs w fun e w' => ∃ y v, y.W = w' ∧ e = .returned v ∧ Rep y res v ∧ Below w.heap.size w w' := by
  refine (hc.calls (oldC w) vs (show Pre (oldC w) args none vs from ⟨hl, hr, fun j os h => (by cases h), fun g (h : False) => h.elim, fun b o h => h⟩) fun w' h => hI w' ⟨h.os, h.tape, h.output, h.size, fun b hb => h.block b hb fun ⟨j, os, e, _⟩ => by cases e⟩).mono ?_
  rintro e w' ⟨y, v, rfl, rfl, hp⟩
  exact ⟨y, v, rfl, rfl, hp.rep, hp.gr.os, hp.gr.tape, hp.gr.output, hp.gr.size, fun b hb => hp.gr.block b hb fun ⟨j, os, e, _⟩ => by cases e⟩
/-- .. one that says yes or no. -/
theorem calls_bool {f : FuncId} {args : List PV} {b : Bool} (hc : Contract P f args none (.bool b) []) {w : World} {vs : Array Value} (hl : args.length = vs.size) (hr : ∀ (i : Nat) (p : PV) (v : Value), args[i]? = some p → vs[i]? = some v → Rep (oldC w) p v)
    (hI : ∀ w', Below w.heap.size w w' → WInv.I P w') : Calls P f vs w fun e w' => e = .returned (.bool b) ∧ Below w.heap.size w w' := by
  refine (calls_of_contract hc hl hr hI).mono ?_
  rintro e w' ⟨y, v, rfl, rfl, h, hb⟩
  cases h
  exact ⟨rfl, hb⟩
end
/-- How what lies in memory is seen as values. -/
class EncPV (α : Type) [Enc α] where
  cs : α → List PV
  rep : ∀ (w : World) (x : α) (vs : List Value), Enc.R (fun _ => True) w x vs → (cs x).length = Enc.k α ∧ ∀ (j : Nat) (p : PV) (v : Value), (cs x)[j]? = some p → vs[j]? = some v → p.pure = true ∧ Rep (oldC w) p v
theorem sl_of_SlR {α : Type} [Enc α] [EncPV α] {w : World} {A : Option Addr} {n c : Nat} {xs : List α} (h : SlR w A n c xs) : Rep (oldC w) (.sl (xs.map EncPV.cs)) (.slice A n c) := by
  obtain ⟨h1, h2, h3, h4⟩ := h
  rcases Nat.eq_zero_or_pos n with h0 | h0
  · have : xs = [] := List.eq_nil_of_length_eq_zero (by omega)
    subst this
    subst h0
    exact .sl [] A 0 c 0 0 0 (fun _ _ => undef) rfl h2 h3 (by simp) (by omega) (fun i j e p he => by simp at he) (fun i j e p he => by simp at he)
  · obtain ⟨b, off, css, hA, _, hlt, hx⟩ := h4 h0
    have key : ∀ (i j : Nat) (e : List PV) (p : PV), (xs.map EncPV.cs)[i]? = some e → e[j]? = some p → ∃ v, w.cell? ⟨b, off + i * Enc.k α + j, none⟩ = some v ∧ p.pure = true ∧ Rep (oldC w) p v := fun i j e p he hp => by
      rw [List.getElem?_map, Option.map_eq_some_iff] at he
      obtain ⟨x, hxi, rfl⟩ := he
      obtain ⟨hr, hc⟩ := hx i x hxi
      obtain ⟨hl, hrep⟩ := EncPV.rep w x (css i) hr
      have hj : j < (css i).length := by rw [Enc.len hr, ← hl]; exact (List.getElem?_eq_some_iff.1 hp).1
      exact ⟨_, hc j _ (List.getElem?_eq_getElem hj), hrep j p _ hp (List.getElem?_eq_getElem hj)⟩
    refine .sl _ A n c (Enc.k α) b off (fun i j => (w.cell? ⟨b, off + i * Enc.k α + j, none⟩).getD undef) (by simpa using h1) h2 h3 (fun e he => ?_) (fun _ => hA) (fun i j e p he hp => ?_) (fun i j e p he hp => ?_)
    · obtain ⟨x, hxm, rfl⟩ := List.mem_map.1 he
      obtain ⟨i, hi⟩ := List.getElem?_of_mem hxm
      exact (EncPV.rep w x (css i) (hx i x hi).1).1
    · obtain ⟨v, hv, hp1, _⟩ := key i j e p he hp
      refine ⟨hp1, hlt, ?_⟩
      show w.cell? _ = _
      rw [hv]; rfl
    · obtain ⟨v, hv, _, hr⟩ := key i j e p he hp
      rw [hv]
      exact hr
instance : EncPV Int := ⟨fun x => [.int .i64 x], fun w x vs h => ⟨rfl, fun j p v hp hv => by
  cases h
  cases j with
  | zero => simp at hp hv; subst hp hv; exact ⟨rfl, .int .i64 x⟩
  | succ j => simp at hp⟩⟩
instance : EncPV ByteArray := ⟨fun x => [.str x], fun w x vs h => ⟨rfl, fun j p v hp hv => by
  cases h
  cases j with
  | zero => simp at hp hv; subst hp hv; exact ⟨rfl, .str x⟩
  | succ j => simp at hp⟩⟩
instance {α : Type} [Enc α] [EncPV α] : EncPV (List α) := ⟨fun xs => [.sl (xs.map EncPV.cs)], fun w x vs h => ⟨rfl, fun j p v hp hv => by
  obtain ⟨A, n, c, rfl, hs⟩ := h
  cases j with
  | zero => simp at hp hv; subst hp hv; exact ⟨rfl, sl_of_SlR hs⟩
  | succ j => simp at hp⟩⟩
/-- A row in slot t is shown to others, and is from now on what all may look at. -/
theorem shift_show {s : FS} {t u : Nat} {g : Gen} {E k : Nat} {sh : Bool} {els : List (List PV)} (h0 : s.tm t = .row u g) (h1 : s.ob u = some (g, .row E k sh els)) :
    Shift s ⟨fun x => if x = t then .sl els else s.tm x, setOb s.ob u (some (g, .row E k true els)), s.ng⟩ := fun r a x hX => by
  obtain ⟨F', st, hX', hr⟩ := hX.pub h1
  refine ⟨{ x with F := F' }, rfl, hX'.defers, hX'.size, hX'.gr, hX'.gens, fun t' => ?_, hX'.ob, hX'.apart, hX'.flt, hX'.f0, hX'.fnew, hX'.rho, hX'.inv⟩
  show Rep _ (if t' = t then PV.sl els else s.tm t') _
  split
  · rename_i e
    subst e
    have := hX.tm t'
    rw [h0] at this
    generalize (a.tmps.getD t' undef) = v at this ⊢
    cases this with
    | row _ _ A n c hG hv => rw [← hv]; exact hr
  · exact hX'.tm t'
theorem shift_showR (σ : List (Gen × Gen)) {tm tm' : List (Nat × PV)} {ob ob' : List (Nat × Option (Gen × VObj))} {ng ng' : Nat} (t u : Nat) {g : Gen} {E k : Nat} {sh : Bool} {els : List (List PV)} (h0 : look tm t = .row u g) (h00 : lookO ob u = some (g, .row E k sh els)) (h1 : subTR σ ((t, .sl els) :: tm) tm') (h2 : subOR σ ((u, some (g, .row E k true els)) :: ob) ob')
    (h3 : (decide (0 < ng') && σ.all fun q => decide (q.1.1 < ng')) = true) : Shift (mkS tm ob ng) (mkS tm' ob' ng') :=
  Shift.trans (shift_show h0 h00) (shift_ren (tm := (t, .sl els) :: tm) (ob := (u, some (g, .row E k true els)) :: ob) σ h1 h2 h3)
section
variable {P : Program} {s : FS}
theorem rn_box {rs : List ResultVar} {cs cs2 : List PV} {t : Nat} {g : Gen} {us : List (Nat × Option (Gen × VObj))} (h1 : resVs P s rs = some [.ptr t g 0]) (h2 : s.ob t = some (g, .box cs2)) (h3 : resL s.ob cs2 = some (cs, us)) : RetN P rs (.box cs) .ret s :=
  ⟨t, g, .box cs2, us, h1, h2, by simp only [pubO, h3, Option.map_some]⟩
theorem rn_row {rs : List ResultVar} {E k : Nat} {els : List (List PV)} {t : Nat} {g : Gen} (h1 : resVs P s rs = some [.row t g]) (h2 : s.ob t = some (g, .row E k false els)) : RetN P rs (.row E k false els) .ret s :=
  ⟨t, g, .row E k false els, [], h1, h2, rfl⟩
end
end VL
end Go.Proofs.YthmlnffponjikaaGreatDoor
namespace Go.Proofs.YthmlnffponjikaaGreatDoor
open Go.RowKit
structure Revision where
  number : Int
  user : ByteArray
  note : ByteArray
  text : ByteArray
  minute : Int
  seq : Int
  deriving DecidableEq
instance : Enc Revision := Enc.plain 6 (fun x => [.int .i64 x.number, .string x.user, .string x.note, .string x.text, .int .i64 x.minute, .int .i64 x.seq]) (fun _ => rfl) (by simp [Value.oneCell'])
def revisionCells (x : Revision) : List Value := [.int .i64 x.number, .string x.user, .string x.note, .string x.text, .int .i64 x.minute, .int .i64 x.seq]
@[simp] theorem k_Revision : Enc.k Revision = 6 := rfl
structure Stored where
  title : Title
  history : List Revision
  deriving DecidableEq
instance : Enc Stored where
  k := 3
  R := fun S w x cs => ∃ A0 n0 c0, cs = [.int .i64 x.title.space, .string x.title.name, .slice A0 n0 c0] ∧ SlS S w A0 n0 c0 x.history
  len := fun ⟨_, _, _, e, _⟩ => by subst e; rfl
  one := fun ⟨_, _, _, e, _⟩ => by subst e; simp [Value.oneCell']
  keep := fun hk hz ⟨A0, n0, c0, e, h0⟩ => ⟨A0, n0, c0, e, h0.keep hk hz⟩
  weak := fun hs ⟨A0, n0, c0, e, h0⟩ => ⟨A0, n0, c0, e, h0.weak hs⟩
@[simp] theorem k_Stored : Enc.k Stored = 3 := rfl
structure Proposal where
  id : Int
  user : ByteArray
  note : ByteArray
  title : Title
  base : Int
  text : ByteArray
  minute : Int
  deriving DecidableEq
instance : Enc Proposal := Enc.plain 8 (fun x => [.int .i64 x.id, .string x.user, .string x.note, .int .i64 x.title.space, .string x.title.name, .int .i64 x.base, .string x.text, .int .i64 x.minute]) (fun _ => rfl) (by simp [Value.oneCell'])
def proposalCells (x : Proposal) : List Value := [.int .i64 x.id, .string x.user, .string x.note, .int .i64 x.title.space, .string x.title.name, .int .i64 x.base, .string x.text, .int .i64 x.minute]
@[simp] theorem k_Proposal : Enc.k Proposal = 8 := rfl
structure Watch where
  user : ByteArray
  title : Title
  deriving DecidableEq
instance : Enc Watch := Enc.plain 3 (fun x => [.string x.user, .int .i64 x.title.space, .string x.title.name]) (fun _ => rfl) (by simp [Value.oneCell'])
def watchCells (x : Watch) : List Value := [.string x.user, .int .i64 x.title.space, .string x.title.name]
@[simp] theorem k_Watch : Enc.k Watch = 3 := rfl
structure Last where
  user : ByteArray
  seq : Int
  deriving DecidableEq
instance : Enc Last := Enc.plain 2 (fun x => [.string x.user, .int .i64 x.seq]) (fun _ => rfl) (by simp [Value.oneCell'])
def lastCells (x : Last) : List Value := [.string x.user, .int .i64 x.seq]
@[simp] theorem k_Last : Enc.k Last = 2 := rfl
structure State where
  seq : Int
  clock : Int
  pages : List Stored
  gone : List Stored
  proposals : List Proposal
  proposed : Int
  watches : List Watch
  lasts : List Last
  deriving DecidableEq
instance : Enc State where
  k := 8
  R := fun S w x cs => ∃ A0 n0 c0 A1 n1 c1 A2 n2 c2 A3 n3 c3 A4 n4 c4, cs = [.int .i64 x.seq, .int .i64 x.clock, .slice A0 n0 c0, .slice A1 n1 c1, .slice A2 n2 c2, .int .i64 x.proposed, .slice A3 n3 c3, .slice A4 n4 c4] ∧ SlS S w A0 n0 c0 x.pages ∧ SlS S w A1 n1 c1 x.gone ∧ SlS S w A2 n2 c2 x.proposals ∧ SlS S w A3 n3 c3 x.watches ∧ SlS S w A4 n4 c4 x.lasts
  len := fun ⟨_, _, _, _, _, _, _, _, _, _, _, _, _, _, _, e, _⟩ => by subst e; rfl
  one := fun ⟨_, _, _, _, _, _, _, _, _, _, _, _, _, _, _, e, _⟩ => by subst e; simp [Value.oneCell']
  keep := fun hk hz ⟨A0, n0, c0, A1, n1, c1, A2, n2, c2, A3, n3, c3, A4, n4, c4, e, h0, h1, h2, h3, h4⟩ => ⟨A0, n0, c0, A1, n1, c1, A2, n2, c2, A3, n3, c3, A4, n4, c4, e, h0.keep hk hz, h1.keep hk hz, h2.keep hk hz, h3.keep hk hz, h4.keep hk hz⟩
  weak := fun hs ⟨A0, n0, c0, A1, n1, c1, A2, n2, c2, A3, n3, c3, A4, n4, c4, e, h0, h1, h2, h3, h4⟩ => ⟨A0, n0, c0, A1, n1, c1, A2, n2, c2, A3, n3, c3, A4, n4, c4, e, h0.weak hs, h1.weak hs, h2.weak hs, h3.weak hs, h4.weak hs⟩
@[simp] theorem k_State : Enc.k State = 8 := rfl
structure Change where
  kind : Int
  user : ByteArray
  note : ByteArray
  title : Title
  to : Title
  text : ByteArray
  n : Int
  history : List Revision
  deriving DecidableEq
instance : Enc Change where
  k := 10
  R := fun S w x cs => ∃ A0 n0 c0, cs = [.int .i64 x.kind, .string x.user, .string x.note, .int .i64 x.title.space, .string x.title.name, .int .i64 x.to.space, .string x.to.name, .string x.text, .int .i64 x.n, .slice A0 n0 c0] ∧ SlS S w A0 n0 c0 x.history
  len := fun ⟨_, _, _, e, _⟩ => by subst e; rfl
  one := fun ⟨_, _, _, e, _⟩ => by subst e; simp [Value.oneCell']
  keep := fun hk hz ⟨A0, n0, c0, e, h0⟩ => ⟨A0, n0, c0, e, h0.keep hk hz⟩
  weak := fun hs ⟨A0, n0, c0, e, h0⟩ => ⟨A0, n0, c0, e, h0.weak hs⟩
@[simp] theorem k_Change : Enc.k Change = 10 := rfl
structure Scope where
  kind : Int
  title : Title
  deriving DecidableEq
instance : Enc Scope := Enc.plain 3 (fun x => [.int .i64 x.kind, .int .i64 x.title.space, .string x.title.name]) (fun _ => rfl) (by simp [Value.oneCell'])
def scopeCells (x : Scope) : List Value := [.int .i64 x.kind, .int .i64 x.title.space, .string x.title.name]
@[simp] theorem k_Scope : Enc.k Scope = 3 := rfl
structure Rule where
  allow : Bool
  right : Int
  group : ByteArray
  scope : Scope
  deriving DecidableEq
instance : Enc Rule := Enc.plain 6 (fun x => [.bool x.allow, .int .i64 x.right, .string x.group, .int .i64 x.scope.kind, .int .i64 x.scope.title.space, .string x.scope.title.name]) (fun _ => rfl) (by simp [Value.oneCell'])
def ruleCells (x : Rule) : List Value := [.bool x.allow, .int .i64 x.right, .string x.group, .int .i64 x.scope.kind, .int .i64 x.scope.title.space, .string x.scope.title.name]
@[simp] theorem k_Rule : Enc.k Rule = 6 := rfl
structure Guard where
  strict : Bool
  group : ByteArray
  title : Title
  section_ : ByteArray
  deriving DecidableEq
instance : Enc Guard := Enc.plain 5 (fun x => [.bool x.strict, .string x.group, .int .i64 x.title.space, .string x.title.name, .string x.section_]) (fun _ => rfl) (by simp [Value.oneCell'])
def guardCells (x : Guard) : List Value := [.bool x.strict, .string x.group, .int .i64 x.title.space, .string x.title.name, .string x.section_]
@[simp] theorem k_Guard : Enc.k Guard = 5 := rfl
structure Group where
  name : ByteArray
  members : List ByteArray
  deriving DecidableEq
instance : Enc Group where
  k := 2
  R := fun S w x cs => ∃ A0 n0 c0, cs = [.string x.name, .slice A0 n0 c0] ∧ SlS S w A0 n0 c0 x.members
  len := fun ⟨_, _, _, e, _⟩ => by subst e; rfl
  one := fun ⟨_, _, _, e, _⟩ => by subst e; simp [Value.oneCell']
  keep := fun hk hz ⟨A0, n0, c0, e, h0⟩ => ⟨A0, n0, c0, e, h0.keep hk hz⟩
  weak := fun hs ⟨A0, n0, c0, e, h0⟩ => ⟨A0, n0, c0, e, h0.weak hs⟩
@[simp] theorem k_Group : Enc.k Group = 2 := rfl
structure Policy where
  groups : List Group
  rules : List Rule
  guards : List Guard
  deriving DecidableEq
instance : Enc Policy where
  k := 3
  R := fun S w x cs => ∃ A0 n0 c0 A1 n1 c1 A2 n2 c2, cs = [.slice A0 n0 c0, .slice A1 n1 c1, .slice A2 n2 c2] ∧ SlS S w A0 n0 c0 x.groups ∧ SlS S w A1 n1 c1 x.rules ∧ SlS S w A2 n2 c2 x.guards
  len := fun ⟨_, _, _, _, _, _, _, _, _, e, _⟩ => by subst e; rfl
  one := fun ⟨_, _, _, _, _, _, _, _, _, e, _⟩ => by subst e; simp [Value.oneCell']
  keep := fun hk hz ⟨A0, n0, c0, A1, n1, c1, A2, n2, c2, e, h0, h1, h2⟩ => ⟨A0, n0, c0, A1, n1, c1, A2, n2, c2, e, h0.keep hk hz, h1.keep hk hz, h2.keep hk hz⟩
  weak := fun hs ⟨A0, n0, c0, A1, n1, c1, A2, n2, c2, e, h0, h1, h2⟩ => ⟨A0, n0, c0, A1, n1, c1, A2, n2, c2, e, h0.weak hs, h1.weak hs, h2.weak hs⟩
@[simp] theorem k_Policy : Enc.k Policy = 3 := rfl
structure Page where
  title : Title
  text : ByteArray
  revision : Int
  deriving DecidableEq
instance : Enc Page := Enc.plain 4 (fun x => [.int .i64 x.title.space, .string x.title.name, .string x.text, .int .i64 x.revision]) (fun _ => rfl) (by simp [Value.oneCell'])
def pageCells (x : Page) : List Value := [.int .i64 x.title.space, .string x.title.name, .string x.text, .int .i64 x.revision]
@[simp] theorem k_Page : Enc.k Page = 4 := rfl
structure View where
  pages : List Page
  policy : Policy
  groups : List ByteArray
  clock : Int
  fixed : List Asked
  deriving DecidableEq
instance : Enc View where
  k := 7
  R := fun S w x cs => ∃ A0 n0 c0 A1 n1 c1 A2 n2 c2 A3 n3 c3 A4 n4 c4 A5 n5 c5, cs = [.slice A0 n0 c0, .slice A1 n1 c1, .slice A2 n2 c2, .slice A3 n3 c3, .slice A4 n4 c4, .int .i64 x.clock, .slice A5 n5 c5] ∧ SlS S w A0 n0 c0 x.pages ∧ SlS S w A1 n1 c1 x.policy.groups ∧ SlS S w A2 n2 c2 x.policy.rules ∧ SlS S w A3 n3 c3 x.policy.guards ∧ SlS S w A4 n4 c4 x.groups ∧ SlS S w A5 n5 c5 x.fixed
  len := fun ⟨_, _, _, _, _, _, _, _, _, _, _, _, _, _, _, _, _, _, e, _⟩ => by subst e; rfl
  one := fun ⟨_, _, _, _, _, _, _, _, _, _, _, _, _, _, _, _, _, _, e, _⟩ => by subst e; simp [Value.oneCell']
  keep := fun hk hz ⟨A0, n0, c0, A1, n1, c1, A2, n2, c2, A3, n3, c3, A4, n4, c4, A5, n5, c5, e, h0, h1, h2, h3, h4, h5⟩ => ⟨A0, n0, c0, A1, n1, c1, A2, n2, c2, A3, n3, c3, A4, n4, c4, A5, n5, c5, e, h0.keep hk hz, h1.keep hk hz, h2.keep hk hz, h3.keep hk hz, h4.keep hk hz, h5.keep hk hz⟩
  weak := fun hs ⟨A0, n0, c0, A1, n1, c1, A2, n2, c2, A3, n3, c3, A4, n4, c4, A5, n5, c5, e, h0, h1, h2, h3, h4, h5⟩ => ⟨A0, n0, c0, A1, n1, c1, A2, n2, c2, A3, n3, c3, A4, n4, c4, A5, n5, c5, e, h0.weak hs, h1.weak hs, h2.weak hs, h3.weak hs, h4.weak hs, h5.weak hs⟩
@[simp] theorem k_View : Enc.k View = 7 := rfl
end Go.Proofs.YthmlnffponjikaaGreatDoor
namespace Go.Proofs.YthmlnffponjikaaGreatDoor
open VL
def Title.cs (x : Title) : List PV := [.int .i64 x.space, .str x.name]
def Title.pv (x : Title) : PV := .agg x.cs
theorem Title.cs_len (x : Title) : x.cs.length = 2 := rfl
theorem Title.all_len (l : List Title) : ((l.map Title.cs).all fun e => e.length == 2) = true := by simp [Title.cs_len]
def Key.cs (x : Key) : List PV := [.int .i64 x.kind, .int .i64 x.title.space, .str x.title.name, .int .i64 x.n]
def Key.pv (x : Key) : PV := .agg x.cs
theorem Key.cs_len (x : Key) : x.cs.length = 4 := rfl
theorem Key.all_len (l : List Key) : ((l.map Key.cs).all fun e => e.length == 4) = true := by simp [Key.cs_len]
def Answer.cs (x : Answer) : List PV := [.bool x.ok, .str x.text, .int .i64 x.n]
def Answer.pv (x : Answer) : PV := .agg x.cs
theorem Answer.cs_len (x : Answer) : x.cs.length = 3 := rfl
theorem Answer.all_len (l : List Answer) : ((l.map Answer.cs).all fun e => e.length == 3) = true := by simp [Answer.cs_len]
def Asked.cs (x : Asked) : List PV := [.int .i64 x.key.kind, .int .i64 x.key.title.space, .str x.key.title.name, .int .i64 x.key.n, .bool x.answer.ok, .str x.answer.text, .int .i64 x.answer.n]
def Asked.pv (x : Asked) : PV := .agg x.cs
theorem Asked.cs_len (x : Asked) : x.cs.length = 7 := rfl
theorem Asked.all_len (l : List Asked) : ((l.map Asked.cs).all fun e => e.length == 7) = true := by simp [Asked.cs_len]
def Revision.cs (x : Revision) : List PV := [.int .i64 x.number, .str x.user, .str x.note, .str x.text, .int .i64 x.minute, .int .i64 x.seq]
def Revision.pv (x : Revision) : PV := .agg x.cs
theorem Revision.cs_len (x : Revision) : x.cs.length = 6 := rfl
theorem Revision.all_len (l : List Revision) : ((l.map Revision.cs).all fun e => e.length == 6) = true := by simp [Revision.cs_len]
def Stored.cs (x : Stored) : List PV := [.int .i64 x.title.space, .str x.title.name, .sl (x.history.map Revision.cs)]
def Stored.pv (x : Stored) : PV := .agg x.cs
theorem Stored.cs_len (x : Stored) : x.cs.length = 3 := rfl
theorem Stored.all_len (l : List Stored) : ((l.map Stored.cs).all fun e => e.length == 3) = true := by simp [Stored.cs_len]
def Proposal.cs (x : Proposal) : List PV := [.int .i64 x.id, .str x.user, .str x.note, .int .i64 x.title.space, .str x.title.name, .int .i64 x.base, .str x.text, .int .i64 x.minute]
def Proposal.pv (x : Proposal) : PV := .agg x.cs
theorem Proposal.cs_len (x : Proposal) : x.cs.length = 8 := rfl
theorem Proposal.all_len (l : List Proposal) : ((l.map Proposal.cs).all fun e => e.length == 8) = true := by simp [Proposal.cs_len]
def Watch.cs (x : Watch) : List PV := [.str x.user, .int .i64 x.title.space, .str x.title.name]
def Watch.pv (x : Watch) : PV := .agg x.cs
theorem Watch.cs_len (x : Watch) : x.cs.length = 3 := rfl
theorem Watch.all_len (l : List Watch) : ((l.map Watch.cs).all fun e => e.length == 3) = true := by simp [Watch.cs_len]
def Last.cs (x : Last) : List PV := [.str x.user, .int .i64 x.seq]
def Last.pv (x : Last) : PV := .agg x.cs
theorem Last.cs_len (x : Last) : x.cs.length = 2 := rfl
theorem Last.all_len (l : List Last) : ((l.map Last.cs).all fun e => e.length == 2) = true := by simp [Last.cs_len]
def State.cs (x : State) : List PV := [.int .i64 x.seq, .int .i64 x.clock, .sl (x.pages.map Stored.cs), .sl (x.gone.map Stored.cs), .sl (x.proposals.map Proposal.cs), .int .i64 x.proposed, .sl (x.watches.map Watch.cs), .sl (x.lasts.map Last.cs)]
def State.pv (x : State) : PV := .agg x.cs
theorem State.cs_len (x : State) : x.cs.length = 8 := rfl
theorem State.all_len (l : List State) : ((l.map State.cs).all fun e => e.length == 8) = true := by simp [State.cs_len]
def Change.cs (x : Change) : List PV := [.int .i64 x.kind, .str x.user, .str x.note, .int .i64 x.title.space, .str x.title.name, .int .i64 x.to.space, .str x.to.name, .str x.text, .int .i64 x.n, .sl (x.history.map Revision.cs)]
def Change.pv (x : Change) : PV := .agg x.cs
theorem Change.cs_len (x : Change) : x.cs.length = 10 := rfl
theorem Change.all_len (l : List Change) : ((l.map Change.cs).all fun e => e.length == 10) = true := by simp [Change.cs_len]
def Scope.cs (x : Scope) : List PV := [.int .i64 x.kind, .int .i64 x.title.space, .str x.title.name]
def Scope.pv (x : Scope) : PV := .agg x.cs
theorem Scope.cs_len (x : Scope) : x.cs.length = 3 := rfl
theorem Scope.all_len (l : List Scope) : ((l.map Scope.cs).all fun e => e.length == 3) = true := by simp [Scope.cs_len]
def Rule.cs (x : Rule) : List PV := [.bool x.allow, .int .i64 x.right, .str x.group, .int .i64 x.scope.kind, .int .i64 x.scope.title.space, .str x.scope.title.name]
def Rule.pv (x : Rule) : PV := .agg x.cs
theorem Rule.cs_len (x : Rule) : x.cs.length = 6 := rfl
theorem Rule.all_len (l : List Rule) : ((l.map Rule.cs).all fun e => e.length == 6) = true := by simp [Rule.cs_len]
def Guard.cs (x : Guard) : List PV := [.bool x.strict, .str x.group, .int .i64 x.title.space, .str x.title.name, .str x.section_]
def Guard.pv (x : Guard) : PV := .agg x.cs
theorem Guard.cs_len (x : Guard) : x.cs.length = 5 := rfl
theorem Guard.all_len (l : List Guard) : ((l.map Guard.cs).all fun e => e.length == 5) = true := by simp [Guard.cs_len]
def Group.cs (x : Group) : List PV := [.str x.name, .sl (x.members.map fun y => [.str y])]
def Group.pv (x : Group) : PV := .agg x.cs
theorem Group.cs_len (x : Group) : x.cs.length = 2 := rfl
theorem Group.all_len (l : List Group) : ((l.map Group.cs).all fun e => e.length == 2) = true := by simp [Group.cs_len]
def Policy.cs (x : Policy) : List PV := [.sl (x.groups.map Group.cs), .sl (x.rules.map Rule.cs), .sl (x.guards.map Guard.cs)]
def Policy.pv (x : Policy) : PV := .agg x.cs
theorem Policy.cs_len (x : Policy) : x.cs.length = 3 := rfl
theorem Policy.all_len (l : List Policy) : ((l.map Policy.cs).all fun e => e.length == 3) = true := by simp [Policy.cs_len]
def Page.cs (x : Page) : List PV := [.int .i64 x.title.space, .str x.title.name, .str x.text, .int .i64 x.revision]
def Page.pv (x : Page) : PV := .agg x.cs
theorem Page.cs_len (x : Page) : x.cs.length = 4 := rfl
theorem Page.all_len (l : List Page) : ((l.map Page.cs).all fun e => e.length == 4) = true := by simp [Page.cs_len]
def View.cs (x : View) : List PV := [.sl (x.pages.map Page.cs), .sl (x.policy.groups.map Group.cs), .sl (x.policy.rules.map Rule.cs), .sl (x.policy.guards.map Guard.cs), .sl (x.groups.map fun y => [.str y]), .int .i64 x.clock, .sl (x.fixed.map Asked.cs)]
def View.pv (x : View) : PV := .agg x.cs
theorem View.cs_len (x : View) : x.cs.length = 7 := rfl
theorem View.all_len (l : List View) : ((l.map View.cs).all fun e => e.length == 7) = true := by simp [View.cs_len]
theorem str_all (l : List ByteArray) : ((l.map fun y => [PV.str y]).all fun e => e.length == 1) = true := by simp
theorem int_all (l : List Int) : ((l.map fun y => [PV.int .i64 y]).all fun e => e.length == 1) = true := by simp
abbrev strsV (l : List ByteArray) : PV := .sl (l.map fun y => [.str y])
abbrev intsV (l : List Int) : PV := .sl (l.map fun y => [.int .i64 y])
end Go.Proofs.YthmlnffponjikaaGreatDoor

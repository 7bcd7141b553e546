/- The types of this seat, each a closed fact. Printed by wip/gen/types.py. -/
import Derived.Test.YtoeobicpdeklaaaGreatFun
namespace Go.Proofs.YtoeobicpdeklaaaGreat
open Go
theorem ty1 : TyOk Tryz.prog 1 [.nilFunc] 1 8 false := tyOk (by kernel_rfl)
theorem ty2 : TyOk Tryz.prog 2 [.int .i64 0] 1 8 false := tyOk (by kernel_rfl)
theorem ty3 : TyOk Tryz.prog 3 [.int .i64 0] 1 8 false := tyOk (by kernel_rfl)
theorem ty4 : TyOk Tryz.prog 4 [.bool false] 1 1 false := tyOk (by kernel_rfl)
theorem ty5 : TyOk Tryz.prog 5 [.int .u8 0] 1 1 false := tyOk (by kernel_rfl)
theorem ty9 : TyOk Tryz.prog 9 [.string .empty] 1 16 false := tyOk (by kernel_rfl)
theorem ty12 : TyOk Tryz.prog 12 [.int .u64 0] 1 8 false := tyOk (by kernel_rfl)
theorem ty13 : TyOk Tryz.prog 13 [.string .empty, .int .u64 0] 2 24 true := tyOk (by kernel_rfl)
theorem fl13_0 : fieldOf Tryz.prog 13 0 = some (0, 9) := by kernel_rfl
theorem fl13_1 : fieldOf Tryz.prog 13 1 = some (1, 12) := by kernel_rfl
theorem ty20 : TyOk Tryz.prog 20 [.nilIface] 1 16 false := tyOk (by kernel_rfl)
theorem ty21 : TyOk Tryz.prog 21 [.int .i32 0] 1 4 false := tyOk (by kernel_rfl)
theorem ty22 : TyOk Tryz.prog 22 [.slice none 0 0] 1 24 false := tyOk (by kernel_rfl)
theorem ty23 : TyOk Tryz.prog 23 [.slice none 0 0] 1 24 false := tyOk (by kernel_rfl)
theorem ty24 : TyOk Tryz.prog 24 [.slice none 0 0] 1 24 false := tyOk (by kernel_rfl)
theorem ty25 : TyOk Tryz.prog 25 [.slice none 0 0] 1 24 false := tyOk (by kernel_rfl)
theorem ty26 : TyOk Tryz.prog 26 [.slice none 0 0] 1 24 false := tyOk (by kernel_rfl)
theorem ty27 : TyOk Tryz.prog 27 [.int .i64 0, .int .i64 0, .int .i64 0, .string .empty, .string .empty, .int .i64 0, .int .i64 0] 7 72 true := tyOk (by kernel_rfl)
theorem fl27_0 : fieldOf Tryz.prog 27 0 = some (0, 3) := by kernel_rfl
theorem fl27_1 : fieldOf Tryz.prog 27 1 = some (1, 3) := by kernel_rfl
theorem fl27_2 : fieldOf Tryz.prog 27 2 = some (2, 3) := by kernel_rfl
theorem fl27_3 : fieldOf Tryz.prog 27 3 = some (3, 9) := by kernel_rfl
theorem fl27_4 : fieldOf Tryz.prog 27 4 = some (4, 9) := by kernel_rfl
theorem fl27_5 : fieldOf Tryz.prog 27 5 = some (5, 3) := by kernel_rfl
theorem fl27_6 : fieldOf Tryz.prog 27 6 = some (6, 3) := by kernel_rfl
theorem ty28 : TyOk Tryz.prog 28 [.int .i64 0, .int .i64 0, .int .i64 0, .string .empty, .string .empty, .int .i64 0, .int .i64 0] 7 72 true := tyOk (by kernel_rfl)
theorem fl28_0 : fieldOf Tryz.prog 28 0 = some (0, 3) := by kernel_rfl
theorem fl28_1 : fieldOf Tryz.prog 28 1 = some (1, 3) := by kernel_rfl
theorem fl28_2 : fieldOf Tryz.prog 28 2 = some (2, 3) := by kernel_rfl
theorem fl28_3 : fieldOf Tryz.prog 28 3 = some (3, 9) := by kernel_rfl
theorem fl28_4 : fieldOf Tryz.prog 28 4 = some (4, 9) := by kernel_rfl
theorem fl28_5 : fieldOf Tryz.prog 28 5 = some (5, 3) := by kernel_rfl
theorem fl28_6 : fieldOf Tryz.prog 28 6 = some (6, 3) := by kernel_rfl
theorem ty29 : TyOk Tryz.prog 29 [.slice none 0 0] 1 24 false := tyOk (by kernel_rfl)
theorem ty30 : TyOk Tryz.prog 30 [.int .i64 0, .int .i64 0, .bool false, .string .empty, .string .empty, .int .i64 0, .slice none 0 0, .slice none 0 0, .slice none 0 0, .slice none 0 0, .slice none 0 0, .int .i64 0, .int .i64 0, .int .i64 0, .string .empty, .string .empty, .int .i64 0, .int .i64 0, .int .i64 0, .int .i64 0, .int .i64 0, .string .empty, .string .empty, .int .i64 0, .int .i64 0, .slice none 0 0, .int .i64 0, .int .i64 0, .int .i64 0] 29 376 true := tyOk (by kernel_rfl)
theorem fl30_0 : fieldOf Tryz.prog 30 0 = some (0, 3) := by kernel_rfl
theorem fl30_1 : fieldOf Tryz.prog 30 1 = some (1, 3) := by kernel_rfl
theorem fl30_2 : fieldOf Tryz.prog 30 2 = some (2, 4) := by kernel_rfl
theorem fl30_3 : fieldOf Tryz.prog 30 3 = some (3, 9) := by kernel_rfl
theorem fl30_4 : fieldOf Tryz.prog 30 4 = some (4, 9) := by kernel_rfl
theorem fl30_5 : fieldOf Tryz.prog 30 5 = some (5, 3) := by kernel_rfl
theorem fl30_6 : fieldOf Tryz.prog 30 6 = some (6, 22) := by kernel_rfl
theorem fl30_7 : fieldOf Tryz.prog 30 7 = some (7, 23) := by kernel_rfl
theorem fl30_8 : fieldOf Tryz.prog 30 8 = some (8, 24) := by kernel_rfl
theorem fl30_9 : fieldOf Tryz.prog 30 9 = some (9, 25) := by kernel_rfl
theorem fl30_10 : fieldOf Tryz.prog 30 10 = some (10, 26) := by kernel_rfl
theorem fl30_11 : fieldOf Tryz.prog 30 11 = some (11, 28) := by kernel_rfl
theorem fl30_12 : fieldOf Tryz.prog 30 12 = some (18, 28) := by kernel_rfl
theorem fl30_13 : fieldOf Tryz.prog 30 13 = some (25, 29) := by kernel_rfl
theorem fl30_14 : fieldOf Tryz.prog 30 14 = some (26, 3) := by kernel_rfl
theorem fl30_15 : fieldOf Tryz.prog 30 15 = some (27, 3) := by kernel_rfl
theorem fl30_16 : fieldOf Tryz.prog 30 16 = some (28, 3) := by kernel_rfl
theorem ty31 : TyOk Tryz.prog 31 [.int .i64 0, .int .i64 0, .bool false, .string .empty, .string .empty, .int .i64 0, .slice none 0 0, .slice none 0 0, .slice none 0 0, .slice none 0 0, .slice none 0 0, .int .i64 0, .int .i64 0, .int .i64 0, .string .empty, .string .empty, .int .i64 0, .int .i64 0, .int .i64 0, .int .i64 0, .int .i64 0, .string .empty, .string .empty, .int .i64 0, .int .i64 0, .slice none 0 0, .int .i64 0, .int .i64 0, .int .i64 0] 29 376 true := tyOk (by kernel_rfl)
theorem fl31_0 : fieldOf Tryz.prog 31 0 = some (0, 3) := by kernel_rfl
theorem fl31_1 : fieldOf Tryz.prog 31 1 = some (1, 3) := by kernel_rfl
theorem fl31_2 : fieldOf Tryz.prog 31 2 = some (2, 4) := by kernel_rfl
theorem fl31_3 : fieldOf Tryz.prog 31 3 = some (3, 9) := by kernel_rfl
theorem fl31_4 : fieldOf Tryz.prog 31 4 = some (4, 9) := by kernel_rfl
theorem fl31_5 : fieldOf Tryz.prog 31 5 = some (5, 3) := by kernel_rfl
theorem fl31_6 : fieldOf Tryz.prog 31 6 = some (6, 22) := by kernel_rfl
theorem fl31_7 : fieldOf Tryz.prog 31 7 = some (7, 23) := by kernel_rfl
theorem fl31_8 : fieldOf Tryz.prog 31 8 = some (8, 24) := by kernel_rfl
theorem fl31_9 : fieldOf Tryz.prog 31 9 = some (9, 25) := by kernel_rfl
theorem fl31_10 : fieldOf Tryz.prog 31 10 = some (10, 26) := by kernel_rfl
theorem fl31_11 : fieldOf Tryz.prog 31 11 = some (11, 28) := by kernel_rfl
theorem fl31_12 : fieldOf Tryz.prog 31 12 = some (18, 28) := by kernel_rfl
theorem fl31_13 : fieldOf Tryz.prog 31 13 = some (25, 29) := by kernel_rfl
theorem fl31_14 : fieldOf Tryz.prog 31 14 = some (26, 3) := by kernel_rfl
theorem fl31_15 : fieldOf Tryz.prog 31 15 = some (27, 3) := by kernel_rfl
theorem fl31_16 : fieldOf Tryz.prog 31 16 = some (28, 3) := by kernel_rfl
theorem ty32 : TyOk Tryz.prog 32 [.int .i64 0] 1 8 false := tyOk (by kernel_rfl)
theorem ty34 : TyOk Tryz.prog 34 [.nilFunc] 1 8 false := tyOk (by kernel_rfl)
theorem ty35 : TyOk Tryz.prog 35 [.nilFunc] 1 8 false := tyOk (by kernel_rfl)
theorem ty37 : TyOk Tryz.prog 37 [.nilFunc] 1 8 false := tyOk (by kernel_rfl)
theorem ty38 : TyOk Tryz.prog 38 [.nilFunc] 1 8 false := tyOk (by kernel_rfl)
theorem ty39 : TyOk Tryz.prog 39 [.nilFunc] 1 8 false := tyOk (by kernel_rfl)
theorem ty40 : TyOk Tryz.prog 40 [.nilFunc] 1 8 false := tyOk (by kernel_rfl)
theorem ty41 : TyOk Tryz.prog 41 [.nilFunc] 1 8 false := tyOk (by kernel_rfl)
theorem ty42 : TyOk Tryz.prog 42 [.nilFunc] 1 8 false := tyOk (by kernel_rfl)
theorem ty43 : TyOk Tryz.prog 43 [.pointer none] 1 8 false := tyOk (by kernel_rfl)
theorem ty44 : TyOk Tryz.prog 44 [.nilFunc] 1 8 false := tyOk (by kernel_rfl)
theorem ty45 : TyOk Tryz.prog 45 [.pointer none] 1 8 false := tyOk (by kernel_rfl)
theorem ty46 : TyOk Tryz.prog 46 [.nilFunc] 1 8 false := tyOk (by kernel_rfl)
theorem ty47 : TyOk Tryz.prog 47 [.nilFunc] 1 8 false := tyOk (by kernel_rfl)
theorem ty48 : TyOk Tryz.prog 48 [.pointer none] 1 8 false := tyOk (by kernel_rfl)
theorem ty49 : TyOk Tryz.prog 49 [.pointer none] 1 8 false := tyOk (by kernel_rfl)
theorem ty50 : TyOk Tryz.prog 50 [.slice none 0 0, .pointer none, .bool false] 3 40 true := tyOk (by kernel_rfl)
theorem fl50_0 : fieldOf Tryz.prog 50 0 = some (0, 29) := by kernel_rfl
theorem fl50_1 : fieldOf Tryz.prog 50 1 = some (1, 49) := by kernel_rfl
theorem fl50_2 : fieldOf Tryz.prog 50 2 = some (2, 4) := by kernel_rfl
theorem ty51 : TyOk Tryz.prog 51 [.slice none 0 0, .pointer none, .bool false] 3 40 true := tyOk (by kernel_rfl)
theorem fl51_0 : fieldOf Tryz.prog 51 0 = some (0, 29) := by kernel_rfl
theorem fl51_1 : fieldOf Tryz.prog 51 1 = some (1, 49) := by kernel_rfl
theorem fl51_2 : fieldOf Tryz.prog 51 2 = some (2, 4) := by kernel_rfl
theorem ty52 : TyOk Tryz.prog 52 [.nilFunc] 1 8 false := tyOk (by kernel_rfl)
theorem ty53 : TyOk Tryz.prog 53 [.nilFunc] 1 8 false := tyOk (by kernel_rfl)
theorem ty54 : TyOk Tryz.prog 54 [.nilFunc] 1 8 false := tyOk (by kernel_rfl)
theorem ty56 : TyOk Tryz.prog 56 [.nilFunc] 1 8 false := tyOk (by kernel_rfl)
theorem ty57 : TyOk Tryz.prog 57 [.nilFunc] 1 8 false := tyOk (by kernel_rfl)
theorem ty58 : TyOk Tryz.prog 58 [.nilFunc] 1 8 false := tyOk (by kernel_rfl)
theorem ty59 : TyOk Tryz.prog 59 [.int .i64 0, .string .empty, .string .empty, .int .i64 0, .int .i64 0, .int .i64 0] 6 64 true := tyOk (by kernel_rfl)
theorem fl59_0 : fieldOf Tryz.prog 59 0 = some (0, 3) := by kernel_rfl
theorem fl59_1 : fieldOf Tryz.prog 59 1 = some (1, 9) := by kernel_rfl
theorem fl59_2 : fieldOf Tryz.prog 59 2 = some (2, 9) := by kernel_rfl
theorem fl59_3 : fieldOf Tryz.prog 59 3 = some (3, 3) := by kernel_rfl
theorem fl59_4 : fieldOf Tryz.prog 59 4 = some (4, 3) := by kernel_rfl
theorem fl59_5 : fieldOf Tryz.prog 59 5 = some (5, 3) := by kernel_rfl
theorem ty60 : TyOk Tryz.prog 60 [.int .i64 0, .string .empty, .string .empty, .int .i64 0, .int .i64 0, .int .i64 0] 6 64 true := tyOk (by kernel_rfl)
theorem fl60_0 : fieldOf Tryz.prog 60 0 = some (0, 3) := by kernel_rfl
theorem fl60_1 : fieldOf Tryz.prog 60 1 = some (1, 9) := by kernel_rfl
theorem fl60_2 : fieldOf Tryz.prog 60 2 = some (2, 9) := by kernel_rfl
theorem fl60_3 : fieldOf Tryz.prog 60 3 = some (3, 3) := by kernel_rfl
theorem fl60_4 : fieldOf Tryz.prog 60 4 = some (4, 3) := by kernel_rfl
theorem fl60_5 : fieldOf Tryz.prog 60 5 = some (5, 3) := by kernel_rfl
theorem ty61 : TyOk Tryz.prog 61 [.int .i64 0, .int .i64 0, .int .i64 0, .int .i64 0, .int .i64 0, .int .i64 0, .string .empty, .int .i64 0, .int .i64 0, .int .i64 0, .bool false, .int .i64 0, .string .empty, .string .empty, .int .i64 0, .int .i64 0, .int .i64 0, .int .i64 0, .int .i64 0, .int .i64 0, .string .empty, .string .empty, .int .i64 0, .int .i64 0, .slice none 0 0] 25 256 true := tyOk (by kernel_rfl)
theorem fl61_0 : fieldOf Tryz.prog 61 0 = some (0, 3) := by kernel_rfl
theorem fl61_1 : fieldOf Tryz.prog 61 1 = some (1, 3) := by kernel_rfl
theorem fl61_2 : fieldOf Tryz.prog 61 2 = some (2, 3) := by kernel_rfl
theorem fl61_3 : fieldOf Tryz.prog 61 3 = some (3, 3) := by kernel_rfl
theorem fl61_4 : fieldOf Tryz.prog 61 4 = some (4, 3) := by kernel_rfl
theorem fl61_5 : fieldOf Tryz.prog 61 5 = some (5, 3) := by kernel_rfl
theorem fl61_6 : fieldOf Tryz.prog 61 6 = some (6, 9) := by kernel_rfl
theorem fl61_7 : fieldOf Tryz.prog 61 7 = some (7, 3) := by kernel_rfl
theorem fl61_8 : fieldOf Tryz.prog 61 8 = some (8, 3) := by kernel_rfl
theorem fl61_9 : fieldOf Tryz.prog 61 9 = some (9, 3) := by kernel_rfl
theorem fl61_10 : fieldOf Tryz.prog 61 10 = some (10, 4) := by kernel_rfl
theorem fl61_11 : fieldOf Tryz.prog 61 11 = some (11, 60) := by kernel_rfl
theorem fl61_12 : fieldOf Tryz.prog 61 12 = some (17, 28) := by kernel_rfl
theorem fl61_13 : fieldOf Tryz.prog 61 13 = some (24, 29) := by kernel_rfl
theorem ty62 : TyOk Tryz.prog 62 [.int .i64 0, .int .i64 0, .int .i64 0, .int .i64 0, .int .i64 0, .int .i64 0, .string .empty, .int .i64 0, .int .i64 0, .int .i64 0, .bool false, .int .i64 0, .string .empty, .string .empty, .int .i64 0, .int .i64 0, .int .i64 0, .int .i64 0, .int .i64 0, .int .i64 0, .string .empty, .string .empty, .int .i64 0, .int .i64 0, .slice none 0 0] 25 256 true := tyOk (by kernel_rfl)
theorem fl62_0 : fieldOf Tryz.prog 62 0 = some (0, 3) := by kernel_rfl
theorem fl62_1 : fieldOf Tryz.prog 62 1 = some (1, 3) := by kernel_rfl
theorem fl62_2 : fieldOf Tryz.prog 62 2 = some (2, 3) := by kernel_rfl
theorem fl62_3 : fieldOf Tryz.prog 62 3 = some (3, 3) := by kernel_rfl
theorem fl62_4 : fieldOf Tryz.prog 62 4 = some (4, 3) := by kernel_rfl
theorem fl62_5 : fieldOf Tryz.prog 62 5 = some (5, 3) := by kernel_rfl
theorem fl62_6 : fieldOf Tryz.prog 62 6 = some (6, 9) := by kernel_rfl
theorem fl62_7 : fieldOf Tryz.prog 62 7 = some (7, 3) := by kernel_rfl
theorem fl62_8 : fieldOf Tryz.prog 62 8 = some (8, 3) := by kernel_rfl
theorem fl62_9 : fieldOf Tryz.prog 62 9 = some (9, 3) := by kernel_rfl
theorem fl62_10 : fieldOf Tryz.prog 62 10 = some (10, 4) := by kernel_rfl
theorem fl62_11 : fieldOf Tryz.prog 62 11 = some (11, 60) := by kernel_rfl
theorem fl62_12 : fieldOf Tryz.prog 62 12 = some (17, 28) := by kernel_rfl
theorem fl62_13 : fieldOf Tryz.prog 62 13 = some (24, 29) := by kernel_rfl
theorem ty63 : TyOk Tryz.prog 63 [.nilFunc] 1 8 false := tyOk (by kernel_rfl)
theorem ty64 : TyOk Tryz.prog 64 [.nilFunc] 1 8 false := tyOk (by kernel_rfl)
theorem ty65 : TyOk Tryz.prog 65 [.int .i64 0, .int .i64 0, .int .i64 0, .int .i64 0] 4 32 true := tyOk (by kernel_rfl)
theorem fl65_0 : fieldOf Tryz.prog 65 0 = some (0, 32) := by kernel_rfl
theorem fl65_1 : fieldOf Tryz.prog 65 1 = some (1, 3) := by kernel_rfl
theorem fl65_2 : fieldOf Tryz.prog 65 2 = some (2, 3) := by kernel_rfl
theorem fl65_3 : fieldOf Tryz.prog 65 3 = some (3, 3) := by kernel_rfl
theorem ty66 : TyOk Tryz.prog 66 [.int .i64 0, .int .i64 0, .int .i64 0, .int .i64 0] 4 32 true := tyOk (by kernel_rfl)
theorem fl66_0 : fieldOf Tryz.prog 66 0 = some (0, 32) := by kernel_rfl
theorem fl66_1 : fieldOf Tryz.prog 66 1 = some (1, 3) := by kernel_rfl
theorem fl66_2 : fieldOf Tryz.prog 66 2 = some (2, 3) := by kernel_rfl
theorem fl66_3 : fieldOf Tryz.prog 66 3 = some (3, 3) := by kernel_rfl
theorem ty67 : TyOk Tryz.prog 67 [.int .i64 0, .int .i64 0, .bool false, .int .i64 0, .int .i64 0, .int .i64 0, .int .i64 0] 7 56 true := tyOk (by kernel_rfl)
theorem fl67_0 : fieldOf Tryz.prog 67 0 = some (0, 3) := by kernel_rfl
theorem fl67_1 : fieldOf Tryz.prog 67 1 = some (1, 3) := by kernel_rfl
theorem fl67_2 : fieldOf Tryz.prog 67 2 = some (2, 4) := by kernel_rfl
theorem fl67_3 : fieldOf Tryz.prog 67 3 = some (3, 66) := by kernel_rfl
theorem ty68 : TyOk Tryz.prog 68 [.int .i64 0, .int .i64 0, .bool false, .int .i64 0, .int .i64 0, .int .i64 0, .int .i64 0] 7 56 true := tyOk (by kernel_rfl)
theorem fl68_0 : fieldOf Tryz.prog 68 0 = some (0, 3) := by kernel_rfl
theorem fl68_1 : fieldOf Tryz.prog 68 1 = some (1, 3) := by kernel_rfl
theorem fl68_2 : fieldOf Tryz.prog 68 2 = some (2, 4) := by kernel_rfl
theorem fl68_3 : fieldOf Tryz.prog 68 3 = some (3, 66) := by kernel_rfl
theorem ty69 : TyOk Tryz.prog 69 [.nilFunc] 1 8 false := tyOk (by kernel_rfl)
theorem ty70 : TyOk Tryz.prog 70 [.int .i64 0, .int .i64 0, .int .i64 0, .int .i64 0, .int .i64 0, .int .i64 0, .string .empty, .string .empty, .int .i64 0, .int .i64 0, .int .i64 0] 11 104 true := tyOk (by kernel_rfl)
theorem fl70_0 : fieldOf Tryz.prog 70 0 = some (0, 3) := by kernel_rfl
theorem fl70_1 : fieldOf Tryz.prog 70 1 = some (1, 3) := by kernel_rfl
theorem fl70_2 : fieldOf Tryz.prog 70 2 = some (2, 3) := by kernel_rfl
theorem fl70_3 : fieldOf Tryz.prog 70 3 = some (3, 3) := by kernel_rfl
theorem fl70_4 : fieldOf Tryz.prog 70 4 = some (4, 3) := by kernel_rfl
theorem fl70_5 : fieldOf Tryz.prog 70 5 = some (5, 60) := by kernel_rfl
theorem ty71 : TyOk Tryz.prog 71 [.int .i64 0, .int .i64 0, .int .i64 0, .int .i64 0, .int .i64 0, .int .i64 0, .string .empty, .string .empty, .int .i64 0, .int .i64 0, .int .i64 0] 11 104 true := tyOk (by kernel_rfl)
theorem fl71_0 : fieldOf Tryz.prog 71 0 = some (0, 3) := by kernel_rfl
theorem fl71_1 : fieldOf Tryz.prog 71 1 = some (1, 3) := by kernel_rfl
theorem fl71_2 : fieldOf Tryz.prog 71 2 = some (2, 3) := by kernel_rfl
theorem fl71_3 : fieldOf Tryz.prog 71 3 = some (3, 3) := by kernel_rfl
theorem fl71_4 : fieldOf Tryz.prog 71 4 = some (4, 3) := by kernel_rfl
theorem fl71_5 : fieldOf Tryz.prog 71 5 = some (5, 60) := by kernel_rfl
theorem ty72 : TyOk Tryz.prog 72 [.nilFunc] 1 8 false := tyOk (by kernel_rfl)
theorem ty73 : TyOk Tryz.prog 73 [.int .i64 0, .int .i64 0, .string .empty, .string .empty, .int .i64 0, .int .i64 0, .int .i64 0, .int .i64 0] 8 80 true := tyOk (by kernel_rfl)
theorem fl73_0 : fieldOf Tryz.prog 73 0 = some (0, 3) := by kernel_rfl
theorem fl73_1 : fieldOf Tryz.prog 73 1 = some (1, 3) := by kernel_rfl
theorem fl73_2 : fieldOf Tryz.prog 73 2 = some (2, 9) := by kernel_rfl
theorem fl73_3 : fieldOf Tryz.prog 73 3 = some (3, 9) := by kernel_rfl
theorem fl73_4 : fieldOf Tryz.prog 73 4 = some (4, 3) := by kernel_rfl
theorem fl73_5 : fieldOf Tryz.prog 73 5 = some (5, 3) := by kernel_rfl
theorem fl73_6 : fieldOf Tryz.prog 73 6 = some (6, 3) := by kernel_rfl
theorem fl73_7 : fieldOf Tryz.prog 73 7 = some (7, 3) := by kernel_rfl
theorem ty74 : TyOk Tryz.prog 74 [.int .i64 0, .int .i64 0, .string .empty, .string .empty, .int .i64 0, .int .i64 0, .int .i64 0, .int .i64 0] 8 80 true := tyOk (by kernel_rfl)
theorem fl74_0 : fieldOf Tryz.prog 74 0 = some (0, 3) := by kernel_rfl
theorem fl74_1 : fieldOf Tryz.prog 74 1 = some (1, 3) := by kernel_rfl
theorem fl74_2 : fieldOf Tryz.prog 74 2 = some (2, 9) := by kernel_rfl
theorem fl74_3 : fieldOf Tryz.prog 74 3 = some (3, 9) := by kernel_rfl
theorem fl74_4 : fieldOf Tryz.prog 74 4 = some (4, 3) := by kernel_rfl
theorem fl74_5 : fieldOf Tryz.prog 74 5 = some (5, 3) := by kernel_rfl
theorem fl74_6 : fieldOf Tryz.prog 74 6 = some (6, 3) := by kernel_rfl
theorem fl74_7 : fieldOf Tryz.prog 74 7 = some (7, 3) := by kernel_rfl
theorem ty75 : TyOk Tryz.prog 75 [.nilFunc] 1 8 false := tyOk (by kernel_rfl)
theorem ty76 : TyOk Tryz.prog 76 [.int .i64 0, .int .i64 0] 2 16 true := tyOk (by kernel_rfl)
theorem fl76_0 : fieldOf Tryz.prog 76 0 = some (0, 3) := by kernel_rfl
theorem fl76_1 : fieldOf Tryz.prog 76 1 = some (1, 3) := by kernel_rfl
theorem ty77 : TyOk Tryz.prog 77 [.int .i64 0, .int .i64 0] 2 16 true := tyOk (by kernel_rfl)
theorem fl77_0 : fieldOf Tryz.prog 77 0 = some (0, 3) := by kernel_rfl
theorem fl77_1 : fieldOf Tryz.prog 77 1 = some (1, 3) := by kernel_rfl
theorem ty78 : TyOk Tryz.prog 78 [.pointer none] 1 8 false := tyOk (by kernel_rfl)
theorem ty79 : TyOk Tryz.prog 79 [.pointer none, .slice none 0 0, .bool false, .int .i64 0] 4 48 true := tyOk (by kernel_rfl)
theorem fl79_0 : fieldOf Tryz.prog 79 0 = some (0, 78) := by kernel_rfl
theorem fl79_1 : fieldOf Tryz.prog 79 1 = some (1, 29) := by kernel_rfl
theorem fl79_2 : fieldOf Tryz.prog 79 2 = some (2, 4) := by kernel_rfl
theorem fl79_3 : fieldOf Tryz.prog 79 3 = some (3, 32) := by kernel_rfl
theorem ty80 : TyOk Tryz.prog 80 [.pointer none, .slice none 0 0, .bool false, .int .i64 0] 4 48 true := tyOk (by kernel_rfl)
theorem fl80_0 : fieldOf Tryz.prog 80 0 = some (0, 78) := by kernel_rfl
theorem fl80_1 : fieldOf Tryz.prog 80 1 = some (1, 29) := by kernel_rfl
theorem fl80_2 : fieldOf Tryz.prog 80 2 = some (2, 4) := by kernel_rfl
theorem fl80_3 : fieldOf Tryz.prog 80 3 = some (3, 32) := by kernel_rfl
theorem ty81 : TyOk Tryz.prog 81 [.nilFunc] 1 8 false := tyOk (by kernel_rfl)
theorem ty82 : TyOk Tryz.prog 82 [.pointer none] 1 8 false := tyOk (by kernel_rfl)
theorem ty83 : TyOk Tryz.prog 83 [.nilFunc] 1 8 false := tyOk (by kernel_rfl)
theorem ty84 : TyOk Tryz.prog 84 [.pointer none] 1 8 false := tyOk (by kernel_rfl)
theorem ty85 : TyOk Tryz.prog 85 [.nilFunc] 1 8 false := tyOk (by kernel_rfl)
theorem ty86 : TyOk Tryz.prog 86 [.pointer none] 1 8 false := tyOk (by kernel_rfl)
theorem ty87 : TyOk Tryz.prog 87 [.nilFunc] 1 8 false := tyOk (by kernel_rfl)
theorem ty88 : TyOk Tryz.prog 88 [.int .i64 0, .int .i64 0] 2 16 true := tyOk (by kernel_rfl)
theorem fl88_0 : fieldOf Tryz.prog 88 0 = some (0, 3) := by kernel_rfl
theorem fl88_1 : fieldOf Tryz.prog 88 1 = some (1, 3) := by kernel_rfl
theorem ty89 : TyOk Tryz.prog 89 [.int .i64 0, .int .i64 0] 2 16 true := tyOk (by kernel_rfl)
theorem fl89_0 : fieldOf Tryz.prog 89 0 = some (0, 3) := by kernel_rfl
theorem fl89_1 : fieldOf Tryz.prog 89 1 = some (1, 3) := by kernel_rfl
theorem ty90 : TyOk Tryz.prog 90 [.slice none 0 0] 1 24 false := tyOk (by kernel_rfl)
theorem ty91 : TyOk Tryz.prog 91 [.int .i64 0, .int .i64 0, .int .i64 0, .int .i64 0] 4 32 true := tyOk (by kernel_rfl)
theorem fl91_0 : fieldOf Tryz.prog 91 0 = some (0, 3) := by kernel_rfl
theorem fl91_1 : fieldOf Tryz.prog 91 1 = some (1, 3) := by kernel_rfl
theorem fl91_2 : fieldOf Tryz.prog 91 2 = some (2, 3) := by kernel_rfl
theorem fl91_3 : fieldOf Tryz.prog 91 3 = some (3, 3) := by kernel_rfl
theorem ty92 : TyOk Tryz.prog 92 [.int .i64 0, .int .i64 0, .int .i64 0, .int .i64 0] 4 32 true := tyOk (by kernel_rfl)
theorem fl92_0 : fieldOf Tryz.prog 92 0 = some (0, 3) := by kernel_rfl
theorem fl92_1 : fieldOf Tryz.prog 92 1 = some (1, 3) := by kernel_rfl
theorem fl92_2 : fieldOf Tryz.prog 92 2 = some (2, 3) := by kernel_rfl
theorem fl92_3 : fieldOf Tryz.prog 92 3 = some (3, 3) := by kernel_rfl
theorem ty93 : TyOk Tryz.prog 93 [.string .empty, .int .i64 0, .int .i64 0, .int .i64 0, .int .i64 0, .slice none 0 0, .int .i64 0, .int .i64 0, .int .i64 0, .int .i64 0] 10 104 true := tyOk (by kernel_rfl)
theorem fl93_0 : fieldOf Tryz.prog 93 0 = some (0, 9) := by kernel_rfl
theorem fl93_1 : fieldOf Tryz.prog 93 1 = some (1, 89) := by kernel_rfl
theorem fl93_2 : fieldOf Tryz.prog 93 2 = some (3, 3) := by kernel_rfl
theorem fl93_3 : fieldOf Tryz.prog 93 3 = some (4, 3) := by kernel_rfl
theorem fl93_4 : fieldOf Tryz.prog 93 4 = some (5, 90) := by kernel_rfl
theorem fl93_5 : fieldOf Tryz.prog 93 5 = some (6, 92) := by kernel_rfl
theorem ty94 : TyOk Tryz.prog 94 [.string .empty, .int .i64 0, .int .i64 0, .int .i64 0, .int .i64 0, .slice none 0 0, .int .i64 0, .int .i64 0, .int .i64 0, .int .i64 0] 10 104 true := tyOk (by kernel_rfl)
theorem fl94_0 : fieldOf Tryz.prog 94 0 = some (0, 9) := by kernel_rfl
theorem fl94_1 : fieldOf Tryz.prog 94 1 = some (1, 89) := by kernel_rfl
theorem fl94_2 : fieldOf Tryz.prog 94 2 = some (3, 3) := by kernel_rfl
theorem fl94_3 : fieldOf Tryz.prog 94 3 = some (4, 3) := by kernel_rfl
theorem fl94_4 : fieldOf Tryz.prog 94 4 = some (5, 90) := by kernel_rfl
theorem fl94_5 : fieldOf Tryz.prog 94 5 = some (6, 92) := by kernel_rfl
theorem ty95 : TyOk Tryz.prog 95 [.pointer none] 1 8 false := tyOk (by kernel_rfl)
theorem ty96 : TyOk Tryz.prog 96 [.nilFunc] 1 8 false := tyOk (by kernel_rfl)
theorem ty97 : TyOk Tryz.prog 97 [.nilFunc] 1 8 false := tyOk (by kernel_rfl)
theorem ty98 : TyOk Tryz.prog 98 [.pointer none] 1 8 false := tyOk (by kernel_rfl)
theorem ty99 : TyOk Tryz.prog 99 [.nilFunc] 1 8 false := tyOk (by kernel_rfl)
theorem ty100 : TyOk Tryz.prog 100 [.nilFunc] 1 8 false := tyOk (by kernel_rfl)
theorem ty101 : TyOk Tryz.prog 101 [.pointer none] 1 8 false := tyOk (by kernel_rfl)
theorem ty102 : TyOk Tryz.prog 102 [.nilFunc] 1 8 false := tyOk (by kernel_rfl)
theorem ty103 : TyOk Tryz.prog 103 [.nilFunc] 1 8 false := tyOk (by kernel_rfl)
theorem ty104 : TyOk Tryz.prog 104 [.pointer none] 1 8 false := tyOk (by kernel_rfl)
theorem ty105 : TyOk Tryz.prog 105 [.nilFunc] 1 8 false := tyOk (by kernel_rfl)
theorem ty106 : TyOk Tryz.prog 106 [.nilFunc] 1 8 false := tyOk (by kernel_rfl)
theorem ty107 : TyOk Tryz.prog 107 [.pointer none] 1 8 false := tyOk (by kernel_rfl)
theorem ty108 : TyOk Tryz.prog 108 [.nilFunc] 1 8 false := tyOk (by kernel_rfl)
theorem ty109 : TyOk Tryz.prog 109 [.nilFunc] 1 8 false := tyOk (by kernel_rfl)
theorem ty110 : TyOk Tryz.prog 110 [.pointer none] 1 8 false := tyOk (by kernel_rfl)
theorem ty111 : TyOk Tryz.prog 111 [.nilFunc] 1 8 false := tyOk (by kernel_rfl)
theorem ty112 : TyOk Tryz.prog 112 [.pointer none] 1 8 false := tyOk (by kernel_rfl)
theorem ty113 : TyOk Tryz.prog 113 [.nilFunc] 1 8 false := tyOk (by kernel_rfl)
theorem ty114 : TyOk Tryz.prog 114 [.nilFunc] 1 8 false := tyOk (by kernel_rfl)
theorem ty115 : TyOk Tryz.prog 115 [.nilFunc] 1 8 false := tyOk (by kernel_rfl)
theorem ty116 : TyOk Tryz.prog 116 [.nilFunc] 1 8 false := tyOk (by kernel_rfl)
theorem ty117 : TyOk Tryz.prog 117 [.nilFunc] 1 8 false := tyOk (by kernel_rfl)
theorem ty118 : TyOk Tryz.prog 118 [.nilFunc] 1 8 false := tyOk (by kernel_rfl)
theorem ty119 : TyOk Tryz.prog 119 [.nilFunc] 1 8 false := tyOk (by kernel_rfl)
theorem ty120 : TyOk Tryz.prog 120 [.nilFunc] 1 8 false := tyOk (by kernel_rfl)
theorem ty121 : TyOk Tryz.prog 121 [.nilFunc] 1 8 false := tyOk (by kernel_rfl)
theorem ty122 : TyOk Tryz.prog 122 [.nilFunc] 1 8 false := tyOk (by kernel_rfl)
theorem ty123 : TyOk Tryz.prog 123 [.nilFunc] 1 8 false := tyOk (by kernel_rfl)
theorem ty124 : TyOk Tryz.prog 124 [.slice none 0 0, .int .i64 0, .int .i64 0] 3 40 true := tyOk (by kernel_rfl)
theorem fl124_0 : fieldOf Tryz.prog 124 0 = some (0, 29) := by kernel_rfl
theorem fl124_1 : fieldOf Tryz.prog 124 1 = some (1, 3) := by kernel_rfl
theorem fl124_2 : fieldOf Tryz.prog 124 2 = some (2, 32) := by kernel_rfl
theorem ty125 : TyOk Tryz.prog 125 [.slice none 0 0, .int .i64 0, .int .i64 0] 3 40 true := tyOk (by kernel_rfl)
theorem fl125_0 : fieldOf Tryz.prog 125 0 = some (0, 29) := by kernel_rfl
theorem fl125_1 : fieldOf Tryz.prog 125 1 = some (1, 3) := by kernel_rfl
theorem fl125_2 : fieldOf Tryz.prog 125 2 = some (2, 32) := by kernel_rfl
theorem ty126 : TyOk Tryz.prog 126 [.nilFunc] 1 8 false := tyOk (by kernel_rfl)
theorem ty127 : TyOk Tryz.prog 127 [.pointer none] 1 8 false := tyOk (by kernel_rfl)
theorem ty128 : TyOk Tryz.prog 128 [.nilFunc] 1 8 false := tyOk (by kernel_rfl)
theorem ty129 : TyOk Tryz.prog 129 [.nilFunc] 1 8 false := tyOk (by kernel_rfl)
theorem ty130 : TyOk Tryz.prog 130 [.slice none 0 0] 1 24 false := tyOk (by kernel_rfl)
theorem ty131 : TyOk Tryz.prog 131 [.nilFunc] 1 8 false := tyOk (by kernel_rfl)
theorem ty132 : TyOk Tryz.prog 132 [.nilFunc] 1 8 false := tyOk (by kernel_rfl)
theorem ty133 : TyOk Tryz.prog 133 [.nilFunc] 1 8 false := tyOk (by kernel_rfl)
theorem ty134 : TyOk Tryz.prog 134 [.slice none 0 0] 1 24 false := tyOk (by kernel_rfl)
theorem ty135 : TyOk Tryz.prog 135 [.nilFunc] 1 8 false := tyOk (by kernel_rfl)
theorem ty136 : TyOk Tryz.prog 136 [.int .u64 0] 1 8 false := tyOk (by kernel_rfl)
theorem ty137 : TyOk Tryz.prog 137 [.pointer none] 1 8 false := tyOk (by kernel_rfl)
theorem ty138 : TyOk Tryz.prog 138 [.nilFunc] 1 8 false := tyOk (by kernel_rfl)
theorem ty139 : TyOk Tryz.prog 139 [.nilFunc] 1 8 false := tyOk (by kernel_rfl)
theorem ty140 : TyOk Tryz.prog 140 [.int .i64 0, .int .i64 0, .int .i64 0, .int .i64 0] 4 32 true := tyOk (by kernel_rfl)
theorem fl140_0 : fieldOf Tryz.prog 140 0 = some (0, 3) := by kernel_rfl
theorem fl140_1 : fieldOf Tryz.prog 140 1 = some (1, 3) := by kernel_rfl
theorem fl140_2 : fieldOf Tryz.prog 140 2 = some (2, 3) := by kernel_rfl
theorem fl140_3 : fieldOf Tryz.prog 140 3 = some (3, 3) := by kernel_rfl
theorem ty141 : TyOk Tryz.prog 141 [.int .i64 0, .int .i64 0, .int .i64 0, .int .i64 0] 4 32 true := tyOk (by kernel_rfl)
theorem fl141_0 : fieldOf Tryz.prog 141 0 = some (0, 3) := by kernel_rfl
theorem fl141_1 : fieldOf Tryz.prog 141 1 = some (1, 3) := by kernel_rfl
theorem fl141_2 : fieldOf Tryz.prog 141 2 = some (2, 3) := by kernel_rfl
theorem fl141_3 : fieldOf Tryz.prog 141 3 = some (3, 3) := by kernel_rfl
theorem ty142 : TyOk Tryz.prog 142 [.pointer none] 1 8 false := tyOk (by kernel_rfl)
theorem ty143 : TyOk Tryz.prog 143 [.nilFunc] 1 8 false := tyOk (by kernel_rfl)
theorem ty144 : TyOk Tryz.prog 144 [.pointer none] 1 8 false := tyOk (by kernel_rfl)
theorem ty145 : TyOk Tryz.prog 145 [.nilFunc] 1 8 false := tyOk (by kernel_rfl)
theorem ty146 : TyOk Tryz.prog 146 [.pointer none] 1 8 false := tyOk (by kernel_rfl)
theorem ty147 : TyOk Tryz.prog 147 [.pointer none] 1 8 false := tyOk (by kernel_rfl)
theorem ty148 : TyOk Tryz.prog 148 [.nilFunc] 1 8 false := tyOk (by kernel_rfl)
theorem ty149 : TyOk Tryz.prog 149 [.pointer none] 1 8 false := tyOk (by kernel_rfl)
theorem ty150 : TyOk Tryz.prog 150 [.pointer none] 1 8 false := tyOk (by kernel_rfl)
theorem ty151 : TyOk Tryz.prog 151 [.pointer none] 1 8 false := tyOk (by kernel_rfl)
theorem ty152 : TyOk Tryz.prog 152 [.nilFunc] 1 8 false := tyOk (by kernel_rfl)
theorem ty153 : TyOk Tryz.prog 153 [.nilFunc] 1 8 false := tyOk (by kernel_rfl)
theorem ty154 : TyOk Tryz.prog 154 [.nilFunc] 1 8 false := tyOk (by kernel_rfl)
theorem ty155 : TyOk Tryz.prog 155 [.nilFunc] 1 8 false := tyOk (by kernel_rfl)
theorem ty156 : TyOk Tryz.prog 156 [.nilFunc] 1 8 false := tyOk (by kernel_rfl)
theorem ty157 : TyOk Tryz.prog 157 [.nilFunc] 1 8 false := tyOk (by kernel_rfl)
theorem ty158 : TyOk Tryz.prog 158 [.slice none 0 0, .int .i64 0, .int .i64 0] 3 40 true := tyOk (by kernel_rfl)
theorem fl158_0 : fieldOf Tryz.prog 158 0 = some (0, 29) := by kernel_rfl
theorem fl158_1 : fieldOf Tryz.prog 158 1 = some (1, 3) := by kernel_rfl
theorem fl158_2 : fieldOf Tryz.prog 158 2 = some (2, 32) := by kernel_rfl
theorem ty159 : TyOk Tryz.prog 159 [.slice none 0 0, .int .i64 0, .int .i64 0] 3 40 true := tyOk (by kernel_rfl)
theorem fl159_0 : fieldOf Tryz.prog 159 0 = some (0, 29) := by kernel_rfl
theorem fl159_1 : fieldOf Tryz.prog 159 1 = some (1, 3) := by kernel_rfl
theorem fl159_2 : fieldOf Tryz.prog 159 2 = some (2, 32) := by kernel_rfl
theorem ty160 : TyOk Tryz.prog 160 [.nilFunc] 1 8 false := tyOk (by kernel_rfl)
theorem ty162 : TyOk Tryz.prog 162 [.nilFunc] 1 8 false := tyOk (by kernel_rfl)
theorem ty163 : TyOk Tryz.prog 163 [.int .u64 0] 1 8 false := tyOk (by kernel_rfl)
theorem ty164 : TyOk Tryz.prog 164 [.nilFunc] 1 8 false := tyOk (by kernel_rfl)
theorem ty165 : TyOk Tryz.prog 165 [.nilFunc] 1 8 false := tyOk (by kernel_rfl)
theorem ty166 : TyOk Tryz.prog 166 [.nilFunc] 1 8 false := tyOk (by kernel_rfl)
theorem ty168 : TyOk Tryz.prog 168 [.nilFunc] 1 8 false := tyOk (by kernel_rfl)
theorem ty169 : TyOk Tryz.prog 169 [.pointer none] 1 8 false := tyOk (by kernel_rfl)
theorem ty170 : TyOk Tryz.prog 170 [.nilFunc] 1 8 false := tyOk (by kernel_rfl)
theorem ty171 : TyOk Tryz.prog 171 [.nilFunc] 1 8 false := tyOk (by kernel_rfl)
theorem ty172 : TyOk Tryz.prog 172 [.nilFunc] 1 8 false := tyOk (by kernel_rfl)
theorem ty173 : TyOk Tryz.prog 173 [.pointer none] 1 8 false := tyOk (by kernel_rfl)
theorem ty174 : TyOk Tryz.prog 174 [.nilFunc] 1 8 false := tyOk (by kernel_rfl)
theorem ty175 : TyOk Tryz.prog 175 [.nilFunc] 1 8 false := tyOk (by kernel_rfl)
theorem ty176 : TyOk Tryz.prog 176 [.pointer none] 1 8 false := tyOk (by kernel_rfl)
theorem ty177 : TyOk Tryz.prog 177 [.nilFunc] 1 8 false := tyOk (by kernel_rfl)
theorem ty178 : TyOk Tryz.prog 178 [.pointer none] 1 8 false := tyOk (by kernel_rfl)
theorem ty179 : TyOk Tryz.prog 179 [.nilFunc] 1 8 false := tyOk (by kernel_rfl)
theorem ty181 : TyOk Tryz.prog 181 [.nilFunc] 1 8 false := tyOk (by kernel_rfl)
theorem ty183 : TyOk Tryz.prog 183 [.nilFunc] 1 8 false := tyOk (by kernel_rfl)
theorem ty184 : TyOk Tryz.prog 184 [.nilFunc] 1 8 false := tyOk (by kernel_rfl)
theorem ty185 : TyOk Tryz.prog 185 [.nilFunc] 1 8 false := tyOk (by kernel_rfl)
theorem ty191 : TyOk Tryz.prog 191 [.int .u32 0] 1 4 false := tyOk (by kernel_rfl)
theorem ty194 : TyOk Tryz.prog 194 [.nilFunc] 1 8 false := tyOk (by kernel_rfl)
theorem ty195 : TyOk Tryz.prog 195 [.pointer none] 1 8 false := tyOk (by kernel_rfl)
theorem ty200 : TyOk Tryz.prog 200 [.pointer none] 1 8 false := tyOk (by kernel_rfl)
theorem gf3 : goFn Tryz.prog 3 = true := by kernel_rfl
theorem gf4 : goFn Tryz.prog 4 = true := by kernel_rfl
theorem gf5 : goFn Tryz.prog 5 = true := by kernel_rfl
theorem gf6 : goFn Tryz.prog 6 = true := by kernel_rfl
theorem gf7 : goFn Tryz.prog 7 = true := by kernel_rfl
theorem gf8 : goFn Tryz.prog 8 = true := by kernel_rfl
theorem gf9 : goFn Tryz.prog 9 = true := by kernel_rfl
theorem gf10 : goFn Tryz.prog 10 = true := by kernel_rfl
theorem gf11 : goFn Tryz.prog 11 = true := by kernel_rfl
theorem gf12 : goFn Tryz.prog 12 = true := by kernel_rfl
theorem gf13 : goFn Tryz.prog 13 = true := by kernel_rfl
theorem gf14 : goFn Tryz.prog 14 = true := by kernel_rfl
theorem gf15 : goFn Tryz.prog 15 = true := by kernel_rfl
theorem gf16 : goFn Tryz.prog 16 = true := by kernel_rfl
theorem gf17 : goFn Tryz.prog 17 = true := by kernel_rfl
theorem gf18 : goFn Tryz.prog 18 = true := by kernel_rfl
theorem gf19 : goFn Tryz.prog 19 = true := by kernel_rfl
theorem gf20 : goFn Tryz.prog 20 = true := by kernel_rfl
theorem gf21 : goFn Tryz.prog 21 = true := by kernel_rfl
theorem gf22 : goFn Tryz.prog 22 = true := by kernel_rfl
theorem gf23 : goFn Tryz.prog 23 = true := by kernel_rfl
theorem gf24 : goFn Tryz.prog 24 = true := by kernel_rfl
theorem gf25 : goFn Tryz.prog 25 = true := by kernel_rfl
theorem gf26 : goFn Tryz.prog 26 = true := by kernel_rfl
theorem gf27 : goFn Tryz.prog 27 = true := by kernel_rfl
theorem gf28 : goFn Tryz.prog 28 = true := by kernel_rfl
theorem gf29 : goFn Tryz.prog 29 = true := by kernel_rfl
theorem gf30 : goFn Tryz.prog 30 = true := by kernel_rfl
theorem gf31 : goFn Tryz.prog 31 = true := by kernel_rfl
theorem gf32 : goFn Tryz.prog 32 = true := by kernel_rfl
theorem gf33 : goFn Tryz.prog 33 = true := by kernel_rfl
theorem gf34 : goFn Tryz.prog 34 = true := by kernel_rfl
theorem gf35 : goFn Tryz.prog 35 = true := by kernel_rfl
theorem gf36 : goFn Tryz.prog 36 = true := by kernel_rfl
theorem gf37 : goFn Tryz.prog 37 = true := by kernel_rfl
theorem gf38 : goFn Tryz.prog 38 = true := by kernel_rfl
theorem gf39 : goFn Tryz.prog 39 = true := by kernel_rfl
theorem gf40 : goFn Tryz.prog 40 = true := by kernel_rfl
theorem gf41 : goFn Tryz.prog 41 = true := by kernel_rfl
theorem gf42 : goFn Tryz.prog 42 = true := by kernel_rfl
theorem gf43 : goFn Tryz.prog 43 = true := by kernel_rfl
theorem gf44 : goFn Tryz.prog 44 = true := by kernel_rfl
theorem gf45 : goFn Tryz.prog 45 = true := by kernel_rfl
theorem gf46 : goFn Tryz.prog 46 = true := by kernel_rfl
theorem gf47 : goFn Tryz.prog 47 = true := by kernel_rfl
theorem gf48 : goFn Tryz.prog 48 = true := by kernel_rfl
theorem gf49 : goFn Tryz.prog 49 = true := by kernel_rfl
theorem gf50 : goFn Tryz.prog 50 = true := by kernel_rfl
theorem gf51 : goFn Tryz.prog 51 = true := by kernel_rfl
theorem gf52 : goFn Tryz.prog 52 = true := by kernel_rfl
theorem gf53 : goFn Tryz.prog 53 = true := by kernel_rfl
theorem gf54 : goFn Tryz.prog 54 = true := by kernel_rfl
theorem gf55 : goFn Tryz.prog 55 = true := by kernel_rfl
theorem gf56 : goFn Tryz.prog 56 = true := by kernel_rfl
theorem gf57 : goFn Tryz.prog 57 = true := by kernel_rfl
theorem gf58 : goFn Tryz.prog 58 = true := by kernel_rfl
theorem gf59 : goFn Tryz.prog 59 = true := by kernel_rfl
theorem gf60 : goFn Tryz.prog 60 = true := by kernel_rfl
theorem gf61 : goFn Tryz.prog 61 = true := by kernel_rfl
theorem gf62 : goFn Tryz.prog 62 = true := by kernel_rfl
theorem gf63 : goFn Tryz.prog 63 = true := by kernel_rfl
theorem gf64 : goFn Tryz.prog 64 = true := by kernel_rfl
theorem gf65 : goFn Tryz.prog 65 = true := by kernel_rfl
theorem gf66 : goFn Tryz.prog 66 = true := by kernel_rfl
theorem gf67 : goFn Tryz.prog 67 = true := by kernel_rfl
theorem gf68 : goFn Tryz.prog 68 = true := by kernel_rfl
theorem gf69 : goFn Tryz.prog 69 = true := by kernel_rfl
theorem gf70 : goFn Tryz.prog 70 = true := by kernel_rfl
theorem gf71 : goFn Tryz.prog 71 = true := by kernel_rfl
theorem gf72 : goFn Tryz.prog 72 = true := by kernel_rfl
theorem gf73 : goFn Tryz.prog 73 = true := by kernel_rfl
theorem gf74 : goFn Tryz.prog 74 = true := by kernel_rfl
theorem gf75 : goFn Tryz.prog 75 = true := by kernel_rfl
theorem gf76 : goFn Tryz.prog 76 = true := by kernel_rfl
theorem gf77 : goFn Tryz.prog 77 = true := by kernel_rfl
theorem gf78 : goFn Tryz.prog 78 = true := by kernel_rfl
theorem gf79 : goFn Tryz.prog 79 = true := by kernel_rfl
theorem gf80 : goFn Tryz.prog 80 = true := by kernel_rfl
theorem gf81 : goFn Tryz.prog 81 = true := by kernel_rfl
theorem gf82 : goFn Tryz.prog 82 = true := by kernel_rfl
theorem gf83 : goFn Tryz.prog 83 = true := by kernel_rfl
theorem gf84 : goFn Tryz.prog 84 = true := by kernel_rfl
theorem gf85 : goFn Tryz.prog 85 = true := by kernel_rfl
theorem gf86 : goFn Tryz.prog 86 = true := by kernel_rfl
theorem gf87 : goFn Tryz.prog 87 = true := by kernel_rfl
theorem gf88 : goFn Tryz.prog 88 = true := by kernel_rfl
theorem gf89 : goFn Tryz.prog 89 = true := by kernel_rfl
theorem gf90 : goFn Tryz.prog 90 = true := by kernel_rfl
theorem gf91 : goFn Tryz.prog 91 = true := by kernel_rfl
theorem gf92 : goFn Tryz.prog 92 = true := by kernel_rfl
theorem gf93 : goFn Tryz.prog 93 = true := by kernel_rfl
theorem gf94 : goFn Tryz.prog 94 = true := by kernel_rfl
theorem gf95 : goFn Tryz.prog 95 = true := by kernel_rfl
theorem gf96 : goFn Tryz.prog 96 = true := by kernel_rfl
theorem gf97 : goFn Tryz.prog 97 = true := by kernel_rfl
theorem gf98 : goFn Tryz.prog 98 = true := by kernel_rfl
theorem gf99 : goFn Tryz.prog 99 = true := by kernel_rfl
theorem gf100 : goFn Tryz.prog 100 = true := by kernel_rfl
theorem gf101 : goFn Tryz.prog 101 = true := by kernel_rfl
theorem gf102 : goFn Tryz.prog 102 = true := by kernel_rfl
theorem gf103 : goFn Tryz.prog 103 = true := by kernel_rfl
theorem gf104 : goFn Tryz.prog 104 = true := by kernel_rfl
theorem gf105 : goFn Tryz.prog 105 = true := by kernel_rfl
theorem gf106 : goFn Tryz.prog 106 = true := by kernel_rfl
theorem gf107 : goFn Tryz.prog 107 = true := by kernel_rfl
theorem gf108 : goFn Tryz.prog 108 = true := by kernel_rfl
theorem gf109 : goFn Tryz.prog 109 = true := by kernel_rfl
theorem gf110 : goFn Tryz.prog 110 = true := by kernel_rfl
theorem mixed : Tryz.prog.follows .mixedOrders = true := by kernel_rfl
end Go.Proofs.YtoeobicpdeklaaaGreat

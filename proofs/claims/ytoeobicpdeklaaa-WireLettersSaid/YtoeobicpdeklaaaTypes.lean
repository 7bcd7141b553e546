/- The types of this seat, each a closed fact. Printed by wip/gen/types.py. -/
import Derived.Test.YtoeobicpdeklaaaFun
namespace Go.Proofs.Ytoeobicpdeklaaa
open Go
theorem ty1 : TyOk Try.prog 1 [.nilFunc] 1 8 false := tyOk (by kernel_rfl)
theorem ty2 : TyOk Try.prog 2 [.int .i64 0] 1 8 false := tyOk (by kernel_rfl)
theorem ty3 : TyOk Try.prog 3 [.int .i64 0] 1 8 false := tyOk (by kernel_rfl)
theorem ty4 : TyOk Try.prog 4 [.bool false] 1 1 false := tyOk (by kernel_rfl)
theorem ty5 : TyOk Try.prog 5 [.int .u8 0] 1 1 false := tyOk (by kernel_rfl)
theorem ty9 : TyOk Try.prog 9 [.string .empty] 1 16 false := tyOk (by kernel_rfl)
theorem ty12 : TyOk Try.prog 12 [.int .u64 0] 1 8 false := tyOk (by kernel_rfl)
theorem ty13 : TyOk Try.prog 13 [.string .empty, .int .u64 0] 2 24 true := tyOk (by kernel_rfl)
theorem fl13_0 : fieldOf Try.prog 13 0 = some (0, 9) := by kernel_rfl
theorem fl13_1 : fieldOf Try.prog 13 1 = some (1, 12) := by kernel_rfl
theorem ty20 : TyOk Try.prog 20 [.nilIface] 1 16 false := tyOk (by kernel_rfl)
theorem ty21 : TyOk Try.prog 21 [.int .i32 0] 1 4 false := tyOk (by kernel_rfl)
theorem ty22 : TyOk Try.prog 22 [.int .i64 0, .string .empty, .string .empty, .int .i64 0, .int .i64 0, .int .i64 0] 6 64 true := tyOk (by kernel_rfl)
theorem fl22_0 : fieldOf Try.prog 22 0 = some (0, 3) := by kernel_rfl
theorem fl22_1 : fieldOf Try.prog 22 1 = some (1, 9) := by kernel_rfl
theorem fl22_2 : fieldOf Try.prog 22 2 = some (2, 9) := by kernel_rfl
theorem fl22_3 : fieldOf Try.prog 22 3 = some (3, 3) := by kernel_rfl
theorem fl22_4 : fieldOf Try.prog 22 4 = some (4, 3) := by kernel_rfl
theorem fl22_5 : fieldOf Try.prog 22 5 = some (5, 3) := by kernel_rfl
theorem ty23 : TyOk Try.prog 23 [.int .i64 0, .string .empty, .string .empty, .int .i64 0, .int .i64 0, .int .i64 0] 6 64 true := tyOk (by kernel_rfl)
theorem fl23_0 : fieldOf Try.prog 23 0 = some (0, 3) := by kernel_rfl
theorem fl23_1 : fieldOf Try.prog 23 1 = some (1, 9) := by kernel_rfl
theorem fl23_2 : fieldOf Try.prog 23 2 = some (2, 9) := by kernel_rfl
theorem fl23_3 : fieldOf Try.prog 23 3 = some (3, 3) := by kernel_rfl
theorem fl23_4 : fieldOf Try.prog 23 4 = some (4, 3) := by kernel_rfl
theorem fl23_5 : fieldOf Try.prog 23 5 = some (5, 3) := by kernel_rfl
theorem ty24 : TyOk Try.prog 24 [.int .i64 0, .int .i64 0, .int .i64 0, .string .empty, .string .empty, .int .i64 0, .int .i64 0] 7 72 true := tyOk (by kernel_rfl)
theorem fl24_0 : fieldOf Try.prog 24 0 = some (0, 3) := by kernel_rfl
theorem fl24_1 : fieldOf Try.prog 24 1 = some (1, 3) := by kernel_rfl
theorem fl24_2 : fieldOf Try.prog 24 2 = some (2, 3) := by kernel_rfl
theorem fl24_3 : fieldOf Try.prog 24 3 = some (3, 9) := by kernel_rfl
theorem fl24_4 : fieldOf Try.prog 24 4 = some (4, 9) := by kernel_rfl
theorem fl24_5 : fieldOf Try.prog 24 5 = some (5, 3) := by kernel_rfl
theorem fl24_6 : fieldOf Try.prog 24 6 = some (6, 3) := by kernel_rfl
theorem ty25 : TyOk Try.prog 25 [.int .i64 0, .int .i64 0, .int .i64 0, .string .empty, .string .empty, .int .i64 0, .int .i64 0] 7 72 true := tyOk (by kernel_rfl)
theorem fl25_0 : fieldOf Try.prog 25 0 = some (0, 3) := by kernel_rfl
theorem fl25_1 : fieldOf Try.prog 25 1 = some (1, 3) := by kernel_rfl
theorem fl25_2 : fieldOf Try.prog 25 2 = some (2, 3) := by kernel_rfl
theorem fl25_3 : fieldOf Try.prog 25 3 = some (3, 9) := by kernel_rfl
theorem fl25_4 : fieldOf Try.prog 25 4 = some (4, 9) := by kernel_rfl
theorem fl25_5 : fieldOf Try.prog 25 5 = some (5, 3) := by kernel_rfl
theorem fl25_6 : fieldOf Try.prog 25 6 = some (6, 3) := by kernel_rfl
theorem ty26 : TyOk Try.prog 26 [.slice none 0 0] 1 24 false := tyOk (by kernel_rfl)
theorem ty27 : TyOk Try.prog 27 [.int .i64 0, .int .i64 0, .int .i64 0, .int .i64 0, .int .i64 0, .int .i64 0, .string .empty, .int .i64 0, .int .i64 0, .int .i64 0, .bool false, .int .i64 0, .string .empty, .string .empty, .int .i64 0, .int .i64 0, .int .i64 0, .int .i64 0, .int .i64 0, .int .i64 0, .string .empty, .string .empty, .int .i64 0, .int .i64 0, .slice none 0 0] 25 256 true := tyOk (by kernel_rfl)
theorem fl27_0 : fieldOf Try.prog 27 0 = some (0, 3) := by kernel_rfl
theorem fl27_1 : fieldOf Try.prog 27 1 = some (1, 3) := by kernel_rfl
theorem fl27_2 : fieldOf Try.prog 27 2 = some (2, 3) := by kernel_rfl
theorem fl27_3 : fieldOf Try.prog 27 3 = some (3, 3) := by kernel_rfl
theorem fl27_4 : fieldOf Try.prog 27 4 = some (4, 3) := by kernel_rfl
theorem fl27_5 : fieldOf Try.prog 27 5 = some (5, 3) := by kernel_rfl
theorem fl27_6 : fieldOf Try.prog 27 6 = some (6, 9) := by kernel_rfl
theorem fl27_7 : fieldOf Try.prog 27 7 = some (7, 3) := by kernel_rfl
theorem fl27_8 : fieldOf Try.prog 27 8 = some (8, 3) := by kernel_rfl
theorem fl27_9 : fieldOf Try.prog 27 9 = some (9, 3) := by kernel_rfl
theorem fl27_10 : fieldOf Try.prog 27 10 = some (10, 4) := by kernel_rfl
theorem fl27_11 : fieldOf Try.prog 27 11 = some (11, 23) := by kernel_rfl
theorem fl27_12 : fieldOf Try.prog 27 12 = some (17, 25) := by kernel_rfl
theorem fl27_13 : fieldOf Try.prog 27 13 = some (24, 26) := by kernel_rfl
theorem ty28 : TyOk Try.prog 28 [.int .i64 0, .int .i64 0, .int .i64 0, .int .i64 0, .int .i64 0, .int .i64 0, .string .empty, .int .i64 0, .int .i64 0, .int .i64 0, .bool false, .int .i64 0, .string .empty, .string .empty, .int .i64 0, .int .i64 0, .int .i64 0, .int .i64 0, .int .i64 0, .int .i64 0, .string .empty, .string .empty, .int .i64 0, .int .i64 0, .slice none 0 0] 25 256 true := tyOk (by kernel_rfl)
theorem fl28_0 : fieldOf Try.prog 28 0 = some (0, 3) := by kernel_rfl
theorem fl28_1 : fieldOf Try.prog 28 1 = some (1, 3) := by kernel_rfl
theorem fl28_2 : fieldOf Try.prog 28 2 = some (2, 3) := by kernel_rfl
theorem fl28_3 : fieldOf Try.prog 28 3 = some (3, 3) := by kernel_rfl
theorem fl28_4 : fieldOf Try.prog 28 4 = some (4, 3) := by kernel_rfl
theorem fl28_5 : fieldOf Try.prog 28 5 = some (5, 3) := by kernel_rfl
theorem fl28_6 : fieldOf Try.prog 28 6 = some (6, 9) := by kernel_rfl
theorem fl28_7 : fieldOf Try.prog 28 7 = some (7, 3) := by kernel_rfl
theorem fl28_8 : fieldOf Try.prog 28 8 = some (8, 3) := by kernel_rfl
theorem fl28_9 : fieldOf Try.prog 28 9 = some (9, 3) := by kernel_rfl
theorem fl28_10 : fieldOf Try.prog 28 10 = some (10, 4) := by kernel_rfl
theorem fl28_11 : fieldOf Try.prog 28 11 = some (11, 23) := by kernel_rfl
theorem fl28_12 : fieldOf Try.prog 28 12 = some (17, 25) := by kernel_rfl
theorem fl28_13 : fieldOf Try.prog 28 13 = some (24, 26) := by kernel_rfl
theorem ty29 : TyOk Try.prog 29 [.int .i64 0] 1 8 false := tyOk (by kernel_rfl)
theorem ty31 : TyOk Try.prog 31 [.nilFunc] 1 8 false := tyOk (by kernel_rfl)
theorem ty32 : TyOk Try.prog 32 [.nilFunc] 1 8 false := tyOk (by kernel_rfl)
theorem ty34 : TyOk Try.prog 34 [.nilFunc] 1 8 false := tyOk (by kernel_rfl)
theorem ty35 : TyOk Try.prog 35 [.nilFunc] 1 8 false := tyOk (by kernel_rfl)
theorem ty36 : TyOk Try.prog 36 [.nilFunc] 1 8 false := tyOk (by kernel_rfl)
theorem ty37 : TyOk Try.prog 37 [.nilFunc] 1 8 false := tyOk (by kernel_rfl)
theorem ty38 : TyOk Try.prog 38 [.nilFunc] 1 8 false := tyOk (by kernel_rfl)
theorem ty39 : TyOk Try.prog 39 [.nilFunc] 1 8 false := tyOk (by kernel_rfl)
theorem ty40 : TyOk Try.prog 40 [.nilFunc] 1 8 false := tyOk (by kernel_rfl)
theorem ty41 : TyOk Try.prog 41 [.int .i64 0, .int .i64 0] 2 16 true := tyOk (by kernel_rfl)
theorem fl41_0 : fieldOf Try.prog 41 0 = some (0, 3) := by kernel_rfl
theorem fl41_1 : fieldOf Try.prog 41 1 = some (1, 3) := by kernel_rfl
theorem ty42 : TyOk Try.prog 42 [.int .i64 0, .int .i64 0] 2 16 true := tyOk (by kernel_rfl)
theorem fl42_0 : fieldOf Try.prog 42 0 = some (0, 3) := by kernel_rfl
theorem fl42_1 : fieldOf Try.prog 42 1 = some (1, 3) := by kernel_rfl
theorem ty43 : TyOk Try.prog 43 [.int .i64 0, .int .i64 0, .int .i64 0, .slice none 0 0] 4 48 true := tyOk (by kernel_rfl)
theorem fl43_0 : fieldOf Try.prog 43 0 = some (0, 3) := by kernel_rfl
theorem fl43_1 : fieldOf Try.prog 43 1 = some (1, 42) := by kernel_rfl
theorem fl43_2 : fieldOf Try.prog 43 2 = some (3, 26) := by kernel_rfl
theorem ty44 : TyOk Try.prog 44 [.int .i64 0, .int .i64 0, .int .i64 0, .slice none 0 0] 4 48 true := tyOk (by kernel_rfl)
theorem fl44_0 : fieldOf Try.prog 44 0 = some (0, 3) := by kernel_rfl
theorem fl44_1 : fieldOf Try.prog 44 1 = some (1, 42) := by kernel_rfl
theorem fl44_2 : fieldOf Try.prog 44 2 = some (3, 26) := by kernel_rfl
theorem ty45 : TyOk Try.prog 45 [.int .i64 0, .slice none 0 0] 2 32 true := tyOk (by kernel_rfl)
theorem fl45_0 : fieldOf Try.prog 45 0 = some (0, 3) := by kernel_rfl
theorem fl45_1 : fieldOf Try.prog 45 1 = some (1, 26) := by kernel_rfl
theorem ty46 : TyOk Try.prog 46 [.int .i64 0, .slice none 0 0] 2 32 true := tyOk (by kernel_rfl)
theorem fl46_0 : fieldOf Try.prog 46 0 = some (0, 3) := by kernel_rfl
theorem fl46_1 : fieldOf Try.prog 46 1 = some (1, 26) := by kernel_rfl
theorem ty47 : TyOk Try.prog 47 [.int .i64 0, .string .empty, .int .i64 0, .int .i64 0] 4 40 true := tyOk (by kernel_rfl)
theorem fl47_0 : fieldOf Try.prog 47 0 = some (0, 3) := by kernel_rfl
theorem fl47_1 : fieldOf Try.prog 47 1 = some (1, 9) := by kernel_rfl
theorem fl47_2 : fieldOf Try.prog 47 2 = some (2, 3) := by kernel_rfl
theorem fl47_3 : fieldOf Try.prog 47 3 = some (3, 3) := by kernel_rfl
theorem ty48 : TyOk Try.prog 48 [.int .i64 0, .string .empty, .int .i64 0, .int .i64 0] 4 40 true := tyOk (by kernel_rfl)
theorem fl48_0 : fieldOf Try.prog 48 0 = some (0, 3) := by kernel_rfl
theorem fl48_1 : fieldOf Try.prog 48 1 = some (1, 9) := by kernel_rfl
theorem fl48_2 : fieldOf Try.prog 48 2 = some (2, 3) := by kernel_rfl
theorem fl48_3 : fieldOf Try.prog 48 3 = some (3, 3) := by kernel_rfl
theorem ty49 : TyOk Try.prog 49 [.int .i64 0, .int .i64 0, .int .i64 0, .int .i64 0, .int .i64 0, .int .i64 0, .int .i64 0, .slice none 0 0, .int .i64 0, .slice none 0 0, .int .i64 0, .string .empty, .int .i64 0, .int .i64 0, .int .i64 0, .int .i64 0] 16 168 true := tyOk (by kernel_rfl)
theorem fl49_0 : fieldOf Try.prog 49 0 = some (0, 3) := by kernel_rfl
theorem fl49_1 : fieldOf Try.prog 49 1 = some (1, 3) := by kernel_rfl
theorem fl49_2 : fieldOf Try.prog 49 2 = some (2, 42) := by kernel_rfl
theorem fl49_3 : fieldOf Try.prog 49 3 = some (4, 44) := by kernel_rfl
theorem fl49_4 : fieldOf Try.prog 49 4 = some (8, 46) := by kernel_rfl
theorem fl49_5 : fieldOf Try.prog 49 5 = some (10, 48) := by kernel_rfl
theorem fl49_6 : fieldOf Try.prog 49 6 = some (14, 3) := by kernel_rfl
theorem fl49_7 : fieldOf Try.prog 49 7 = some (15, 3) := by kernel_rfl
theorem ty50 : TyOk Try.prog 50 [.int .i64 0, .int .i64 0, .int .i64 0, .int .i64 0, .int .i64 0, .int .i64 0, .int .i64 0, .slice none 0 0, .int .i64 0, .slice none 0 0, .int .i64 0, .string .empty, .int .i64 0, .int .i64 0, .int .i64 0, .int .i64 0] 16 168 true := tyOk (by kernel_rfl)
theorem fl50_0 : fieldOf Try.prog 50 0 = some (0, 3) := by kernel_rfl
theorem fl50_1 : fieldOf Try.prog 50 1 = some (1, 3) := by kernel_rfl
theorem fl50_2 : fieldOf Try.prog 50 2 = some (2, 42) := by kernel_rfl
theorem fl50_3 : fieldOf Try.prog 50 3 = some (4, 44) := by kernel_rfl
theorem fl50_4 : fieldOf Try.prog 50 4 = some (8, 46) := by kernel_rfl
theorem fl50_5 : fieldOf Try.prog 50 5 = some (10, 48) := by kernel_rfl
theorem fl50_6 : fieldOf Try.prog 50 6 = some (14, 3) := by kernel_rfl
theorem fl50_7 : fieldOf Try.prog 50 7 = some (15, 3) := by kernel_rfl
theorem ty51 : TyOk Try.prog 51 [.nilFunc] 1 8 false := tyOk (by kernel_rfl)
theorem ty53 : TyOk Try.prog 53 [.nilFunc] 1 8 false := tyOk (by kernel_rfl)
theorem ty54 : TyOk Try.prog 54 [.nilFunc] 1 8 false := tyOk (by kernel_rfl)
theorem ty55 : TyOk Try.prog 55 [.nilFunc] 1 8 false := tyOk (by kernel_rfl)
theorem ty56 : TyOk Try.prog 56 [.slice none 0 0] 1 24 false := tyOk (by kernel_rfl)
theorem ty57 : TyOk Try.prog 57 [.slice none 0 0] 1 24 false := tyOk (by kernel_rfl)
theorem ty58 : TyOk Try.prog 58 [.int .i64 0, .slice none 0 0, .int .i64 0, .int .i64 0, .int .i64 0, .int .i64 0, .int .i64 0, .string .empty, .string .empty, .int .i64 0, .int .i64 0, .slice none 0 0] 12 144 true := tyOk (by kernel_rfl)
theorem fl58_0 : fieldOf Try.prog 58 0 = some (0, 3) := by kernel_rfl
theorem fl58_1 : fieldOf Try.prog 58 1 = some (1, 56) := by kernel_rfl
theorem fl58_2 : fieldOf Try.prog 58 2 = some (2, 3) := by kernel_rfl
theorem fl58_3 : fieldOf Try.prog 58 3 = some (3, 3) := by kernel_rfl
theorem fl58_4 : fieldOf Try.prog 58 4 = some (4, 25) := by kernel_rfl
theorem fl58_5 : fieldOf Try.prog 58 5 = some (11, 57) := by kernel_rfl
theorem ty59 : TyOk Try.prog 59 [.int .i64 0, .slice none 0 0, .int .i64 0, .int .i64 0, .int .i64 0, .int .i64 0, .int .i64 0, .string .empty, .string .empty, .int .i64 0, .int .i64 0, .slice none 0 0] 12 144 true := tyOk (by kernel_rfl)
theorem fl59_0 : fieldOf Try.prog 59 0 = some (0, 3) := by kernel_rfl
theorem fl59_1 : fieldOf Try.prog 59 1 = some (1, 56) := by kernel_rfl
theorem fl59_2 : fieldOf Try.prog 59 2 = some (2, 3) := by kernel_rfl
theorem fl59_3 : fieldOf Try.prog 59 3 = some (3, 3) := by kernel_rfl
theorem fl59_4 : fieldOf Try.prog 59 4 = some (4, 25) := by kernel_rfl
theorem fl59_5 : fieldOf Try.prog 59 5 = some (11, 57) := by kernel_rfl
theorem ty60 : TyOk Try.prog 60 [.nilFunc] 1 8 false := tyOk (by kernel_rfl)
theorem ty61 : TyOk Try.prog 61 [.nilFunc] 1 8 false := tyOk (by kernel_rfl)
theorem ty63 : TyOk Try.prog 63 [.nilFunc] 1 8 false := tyOk (by kernel_rfl)
theorem ty64 : TyOk Try.prog 64 [.nilFunc] 1 8 false := tyOk (by kernel_rfl)
theorem ty65 : TyOk Try.prog 65 [.nilFunc] 1 8 false := tyOk (by kernel_rfl)
theorem ty66 : TyOk Try.prog 66 [.slice none 0 0] 1 24 false := tyOk (by kernel_rfl)
theorem ty67 : TyOk Try.prog 67 [.slice none 0 0] 1 24 false := tyOk (by kernel_rfl)
theorem ty68 : TyOk Try.prog 68 [.int .u32 0] 1 4 false := tyOk (by kernel_rfl)
theorem ty69 : TyOk Try.prog 69 [.int .i64 0, .int .i64 0, .int .u32 0, .slice none 0 0] 4 48 true := tyOk (by kernel_rfl)
theorem fl69_0 : fieldOf Try.prog 69 0 = some (0, 3) := by kernel_rfl
theorem fl69_1 : fieldOf Try.prog 69 1 = some (1, 3) := by kernel_rfl
theorem fl69_2 : fieldOf Try.prog 69 2 = some (2, 68) := by kernel_rfl
theorem fl69_3 : fieldOf Try.prog 69 3 = some (3, 26) := by kernel_rfl
theorem ty70 : TyOk Try.prog 70 [.int .i64 0, .int .i64 0, .int .u32 0, .slice none 0 0] 4 48 true := tyOk (by kernel_rfl)
theorem fl70_0 : fieldOf Try.prog 70 0 = some (0, 3) := by kernel_rfl
theorem fl70_1 : fieldOf Try.prog 70 1 = some (1, 3) := by kernel_rfl
theorem fl70_2 : fieldOf Try.prog 70 2 = some (2, 68) := by kernel_rfl
theorem fl70_3 : fieldOf Try.prog 70 3 = some (3, 26) := by kernel_rfl
theorem ty71 : TyOk Try.prog 71 [.int .i64 0, .int .i64 0, .int .i64 0, .int .i64 0, .int .i64 0, .int .i64 0, .int .i64 0, .slice none 0 0, .slice none 0 0, .int .i64 0, .int .i64 0, .int .u32 0, .slice none 0 0] 13 152 true := tyOk (by kernel_rfl)
theorem fl71_0 : fieldOf Try.prog 71 0 = some (0, 3) := by kernel_rfl
theorem fl71_1 : fieldOf Try.prog 71 1 = some (1, 3) := by kernel_rfl
theorem fl71_2 : fieldOf Try.prog 71 2 = some (2, 3) := by kernel_rfl
theorem fl71_3 : fieldOf Try.prog 71 3 = some (3, 42) := by kernel_rfl
theorem fl71_4 : fieldOf Try.prog 71 4 = some (5, 3) := by kernel_rfl
theorem fl71_5 : fieldOf Try.prog 71 5 = some (6, 3) := by kernel_rfl
theorem fl71_6 : fieldOf Try.prog 71 6 = some (7, 66) := by kernel_rfl
theorem fl71_7 : fieldOf Try.prog 71 7 = some (8, 67) := by kernel_rfl
theorem fl71_8 : fieldOf Try.prog 71 8 = some (9, 70) := by kernel_rfl
theorem ty72 : TyOk Try.prog 72 [.int .i64 0, .int .i64 0, .int .i64 0, .int .i64 0, .int .i64 0, .int .i64 0, .int .i64 0, .slice none 0 0, .slice none 0 0, .int .i64 0, .int .i64 0, .int .u32 0, .slice none 0 0] 13 152 true := tyOk (by kernel_rfl)
theorem fl72_0 : fieldOf Try.prog 72 0 = some (0, 3) := by kernel_rfl
theorem fl72_1 : fieldOf Try.prog 72 1 = some (1, 3) := by kernel_rfl
theorem fl72_2 : fieldOf Try.prog 72 2 = some (2, 3) := by kernel_rfl
theorem fl72_3 : fieldOf Try.prog 72 3 = some (3, 42) := by kernel_rfl
theorem fl72_4 : fieldOf Try.prog 72 4 = some (5, 3) := by kernel_rfl
theorem fl72_5 : fieldOf Try.prog 72 5 = some (6, 3) := by kernel_rfl
theorem fl72_6 : fieldOf Try.prog 72 6 = some (7, 66) := by kernel_rfl
theorem fl72_7 : fieldOf Try.prog 72 7 = some (8, 67) := by kernel_rfl
theorem fl72_8 : fieldOf Try.prog 72 8 = some (9, 70) := by kernel_rfl
theorem ty73 : TyOk Try.prog 73 [.nilFunc] 1 8 false := tyOk (by kernel_rfl)
theorem ty74 : TyOk Try.prog 74 [.nilFunc] 1 8 false := tyOk (by kernel_rfl)
theorem ty75 : TyOk Try.prog 75 [.int .i64 0, .int .i64 0, .int .i64 0, .int .i64 0, .int .i64 0, .int .i64 0, .int .i64 0, .int .i64 0, .slice none 0 0, .slice none 0 0, .int .i64 0, .int .i64 0, .int .u32 0, .slice none 0 0] 14 160 true := tyOk (by kernel_rfl)
theorem fl75_0 : fieldOf Try.prog 75 0 = some (0, 3) := by kernel_rfl
theorem fl75_1 : fieldOf Try.prog 75 1 = some (1, 72) := by kernel_rfl
theorem ty76 : TyOk Try.prog 76 [.int .i64 0, .int .i64 0, .int .i64 0, .int .i64 0, .int .i64 0, .int .i64 0, .int .i64 0, .int .i64 0, .slice none 0 0, .slice none 0 0, .int .i64 0, .int .i64 0, .int .u32 0, .slice none 0 0] 14 160 true := tyOk (by kernel_rfl)
theorem fl76_0 : fieldOf Try.prog 76 0 = some (0, 3) := by kernel_rfl
theorem fl76_1 : fieldOf Try.prog 76 1 = some (1, 72) := by kernel_rfl
theorem ty78 : TyOk Try.prog 78 [.nilFunc] 1 8 false := tyOk (by kernel_rfl)
theorem ty80 : TyOk Try.prog 80 [.nilFunc] 1 8 false := tyOk (by kernel_rfl)
theorem ty81 : TyOk Try.prog 81 [.nilFunc] 1 8 false := tyOk (by kernel_rfl)
theorem ty82 : TyOk Try.prog 82 [.nilFunc] 1 8 false := tyOk (by kernel_rfl)
theorem ty83 : TyOk Try.prog 83 [.nilFunc] 1 8 false := tyOk (by kernel_rfl)
theorem ty84 : TyOk Try.prog 84 [.slice none 0 0] 1 24 false := tyOk (by kernel_rfl)
theorem ty85 : TyOk Try.prog 85 [.slice none 0 0] 1 24 false := tyOk (by kernel_rfl)
theorem ty86 : TyOk Try.prog 86 [.slice none 0 0] 1 24 false := tyOk (by kernel_rfl)
theorem ty87 : TyOk Try.prog 87 [.slice none 0 0] 1 24 false := tyOk (by kernel_rfl)
theorem ty88 : TyOk Try.prog 88 [.int .i64 0, .int .i64 0, .bool false, .string .empty, .string .empty, .int .i64 0, .slice none 0 0, .slice none 0 0, .slice none 0 0, .slice none 0 0, .slice none 0 0, .int .i64 0, .int .i64 0, .int .i64 0, .string .empty, .string .empty, .int .i64 0, .int .i64 0, .int .i64 0, .int .i64 0, .int .i64 0, .string .empty, .string .empty, .int .i64 0, .int .i64 0, .slice none 0 0, .int .i64 0, .int .i64 0, .int .i64 0] 29 376 true := tyOk (by kernel_rfl)
theorem fl88_0 : fieldOf Try.prog 88 0 = some (0, 3) := by kernel_rfl
theorem fl88_1 : fieldOf Try.prog 88 1 = some (1, 3) := by kernel_rfl
theorem fl88_2 : fieldOf Try.prog 88 2 = some (2, 4) := by kernel_rfl
theorem fl88_3 : fieldOf Try.prog 88 3 = some (3, 9) := by kernel_rfl
theorem fl88_4 : fieldOf Try.prog 88 4 = some (4, 9) := by kernel_rfl
theorem fl88_5 : fieldOf Try.prog 88 5 = some (5, 3) := by kernel_rfl
theorem fl88_6 : fieldOf Try.prog 88 6 = some (6, 84) := by kernel_rfl
theorem fl88_7 : fieldOf Try.prog 88 7 = some (7, 57) := by kernel_rfl
theorem fl88_8 : fieldOf Try.prog 88 8 = some (8, 85) := by kernel_rfl
theorem fl88_9 : fieldOf Try.prog 88 9 = some (9, 86) := by kernel_rfl
theorem fl88_10 : fieldOf Try.prog 88 10 = some (10, 87) := by kernel_rfl
theorem fl88_11 : fieldOf Try.prog 88 11 = some (11, 25) := by kernel_rfl
theorem fl88_12 : fieldOf Try.prog 88 12 = some (18, 25) := by kernel_rfl
theorem fl88_13 : fieldOf Try.prog 88 13 = some (25, 26) := by kernel_rfl
theorem fl88_14 : fieldOf Try.prog 88 14 = some (26, 3) := by kernel_rfl
theorem fl88_15 : fieldOf Try.prog 88 15 = some (27, 3) := by kernel_rfl
theorem fl88_16 : fieldOf Try.prog 88 16 = some (28, 3) := by kernel_rfl
theorem ty89 : TyOk Try.prog 89 [.int .i64 0, .int .i64 0, .bool false, .string .empty, .string .empty, .int .i64 0, .slice none 0 0, .slice none 0 0, .slice none 0 0, .slice none 0 0, .slice none 0 0, .int .i64 0, .int .i64 0, .int .i64 0, .string .empty, .string .empty, .int .i64 0, .int .i64 0, .int .i64 0, .int .i64 0, .int .i64 0, .string .empty, .string .empty, .int .i64 0, .int .i64 0, .slice none 0 0, .int .i64 0, .int .i64 0, .int .i64 0] 29 376 true := tyOk (by kernel_rfl)
theorem fl89_0 : fieldOf Try.prog 89 0 = some (0, 3) := by kernel_rfl
theorem fl89_1 : fieldOf Try.prog 89 1 = some (1, 3) := by kernel_rfl
theorem fl89_2 : fieldOf Try.prog 89 2 = some (2, 4) := by kernel_rfl
theorem fl89_3 : fieldOf Try.prog 89 3 = some (3, 9) := by kernel_rfl
theorem fl89_4 : fieldOf Try.prog 89 4 = some (4, 9) := by kernel_rfl
theorem fl89_5 : fieldOf Try.prog 89 5 = some (5, 3) := by kernel_rfl
theorem fl89_6 : fieldOf Try.prog 89 6 = some (6, 84) := by kernel_rfl
theorem fl89_7 : fieldOf Try.prog 89 7 = some (7, 57) := by kernel_rfl
theorem fl89_8 : fieldOf Try.prog 89 8 = some (8, 85) := by kernel_rfl
theorem fl89_9 : fieldOf Try.prog 89 9 = some (9, 86) := by kernel_rfl
theorem fl89_10 : fieldOf Try.prog 89 10 = some (10, 87) := by kernel_rfl
theorem fl89_11 : fieldOf Try.prog 89 11 = some (11, 25) := by kernel_rfl
theorem fl89_12 : fieldOf Try.prog 89 12 = some (18, 25) := by kernel_rfl
theorem fl89_13 : fieldOf Try.prog 89 13 = some (25, 26) := by kernel_rfl
theorem fl89_14 : fieldOf Try.prog 89 14 = some (26, 3) := by kernel_rfl
theorem fl89_15 : fieldOf Try.prog 89 15 = some (27, 3) := by kernel_rfl
theorem fl89_16 : fieldOf Try.prog 89 16 = some (28, 3) := by kernel_rfl
theorem ty91 : TyOk Try.prog 91 [.nilFunc] 1 8 false := tyOk (by kernel_rfl)
theorem ty92 : TyOk Try.prog 92 [.nilFunc] 1 8 false := tyOk (by kernel_rfl)
theorem ty93 : TyOk Try.prog 93 [.nilFunc] 1 8 false := tyOk (by kernel_rfl)
theorem ty94 : TyOk Try.prog 94 [.nilFunc] 1 8 false := tyOk (by kernel_rfl)
theorem ty95 : TyOk Try.prog 95 [.pointer none] 1 8 false := tyOk (by kernel_rfl)
theorem ty96 : TyOk Try.prog 96 [.nilFunc] 1 8 false := tyOk (by kernel_rfl)
theorem ty97 : TyOk Try.prog 97 [.pointer none] 1 8 false := tyOk (by kernel_rfl)
theorem ty98 : TyOk Try.prog 98 [.nilFunc] 1 8 false := tyOk (by kernel_rfl)
theorem ty99 : TyOk Try.prog 99 [.pointer none] 1 8 false := tyOk (by kernel_rfl)
theorem ty100 : TyOk Try.prog 100 [.pointer none] 1 8 false := tyOk (by kernel_rfl)
theorem ty101 : TyOk Try.prog 101 [.slice none 0 0, .pointer none, .bool false] 3 40 true := tyOk (by kernel_rfl)
theorem fl101_0 : fieldOf Try.prog 101 0 = some (0, 26) := by kernel_rfl
theorem fl101_1 : fieldOf Try.prog 101 1 = some (1, 100) := by kernel_rfl
theorem fl101_2 : fieldOf Try.prog 101 2 = some (2, 4) := by kernel_rfl
theorem ty102 : TyOk Try.prog 102 [.slice none 0 0, .pointer none, .bool false] 3 40 true := tyOk (by kernel_rfl)
theorem fl102_0 : fieldOf Try.prog 102 0 = some (0, 26) := by kernel_rfl
theorem fl102_1 : fieldOf Try.prog 102 1 = some (1, 100) := by kernel_rfl
theorem fl102_2 : fieldOf Try.prog 102 2 = some (2, 4) := by kernel_rfl
theorem ty103 : TyOk Try.prog 103 [.nilFunc] 1 8 false := tyOk (by kernel_rfl)
theorem ty104 : TyOk Try.prog 104 [.nilFunc] 1 8 false := tyOk (by kernel_rfl)
theorem ty105 : TyOk Try.prog 105 [.nilFunc] 1 8 false := tyOk (by kernel_rfl)
theorem ty107 : TyOk Try.prog 107 [.nilFunc] 1 8 false := tyOk (by kernel_rfl)
theorem ty108 : TyOk Try.prog 108 [.nilFunc] 1 8 false := tyOk (by kernel_rfl)
theorem ty109 : TyOk Try.prog 109 [.nilFunc] 1 8 false := tyOk (by kernel_rfl)
theorem ty110 : TyOk Try.prog 110 [.pointer none] 1 8 false := tyOk (by kernel_rfl)
theorem ty111 : TyOk Try.prog 111 [.nilFunc] 1 8 false := tyOk (by kernel_rfl)
theorem ty112 : TyOk Try.prog 112 [.nilFunc] 1 8 false := tyOk (by kernel_rfl)
theorem ty113 : TyOk Try.prog 113 [.nilFunc] 1 8 false := tyOk (by kernel_rfl)
theorem ty114 : TyOk Try.prog 114 [.nilFunc] 1 8 false := tyOk (by kernel_rfl)
theorem ty115 : TyOk Try.prog 115 [.pointer none] 1 8 false := tyOk (by kernel_rfl)
theorem ty116 : TyOk Try.prog 116 [.nilFunc] 1 8 false := tyOk (by kernel_rfl)
theorem ty117 : TyOk Try.prog 117 [.nilFunc] 1 8 false := tyOk (by kernel_rfl)
theorem ty118 : TyOk Try.prog 118 [.int .i64 0, .string .empty, .int .i64 0] 3 32 true := tyOk (by kernel_rfl)
theorem fl118_0 : fieldOf Try.prog 118 0 = some (0, 3) := by kernel_rfl
theorem fl118_1 : fieldOf Try.prog 118 1 = some (1, 9) := by kernel_rfl
theorem fl118_2 : fieldOf Try.prog 118 2 = some (2, 3) := by kernel_rfl
theorem ty119 : TyOk Try.prog 119 [.int .i64 0, .string .empty, .int .i64 0] 3 32 true := tyOk (by kernel_rfl)
theorem fl119_0 : fieldOf Try.prog 119 0 = some (0, 3) := by kernel_rfl
theorem fl119_1 : fieldOf Try.prog 119 1 = some (1, 9) := by kernel_rfl
theorem fl119_2 : fieldOf Try.prog 119 2 = some (2, 3) := by kernel_rfl
theorem ty120 : TyOk Try.prog 120 [.nilFunc] 1 8 false := tyOk (by kernel_rfl)
theorem ty121 : TyOk Try.prog 121 [.int .i64 0, .int .i64 0, .int .i64 0, .int .i64 0] 4 32 true := tyOk (by kernel_rfl)
theorem fl121_0 : fieldOf Try.prog 121 0 = some (0, 29) := by kernel_rfl
theorem fl121_1 : fieldOf Try.prog 121 1 = some (1, 3) := by kernel_rfl
theorem fl121_2 : fieldOf Try.prog 121 2 = some (2, 3) := by kernel_rfl
theorem fl121_3 : fieldOf Try.prog 121 3 = some (3, 3) := by kernel_rfl
theorem ty122 : TyOk Try.prog 122 [.int .i64 0, .int .i64 0, .int .i64 0, .int .i64 0] 4 32 true := tyOk (by kernel_rfl)
theorem fl122_0 : fieldOf Try.prog 122 0 = some (0, 29) := by kernel_rfl
theorem fl122_1 : fieldOf Try.prog 122 1 = some (1, 3) := by kernel_rfl
theorem fl122_2 : fieldOf Try.prog 122 2 = some (2, 3) := by kernel_rfl
theorem fl122_3 : fieldOf Try.prog 122 3 = some (3, 3) := by kernel_rfl
theorem ty123 : TyOk Try.prog 123 [.int .i64 0, .int .i64 0, .bool false, .int .i64 0, .int .i64 0, .int .i64 0, .int .i64 0] 7 56 true := tyOk (by kernel_rfl)
theorem fl123_0 : fieldOf Try.prog 123 0 = some (0, 3) := by kernel_rfl
theorem fl123_1 : fieldOf Try.prog 123 1 = some (1, 3) := by kernel_rfl
theorem fl123_2 : fieldOf Try.prog 123 2 = some (2, 4) := by kernel_rfl
theorem fl123_3 : fieldOf Try.prog 123 3 = some (3, 122) := by kernel_rfl
theorem ty124 : TyOk Try.prog 124 [.int .i64 0, .int .i64 0, .bool false, .int .i64 0, .int .i64 0, .int .i64 0, .int .i64 0] 7 56 true := tyOk (by kernel_rfl)
theorem fl124_0 : fieldOf Try.prog 124 0 = some (0, 3) := by kernel_rfl
theorem fl124_1 : fieldOf Try.prog 124 1 = some (1, 3) := by kernel_rfl
theorem fl124_2 : fieldOf Try.prog 124 2 = some (2, 4) := by kernel_rfl
theorem fl124_3 : fieldOf Try.prog 124 3 = some (3, 122) := by kernel_rfl
theorem ty125 : TyOk Try.prog 125 [.nilFunc] 1 8 false := tyOk (by kernel_rfl)
theorem ty126 : TyOk Try.prog 126 [.pointer none] 1 8 false := tyOk (by kernel_rfl)
theorem ty127 : TyOk Try.prog 127 [.nilFunc] 1 8 false := tyOk (by kernel_rfl)
theorem ty128 : TyOk Try.prog 128 [.pointer none] 1 8 false := tyOk (by kernel_rfl)
theorem ty129 : TyOk Try.prog 129 [.nilFunc] 1 8 false := tyOk (by kernel_rfl)
theorem ty130 : TyOk Try.prog 130 [.pointer none] 1 8 false := tyOk (by kernel_rfl)
theorem ty131 : TyOk Try.prog 131 [.nilFunc] 1 8 false := tyOk (by kernel_rfl)
theorem ty132 : TyOk Try.prog 132 [.nilFunc] 1 8 false := tyOk (by kernel_rfl)
theorem ty133 : TyOk Try.prog 133 [.nilFunc] 1 8 false := tyOk (by kernel_rfl)
theorem ty134 : TyOk Try.prog 134 [.nilFunc] 1 8 false := tyOk (by kernel_rfl)
theorem ty135 : TyOk Try.prog 135 [.pointer none] 1 8 false := tyOk (by kernel_rfl)
theorem ty136 : TyOk Try.prog 136 [.pointer none] 1 8 false := tyOk (by kernel_rfl)
theorem ty137 : TyOk Try.prog 137 [.pointer none, .slice none 0 0, .bool false, .int .i64 0] 4 48 true := tyOk (by kernel_rfl)
theorem fl137_0 : fieldOf Try.prog 137 0 = some (0, 136) := by kernel_rfl
theorem fl137_1 : fieldOf Try.prog 137 1 = some (1, 26) := by kernel_rfl
theorem fl137_2 : fieldOf Try.prog 137 2 = some (2, 4) := by kernel_rfl
theorem fl137_3 : fieldOf Try.prog 137 3 = some (3, 29) := by kernel_rfl
theorem ty138 : TyOk Try.prog 138 [.pointer none, .slice none 0 0, .bool false, .int .i64 0] 4 48 true := tyOk (by kernel_rfl)
theorem fl138_0 : fieldOf Try.prog 138 0 = some (0, 136) := by kernel_rfl
theorem fl138_1 : fieldOf Try.prog 138 1 = some (1, 26) := by kernel_rfl
theorem fl138_2 : fieldOf Try.prog 138 2 = some (2, 4) := by kernel_rfl
theorem fl138_3 : fieldOf Try.prog 138 3 = some (3, 29) := by kernel_rfl
theorem ty139 : TyOk Try.prog 139 [.nilFunc] 1 8 false := tyOk (by kernel_rfl)
theorem ty140 : TyOk Try.prog 140 [.pointer none] 1 8 false := tyOk (by kernel_rfl)
theorem ty141 : TyOk Try.prog 141 [.nilFunc] 1 8 false := tyOk (by kernel_rfl)
theorem ty142 : TyOk Try.prog 142 [.pointer none] 1 8 false := tyOk (by kernel_rfl)
theorem ty143 : TyOk Try.prog 143 [.nilFunc] 1 8 false := tyOk (by kernel_rfl)
theorem ty144 : TyOk Try.prog 144 [.pointer none] 1 8 false := tyOk (by kernel_rfl)
theorem ty145 : TyOk Try.prog 145 [.nilFunc] 1 8 false := tyOk (by kernel_rfl)
theorem ty146 : TyOk Try.prog 146 [.pointer none] 1 8 false := tyOk (by kernel_rfl)
theorem ty147 : TyOk Try.prog 147 [.nilFunc] 1 8 false := tyOk (by kernel_rfl)
theorem ty148 : TyOk Try.prog 148 [.pointer none] 1 8 false := tyOk (by kernel_rfl)
theorem ty149 : TyOk Try.prog 149 [.nilFunc] 1 8 false := tyOk (by kernel_rfl)
theorem ty150 : TyOk Try.prog 150 [.nilFunc] 1 8 false := tyOk (by kernel_rfl)
theorem ty151 : TyOk Try.prog 151 [.nilFunc] 1 8 false := tyOk (by kernel_rfl)
theorem ty152 : TyOk Try.prog 152 [.nilFunc] 1 8 false := tyOk (by kernel_rfl)
theorem ty153 : TyOk Try.prog 153 [.nilFunc] 1 8 false := tyOk (by kernel_rfl)
theorem ty154 : TyOk Try.prog 154 [.slice none 0 0, .int .i64 0, .int .i64 0] 3 40 true := tyOk (by kernel_rfl)
theorem fl154_0 : fieldOf Try.prog 154 0 = some (0, 26) := by kernel_rfl
theorem fl154_1 : fieldOf Try.prog 154 1 = some (1, 3) := by kernel_rfl
theorem fl154_2 : fieldOf Try.prog 154 2 = some (2, 29) := by kernel_rfl
theorem ty155 : TyOk Try.prog 155 [.slice none 0 0, .int .i64 0, .int .i64 0] 3 40 true := tyOk (by kernel_rfl)
theorem fl155_0 : fieldOf Try.prog 155 0 = some (0, 26) := by kernel_rfl
theorem fl155_1 : fieldOf Try.prog 155 1 = some (1, 3) := by kernel_rfl
theorem fl155_2 : fieldOf Try.prog 155 2 = some (2, 29) := by kernel_rfl
theorem ty156 : TyOk Try.prog 156 [.nilFunc] 1 8 false := tyOk (by kernel_rfl)
theorem ty157 : TyOk Try.prog 157 [.pointer none] 1 8 false := tyOk (by kernel_rfl)
theorem ty158 : TyOk Try.prog 158 [.nilFunc] 1 8 false := tyOk (by kernel_rfl)
theorem ty159 : TyOk Try.prog 159 [.pointer none] 1 8 false := tyOk (by kernel_rfl)
theorem ty160 : TyOk Try.prog 160 [.nilFunc] 1 8 false := tyOk (by kernel_rfl)
theorem ty161 : TyOk Try.prog 161 [.pointer none] 1 8 false := tyOk (by kernel_rfl)
theorem ty162 : TyOk Try.prog 162 [.nilFunc] 1 8 false := tyOk (by kernel_rfl)
theorem ty163 : TyOk Try.prog 163 [.pointer none] 1 8 false := tyOk (by kernel_rfl)
theorem ty164 : TyOk Try.prog 164 [.nilFunc] 1 8 false := tyOk (by kernel_rfl)
theorem ty165 : TyOk Try.prog 165 [.nilFunc] 1 8 false := tyOk (by kernel_rfl)
theorem ty166 : TyOk Try.prog 166 [.nilFunc] 1 8 false := tyOk (by kernel_rfl)
theorem ty167 : TyOk Try.prog 167 [.nilFunc] 1 8 false := tyOk (by kernel_rfl)
theorem ty168 : TyOk Try.prog 168 [.nilFunc] 1 8 false := tyOk (by kernel_rfl)
theorem ty169 : TyOk Try.prog 169 [.pointer none] 1 8 false := tyOk (by kernel_rfl)
theorem ty170 : TyOk Try.prog 170 [.nilFunc] 1 8 false := tyOk (by kernel_rfl)
theorem ty171 : TyOk Try.prog 171 [.nilFunc] 1 8 false := tyOk (by kernel_rfl)
theorem ty172 : TyOk Try.prog 172 [.pointer none] 1 8 false := tyOk (by kernel_rfl)
theorem ty173 : TyOk Try.prog 173 [.nilFunc] 1 8 false := tyOk (by kernel_rfl)
theorem ty174 : TyOk Try.prog 174 [.nilFunc] 1 8 false := tyOk (by kernel_rfl)
theorem ty175 : TyOk Try.prog 175 [.nilFunc] 1 8 false := tyOk (by kernel_rfl)
theorem ty176 : TyOk Try.prog 176 [.nilFunc] 1 8 false := tyOk (by kernel_rfl)
theorem ty177 : TyOk Try.prog 177 [.slice none 0 0] 1 24 false := tyOk (by kernel_rfl)
theorem ty178 : TyOk Try.prog 178 [.nilFunc] 1 8 false := tyOk (by kernel_rfl)
theorem ty179 : TyOk Try.prog 179 [.nilFunc] 1 8 false := tyOk (by kernel_rfl)
theorem ty180 : TyOk Try.prog 180 [.nilFunc] 1 8 false := tyOk (by kernel_rfl)
theorem ty181 : TyOk Try.prog 181 [.nilFunc] 1 8 false := tyOk (by kernel_rfl)
theorem ty182 : TyOk Try.prog 182 [.pointer none] 1 8 false := tyOk (by kernel_rfl)
theorem ty183 : TyOk Try.prog 183 [.nilFunc] 1 8 false := tyOk (by kernel_rfl)
theorem ty184 : TyOk Try.prog 184 [.pointer none] 1 8 false := tyOk (by kernel_rfl)
theorem ty185 : TyOk Try.prog 185 [.nilFunc] 1 8 false := tyOk (by kernel_rfl)
theorem ty186 : TyOk Try.prog 186 [.pointer none] 1 8 false := tyOk (by kernel_rfl)
theorem ty187 : TyOk Try.prog 187 [.nilFunc] 1 8 false := tyOk (by kernel_rfl)
theorem ty188 : TyOk Try.prog 188 [.nilFunc] 1 8 false := tyOk (by kernel_rfl)
theorem ty189 : TyOk Try.prog 189 [.nilFunc] 1 8 false := tyOk (by kernel_rfl)
theorem ty190 : TyOk Try.prog 190 [.nilFunc] 1 8 false := tyOk (by kernel_rfl)
theorem ty191 : TyOk Try.prog 191 [.nilFunc] 1 8 false := tyOk (by kernel_rfl)
theorem ty192 : TyOk Try.prog 192 [.nilFunc] 1 8 false := tyOk (by kernel_rfl)
theorem ty193 : TyOk Try.prog 193 [.int .i64 0, .int .i64 0] 2 16 true := tyOk (by kernel_rfl)
theorem fl193_0 : fieldOf Try.prog 193 0 = some (0, 3) := by kernel_rfl
theorem fl193_1 : fieldOf Try.prog 193 1 = some (1, 3) := by kernel_rfl
theorem ty194 : TyOk Try.prog 194 [.int .i64 0, .int .i64 0] 2 16 true := tyOk (by kernel_rfl)
theorem fl194_0 : fieldOf Try.prog 194 0 = some (0, 3) := by kernel_rfl
theorem fl194_1 : fieldOf Try.prog 194 1 = some (1, 3) := by kernel_rfl
theorem ty195 : TyOk Try.prog 195 [.slice none 0 0] 1 24 false := tyOk (by kernel_rfl)
theorem ty196 : TyOk Try.prog 196 [.int .i64 0, .int .i64 0, .int .i64 0, .int .i64 0] 4 32 true := tyOk (by kernel_rfl)
theorem fl196_0 : fieldOf Try.prog 196 0 = some (0, 3) := by kernel_rfl
theorem fl196_1 : fieldOf Try.prog 196 1 = some (1, 3) := by kernel_rfl
theorem fl196_2 : fieldOf Try.prog 196 2 = some (2, 3) := by kernel_rfl
theorem fl196_3 : fieldOf Try.prog 196 3 = some (3, 3) := by kernel_rfl
theorem ty197 : TyOk Try.prog 197 [.int .i64 0, .int .i64 0, .int .i64 0, .int .i64 0] 4 32 true := tyOk (by kernel_rfl)
theorem fl197_0 : fieldOf Try.prog 197 0 = some (0, 3) := by kernel_rfl
theorem fl197_1 : fieldOf Try.prog 197 1 = some (1, 3) := by kernel_rfl
theorem fl197_2 : fieldOf Try.prog 197 2 = some (2, 3) := by kernel_rfl
theorem fl197_3 : fieldOf Try.prog 197 3 = some (3, 3) := by kernel_rfl
theorem ty198 : TyOk Try.prog 198 [.string .empty, .int .i64 0, .int .i64 0, .int .i64 0, .int .i64 0, .slice none 0 0, .int .i64 0, .int .i64 0, .int .i64 0, .int .i64 0] 10 104 true := tyOk (by kernel_rfl)
theorem fl198_0 : fieldOf Try.prog 198 0 = some (0, 9) := by kernel_rfl
theorem fl198_1 : fieldOf Try.prog 198 1 = some (1, 194) := by kernel_rfl
theorem fl198_2 : fieldOf Try.prog 198 2 = some (3, 3) := by kernel_rfl
theorem fl198_3 : fieldOf Try.prog 198 3 = some (4, 3) := by kernel_rfl
theorem fl198_4 : fieldOf Try.prog 198 4 = some (5, 195) := by kernel_rfl
theorem fl198_5 : fieldOf Try.prog 198 5 = some (6, 197) := by kernel_rfl
theorem ty199 : TyOk Try.prog 199 [.string .empty, .int .i64 0, .int .i64 0, .int .i64 0, .int .i64 0, .slice none 0 0, .int .i64 0, .int .i64 0, .int .i64 0, .int .i64 0] 10 104 true := tyOk (by kernel_rfl)
theorem fl199_0 : fieldOf Try.prog 199 0 = some (0, 9) := by kernel_rfl
theorem fl199_1 : fieldOf Try.prog 199 1 = some (1, 194) := by kernel_rfl
theorem fl199_2 : fieldOf Try.prog 199 2 = some (3, 3) := by kernel_rfl
theorem fl199_3 : fieldOf Try.prog 199 3 = some (4, 3) := by kernel_rfl
theorem fl199_4 : fieldOf Try.prog 199 4 = some (5, 195) := by kernel_rfl
theorem fl199_5 : fieldOf Try.prog 199 5 = some (6, 197) := by kernel_rfl
theorem ty200 : TyOk Try.prog 200 [.pointer none] 1 8 false := tyOk (by kernel_rfl)
theorem ty201 : TyOk Try.prog 201 [.nilFunc] 1 8 false := tyOk (by kernel_rfl)
theorem ty202 : TyOk Try.prog 202 [.nilFunc] 1 8 false := tyOk (by kernel_rfl)
theorem ty203 : TyOk Try.prog 203 [.int .i64 0, .int .i64 0, .int .i64 0, .int .i64 0, .int .i64 0, .int .i64 0, .string .empty, .string .empty, .int .i64 0, .int .i64 0, .int .i64 0] 11 104 true := tyOk (by kernel_rfl)
theorem fl203_0 : fieldOf Try.prog 203 0 = some (0, 3) := by kernel_rfl
theorem fl203_1 : fieldOf Try.prog 203 1 = some (1, 3) := by kernel_rfl
theorem fl203_2 : fieldOf Try.prog 203 2 = some (2, 3) := by kernel_rfl
theorem fl203_3 : fieldOf Try.prog 203 3 = some (3, 3) := by kernel_rfl
theorem fl203_4 : fieldOf Try.prog 203 4 = some (4, 3) := by kernel_rfl
theorem fl203_5 : fieldOf Try.prog 203 5 = some (5, 23) := by kernel_rfl
theorem ty204 : TyOk Try.prog 204 [.int .i64 0, .int .i64 0, .int .i64 0, .int .i64 0, .int .i64 0, .int .i64 0, .string .empty, .string .empty, .int .i64 0, .int .i64 0, .int .i64 0] 11 104 true := tyOk (by kernel_rfl)
theorem fl204_0 : fieldOf Try.prog 204 0 = some (0, 3) := by kernel_rfl
theorem fl204_1 : fieldOf Try.prog 204 1 = some (1, 3) := by kernel_rfl
theorem fl204_2 : fieldOf Try.prog 204 2 = some (2, 3) := by kernel_rfl
theorem fl204_3 : fieldOf Try.prog 204 3 = some (3, 3) := by kernel_rfl
theorem fl204_4 : fieldOf Try.prog 204 4 = some (4, 3) := by kernel_rfl
theorem fl204_5 : fieldOf Try.prog 204 5 = some (5, 23) := by kernel_rfl
theorem ty205 : TyOk Try.prog 205 [.pointer none] 1 8 false := tyOk (by kernel_rfl)
theorem ty206 : TyOk Try.prog 206 [.nilFunc] 1 8 false := tyOk (by kernel_rfl)
theorem ty207 : TyOk Try.prog 207 [.nilFunc] 1 8 false := tyOk (by kernel_rfl)
theorem ty208 : TyOk Try.prog 208 [.int .i64 0, .int .i64 0, .string .empty, .string .empty, .int .i64 0, .int .i64 0, .int .i64 0, .int .i64 0] 8 80 true := tyOk (by kernel_rfl)
theorem fl208_0 : fieldOf Try.prog 208 0 = some (0, 3) := by kernel_rfl
theorem fl208_1 : fieldOf Try.prog 208 1 = some (1, 3) := by kernel_rfl
theorem fl208_2 : fieldOf Try.prog 208 2 = some (2, 9) := by kernel_rfl
theorem fl208_3 : fieldOf Try.prog 208 3 = some (3, 9) := by kernel_rfl
theorem fl208_4 : fieldOf Try.prog 208 4 = some (4, 3) := by kernel_rfl
theorem fl208_5 : fieldOf Try.prog 208 5 = some (5, 3) := by kernel_rfl
theorem fl208_6 : fieldOf Try.prog 208 6 = some (6, 3) := by kernel_rfl
theorem fl208_7 : fieldOf Try.prog 208 7 = some (7, 3) := by kernel_rfl
theorem ty209 : TyOk Try.prog 209 [.int .i64 0, .int .i64 0, .string .empty, .string .empty, .int .i64 0, .int .i64 0, .int .i64 0, .int .i64 0] 8 80 true := tyOk (by kernel_rfl)
theorem fl209_0 : fieldOf Try.prog 209 0 = some (0, 3) := by kernel_rfl
theorem fl209_1 : fieldOf Try.prog 209 1 = some (1, 3) := by kernel_rfl
theorem fl209_2 : fieldOf Try.prog 209 2 = some (2, 9) := by kernel_rfl
theorem fl209_3 : fieldOf Try.prog 209 3 = some (3, 9) := by kernel_rfl
theorem fl209_4 : fieldOf Try.prog 209 4 = some (4, 3) := by kernel_rfl
theorem fl209_5 : fieldOf Try.prog 209 5 = some (5, 3) := by kernel_rfl
theorem fl209_6 : fieldOf Try.prog 209 6 = some (6, 3) := by kernel_rfl
theorem fl209_7 : fieldOf Try.prog 209 7 = some (7, 3) := by kernel_rfl
theorem ty210 : TyOk Try.prog 210 [.pointer none] 1 8 false := tyOk (by kernel_rfl)
theorem ty211 : TyOk Try.prog 211 [.nilFunc] 1 8 false := tyOk (by kernel_rfl)
theorem ty212 : TyOk Try.prog 212 [.nilFunc] 1 8 false := tyOk (by kernel_rfl)
theorem ty213 : TyOk Try.prog 213 [.int .i64 0, .int .i64 0] 2 16 true := tyOk (by kernel_rfl)
theorem fl213_0 : fieldOf Try.prog 213 0 = some (0, 3) := by kernel_rfl
theorem fl213_1 : fieldOf Try.prog 213 1 = some (1, 3) := by kernel_rfl
theorem ty214 : TyOk Try.prog 214 [.int .i64 0, .int .i64 0] 2 16 true := tyOk (by kernel_rfl)
theorem fl214_0 : fieldOf Try.prog 214 0 = some (0, 3) := by kernel_rfl
theorem fl214_1 : fieldOf Try.prog 214 1 = some (1, 3) := by kernel_rfl
theorem ty215 : TyOk Try.prog 215 [.pointer none] 1 8 false := tyOk (by kernel_rfl)
theorem ty216 : TyOk Try.prog 216 [.nilFunc] 1 8 false := tyOk (by kernel_rfl)
theorem ty217 : TyOk Try.prog 217 [.slice none 0 0] 1 24 false := tyOk (by kernel_rfl)
theorem ty218 : TyOk Try.prog 218 [.nilFunc] 1 8 false := tyOk (by kernel_rfl)
theorem ty219 : TyOk Try.prog 219 [.slice none 0 0, .int .i64 0, .int .i64 0] 3 40 true := tyOk (by kernel_rfl)
theorem fl219_0 : fieldOf Try.prog 219 0 = some (0, 26) := by kernel_rfl
theorem fl219_1 : fieldOf Try.prog 219 1 = some (1, 3) := by kernel_rfl
theorem fl219_2 : fieldOf Try.prog 219 2 = some (2, 29) := by kernel_rfl
theorem ty220 : TyOk Try.prog 220 [.slice none 0 0, .int .i64 0, .int .i64 0] 3 40 true := tyOk (by kernel_rfl)
theorem fl220_0 : fieldOf Try.prog 220 0 = some (0, 26) := by kernel_rfl
theorem fl220_1 : fieldOf Try.prog 220 1 = some (1, 3) := by kernel_rfl
theorem fl220_2 : fieldOf Try.prog 220 2 = some (2, 29) := by kernel_rfl
theorem ty221 : TyOk Try.prog 221 [.nilFunc] 1 8 false := tyOk (by kernel_rfl)
theorem ty222 : TyOk Try.prog 222 [.int .u64 0] 1 8 false := tyOk (by kernel_rfl)
theorem ty223 : TyOk Try.prog 223 [.pointer none] 1 8 false := tyOk (by kernel_rfl)
theorem ty224 : TyOk Try.prog 224 [.nilFunc] 1 8 false := tyOk (by kernel_rfl)
theorem ty225 : TyOk Try.prog 225 [.pointer none] 1 8 false := tyOk (by kernel_rfl)
theorem ty226 : TyOk Try.prog 226 [.nilFunc] 1 8 false := tyOk (by kernel_rfl)
theorem ty227 : TyOk Try.prog 227 [.pointer none] 1 8 false := tyOk (by kernel_rfl)
theorem ty228 : TyOk Try.prog 228 [.nilFunc] 1 8 false := tyOk (by kernel_rfl)
theorem ty229 : TyOk Try.prog 229 [.nilFunc] 1 8 false := tyOk (by kernel_rfl)
theorem ty231 : TyOk Try.prog 231 [.nilFunc] 1 8 false := tyOk (by kernel_rfl)
theorem ty232 : TyOk Try.prog 232 [.int .u64 0] 1 8 false := tyOk (by kernel_rfl)
theorem ty233 : TyOk Try.prog 233 [.nilFunc] 1 8 false := tyOk (by kernel_rfl)
theorem ty234 : TyOk Try.prog 234 [.nilFunc] 1 8 false := tyOk (by kernel_rfl)
theorem ty235 : TyOk Try.prog 235 [.pointer none] 1 8 false := tyOk (by kernel_rfl)
theorem ty236 : TyOk Try.prog 236 [.nilFunc] 1 8 false := tyOk (by kernel_rfl)
theorem ty237 : TyOk Try.prog 237 [.pointer none] 1 8 false := tyOk (by kernel_rfl)
theorem ty238 : TyOk Try.prog 238 [.nilFunc] 1 8 false := tyOk (by kernel_rfl)
theorem ty239 : TyOk Try.prog 239 [.int .i64 0, .int .i64 0, .int .i64 0, .int .i64 0] 4 32 true := tyOk (by kernel_rfl)
theorem fl239_0 : fieldOf Try.prog 239 0 = some (0, 3) := by kernel_rfl
theorem fl239_1 : fieldOf Try.prog 239 1 = some (1, 3) := by kernel_rfl
theorem fl239_2 : fieldOf Try.prog 239 2 = some (2, 3) := by kernel_rfl
theorem fl239_3 : fieldOf Try.prog 239 3 = some (3, 3) := by kernel_rfl
theorem ty240 : TyOk Try.prog 240 [.int .i64 0, .int .i64 0, .int .i64 0, .int .i64 0] 4 32 true := tyOk (by kernel_rfl)
theorem fl240_0 : fieldOf Try.prog 240 0 = some (0, 3) := by kernel_rfl
theorem fl240_1 : fieldOf Try.prog 240 1 = some (1, 3) := by kernel_rfl
theorem fl240_2 : fieldOf Try.prog 240 2 = some (2, 3) := by kernel_rfl
theorem fl240_3 : fieldOf Try.prog 240 3 = some (3, 3) := by kernel_rfl
theorem ty241 : TyOk Try.prog 241 [.pointer none] 1 8 false := tyOk (by kernel_rfl)
theorem ty242 : TyOk Try.prog 242 [.nilFunc] 1 8 false := tyOk (by kernel_rfl)
theorem ty243 : TyOk Try.prog 243 [.pointer none] 1 8 false := tyOk (by kernel_rfl)
theorem ty244 : TyOk Try.prog 244 [.pointer none] 1 8 false := tyOk (by kernel_rfl)
theorem ty245 : TyOk Try.prog 245 [.pointer none] 1 8 false := tyOk (by kernel_rfl)
theorem ty246 : TyOk Try.prog 246 [.nilFunc] 1 8 false := tyOk (by kernel_rfl)
theorem ty247 : TyOk Try.prog 247 [.nilFunc] 1 8 false := tyOk (by kernel_rfl)
theorem ty249 : TyOk Try.prog 249 [.nilFunc] 1 8 false := tyOk (by kernel_rfl)
theorem ty250 : TyOk Try.prog 250 [.nilFunc] 1 8 false := tyOk (by kernel_rfl)
theorem ty251 : TyOk Try.prog 251 [.nilFunc] 1 8 false := tyOk (by kernel_rfl)
theorem ty252 : TyOk Try.prog 252 [.nilFunc] 1 8 false := tyOk (by kernel_rfl)
theorem ty253 : TyOk Try.prog 253 [.pointer none] 1 8 false := tyOk (by kernel_rfl)
theorem ty255 : TyOk Try.prog 255 [.nilFunc] 1 8 false := tyOk (by kernel_rfl)
theorem ty256 : TyOk Try.prog 256 [.pointer none] 1 8 false := tyOk (by kernel_rfl)
theorem ty258 : TyOk Try.prog 258 [.nilFunc] 1 8 false := tyOk (by kernel_rfl)
theorem ty259 : TyOk Try.prog 259 [.nilFunc] 1 8 false := tyOk (by kernel_rfl)
theorem ty267 : TyOk Try.prog 267 [.nilFunc] 1 8 false := tyOk (by kernel_rfl)
theorem ty268 : TyOk Try.prog 268 [.pointer none] 1 8 false := tyOk (by kernel_rfl)
theorem ty273 : TyOk Try.prog 273 [.pointer none] 1 8 false := tyOk (by kernel_rfl)
theorem gf3 : goFn Try.prog 3 = true := by kernel_rfl
theorem gf4 : goFn Try.prog 4 = true := by kernel_rfl
theorem gf5 : goFn Try.prog 5 = true := by kernel_rfl
theorem gf6 : goFn Try.prog 6 = true := by kernel_rfl
theorem gf7 : goFn Try.prog 7 = true := by kernel_rfl
theorem gf8 : goFn Try.prog 8 = true := by kernel_rfl
theorem gf9 : goFn Try.prog 9 = true := by kernel_rfl
theorem gf10 : goFn Try.prog 10 = true := by kernel_rfl
theorem gf11 : goFn Try.prog 11 = true := by kernel_rfl
theorem gf12 : goFn Try.prog 12 = true := by kernel_rfl
theorem gf13 : goFn Try.prog 13 = true := by kernel_rfl
theorem gf14 : goFn Try.prog 14 = true := by kernel_rfl
theorem gf15 : goFn Try.prog 15 = true := by kernel_rfl
theorem gf16 : goFn Try.prog 16 = true := by kernel_rfl
theorem gf17 : goFn Try.prog 17 = true := by kernel_rfl
theorem gf18 : goFn Try.prog 18 = true := by kernel_rfl
theorem gf19 : goFn Try.prog 19 = true := by kernel_rfl
theorem gf20 : goFn Try.prog 20 = true := by kernel_rfl
theorem gf21 : goFn Try.prog 21 = true := by kernel_rfl
theorem gf22 : goFn Try.prog 22 = true := by kernel_rfl
theorem gf23 : goFn Try.prog 23 = true := by kernel_rfl
theorem gf24 : goFn Try.prog 24 = true := by kernel_rfl
theorem gf25 : goFn Try.prog 25 = true := by kernel_rfl
theorem gf26 : goFn Try.prog 26 = true := by kernel_rfl
theorem gf27 : goFn Try.prog 27 = true := by kernel_rfl
theorem gf28 : goFn Try.prog 28 = true := by kernel_rfl
theorem gf29 : goFn Try.prog 29 = true := by kernel_rfl
theorem gf30 : goFn Try.prog 30 = true := by kernel_rfl
theorem gf31 : goFn Try.prog 31 = true := by kernel_rfl
theorem gf32 : goFn Try.prog 32 = true := by kernel_rfl
theorem gf33 : goFn Try.prog 33 = true := by kernel_rfl
theorem gf34 : goFn Try.prog 34 = true := by kernel_rfl
theorem gf35 : goFn Try.prog 35 = true := by kernel_rfl
theorem gf36 : goFn Try.prog 36 = true := by kernel_rfl
theorem gf37 : goFn Try.prog 37 = true := by kernel_rfl
theorem gf38 : goFn Try.prog 38 = true := by kernel_rfl
theorem gf39 : goFn Try.prog 39 = true := by kernel_rfl
theorem gf40 : goFn Try.prog 40 = true := by kernel_rfl
theorem gf41 : goFn Try.prog 41 = true := by kernel_rfl
theorem gf42 : goFn Try.prog 42 = true := by kernel_rfl
theorem gf43 : goFn Try.prog 43 = true := by kernel_rfl
theorem gf44 : goFn Try.prog 44 = true := by kernel_rfl
theorem gf45 : goFn Try.prog 45 = true := by kernel_rfl
theorem gf46 : goFn Try.prog 46 = true := by kernel_rfl
theorem gf47 : goFn Try.prog 47 = true := by kernel_rfl
theorem gf48 : goFn Try.prog 48 = true := by kernel_rfl
theorem gf49 : goFn Try.prog 49 = true := by kernel_rfl
theorem gf50 : goFn Try.prog 50 = true := by kernel_rfl
theorem gf51 : goFn Try.prog 51 = true := by kernel_rfl
theorem gf52 : goFn Try.prog 52 = true := by kernel_rfl
theorem gf53 : goFn Try.prog 53 = true := by kernel_rfl
theorem gf54 : goFn Try.prog 54 = true := by kernel_rfl
theorem gf55 : goFn Try.prog 55 = true := by kernel_rfl
theorem gf56 : goFn Try.prog 56 = true := by kernel_rfl
theorem gf57 : goFn Try.prog 57 = true := by kernel_rfl
theorem gf58 : goFn Try.prog 58 = true := by kernel_rfl
theorem gf59 : goFn Try.prog 59 = true := by kernel_rfl
theorem gf60 : goFn Try.prog 60 = true := by kernel_rfl
theorem gf61 : goFn Try.prog 61 = true := by kernel_rfl
theorem gf62 : goFn Try.prog 62 = true := by kernel_rfl
theorem gf63 : goFn Try.prog 63 = true := by kernel_rfl
theorem gf64 : goFn Try.prog 64 = true := by kernel_rfl
theorem gf65 : goFn Try.prog 65 = true := by kernel_rfl
theorem gf66 : goFn Try.prog 66 = true := by kernel_rfl
theorem gf67 : goFn Try.prog 67 = true := by kernel_rfl
theorem gf68 : goFn Try.prog 68 = true := by kernel_rfl
theorem gf69 : goFn Try.prog 69 = true := by kernel_rfl
theorem gf70 : goFn Try.prog 70 = true := by kernel_rfl
theorem gf71 : goFn Try.prog 71 = true := by kernel_rfl
theorem gf72 : goFn Try.prog 72 = true := by kernel_rfl
theorem gf73 : goFn Try.prog 73 = true := by kernel_rfl
theorem gf74 : goFn Try.prog 74 = true := by kernel_rfl
theorem gf75 : goFn Try.prog 75 = true := by kernel_rfl
theorem gf76 : goFn Try.prog 76 = true := by kernel_rfl
theorem gf77 : goFn Try.prog 77 = true := by kernel_rfl
theorem gf78 : goFn Try.prog 78 = true := by kernel_rfl
theorem gf79 : goFn Try.prog 79 = true := by kernel_rfl
theorem gf80 : goFn Try.prog 80 = true := by kernel_rfl
theorem gf81 : goFn Try.prog 81 = true := by kernel_rfl
theorem gf82 : goFn Try.prog 82 = true := by kernel_rfl
theorem gf83 : goFn Try.prog 83 = true := by kernel_rfl
theorem gf84 : goFn Try.prog 84 = true := by kernel_rfl
theorem gf85 : goFn Try.prog 85 = true := by kernel_rfl
theorem gf86 : goFn Try.prog 86 = true := by kernel_rfl
theorem gf87 : goFn Try.prog 87 = true := by kernel_rfl
theorem gf88 : goFn Try.prog 88 = true := by kernel_rfl
theorem gf89 : goFn Try.prog 89 = true := by kernel_rfl
theorem gf90 : goFn Try.prog 90 = true := by kernel_rfl
theorem gf91 : goFn Try.prog 91 = true := by kernel_rfl
theorem gf92 : goFn Try.prog 92 = true := by kernel_rfl
theorem gf93 : goFn Try.prog 93 = true := by kernel_rfl
theorem gf94 : goFn Try.prog 94 = true := by kernel_rfl
theorem gf95 : goFn Try.prog 95 = true := by kernel_rfl
theorem gf96 : goFn Try.prog 96 = true := by kernel_rfl
theorem gf97 : goFn Try.prog 97 = true := by kernel_rfl
theorem gf98 : goFn Try.prog 98 = true := by kernel_rfl
theorem gf99 : goFn Try.prog 99 = true := by kernel_rfl
theorem gf100 : goFn Try.prog 100 = true := by kernel_rfl
theorem gf101 : goFn Try.prog 101 = true := by kernel_rfl
theorem gf102 : goFn Try.prog 102 = true := by kernel_rfl
theorem gf103 : goFn Try.prog 103 = true := by kernel_rfl
theorem gf104 : goFn Try.prog 104 = true := by kernel_rfl
theorem gf105 : goFn Try.prog 105 = true := by kernel_rfl
theorem gf106 : goFn Try.prog 106 = true := by kernel_rfl
theorem gf107 : goFn Try.prog 107 = true := by kernel_rfl
theorem gf108 : goFn Try.prog 108 = true := by kernel_rfl
theorem gf109 : goFn Try.prog 109 = true := by kernel_rfl
theorem gf110 : goFn Try.prog 110 = true := by kernel_rfl
theorem gf111 : goFn Try.prog 111 = true := by kernel_rfl
theorem gf112 : goFn Try.prog 112 = true := by kernel_rfl
theorem gf113 : goFn Try.prog 113 = true := by kernel_rfl
theorem gf114 : goFn Try.prog 114 = true := by kernel_rfl
theorem gf115 : goFn Try.prog 115 = true := by kernel_rfl
theorem gf116 : goFn Try.prog 116 = true := by kernel_rfl
theorem gf117 : goFn Try.prog 117 = true := by kernel_rfl
theorem gf118 : goFn Try.prog 118 = true := by kernel_rfl
theorem gf119 : goFn Try.prog 119 = true := by kernel_rfl
theorem gf120 : goFn Try.prog 120 = true := by kernel_rfl
theorem gf121 : goFn Try.prog 121 = true := by kernel_rfl
theorem gf122 : goFn Try.prog 122 = true := by kernel_rfl
theorem gf123 : goFn Try.prog 123 = true := by kernel_rfl
theorem gf124 : goFn Try.prog 124 = true := by kernel_rfl
theorem gf125 : goFn Try.prog 125 = true := by kernel_rfl
theorem gf126 : goFn Try.prog 126 = true := by kernel_rfl
theorem gf127 : goFn Try.prog 127 = true := by kernel_rfl
theorem gf128 : goFn Try.prog 128 = true := by kernel_rfl
theorem gf129 : goFn Try.prog 129 = true := by kernel_rfl
theorem gf130 : goFn Try.prog 130 = true := by kernel_rfl
theorem gf131 : goFn Try.prog 131 = true := by kernel_rfl
theorem gf132 : goFn Try.prog 132 = true := by kernel_rfl
theorem gf133 : goFn Try.prog 133 = true := by kernel_rfl
theorem gf134 : goFn Try.prog 134 = true := by kernel_rfl
theorem gf135 : goFn Try.prog 135 = true := by kernel_rfl
theorem gf136 : goFn Try.prog 136 = true := by kernel_rfl
theorem gf137 : goFn Try.prog 137 = true := by kernel_rfl
theorem gf138 : goFn Try.prog 138 = true := by kernel_rfl
theorem gf139 : goFn Try.prog 139 = true := by kernel_rfl
theorem gf140 : goFn Try.prog 140 = true := by kernel_rfl
theorem gf141 : goFn Try.prog 141 = true := by kernel_rfl
theorem gf142 : goFn Try.prog 142 = true := by kernel_rfl
theorem gf143 : goFn Try.prog 143 = true := by kernel_rfl
theorem gf144 : goFn Try.prog 144 = true := by kernel_rfl
theorem gf145 : goFn Try.prog 145 = true := by kernel_rfl
theorem gf146 : goFn Try.prog 146 = true := by kernel_rfl
theorem gf147 : goFn Try.prog 147 = true := by kernel_rfl
theorem gf148 : goFn Try.prog 148 = true := by kernel_rfl
theorem gf149 : goFn Try.prog 149 = true := by kernel_rfl
theorem gf150 : goFn Try.prog 150 = true := by kernel_rfl
theorem gf151 : goFn Try.prog 151 = true := by kernel_rfl
theorem gf152 : goFn Try.prog 152 = true := by kernel_rfl
theorem gf153 : goFn Try.prog 153 = true := by kernel_rfl
theorem gf154 : goFn Try.prog 154 = true := by kernel_rfl
theorem gf155 : goFn Try.prog 155 = true := by kernel_rfl
theorem mixed : Try.prog.follows .mixedOrders = true := by kernel_rfl
end Go.Proofs.Ytoeobicpdeklaaa

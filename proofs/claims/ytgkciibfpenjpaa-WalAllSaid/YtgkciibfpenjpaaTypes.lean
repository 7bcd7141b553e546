/- The types of this seat, each a closed fact. Printed by wip/gen/types.py. -/
import Derived.Test.YtgkciibfpenjpaaFun
namespace Go.Proofs.Ytgkciibfpenjpaa
open Go
theorem ty1 : TyOk Try.prog 1 [.nilFunc] 1 8 false := tyOk (by kernel_rfl)
theorem ty2 : TyOk Try.prog 2 [.int .i64 0] 1 8 false := tyOk (by kernel_rfl)
theorem ty3 : TyOk Try.prog 3 [.int .i64 0] 1 8 false := tyOk (by kernel_rfl)
theorem ty4 : TyOk Try.prog 4 [.bool false] 1 1 false := tyOk (by kernel_rfl)
theorem ty5 : TyOk Try.prog 5 [.int .u8 0] 1 1 false := tyOk (by kernel_rfl)
theorem ty9 : TyOk Try.prog 9 [.string .empty] 1 16 false := tyOk (by kernel_rfl)
theorem ty12 : TyOk Try.prog 12 [.int .u64 0] 1 8 false := tyOk (by kernel_rfl)
theorem ty13 : TyOk Try.prog 13 [.string .empty, .int .u64 0] 2 24 true := tyOk (by kernel_rfl)
theorem fl13_0 : fieldOf Try.prog 13 0 = some (0, 9) := by kernel_rfl
theorem fl13_1 : fieldOf Try.prog 13 1 = some (1, 12) := by kernel_rfl
theorem ty20 : TyOk Try.prog 20 [.nilIface] 1 16 false := tyOk (by kernel_rfl)
theorem ty21 : TyOk Try.prog 21 [.int .i32 0] 1 4 false := tyOk (by kernel_rfl)
theorem ty22 : TyOk Try.prog 22 [.slice none 0 0] 1 24 false := tyOk (by kernel_rfl)
theorem ty23 : TyOk Try.prog 23 [.int .u64 0] 1 8 false := tyOk (by kernel_rfl)
theorem ty24 : TyOk Try.prog 24 [.pointer none] 1 8 false := tyOk (by kernel_rfl)
theorem ty25 : TyOk Try.prog 25 [.nilFunc] 1 8 false := tyOk (by kernel_rfl)
theorem ty26 : TyOk Try.prog 26 [.nilFunc] 1 8 false := tyOk (by kernel_rfl)
theorem ty27 : TyOk Try.prog 27 [.pointer none] 1 8 false := tyOk (by kernel_rfl)
theorem ty28 : TyOk Try.prog 28 [.pointer none] 1 8 false := tyOk (by kernel_rfl)
theorem ty29 : TyOk Try.prog 29 [.slice none 0 0] 1 24 false := tyOk (by kernel_rfl)
theorem ty30 : TyOk Try.prog 30 [.pointer none, .pointer none, .slice none 0 0, .int .i64 0, .int .i64 0, .int .i64 0, .int .i64 0, .int .i64 0] 8 80 true := tyOk (by kernel_rfl)
theorem fl30_0 : fieldOf Try.prog 30 0 = some (0, 27) := by kernel_rfl
theorem fl30_1 : fieldOf Try.prog 30 1 = some (1, 28) := by kernel_rfl
theorem fl30_2 : fieldOf Try.prog 30 2 = some (2, 29) := by kernel_rfl
theorem fl30_3 : fieldOf Try.prog 30 3 = some (3, 3) := by kernel_rfl
theorem fl30_4 : fieldOf Try.prog 30 4 = some (4, 3) := by kernel_rfl
theorem fl30_5 : fieldOf Try.prog 30 5 = some (5, 3) := by kernel_rfl
theorem fl30_6 : fieldOf Try.prog 30 6 = some (6, 3) := by kernel_rfl
theorem fl30_7 : fieldOf Try.prog 30 7 = some (7, 3) := by kernel_rfl
theorem ty31 : TyOk Try.prog 31 [.pointer none, .pointer none, .slice none 0 0, .int .i64 0, .int .i64 0, .int .i64 0, .int .i64 0, .int .i64 0] 8 80 true := tyOk (by kernel_rfl)
theorem fl31_0 : fieldOf Try.prog 31 0 = some (0, 27) := by kernel_rfl
theorem fl31_1 : fieldOf Try.prog 31 1 = some (1, 28) := by kernel_rfl
theorem fl31_2 : fieldOf Try.prog 31 2 = some (2, 29) := by kernel_rfl
theorem fl31_3 : fieldOf Try.prog 31 3 = some (3, 3) := by kernel_rfl
theorem fl31_4 : fieldOf Try.prog 31 4 = some (4, 3) := by kernel_rfl
theorem fl31_5 : fieldOf Try.prog 31 5 = some (5, 3) := by kernel_rfl
theorem fl31_6 : fieldOf Try.prog 31 6 = some (6, 3) := by kernel_rfl
theorem fl31_7 : fieldOf Try.prog 31 7 = some (7, 3) := by kernel_rfl
theorem ty32 : TyOk Try.prog 32 [.int .i64 0] 1 8 false := tyOk (by kernel_rfl)
theorem ty33 : TyOk Try.prog 33 [.nilFunc] 1 8 false := tyOk (by kernel_rfl)
theorem ty34 : TyOk Try.prog 34 [.slice none 0 0] 1 24 false := tyOk (by kernel_rfl)
theorem ty35 : TyOk Try.prog 35 [.nilFunc] 1 8 false := tyOk (by kernel_rfl)
theorem ty36 : TyOk Try.prog 36 [.nilFunc] 1 8 false := tyOk (by kernel_rfl)
theorem ty37 : TyOk Try.prog 37 [.nilFunc] 1 8 false := tyOk (by kernel_rfl)
theorem ty38 : TyOk Try.prog 38 [.nilFunc] 1 8 false := tyOk (by kernel_rfl)
theorem ty39 : TyOk Try.prog 39 [.nilFunc] 1 8 false := tyOk (by kernel_rfl)
theorem ty40 : TyOk Try.prog 40 [.nilFunc] 1 8 false := tyOk (by kernel_rfl)
theorem ty41 : TyOk Try.prog 41 [.nilFunc] 1 8 false := tyOk (by kernel_rfl)
theorem ty43 : TyOk Try.prog 43 [.nilFunc] 1 8 false := tyOk (by kernel_rfl)
theorem ty44 : TyOk Try.prog 44 [.nilFunc] 1 8 false := tyOk (by kernel_rfl)
theorem ty45 : TyOk Try.prog 45 [.nilFunc] 1 8 false := tyOk (by kernel_rfl)
theorem ty46 : TyOk Try.prog 46 [.nilFunc] 1 8 false := tyOk (by kernel_rfl)
theorem ty47 : TyOk Try.prog 47 [.nilFunc] 1 8 false := tyOk (by kernel_rfl)
theorem ty48 : TyOk Try.prog 48 [.nilFunc] 1 8 false := tyOk (by kernel_rfl)
theorem ty49 : TyOk Try.prog 49 [.nilFunc] 1 8 false := tyOk (by kernel_rfl)
theorem ty50 : TyOk Try.prog 50 [.nilFunc] 1 8 false := tyOk (by kernel_rfl)
theorem ty51 : TyOk Try.prog 51 [.nilFunc] 1 8 false := tyOk (by kernel_rfl)
theorem ty53 : TyOk Try.prog 53 [.nilFunc] 1 8 false := tyOk (by kernel_rfl)
theorem ty54 : TyOk Try.prog 54 [.nilFunc] 1 8 false := tyOk (by kernel_rfl)
theorem ty55 : TyOk Try.prog 55 [.nilFunc] 1 8 false := tyOk (by kernel_rfl)
theorem ty56 : TyOk Try.prog 56 [.int .u64 0] 1 8 false := tyOk (by kernel_rfl)
theorem ty57 : TyOk Try.prog 57 [.pointer none, .bool false, .int .u64 0, .int .i64 0, .slice none 0 0, .slice none 0 0, .int .i64 0, .int .i64 0, .int .i64 0] 9 104 true := tyOk (by kernel_rfl)
theorem fl57_0 : fieldOf Try.prog 57 0 = some (0, 27) := by kernel_rfl
theorem fl57_1 : fieldOf Try.prog 57 1 = some (1, 4) := by kernel_rfl
theorem fl57_2 : fieldOf Try.prog 57 2 = some (2, 56) := by kernel_rfl
theorem fl57_3 : fieldOf Try.prog 57 3 = some (3, 3) := by kernel_rfl
theorem fl57_4 : fieldOf Try.prog 57 4 = some (4, 29) := by kernel_rfl
theorem fl57_5 : fieldOf Try.prog 57 5 = some (5, 22) := by kernel_rfl
theorem fl57_6 : fieldOf Try.prog 57 6 = some (6, 3) := by kernel_rfl
theorem fl57_7 : fieldOf Try.prog 57 7 = some (7, 3) := by kernel_rfl
theorem fl57_8 : fieldOf Try.prog 57 8 = some (8, 3) := by kernel_rfl
theorem ty58 : TyOk Try.prog 58 [.pointer none, .bool false, .int .u64 0, .int .i64 0, .slice none 0 0, .slice none 0 0, .int .i64 0, .int .i64 0, .int .i64 0] 9 104 true := tyOk (by kernel_rfl)
theorem fl58_0 : fieldOf Try.prog 58 0 = some (0, 27) := by kernel_rfl
theorem fl58_1 : fieldOf Try.prog 58 1 = some (1, 4) := by kernel_rfl
theorem fl58_2 : fieldOf Try.prog 58 2 = some (2, 56) := by kernel_rfl
theorem fl58_3 : fieldOf Try.prog 58 3 = some (3, 3) := by kernel_rfl
theorem fl58_4 : fieldOf Try.prog 58 4 = some (4, 29) := by kernel_rfl
theorem fl58_5 : fieldOf Try.prog 58 5 = some (5, 22) := by kernel_rfl
theorem fl58_6 : fieldOf Try.prog 58 6 = some (6, 3) := by kernel_rfl
theorem fl58_7 : fieldOf Try.prog 58 7 = some (7, 3) := by kernel_rfl
theorem fl58_8 : fieldOf Try.prog 58 8 = some (8, 3) := by kernel_rfl
theorem ty59 : TyOk Try.prog 59 [.nilFunc] 1 8 false := tyOk (by kernel_rfl)
theorem ty60 : TyOk Try.prog 60 [.nilFunc] 1 8 false := tyOk (by kernel_rfl)
theorem ty61 : TyOk Try.prog 61 [.nilFunc] 1 8 false := tyOk (by kernel_rfl)
theorem ty62 : TyOk Try.prog 62 [.nilFunc] 1 8 false := tyOk (by kernel_rfl)
theorem ty63 : TyOk Try.prog 63 [.nilFunc] 1 8 false := tyOk (by kernel_rfl)
theorem ty64 : TyOk Try.prog 64 [.nilFunc] 1 8 false := tyOk (by kernel_rfl)
theorem ty65 : TyOk Try.prog 65 [.nilFunc] 1 8 false := tyOk (by kernel_rfl)
theorem ty66 : TyOk Try.prog 66 [.nilFunc] 1 8 false := tyOk (by kernel_rfl)
theorem ty67 : TyOk Try.prog 67 [.nilFunc] 1 8 false := tyOk (by kernel_rfl)
theorem ty68 : TyOk Try.prog 68 [.nilFunc] 1 8 false := tyOk (by kernel_rfl)
theorem ty69 : TyOk Try.prog 69 [.nilFunc] 1 8 false := tyOk (by kernel_rfl)
theorem ty70 : TyOk Try.prog 70 [.nilFunc] 1 8 false := tyOk (by kernel_rfl)
theorem ty71 : TyOk Try.prog 71 [.nilFunc] 1 8 false := tyOk (by kernel_rfl)
theorem ty72 : TyOk Try.prog 72 [] 0 0 true := tyOk (by kernel_rfl)
theorem ty73 : TyOk Try.prog 73 [] 0 0 true := tyOk (by kernel_rfl)
theorem ty75 : TyOk Try.prog 75 [.int .u64 0, .int .i64 0, .int .i64 0, .int .i64 0] 4 32 true := tyOk (by kernel_rfl)
theorem fl75_0 : fieldOf Try.prog 75 0 = some (0, 56) := by kernel_rfl
theorem fl75_1 : fieldOf Try.prog 75 1 = some (1, 3) := by kernel_rfl
theorem fl75_2 : fieldOf Try.prog 75 2 = some (2, 3) := by kernel_rfl
theorem fl75_3 : fieldOf Try.prog 75 3 = some (3, 3) := by kernel_rfl
theorem ty76 : TyOk Try.prog 76 [.int .u64 0, .int .i64 0, .int .i64 0, .int .i64 0] 4 32 true := tyOk (by kernel_rfl)
theorem fl76_0 : fieldOf Try.prog 76 0 = some (0, 56) := by kernel_rfl
theorem fl76_1 : fieldOf Try.prog 76 1 = some (1, 3) := by kernel_rfl
theorem fl76_2 : fieldOf Try.prog 76 2 = some (2, 3) := by kernel_rfl
theorem fl76_3 : fieldOf Try.prog 76 3 = some (3, 3) := by kernel_rfl
theorem ty78 : TyOk Try.prog 78 [.nilFunc] 1 8 false := tyOk (by kernel_rfl)
theorem ty80 : TyOk Try.prog 80 [.nilFunc] 1 8 false := tyOk (by kernel_rfl)
theorem ty81 : TyOk Try.prog 81 [.nilFunc] 1 8 false := tyOk (by kernel_rfl)
theorem ty82 : TyOk Try.prog 82 [.nilFunc] 1 8 false := tyOk (by kernel_rfl)
theorem ty83 : TyOk Try.prog 83 [.nilFunc] 1 8 false := tyOk (by kernel_rfl)
theorem ty84 : TyOk Try.prog 84 [.slice none 0 0] 1 24 false := tyOk (by kernel_rfl)
theorem ty85 : TyOk Try.prog 85 [.nilFunc] 1 8 false := tyOk (by kernel_rfl)
theorem ty86 : TyOk Try.prog 86 [.int .u8 0, .int .u8 0, .int .u8 0, .int .u8 0, .int .u8 0, .int .u8 0, .int .u8 0, .int .u8 0, .int .u8 0, .int .u8 0, .int .u8 0, .int .u8 0, .int .u8 0, .int .u8 0, .int .u8 0, .int .u8 0, .int .u8 0, .int .u8 0, .int .u8 0, .int .u8 0, .int .u8 0, .int .u8 0, .int .u8 0, .int .u8 0, .int .u8 0, .int .u8 0, .int .u8 0, .int .u8 0, .int .u8 0, .int .u8 0, .int .u8 0, .int .u8 0, .int .u8 0, .int .u8 0, .int .u8 0, .int .u8 0, .int .u8 0, .int .u8 0, .int .u8 0, .int .u8 0, .int .u8 0, .int .u8 0, .int .u8 0, .int .u8 0, .int .u8 0, .int .u8 0, .int .u8 0, .int .u8 0, .int .u8 0, .int .u8 0, .int .u8 0, .int .u8 0, .int .u8 0, .int .u8 0, .int .u8 0, .int .u8 0, .int .u8 0, .int .u8 0, .int .u8 0, .int .u8 0, .int .u8 0, .int .u8 0, .int .u8 0, .int .u8 0] 64 64 true := tyOk (by kernel_rfl)
theorem ty87 : TyOk Try.prog 87 [.int .u8 0, .int .u8 0, .int .u8 0, .int .u8 0, .int .u8 0, .int .u8 0, .int .u8 0, .int .u8 0, .int .u8 0, .int .u8 0, .int .u8 0, .int .u8 0, .int .u8 0, .int .u8 0, .int .u8 0, .int .u8 0, .int .u8 0, .int .u8 0, .int .u8 0, .int .u8 0, .int .u8 0, .int .u8 0, .int .u8 0, .int .u8 0, .int .u8 0, .int .u8 0, .int .u8 0, .int .u8 0, .int .u8 0, .int .u8 0, .int .u8 0, .int .u8 0, .int .u8 0, .int .u8 0, .int .u8 0, .int .u8 0, .int .u8 0, .int .u8 0, .int .u8 0, .int .u8 0, .int .u8 0, .int .u8 0, .int .u8 0, .int .u8 0, .int .u8 0, .int .u8 0, .int .u8 0, .int .u8 0, .int .u8 0, .int .u8 0, .int .u8 0, .int .u8 0, .int .u8 0, .int .u8 0, .int .u8 0, .int .u8 0, .int .u8 0, .int .u8 0, .int .u8 0, .int .u8 0, .int .u8 0, .int .u8 0, .int .u8 0, .int .u8 0] 64 64 true := tyOk (by kernel_rfl)
theorem ty88 : TyOk Try.prog 88 [.slice none 0 0] 1 24 false := tyOk (by kernel_rfl)
theorem ty89 : TyOk Try.prog 89 [.slice none 0 0, .slice none 0 0, .bool false, .int .i64 0] 4 64 true := tyOk (by kernel_rfl)
theorem fl89_0 : fieldOf Try.prog 89 0 = some (0, 84) := by kernel_rfl
theorem fl89_1 : fieldOf Try.prog 89 1 = some (1, 88) := by kernel_rfl
theorem fl89_2 : fieldOf Try.prog 89 2 = some (2, 4) := by kernel_rfl
theorem fl89_3 : fieldOf Try.prog 89 3 = some (3, 3) := by kernel_rfl
theorem ty90 : TyOk Try.prog 90 [.slice none 0 0, .slice none 0 0, .bool false, .int .i64 0] 4 64 true := tyOk (by kernel_rfl)
theorem fl90_0 : fieldOf Try.prog 90 0 = some (0, 84) := by kernel_rfl
theorem fl90_1 : fieldOf Try.prog 90 1 = some (1, 88) := by kernel_rfl
theorem fl90_2 : fieldOf Try.prog 90 2 = some (2, 4) := by kernel_rfl
theorem fl90_3 : fieldOf Try.prog 90 3 = some (3, 3) := by kernel_rfl
theorem ty91 : TyOk Try.prog 91 [.nilFunc] 1 8 false := tyOk (by kernel_rfl)
theorem ty92 : TyOk Try.prog 92 [.int .i64 0, .int .u8 0, .int .u8 0, .int .u8 0, .int .u8 0, .int .u8 0, .int .u8 0, .int .u8 0, .int .u8 0, .int .u8 0, .int .u8 0, .int .u8 0, .int .u8 0, .int .u8 0, .int .u8 0, .int .u8 0, .int .u8 0, .int .u8 0, .int .u8 0, .int .u8 0, .int .u8 0, .int .u8 0, .int .u8 0, .int .u8 0, .int .u8 0, .int .u8 0, .int .u8 0, .int .u8 0, .int .u8 0, .int .u8 0, .int .u8 0, .int .u8 0, .int .u8 0, .int .u8 0, .int .u8 0, .int .u8 0, .int .u8 0, .int .u8 0, .int .u8 0, .int .u8 0, .int .u8 0, .int .u8 0, .int .u8 0, .int .u8 0, .int .u8 0, .int .u8 0, .int .u8 0, .int .u8 0, .int .u8 0, .int .u8 0, .int .u8 0, .int .u8 0, .int .u8 0, .int .u8 0, .int .u8 0, .int .u8 0, .int .u8 0, .int .u8 0, .int .u8 0, .int .u8 0, .int .u8 0, .int .u8 0, .int .u8 0, .int .u8 0, .int .u8 0] 65 72 true := tyOk (by kernel_rfl)
theorem fl92_0 : fieldOf Try.prog 92 0 = some (0, 3) := by kernel_rfl
theorem fl92_1 : fieldOf Try.prog 92 1 = some (1, 87) := by kernel_rfl
theorem ty93 : TyOk Try.prog 93 [.int .i64 0, .int .u8 0, .int .u8 0, .int .u8 0, .int .u8 0, .int .u8 0, .int .u8 0, .int .u8 0, .int .u8 0, .int .u8 0, .int .u8 0, .int .u8 0, .int .u8 0, .int .u8 0, .int .u8 0, .int .u8 0, .int .u8 0, .int .u8 0, .int .u8 0, .int .u8 0, .int .u8 0, .int .u8 0, .int .u8 0, .int .u8 0, .int .u8 0, .int .u8 0, .int .u8 0, .int .u8 0, .int .u8 0, .int .u8 0, .int .u8 0, .int .u8 0, .int .u8 0, .int .u8 0, .int .u8 0, .int .u8 0, .int .u8 0, .int .u8 0, .int .u8 0, .int .u8 0, .int .u8 0, .int .u8 0, .int .u8 0, .int .u8 0, .int .u8 0, .int .u8 0, .int .u8 0, .int .u8 0, .int .u8 0, .int .u8 0, .int .u8 0, .int .u8 0, .int .u8 0, .int .u8 0, .int .u8 0, .int .u8 0, .int .u8 0, .int .u8 0, .int .u8 0, .int .u8 0, .int .u8 0, .int .u8 0, .int .u8 0, .int .u8 0, .int .u8 0] 65 72 true := tyOk (by kernel_rfl)
theorem fl93_0 : fieldOf Try.prog 93 0 = some (0, 3) := by kernel_rfl
theorem fl93_1 : fieldOf Try.prog 93 1 = some (1, 87) := by kernel_rfl
theorem ty94 : TyOk Try.prog 94 [.nilFunc] 1 8 false := tyOk (by kernel_rfl)
theorem ty95 : TyOk Try.prog 95 [.nilFunc] 1 8 false := tyOk (by kernel_rfl)
theorem ty96 : TyOk Try.prog 96 [.nilFunc] 1 8 false := tyOk (by kernel_rfl)
theorem ty97 : TyOk Try.prog 97 [.nilFunc] 1 8 false := tyOk (by kernel_rfl)
theorem ty98 : TyOk Try.prog 98 [.nilFunc] 1 8 false := tyOk (by kernel_rfl)
theorem ty99 : TyOk Try.prog 99 [.nilFunc] 1 8 false := tyOk (by kernel_rfl)
theorem ty105 : TyOk Try.prog 105 [.int .u32 0] 1 4 false := tyOk (by kernel_rfl)
theorem ty108 : TyOk Try.prog 108 [.nilFunc] 1 8 false := tyOk (by kernel_rfl)
theorem ty109 : TyOk Try.prog 109 [.pointer none] 1 8 false := tyOk (by kernel_rfl)
theorem ty114 : TyOk Try.prog 114 [.pointer none] 1 8 false := tyOk (by kernel_rfl)
theorem gf3 : goFn Try.prog 3 = true := by kernel_rfl
theorem gf4 : goFn Try.prog 4 = true := by kernel_rfl
theorem gf5 : goFn Try.prog 5 = true := by kernel_rfl
theorem gf6 : goFn Try.prog 6 = true := by kernel_rfl
theorem gf7 : goFn Try.prog 7 = true := by kernel_rfl
theorem gf8 : goFn Try.prog 8 = true := by kernel_rfl
theorem gf9 : goFn Try.prog 9 = true := by kernel_rfl
theorem gf10 : goFn Try.prog 10 = true := by kernel_rfl
theorem gf11 : goFn Try.prog 11 = true := by kernel_rfl
theorem gf12 : goFn Try.prog 12 = true := by kernel_rfl
theorem gf13 : goFn Try.prog 13 = true := by kernel_rfl
theorem gf14 : goFn Try.prog 14 = true := by kernel_rfl
theorem gf15 : goFn Try.prog 15 = true := by kernel_rfl
theorem gf16 : goFn Try.prog 16 = true := by kernel_rfl
theorem gf17 : goFn Try.prog 17 = true := by kernel_rfl
theorem gf18 : goFn Try.prog 18 = true := by kernel_rfl
theorem gf19 : goFn Try.prog 19 = true := by kernel_rfl
theorem gf20 : goFn Try.prog 20 = true := by kernel_rfl
theorem gf21 : goFn Try.prog 21 = true := by kernel_rfl
theorem gf22 : goFn Try.prog 22 = true := by kernel_rfl
theorem gf23 : goFn Try.prog 23 = true := by kernel_rfl
theorem gf24 : goFn Try.prog 24 = true := by kernel_rfl
theorem gf25 : goFn Try.prog 25 = true := by kernel_rfl
theorem gf26 : goFn Try.prog 26 = true := by kernel_rfl
theorem gf27 : goFn Try.prog 27 = true := by kernel_rfl
theorem gf28 : goFn Try.prog 28 = true := by kernel_rfl
theorem gf29 : goFn Try.prog 29 = true := by kernel_rfl
theorem gf30 : goFn Try.prog 30 = true := by kernel_rfl
theorem gf31 : goFn Try.prog 31 = true := by kernel_rfl
theorem gf32 : goFn Try.prog 32 = true := by kernel_rfl
theorem gf33 : goFn Try.prog 33 = true := by kernel_rfl
theorem gf34 : goFn Try.prog 34 = true := by kernel_rfl
theorem gf35 : goFn Try.prog 35 = true := by kernel_rfl
theorem gf36 : goFn Try.prog 36 = true := by kernel_rfl
theorem gf37 : goFn Try.prog 37 = true := by kernel_rfl
theorem gf38 : goFn Try.prog 38 = true := by kernel_rfl
theorem gf39 : goFn Try.prog 39 = true := by kernel_rfl
theorem gf40 : goFn Try.prog 40 = true := by kernel_rfl
theorem gf41 : goFn Try.prog 41 = true := by kernel_rfl
theorem gf42 : goFn Try.prog 42 = true := by kernel_rfl
theorem gf43 : goFn Try.prog 43 = true := by kernel_rfl
theorem gf44 : goFn Try.prog 44 = true := by kernel_rfl
theorem gf45 : goFn Try.prog 45 = true := by kernel_rfl
theorem gf46 : goFn Try.prog 46 = true := by kernel_rfl
theorem gf47 : goFn Try.prog 47 = true := by kernel_rfl
theorem gf48 : goFn Try.prog 48 = true := by kernel_rfl
theorem gf49 : goFn Try.prog 49 = true := by kernel_rfl
theorem gf50 : goFn Try.prog 50 = true := by kernel_rfl
theorem gf51 : goFn Try.prog 51 = true := by kernel_rfl
theorem gf52 : goFn Try.prog 52 = true := by kernel_rfl
theorem gf53 : goFn Try.prog 53 = true := by kernel_rfl
theorem gf54 : goFn Try.prog 54 = true := by kernel_rfl
theorem gf55 : goFn Try.prog 55 = true := by kernel_rfl
theorem gf56 : goFn Try.prog 56 = true := by kernel_rfl
theorem gf57 : goFn Try.prog 57 = true := by kernel_rfl
theorem gf58 : goFn Try.prog 58 = true := by kernel_rfl
theorem gf59 : goFn Try.prog 59 = true := by kernel_rfl
theorem gf60 : goFn Try.prog 60 = true := by kernel_rfl
theorem gf61 : goFn Try.prog 61 = true := by kernel_rfl
theorem gf62 : goFn Try.prog 62 = true := by kernel_rfl
theorem gf63 : goFn Try.prog 63 = true := by kernel_rfl
theorem gf64 : goFn Try.prog 64 = true := by kernel_rfl
theorem gf65 : goFn Try.prog 65 = true := by kernel_rfl
theorem gf66 : goFn Try.prog 66 = true := by kernel_rfl
theorem mixed : Try.prog.follows .mixedOrders = true := by kernel_rfl
end Go.Proofs.Ytgkciibfpenjpaa

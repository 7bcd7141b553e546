/- The types of this seat, each a closed fact. Printed by wip/gen/types.py. -/
import Derived.Test.YtbninklfoogmdaaFun
namespace Go.Proofs.Ytbninklfoogmdaa
open Go
theorem ty1 : TyOk Try.prog 1 [.nilFunc] 1 8 false := tyOk (by kernel_rfl)
theorem ty2 : TyOk Try.prog 2 [.int .i64 0] 1 8 false := tyOk (by kernel_rfl)
theorem ty3 : TyOk Try.prog 3 [.int .i64 0] 1 8 false := tyOk (by kernel_rfl)
theorem ty4 : TyOk Try.prog 4 [.bool false] 1 1 false := tyOk (by kernel_rfl)
theorem ty5 : TyOk Try.prog 5 [.int .u8 0] 1 1 false := tyOk (by kernel_rfl)
theorem ty9 : TyOk Try.prog 9 [.string .empty] 1 16 false := tyOk (by kernel_rfl)
theorem ty12 : TyOk Try.prog 12 [.int .u64 0] 1 8 false := tyOk (by kernel_rfl)
theorem ty13 : TyOk Try.prog 13 [.string .empty, .int .u64 0] 2 24 true := tyOk (by kernel_rfl)
theorem fl13_0 : fieldOf Try.prog 13 0 = some (0, 9) := by kernel_rfl
theorem fl13_1 : fieldOf Try.prog 13 1 = some (1, 12) := by kernel_rfl
theorem ty20 : TyOk Try.prog 20 [.nilIface] 1 16 false := tyOk (by kernel_rfl)
theorem ty21 : TyOk Try.prog 21 [.int .i32 0] 1 4 false := tyOk (by kernel_rfl)
theorem ty22 : TyOk Try.prog 22 [.slice none 0 0] 1 24 false := tyOk (by kernel_rfl)
theorem ty23 : TyOk Try.prog 23 [.nilFunc] 1 8 false := tyOk (by kernel_rfl)
theorem ty24 : TyOk Try.prog 24 [.slice none 0 0] 1 24 false := tyOk (by kernel_rfl)
theorem ty25 : TyOk Try.prog 25 [.slice none 0 0] 1 24 false := tyOk (by kernel_rfl)
theorem ty26 : TyOk Try.prog 26 [.slice none 0 0] 1 24 false := tyOk (by kernel_rfl)
theorem ty27 : TyOk Try.prog 27 [.slice none 0 0, .slice none 0 0, .slice none 0 0] 3 72 true := tyOk (by kernel_rfl)
theorem fl27_0 : fieldOf Try.prog 27 0 = some (0, 24) := by kernel_rfl
theorem fl27_1 : fieldOf Try.prog 27 1 = some (1, 25) := by kernel_rfl
theorem fl27_2 : fieldOf Try.prog 27 2 = some (2, 26) := by kernel_rfl
theorem ty28 : TyOk Try.prog 28 [.slice none 0 0, .slice none 0 0, .slice none 0 0] 3 72 true := tyOk (by kernel_rfl)
theorem fl28_0 : fieldOf Try.prog 28 0 = some (0, 24) := by kernel_rfl
theorem fl28_1 : fieldOf Try.prog 28 1 = some (1, 25) := by kernel_rfl
theorem fl28_2 : fieldOf Try.prog 28 2 = some (2, 26) := by kernel_rfl
theorem ty29 : TyOk Try.prog 29 [.int .i64 0] 1 8 false := tyOk (by kernel_rfl)
theorem ty31 : TyOk Try.prog 31 [.nilFunc] 1 8 false := tyOk (by kernel_rfl)
theorem ty32 : TyOk Try.prog 32 [.nilFunc] 1 8 false := tyOk (by kernel_rfl)
theorem ty33 : TyOk Try.prog 33 [.int .i64 0, .int .i64 0] 2 16 true := tyOk (by kernel_rfl)
theorem fl33_0 : fieldOf Try.prog 33 0 = some (0, 3) := by kernel_rfl
theorem fl33_1 : fieldOf Try.prog 33 1 = some (1, 3) := by kernel_rfl
theorem ty34 : TyOk Try.prog 34 [.int .i64 0, .int .i64 0] 2 16 true := tyOk (by kernel_rfl)
theorem fl34_0 : fieldOf Try.prog 34 0 = some (0, 3) := by kernel_rfl
theorem fl34_1 : fieldOf Try.prog 34 1 = some (1, 3) := by kernel_rfl
theorem ty35 : TyOk Try.prog 35 [.slice none 0 0] 1 24 false := tyOk (by kernel_rfl)
theorem ty36 : TyOk Try.prog 36 [.slice none 0 0] 1 24 false := tyOk (by kernel_rfl)
theorem ty37 : TyOk Try.prog 37 [.slice none 0 0] 1 24 false := tyOk (by kernel_rfl)
theorem ty38 : TyOk Try.prog 38 [.int .i64 0, .int .i64 0, .slice none 0 0, .int .i64 0, .slice none 0 0, .slice none 0 0] 6 96 true := tyOk (by kernel_rfl)
theorem fl38_0 : fieldOf Try.prog 38 0 = some (0, 34) := by kernel_rfl
theorem fl38_1 : fieldOf Try.prog 38 1 = some (2, 35) := by kernel_rfl
theorem fl38_2 : fieldOf Try.prog 38 2 = some (3, 3) := by kernel_rfl
theorem fl38_3 : fieldOf Try.prog 38 3 = some (4, 36) := by kernel_rfl
theorem fl38_4 : fieldOf Try.prog 38 4 = some (5, 37) := by kernel_rfl
theorem ty39 : TyOk Try.prog 39 [.int .i64 0, .int .i64 0, .slice none 0 0, .int .i64 0, .slice none 0 0, .slice none 0 0] 6 96 true := tyOk (by kernel_rfl)
theorem fl39_0 : fieldOf Try.prog 39 0 = some (0, 34) := by kernel_rfl
theorem fl39_1 : fieldOf Try.prog 39 1 = some (2, 35) := by kernel_rfl
theorem fl39_2 : fieldOf Try.prog 39 2 = some (3, 3) := by kernel_rfl
theorem fl39_3 : fieldOf Try.prog 39 3 = some (4, 36) := by kernel_rfl
theorem fl39_4 : fieldOf Try.prog 39 4 = some (5, 37) := by kernel_rfl
theorem ty40 : TyOk Try.prog 40 [.int .i64 0, .int .i64 0, .int .i64 0, .slice none 0 0] 4 48 true := tyOk (by kernel_rfl)
theorem fl40_0 : fieldOf Try.prog 40 0 = some (0, 3) := by kernel_rfl
theorem fl40_1 : fieldOf Try.prog 40 1 = some (1, 34) := by kernel_rfl
theorem fl40_2 : fieldOf Try.prog 40 2 = some (3, 36) := by kernel_rfl
theorem ty41 : TyOk Try.prog 41 [.int .i64 0, .int .i64 0, .int .i64 0, .slice none 0 0] 4 48 true := tyOk (by kernel_rfl)
theorem fl41_0 : fieldOf Try.prog 41 0 = some (0, 3) := by kernel_rfl
theorem fl41_1 : fieldOf Try.prog 41 1 = some (1, 34) := by kernel_rfl
theorem fl41_2 : fieldOf Try.prog 41 2 = some (3, 36) := by kernel_rfl
theorem ty42 : TyOk Try.prog 42 [.nilFunc] 1 8 false := tyOk (by kernel_rfl)
theorem ty43 : TyOk Try.prog 43 [.int .i64 0, .slice none 0 0] 2 32 true := tyOk (by kernel_rfl)
theorem fl43_0 : fieldOf Try.prog 43 0 = some (0, 3) := by kernel_rfl
theorem fl43_1 : fieldOf Try.prog 43 1 = some (1, 36) := by kernel_rfl
theorem ty44 : TyOk Try.prog 44 [.int .i64 0, .slice none 0 0] 2 32 true := tyOk (by kernel_rfl)
theorem fl44_0 : fieldOf Try.prog 44 0 = some (0, 3) := by kernel_rfl
theorem fl44_1 : fieldOf Try.prog 44 1 = some (1, 36) := by kernel_rfl
theorem ty45 : TyOk Try.prog 45 [.int .i64 0, .string .empty, .int .i64 0, .int .i64 0] 4 40 true := tyOk (by kernel_rfl)
theorem fl45_0 : fieldOf Try.prog 45 0 = some (0, 3) := by kernel_rfl
theorem fl45_1 : fieldOf Try.prog 45 1 = some (1, 9) := by kernel_rfl
theorem fl45_2 : fieldOf Try.prog 45 2 = some (2, 3) := by kernel_rfl
theorem fl45_3 : fieldOf Try.prog 45 3 = some (3, 3) := by kernel_rfl
theorem ty46 : TyOk Try.prog 46 [.int .i64 0, .string .empty, .int .i64 0, .int .i64 0] 4 40 true := tyOk (by kernel_rfl)
theorem fl46_0 : fieldOf Try.prog 46 0 = some (0, 3) := by kernel_rfl
theorem fl46_1 : fieldOf Try.prog 46 1 = some (1, 9) := by kernel_rfl
theorem fl46_2 : fieldOf Try.prog 46 2 = some (2, 3) := by kernel_rfl
theorem fl46_3 : fieldOf Try.prog 46 3 = some (3, 3) := by kernel_rfl
theorem ty47 : TyOk Try.prog 47 [.int .i64 0, .int .i64 0, .int .i64 0, .int .i64 0, .int .i64 0, .int .i64 0, .int .i64 0, .slice none 0 0, .int .i64 0, .slice none 0 0, .int .i64 0, .string .empty, .int .i64 0, .int .i64 0, .int .i64 0, .int .i64 0] 16 168 true := tyOk (by kernel_rfl)
theorem fl47_0 : fieldOf Try.prog 47 0 = some (0, 3) := by kernel_rfl
theorem fl47_1 : fieldOf Try.prog 47 1 = some (1, 3) := by kernel_rfl
theorem fl47_2 : fieldOf Try.prog 47 2 = some (2, 34) := by kernel_rfl
theorem fl47_3 : fieldOf Try.prog 47 3 = some (4, 41) := by kernel_rfl
theorem fl47_4 : fieldOf Try.prog 47 4 = some (8, 44) := by kernel_rfl
theorem fl47_5 : fieldOf Try.prog 47 5 = some (10, 46) := by kernel_rfl
theorem fl47_6 : fieldOf Try.prog 47 6 = some (14, 3) := by kernel_rfl
theorem fl47_7 : fieldOf Try.prog 47 7 = some (15, 3) := by kernel_rfl
theorem ty48 : TyOk Try.prog 48 [.int .i64 0, .int .i64 0, .int .i64 0, .int .i64 0, .int .i64 0, .int .i64 0, .int .i64 0, .slice none 0 0, .int .i64 0, .slice none 0 0, .int .i64 0, .string .empty, .int .i64 0, .int .i64 0, .int .i64 0, .int .i64 0] 16 168 true := tyOk (by kernel_rfl)
theorem fl48_0 : fieldOf Try.prog 48 0 = some (0, 3) := by kernel_rfl
theorem fl48_1 : fieldOf Try.prog 48 1 = some (1, 3) := by kernel_rfl
theorem fl48_2 : fieldOf Try.prog 48 2 = some (2, 34) := by kernel_rfl
theorem fl48_3 : fieldOf Try.prog 48 3 = some (4, 41) := by kernel_rfl
theorem fl48_4 : fieldOf Try.prog 48 4 = some (8, 44) := by kernel_rfl
theorem fl48_5 : fieldOf Try.prog 48 5 = some (10, 46) := by kernel_rfl
theorem fl48_6 : fieldOf Try.prog 48 6 = some (14, 3) := by kernel_rfl
theorem fl48_7 : fieldOf Try.prog 48 7 = some (15, 3) := by kernel_rfl
theorem ty49 : TyOk Try.prog 49 [.nilFunc] 1 8 false := tyOk (by kernel_rfl)
theorem ty50 : TyOk Try.prog 50 [.nilFunc] 1 8 false := tyOk (by kernel_rfl)
theorem ty51 : TyOk Try.prog 51 [.pointer none] 1 8 false := tyOk (by kernel_rfl)
theorem ty52 : TyOk Try.prog 52 [.nilFunc] 1 8 false := tyOk (by kernel_rfl)
theorem ty53 : TyOk Try.prog 53 [.nilFunc] 1 8 false := tyOk (by kernel_rfl)
theorem ty54 : TyOk Try.prog 54 [.pointer none] 1 8 false := tyOk (by kernel_rfl)
theorem ty55 : TyOk Try.prog 55 [.nilFunc] 1 8 false := tyOk (by kernel_rfl)
theorem ty56 : TyOk Try.prog 56 [.nilFunc] 1 8 false := tyOk (by kernel_rfl)
theorem ty58 : TyOk Try.prog 58 [.nilFunc] 1 8 false := tyOk (by kernel_rfl)
theorem ty59 : TyOk Try.prog 59 [.int .i64 0, .int .i64 0, .int .i64 0, .int .i64 0] 4 32 true := tyOk (by kernel_rfl)
theorem fl59_0 : fieldOf Try.prog 59 0 = some (0, 29) := by kernel_rfl
theorem fl59_1 : fieldOf Try.prog 59 1 = some (1, 3) := by kernel_rfl
theorem fl59_2 : fieldOf Try.prog 59 2 = some (2, 3) := by kernel_rfl
theorem fl59_3 : fieldOf Try.prog 59 3 = some (3, 3) := by kernel_rfl
theorem ty60 : TyOk Try.prog 60 [.int .i64 0, .int .i64 0, .int .i64 0, .int .i64 0] 4 32 true := tyOk (by kernel_rfl)
theorem fl60_0 : fieldOf Try.prog 60 0 = some (0, 29) := by kernel_rfl
theorem fl60_1 : fieldOf Try.prog 60 1 = some (1, 3) := by kernel_rfl
theorem fl60_2 : fieldOf Try.prog 60 2 = some (2, 3) := by kernel_rfl
theorem fl60_3 : fieldOf Try.prog 60 3 = some (3, 3) := by kernel_rfl
theorem ty61 : TyOk Try.prog 61 [.int .i64 0, .int .i64 0, .bool false, .int .i64 0, .int .i64 0, .int .i64 0, .int .i64 0] 7 56 true := tyOk (by kernel_rfl)
theorem fl61_0 : fieldOf Try.prog 61 0 = some (0, 3) := by kernel_rfl
theorem fl61_1 : fieldOf Try.prog 61 1 = some (1, 3) := by kernel_rfl
theorem fl61_2 : fieldOf Try.prog 61 2 = some (2, 4) := by kernel_rfl
theorem fl61_3 : fieldOf Try.prog 61 3 = some (3, 60) := by kernel_rfl
theorem ty62 : TyOk Try.prog 62 [.int .i64 0, .int .i64 0, .bool false, .int .i64 0, .int .i64 0, .int .i64 0, .int .i64 0] 7 56 true := tyOk (by kernel_rfl)
theorem fl62_0 : fieldOf Try.prog 62 0 = some (0, 3) := by kernel_rfl
theorem fl62_1 : fieldOf Try.prog 62 1 = some (1, 3) := by kernel_rfl
theorem fl62_2 : fieldOf Try.prog 62 2 = some (2, 4) := by kernel_rfl
theorem fl62_3 : fieldOf Try.prog 62 3 = some (3, 60) := by kernel_rfl
theorem ty64 : TyOk Try.prog 64 [.nilFunc] 1 8 false := tyOk (by kernel_rfl)
theorem ty65 : TyOk Try.prog 65 [.nilFunc] 1 8 false := tyOk (by kernel_rfl)
theorem ty66 : TyOk Try.prog 66 [.nilFunc] 1 8 false := tyOk (by kernel_rfl)
theorem ty67 : TyOk Try.prog 67 [.nilFunc] 1 8 false := tyOk (by kernel_rfl)
theorem ty68 : TyOk Try.prog 68 [.nilFunc] 1 8 false := tyOk (by kernel_rfl)
theorem ty69 : TyOk Try.prog 69 [.nilFunc, .nilFunc, .nilFunc, .nilFunc, .nilFunc] 5 40 true := tyOk (by kernel_rfl)
theorem ty70 : TyOk Try.prog 70 [.pointer none] 1 8 false := tyOk (by kernel_rfl)
theorem ty72 : TyOk Try.prog 72 [.nilFunc] 1 8 false := tyOk (by kernel_rfl)
theorem ty73 : TyOk Try.prog 73 [.nilFunc] 1 8 false := tyOk (by kernel_rfl)
theorem ty74 : TyOk Try.prog 74 [.nilFunc] 1 8 false := tyOk (by kernel_rfl)
theorem ty75 : TyOk Try.prog 75 [.nilFunc] 1 8 false := tyOk (by kernel_rfl)
theorem ty77 : TyOk Try.prog 77 [.nilFunc] 1 8 false := tyOk (by kernel_rfl)
theorem ty78 : TyOk Try.prog 78 [.nilFunc] 1 8 false := tyOk (by kernel_rfl)
theorem ty79 : TyOk Try.prog 79 [.nilFunc] 1 8 false := tyOk (by kernel_rfl)
theorem ty80 : TyOk Try.prog 80 [.nilFunc] 1 8 false := tyOk (by kernel_rfl)
theorem ty81 : TyOk Try.prog 81 [.nilFunc] 1 8 false := tyOk (by kernel_rfl)
theorem ty82 : TyOk Try.prog 82 [.nilFunc] 1 8 false := tyOk (by kernel_rfl)
theorem ty83 : TyOk Try.prog 83 [.nilFunc] 1 8 false := tyOk (by kernel_rfl)
theorem ty84 : TyOk Try.prog 84 [.nilFunc] 1 8 false := tyOk (by kernel_rfl)
theorem ty85 : TyOk Try.prog 85 [.nilFunc] 1 8 false := tyOk (by kernel_rfl)
theorem ty86 : TyOk Try.prog 86 [.nilFunc] 1 8 false := tyOk (by kernel_rfl)
theorem ty87 : TyOk Try.prog 87 [.nilFunc] 1 8 false := tyOk (by kernel_rfl)
theorem ty88 : TyOk Try.prog 88 [.nilFunc] 1 8 false := tyOk (by kernel_rfl)
theorem ty89 : TyOk Try.prog 89 [.nilFunc] 1 8 false := tyOk (by kernel_rfl)
theorem ty90 : TyOk Try.prog 90 [.nilFunc] 1 8 false := tyOk (by kernel_rfl)
theorem ty91 : TyOk Try.prog 91 [.nilFunc] 1 8 false := tyOk (by kernel_rfl)
theorem ty92 : TyOk Try.prog 92 [.nilFunc] 1 8 false := tyOk (by kernel_rfl)
theorem ty93 : TyOk Try.prog 93 [.nilFunc] 1 8 false := tyOk (by kernel_rfl)
theorem ty94 : TyOk Try.prog 94 [.nilFunc] 1 8 false := tyOk (by kernel_rfl)
theorem ty95 : TyOk Try.prog 95 [.nilFunc] 1 8 false := tyOk (by kernel_rfl)
theorem ty96 : TyOk Try.prog 96 [.nilFunc] 1 8 false := tyOk (by kernel_rfl)
theorem ty97 : TyOk Try.prog 97 [.nilFunc] 1 8 false := tyOk (by kernel_rfl)
theorem ty98 : TyOk Try.prog 98 [.nilFunc] 1 8 false := tyOk (by kernel_rfl)
theorem ty99 : TyOk Try.prog 99 [.int .u64 0] 1 8 false := tyOk (by kernel_rfl)
theorem ty100 : TyOk Try.prog 100 [.nilFunc] 1 8 false := tyOk (by kernel_rfl)
theorem ty101 : TyOk Try.prog 101 [.nilFunc] 1 8 false := tyOk (by kernel_rfl)
theorem ty102 : TyOk Try.prog 102 [.nilFunc] 1 8 false := tyOk (by kernel_rfl)
theorem ty103 : TyOk Try.prog 103 [.nilFunc] 1 8 false := tyOk (by kernel_rfl)
theorem ty104 : TyOk Try.prog 104 [.nilFunc] 1 8 false := tyOk (by kernel_rfl)
theorem ty105 : TyOk Try.prog 105 [.nilFunc] 1 8 false := tyOk (by kernel_rfl)
theorem ty106 : TyOk Try.prog 106 [.nilFunc] 1 8 false := tyOk (by kernel_rfl)
theorem ty107 : TyOk Try.prog 107 [.nilFunc] 1 8 false := tyOk (by kernel_rfl)
theorem ty108 : TyOk Try.prog 108 [.nilFunc] 1 8 false := tyOk (by kernel_rfl)
theorem ty109 : TyOk Try.prog 109 [.nilFunc] 1 8 false := tyOk (by kernel_rfl)
theorem ty110 : TyOk Try.prog 110 [.nilFunc] 1 8 false := tyOk (by kernel_rfl)
theorem ty111 : TyOk Try.prog 111 [.map none] 1 8 false := tyOk (by kernel_rfl)
theorem ty112 : TyOk Try.prog 112 [.int .i64 0, .int .i64 0, .int .i64 0, .map none] 4 32 true := tyOk (by kernel_rfl)
theorem fl112_0 : fieldOf Try.prog 112 0 = some (0, 34) := by kernel_rfl
theorem fl112_1 : fieldOf Try.prog 112 1 = some (2, 3) := by kernel_rfl
theorem fl112_2 : fieldOf Try.prog 112 2 = some (3, 111) := by kernel_rfl
theorem ty113 : TyOk Try.prog 113 [.int .i64 0, .int .i64 0, .int .i64 0, .map none] 4 32 true := tyOk (by kernel_rfl)
theorem fl113_0 : fieldOf Try.prog 113 0 = some (0, 34) := by kernel_rfl
theorem fl113_1 : fieldOf Try.prog 113 1 = some (2, 3) := by kernel_rfl
theorem fl113_2 : fieldOf Try.prog 113 2 = some (3, 111) := by kernel_rfl
theorem ty114 : TyOk Try.prog 114 [.nilFunc] 1 8 false := tyOk (by kernel_rfl)
theorem ty115 : TyOk Try.prog 115 [.nilFunc] 1 8 false := tyOk (by kernel_rfl)
theorem ty116 : TyOk Try.prog 116 [.nilFunc] 1 8 false := tyOk (by kernel_rfl)
theorem ty117 : TyOk Try.prog 117 [.nilFunc] 1 8 false := tyOk (by kernel_rfl)
theorem ty118 : TyOk Try.prog 118 [.nilFunc] 1 8 false := tyOk (by kernel_rfl)
theorem ty119 : TyOk Try.prog 119 [.nilFunc] 1 8 false := tyOk (by kernel_rfl)
theorem ty125 : TyOk Try.prog 125 [.nilFunc] 1 8 false := tyOk (by kernel_rfl)
theorem ty126 : TyOk Try.prog 126 [.int .u32 0] 1 4 false := tyOk (by kernel_rfl)
theorem ty129 : TyOk Try.prog 129 [.nilFunc] 1 8 false := tyOk (by kernel_rfl)
theorem ty130 : TyOk Try.prog 130 [.pointer none] 1 8 false := tyOk (by kernel_rfl)
theorem ty135 : TyOk Try.prog 135 [.pointer none] 1 8 false := tyOk (by kernel_rfl)
theorem gf3 : goFn Try.prog 3 = true := by kernel_rfl
theorem gf4 : goFn Try.prog 4 = true := by kernel_rfl
theorem gf5 : goFn Try.prog 5 = true := by kernel_rfl
theorem gf6 : goFn Try.prog 6 = true := by kernel_rfl
theorem gf7 : goFn Try.prog 7 = true := by kernel_rfl
theorem gf8 : goFn Try.prog 8 = true := by kernel_rfl
theorem gf9 : goFn Try.prog 9 = true := by kernel_rfl
theorem gf10 : goFn Try.prog 10 = true := by kernel_rfl
theorem gf11 : goFn Try.prog 11 = true := by kernel_rfl
theorem gf12 : goFn Try.prog 12 = true := by kernel_rfl
theorem gf13 : goFn Try.prog 13 = true := by kernel_rfl
theorem gf14 : goFn Try.prog 14 = true := by kernel_rfl
theorem gf15 : goFn Try.prog 15 = true := by kernel_rfl
theorem gf16 : goFn Try.prog 16 = true := by kernel_rfl
theorem gf17 : goFn Try.prog 17 = true := by kernel_rfl
theorem gf18 : goFn Try.prog 18 = true := by kernel_rfl
theorem gf19 : goFn Try.prog 19 = true := by kernel_rfl
theorem gf20 : goFn Try.prog 20 = true := by kernel_rfl
theorem gf21 : goFn Try.prog 21 = true := by kernel_rfl
theorem gf22 : goFn Try.prog 22 = true := by kernel_rfl
theorem gf23 : goFn Try.prog 23 = true := by kernel_rfl
theorem gf24 : goFn Try.prog 24 = true := by kernel_rfl
theorem gf25 : goFn Try.prog 25 = true := by kernel_rfl
theorem gf26 : goFn Try.prog 26 = true := by kernel_rfl
theorem gf27 : goFn Try.prog 27 = true := by kernel_rfl
theorem gf28 : goFn Try.prog 28 = true := by kernel_rfl
theorem gf29 : goFn Try.prog 29 = true := by kernel_rfl
theorem gf30 : goFn Try.prog 30 = true := by kernel_rfl
theorem gf31 : goFn Try.prog 31 = true := by kernel_rfl
theorem gf32 : goFn Try.prog 32 = true := by kernel_rfl
theorem gf34 : goFn Try.prog 34 = true := by kernel_rfl
theorem gf35 : goFn Try.prog 35 = true := by kernel_rfl
theorem gf36 : goFn Try.prog 36 = true := by kernel_rfl
theorem gf37 : goFn Try.prog 37 = true := by kernel_rfl
theorem gf38 : goFn Try.prog 38 = true := by kernel_rfl
theorem gf39 : goFn Try.prog 39 = true := by kernel_rfl
theorem gf40 : goFn Try.prog 40 = true := by kernel_rfl
theorem gf41 : goFn Try.prog 41 = true := by kernel_rfl
theorem gf42 : goFn Try.prog 42 = true := by kernel_rfl
theorem gf43 : goFn Try.prog 43 = true := by kernel_rfl
theorem gf44 : goFn Try.prog 44 = true := by kernel_rfl
theorem gf45 : goFn Try.prog 45 = true := by kernel_rfl
theorem gf46 : goFn Try.prog 46 = true := by kernel_rfl
theorem gf47 : goFn Try.prog 47 = true := by kernel_rfl
theorem gf48 : goFn Try.prog 48 = true := by kernel_rfl
theorem gf49 : goFn Try.prog 49 = true := by kernel_rfl
theorem gf51 : goFn Try.prog 51 = true := by kernel_rfl
theorem gf52 : goFn Try.prog 52 = true := by kernel_rfl
theorem gf53 : goFn Try.prog 53 = true := by kernel_rfl
theorem gf54 : goFn Try.prog 54 = true := by kernel_rfl
theorem gf56 : goFn Try.prog 56 = true := by kernel_rfl
theorem gf57 : goFn Try.prog 57 = true := by kernel_rfl
theorem gf58 : goFn Try.prog 58 = true := by kernel_rfl
theorem gf59 : goFn Try.prog 59 = true := by kernel_rfl
theorem gf60 : goFn Try.prog 60 = true := by kernel_rfl
theorem gf61 : goFn Try.prog 61 = true := by kernel_rfl
theorem gf62 : goFn Try.prog 62 = true := by kernel_rfl
theorem gf63 : goFn Try.prog 63 = true := by kernel_rfl
theorem gf64 : goFn Try.prog 64 = true := by kernel_rfl
theorem gf65 : goFn Try.prog 65 = true := by kernel_rfl
theorem gf66 : goFn Try.prog 66 = true := by kernel_rfl
theorem gf67 : goFn Try.prog 67 = true := by kernel_rfl
theorem gf69 : goFn Try.prog 69 = true := by kernel_rfl
theorem gf70 : goFn Try.prog 70 = true := by kernel_rfl
theorem mixed : Try.prog.follows .mixedOrders = true := by kernel_rfl
end Go.Proofs.Ytbninklfoogmdaa

/- The types of this seat, each a closed fact. Printed by wip/gen/types.py. -/
import Derived.Test.YtbninklfoogmdaaGreatFun
namespace Go.Proofs.YtbninklfoogmdaaGreat
open Go
theorem ty1 : TyOk Tryz.prog 1 [.nilFunc] 1 8 false := tyOk (by kernel_rfl)
theorem ty2 : TyOk Tryz.prog 2 [.int .i64 0] 1 8 false := tyOk (by kernel_rfl)
theorem ty3 : TyOk Tryz.prog 3 [.int .i64 0] 1 8 false := tyOk (by kernel_rfl)
theorem ty4 : TyOk Tryz.prog 4 [.bool false] 1 1 false := tyOk (by kernel_rfl)
theorem ty5 : TyOk Tryz.prog 5 [.int .u8 0] 1 1 false := tyOk (by kernel_rfl)
theorem ty9 : TyOk Tryz.prog 9 [.string .empty] 1 16 false := tyOk (by kernel_rfl)
theorem ty12 : TyOk Tryz.prog 12 [.int .u64 0] 1 8 false := tyOk (by kernel_rfl)
theorem ty13 : TyOk Tryz.prog 13 [.string .empty, .int .u64 0] 2 24 true := tyOk (by kernel_rfl)
theorem fl13_0 : fieldOf Tryz.prog 13 0 = some (0, 9) := by kernel_rfl
theorem fl13_1 : fieldOf Tryz.prog 13 1 = some (1, 12) := by kernel_rfl
theorem ty20 : TyOk Tryz.prog 20 [.nilIface] 1 16 false := tyOk (by kernel_rfl)
theorem ty21 : TyOk Tryz.prog 21 [.int .i32 0] 1 4 false := tyOk (by kernel_rfl)
theorem ty22 : TyOk Tryz.prog 22 [.slice none 0 0] 1 24 false := tyOk (by kernel_rfl)
theorem ty23 : TyOk Tryz.prog 23 [.slice none 0 0] 1 24 false := tyOk (by kernel_rfl)
theorem ty24 : TyOk Tryz.prog 24 [.slice none 0 0] 1 24 false := tyOk (by kernel_rfl)
theorem ty25 : TyOk Tryz.prog 25 [.slice none 0 0] 1 24 false := tyOk (by kernel_rfl)
theorem ty26 : TyOk Tryz.prog 26 [.slice none 0 0, .slice none 0 0, .slice none 0 0] 3 72 true := tyOk (by kernel_rfl)
theorem fl26_0 : fieldOf Tryz.prog 26 0 = some (0, 23) := by kernel_rfl
theorem fl26_1 : fieldOf Tryz.prog 26 1 = some (1, 24) := by kernel_rfl
theorem fl26_2 : fieldOf Tryz.prog 26 2 = some (2, 25) := by kernel_rfl
theorem ty27 : TyOk Tryz.prog 27 [.slice none 0 0, .slice none 0 0, .slice none 0 0] 3 72 true := tyOk (by kernel_rfl)
theorem fl27_0 : fieldOf Tryz.prog 27 0 = some (0, 23) := by kernel_rfl
theorem fl27_1 : fieldOf Tryz.prog 27 1 = some (1, 24) := by kernel_rfl
theorem fl27_2 : fieldOf Tryz.prog 27 2 = some (2, 25) := by kernel_rfl
theorem ty28 : TyOk Tryz.prog 28 [.int .i64 0] 1 8 false := tyOk (by kernel_rfl)
theorem ty30 : TyOk Tryz.prog 30 [.nilFunc] 1 8 false := tyOk (by kernel_rfl)
theorem ty31 : TyOk Tryz.prog 31 [.nilFunc] 1 8 false := tyOk (by kernel_rfl)
theorem ty32 : TyOk Tryz.prog 32 [.nilFunc] 1 8 false := tyOk (by kernel_rfl)
theorem ty34 : TyOk Tryz.prog 34 [.nilFunc] 1 8 false := tyOk (by kernel_rfl)
theorem ty35 : TyOk Tryz.prog 35 [.int .i64 0, .int .i64 0] 2 16 true := tyOk (by kernel_rfl)
theorem fl35_0 : fieldOf Tryz.prog 35 0 = some (0, 3) := by kernel_rfl
theorem fl35_1 : fieldOf Tryz.prog 35 1 = some (1, 3) := by kernel_rfl
theorem ty36 : TyOk Tryz.prog 36 [.int .i64 0, .int .i64 0] 2 16 true := tyOk (by kernel_rfl)
theorem fl36_0 : fieldOf Tryz.prog 36 0 = some (0, 3) := by kernel_rfl
theorem fl36_1 : fieldOf Tryz.prog 36 1 = some (1, 3) := by kernel_rfl
theorem ty37 : TyOk Tryz.prog 37 [.slice none 0 0] 1 24 false := tyOk (by kernel_rfl)
theorem ty38 : TyOk Tryz.prog 38 [.int .i64 0, .int .i64 0, .int .i64 0, .slice none 0 0] 4 48 true := tyOk (by kernel_rfl)
theorem fl38_0 : fieldOf Tryz.prog 38 0 = some (0, 3) := by kernel_rfl
theorem fl38_1 : fieldOf Tryz.prog 38 1 = some (1, 36) := by kernel_rfl
theorem fl38_2 : fieldOf Tryz.prog 38 2 = some (3, 37) := by kernel_rfl
theorem ty39 : TyOk Tryz.prog 39 [.int .i64 0, .int .i64 0, .int .i64 0, .slice none 0 0] 4 48 true := tyOk (by kernel_rfl)
theorem fl39_0 : fieldOf Tryz.prog 39 0 = some (0, 3) := by kernel_rfl
theorem fl39_1 : fieldOf Tryz.prog 39 1 = some (1, 36) := by kernel_rfl
theorem fl39_2 : fieldOf Tryz.prog 39 2 = some (3, 37) := by kernel_rfl
theorem ty40 : TyOk Tryz.prog 40 [.int .i64 0, .slice none 0 0] 2 32 true := tyOk (by kernel_rfl)
theorem fl40_0 : fieldOf Tryz.prog 40 0 = some (0, 3) := by kernel_rfl
theorem fl40_1 : fieldOf Tryz.prog 40 1 = some (1, 37) := by kernel_rfl
theorem ty41 : TyOk Tryz.prog 41 [.int .i64 0, .slice none 0 0] 2 32 true := tyOk (by kernel_rfl)
theorem fl41_0 : fieldOf Tryz.prog 41 0 = some (0, 3) := by kernel_rfl
theorem fl41_1 : fieldOf Tryz.prog 41 1 = some (1, 37) := by kernel_rfl
theorem ty42 : TyOk Tryz.prog 42 [.int .i64 0, .string .empty, .int .i64 0, .int .i64 0] 4 40 true := tyOk (by kernel_rfl)
theorem fl42_0 : fieldOf Tryz.prog 42 0 = some (0, 3) := by kernel_rfl
theorem fl42_1 : fieldOf Tryz.prog 42 1 = some (1, 9) := by kernel_rfl
theorem fl42_2 : fieldOf Tryz.prog 42 2 = some (2, 3) := by kernel_rfl
theorem fl42_3 : fieldOf Tryz.prog 42 3 = some (3, 3) := by kernel_rfl
theorem ty43 : TyOk Tryz.prog 43 [.int .i64 0, .string .empty, .int .i64 0, .int .i64 0] 4 40 true := tyOk (by kernel_rfl)
theorem fl43_0 : fieldOf Tryz.prog 43 0 = some (0, 3) := by kernel_rfl
theorem fl43_1 : fieldOf Tryz.prog 43 1 = some (1, 9) := by kernel_rfl
theorem fl43_2 : fieldOf Tryz.prog 43 2 = some (2, 3) := by kernel_rfl
theorem fl43_3 : fieldOf Tryz.prog 43 3 = some (3, 3) := by kernel_rfl
theorem ty44 : TyOk Tryz.prog 44 [.int .i64 0, .int .i64 0, .int .i64 0, .int .i64 0, .int .i64 0, .int .i64 0, .int .i64 0, .slice none 0 0, .int .i64 0, .slice none 0 0, .int .i64 0, .string .empty, .int .i64 0, .int .i64 0, .int .i64 0, .int .i64 0] 16 168 true := tyOk (by kernel_rfl)
theorem fl44_0 : fieldOf Tryz.prog 44 0 = some (0, 3) := by kernel_rfl
theorem fl44_1 : fieldOf Tryz.prog 44 1 = some (1, 3) := by kernel_rfl
theorem fl44_2 : fieldOf Tryz.prog 44 2 = some (2, 36) := by kernel_rfl
theorem fl44_3 : fieldOf Tryz.prog 44 3 = some (4, 39) := by kernel_rfl
theorem fl44_4 : fieldOf Tryz.prog 44 4 = some (8, 41) := by kernel_rfl
theorem fl44_5 : fieldOf Tryz.prog 44 5 = some (10, 43) := by kernel_rfl
theorem fl44_6 : fieldOf Tryz.prog 44 6 = some (14, 3) := by kernel_rfl
theorem fl44_7 : fieldOf Tryz.prog 44 7 = some (15, 3) := by kernel_rfl
theorem ty45 : TyOk Tryz.prog 45 [.int .i64 0, .int .i64 0, .int .i64 0, .int .i64 0, .int .i64 0, .int .i64 0, .int .i64 0, .slice none 0 0, .int .i64 0, .slice none 0 0, .int .i64 0, .string .empty, .int .i64 0, .int .i64 0, .int .i64 0, .int .i64 0] 16 168 true := tyOk (by kernel_rfl)
theorem fl45_0 : fieldOf Tryz.prog 45 0 = some (0, 3) := by kernel_rfl
theorem fl45_1 : fieldOf Tryz.prog 45 1 = some (1, 3) := by kernel_rfl
theorem fl45_2 : fieldOf Tryz.prog 45 2 = some (2, 36) := by kernel_rfl
theorem fl45_3 : fieldOf Tryz.prog 45 3 = some (4, 39) := by kernel_rfl
theorem fl45_4 : fieldOf Tryz.prog 45 4 = some (8, 41) := by kernel_rfl
theorem fl45_5 : fieldOf Tryz.prog 45 5 = some (10, 43) := by kernel_rfl
theorem fl45_6 : fieldOf Tryz.prog 45 6 = some (14, 3) := by kernel_rfl
theorem fl45_7 : fieldOf Tryz.prog 45 7 = some (15, 3) := by kernel_rfl
theorem ty46 : TyOk Tryz.prog 46 [.nilFunc] 1 8 false := tyOk (by kernel_rfl)
theorem ty47 : TyOk Tryz.prog 47 [.nilFunc] 1 8 false := tyOk (by kernel_rfl)
theorem ty48 : TyOk Tryz.prog 48 [.nilFunc] 1 8 false := tyOk (by kernel_rfl)
theorem ty49 : TyOk Tryz.prog 49 [.nilFunc] 1 8 false := tyOk (by kernel_rfl)
theorem ty50 : TyOk Tryz.prog 50 [.nilFunc] 1 8 false := tyOk (by kernel_rfl)
theorem ty51 : TyOk Tryz.prog 51 [.nilFunc] 1 8 false := tyOk (by kernel_rfl)
theorem ty52 : TyOk Tryz.prog 52 [.nilFunc] 1 8 false := tyOk (by kernel_rfl)
theorem ty53 : TyOk Tryz.prog 53 [.pointer none] 1 8 false := tyOk (by kernel_rfl)
theorem ty54 : TyOk Tryz.prog 54 [.slice none 0 0] 1 24 false := tyOk (by kernel_rfl)
theorem ty55 : TyOk Tryz.prog 55 [.slice none 0 0] 1 24 false := tyOk (by kernel_rfl)
theorem ty56 : TyOk Tryz.prog 56 [.int .i64 0, .int .i64 0, .slice none 0 0, .int .i64 0, .slice none 0 0, .slice none 0 0] 6 96 true := tyOk (by kernel_rfl)
theorem fl56_0 : fieldOf Tryz.prog 56 0 = some (0, 36) := by kernel_rfl
theorem fl56_1 : fieldOf Tryz.prog 56 1 = some (2, 54) := by kernel_rfl
theorem fl56_2 : fieldOf Tryz.prog 56 2 = some (3, 3) := by kernel_rfl
theorem fl56_3 : fieldOf Tryz.prog 56 3 = some (4, 37) := by kernel_rfl
theorem fl56_4 : fieldOf Tryz.prog 56 4 = some (5, 55) := by kernel_rfl
theorem ty57 : TyOk Tryz.prog 57 [.int .i64 0, .int .i64 0, .slice none 0 0, .int .i64 0, .slice none 0 0, .slice none 0 0] 6 96 true := tyOk (by kernel_rfl)
theorem fl57_0 : fieldOf Tryz.prog 57 0 = some (0, 36) := by kernel_rfl
theorem fl57_1 : fieldOf Tryz.prog 57 1 = some (2, 54) := by kernel_rfl
theorem fl57_2 : fieldOf Tryz.prog 57 2 = some (3, 3) := by kernel_rfl
theorem fl57_3 : fieldOf Tryz.prog 57 3 = some (4, 37) := by kernel_rfl
theorem fl57_4 : fieldOf Tryz.prog 57 4 = some (5, 55) := by kernel_rfl
theorem ty59 : TyOk Tryz.prog 59 [.nilFunc] 1 8 false := tyOk (by kernel_rfl)
theorem ty60 : TyOk Tryz.prog 60 [.int .i64 0, .int .i64 0, .int .i64 0, .int .i64 0] 4 32 true := tyOk (by kernel_rfl)
theorem fl60_0 : fieldOf Tryz.prog 60 0 = some (0, 28) := by kernel_rfl
theorem fl60_1 : fieldOf Tryz.prog 60 1 = some (1, 3) := by kernel_rfl
theorem fl60_2 : fieldOf Tryz.prog 60 2 = some (2, 3) := by kernel_rfl
theorem fl60_3 : fieldOf Tryz.prog 60 3 = some (3, 3) := by kernel_rfl
theorem ty61 : TyOk Tryz.prog 61 [.int .i64 0, .int .i64 0, .int .i64 0, .int .i64 0] 4 32 true := tyOk (by kernel_rfl)
theorem fl61_0 : fieldOf Tryz.prog 61 0 = some (0, 28) := by kernel_rfl
theorem fl61_1 : fieldOf Tryz.prog 61 1 = some (1, 3) := by kernel_rfl
theorem fl61_2 : fieldOf Tryz.prog 61 2 = some (2, 3) := by kernel_rfl
theorem fl61_3 : fieldOf Tryz.prog 61 3 = some (3, 3) := by kernel_rfl
theorem ty62 : TyOk Tryz.prog 62 [.int .i64 0, .int .i64 0, .bool false, .int .i64 0, .int .i64 0, .int .i64 0, .int .i64 0] 7 56 true := tyOk (by kernel_rfl)
theorem fl62_0 : fieldOf Tryz.prog 62 0 = some (0, 3) := by kernel_rfl
theorem fl62_1 : fieldOf Tryz.prog 62 1 = some (1, 3) := by kernel_rfl
theorem fl62_2 : fieldOf Tryz.prog 62 2 = some (2, 4) := by kernel_rfl
theorem fl62_3 : fieldOf Tryz.prog 62 3 = some (3, 61) := by kernel_rfl
theorem ty63 : TyOk Tryz.prog 63 [.int .i64 0, .int .i64 0, .bool false, .int .i64 0, .int .i64 0, .int .i64 0, .int .i64 0] 7 56 true := tyOk (by kernel_rfl)
theorem fl63_0 : fieldOf Tryz.prog 63 0 = some (0, 3) := by kernel_rfl
theorem fl63_1 : fieldOf Tryz.prog 63 1 = some (1, 3) := by kernel_rfl
theorem fl63_2 : fieldOf Tryz.prog 63 2 = some (2, 4) := by kernel_rfl
theorem fl63_3 : fieldOf Tryz.prog 63 3 = some (3, 61) := by kernel_rfl
theorem ty65 : TyOk Tryz.prog 65 [.nilFunc] 1 8 false := tyOk (by kernel_rfl)
theorem ty66 : TyOk Tryz.prog 66 [.nilFunc] 1 8 false := tyOk (by kernel_rfl)
theorem ty67 : TyOk Tryz.prog 67 [.nilFunc] 1 8 false := tyOk (by kernel_rfl)
theorem ty68 : TyOk Tryz.prog 68 [.nilFunc] 1 8 false := tyOk (by kernel_rfl)
theorem ty69 : TyOk Tryz.prog 69 [.nilFunc] 1 8 false := tyOk (by kernel_rfl)
theorem ty70 : TyOk Tryz.prog 70 [.nilFunc] 1 8 false := tyOk (by kernel_rfl)
theorem ty71 : TyOk Tryz.prog 71 [.nilFunc] 1 8 false := tyOk (by kernel_rfl)
theorem ty72 : TyOk Tryz.prog 72 [.nilFunc] 1 8 false := tyOk (by kernel_rfl)
theorem ty73 : TyOk Tryz.prog 73 [.nilFunc] 1 8 false := tyOk (by kernel_rfl)
theorem ty74 : TyOk Tryz.prog 74 [.nilFunc] 1 8 false := tyOk (by kernel_rfl)
theorem ty75 : TyOk Tryz.prog 75 [.nilFunc] 1 8 false := tyOk (by kernel_rfl)
theorem ty76 : TyOk Tryz.prog 76 [.nilFunc] 1 8 false := tyOk (by kernel_rfl)
theorem ty77 : TyOk Tryz.prog 77 [.nilFunc] 1 8 false := tyOk (by kernel_rfl)
theorem ty78 : TyOk Tryz.prog 78 [.nilFunc] 1 8 false := tyOk (by kernel_rfl)
theorem ty79 : TyOk Tryz.prog 79 [.pointer none] 1 8 false := tyOk (by kernel_rfl)
theorem ty80 : TyOk Tryz.prog 80 [.nilFunc] 1 8 false := tyOk (by kernel_rfl)
theorem ty81 : TyOk Tryz.prog 81 [.nilFunc] 1 8 false := tyOk (by kernel_rfl)
theorem ty82 : TyOk Tryz.prog 82 [.nilFunc] 1 8 false := tyOk (by kernel_rfl)
theorem ty83 : TyOk Tryz.prog 83 [.nilFunc] 1 8 false := tyOk (by kernel_rfl)
theorem ty84 : TyOk Tryz.prog 84 [.nilFunc] 1 8 false := tyOk (by kernel_rfl)
theorem ty85 : TyOk Tryz.prog 85 [.nilFunc] 1 8 false := tyOk (by kernel_rfl)
theorem ty86 : TyOk Tryz.prog 86 [.nilFunc] 1 8 false := tyOk (by kernel_rfl)
theorem ty87 : TyOk Tryz.prog 87 [.nilFunc] 1 8 false := tyOk (by kernel_rfl)
theorem ty88 : TyOk Tryz.prog 88 [.nilFunc] 1 8 false := tyOk (by kernel_rfl)
theorem ty89 : TyOk Tryz.prog 89 [.nilFunc] 1 8 false := tyOk (by kernel_rfl)
theorem ty90 : TyOk Tryz.prog 90 [.pointer none] 1 8 false := tyOk (by kernel_rfl)
theorem ty91 : TyOk Tryz.prog 91 [.nilFunc] 1 8 false := tyOk (by kernel_rfl)
theorem ty92 : TyOk Tryz.prog 92 [.nilFunc] 1 8 false := tyOk (by kernel_rfl)
theorem ty93 : TyOk Tryz.prog 93 [.nilFunc] 1 8 false := tyOk (by kernel_rfl)
theorem ty94 : TyOk Tryz.prog 94 [.nilFunc] 1 8 false := tyOk (by kernel_rfl)
theorem ty95 : TyOk Tryz.prog 95 [.nilFunc] 1 8 false := tyOk (by kernel_rfl)
theorem ty96 : TyOk Tryz.prog 96 [.nilFunc] 1 8 false := tyOk (by kernel_rfl)
theorem ty97 : TyOk Tryz.prog 97 [.nilFunc] 1 8 false := tyOk (by kernel_rfl)
theorem ty98 : TyOk Tryz.prog 98 [.nilFunc] 1 8 false := tyOk (by kernel_rfl)
theorem ty99 : TyOk Tryz.prog 99 [.nilFunc] 1 8 false := tyOk (by kernel_rfl)
theorem ty100 : TyOk Tryz.prog 100 [.nilFunc] 1 8 false := tyOk (by kernel_rfl)
theorem ty101 : TyOk Tryz.prog 101 [.nilFunc] 1 8 false := tyOk (by kernel_rfl)
theorem ty102 : TyOk Tryz.prog 102 [.nilFunc] 1 8 false := tyOk (by kernel_rfl)
theorem ty103 : TyOk Tryz.prog 103 [.nilFunc, .nilFunc, .nilFunc, .nilFunc, .nilFunc] 5 40 true := tyOk (by kernel_rfl)
theorem ty104 : TyOk Tryz.prog 104 [.pointer none] 1 8 false := tyOk (by kernel_rfl)
theorem ty106 : TyOk Tryz.prog 106 [.nilFunc] 1 8 false := tyOk (by kernel_rfl)
theorem ty107 : TyOk Tryz.prog 107 [.nilFunc] 1 8 false := tyOk (by kernel_rfl)
theorem ty108 : TyOk Tryz.prog 108 [.nilFunc] 1 8 false := tyOk (by kernel_rfl)
theorem ty109 : TyOk Tryz.prog 109 [.nilFunc] 1 8 false := tyOk (by kernel_rfl)
theorem ty110 : TyOk Tryz.prog 110 [.int .i64 0, .int .i64 0, .int .i64 0, .slice none 0 0] 4 48 true := tyOk (by kernel_rfl)
theorem fl110_0 : fieldOf Tryz.prog 110 0 = some (0, 36) := by kernel_rfl
theorem fl110_1 : fieldOf Tryz.prog 110 1 = some (2, 3) := by kernel_rfl
theorem fl110_2 : fieldOf Tryz.prog 110 2 = some (3, 54) := by kernel_rfl
theorem ty111 : TyOk Tryz.prog 111 [.int .i64 0, .int .i64 0, .int .i64 0, .slice none 0 0] 4 48 true := tyOk (by kernel_rfl)
theorem fl111_0 : fieldOf Tryz.prog 111 0 = some (0, 36) := by kernel_rfl
theorem fl111_1 : fieldOf Tryz.prog 111 1 = some (2, 3) := by kernel_rfl
theorem fl111_2 : fieldOf Tryz.prog 111 2 = some (3, 54) := by kernel_rfl
theorem ty112 : TyOk Tryz.prog 112 [.nilFunc] 1 8 false := tyOk (by kernel_rfl)
theorem ty113 : TyOk Tryz.prog 113 [.nilFunc] 1 8 false := tyOk (by kernel_rfl)
theorem ty114 : TyOk Tryz.prog 114 [.nilFunc] 1 8 false := tyOk (by kernel_rfl)
theorem ty116 : TyOk Tryz.prog 116 [.nilFunc] 1 8 false := tyOk (by kernel_rfl)
theorem ty117 : TyOk Tryz.prog 117 [.nilFunc] 1 8 false := tyOk (by kernel_rfl)
theorem ty118 : TyOk Tryz.prog 118 [.nilFunc] 1 8 false := tyOk (by kernel_rfl)
theorem ty119 : TyOk Tryz.prog 119 [.nilFunc] 1 8 false := tyOk (by kernel_rfl)
theorem ty120 : TyOk Tryz.prog 120 [.nilFunc] 1 8 false := tyOk (by kernel_rfl)
theorem ty121 : TyOk Tryz.prog 121 [.nilFunc] 1 8 false := tyOk (by kernel_rfl)
theorem ty122 : TyOk Tryz.prog 122 [.nilFunc] 1 8 false := tyOk (by kernel_rfl)
theorem ty123 : TyOk Tryz.prog 123 [.nilFunc] 1 8 false := tyOk (by kernel_rfl)
theorem ty124 : TyOk Tryz.prog 124 [.nilFunc] 1 8 false := tyOk (by kernel_rfl)
theorem ty125 : TyOk Tryz.prog 125 [.nilFunc] 1 8 false := tyOk (by kernel_rfl)
theorem ty126 : TyOk Tryz.prog 126 [.nilFunc] 1 8 false := tyOk (by kernel_rfl)
theorem ty127 : TyOk Tryz.prog 127 [.nilFunc] 1 8 false := tyOk (by kernel_rfl)
theorem ty128 : TyOk Tryz.prog 128 [.nilFunc] 1 8 false := tyOk (by kernel_rfl)
theorem ty129 : TyOk Tryz.prog 129 [.nilFunc] 1 8 false := tyOk (by kernel_rfl)
theorem ty130 : TyOk Tryz.prog 130 [.int .u64 0] 1 8 false := tyOk (by kernel_rfl)
theorem ty131 : TyOk Tryz.prog 131 [.nilFunc] 1 8 false := tyOk (by kernel_rfl)
theorem ty132 : TyOk Tryz.prog 132 [.nilFunc] 1 8 false := tyOk (by kernel_rfl)
theorem ty133 : TyOk Tryz.prog 133 [.nilFunc] 1 8 false := tyOk (by kernel_rfl)
theorem ty134 : TyOk Tryz.prog 134 [.nilFunc] 1 8 false := tyOk (by kernel_rfl)
theorem ty135 : TyOk Tryz.prog 135 [.nilFunc] 1 8 false := tyOk (by kernel_rfl)
theorem ty136 : TyOk Tryz.prog 136 [.nilFunc] 1 8 false := tyOk (by kernel_rfl)
theorem ty137 : TyOk Tryz.prog 137 [.nilFunc] 1 8 false := tyOk (by kernel_rfl)
theorem ty138 : TyOk Tryz.prog 138 [.nilFunc] 1 8 false := tyOk (by kernel_rfl)
theorem ty139 : TyOk Tryz.prog 139 [.map none] 1 8 false := tyOk (by kernel_rfl)
theorem ty140 : TyOk Tryz.prog 140 [.int .i64 0, .int .i64 0, .int .i64 0, .map none] 4 32 true := tyOk (by kernel_rfl)
theorem fl140_0 : fieldOf Tryz.prog 140 0 = some (0, 36) := by kernel_rfl
theorem fl140_1 : fieldOf Tryz.prog 140 1 = some (2, 3) := by kernel_rfl
theorem fl140_2 : fieldOf Tryz.prog 140 2 = some (3, 139) := by kernel_rfl
theorem ty141 : TyOk Tryz.prog 141 [.int .i64 0, .int .i64 0, .int .i64 0, .map none] 4 32 true := tyOk (by kernel_rfl)
theorem fl141_0 : fieldOf Tryz.prog 141 0 = some (0, 36) := by kernel_rfl
theorem fl141_1 : fieldOf Tryz.prog 141 1 = some (2, 3) := by kernel_rfl
theorem fl141_2 : fieldOf Tryz.prog 141 2 = some (3, 139) := by kernel_rfl
theorem ty142 : TyOk Tryz.prog 142 [.nilFunc] 1 8 false := tyOk (by kernel_rfl)
theorem ty143 : TyOk Tryz.prog 143 [.nilFunc] 1 8 false := tyOk (by kernel_rfl)
theorem ty144 : TyOk Tryz.prog 144 [.nilFunc] 1 8 false := tyOk (by kernel_rfl)
theorem ty145 : TyOk Tryz.prog 145 [.nilFunc] 1 8 false := tyOk (by kernel_rfl)
theorem ty146 : TyOk Tryz.prog 146 [.nilFunc] 1 8 false := tyOk (by kernel_rfl)
theorem ty147 : TyOk Tryz.prog 147 [.nilFunc] 1 8 false := tyOk (by kernel_rfl)
theorem ty153 : TyOk Tryz.prog 153 [.nilFunc] 1 8 false := tyOk (by kernel_rfl)
theorem ty154 : TyOk Tryz.prog 154 [.int .u32 0] 1 4 false := tyOk (by kernel_rfl)
theorem ty157 : TyOk Tryz.prog 157 [.nilFunc] 1 8 false := tyOk (by kernel_rfl)
theorem ty158 : TyOk Tryz.prog 158 [.pointer none] 1 8 false := tyOk (by kernel_rfl)
theorem ty163 : TyOk Tryz.prog 163 [.nilFunc] 1 8 false := tyOk (by kernel_rfl)
theorem ty164 : TyOk Tryz.prog 164 [.pointer none] 1 8 false := tyOk (by kernel_rfl)
theorem gf3 : goFn Tryz.prog 3 = true := by kernel_rfl
theorem gf4 : goFn Tryz.prog 4 = true := by kernel_rfl
theorem gf5 : goFn Tryz.prog 5 = true := by kernel_rfl
theorem gf6 : goFn Tryz.prog 6 = true := by kernel_rfl
theorem gf7 : goFn Tryz.prog 7 = true := by kernel_rfl
theorem gf8 : goFn Tryz.prog 8 = true := by kernel_rfl
theorem gf9 : goFn Tryz.prog 9 = true := by kernel_rfl
theorem gf10 : goFn Tryz.prog 10 = true := by kernel_rfl
theorem gf11 : goFn Tryz.prog 11 = true := by kernel_rfl
theorem gf12 : goFn Tryz.prog 12 = true := by kernel_rfl
theorem gf13 : goFn Tryz.prog 13 = true := by kernel_rfl
theorem gf14 : goFn Tryz.prog 14 = true := by kernel_rfl
theorem gf15 : goFn Tryz.prog 15 = true := by kernel_rfl
theorem gf16 : goFn Tryz.prog 16 = true := by kernel_rfl
theorem gf17 : goFn Tryz.prog 17 = true := by kernel_rfl
theorem gf18 : goFn Tryz.prog 18 = true := by kernel_rfl
theorem gf19 : goFn Tryz.prog 19 = true := by kernel_rfl
theorem gf20 : goFn Tryz.prog 20 = true := by kernel_rfl
theorem gf21 : goFn Tryz.prog 21 = true := by kernel_rfl
theorem gf22 : goFn Tryz.prog 22 = true := by kernel_rfl
theorem gf23 : goFn Tryz.prog 23 = true := by kernel_rfl
theorem gf24 : goFn Tryz.prog 24 = true := by kernel_rfl
theorem gf25 : goFn Tryz.prog 25 = true := by kernel_rfl
theorem gf26 : goFn Tryz.prog 26 = true := by kernel_rfl
theorem gf27 : goFn Tryz.prog 27 = true := by kernel_rfl
theorem gf28 : goFn Tryz.prog 28 = true := by kernel_rfl
theorem gf29 : goFn Tryz.prog 29 = true := by kernel_rfl
theorem gf30 : goFn Tryz.prog 30 = true := by kernel_rfl
theorem gf31 : goFn Tryz.prog 31 = true := by kernel_rfl
theorem gf32 : goFn Tryz.prog 32 = true := by kernel_rfl
theorem gf33 : goFn Tryz.prog 33 = true := by kernel_rfl
theorem gf34 : goFn Tryz.prog 34 = true := by kernel_rfl
theorem gf35 : goFn Tryz.prog 35 = true := by kernel_rfl
theorem gf36 : goFn Tryz.prog 36 = true := by kernel_rfl
theorem gf37 : goFn Tryz.prog 37 = true := by kernel_rfl
theorem gf38 : goFn Tryz.prog 38 = true := by kernel_rfl
theorem gf39 : goFn Tryz.prog 39 = true := by kernel_rfl
theorem gf40 : goFn Tryz.prog 40 = true := by kernel_rfl
theorem gf41 : goFn Tryz.prog 41 = true := by kernel_rfl
theorem gf42 : goFn Tryz.prog 42 = true := by kernel_rfl
theorem gf43 : goFn Tryz.prog 43 = true := by kernel_rfl
theorem gf44 : goFn Tryz.prog 44 = true := by kernel_rfl
theorem gf45 : goFn Tryz.prog 45 = true := by kernel_rfl
theorem gf46 : goFn Tryz.prog 46 = true := by kernel_rfl
theorem gf47 : goFn Tryz.prog 47 = true := by kernel_rfl
theorem gf48 : goFn Tryz.prog 48 = true := by kernel_rfl
theorem gf49 : goFn Tryz.prog 49 = true := by kernel_rfl
theorem gf50 : goFn Tryz.prog 50 = true := by kernel_rfl
theorem gf51 : goFn Tryz.prog 51 = true := by kernel_rfl
theorem gf52 : goFn Tryz.prog 52 = true := by kernel_rfl
theorem gf53 : goFn Tryz.prog 53 = true := by kernel_rfl
theorem gf54 : goFn Tryz.prog 54 = true := by kernel_rfl
theorem gf55 : goFn Tryz.prog 55 = true := by kernel_rfl
theorem gf56 : goFn Tryz.prog 56 = true := by kernel_rfl
theorem gf57 : goFn Tryz.prog 57 = true := by kernel_rfl
theorem gf58 : goFn Tryz.prog 58 = true := by kernel_rfl
theorem gf59 : goFn Tryz.prog 59 = true := by kernel_rfl
theorem gf60 : goFn Tryz.prog 60 = true := by kernel_rfl
theorem gf61 : goFn Tryz.prog 61 = true := by kernel_rfl
theorem gf62 : goFn Tryz.prog 62 = true := by kernel_rfl
theorem gf63 : goFn Tryz.prog 63 = true := by kernel_rfl
theorem gf64 : goFn Tryz.prog 64 = true := by kernel_rfl
theorem gf65 : goFn Tryz.prog 65 = true := by kernel_rfl
theorem gf66 : goFn Tryz.prog 66 = true := by kernel_rfl
theorem gf67 : goFn Tryz.prog 67 = true := by kernel_rfl
theorem gf68 : goFn Tryz.prog 68 = true := by kernel_rfl
theorem gf69 : goFn Tryz.prog 69 = true := by kernel_rfl
theorem gf70 : goFn Tryz.prog 70 = true := by kernel_rfl
theorem gf71 : goFn Tryz.prog 71 = true := by kernel_rfl
theorem gf72 : goFn Tryz.prog 72 = true := by kernel_rfl
theorem gf73 : goFn Tryz.prog 73 = true := by kernel_rfl
theorem gf74 : goFn Tryz.prog 74 = true := by kernel_rfl
theorem gf75 : goFn Tryz.prog 75 = true := by kernel_rfl
theorem gf76 : goFn Tryz.prog 76 = true := by kernel_rfl
theorem gf77 : goFn Tryz.prog 77 = true := by kernel_rfl
theorem gf78 : goFn Tryz.prog 78 = true := by kernel_rfl
theorem gf79 : goFn Tryz.prog 79 = true := by kernel_rfl
theorem gf80 : goFn Tryz.prog 80 = true := by kernel_rfl
theorem gf81 : goFn Tryz.prog 81 = true := by kernel_rfl
theorem gf83 : goFn Tryz.prog 83 = true := by kernel_rfl
theorem gf84 : goFn Tryz.prog 84 = true := by kernel_rfl
theorem gf85 : goFn Tryz.prog 85 = true := by kernel_rfl
theorem gf86 : goFn Tryz.prog 86 = true := by kernel_rfl
theorem gf87 : goFn Tryz.prog 87 = true := by kernel_rfl
theorem gf88 : goFn Tryz.prog 88 = true := by kernel_rfl
theorem gf89 : goFn Tryz.prog 89 = true := by kernel_rfl
theorem gf90 : goFn Tryz.prog 90 = true := by kernel_rfl
theorem gf91 : goFn Tryz.prog 91 = true := by kernel_rfl
theorem gf92 : goFn Tryz.prog 92 = true := by kernel_rfl
theorem gf93 : goFn Tryz.prog 93 = true := by kernel_rfl
theorem gf94 : goFn Tryz.prog 94 = true := by kernel_rfl
theorem gf95 : goFn Tryz.prog 95 = true := by kernel_rfl
theorem gf97 : goFn Tryz.prog 97 = true := by kernel_rfl
theorem gf98 : goFn Tryz.prog 98 = true := by kernel_rfl
theorem gf99 : goFn Tryz.prog 99 = true := by kernel_rfl
theorem gf100 : goFn Tryz.prog 100 = true := by kernel_rfl
theorem gf102 : goFn Tryz.prog 102 = true := by kernel_rfl
theorem gf103 : goFn Tryz.prog 103 = true := by kernel_rfl
theorem gf104 : goFn Tryz.prog 104 = true := by kernel_rfl
theorem gf105 : goFn Tryz.prog 105 = true := by kernel_rfl
theorem gf106 : goFn Tryz.prog 106 = true := by kernel_rfl
theorem gf107 : goFn Tryz.prog 107 = true := by kernel_rfl
theorem gf108 : goFn Tryz.prog 108 = true := by kernel_rfl
theorem gf109 : goFn Tryz.prog 109 = true := by kernel_rfl
theorem gf110 : goFn Tryz.prog 110 = true := by kernel_rfl
theorem gf111 : goFn Tryz.prog 111 = true := by kernel_rfl
theorem gf112 : goFn Tryz.prog 112 = true := by kernel_rfl
theorem gf113 : goFn Tryz.prog 113 = true := by kernel_rfl
theorem gf115 : goFn Tryz.prog 115 = true := by kernel_rfl
theorem gf116 : goFn Tryz.prog 116 = true := by kernel_rfl
theorem mixed : Tryz.prog.follows .mixedOrders = true := by kernel_rfl
end Go.Proofs.YtbninklfoogmdaaGreat

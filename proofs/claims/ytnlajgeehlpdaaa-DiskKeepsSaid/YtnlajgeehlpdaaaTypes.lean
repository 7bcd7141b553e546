/- The types of this seat, each a closed fact. Printed by wip/gen/types.py. -/
import Derived.Test.YtnlajgeehlpdaaaFun
namespace Go.Proofs.Ytnlajgeehlpdaaa
open Go
theorem ty1 : TyOk Try.prog 1 [.nilFunc] 1 8 false := tyOk (by kernel_rfl)
theorem ty2 : TyOk Try.prog 2 [.int .i64 0] 1 8 false := tyOk (by kernel_rfl)
theorem ty3 : TyOk Try.prog 3 [.int .i64 0] 1 8 false := tyOk (by kernel_rfl)
theorem ty4 : TyOk Try.prog 4 [.bool false] 1 1 false := tyOk (by kernel_rfl)
theorem ty5 : TyOk Try.prog 5 [.int .u8 0] 1 1 false := tyOk (by kernel_rfl)
theorem ty9 : TyOk Try.prog 9 [.string .empty] 1 16 false := tyOk (by kernel_rfl)
theorem ty12 : TyOk Try.prog 12 [.int .u64 0] 1 8 false := tyOk (by kernel_rfl)
theorem ty13 : TyOk Try.prog 13 [.string .empty, .int .u64 0] 2 24 true := tyOk (by kernel_rfl)
theorem fl13_0 : fieldOf Try.prog 13 0 = some (0, 9) := by kernel_rfl
theorem fl13_1 : fieldOf Try.prog 13 1 = some (1, 12) := by kernel_rfl
theorem ty20 : TyOk Try.prog 20 [.nilIface] 1 16 false := tyOk (by kernel_rfl)
theorem ty21 : TyOk Try.prog 21 [.int .i32 0] 1 4 false := tyOk (by kernel_rfl)
theorem ty22 : TyOk Try.prog 22 [.slice none 0 0] 1 24 false := tyOk (by kernel_rfl)
theorem ty23 : TyOk Try.prog 23 [.slice none 0 0] 1 24 false := tyOk (by kernel_rfl)
theorem ty24 : TyOk Try.prog 24 [.pointer none] 1 8 false := tyOk (by kernel_rfl)
theorem ty25 : TyOk Try.prog 25 [.nilFunc] 1 8 false := tyOk (by kernel_rfl)
theorem ty26 : TyOk Try.prog 26 [.nilFunc] 1 8 false := tyOk (by kernel_rfl)
theorem ty27 : TyOk Try.prog 27 [.int .i64 0] 1 8 false := tyOk (by kernel_rfl)
theorem ty28 : TyOk Try.prog 28 [.nilFunc] 1 8 false := tyOk (by kernel_rfl)
theorem ty29 : TyOk Try.prog 29 [.nilFunc] 1 8 false := tyOk (by kernel_rfl)
theorem ty30 : TyOk Try.prog 30 [.int .u64 0] 1 8 false := tyOk (by kernel_rfl)
theorem ty31 : TyOk Try.prog 31 [.nilFunc] 1 8 false := tyOk (by kernel_rfl)
theorem ty32 : TyOk Try.prog 32 [.nilFunc] 1 8 false := tyOk (by kernel_rfl)
theorem ty33 : TyOk Try.prog 33 [.slice none 0 0] 1 24 false := tyOk (by kernel_rfl)
theorem ty34 : TyOk Try.prog 34 [.nilFunc] 1 8 false := tyOk (by kernel_rfl)
theorem ty36 : TyOk Try.prog 36 [.nilFunc] 1 8 false := tyOk (by kernel_rfl)
theorem ty37 : TyOk Try.prog 37 [.nilFunc] 1 8 false := tyOk (by kernel_rfl)
theorem ty38 : TyOk Try.prog 38 [.slice none 0 0] 1 24 false := tyOk (by kernel_rfl)
theorem ty39 : TyOk Try.prog 39 [.nilFunc] 1 8 false := tyOk (by kernel_rfl)
theorem ty40 : TyOk Try.prog 40 [.nilFunc] 1 8 false := tyOk (by kernel_rfl)
theorem ty41 : TyOk Try.prog 41 [.nilFunc] 1 8 false := tyOk (by kernel_rfl)
theorem ty42 : TyOk Try.prog 42 [.nilFunc] 1 8 false := tyOk (by kernel_rfl)
theorem ty43 : TyOk Try.prog 43 [.slice none 0 0] 1 24 false := tyOk (by kernel_rfl)
theorem ty44 : TyOk Try.prog 44 [.int .i64 0, .int .i64 0, .int .i64 0, .int .u8 0, .slice none 0 0] 5 56 true := tyOk (by kernel_rfl)
theorem fl44_0 : fieldOf Try.prog 44 0 = some (0, 3) := by kernel_rfl
theorem fl44_1 : fieldOf Try.prog 44 1 = some (1, 3) := by kernel_rfl
theorem fl44_2 : fieldOf Try.prog 44 2 = some (2, 3) := by kernel_rfl
theorem fl44_3 : fieldOf Try.prog 44 3 = some (3, 5) := by kernel_rfl
theorem fl44_4 : fieldOf Try.prog 44 4 = some (4, 23) := by kernel_rfl
theorem ty45 : TyOk Try.prog 45 [.int .i64 0, .int .i64 0, .int .i64 0, .int .u8 0, .slice none 0 0] 5 56 true := tyOk (by kernel_rfl)
theorem fl45_0 : fieldOf Try.prog 45 0 = some (0, 3) := by kernel_rfl
theorem fl45_1 : fieldOf Try.prog 45 1 = some (1, 3) := by kernel_rfl
theorem fl45_2 : fieldOf Try.prog 45 2 = some (2, 3) := by kernel_rfl
theorem fl45_3 : fieldOf Try.prog 45 3 = some (3, 5) := by kernel_rfl
theorem fl45_4 : fieldOf Try.prog 45 4 = some (4, 23) := by kernel_rfl
theorem ty46 : TyOk Try.prog 46 [.nilFunc] 1 8 false := tyOk (by kernel_rfl)
theorem ty47 : TyOk Try.prog 47 [.nilFunc] 1 8 false := tyOk (by kernel_rfl)
theorem ty48 : TyOk Try.prog 48 [.nilFunc] 1 8 false := tyOk (by kernel_rfl)
theorem ty49 : TyOk Try.prog 49 [.nilFunc] 1 8 false := tyOk (by kernel_rfl)
theorem ty50 : TyOk Try.prog 50 [.nilFunc] 1 8 false := tyOk (by kernel_rfl)
theorem ty51 : TyOk Try.prog 51 [.nilFunc] 1 8 false := tyOk (by kernel_rfl)
theorem ty53 : TyOk Try.prog 53 [.nilFunc] 1 8 false := tyOk (by kernel_rfl)
theorem ty54 : TyOk Try.prog 54 [.slice none 0 0] 1 24 false := tyOk (by kernel_rfl)
theorem ty55 : TyOk Try.prog 55 [.slice none 0 0] 1 24 false := tyOk (by kernel_rfl)
theorem ty56 : TyOk Try.prog 56 [.slice none 0 0, .slice none 0 0, .bool false, .int .i64 0] 4 64 true := tyOk (by kernel_rfl)
theorem fl56_0 : fieldOf Try.prog 56 0 = some (0, 54) := by kernel_rfl
theorem fl56_1 : fieldOf Try.prog 56 1 = some (1, 55) := by kernel_rfl
theorem fl56_2 : fieldOf Try.prog 56 2 = some (2, 4) := by kernel_rfl
theorem fl56_3 : fieldOf Try.prog 56 3 = some (3, 3) := by kernel_rfl
theorem ty57 : TyOk Try.prog 57 [.slice none 0 0, .slice none 0 0, .bool false, .int .i64 0] 4 64 true := tyOk (by kernel_rfl)
theorem fl57_0 : fieldOf Try.prog 57 0 = some (0, 54) := by kernel_rfl
theorem fl57_1 : fieldOf Try.prog 57 1 = some (1, 55) := by kernel_rfl
theorem fl57_2 : fieldOf Try.prog 57 2 = some (2, 4) := by kernel_rfl
theorem fl57_3 : fieldOf Try.prog 57 3 = some (3, 3) := by kernel_rfl
theorem ty58 : TyOk Try.prog 58 [.int .u8 0, .int .u8 0, .int .u8 0, .int .u8 0, .int .u8 0, .int .u8 0, .int .u8 0, .int .u8 0, .int .u8 0, .int .u8 0, .int .u8 0, .int .u8 0, .int .u8 0, .int .u8 0, .int .u8 0, .int .u8 0, .int .u8 0, .int .u8 0, .int .u8 0, .int .u8 0, .int .u8 0, .int .u8 0, .int .u8 0, .int .u8 0, .int .u8 0, .int .u8 0, .int .u8 0, .int .u8 0, .int .u8 0, .int .u8 0, .int .u8 0, .int .u8 0, .int .u8 0, .int .u8 0, .int .u8 0, .int .u8 0, .int .u8 0, .int .u8 0, .int .u8 0, .int .u8 0, .int .u8 0, .int .u8 0, .int .u8 0, .int .u8 0, .int .u8 0, .int .u8 0, .int .u8 0, .int .u8 0, .int .u8 0, .int .u8 0, .int .u8 0, .int .u8 0, .int .u8 0, .int .u8 0, .int .u8 0, .int .u8 0, .int .u8 0, .int .u8 0, .int .u8 0, .int .u8 0, .int .u8 0, .int .u8 0, .int .u8 0, .int .u8 0] 64 64 true := tyOk (by kernel_rfl)
theorem ty59 : TyOk Try.prog 59 [.int .u8 0, .int .u8 0, .int .u8 0, .int .u8 0, .int .u8 0, .int .u8 0, .int .u8 0, .int .u8 0, .int .u8 0, .int .u8 0, .int .u8 0, .int .u8 0, .int .u8 0, .int .u8 0, .int .u8 0, .int .u8 0, .int .u8 0, .int .u8 0, .int .u8 0, .int .u8 0, .int .u8 0, .int .u8 0, .int .u8 0, .int .u8 0, .int .u8 0, .int .u8 0, .int .u8 0, .int .u8 0, .int .u8 0, .int .u8 0, .int .u8 0, .int .u8 0, .int .u8 0, .int .u8 0, .int .u8 0, .int .u8 0, .int .u8 0, .int .u8 0, .int .u8 0, .int .u8 0, .int .u8 0, .int .u8 0, .int .u8 0, .int .u8 0, .int .u8 0, .int .u8 0, .int .u8 0, .int .u8 0, .int .u8 0, .int .u8 0, .int .u8 0, .int .u8 0, .int .u8 0, .int .u8 0, .int .u8 0, .int .u8 0, .int .u8 0, .int .u8 0, .int .u8 0, .int .u8 0, .int .u8 0, .int .u8 0, .int .u8 0, .int .u8 0] 64 64 true := tyOk (by kernel_rfl)
theorem ty60 : TyOk Try.prog 60 [.int .i64 0, .int .u8 0, .int .u8 0, .int .u8 0, .int .u8 0, .int .u8 0, .int .u8 0, .int .u8 0, .int .u8 0, .int .u8 0, .int .u8 0, .int .u8 0, .int .u8 0, .int .u8 0, .int .u8 0, .int .u8 0, .int .u8 0, .int .u8 0, .int .u8 0, .int .u8 0, .int .u8 0, .int .u8 0, .int .u8 0, .int .u8 0, .int .u8 0, .int .u8 0, .int .u8 0, .int .u8 0, .int .u8 0, .int .u8 0, .int .u8 0, .int .u8 0, .int .u8 0, .int .u8 0, .int .u8 0, .int .u8 0, .int .u8 0, .int .u8 0, .int .u8 0, .int .u8 0, .int .u8 0, .int .u8 0, .int .u8 0, .int .u8 0, .int .u8 0, .int .u8 0, .int .u8 0, .int .u8 0, .int .u8 0, .int .u8 0, .int .u8 0, .int .u8 0, .int .u8 0, .int .u8 0, .int .u8 0, .int .u8 0, .int .u8 0, .int .u8 0, .int .u8 0, .int .u8 0, .int .u8 0, .int .u8 0, .int .u8 0, .int .u8 0, .int .u8 0] 65 72 true := tyOk (by kernel_rfl)
theorem fl60_0 : fieldOf Try.prog 60 0 = some (0, 3) := by kernel_rfl
theorem fl60_1 : fieldOf Try.prog 60 1 = some (1, 59) := by kernel_rfl
theorem ty61 : TyOk Try.prog 61 [.int .i64 0, .int .u8 0, .int .u8 0, .int .u8 0, .int .u8 0, .int .u8 0, .int .u8 0, .int .u8 0, .int .u8 0, .int .u8 0, .int .u8 0, .int .u8 0, .int .u8 0, .int .u8 0, .int .u8 0, .int .u8 0, .int .u8 0, .int .u8 0, .int .u8 0, .int .u8 0, .int .u8 0, .int .u8 0, .int .u8 0, .int .u8 0, .int .u8 0, .int .u8 0, .int .u8 0, .int .u8 0, .int .u8 0, .int .u8 0, .int .u8 0, .int .u8 0, .int .u8 0, .int .u8 0, .int .u8 0, .int .u8 0, .int .u8 0, .int .u8 0, .int .u8 0, .int .u8 0, .int .u8 0, .int .u8 0, .int .u8 0, .int .u8 0, .int .u8 0, .int .u8 0, .int .u8 0, .int .u8 0, .int .u8 0, .int .u8 0, .int .u8 0, .int .u8 0, .int .u8 0, .int .u8 0, .int .u8 0, .int .u8 0, .int .u8 0, .int .u8 0, .int .u8 0, .int .u8 0, .int .u8 0, .int .u8 0, .int .u8 0, .int .u8 0, .int .u8 0] 65 72 true := tyOk (by kernel_rfl)
theorem fl61_0 : fieldOf Try.prog 61 0 = some (0, 3) := by kernel_rfl
theorem fl61_1 : fieldOf Try.prog 61 1 = some (1, 59) := by kernel_rfl
theorem ty62 : TyOk Try.prog 62 [.nilFunc] 1 8 false := tyOk (by kernel_rfl)
theorem ty63 : TyOk Try.prog 63 [.nilFunc] 1 8 false := tyOk (by kernel_rfl)
theorem ty64 : TyOk Try.prog 64 [.nilFunc] 1 8 false := tyOk (by kernel_rfl)
theorem ty65 : TyOk Try.prog 65 [.nilFunc] 1 8 false := tyOk (by kernel_rfl)
theorem ty66 : TyOk Try.prog 66 [.nilFunc] 1 8 false := tyOk (by kernel_rfl)
theorem ty72 : TyOk Try.prog 72 [.int .u32 0] 1 4 false := tyOk (by kernel_rfl)
theorem ty75 : TyOk Try.prog 75 [.nilFunc] 1 8 false := tyOk (by kernel_rfl)
theorem ty76 : TyOk Try.prog 76 [.pointer none] 1 8 false := tyOk (by kernel_rfl)
theorem ty81 : TyOk Try.prog 81 [.pointer none] 1 8 false := tyOk (by kernel_rfl)
theorem gf3 : goFn Try.prog 3 = true := by kernel_rfl
theorem gf4 : goFn Try.prog 4 = true := by kernel_rfl
theorem gf5 : goFn Try.prog 5 = true := by kernel_rfl
theorem gf6 : goFn Try.prog 6 = true := by kernel_rfl
theorem gf7 : goFn Try.prog 7 = true := by kernel_rfl
theorem gf8 : goFn Try.prog 8 = true := by kernel_rfl
theorem gf9 : goFn Try.prog 9 = true := by kernel_rfl
theorem gf10 : goFn Try.prog 10 = true := by kernel_rfl
theorem gf11 : goFn Try.prog 11 = true := by kernel_rfl
theorem gf12 : goFn Try.prog 12 = true := by kernel_rfl
theorem gf13 : goFn Try.prog 13 = true := by kernel_rfl
theorem gf14 : goFn Try.prog 14 = true := by kernel_rfl
theorem gf15 : goFn Try.prog 15 = true := by kernel_rfl
theorem gf16 : goFn Try.prog 16 = true := by kernel_rfl
theorem gf17 : goFn Try.prog 17 = true := by kernel_rfl
theorem gf18 : goFn Try.prog 18 = true := by kernel_rfl
theorem gf19 : goFn Try.prog 19 = true := by kernel_rfl
theorem gf20 : goFn Try.prog 20 = true := by kernel_rfl
theorem gf21 : goFn Try.prog 21 = true := by kernel_rfl
theorem gf22 : goFn Try.prog 22 = true := by kernel_rfl
theorem gf23 : goFn Try.prog 23 = true := by kernel_rfl
theorem gf24 : goFn Try.prog 24 = true := by kernel_rfl
theorem gf25 : goFn Try.prog 25 = true := by kernel_rfl
theorem gf26 : goFn Try.prog 26 = true := by kernel_rfl
theorem gf27 : goFn Try.prog 27 = true := by kernel_rfl
theorem gf28 : goFn Try.prog 28 = true := by kernel_rfl
theorem gf29 : goFn Try.prog 29 = true := by kernel_rfl
theorem gf30 : goFn Try.prog 30 = true := by kernel_rfl
theorem gf31 : goFn Try.prog 31 = true := by kernel_rfl
theorem gf32 : goFn Try.prog 32 = true := by kernel_rfl
theorem mixed : Try.prog.follows .mixedOrders = true := by kernel_rfl
end Go.Proofs.Ytnlajgeehlpdaaa

/- The types of this seat, each a closed fact. Printed by wip/gen/types.py. -/
import Derived.Test.YtlglenbmpikhmaaDoorFun
namespace Go.Proofs.YtlglenbmpikhmaaDoor
open Go
theorem ty1 : TyOk Tryd.prog 1 [.nilFunc] 1 8 false := tyOk (by kernel_rfl)
theorem ty2 : TyOk Tryd.prog 2 [.int .i64 0] 1 8 false := tyOk (by kernel_rfl)
theorem ty3 : TyOk Tryd.prog 3 [.int .i64 0] 1 8 false := tyOk (by kernel_rfl)
theorem ty4 : TyOk Tryd.prog 4 [.bool false] 1 1 false := tyOk (by kernel_rfl)
theorem ty5 : TyOk Tryd.prog 5 [.int .u8 0] 1 1 false := tyOk (by kernel_rfl)
theorem ty9 : TyOk Tryd.prog 9 [.string .empty] 1 16 false := tyOk (by kernel_rfl)
theorem ty12 : TyOk Tryd.prog 12 [.int .u64 0] 1 8 false := tyOk (by kernel_rfl)
theorem ty13 : TyOk Tryd.prog 13 [.string .empty, .int .u64 0] 2 24 true := tyOk (by kernel_rfl)
theorem fl13_0 : fieldOf Tryd.prog 13 0 = some (0, 9) := by kernel_rfl
theorem fl13_1 : fieldOf Tryd.prog 13 1 = some (1, 12) := by kernel_rfl
theorem ty20 : TyOk Tryd.prog 20 [.nilIface] 1 16 false := tyOk (by kernel_rfl)
theorem ty21 : TyOk Tryd.prog 21 [.int .i32 0] 1 4 false := tyOk (by kernel_rfl)
theorem ty22 : TyOk Tryd.prog 22 [.slice none 0 0] 1 24 false := tyOk (by kernel_rfl)
theorem ty23 : TyOk Tryd.prog 23 [.nilFunc] 1 8 false := tyOk (by kernel_rfl)
theorem ty24 : TyOk Tryd.prog 24 [.int .i64 0] 1 8 false := tyOk (by kernel_rfl)
theorem ty26 : TyOk Tryd.prog 26 [.nilFunc] 1 8 false := tyOk (by kernel_rfl)
theorem ty27 : TyOk Tryd.prog 27 [.nilFunc] 1 8 false := tyOk (by kernel_rfl)
theorem ty28 : TyOk Tryd.prog 28 [.nilFunc] 1 8 false := tyOk (by kernel_rfl)
theorem ty29 : TyOk Tryd.prog 29 [.nilFunc] 1 8 false := tyOk (by kernel_rfl)
theorem ty30 : TyOk Tryd.prog 30 [.nilFunc] 1 8 false := tyOk (by kernel_rfl)
theorem ty31 : TyOk Tryd.prog 31 [.int .u64 0] 1 8 false := tyOk (by kernel_rfl)
theorem ty33 : TyOk Tryd.prog 33 [.nilFunc] 1 8 false := tyOk (by kernel_rfl)
theorem ty34 : TyOk Tryd.prog 34 [.nilFunc] 1 8 false := tyOk (by kernel_rfl)
theorem ty35 : TyOk Tryd.prog 35 [.nilFunc] 1 8 false := tyOk (by kernel_rfl)
theorem ty36 : TyOk Tryd.prog 36 [.nilFunc] 1 8 false := tyOk (by kernel_rfl)
theorem ty37 : TyOk Tryd.prog 37 [.int .u32 0] 1 4 false := tyOk (by kernel_rfl)
theorem ty38 : TyOk Tryd.prog 38 [.nilFunc] 1 8 false := tyOk (by kernel_rfl)
theorem ty39 : TyOk Tryd.prog 39 [.nilFunc] 1 8 false := tyOk (by kernel_rfl)
theorem ty40 : TyOk Tryd.prog 40 [.int .u64 0] 1 8 false := tyOk (by kernel_rfl)
theorem ty41 : TyOk Tryd.prog 41 [.nilFunc] 1 8 false := tyOk (by kernel_rfl)
theorem ty42 : TyOk Tryd.prog 42 [.nilFunc] 1 8 false := tyOk (by kernel_rfl)
theorem ty43 : TyOk Tryd.prog 43 [.nilFunc] 1 8 false := tyOk (by kernel_rfl)
theorem ty44 : TyOk Tryd.prog 44 [.pointer none] 1 8 false := tyOk (by kernel_rfl)
theorem ty45 : TyOk Tryd.prog 45 [.nilFunc] 1 8 false := tyOk (by kernel_rfl)
theorem ty46 : TyOk Tryd.prog 46 [.nilFunc] 1 8 false := tyOk (by kernel_rfl)
theorem ty47 : TyOk Tryd.prog 47 [.nilFunc] 1 8 false := tyOk (by kernel_rfl)
theorem ty48 : TyOk Tryd.prog 48 [.nilFunc] 1 8 false := tyOk (by kernel_rfl)
theorem ty49 : TyOk Tryd.prog 49 [.int .u32 0, .int .u32 0, .int .u32 0, .int .u32 0, .int .u32 0, .int .u32 0, .int .u32 0, .int .u32 0, .int .u32 0, .int .u32 0, .int .u32 0, .int .u32 0, .int .u32 0, .int .u32 0, .int .u32 0, .int .u32 0] 16 64 true := tyOk (by kernel_rfl)
theorem ty50 : TyOk Tryd.prog 50 [.slice none 0 0, .int .i64 0, .int .i64 0] 3 40 true := tyOk (by kernel_rfl)
theorem fl50_0 : fieldOf Tryd.prog 50 0 = some (0, 22) := by kernel_rfl
theorem fl50_1 : fieldOf Tryd.prog 50 1 = some (1, 3) := by kernel_rfl
theorem fl50_2 : fieldOf Tryd.prog 50 2 = some (2, 24) := by kernel_rfl
theorem ty51 : TyOk Tryd.prog 51 [.slice none 0 0, .int .i64 0, .int .i64 0] 3 40 true := tyOk (by kernel_rfl)
theorem fl51_0 : fieldOf Tryd.prog 51 0 = some (0, 22) := by kernel_rfl
theorem fl51_1 : fieldOf Tryd.prog 51 1 = some (1, 3) := by kernel_rfl
theorem fl51_2 : fieldOf Tryd.prog 51 2 = some (2, 24) := by kernel_rfl
theorem ty52 : TyOk Tryd.prog 52 [.nilFunc] 1 8 false := tyOk (by kernel_rfl)
theorem ty54 : TyOk Tryd.prog 54 [.nilFunc] 1 8 false := tyOk (by kernel_rfl)
theorem ty55 : TyOk Tryd.prog 55 [.nilFunc] 1 8 false := tyOk (by kernel_rfl)
theorem ty57 : TyOk Tryd.prog 57 [.nilFunc] 1 8 false := tyOk (by kernel_rfl)
theorem ty63 : TyOk Tryd.prog 63 [.nilFunc] 1 8 false := tyOk (by kernel_rfl)
theorem ty66 : TyOk Tryd.prog 66 [.nilFunc] 1 8 false := tyOk (by kernel_rfl)
theorem ty67 : TyOk Tryd.prog 67 [.pointer none] 1 8 false := tyOk (by kernel_rfl)
theorem ty72 : TyOk Tryd.prog 72 [.nilFunc] 1 8 false := tyOk (by kernel_rfl)
theorem ty73 : TyOk Tryd.prog 73 [.pointer none] 1 8 false := tyOk (by kernel_rfl)
theorem gf3 : goFn Tryd.prog 3 = true := by kernel_rfl
theorem gf4 : goFn Tryd.prog 4 = true := by kernel_rfl
theorem gf5 : goFn Tryd.prog 5 = true := by kernel_rfl
theorem gf6 : goFn Tryd.prog 6 = true := by kernel_rfl
theorem gf7 : goFn Tryd.prog 7 = true := by kernel_rfl
theorem gf8 : goFn Tryd.prog 8 = true := by kernel_rfl
theorem gf9 : goFn Tryd.prog 9 = true := by kernel_rfl
theorem gf10 : goFn Tryd.prog 10 = true := by kernel_rfl
theorem gf11 : goFn Tryd.prog 11 = true := by kernel_rfl
theorem gf12 : goFn Tryd.prog 12 = true := by kernel_rfl
theorem gf13 : goFn Tryd.prog 13 = true := by kernel_rfl
theorem gf14 : goFn Tryd.prog 14 = true := by kernel_rfl
theorem gf15 : goFn Tryd.prog 15 = true := by kernel_rfl
theorem gf16 : goFn Tryd.prog 16 = true := by kernel_rfl
theorem gf17 : goFn Tryd.prog 17 = true := by kernel_rfl
theorem gf18 : goFn Tryd.prog 18 = true := by kernel_rfl
theorem gf19 : goFn Tryd.prog 19 = true := by kernel_rfl
theorem gf20 : goFn Tryd.prog 20 = true := by kernel_rfl
theorem gf21 : goFn Tryd.prog 21 = true := by kernel_rfl
theorem gf22 : goFn Tryd.prog 22 = true := by kernel_rfl
theorem gf23 : goFn Tryd.prog 23 = true := by kernel_rfl
theorem gf24 : goFn Tryd.prog 24 = true := by kernel_rfl
theorem gf25 : goFn Tryd.prog 25 = true := by kernel_rfl
theorem gf26 : goFn Tryd.prog 26 = true := by kernel_rfl
theorem gf27 : goFn Tryd.prog 27 = true := by kernel_rfl
theorem gf28 : goFn Tryd.prog 28 = true := by kernel_rfl
theorem gf29 : goFn Tryd.prog 29 = true := by kernel_rfl
theorem gf30 : goFn Tryd.prog 30 = true := by kernel_rfl
theorem gf31 : goFn Tryd.prog 31 = true := by kernel_rfl
theorem gf32 : goFn Tryd.prog 32 = true := by kernel_rfl
theorem gf33 : goFn Tryd.prog 33 = true := by kernel_rfl
theorem gf34 : goFn Tryd.prog 34 = true := by kernel_rfl
theorem gf35 : goFn Tryd.prog 35 = true := by kernel_rfl
theorem mixed : Tryd.prog.follows .mixedOrders = true := by kernel_rfl
end Go.Proofs.YtlglenbmpikhmaaDoor

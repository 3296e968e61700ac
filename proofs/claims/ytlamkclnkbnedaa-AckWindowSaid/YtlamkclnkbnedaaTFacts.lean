import Derived.Test.YtlamkclnkbnedaaProg
import Derived.Test.YtlamkclnkbnedaaEngI
import Derived.KernelRfl
/-! Facts of the program's types and functions. -/
namespace Go.Rel
open Go Go.Eng Go.Proofs
theorem z_en73 : enters Try.prog 73 = true := by kernel_rfl
theorem z_agg25 : aggSize Try.prog 25 = some 2 := by kernel_rfl
theorem z_field25_0 : fieldT Try.prog 25 0 = some 0 := by kernel_rfl
theorem z_sc22 : isScalar Try.prog 22 = true := by kernel_rfl
theorem z_en46 : enters Try.prog 46 = true := by kernel_rfl
theorem z_field25_1 : fieldT Try.prog 25 1 = some 1 := by kernel_rfl
theorem z_sc23 : isScalar Try.prog 23 = true := by kernel_rfl
theorem z_en47 : enters Try.prog 47 = true := by kernel_rfl
theorem z_en16 : enters Try.prog 16 = true := by kernel_rfl
theorem z_field89_0 : fieldT Try.prog 89 0 = some 0 := by kernel_rfl
theorem z_field87_0 : fieldT Try.prog 87 0 = some 0 := by kernel_rfl
theorem z_en72 : enters Try.prog 72 = true := by kernel_rfl
theorem z_field30_0 : fieldT Try.prog 30 0 = some 0 := by kernel_rfl
theorem z_en12 : enters Try.prog 12 = true := by kernel_rfl
theorem z_field30_1 : fieldT Try.prog 30 1 = some 1 := by kernel_rfl
theorem z_en41 : enters Try.prog 41 = true := by kernel_rfl
theorem z_en42 : enters Try.prog 42 = true := by kernel_rfl
theorem z_en43 : enters Try.prog 43 = true := by kernel_rfl
theorem z_struct87 : structT Try.prog 87 = some ([.int .u32 0, .int .u64 0], [(0, 1), (1, 1)]) := by kernel_rfl
theorem z_struct89 : structT Try.prog 89 = some ([.int .u32 0, .int .u64 0], [(0, 2)]) := by kernel_rfl
theorem z_zero25 : zeroT Try.prog 25 = some [.int .u32 0, .int .u64 0] := by kernel_rfl
theorem z_en44 : enters Try.prog 44 = true := by kernel_rfl
theorem z_field87_1 : fieldT Try.prog 87 1 = some 1 := by kernel_rfl
theorem z_en45 : enters Try.prog 45 = true := by kernel_rfl
theorem z_struct25 : structT Try.prog 25 = some ([.int .u32 0, .int .u64 0], [(0, 1), (1, 1)]) := by kernel_rfl
theorem z_size25 : sizeT Try.prog 25 = some 2 := by kernel_rfl
theorem z_agg87 : aggSize Try.prog 87 = some 2 := by kernel_rfl
theorem z_en48 : enters Try.prog 48 = true := by kernel_rfl
theorem z_mix : Try.prog.follows .mixedOrders = true := by kernel_rfl
theorem z_en17 : enters Try.prog 17 = true := by kernel_rfl
theorem z_zero87 : zeroT Try.prog 87 = some [.int .u32 0, .int .u64 0] := by kernel_rfl
theorem z_size87 : sizeT Try.prog 87 = some 2 := by kernel_rfl
theorem z_size23 : sizeT Try.prog 23 = some 1 := by kernel_rfl
theorem z_held87 : Program.stoodInHeld Try.prog 87 = false := by kernel_rfl
theorem z_eqg87 : Program.eqGuardType Try.prog (Program.depth Try.prog) 87 = false := by kernel_rfl
theorem z_en14 : enters Try.prog 14 = true := by kernel_rfl
theorem z_en15 : enters Try.prog 15 = true := by kernel_rfl
theorem z_en40 : enters Try.prog 40 = true := by kernel_rfl
theorem z_sc3 : isScalar Try.prog 3 = true := by kernel_rfl
theorem z_en71 : enters Try.prog 71 = true := by kernel_rfl
theorem z_en39 : enters Try.prog 39 = true := by kernel_rfl
theorem z_sc82 : isScalar Try.prog 82 = true := by kernel_rfl
theorem z_en38 : enters Try.prog 38 = true := by kernel_rfl
theorem z_size3 : sizeT Try.prog 3 = some 1 := by kernel_rfl
theorem z_zero3 : zeroT Try.prog 3 = some [.int .i64 0] := by kernel_rfl
theorem z_zero4 : zeroT Try.prog 4 = some [.bool false] := by kernel_rfl
theorem z_size4 : sizeT Try.prog 4 = some 1 := by kernel_rfl
theorem z_en10 : enters Try.prog 10 = true := by kernel_rfl
theorem z_en11 : enters Try.prog 11 = true := by kernel_rfl
theorem z_sc4 : isScalar Try.prog 4 = true := by kernel_rfl
theorem z_en13 : enters Try.prog 13 = true := by kernel_rfl
theorem z_slT34 : slT Try.prog 34 = some (22, 1, 4) := by kernel_rfl
theorem z_en18 : enters Try.prog 18 = true := by kernel_rfl
theorem z_en19 : enters Try.prog 19 = true := by kernel_rfl
theorem z_held25 : Program.stoodInHeld Try.prog 25 = false := by kernel_rfl
theorem z_eqg25 : Program.eqGuardType Try.prog (Program.depth Try.prog) 25 = false := by kernel_rfl
end Go.Rel

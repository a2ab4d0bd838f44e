/- Closed facts of the program: layouts of types, functions with bodies. Conditions: none. Printed by a program of this session. -/
import Derived.Test.YtbeocnhbbhidaaaProg
import Derived.Test.YtbeocnhbbhidaaaEngCode
set_option linter.unusedVariables false
namespace Go.Proofs.Ytbeocnhbbhidaaa
open Go.RowKit Go.Proofs.Ytbeocnhbbhidaaa.E
theorem mixedA : Try.prog.follows .mixedOrders = true := by kernel_rfl
theorem agg_46 : aggB Try.prog 46 2 = true := by kernel_rfl
theorem arr_46 : arrB Try.prog 46 2 1 = true := by kernel_rfl
theorem arr_65 : arrB Try.prog 65 16 1 = true := by kernel_rfl
theorem bld_67_0 {x1 : Int} (w : World) : (Instr.build 67 #[(0, .int .i64 x1)]).run Try.prog w = .ok (.agg #[.int .i64 x1, .int .u64 0, .int .u64 0, .int .u64 0, .int .u64 0, .int .u64 0, .int .u64 0, .int .u64 0, .int .u64 0, .int .u64 0, .int .u64 0, .int .u64 0, .int .u64 0, .int .u64 0, .int .u64 0, .int .u64 0, .int .u64 0]) w := by kernel_rfl
theorem call_26 : callB Try.prog 26 = true := by kernel_rfl
theorem call_27 : callB Try.prog 27 = true := by kernel_rfl
theorem call_28 : callB Try.prog 28 = true := by kernel_rfl
theorem call_29 : callB Try.prog 29 = true := by kernel_rfl
theorem call_41 : callB Try.prog 41 = true := by kernel_rfl
theorem call_42 : callB Try.prog 42 = true := by kernel_rfl
theorem els_36 : elsB Try.prog 36 46 2 = true := by kernel_rfl
theorem fld_67_0 : fldB Try.prog 67 0 0 = true := by kernel_rfl
theorem fld_67_1 : fldB Try.prog 67 1 1 = true := by kernel_rfl
theorem one_3 : oneB Try.prog 3 = true := by kernel_rfl
theorem one_64 : oneB Try.prog 64 = true := by kernel_rfl
theorem sz_46 : szB Try.prog 46 2 = true := by kernel_rfl
theorem sz_64 : szB Try.prog 64 1 = true := by kernel_rfl
theorem zer_46 : zerL Try.prog 46 = some [.int .i64 0, .int .i64 0] := by kernel_rfl
end Go.Proofs.Ytbeocnhbbhidaaa

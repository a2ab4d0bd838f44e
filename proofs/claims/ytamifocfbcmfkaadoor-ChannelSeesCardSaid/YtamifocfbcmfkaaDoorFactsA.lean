/- Closed facts of the program: layouts of types, functions with bodies. Conditions: none. Printed by a program of this session. -/
import Derived.Test.YtamifocfbcmfkaaDoorProg
import Derived.Test.YtamifocfbcmfkaaDoorEngCode
set_option linter.unusedVariables false
namespace Go.Proofs.YtamifocfbcmfkaaDoor
open Go.RowKit Go.Proofs.YtamifocfbcmfkaaDoor.E
theorem mixedA : Tryd.prog.follows .mixedOrders = true := by kernel_rfl
theorem agg_90 : aggB Tryd.prog 90 2 = true := by kernel_rfl
theorem arr_90 : arrB Tryd.prog 90 2 1 = true := by kernel_rfl
theorem arr_92 : arrB Tryd.prog 92 16 1 = true := by kernel_rfl
theorem bld_94_0 {x1 : Int} (w : World) : (Instr.build 94 #[(0, .int .i64 x1)]).run Tryd.prog w = .ok (.agg #[.int .i64 x1, .int .u64 0, .int .u64 0, .int .u64 0, .int .u64 0, .int .u64 0, .int .u64 0, .int .u64 0, .int .u64 0, .int .u64 0, .int .u64 0, .int .u64 0, .int .u64 0, .int .u64 0, .int .u64 0, .int .u64 0, .int .u64 0]) w := by kernel_rfl
theorem call_21 : callB Tryd.prog 21 = true := by kernel_rfl
theorem call_23 : callB Tryd.prog 23 = true := by kernel_rfl
theorem call_36 : callB Tryd.prog 36 = true := by kernel_rfl
theorem call_43 : callB Tryd.prog 43 = true := by kernel_rfl
theorem call_53 : callB Tryd.prog 53 = true := by kernel_rfl
theorem call_54 : callB Tryd.prog 54 = true := by kernel_rfl
theorem els_22 : elsB Tryd.prog 22 90 2 = true := by kernel_rfl
theorem fld_94_0 : fldB Tryd.prog 94 0 0 = true := by kernel_rfl
theorem fld_94_1 : fldB Tryd.prog 94 1 1 = true := by kernel_rfl
theorem one_3 : oneB Tryd.prog 3 = true := by kernel_rfl
theorem one_91 : oneB Tryd.prog 91 = true := by kernel_rfl
theorem sz_90 : szB Tryd.prog 90 2 = true := by kernel_rfl
theorem sz_91 : szB Tryd.prog 91 1 = true := by kernel_rfl
theorem zer_90 : zerL Tryd.prog 90 = some [.int .i64 0, .int .i64 0] := by kernel_rfl
end Go.Proofs.YtamifocfbcmfkaaDoor

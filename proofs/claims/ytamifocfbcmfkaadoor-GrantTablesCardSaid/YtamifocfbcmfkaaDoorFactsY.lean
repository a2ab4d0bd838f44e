/- Closed facts of the program: layouts of types, functions with bodies. Conditions: none. Printed by a program of this session. -/
import Derived.Test.YtamifocfbcmfkaaDoorProg
import Derived.Test.YtamifocfbcmfkaaDoorEngAny
set_option linter.unusedVariables false
namespace Go.Proofs.YtamifocfbcmfkaaDoor
open Go.RowKit Go.Proofs.YtamifocfbcmfkaaDoor.E
theorem agg_126 : aggB Tryd.prog 126 3 = true := by kernel_rfl
theorem call_58 : callB Tryd.prog 58 = true := by kernel_rfl
theorem call_59 : callB Tryd.prog 59 = true := by kernel_rfl
theorem call_78 : callB Tryd.prog 78 = true := by kernel_rfl
theorem call_82 : callB Tryd.prog 82 = true := by kernel_rfl
theorem fld_96_1 : fldB Tryd.prog 96 1 1 = true := by kernel_rfl
theorem one_120 : oneB Tryd.prog 120 = true := by kernel_rfl
theorem one_28 : oneB Tryd.prog 28 = true := by kernel_rfl
theorem sz_126 : szB Tryd.prog 126 3 = true := by kernel_rfl
theorem zer_126 : zerL Tryd.prog 126 = some [.pointer none, .pointer none, .int .u64 0] := by kernel_rfl
theorem zer_28 : zerL Tryd.prog 28 = some [.int .i64 0] := by kernel_rfl
end Go.Proofs.YtamifocfbcmfkaaDoor

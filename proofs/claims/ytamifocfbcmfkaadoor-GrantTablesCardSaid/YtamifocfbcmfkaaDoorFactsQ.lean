/- Closed facts of the program: layouts of types, functions with bodies. Conditions: none. Printed by a program of this session. -/
import Derived.Test.YtamifocfbcmfkaaDoorProg
import Derived.Test.YtamifocfbcmfkaaDoorEngAny
set_option linter.unusedVariables false
namespace Go.Proofs.YtamifocfbcmfkaaDoor
open Go.RowKit Go.Proofs.YtamifocfbcmfkaaDoor.E
theorem call_31 : callB Tryd.prog 31 = true := by kernel_rfl
theorem call_32 : callB Tryd.prog 32 = true := by kernel_rfl
theorem call_33 : callB Tryd.prog 33 = true := by kernel_rfl
theorem call_63 : callB Tryd.prog 63 = true := by kernel_rfl
end Go.Proofs.YtamifocfbcmfkaaDoor

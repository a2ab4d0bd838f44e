/- Closed facts of the program: layouts of types, functions with bodies. Conditions: none. Printed by a program of this session. -/
import Derived.Test.YtamifocfbcmfkaaDoorProg
import Derived.Test.YtamifocfbcmfkaaDoorEngAny
set_option linter.unusedVariables false
namespace Go.Proofs.YtamifocfbcmfkaaDoor
open Go.RowKit Go.Proofs.YtamifocfbcmfkaaDoor.E
theorem arr_80 : arrB Tryd.prog 80 3 1 = true := by kernel_rfl
theorem bsl_118_1_0 {x1 : Int} (w : World) : (Instr.buildSlice 118 1 #[(0, .int .u8 x1)]).run Tryd.prog w = .ok (.slice (some ⟨w.heap.size, 0, none⟩) 1 1) (w.alloc (.cells #[.int .u8 x1] 5)) := by kernel_rfl
theorem call_38 : callB Tryd.prog 38 = true := by kernel_rfl
theorem call_42 : callB Tryd.prog 42 = true := by kernel_rfl
theorem call_45 : callB Tryd.prog 45 = true := by kernel_rfl
theorem call_46 : callB Tryd.prog 46 = true := by kernel_rfl
theorem call_47 : callB Tryd.prog 47 = true := by kernel_rfl
theorem call_48 : callB Tryd.prog 48 = true := by kernel_rfl
theorem call_49 : callB Tryd.prog 49 = true := by kernel_rfl
theorem call_50 : callB Tryd.prog 50 = true := by kernel_rfl
theorem call_57 : callB Tryd.prog 57 = true := by kernel_rfl
theorem call_71 : callB Tryd.prog 71 = true := by kernel_rfl
theorem call_72 : callB Tryd.prog 72 = true := by kernel_rfl
theorem call_83 : callB Tryd.prog 83 = true := by kernel_rfl
theorem call_84 : callB Tryd.prog 84 = true := by kernel_rfl
end Go.Proofs.YtamifocfbcmfkaaDoor

/- Closed facts of the program: layouts of types, functions with bodies. Conditions: none. Printed by a program of this session. -/
import Derived.Test.YtamifocfbcmfkaaDoorProg
import Derived.Test.YtamifocfbcmfkaaDoorEngAny
set_option linter.unusedVariables false
namespace Go.Proofs.YtamifocfbcmfkaaDoor
open Go.RowKit Go.Proofs.YtamifocfbcmfkaaDoor.E
theorem bsl_59_0_  (w : World) : (Instr.buildSlice 59 0 #[]).run Tryd.prog w = .ok (.slice (some ⟨w.heap.size, 0, none⟩) 0 0) (w.alloc (.cells #[] 65)) := by kernel_rfl
theorem bsl_72_0_  (w : World) : (Instr.buildSlice 72 0 #[]).run Tryd.prog w = .ok (.slice (some ⟨w.heap.size, 0, none⟩) 0 0) (w.alloc (.cells #[] 9)) := by kernel_rfl
theorem call_38 : callB Tryd.prog 38 = true := by kernel_rfl
theorem call_42 : callB Tryd.prog 42 = true := by kernel_rfl
theorem sz_3 : szB Tryd.prog 3 1 = true := by kernel_rfl
end Go.Proofs.YtamifocfbcmfkaaDoor

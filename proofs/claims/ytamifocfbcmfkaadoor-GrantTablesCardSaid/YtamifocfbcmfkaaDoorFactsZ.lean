/- Closed facts of the program: layouts of types, functions with bodies. Conditions: none. Printed by a program of this session. -/
import Derived.Test.YtamifocfbcmfkaaDoorProg
import Derived.Test.YtamifocfbcmfkaaDoorEngAny
set_option linter.unusedVariables false
namespace Go.Proofs.YtamifocfbcmfkaaDoor
open Go.RowKit Go.Proofs.YtamifocfbcmfkaaDoor.E
theorem bld_38_0 {x1 : ByteArray} (w : World) : (Instr.build 38 #[(0, .string x1)]).run Tryd.prog w = .ok (.agg #[.string x1, .int .i64 0, .int .i64 0]) w := by kernel_rfl
theorem bsl_118_1_0 {x1 : Int} (w : World) : (Instr.buildSlice 118 1 #[(0, .int .u8 x1)]).run Tryd.prog w = .ok (.slice (some ⟨w.heap.size, 0, none⟩) 1 1) (w.alloc (.cells #[.int .u8 x1] 5)) := by kernel_rfl
theorem call_28 : callB Tryd.prog 28 = true := by kernel_rfl
theorem call_29 : callB Tryd.prog 29 = true := by kernel_rfl
theorem call_57 : callB Tryd.prog 57 = true := by kernel_rfl
end Go.Proofs.YtamifocfbcmfkaaDoor

/- Closed facts of the program: layouts of types, functions with bodies. Conditions: none. Printed by a program of this session. -/
import Derived.Test.YtamifocfbcmfkaaDoorProg
import Derived.Test.YtamifocfbcmfkaaDoorEngAny
set_option linter.unusedVariables false
namespace Go.Proofs.YtamifocfbcmfkaaDoor
open Go.RowKit Go.Proofs.YtamifocfbcmfkaaDoor.E
theorem bld_38_0x1x2 {x1 : ByteArray} {x2 : Int} {x3 : Int} (w : World) : (Instr.build 38 #[(0, .string x1), (1, .int .i64 x2), (2, .int .i64 x3)]).run Tryd.prog w = .ok (.agg #[.string x1, .int .i64 x2, .int .i64 x3]) w := by kernel_rfl
theorem bsl_22_3_0x1x2 {x1 : Int} {x2 : Int} {x3 : Int} {x4 : Int} {x5 : Int} {x6 : Int} (w : World) : (Instr.buildSlice 22 3 #[(0, .agg #[.int .i64 x1, .int .i64 x2]), (1, .agg #[.int .i64 x3, .int .i64 x4]), (2, .agg #[.int .i64 x5, .int .i64 x6])]).run Tryd.prog w = .ok (.slice (some ⟨w.heap.size, 0, none⟩) 3 3) (w.alloc (.cells #[.int .i64 x1, .int .i64 x2, .int .i64 x3, .int .i64 x4, .int .i64 x5, .int .i64 x6] 90)) := by kernel_rfl
theorem bsl_25_1_0 {x1 : ByteArray} {x2 : Int} {x3 : Int} (w : World) : (Instr.buildSlice 25 1 #[(0, .agg #[.string x1, .int .i64 x2, .int .i64 x3])]).run Tryd.prog w = .ok (.slice (some ⟨w.heap.size, 0, none⟩) 1 1) (w.alloc (.cells #[.string x1, .int .i64 x2, .int .i64 x3] 38)) := by kernel_rfl
theorem call_17 : callB Tryd.prog 17 = true := by kernel_rfl
theorem call_19 : callB Tryd.prog 19 = true := by kernel_rfl
theorem call_20 : callB Tryd.prog 20 = true := by kernel_rfl
theorem call_22 : callB Tryd.prog 22 = true := by kernel_rfl
theorem call_24 : callB Tryd.prog 24 = true := by kernel_rfl
theorem call_25 : callB Tryd.prog 25 = true := by kernel_rfl
theorem call_27 : callB Tryd.prog 27 = true := by kernel_rfl
end Go.Proofs.YtamifocfbcmfkaaDoor

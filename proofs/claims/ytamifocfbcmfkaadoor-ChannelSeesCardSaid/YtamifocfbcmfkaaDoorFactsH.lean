/- Closed facts of the program: layouts of types, functions with bodies. Conditions: none. Printed by a program of this session. -/
import Derived.Test.YtamifocfbcmfkaaDoorProg
import Derived.Test.YtamifocfbcmfkaaDoorChanA
set_option linter.unusedVariables false
namespace Go.Proofs.YtamifocfbcmfkaaDoor
open Go.RowKit Go.Proofs.YtamifocfbcmfkaaDoor.E
theorem agg_24 : aggB Tryd.prog 24 2 = true := by kernel_rfl
theorem bld_65_0x1x2 {x1 : Int} {x2 : Int} {x3 : ByteArray} (w : World) : (Instr.build 65 #[(0, .int .i64 x1), (1, .int .i64 x2), (2, .string x3)]).run Tryd.prog w = .ok (.agg #[.int .i64 x1, .int .i64 x2, .string x3]) w := by kernel_rfl
theorem bld_90_0x1 {x1 : Int} {x2 : Int} (w : World) : (Instr.build 90 #[(0, .int .i64 x1), (1, .int .i64 x2)]).run Tryd.prog w = .ok (.agg #[.int .i64 x1, .int .i64 x2]) w := by kernel_rfl
theorem bsl_22_2_0x1 {x1 : Int} {x2 : Int} {x3 : Int} {x4 : Int} (w : World) : (Instr.buildSlice 22 2 #[(0, .agg #[.int .i64 x1, .int .i64 x2]), (1, .agg #[.int .i64 x3, .int .i64 x4])]).run Tryd.prog w = .ok (.slice (some ⟨w.heap.size, 0, none⟩) 2 2) (w.alloc (.cells #[.int .i64 x1, .int .i64 x2, .int .i64 x3, .int .i64 x4] 90)) := by kernel_rfl
theorem bsl_59_3_0x1x2 {x1 : Int} {x2 : Int} {x3 : ByteArray} {x4 : Int} {x5 : Int} {x6 : ByteArray} {x7 : Int} {x8 : Int} {x9 : ByteArray} (w : World) : (Instr.buildSlice 59 3 #[(0, .agg #[.int .i64 x1, .int .i64 x2, .string x3]), (1, .agg #[.int .i64 x4, .int .i64 x5, .string x6]), (2, .agg #[.int .i64 x7, .int .i64 x8, .string x9])]).run Tryd.prog w = .ok (.slice (some ⟨w.heap.size, 0, none⟩) 3 3) (w.alloc (.cells #[.int .i64 x1, .int .i64 x2, .string x3, .int .i64 x4, .int .i64 x5, .string x6, .int .i64 x7, .int .i64 x8, .string x9] 65)) := by kernel_rfl
theorem call_18 : callB Tryd.prog 18 = true := by kernel_rfl
theorem call_26 : callB Tryd.prog 26 = true := by kernel_rfl
theorem call_30 : callB Tryd.prog 30 = true := by kernel_rfl
theorem call_34 : callB Tryd.prog 34 = true := by kernel_rfl
theorem call_35 : callB Tryd.prog 35 = true := by kernel_rfl
theorem call_37 : callB Tryd.prog 37 = true := by kernel_rfl
theorem call_39 : callB Tryd.prog 39 = true := by kernel_rfl
theorem call_40 : callB Tryd.prog 40 = true := by kernel_rfl
theorem call_41 : callB Tryd.prog 41 = true := by kernel_rfl
theorem fld_24_0 : fldB Tryd.prog 24 0 0 = true := by kernel_rfl
theorem fld_24_1 : fldB Tryd.prog 24 1 1 = true := by kernel_rfl
theorem one_22 : oneB Tryd.prog 22 = true := by kernel_rfl
end Go.Proofs.YtamifocfbcmfkaaDoor

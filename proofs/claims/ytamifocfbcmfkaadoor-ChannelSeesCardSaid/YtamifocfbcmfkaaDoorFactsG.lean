/- Closed facts of the program: layouts of types, functions with bodies. Conditions: none. Printed by a program of this session. -/
import Derived.Test.YtamifocfbcmfkaaDoorProg
import Derived.Test.YtamifocfbcmfkaaDoorLattA
set_option linter.unusedVariables false
namespace Go.Proofs.YtamifocfbcmfkaaDoor
open Go.RowKit Go.Proofs.YtamifocfbcmfkaaDoor.E
theorem agg_65 : aggB Tryd.prog 65 3 = true := by kernel_rfl
theorem bsl_59_1_0 {x1 : Int} {x2 : Int} {x3 : ByteArray} (w : World) : (Instr.buildSlice 59 1 #[(0, .agg #[.int .i64 x1, .int .i64 x2, .string x3])]).run Tryd.prog w = .ok (.slice (some ⟨w.heap.size, 0, none⟩) 1 1) (w.alloc (.cells #[.int .i64 x1, .int .i64 x2, .string x3] 65)) := by kernel_rfl
theorem bsl_72_1_0 {x1 : ByteArray} (w : World) : (Instr.buildSlice 72 1 #[(0, .string x1)]).run Tryd.prog w = .ok (.slice (some ⟨w.heap.size, 0, none⟩) 1 1) (w.alloc (.cells #[.string x1] 9)) := by kernel_rfl
theorem call_55 : callB Tryd.prog 55 = true := by kernel_rfl
theorem call_66 : callB Tryd.prog 66 = true := by kernel_rfl
theorem call_67 : callB Tryd.prog 67 = true := by kernel_rfl
theorem call_68 : callB Tryd.prog 68 = true := by kernel_rfl
theorem call_69 : callB Tryd.prog 69 = true := by kernel_rfl
theorem call_70 : callB Tryd.prog 70 = true := by kernel_rfl
theorem els_59 : elsB Tryd.prog 59 65 3 = true := by kernel_rfl
theorem els_72 : elsB Tryd.prog 72 9 1 = true := by kernel_rfl
theorem fld_65_0 : fldB Tryd.prog 65 0 0 = true := by kernel_rfl
theorem fld_65_1 : fldB Tryd.prog 65 1 1 = true := by kernel_rfl
theorem fld_65_2 : fldB Tryd.prog 65 2 2 = true := by kernel_rfl
theorem one_27 : oneB Tryd.prog 27 = true := by kernel_rfl
theorem one_9 : oneB Tryd.prog 9 = true := by kernel_rfl
theorem row_59 : rowB Tryd.prog 59 65 3 32 = true := by kernel_rfl
theorem row_72 : rowB Tryd.prog 72 9 1 16 = true := by kernel_rfl
theorem sz_65 : szB Tryd.prog 65 3 = true := by kernel_rfl
theorem zer_65 : zerL Tryd.prog 65 = some [.int .i64 0, .int .i64 0, .string ⟨#[]⟩] := by kernel_rfl
end Go.Proofs.YtamifocfbcmfkaaDoor

/- Closed facts of the program: layouts of types, functions with bodies. Conditions: none. Printed by a program of this session. -/
import Derived.Test.YtdbeiaohibgmeaaProg
import Derived.Test.YtdbeiaohibgmeaaEngMake
set_option linter.unusedVariables false
namespace Go.Proofs.Ytdbeiaohibgmeaa
open Go.RowKit Go.Proofs.Ytdbeiaohibgmeaa.E
theorem arr_81 : arrB Try.prog 81 256 1 = true := by kernel_rfl
theorem bsl_46_1_0 {x1 : ByteArray} (w : World) : (Instr.buildSlice 46 1 #[(0, .string x1)]).run Try.prog w = .ok (.slice (some ⟨w.heap.size, 0, none⟩) 1 1) (w.alloc (.cells #[.string x1] 9)) := by kernel_rfl
theorem bsl_65_1_0 {x1 : Int} (w : World) : (Instr.buildSlice 65 1 #[(0, .int .u8 x1)]).run Try.prog w = .ok (.slice (some ⟨w.heap.size, 0, none⟩) 1 1) (w.alloc (.cells #[.int .u8 x1] 5)) := by kernel_rfl
theorem els_46 : elsB Try.prog 46 9 1 = true := by kernel_rfl
theorem fld_62_2 : fldB Try.prog 62 2 4 = true := by kernel_rfl
theorem fld_83_0 : fldB Try.prog 83 0 0 = true := by kernel_rfl
theorem fld_83_1 : fldB Try.prog 83 1 256 = true := by kernel_rfl
theorem one_46 : oneB Try.prog 46 = true := by kernel_rfl
theorem one_65 : oneB Try.prog 65 = true := by kernel_rfl
theorem one_9 : oneB Try.prog 9 = true := by kernel_rfl
theorem row_46 : rowB Try.prog 46 9 1 16 = true := by kernel_rfl
theorem sz_46 : szB Try.prog 46 1 = true := by kernel_rfl
theorem sz_65 : szB Try.prog 65 1 = true := by kernel_rfl
theorem sz_83 : szB Try.prog 83 257 = true := by kernel_rfl
end Go.Proofs.Ytdbeiaohibgmeaa

/- Closed facts of the program: layouts of types, functions with bodies. Conditions: none. Printed by a program of this session. -/
import Derived.Test.YtdbeiaohibgmeaaProg
import Derived.Test.YtdbeiaohibgmeaaEngMake
set_option linter.unusedVariables false
namespace Go.Proofs.Ytdbeiaohibgmeaa
open Go.RowKit Go.Proofs.Ytdbeiaohibgmeaa.E
theorem bsl_46_6_0x1x2x3x4x5 {x1 : ByteArray} {x2 : ByteArray} {x3 : ByteArray} {x4 : ByteArray} {x5 : ByteArray} {x6 : ByteArray} (w : World) : (Instr.buildSlice 46 6 #[(0, .string x1), (1, .string x2), (2, .string x3), (3, .string x4), (4, .string x5), (5, .string x6)]).run Try.prog w = .ok (.slice (some ⟨w.heap.size, 0, none⟩) 6 6) (w.alloc (.cells #[.string x1, .string x2, .string x3, .string x4, .string x5, .string x6] 9)) := by kernel_rfl
theorem call_103 : callB Try.prog 103 = true := by kernel_rfl
theorem call_11 : callB Try.prog 11 = true := by kernel_rfl
theorem call_16 : callB Try.prog 16 = true := by kernel_rfl
theorem call_17 : callB Try.prog 17 = true := by kernel_rfl
theorem call_30 : callB Try.prog 30 = true := by kernel_rfl
theorem els_65 : elsB Try.prog 65 5 1 = true := by kernel_rfl
theorem fld_62_0 : fldB Try.prog 62 0 0 = true := by kernel_rfl
theorem one_60 : oneB Try.prog 60 = true := by kernel_rfl
theorem row_65 : rowB Try.prog 65 5 1 1 = true := by kernel_rfl
theorem sz_5 : szB Try.prog 5 1 = true := by kernel_rfl
theorem zer_5 : zerL Try.prog 5 = some [.int .u8 0] := by kernel_rfl
end Go.Proofs.Ytdbeiaohibgmeaa

/- Closed facts of the program: layouts of types, functions with bodies. Conditions: none. Printed by a program of this session. -/
import Derived.Test.YtdbeiaohibgmeaaProg
import Derived.Test.YtdbeiaohibgmeaaEngMake
set_option linter.unusedVariables false
namespace Go.Proofs.Ytdbeiaohibgmeaa
open Go.RowKit Go.Proofs.Ytdbeiaohibgmeaa.E
theorem bsl_24_1_0 {x1 : Int} {x2 : ByteArray} {x3 : Int} {x4 : Bool} {x5 : Bool} (w : World) : (Instr.buildSlice 24 1 #[(0, .agg #[.int .i64 x1, .string x2, .int .i64 x3, .bool x4, .bool x5])]).run Try.prog w = .ok (.slice (some ⟨w.heap.size, 0, none⟩) 1 1) (w.alloc (.cells #[.int .i64 x1, .string x2, .int .i64 x3, .bool x4, .bool x5] 31)) := by kernel_rfl
theorem call_14 : callB Try.prog 14 = true := by kernel_rfl
theorem call_15 : callB Try.prog 15 = true := by kernel_rfl
theorem fld_31_4 : fldB Try.prog 31 4 4 = true := by kernel_rfl
theorem row_24 : rowB Try.prog 24 31 5 40 = true := by kernel_rfl
theorem sz_4 : szB Try.prog 4 1 = true := by kernel_rfl
end Go.Proofs.Ytdbeiaohibgmeaa

/- Closed facts of the program: layouts of types, functions with bodies. Conditions: none. Printed by a program of this session. -/
import Derived.Test.YtdbeiaohibgmeaaProg
import Derived.Test.YtdbeiaohibgmeaaEngMake
set_option linter.unusedVariables false
namespace Go.Proofs.Ytdbeiaohibgmeaa
open Go.RowKit Go.Proofs.Ytdbeiaohibgmeaa.E
theorem bld_31_0 {x1 : Int} (w : World) : (Instr.build 31 #[(0, .int .i64 x1)]).run Try.prog w = .ok (.agg #[.int .i64 x1, .string ⟨#[]⟩, .int .i64 0, .bool false, .bool false]) w := by kernel_rfl
theorem call_26 : callB Try.prog 26 = true := by kernel_rfl
theorem call_27 : callB Try.prog 27 = true := by kernel_rfl
theorem call_29 : callB Try.prog 29 = true := by kernel_rfl
theorem fld_31_0 : fldB Try.prog 31 0 0 = true := by kernel_rfl
theorem fld_31_1 : fldB Try.prog 31 1 1 = true := by kernel_rfl
theorem sz_3 : szB Try.prog 3 1 = true := by kernel_rfl
theorem sz_9 : szB Try.prog 9 1 = true := by kernel_rfl
end Go.Proofs.Ytdbeiaohibgmeaa

/- Closed facts of the program: layouts of types, functions with bodies. Conditions: none. Printed by a program of this session. -/
import Derived.Test.YtdbeiaohibgmeaaProg
import Derived.Test.YtdbeiaohibgmeaaEngMake
set_option linter.unusedVariables false
namespace Go.Proofs.Ytdbeiaohibgmeaa
open Go.RowKit Go.Proofs.Ytdbeiaohibgmeaa.E
theorem bld_44_0x1 {x1 : ByteArray} {x2 : Int} (w : World) : (Instr.build 44 #[(0, .string x1), (1, .int .i64 x2)]).run Try.prog w = .ok (.agg #[.string x1, .int .i64 x2]) w := by kernel_rfl
theorem call_22 : callB Try.prog 22 = true := by kernel_rfl
theorem call_23 : callB Try.prog 23 = true := by kernel_rfl
theorem call_34 : callB Try.prog 34 = true := by kernel_rfl
theorem call_39 : callB Try.prog 39 = true := by kernel_rfl
end Go.Proofs.Ytdbeiaohibgmeaa

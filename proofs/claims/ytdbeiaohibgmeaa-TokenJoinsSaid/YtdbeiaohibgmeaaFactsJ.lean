/- Closed facts of the program: layouts of types, functions with bodies. Conditions: none. Printed by a program of this session. -/
import Derived.Test.YtdbeiaohibgmeaaProg
import Derived.Test.YtdbeiaohibgmeaaEngMake
set_option linter.unusedVariables false
namespace Go.Proofs.Ytdbeiaohibgmeaa
open Go.RowKit Go.Proofs.Ytdbeiaohibgmeaa.E
theorem bld_31_0x1x3 {x1 : Int} {x2 : ByteArray} {x3 : Bool} (w : World) : (Instr.build 31 #[(0, .int .i64 x1), (1, .string x2), (3, .bool x3)]).run Try.prog w = .ok (.agg #[.int .i64 x1, .string x2, .int .i64 0, .bool x3, .bool false]) w := by kernel_rfl
theorem call_32 : callB Try.prog 32 = true := by kernel_rfl
end Go.Proofs.Ytdbeiaohibgmeaa

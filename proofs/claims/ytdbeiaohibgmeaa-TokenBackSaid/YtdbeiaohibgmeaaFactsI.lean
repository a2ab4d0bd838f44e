/- Closed facts of the program: layouts of types, functions with bodies. Conditions: none. Printed by a program of this session. -/
import Derived.Test.YtdbeiaohibgmeaaProg
import Derived.Test.YtdbeiaohibgmeaaEngMake
set_option linter.unusedVariables false
namespace Go.Proofs.Ytdbeiaohibgmeaa
open Go.RowKit Go.Proofs.Ytdbeiaohibgmeaa.E
theorem agg_31 : aggB Try.prog 31 5 = true := by kernel_rfl
theorem bld_31_  (w : World) : (Instr.build 31 #[]).run Try.prog w = .ok (.agg #[.int .i64 0, .string ⟨#[]⟩, .int .i64 0, .bool false, .bool false]) w := by kernel_rfl
theorem bld_31_0x2 {x1 : Int} {x2 : Int} (w : World) : (Instr.build 31 #[(0, .int .i64 x1), (2, .int .i64 x2)]).run Try.prog w = .ok (.agg #[.int .i64 x1, .string ⟨#[]⟩, .int .i64 x2, .bool false, .bool false]) w := by kernel_rfl
theorem call_13 : callB Try.prog 13 = true := by kernel_rfl
theorem one_5 : oneB Try.prog 5 = true := by kernel_rfl
theorem sz_31 : szB Try.prog 31 5 = true := by kernel_rfl
theorem zer_31 : zerL Try.prog 31 = some [.int .i64 0, .string ⟨#[]⟩, .int .i64 0, .bool false, .bool false] := by kernel_rfl
end Go.Proofs.Ytdbeiaohibgmeaa

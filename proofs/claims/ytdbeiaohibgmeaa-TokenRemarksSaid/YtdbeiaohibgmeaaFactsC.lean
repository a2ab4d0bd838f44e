/- Closed facts of the program: layouts of types, functions with bodies. Conditions: none. Printed by a program of this session. -/
import Derived.Test.YtdbeiaohibgmeaaProg
import Derived.Test.YtdbeiaohibgmeaaEngMake
set_option linter.unusedVariables false
namespace Go.Proofs.Ytdbeiaohibgmeaa
open Go.RowKit Go.Proofs.Ytdbeiaohibgmeaa.E
theorem bld_62_2 {x1 : Option Addr} {x2 : Nat} {x3 : Nat} (w : World) : (Instr.build 62 #[(2, .slice x1 x2 x3)]).run Try.prog w = .ok (.agg #[.int .u32 0, .int .i32 0, .int .u32 0, .nilIface, .slice x1 x2 x3]) w := by kernel_rfl
theorem call_31 : callB Try.prog 31 = true := by kernel_rfl
theorem call_35 : callB Try.prog 35 = true := by kernel_rfl
theorem call_36 : callB Try.prog 36 = true := by kernel_rfl
theorem call_37 : callB Try.prog 37 = true := by kernel_rfl
theorem call_41 : callB Try.prog 41 = true := by kernel_rfl
theorem call_42 : callB Try.prog 42 = true := by kernel_rfl
theorem call_43 : callB Try.prog 43 = true := by kernel_rfl
theorem fld_58_1 : fldB Try.prog 58 1 0 = true := by kernel_rfl
theorem fld_58_2 : fldB Try.prog 58 2 1 = true := by kernel_rfl
theorem fld_62_1 : fldB Try.prog 62 1 3 = true := by kernel_rfl
theorem sz_60 : szB Try.prog 60 1 = true := by kernel_rfl
end Go.Proofs.Ytdbeiaohibgmeaa

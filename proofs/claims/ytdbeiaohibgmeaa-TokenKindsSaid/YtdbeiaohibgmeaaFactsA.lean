/- Closed facts of the program: layouts of types, functions with bodies. Conditions: none. Printed by a program of this session. -/
import Derived.Test.YtdbeiaohibgmeaaProg
import Derived.Test.YtdbeiaohibgmeaaEngMake
set_option linter.unusedVariables false
namespace Go.Proofs.Ytdbeiaohibgmeaa
open Go.RowKit Go.Proofs.Ytdbeiaohibgmeaa.E
theorem mixed : Try.prog.follows .mixedOrders = true := by kernel_rfl
theorem call_46 : callB Try.prog 46 = true := by kernel_rfl
theorem call_47 : callB Try.prog 47 = true := by kernel_rfl
theorem call_49 : callB Try.prog 49 = true := by kernel_rfl
theorem fld_52_1 : fldB Try.prog 52 1 0 = true := by kernel_rfl
theorem fld_54_0 : fldB Try.prog 54 0 0 = true := by kernel_rfl
theorem fld_56_1 : fldB Try.prog 56 1 0 = true := by kernel_rfl
theorem one_21 : oneB Try.prog 21 = true := by kernel_rfl
end Go.Proofs.Ytdbeiaohibgmeaa

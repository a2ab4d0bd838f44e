/- Closed facts of the program: layouts of types, functions with bodies. Conditions: none. Printed by a program of this session. -/
import Derived.Test.YtdbeiaohibgmeaaProg
import Derived.Test.YtdbeiaohibgmeaaEngMake
set_option linter.unusedVariables false
namespace Go.Proofs.Ytdbeiaohibgmeaa
open Go.RowKit Go.Proofs.Ytdbeiaohibgmeaa.E
theorem call_10 : callB Try.prog 10 = true := by kernel_rfl
theorem call_9 : callB Try.prog 9 = true := by kernel_rfl
theorem els_24 : elsB Try.prog 24 31 5 = true := by kernel_rfl
theorem fld_31_2 : fldB Try.prog 31 2 2 = true := by kernel_rfl
theorem one_2 : oneB Try.prog 2 = true := by kernel_rfl
theorem one_3 : oneB Try.prog 3 = true := by kernel_rfl
theorem one_4 : oneB Try.prog 4 = true := by kernel_rfl
end Go.Proofs.Ytdbeiaohibgmeaa

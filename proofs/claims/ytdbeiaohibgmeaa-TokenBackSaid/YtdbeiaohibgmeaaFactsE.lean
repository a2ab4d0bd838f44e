/- Closed facts of the program: layouts of types, functions with bodies. Conditions: none. Printed by a program of this session. -/
import Derived.Test.YtdbeiaohibgmeaaProg
import Derived.Test.YtdbeiaohibgmeaaEngMake
set_option linter.unusedVariables false
namespace Go.Proofs.Ytdbeiaohibgmeaa
open Go.RowKit Go.Proofs.Ytdbeiaohibgmeaa.E
theorem call_18 : callB Try.prog 18 = true := by kernel_rfl
theorem call_19 : callB Try.prog 19 = true := by kernel_rfl
theorem call_20 : callB Try.prog 20 = true := by kernel_rfl
theorem call_21 : callB Try.prog 21 = true := by kernel_rfl
theorem call_24 : callB Try.prog 24 = true := by kernel_rfl
theorem call_25 : callB Try.prog 25 = true := by kernel_rfl
theorem call_28 : callB Try.prog 28 = true := by kernel_rfl
theorem call_33 : callB Try.prog 33 = true := by kernel_rfl
end Go.Proofs.Ytdbeiaohibgmeaa

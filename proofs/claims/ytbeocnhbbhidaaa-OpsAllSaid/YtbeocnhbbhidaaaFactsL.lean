/- Closed facts of the program: layouts of types, functions with bodies. Conditions: none. Printed by a program of this session. -/
import Derived.Test.YtbeocnhbbhidaaaProg
import Derived.Test.YtbeocnhbbhidaaaFacts
set_option linter.unusedVariables false
namespace Go.Proofs.Ytbeocnhbbhidaaa
open Go.RowKit Go.Proofs.Ytbeocnhbbhidaaa.E
theorem call_16 : callB Try.prog 16 = true := by kernel_rfl
theorem call_17 : callB Try.prog 17 = true := by kernel_rfl
theorem call_18 : callB Try.prog 18 = true := by kernel_rfl
theorem call_19 : callB Try.prog 19 = true := by kernel_rfl
theorem call_20 : callB Try.prog 20 = true := by kernel_rfl
end Go.Proofs.Ytbeocnhbbhidaaa

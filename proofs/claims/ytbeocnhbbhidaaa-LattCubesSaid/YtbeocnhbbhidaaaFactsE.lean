/- Closed facts of the program: layouts of types, functions with bodies. Conditions: none. Printed by a program of this session. -/
import Derived.Test.YtbeocnhbbhidaaaProg
import Derived.Test.YtbeocnhbbhidaaaLattD
set_option linter.unusedVariables false
namespace Go.Proofs.Ytbeocnhbbhidaaa
open Go.RowKit Go.Proofs.Ytbeocnhbbhidaaa.E
end Go.Proofs.Ytbeocnhbbhidaaa

/- Closed facts of the program: layouts of types, functions with bodies. Conditions: none. Printed by a program of this session. -/
import Derived.Test.YtdbeiaohibgmeaaProg
import Derived.Test.YtdbeiaohibgmeaaEngMake
set_option linter.unusedVariables false
namespace Go.Proofs.Ytdbeiaohibgmeaa
open Go.RowKit Go.Proofs.Ytdbeiaohibgmeaa.E
end Go.Proofs.Ytdbeiaohibgmeaa

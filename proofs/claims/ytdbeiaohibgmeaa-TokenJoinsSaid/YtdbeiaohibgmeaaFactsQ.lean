/- Closed facts of the program: layouts of types, functions with bodies. Conditions: none. Printed by a program of this session. -/
import Derived.Test.YtdbeiaohibgmeaaProg
import Derived.Test.YtdbeiaohibgmeaaEngMake
set_option linter.unusedVariables false
namespace Go.Proofs.Ytdbeiaohibgmeaa
open Go.RowKit Go.Proofs.Ytdbeiaohibgmeaa.E
theorem bsl_24_0_  (w : World) : (Instr.buildSlice 24 0 #[]).run Try.prog w = .ok (.slice (some ⟨w.heap.size, 0, none⟩) 0 0) (w.alloc (.cells #[] 31)) := by kernel_rfl
theorem call_12 : callB Try.prog 12 = true := by kernel_rfl
theorem call_7 : callB Try.prog 7 = true := by kernel_rfl
theorem call_8 : callB Try.prog 8 = true := by kernel_rfl
end Go.Proofs.Ytdbeiaohibgmeaa

/- Closed facts of the program: layouts of types, functions with bodies. Conditions: none. Printed by a program of this session. -/
import Derived.Test.YtbeocnhbbhidaaaProg
import Derived.Test.YtbeocnhbbhidaaaLattC
set_option linter.unusedVariables false
namespace Go.Proofs.Ytbeocnhbbhidaaa
open Go.RowKit Go.Proofs.Ytbeocnhbbhidaaa.E
theorem bsl_36_0_  (w : World) : (Instr.buildSlice 36 0 #[]).run Try.prog w = .ok (.slice (some ⟨w.heap.size, 0, none⟩) 0 0) (w.alloc (.cells #[] 46)) := by kernel_rfl
theorem bsl_36_1_0 {x1 : Int} {x2 : Int} (w : World) : (Instr.buildSlice 36 1 #[(0, .agg #[.int .i64 x1, .int .i64 x2])]).run Try.prog w = .ok (.slice (some ⟨w.heap.size, 0, none⟩) 1 1) (w.alloc (.cells #[.int .i64 x1, .int .i64 x2] 46)) := by kernel_rfl
theorem call_31 : callB Try.prog 31 = true := by kernel_rfl
theorem call_32 : callB Try.prog 32 = true := by kernel_rfl
end Go.Proofs.Ytbeocnhbbhidaaa

/- Closed facts of the program: layouts of types, functions with bodies. Conditions: none. Printed by a program of this session. -/
import Derived.Test.YtbeocnhbbhidaaaProg
import Derived.Test.YtbeocnhbbhidaaaLattB
set_option linter.unusedVariables false
namespace Go.Proofs.Ytbeocnhbbhidaaa
open Go.RowKit Go.Proofs.Ytbeocnhbbhidaaa.E
theorem bsl_36_2_0x1 {x1 : Int} {x2 : Int} {x3 : Int} {x4 : Int} (w : World) : (Instr.buildSlice 36 2 #[(0, .agg #[.int .i64 x1, .int .i64 x2]), (1, .agg #[.int .i64 x3, .int .i64 x4])]).run Try.prog w = .ok (.slice (some ⟨w.heap.size, 0, none⟩) 2 2) (w.alloc (.cells #[.int .i64 x1, .int .i64 x2, .int .i64 x3, .int .i64 x4] 46)) := by kernel_rfl
theorem row_36 : rowB Try.prog 36 46 2 16 = true := by kernel_rfl
end Go.Proofs.Ytbeocnhbbhidaaa

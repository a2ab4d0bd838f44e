/- Closed facts of the program: layouts of types, functions with bodies. Conditions: none. Printed by a program of this session. -/
import Derived.Test.YtbeocnhbbhidaaaProg
import Derived.Test.YtbeocnhbbhidaaaLattA
set_option linter.unusedVariables false
namespace Go.Proofs.Ytbeocnhbbhidaaa
open Go.RowKit Go.Proofs.Ytbeocnhbbhidaaa.E
theorem bld_46_0x1 {x1 : Int} {x2 : Int} (w : World) : (Instr.build 46 #[(0, .int .i64 x1), (1, .int .i64 x2)]).run Try.prog w = .ok (.agg #[.int .i64 x1, .int .i64 x2]) w := by kernel_rfl
theorem bsl_36_4_0x1x2x3 {x1 : Int} {x2 : Int} {x3 : Int} {x4 : Int} {x5 : Int} {x6 : Int} {x7 : Int} {x8 : Int} (w : World) : (Instr.buildSlice 36 4 #[(0, .agg #[.int .i64 x1, .int .i64 x2]), (1, .agg #[.int .i64 x3, .int .i64 x4]), (2, .agg #[.int .i64 x5, .int .i64 x6]), (3, .agg #[.int .i64 x7, .int .i64 x8])]).run Try.prog w = .ok (.slice (some ⟨w.heap.size, 0, none⟩) 4 4) (w.alloc (.cells #[.int .i64 x1, .int .i64 x2, .int .i64 x3, .int .i64 x4, .int .i64 x5, .int .i64 x6, .int .i64 x7, .int .i64 x8] 46)) := by kernel_rfl
theorem call_23 : callB Try.prog 23 = true := by kernel_rfl
theorem call_24 : callB Try.prog 24 = true := by kernel_rfl
theorem call_25 : callB Try.prog 25 = true := by kernel_rfl
end Go.Proofs.Ytbeocnhbbhidaaa

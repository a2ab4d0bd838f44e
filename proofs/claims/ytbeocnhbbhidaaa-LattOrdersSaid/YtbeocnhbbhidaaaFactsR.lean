/- Closed facts of the program: layouts of types, functions with bodies. Conditions: none. Printed by a program of this session. -/
import Derived.Test.YtbeocnhbbhidaaaProg
import Derived.Test.YtbeocnhbbhidaaaFactsA
set_option linter.unusedVariables false
namespace Go.Proofs.Ytbeocnhbbhidaaa
open Go.RowKit Go.Proofs.Ytbeocnhbbhidaaa.E
theorem agg_49 : aggB Try.prog 49 1 = true := by kernel_rfl
theorem bsl_47_1_0 {x1 : Option Addr} {x2 : Nat} {x3 : Nat} (w : World) : (Instr.buildSlice 47 1 #[(0, .slice x1 x2 x3)]).run Try.prog w = .ok (.slice (some ⟨w.heap.size, 0, none⟩) 1 1) (w.alloc (.cells #[.slice x1 x2 x3] 70)) := by kernel_rfl
theorem call_33 : callB Try.prog 33 = true := by kernel_rfl
theorem call_44 : callB Try.prog 44 = true := by kernel_rfl
theorem els_47 : elsB Try.prog 47 70 1 = true := by kernel_rfl
theorem els_70 : elsB Try.prog 70 4 1 = true := by kernel_rfl
theorem fld_49_0 : fldB Try.prog 49 0 0 = true := by kernel_rfl
theorem one_47 : oneB Try.prog 47 = true := by kernel_rfl
theorem one_4 : oneB Try.prog 4 = true := by kernel_rfl
theorem one_70 : oneB Try.prog 70 = true := by kernel_rfl
theorem row_47 : rowB Try.prog 47 70 1 24 = true := by kernel_rfl
theorem sz_4 : szB Try.prog 4 1 = true := by kernel_rfl
end Go.Proofs.Ytbeocnhbbhidaaa

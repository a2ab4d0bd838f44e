/- Closed facts of the program: layouts of types, functions with bodies. Conditions: none. Printed by a program of this session. -/
import Derived.Test.YtbeocnhbbhidaaaProg
import Derived.Test.YtbeocnhbbhidaaaLattR
import Derived.Test.YtbeocnhbbhidaaaLattB
set_option linter.unusedVariables false
namespace Go.Proofs.Ytbeocnhbbhidaaa
open Go.RowKit Go.Proofs.Ytbeocnhbbhidaaa.E
theorem bld_49_  (w : World) : (Instr.build 49 #[]).run Try.prog w = .ok (.agg #[.slice none 0 0]) w := by kernel_rfl
theorem bld_49_0 {x1 : Option Addr} {x2 : Nat} {x3 : Nat} (w : World) : (Instr.build 49 #[(0, .slice x1 x2 x3)]).run Try.prog w = .ok (.agg #[.slice x1 x2 x3]) w := by kernel_rfl
theorem call_30 : callB Try.prog 30 = true := by kernel_rfl
theorem call_31 : callB Try.prog 31 = true := by kernel_rfl
theorem call_32 : callB Try.prog 32 = true := by kernel_rfl
theorem call_34 : callB Try.prog 34 = true := by kernel_rfl
theorem call_35 : callB Try.prog 35 = true := by kernel_rfl
theorem call_36 : callB Try.prog 36 = true := by kernel_rfl
theorem call_37 : callB Try.prog 37 = true := by kernel_rfl
theorem call_43 : callB Try.prog 43 = true := by kernel_rfl
theorem sz_49 : szB Try.prog 49 1 = true := by kernel_rfl
theorem zer_49 : zerL Try.prog 49 = some [.slice none 0 0] := by kernel_rfl
end Go.Proofs.Ytbeocnhbbhidaaa

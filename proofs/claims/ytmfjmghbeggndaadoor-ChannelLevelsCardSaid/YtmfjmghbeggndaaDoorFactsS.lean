/- Closed facts of the program: layouts of types, functions with bodies. Conditions: none. Printed by a program of this session. -/
import Derived.Test.YtmfjmghbeggndaaDoorProg
import Derived.Test.YtmfjmghbeggndaaDoorLattR
import Derived.Test.YtmfjmghbeggndaaDoorLattN
set_option linter.unusedVariables false
namespace Go.Proofs.YtmfjmghbeggndaaDoor
open Go.RowKit Go.Proofs.YtmfjmghbeggndaaDoor.E
theorem bld_30_  (w : World) : (Instr.build 30 #[]).run Tryd.prog w = .ok (.agg #[.slice none 0 0]) w := by kernel_rfl
theorem bld_30_0 {x1 : Option Addr} {x2 : Nat} {x3 : Nat} (w : World) : (Instr.build 30 #[(0, .slice x1 x2 x3)]).run Tryd.prog w = .ok (.agg #[.slice x1 x2 x3]) w := by kernel_rfl
theorem call_65 : callB Tryd.prog 65 = true := by kernel_rfl
theorem call_71 : callB Tryd.prog 71 = true := by kernel_rfl
theorem call_72 : callB Tryd.prog 72 = true := by kernel_rfl
theorem sz_30 : szB Tryd.prog 30 1 = true := by kernel_rfl
theorem zer_30 : zerL Tryd.prog 30 = some [.slice none 0 0] := by kernel_rfl
end Go.Proofs.YtmfjmghbeggndaaDoor

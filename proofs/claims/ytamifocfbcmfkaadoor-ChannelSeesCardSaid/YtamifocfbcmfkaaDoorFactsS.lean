/- Closed facts of the program: layouts of types, functions with bodies. Conditions: none. Printed by a program of this session. -/
import Derived.Test.YtamifocfbcmfkaaDoorProg
import Derived.Test.YtamifocfbcmfkaaDoorLattR
import Derived.Test.YtamifocfbcmfkaaDoorLattN
set_option linter.unusedVariables false
namespace Go.Proofs.YtamifocfbcmfkaaDoor
open Go.RowKit Go.Proofs.YtamifocfbcmfkaaDoor.E
theorem bld_52_  (w : World) : (Instr.build 52 #[]).run Tryd.prog w = .ok (.agg #[.slice none 0 0]) w := by kernel_rfl
theorem bld_52_0 {x1 : Option Addr} {x2 : Nat} {x3 : Nat} (w : World) : (Instr.build 52 #[(0, .slice x1 x2 x3)]).run Tryd.prog w = .ok (.agg #[.slice x1 x2 x3]) w := by kernel_rfl
theorem call_60 : callB Tryd.prog 60 = true := by kernel_rfl
theorem call_61 : callB Tryd.prog 61 = true := by kernel_rfl
theorem call_62 : callB Tryd.prog 62 = true := by kernel_rfl
theorem sz_52 : szB Tryd.prog 52 1 = true := by kernel_rfl
theorem zer_52 : zerL Tryd.prog 52 = some [.slice none 0 0] := by kernel_rfl
end Go.Proofs.YtamifocfbcmfkaaDoor

/- Closed facts of the program: layouts of types, functions with bodies. Conditions: none. Printed by a program of this session. -/
import Derived.Test.YtamifocfbcmfkaaDoorProg
import Derived.Test.YtamifocfbcmfkaaDoorFactsA
set_option linter.unusedVariables false
namespace Go.Proofs.YtamifocfbcmfkaaDoor
open Go.RowKit Go.Proofs.YtamifocfbcmfkaaDoor.E
theorem agg_52 : aggB Tryd.prog 52 1 = true := by kernel_rfl
theorem bsl_50_1_0 {x1 : Option Addr} {x2 : Nat} {x3 : Nat} (w : World) : (Instr.buildSlice 50 1 #[(0, .slice x1 x2 x3)]).run Tryd.prog w = .ok (.slice (some ⟨w.heap.size, 0, none⟩) 1 1) (w.alloc (.cells #[.slice x1 x2 x3] 106)) := by kernel_rfl
theorem call_64 : callB Tryd.prog 64 = true := by kernel_rfl
theorem call_65 : callB Tryd.prog 65 = true := by kernel_rfl
theorem els_106 : elsB Tryd.prog 106 4 1 = true := by kernel_rfl
theorem els_50 : elsB Tryd.prog 50 106 1 = true := by kernel_rfl
theorem fld_52_0 : fldB Tryd.prog 52 0 0 = true := by kernel_rfl
theorem one_106 : oneB Tryd.prog 106 = true := by kernel_rfl
theorem one_4 : oneB Tryd.prog 4 = true := by kernel_rfl
theorem one_50 : oneB Tryd.prog 50 = true := by kernel_rfl
theorem row_50 : rowB Tryd.prog 50 106 1 24 = true := by kernel_rfl
theorem sz_4 : szB Tryd.prog 4 1 = true := by kernel_rfl
end Go.Proofs.YtamifocfbcmfkaaDoor

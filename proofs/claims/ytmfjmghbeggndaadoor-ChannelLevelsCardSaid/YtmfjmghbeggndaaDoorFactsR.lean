/- Closed facts of the program: layouts of types, functions with bodies. Conditions: none. Printed by a program of this session. -/
import Derived.Test.YtmfjmghbeggndaaDoorProg
import Derived.Test.YtmfjmghbeggndaaDoorFactsA
set_option linter.unusedVariables false
namespace Go.Proofs.YtmfjmghbeggndaaDoor
open Go.RowKit Go.Proofs.YtmfjmghbeggndaaDoor.E
theorem agg_30 : aggB Tryd.prog 30 1 = true := by kernel_rfl
theorem bsl_28_1_0 {x1 : Option Addr} {x2 : Nat} {x3 : Nat} (w : World) : (Instr.buildSlice 28 1 #[(0, .slice x1 x2 x3)]).run Tryd.prog w = .ok (.slice (some ⟨w.heap.size, 0, none⟩) 1 1) (w.alloc (.cells #[.slice x1 x2 x3] 115)) := by kernel_rfl
theorem call_64 : callB Tryd.prog 64 = true := by kernel_rfl
theorem call_74 : callB Tryd.prog 74 = true := by kernel_rfl
theorem els_115 : elsB Tryd.prog 115 4 1 = true := by kernel_rfl
theorem els_28 : elsB Tryd.prog 28 115 1 = true := by kernel_rfl
theorem fld_30_0 : fldB Tryd.prog 30 0 0 = true := by kernel_rfl
theorem one_115 : oneB Tryd.prog 115 = true := by kernel_rfl
theorem one_28 : oneB Tryd.prog 28 = true := by kernel_rfl
theorem one_4 : oneB Tryd.prog 4 = true := by kernel_rfl
theorem row_28 : rowB Tryd.prog 28 115 1 24 = true := by kernel_rfl
theorem sz_4 : szB Tryd.prog 4 1 = true := by kernel_rfl
end Go.Proofs.YtmfjmghbeggndaaDoor

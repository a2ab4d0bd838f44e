/- Closed facts of the program: layouts of types, functions with bodies. Conditions: none. Printed by a program of this session. -/
import Derived.Test.YtmfjmghbeggndaaDoorProg
import Derived.Test.YtmfjmghbeggndaaDoorLattA
set_option linter.unusedVariables false
namespace Go.Proofs.YtmfjmghbeggndaaDoor
open Go.RowKit Go.Proofs.YtmfjmghbeggndaaDoor.E
theorem agg_37 : aggB Tryd.prog 37 3 = true := by kernel_rfl
theorem bsl_25_1_0 {x1 : Int} {x2 : Int} {x3 : ByteArray} (w : World) : (Instr.buildSlice 25 1 #[(0, .agg #[.int .i64 x1, .int .i64 x2, .string x3])]).run Tryd.prog w = .ok (.slice (some ⟨w.heap.size, 0, none⟩) 1 1) (w.alloc (.cells #[.int .i64 x1, .int .i64 x2, .string x3] 37)) := by kernel_rfl
theorem bsl_45_1_0 {x1 : ByteArray} (w : World) : (Instr.buildSlice 45 1 #[(0, .string x1)]).run Tryd.prog w = .ok (.slice (some ⟨w.heap.size, 0, none⟩) 1 1) (w.alloc (.cells #[.string x1] 9)) := by kernel_rfl
theorem call_54 : callB Tryd.prog 54 = true := by kernel_rfl
theorem call_55 : callB Tryd.prog 55 = true := by kernel_rfl
theorem call_56 : callB Tryd.prog 56 = true := by kernel_rfl
theorem call_57 : callB Tryd.prog 57 = true := by kernel_rfl
theorem call_58 : callB Tryd.prog 58 = true := by kernel_rfl
theorem call_59 : callB Tryd.prog 59 = true := by kernel_rfl
theorem els_25 : elsB Tryd.prog 25 37 3 = true := by kernel_rfl
theorem els_45 : elsB Tryd.prog 45 9 1 = true := by kernel_rfl
theorem fld_37_0 : fldB Tryd.prog 37 0 0 = true := by kernel_rfl
theorem fld_37_1 : fldB Tryd.prog 37 1 1 = true := by kernel_rfl
theorem fld_37_2 : fldB Tryd.prog 37 2 2 = true := by kernel_rfl
theorem one_27 : oneB Tryd.prog 27 = true := by kernel_rfl
theorem one_9 : oneB Tryd.prog 9 = true := by kernel_rfl
theorem row_25 : rowB Tryd.prog 25 37 3 32 = true := by kernel_rfl
theorem row_45 : rowB Tryd.prog 45 9 1 16 = true := by kernel_rfl
theorem sz_37 : szB Tryd.prog 37 3 = true := by kernel_rfl
theorem zer_37 : zerL Tryd.prog 37 = some [.int .i64 0, .int .i64 0, .string ⟨#[]⟩] := by kernel_rfl
end Go.Proofs.YtmfjmghbeggndaaDoor

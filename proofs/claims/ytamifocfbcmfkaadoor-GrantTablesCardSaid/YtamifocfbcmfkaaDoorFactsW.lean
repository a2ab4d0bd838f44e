/- Closed facts of the program: layouts of types, functions with bodies. Conditions: none. Printed by a program of this session. -/
import Derived.Test.YtamifocfbcmfkaaDoorProg
import Derived.Test.YtamifocfbcmfkaaDoorEngAny
set_option linter.unusedVariables false
namespace Go.Proofs.YtamifocfbcmfkaaDoor
open Go.RowKit Go.Proofs.YtamifocfbcmfkaaDoor.E
theorem agg_38 : aggB Tryd.prog 38 3 = true := by kernel_rfl
theorem bld_100_0x1 {x1 : Option Addr} {x2 : Option Addr} {x3 : Nat} {x4 : Nat} (w : World) : (Instr.build 100 #[(0, .pointer x1), (1, .slice x2 x3 x4)]).run Tryd.prog w = .ok (.agg #[.pointer x1, .slice x2 x3 x4]) w := by kernel_rfl
theorem bld_96_0x1 {x1 : ByteArray} {x2 : Int} (w : World) : (Instr.build 96 #[(0, .string x1), (1, .int .i64 x2)]).run Tryd.prog w = .ok (.agg #[.string x1, .int .i64 x2]) w := by kernel_rfl
theorem bsl_25_0_  (w : World) : (Instr.buildSlice 25 0 #[]).run Tryd.prog w = .ok (.slice (some ⟨w.heap.size, 0, none⟩) 0 0) (w.alloc (.cells #[] 38)) := by kernel_rfl
theorem call_56 : callB Tryd.prog 56 = true := by kernel_rfl
theorem call_76 : callB Tryd.prog 76 = true := by kernel_rfl
theorem els_118 : elsB Tryd.prog 118 5 1 = true := by kernel_rfl
theorem els_25 : elsB Tryd.prog 25 38 3 = true := by kernel_rfl
theorem fld_100_0 : fldB Tryd.prog 100 0 0 = true := by kernel_rfl
theorem fld_100_1 : fldB Tryd.prog 100 1 1 = true := by kernel_rfl
theorem fld_38_0 : fldB Tryd.prog 38 0 0 = true := by kernel_rfl
theorem fld_38_1 : fldB Tryd.prog 38 1 1 = true := by kernel_rfl
theorem fld_38_2 : fldB Tryd.prog 38 2 2 = true := by kernel_rfl
theorem one_25 : oneB Tryd.prog 25 = true := by kernel_rfl
theorem one_5 : oneB Tryd.prog 5 = true := by kernel_rfl
theorem row_25 : rowB Tryd.prog 25 38 3 32 = true := by kernel_rfl
theorem sz_38 : szB Tryd.prog 38 3 = true := by kernel_rfl
theorem zer_38 : zerL Tryd.prog 38 = some [.string ⟨#[]⟩, .int .i64 0, .int .i64 0] := by kernel_rfl
end Go.Proofs.YtamifocfbcmfkaaDoor

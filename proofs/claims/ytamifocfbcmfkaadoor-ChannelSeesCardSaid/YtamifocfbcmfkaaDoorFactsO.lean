/- Closed facts of the program: layouts of types, functions with bodies. Conditions: none. Printed by a program of this session. -/
import Derived.Test.YtamifocfbcmfkaaDoorProg
import Derived.Test.YtamifocfbcmfkaaDoorEngAny
set_option linter.unusedVariables false
namespace Go.Proofs.YtamifocfbcmfkaaDoor
open Go.RowKit Go.Proofs.YtamifocfbcmfkaaDoor.E
theorem agg_79 : aggB Tryd.prog 79 4 = true := by kernel_rfl
theorem bsl_77_1_0 {x1 : Int} {x2 : Int} {x3 : ByteArray} {x4 : Option Addr} {x5 : Nat} {x6 : Nat} (w : World) : (Instr.buildSlice 77 1 #[(0, .agg #[.int .i64 x1, .int .i64 x2, .string x3, .slice x4 x5 x6])]).run Tryd.prog w = .ok (.slice (some ⟨w.heap.size, 0, none⟩) 1 1) (w.alloc (.cells #[.int .i64 x1, .int .i64 x2, .string x3, .slice x4 x5 x6] 79)) := by kernel_rfl
theorem call_25 : callB Tryd.prog 25 = true := by kernel_rfl
theorem call_44 : callB Tryd.prog 44 = true := by kernel_rfl
theorem call_51 : callB Tryd.prog 51 = true := by kernel_rfl
theorem call_52 : callB Tryd.prog 52 = true := by kernel_rfl
theorem call_73 : callB Tryd.prog 73 = true := by kernel_rfl
theorem call_74 : callB Tryd.prog 74 = true := by kernel_rfl
theorem els_77 : elsB Tryd.prog 77 79 4 = true := by kernel_rfl
theorem fld_79_0 : fldB Tryd.prog 79 0 0 = true := by kernel_rfl
theorem fld_79_1 : fldB Tryd.prog 79 1 1 = true := by kernel_rfl
theorem fld_79_3 : fldB Tryd.prog 79 3 3 = true := by kernel_rfl
theorem one_2 : oneB Tryd.prog 2 = true := by kernel_rfl
theorem one_77 : oneB Tryd.prog 77 = true := by kernel_rfl
theorem row_77 : rowB Tryd.prog 77 79 4 56 = true := by kernel_rfl
theorem sz_77 : szB Tryd.prog 77 1 = true := by kernel_rfl
theorem sz_79 : szB Tryd.prog 79 4 = true := by kernel_rfl
theorem zer_79 : zerL Tryd.prog 79 = some [.int .i64 0, .int .i64 0, .string ⟨#[]⟩, .slice none 0 0] := by kernel_rfl
end Go.Proofs.YtamifocfbcmfkaaDoor

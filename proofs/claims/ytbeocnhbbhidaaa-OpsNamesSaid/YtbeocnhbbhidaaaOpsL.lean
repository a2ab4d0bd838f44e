/- The laws on operators: each returns true, and turns nothing. Conditions: none. Printed by a program of this session. -/
import Derived.Test.YtbeocnhbbhidaaaOpsW
import Derived.Test.YtbeocnhbbhidaaaFactsL
set_option linter.unusedVariables false
set_option linter.unusedSimpArgs false
namespace Go.Proofs.Ytbeocnhbbhidaaa
open Go.RowKit Go.Proofs.Ytbeocnhbbhidaaa.E Go.Proofs.Ytbeocnhbbhidaaa.OpsP
theorem ret_true {b : Bool} (h : b = true) : Ending.returned (.bool b) = .returned (.bool true) := by rw [h]
set_option maxRecDepth 100000 in
theorem shown_c (h : Hp) : C0 Try.prog 16 [] h (.bool true) := by
  refine enter0 Try.func16 rfl rfl rfl (fun w => ?_)
  refine cy_seq ?_
  refine cy_region ?_
  refine sy_assign rfl rfl rfl ?_
  refine sy_nil rfl ?_
  refine ny_next ?_
  refine cy_seq ?_
  refine cy_region ?_
  refine sy_call rfl call_17 rfl (show C0 Try.prog 17 [.string ⟨#[45]⟩] _ (.tuple #[.int .i64 500, .int .i64 500, .int .i64 499, .bool true]) from infix_c _ _) rfl rfl ?_
  refine sy_move rfl rfl rfl ?_
  refine sy_extract rfl rfl rfl rfl ?_
  refine sy_extract rfl rfl rfl rfl ?_
  refine sy_extract rfl rfl rfl rfl ?_
  refine sy_extract rfl rfl rfl rfl ?_
  refine sy_assign rfl rfl rfl ?_
  refine sy_assign rfl rfl rfl ?_
  refine sy_assign rfl rfl rfl ?_
  refine sy_assign rfl rfl rfl ?_
  refine sy_nil rfl ?_
  refine ny_next ?_
  refine cy_seq ?_
  refine cy_region ?_
  refine sy_call rfl call_19 rfl (show C0 Try.prog 19 [.string ⟨#[45]⟩] _ (.tuple #[.int .i64 200, .int .i64 200, .bool true]) from prefix_c _ _) rfl rfl ?_
  refine sy_move rfl rfl rfl ?_
  refine sy_extract rfl rfl rfl rfl ?_
  refine sy_extract rfl rfl rfl rfl ?_
  refine sy_extract rfl rfl rfl rfl ?_
  refine sy_assign rfl rfl rfl ?_
  refine sy_assign rfl rfl rfl ?_
  refine sy_assign rfl rfl rfl ?_
  refine sy_nil rfl ?_
  refine ny_next ?_
  refine cy_seq ?_
  refine cy_region ?_
  refine sy_move rfl rfl rfl ?_
  refine sy_move rfl rfl rfl ?_
  refine sy_setT (d := 20) rfl rfl (by first | rfl | decide | simp) ?_
  refine sy_move rfl rfl rfl ?_
  refine sy_pickT rfl rfl rfl rfl ?_
  refine sy_move rfl rfl rfl ?_
  refine sy_setT (d := 23) rfl rfl (by first | rfl | decide | simp) ?_
  refine sy_move rfl rfl rfl ?_
  refine sy_cmp rfl rfl rfl rfl rfl ?_
  refine sy_pickT rfl rfl rfl rfl ?_
  refine sy_move rfl rfl rfl ?_
  refine sy_setT (d := 27) rfl rfl (by first | rfl | decide | simp) ?_
  refine sy_move rfl rfl rfl ?_
  refine sy_cmp rfl rfl rfl rfl rfl ?_
  refine sy_pickT rfl rfl rfl rfl ?_
  refine sy_move rfl rfl rfl ?_
  refine sy_setT (d := 31) rfl rfl (by first | rfl | decide | simp) ?_
  refine sy_move rfl rfl rfl ?_
  refine sy_cmp rfl rfl rfl rfl rfl ?_
  refine sy_pickT rfl rfl rfl rfl ?_
  refine sy_move rfl rfl rfl ?_
  refine sy_setT (d := 35) rfl rfl (by first | rfl | decide | simp) ?_
  refine sy_move rfl rfl rfl ?_
  refine sy_cmp rfl rfl rfl rfl rfl ?_
  refine sy_pickT rfl rfl rfl rfl ?_
  refine sy_move rfl rfl rfl ?_
  refine sy_setT (d := 39) rfl rfl (by first | rfl | decide | simp) ?_
  refine sy_move rfl rfl rfl ?_
  refine sy_cmp rfl rfl rfl rfl rfl ?_
  refine sy_pickT rfl rfl rfl rfl ?_
  refine sy_assign rfl rfl rfl ?_
  refine sy_nil rfl ?_
  refine ny_next ?_
  refine cy_ret ?_
  exact ny_finR (res1 rfl rfl) (fun w hs => ⟨ret_true (by first | rfl | decide | simp), hs.frm⟩)
set_option maxRecDepth 100000 in
theorem opsNames_c (s : ByteArray) (h : Hp) : C0 Try.prog 3 [.string s] h (.bool true) := by
  refine enter0 Try.func3 rfl rfl rfl (fun w => ?_)
  refine cy_seq ?_
  refine cy_region ?_
  refine sy_assign rfl rfl rfl ?_
  refine sy_nil rfl ?_
  refine ny_next ?_
  refine cy_seq ?_
  refine cy_region ?_
  refine sy_call rfl call_16 rfl (shown_c _) rfl rfl ?_
  refine sy_assign rfl rfl rfl ?_
  refine sy_nil rfl ?_
  refine ny_next ?_
  refine cy_seq ?_
  refine cy_region ?_
  refine sy_move rfl rfl rfl ?_
  refine sy_call rfl call_17 rfl (infix_c _ _) rfl rfl ?_
  refine sy_move rfl rfl rfl ?_
  refine sy_extract rfl rfl rfl rfl ?_
  refine sy_extract rfl rfl rfl rfl ?_
  refine sy_extract rfl rfl rfl rfl ?_
  refine sy_extract rfl rfl rfl rfl ?_
  refine sy_assign rfl rfl rfl ?_
  refine sy_assign rfl rfl rfl ?_
  refine sy_assign rfl rfl rfl ?_
  refine sy_assign rfl rfl rfl ?_
  refine sy_nil rfl ?_
  refine ny_next ?_
  refine cy_seq ?_
  refine cy_region ?_
  refine sy_move rfl rfl rfl ?_
  refine sy_call rfl call_18 rfl (refInfix_c _ _) rfl rfl ?_
  refine sy_move rfl rfl rfl ?_
  refine sy_extract rfl rfl rfl rfl ?_
  refine sy_extract rfl rfl rfl rfl ?_
  refine sy_extract rfl rfl rfl rfl ?_
  refine sy_extract rfl rfl rfl rfl ?_
  refine sy_assign rfl rfl rfl ?_
  refine sy_assign rfl rfl rfl ?_
  refine sy_assign rfl rfl rfl ?_
  refine sy_assign rfl rfl rfl ?_
  refine sy_nil rfl ?_
  refine ny_next ?_
  refine cy_seq ?_
  refine cy_region ?_
  refine sy_move rfl rfl rfl ?_
  refine sy_call rfl call_19 rfl (prefix_c _ _) rfl rfl ?_
  refine sy_move rfl rfl rfl ?_
  refine sy_extract rfl rfl rfl rfl ?_
  refine sy_extract rfl rfl rfl rfl ?_
  refine sy_extract rfl rfl rfl rfl ?_
  refine sy_assign rfl rfl rfl ?_
  refine sy_assign rfl rfl rfl ?_
  refine sy_assign rfl rfl rfl ?_
  refine sy_nil rfl ?_
  refine ny_next ?_
  refine cy_seq ?_
  refine cy_region ?_
  refine sy_move rfl rfl rfl ?_
  refine sy_call rfl call_20 rfl (refPrefix_c _ _) rfl rfl ?_
  refine sy_move rfl rfl rfl ?_
  refine sy_extract rfl rfl rfl rfl ?_
  refine sy_extract rfl rfl rfl rfl ?_
  refine sy_extract rfl rfl rfl rfl ?_
  refine sy_assign rfl rfl rfl ?_
  refine sy_assign rfl rfl rfl ?_
  refine sy_assign rfl rfl rfl ?_
  refine sy_nil rfl ?_
  refine ny_next ?_
  refine cy_seq ?_
  refine cy_region ?_
  refine sy_move rfl rfl rfl ?_
  refine sy_move rfl rfl rfl ?_
  refine sy_setT (d := 46) rfl rfl (by first | rfl | decide | simp) ?_
  refine sy_move rfl rfl rfl ?_
  refine sy_move rfl rfl rfl ?_
  refine sy_cmp rfl rfl rfl rfl rfl ?_
  refine sy_pickT rfl rfl rfl rfl ?_
  refine sy_move rfl rfl rfl ?_
  refine sy_setT (d := 51) rfl rfl (by first | rfl | decide | simp) ?_
  refine sy_move rfl rfl rfl ?_
  refine sy_move rfl rfl rfl ?_
  refine sy_cmp rfl rfl rfl rfl rfl ?_
  refine sy_pickT rfl rfl rfl rfl ?_
  refine sy_move rfl rfl rfl ?_
  refine sy_setT (d := 56) rfl rfl (by first | rfl | decide | simp) ?_
  refine sy_move rfl rfl rfl ?_
  refine sy_move rfl rfl rfl ?_
  refine sy_cmp rfl rfl rfl rfl rfl ?_
  refine sy_pickT rfl rfl rfl rfl ?_
  refine sy_move rfl rfl rfl ?_
  refine sy_setT (d := 61) rfl rfl (by first | rfl | decide | simp) ?_
  refine sy_move rfl rfl rfl ?_
  refine sy_move rfl rfl rfl ?_
  refine sy_eqb (by kernel_rfl) rfl rfl rfl rfl ?_
  refine sy_pickT rfl rfl rfl rfl ?_
  refine sy_move rfl rfl rfl ?_
  refine sy_setT (d := 66) rfl rfl (by first | rfl | decide | simp) ?_
  refine sy_move rfl rfl rfl ?_
  refine sy_move rfl rfl rfl ?_
  refine sy_cmp rfl rfl rfl rfl rfl ?_
  refine sy_pickT rfl rfl rfl rfl ?_
  refine sy_move rfl rfl rfl ?_
  refine sy_setT (d := 71) rfl rfl (by first | rfl | decide | simp) ?_
  refine sy_move rfl rfl rfl ?_
  refine sy_move rfl rfl rfl ?_
  refine sy_cmp rfl rfl rfl rfl rfl ?_
  refine sy_pickT rfl rfl rfl rfl ?_
  refine sy_move rfl rfl rfl ?_
  refine sy_setT (d := 76) rfl rfl (by first | rfl | decide | simp) ?_
  refine sy_move rfl rfl rfl ?_
  refine sy_move rfl rfl rfl ?_
  refine sy_eqb (by kernel_rfl) rfl rfl rfl rfl ?_
  refine sy_pickT rfl rfl rfl rfl ?_
  refine sy_assign rfl rfl rfl ?_
  refine sy_nil rfl ?_
  refine ny_next ?_
  refine cy_ret ?_
  exact ny_finR (res1 rfl rfl) (fun w hs => ⟨ret_true (by first | rfl | decide | simp), hs.frm⟩)
end Go.Proofs.Ytbeocnhbbhidaaa

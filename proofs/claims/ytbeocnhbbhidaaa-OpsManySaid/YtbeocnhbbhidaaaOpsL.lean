/- The laws on operators: each returns true, and turns nothing. Conditions: none. Printed by a program of this session. -/
import Derived.Test.YtbeocnhbbhidaaaOpsW
import Derived.Test.YtbeocnhbbhidaaaFactsL
set_option linter.unusedVariables false
set_option linter.unusedSimpArgs false
namespace Go.Proofs.Ytbeocnhbbhidaaa
open Go.RowKit Go.Proofs.Ytbeocnhbbhidaaa.E Go.Proofs.Ytbeocnhbbhidaaa.OpsP
theorem infix_v {s : ByteArray} {h : Hp} {a b c : Int} {is : Bool} (hX : refInfix s.data.toList = (a, b, c, is)) : C0 Try.prog 17 [.string s] h (.tuple #[.int .i64 a, .int .i64 b, .int .i64 c, .bool is]) := by
  have := infix_c s h
  rw [hX] at this
  exact this
theorem prefix_v {s : ByteArray} {h : Hp} {d e : Int} {was : Bool} (hY : refPrefix s.data.toList = (d, e, was)) : C0 Try.prog 19 [.string s] h (.tuple #[.int .i64 d, .int .i64 e, .bool was]) := by
  have := prefix_c s h
  rw [hY] at this
  exact this
theorem ret_true {b : Bool} (h : b = true) : Ending.returned (.bool b) = .returned (.bool true) := by rw [h]
set_option maxRecDepth 100000 in
theorem shown_c (h : Hp) : C0 Try.prog 16 [] h (.bool true) := by
  refine enter0 Try.func16 rfl rfl rfl (fun w => ?_)
  refine cy_seq ?_
  refine cy_region ?_
  refine sy_assign rfl rfl rfl ?_
  refine sy_nil rfl ?_
  refine ny_next ?_
  refine cy_seq ?_
  refine cy_region ?_
  refine sy_call rfl call_17 rfl (show C0 Try.prog 17 [.string ⟨#[45]⟩] _ (.tuple #[.int .i64 500, .int .i64 500, .int .i64 499, .bool true]) from infix_c _ _) rfl rfl ?_
  refine sy_move rfl rfl rfl ?_
  refine sy_extract rfl rfl rfl rfl ?_
  refine sy_extract rfl rfl rfl rfl ?_
  refine sy_extract rfl rfl rfl rfl ?_
  refine sy_extract rfl rfl rfl rfl ?_
  refine sy_assign rfl rfl rfl ?_
  refine sy_assign rfl rfl rfl ?_
  refine sy_assign rfl rfl rfl ?_
  refine sy_assign rfl rfl rfl ?_
  refine sy_nil rfl ?_
  refine ny_next ?_
  refine cy_seq ?_
  refine cy_region ?_
  refine sy_call rfl call_19 rfl (show C0 Try.prog 19 [.string ⟨#[45]⟩] _ (.tuple #[.int .i64 200, .int .i64 200, .bool true]) from prefix_c _ _) rfl rfl ?_
  refine sy_move rfl rfl rfl ?_
  refine sy_extract rfl rfl rfl rfl ?_
  refine sy_extract rfl rfl rfl rfl ?_
  refine sy_extract rfl rfl rfl rfl ?_
  refine sy_assign rfl rfl rfl ?_
  refine sy_assign rfl rfl rfl ?_
  refine sy_assign rfl rfl rfl ?_
  refine sy_nil rfl ?_
  refine ny_next ?_
  refine cy_seq ?_
  refine cy_region ?_
  refine sy_move rfl rfl rfl ?_
  refine sy_move rfl rfl rfl ?_
  refine sy_setT (d := 20) rfl rfl (by first | rfl | decide | simp) ?_
  refine sy_move rfl rfl rfl ?_
  refine sy_pickT rfl rfl rfl rfl ?_
  refine sy_move rfl rfl rfl ?_
  refine sy_setT (d := 23) rfl rfl (by first | rfl | decide | simp) ?_
  refine sy_move rfl rfl rfl ?_
  refine sy_cmp rfl rfl rfl rfl rfl ?_
  refine sy_pickT rfl rfl rfl rfl ?_
  refine sy_move rfl rfl rfl ?_
  refine sy_setT (d := 27) rfl rfl (by first | rfl | decide | simp) ?_
  refine sy_move rfl rfl rfl ?_
  refine sy_cmp rfl rfl rfl rfl rfl ?_
  refine sy_pickT rfl rfl rfl rfl ?_
  refine sy_move rfl rfl rfl ?_
  refine sy_setT (d := 31) rfl rfl (by first | rfl | decide | simp) ?_
  refine sy_move rfl rfl rfl ?_
  refine sy_cmp rfl rfl rfl rfl rfl ?_
  refine sy_pickT rfl rfl rfl rfl ?_
  refine sy_move rfl rfl rfl ?_
  refine sy_setT (d := 35) rfl rfl (by first | rfl | decide | simp) ?_
  refine sy_move rfl rfl rfl ?_
  refine sy_cmp rfl rfl rfl rfl rfl ?_
  refine sy_pickT rfl rfl rfl rfl ?_
  refine sy_move rfl rfl rfl ?_
  refine sy_setT (d := 39) rfl rfl (by first | rfl | decide | simp) ?_
  refine sy_move rfl rfl rfl ?_
  refine sy_cmp rfl rfl rfl rfl rfl ?_
  refine sy_pickT rfl rfl rfl rfl ?_
  refine sy_assign rfl rfl rfl ?_
  refine sy_nil rfl ?_
  refine ny_next ?_
  refine cy_ret ?_
  exact ny_finR (res1 rfl rfl) (fun w hs => ⟨ret_true (by first | rfl | decide | simp), hs.frm⟩)
set_option maxRecDepth 100000 in
theorem opsNames_c (s : ByteArray) (h : Hp) : C0 Try.prog 3 [.string s] h (.bool true) := by
  refine enter0 Try.func3 rfl rfl rfl (fun w => ?_)
  refine cy_seq ?_
  refine cy_region ?_
  refine sy_assign rfl rfl rfl ?_
  refine sy_nil rfl ?_
  refine ny_next ?_
  refine cy_seq ?_
  refine cy_region ?_
  refine sy_call rfl call_16 rfl (shown_c _) rfl rfl ?_
  refine sy_assign rfl rfl rfl ?_
  refine sy_nil rfl ?_
  refine ny_next ?_
  refine cy_seq ?_
  refine cy_region ?_
  refine sy_move rfl rfl rfl ?_
  refine sy_call rfl call_17 rfl (infix_c _ _) rfl rfl ?_
  refine sy_move rfl rfl rfl ?_
  refine sy_extract rfl rfl rfl rfl ?_
  refine sy_extract rfl rfl rfl rfl ?_
  refine sy_extract rfl rfl rfl rfl ?_
  refine sy_extract rfl rfl rfl rfl ?_
  refine sy_assign rfl rfl rfl ?_
  refine sy_assign rfl rfl rfl ?_
  refine sy_assign rfl rfl rfl ?_
  refine sy_assign rfl rfl rfl ?_
  refine sy_nil rfl ?_
  refine ny_next ?_
  refine cy_seq ?_
  refine cy_region ?_
  refine sy_move rfl rfl rfl ?_
  refine sy_call rfl call_18 rfl (refInfix_c _ _) rfl rfl ?_
  refine sy_move rfl rfl rfl ?_
  refine sy_extract rfl rfl rfl rfl ?_
  refine sy_extract rfl rfl rfl rfl ?_
  refine sy_extract rfl rfl rfl rfl ?_
  refine sy_extract rfl rfl rfl rfl ?_
  refine sy_assign rfl rfl rfl ?_
  refine sy_assign rfl rfl rfl ?_
  refine sy_assign rfl rfl rfl ?_
  refine sy_assign rfl rfl rfl ?_
  refine sy_nil rfl ?_
  refine ny_next ?_
  refine cy_seq ?_
  refine cy_region ?_
  refine sy_move rfl rfl rfl ?_
  refine sy_call rfl call_19 rfl (prefix_c _ _) rfl rfl ?_
  refine sy_move rfl rfl rfl ?_
  refine sy_extract rfl rfl rfl rfl ?_
  refine sy_extract rfl rfl rfl rfl ?_
  refine sy_extract rfl rfl rfl rfl ?_
  refine sy_assign rfl rfl rfl ?_
  refine sy_assign rfl rfl rfl ?_
  refine sy_assign rfl rfl rfl ?_
  refine sy_nil rfl ?_
  refine ny_next ?_
  refine cy_seq ?_
  refine cy_region ?_
  refine sy_move rfl rfl rfl ?_
  refine sy_call rfl call_20 rfl (refPrefix_c _ _) rfl rfl ?_
  refine sy_move rfl rfl rfl ?_
  refine sy_extract rfl rfl rfl rfl ?_
  refine sy_extract rfl rfl rfl rfl ?_
  refine sy_extract rfl rfl rfl rfl ?_
  refine sy_assign rfl rfl rfl ?_
  refine sy_assign rfl rfl rfl ?_
  refine sy_assign rfl rfl rfl ?_
  refine sy_nil rfl ?_
  refine ny_next ?_
  refine cy_seq ?_
  refine cy_region ?_
  refine sy_move rfl rfl rfl ?_
  refine sy_move rfl rfl rfl ?_
  refine sy_setT (d := 46) rfl rfl (by first | rfl | decide | simp) ?_
  refine sy_move rfl rfl rfl ?_
  refine sy_move rfl rfl rfl ?_
  refine sy_cmp rfl rfl rfl rfl rfl ?_
  refine sy_pickT rfl rfl rfl rfl ?_
  refine sy_move rfl rfl rfl ?_
  refine sy_setT (d := 51) rfl rfl (by first | rfl | decide | simp) ?_
  refine sy_move rfl rfl rfl ?_
  refine sy_move rfl rfl rfl ?_
  refine sy_cmp rfl rfl rfl rfl rfl ?_
  refine sy_pickT rfl rfl rfl rfl ?_
  refine sy_move rfl rfl rfl ?_
  refine sy_setT (d := 56) rfl rfl (by first | rfl | decide | simp) ?_
  refine sy_move rfl rfl rfl ?_
  refine sy_move rfl rfl rfl ?_
  refine sy_cmp rfl rfl rfl rfl rfl ?_
  refine sy_pickT rfl rfl rfl rfl ?_
  refine sy_move rfl rfl rfl ?_
  refine sy_setT (d := 61) rfl rfl (by first | rfl | decide | simp) ?_
  refine sy_move rfl rfl rfl ?_
  refine sy_move rfl rfl rfl ?_
  refine sy_eqb (by kernel_rfl) rfl rfl rfl rfl ?_
  refine sy_pickT rfl rfl rfl rfl ?_
  refine sy_move rfl rfl rfl ?_
  refine sy_setT (d := 66) rfl rfl (by first | rfl | decide | simp) ?_
  refine sy_move rfl rfl rfl ?_
  refine sy_move rfl rfl rfl ?_
  refine sy_cmp rfl rfl rfl rfl rfl ?_
  refine sy_pickT rfl rfl rfl rfl ?_
  refine sy_move rfl rfl rfl ?_
  refine sy_setT (d := 71) rfl rfl (by first | rfl | decide | simp) ?_
  refine sy_move rfl rfl rfl ?_
  refine sy_move rfl rfl rfl ?_
  refine sy_cmp rfl rfl rfl rfl rfl ?_
  refine sy_pickT rfl rfl rfl rfl ?_
  refine sy_move rfl rfl rfl ?_
  refine sy_setT (d := 76) rfl rfl (by first | rfl | decide | simp) ?_
  refine sy_move rfl rfl rfl ?_
  refine sy_move rfl rfl rfl ?_
  refine sy_eqb (by kernel_rfl) rfl rfl rfl rfl ?_
  refine sy_pickT rfl rfl rfl rfl ?_
  refine sy_assign rfl rfl rfl ?_
  refine sy_nil rfl ?_
  refine ny_next ?_
  refine cy_ret ?_
  exact ny_finR (res1 rfl rfl) (fun w hs => ⟨ret_true (by first | rfl | decide | simp), hs.frm⟩)
set_option maxRecDepth 100000 in
theorem opsRooms_TT (s : ByteArray) (h : Hp) (a b c : Int) (d e : Int) (hX : refInfix s.data.toList = (a, b, c, true)) (hY : refPrefix s.data.toList = (d, e, true)) (h1 : a = b ∨ a = b - 1) (h2 : c = b ∨ c = b - 1) (h3 : a < b ∨ c < b) (h4 : 0 < b) (h5 : b ≤ 2000) (h6 : e = d ∨ e = d - 1) (h7 : 0 < d) (h8 : d ≤ 2000) : C0 Try.prog 5 [.string s] h (.bool true) := by
  refine enter0 Try.func5 rfl rfl rfl (fun w => ?_)
  refine cy_seq ?_
  refine cy_region ?_
  refine sy_assign rfl rfl rfl ?_
  refine sy_nil rfl ?_
  refine ny_next ?_
  refine cy_seq ?_
  refine cy_region ?_
  refine sy_call rfl call_16 rfl (shown_c _) rfl rfl ?_
  refine sy_assign rfl rfl rfl ?_
  refine sy_setT (d := 3) rfl rfl rfl ?_
  refine sy_nil rfl ?_
  refine ny_next ?_
  refine cy_seq ?_
  refine cy_region ?_
  refine sy_move rfl rfl rfl ?_
  refine sy_call rfl call_17 rfl (infix_v hX) rfl rfl ?_
  refine sy_move rfl rfl rfl ?_
  refine sy_extract rfl rfl rfl rfl ?_
  refine sy_extract rfl rfl rfl rfl ?_
  refine sy_extract rfl rfl rfl rfl ?_
  refine sy_extract rfl rfl rfl rfl ?_
  refine sy_setT (d := 18) rfl rfl rfl ?_
  refine sy_assign rfl rfl rfl ?_
  refine sy_assign rfl rfl rfl ?_
  refine sy_assign rfl rfl rfl ?_
  refine sy_assign rfl rfl rfl ?_
  refine sy_nil rfl ?_
  refine ny_next ?_
  refine cy_seq ?_
  refine cy_region ?_
  refine sy_move rfl rfl rfl ?_
  refine sy_call rfl call_19 rfl (prefix_v hY) rfl rfl ?_
  refine sy_move rfl rfl rfl ?_
  refine sy_extract rfl rfl rfl rfl ?_
  refine sy_extract rfl rfl rfl rfl ?_
  refine sy_extract rfl rfl rfl rfl ?_
  refine sy_setT (d := 24) rfl rfl rfl ?_
  refine sy_assign rfl rfl rfl ?_
  refine sy_assign rfl rfl rfl ?_
  refine sy_assign rfl rfl rfl ?_
  refine sy_nil rfl ?_
  refine ny_next ?_
  refine cy_seq ?_
  refine cy_seq ?_
  refine cy_region ?_
  refine sy_move rfl rfl rfl ?_
  refine sy_not rfl rfl rfl ?_
  refine sy_setF (d := 26) rfl rfl rfl ?_
  refine sy_move rfl rfl rfl ?_
  refine sy_skip rfl rfl rfl ?_
  refine sy_skip rfl rfl rfl ?_
  refine sy_skip rfl rfl rfl ?_
  refine sy_skip rfl rfl rfl ?_
  refine sy_skip rfl rfl rfl ?_
  refine sy_skip rfl rfl rfl ?_
  refine sy_skip rfl rfl rfl ?_
  refine sy_skip rfl rfl rfl ?_
  refine sy_skip rfl rfl rfl ?_
  refine sy_skip rfl rfl rfl ?_
  refine sy_pickF rfl rfl rfl rfl ?_
  refine sy_move rfl rfl rfl ?_
  refine sy_move rfl rfl rfl ?_
  refine sy_not rfl rfl rfl ?_
  refine sy_setF (d := 41) rfl rfl rfl ?_
  refine sy_move rfl rfl rfl ?_
  refine sy_skip rfl rfl rfl ?_
  refine sy_skip rfl rfl rfl ?_
  refine sy_skip rfl rfl rfl ?_
  refine sy_skip rfl rfl rfl ?_
  refine sy_skip rfl rfl rfl ?_
  refine sy_skip rfl rfl rfl ?_
  refine sy_pickF rfl rfl rfl rfl ?_
  refine sy_pickF rfl rfl rfl rfl ?_
  refine sy_nil rfl ?_
  refine ny_next ?_
  refine cy_condF rfl ?_
  refine cy_skip ?_
  refine ny_next ?_
  refine cy_seq ?_
  refine cy_region ?_
  refine sy_move rfl rfl rfl ?_
  refine sy_move rfl rfl rfl ?_
  refine sy_move rfl rfl rfl ?_
  refine sy_not rfl rfl rfl ?_
  refine sy_setF (d := 54) rfl rfl rfl ?_
  refine sy_move rfl rfl rfl ?_
  refine sy_move rfl rfl rfl ?_
  refine sy_move rfl rfl rfl ?_
  refine sy_cmp rfl rfl rfl rfl rfl ?_
  refine sy_move rfl rfl rfl ?_
  refine sy_cond (d := 59) _ rfl rfl (fun hg59 => ?_) (fun hg59 => ?_)
  · refine sy_skip rfl rfl rfl ?_
    refine sy_skip rfl rfl rfl ?_
    refine sy_skip rfl rfl rfl ?_
    refine sy_skip rfl rfl rfl ?_
    refine sy_pickT rfl rfl rfl rfl ?_
    refine sy_setT (d := 64) rfl rfl (by first | rfl | decide | (simp only [beq_iff_eq, beq_eq_false_iff_ne, bne_iff_ne, bne_eq_false_iff_eq, decide_eq_true_eq, decide_eq_false_iff_not, ne_eq, Bool.not_eq_true, Bool.not_eq_false] at * <;> omega)) ?_
    refine sy_move rfl rfl rfl ?_
    refine sy_move rfl rfl rfl ?_
    refine sy_move rfl rfl rfl ?_
    refine sy_cmp rfl rfl rfl rfl rfl ?_
    refine sy_move rfl rfl rfl ?_
    refine sy_cond (d := 69) _ rfl rfl (fun hg69 => ?_) (fun hg69 => ?_)
    · refine sy_skip rfl rfl rfl ?_
      refine sy_skip rfl rfl rfl ?_
      refine sy_skip rfl rfl rfl ?_
      refine sy_skip rfl rfl rfl ?_
      refine sy_pickT rfl rfl rfl rfl ?_
      refine sy_setT (d := 74) rfl rfl (by first | rfl | decide | (simp only [beq_iff_eq, beq_eq_false_iff_ne, bne_iff_ne, bne_eq_false_iff_eq, decide_eq_true_eq, decide_eq_false_iff_not, ne_eq, Bool.not_eq_true, Bool.not_eq_false] at * <;> omega)) ?_
      refine sy_pickT rfl rfl rfl rfl ?_
      refine sy_move rfl rfl rfl ?_
      refine sy_move rfl rfl rfl ?_
      refine sy_move rfl rfl rfl ?_
      refine sy_cmp rfl rfl rfl rfl rfl ?_
      refine sy_move rfl rfl rfl ?_
      refine sy_cond (d := 80) _ rfl rfl (fun hg80 => ?_) (fun hg80 => ?_)
      · refine sy_skip rfl rfl rfl ?_
        refine sy_skip rfl rfl rfl ?_
        refine sy_skip rfl rfl rfl ?_
        refine sy_pickT rfl rfl rfl rfl ?_
        refine sy_setT (d := 84) rfl rfl (by first | rfl | decide | (simp only [beq_iff_eq, beq_eq_false_iff_ne, bne_iff_ne, bne_eq_false_iff_eq, decide_eq_true_eq, decide_eq_false_iff_not, ne_eq, Bool.not_eq_true, Bool.not_eq_false] at * <;> omega)) ?_
        refine sy_pickT rfl rfl rfl rfl ?_
        refine sy_pickF rfl rfl rfl rfl ?_
        refine sy_pickT rfl rfl rfl rfl ?_
        refine sy_move rfl rfl rfl ?_
        refine sy_move rfl rfl rfl ?_
        refine sy_not rfl rfl rfl ?_
        refine sy_setF (d := 90) rfl rfl rfl ?_
        refine sy_move rfl rfl rfl ?_
        refine sy_move rfl rfl rfl ?_
        refine sy_move rfl rfl rfl ?_
        refine sy_cmp rfl rfl rfl rfl rfl ?_
        refine sy_pickF rfl rfl rfl rfl ?_
        refine sy_move rfl rfl rfl ?_
        refine sy_cond (d := 96) _ rfl rfl (fun hg96 => ?_) (fun hg96 => ?_)
        · refine sy_skip rfl rfl rfl ?_
          refine sy_skip rfl rfl rfl ?_
          refine sy_skip rfl rfl rfl ?_
          refine sy_skip rfl rfl rfl ?_
          refine sy_pickT rfl rfl rfl rfl ?_
          refine sy_setT (d := 101) rfl rfl (by first | rfl | decide | (simp only [beq_iff_eq, beq_eq_false_iff_ne, bne_iff_ne, bne_eq_false_iff_eq, decide_eq_true_eq, decide_eq_false_iff_not, ne_eq, Bool.not_eq_true, Bool.not_eq_false] at * <;> omega)) ?_
          refine sy_pickT rfl rfl rfl rfl ?_
          refine sy_assign rfl rfl rfl ?_
          refine sy_nil rfl ?_
          refine ny_next ?_
          refine cy_ret ?_
          exact ny_finR (res1 rfl rfl) (fun w hs => ⟨ret_true (by first | rfl | decide | (simp only [beq_iff_eq, beq_eq_false_iff_ne, bne_iff_ne, bne_eq_false_iff_eq, decide_eq_true_eq, decide_eq_false_iff_not, ne_eq, Bool.not_eq_true, Bool.not_eq_false] at * <;> omega)), hs.frm⟩)
        · refine sy_move rfl rfl rfl ?_
          refine sy_move rfl rfl rfl ?_
          refine sy_subi rfl rfl rfl (by omega) (by omega) rfl rfl ?_
          refine sy_cmp rfl rfl rfl rfl rfl ?_
          refine sy_pickF rfl rfl rfl rfl ?_
          refine sy_setT (d := 101) rfl rfl (by first | rfl | decide | (simp only [beq_iff_eq, beq_eq_false_iff_ne, bne_iff_ne, bne_eq_false_iff_eq, decide_eq_true_eq, decide_eq_false_iff_not, ne_eq, Bool.not_eq_true, Bool.not_eq_false] at * <;> omega)) ?_
          refine sy_pickT rfl rfl rfl rfl ?_
          refine sy_assign rfl rfl rfl ?_
          refine sy_nil rfl ?_
          refine ny_next ?_
          refine cy_ret ?_
          exact ny_finR (res1 rfl rfl) (fun w hs => ⟨ret_true (by first | rfl | decide | (simp only [beq_iff_eq, beq_eq_false_iff_ne, bne_iff_ne, bne_eq_false_iff_eq, decide_eq_true_eq, decide_eq_false_iff_not, ne_eq, Bool.not_eq_true, Bool.not_eq_false] at * <;> omega)), hs.frm⟩)
      · refine sy_move rfl rfl rfl ?_
        refine sy_move rfl rfl rfl ?_
        refine sy_cmp rfl rfl rfl rfl rfl ?_
        refine sy_pickF rfl rfl rfl rfl ?_
        refine sy_setT (d := 84) rfl rfl (by first | rfl | decide | (simp only [beq_iff_eq, beq_eq_false_iff_ne, bne_iff_ne, bne_eq_false_iff_eq, decide_eq_true_eq, decide_eq_false_iff_not, ne_eq, Bool.not_eq_true, Bool.not_eq_false] at * <;> omega)) ?_
        refine sy_pickT rfl rfl rfl rfl ?_
        refine sy_pickF rfl rfl rfl rfl ?_
        refine sy_pickT rfl rfl rfl rfl ?_
        refine sy_move rfl rfl rfl ?_
        refine sy_move rfl rfl rfl ?_
        refine sy_not rfl rfl rfl ?_
        refine sy_setF (d := 90) rfl rfl rfl ?_
        refine sy_move rfl rfl rfl ?_
        refine sy_move rfl rfl rfl ?_
        refine sy_move rfl rfl rfl ?_
        refine sy_cmp rfl rfl rfl rfl rfl ?_
        refine sy_pickF rfl rfl rfl rfl ?_
        refine sy_move rfl rfl rfl ?_
        refine sy_cond (d := 96) _ rfl rfl (fun hg96 => ?_) (fun hg96 => ?_)
        · refine sy_skip rfl rfl rfl ?_
          refine sy_skip rfl rfl rfl ?_
          refine sy_skip rfl rfl rfl ?_
          refine sy_skip rfl rfl rfl ?_
          refine sy_pickT rfl rfl rfl rfl ?_
          refine sy_setT (d := 101) rfl rfl (by first | rfl | decide | (simp only [beq_iff_eq, beq_eq_false_iff_ne, bne_iff_ne, bne_eq_false_iff_eq, decide_eq_true_eq, decide_eq_false_iff_not, ne_eq, Bool.not_eq_true, Bool.not_eq_false] at * <;> omega)) ?_
          refine sy_pickT rfl rfl rfl rfl ?_
          refine sy_assign rfl rfl rfl ?_
          refine sy_nil rfl ?_
          refine ny_next ?_
          refine cy_ret ?_
          exact ny_finR (res1 rfl rfl) (fun w hs => ⟨ret_true (by first | rfl | decide | (simp only [beq_iff_eq, beq_eq_false_iff_ne, bne_iff_ne, bne_eq_false_iff_eq, decide_eq_true_eq, decide_eq_false_iff_not, ne_eq, Bool.not_eq_true, Bool.not_eq_false] at * <;> omega)), hs.frm⟩)
        · refine sy_move rfl rfl rfl ?_
          refine sy_move rfl rfl rfl ?_
          refine sy_subi rfl rfl rfl (by omega) (by omega) rfl rfl ?_
          refine sy_cmp rfl rfl rfl rfl rfl ?_
          refine sy_pickF rfl rfl rfl rfl ?_
          refine sy_setT (d := 101) rfl rfl (by first | rfl | decide | (simp only [beq_iff_eq, beq_eq_false_iff_ne, bne_iff_ne, bne_eq_false_iff_eq, decide_eq_true_eq, decide_eq_false_iff_not, ne_eq, Bool.not_eq_true, Bool.not_eq_false] at * <;> omega)) ?_
          refine sy_pickT rfl rfl rfl rfl ?_
          refine sy_assign rfl rfl rfl ?_
          refine sy_nil rfl ?_
          refine ny_next ?_
          refine cy_ret ?_
          exact ny_finR (res1 rfl rfl) (fun w hs => ⟨ret_true (by first | rfl | decide | (simp only [beq_iff_eq, beq_eq_false_iff_ne, bne_iff_ne, bne_eq_false_iff_eq, decide_eq_true_eq, decide_eq_false_iff_not, ne_eq, Bool.not_eq_true, Bool.not_eq_false] at * <;> omega)), hs.frm⟩)
    · refine sy_move rfl rfl rfl ?_
      refine sy_move rfl rfl rfl ?_
      refine sy_subi rfl rfl rfl (by omega) (by omega) rfl rfl ?_
      refine sy_cmp rfl rfl rfl rfl rfl ?_
      refine sy_pickF rfl rfl rfl rfl ?_
      refine sy_setT (d := 74) rfl rfl (by first | rfl | decide | (simp only [beq_iff_eq, beq_eq_false_iff_ne, bne_iff_ne, bne_eq_false_iff_eq, decide_eq_true_eq, decide_eq_false_iff_not, ne_eq, Bool.not_eq_true, Bool.not_eq_false] at * <;> omega)) ?_
      refine sy_pickT rfl rfl rfl rfl ?_
      refine sy_move rfl rfl rfl ?_
      refine sy_move rfl rfl rfl ?_
      refine sy_move rfl rfl rfl ?_
      refine sy_cmp rfl rfl rfl rfl rfl ?_
      refine sy_move rfl rfl rfl ?_
      refine sy_cond (d := 80) _ rfl rfl (fun hg80 => ?_) (fun hg80 => ?_)
      · refine sy_skip rfl rfl rfl ?_
        refine sy_skip rfl rfl rfl ?_
        refine sy_skip rfl rfl rfl ?_
        refine sy_pickT rfl rfl rfl rfl ?_
        refine sy_setT (d := 84) rfl rfl (by first | rfl | decide | (simp only [beq_iff_eq, beq_eq_false_iff_ne, bne_iff_ne, bne_eq_false_iff_eq, decide_eq_true_eq, decide_eq_false_iff_not, ne_eq, Bool.not_eq_true, Bool.not_eq_false] at * <;> omega)) ?_
        refine sy_pickT rfl rfl rfl rfl ?_
        refine sy_pickF rfl rfl rfl rfl ?_
        refine sy_pickT rfl rfl rfl rfl ?_
        refine sy_move rfl rfl rfl ?_
        refine sy_move rfl rfl rfl ?_
        refine sy_not rfl rfl rfl ?_
        refine sy_setF (d := 90) rfl rfl rfl ?_
        refine sy_move rfl rfl rfl ?_
        refine sy_move rfl rfl rfl ?_
        refine sy_move rfl rfl rfl ?_
        refine sy_cmp rfl rfl rfl rfl rfl ?_
        refine sy_pickF rfl rfl rfl rfl ?_
        refine sy_move rfl rfl rfl ?_
        refine sy_cond (d := 96) _ rfl rfl (fun hg96 => ?_) (fun hg96 => ?_)
        · refine sy_skip rfl rfl rfl ?_
          refine sy_skip rfl rfl rfl ?_
          refine sy_skip rfl rfl rfl ?_
          refine sy_skip rfl rfl rfl ?_
          refine sy_pickT rfl rfl rfl rfl ?_
          refine sy_setT (d := 101) rfl rfl (by first | rfl | decide | (simp only [beq_iff_eq, beq_eq_false_iff_ne, bne_iff_ne, bne_eq_false_iff_eq, decide_eq_true_eq, decide_eq_false_iff_not, ne_eq, Bool.not_eq_true, Bool.not_eq_false] at * <;> omega)) ?_
          refine sy_pickT rfl rfl rfl rfl ?_
          refine sy_assign rfl rfl rfl ?_
          refine sy_nil rfl ?_
          refine ny_next ?_
          refine cy_ret ?_
          exact ny_finR (res1 rfl rfl) (fun w hs => ⟨ret_true (by first | rfl | decide | (simp only [beq_iff_eq, beq_eq_false_iff_ne, bne_iff_ne, bne_eq_false_iff_eq, decide_eq_true_eq, decide_eq_false_iff_not, ne_eq, Bool.not_eq_true, Bool.not_eq_false] at * <;> omega)), hs.frm⟩)
        · refine sy_move rfl rfl rfl ?_
          refine sy_move rfl rfl rfl ?_
          refine sy_subi rfl rfl rfl (by omega) (by omega) rfl rfl ?_
          refine sy_cmp rfl rfl rfl rfl rfl ?_
          refine sy_pickF rfl rfl rfl rfl ?_
          refine sy_setT (d := 101) rfl rfl (by first | rfl | decide | (simp only [beq_iff_eq, beq_eq_false_iff_ne, bne_iff_ne, bne_eq_false_iff_eq, decide_eq_true_eq, decide_eq_false_iff_not, ne_eq, Bool.not_eq_true, Bool.not_eq_false] at * <;> omega)) ?_
          refine sy_pickT rfl rfl rfl rfl ?_
          refine sy_assign rfl rfl rfl ?_
          refine sy_nil rfl ?_
          refine ny_next ?_
          refine cy_ret ?_
          exact ny_finR (res1 rfl rfl) (fun w hs => ⟨ret_true (by first | rfl | decide | (simp only [beq_iff_eq, beq_eq_false_iff_ne, bne_iff_ne, bne_eq_false_iff_eq, decide_eq_true_eq, decide_eq_false_iff_not, ne_eq, Bool.not_eq_true, Bool.not_eq_false] at * <;> omega)), hs.frm⟩)
      · refine sy_move rfl rfl rfl ?_
        refine sy_move rfl rfl rfl ?_
        refine sy_cmp rfl rfl rfl rfl rfl ?_
        refine sy_pickF rfl rfl rfl rfl ?_
        refine sy_setT (d := 84) rfl rfl (by first | rfl | decide | (simp only [beq_iff_eq, beq_eq_false_iff_ne, bne_iff_ne, bne_eq_false_iff_eq, decide_eq_true_eq, decide_eq_false_iff_not, ne_eq, Bool.not_eq_true, Bool.not_eq_false] at * <;> omega)) ?_
        refine sy_pickT rfl rfl rfl rfl ?_
        refine sy_pickF rfl rfl rfl rfl ?_
        refine sy_pickT rfl rfl rfl rfl ?_
        refine sy_move rfl rfl rfl ?_
        refine sy_move rfl rfl rfl ?_
        refine sy_not rfl rfl rfl ?_
        refine sy_setF (d := 90) rfl rfl rfl ?_
        refine sy_move rfl rfl rfl ?_
        refine sy_move rfl rfl rfl ?_
        refine sy_move rfl rfl rfl ?_
        refine sy_cmp rfl rfl rfl rfl rfl ?_
        refine sy_pickF rfl rfl rfl rfl ?_
        refine sy_move rfl rfl rfl ?_
        refine sy_cond (d := 96) _ rfl rfl (fun hg96 => ?_) (fun hg96 => ?_)
        · refine sy_skip rfl rfl rfl ?_
          refine sy_skip rfl rfl rfl ?_
          refine sy_skip rfl rfl rfl ?_
          refine sy_skip rfl rfl rfl ?_
          refine sy_pickT rfl rfl rfl rfl ?_
          refine sy_setT (d := 101) rfl rfl (by first | rfl | decide | (simp only [beq_iff_eq, beq_eq_false_iff_ne, bne_iff_ne, bne_eq_false_iff_eq, decide_eq_true_eq, decide_eq_false_iff_not, ne_eq, Bool.not_eq_true, Bool.not_eq_false] at * <;> omega)) ?_
          refine sy_pickT rfl rfl rfl rfl ?_
          refine sy_assign rfl rfl rfl ?_
          refine sy_nil rfl ?_
          refine ny_next ?_
          refine cy_ret ?_
          exact ny_finR (res1 rfl rfl) (fun w hs => ⟨ret_true (by first | rfl | decide | (simp only [beq_iff_eq, beq_eq_false_iff_ne, bne_iff_ne, bne_eq_false_iff_eq, decide_eq_true_eq, decide_eq_false_iff_not, ne_eq, Bool.not_eq_true, Bool.not_eq_false] at * <;> omega)), hs.frm⟩)
        · refine sy_move rfl rfl rfl ?_
          refine sy_move rfl rfl rfl ?_
          refine sy_subi rfl rfl rfl (by omega) (by omega) rfl rfl ?_
          refine sy_cmp rfl rfl rfl rfl rfl ?_
          refine sy_pickF rfl rfl rfl rfl ?_
          refine sy_setT (d := 101) rfl rfl (by first | rfl | decide | (simp only [beq_iff_eq, beq_eq_false_iff_ne, bne_iff_ne, bne_eq_false_iff_eq, decide_eq_true_eq, decide_eq_false_iff_not, ne_eq, Bool.not_eq_true, Bool.not_eq_false] at * <;> omega)) ?_
          refine sy_pickT rfl rfl rfl rfl ?_
          refine sy_assign rfl rfl rfl ?_
          refine sy_nil rfl ?_
          refine ny_next ?_
          refine cy_ret ?_
          exact ny_finR (res1 rfl rfl) (fun w hs => ⟨ret_true (by first | rfl | decide | (simp only [beq_iff_eq, beq_eq_false_iff_ne, bne_iff_ne, bne_eq_false_iff_eq, decide_eq_true_eq, decide_eq_false_iff_not, ne_eq, Bool.not_eq_true, Bool.not_eq_false] at * <;> omega)), hs.frm⟩)
  · refine sy_move rfl rfl rfl ?_
    refine sy_move rfl rfl rfl ?_
    refine sy_subi rfl rfl rfl (by omega) (by omega) rfl rfl ?_
    refine sy_cmp rfl rfl rfl rfl rfl ?_
    refine sy_pickF rfl rfl rfl rfl ?_
    refine sy_setT (d := 64) rfl rfl (by first | rfl | decide | (simp only [beq_iff_eq, beq_eq_false_iff_ne, bne_iff_ne, bne_eq_false_iff_eq, decide_eq_true_eq, decide_eq_false_iff_not, ne_eq, Bool.not_eq_true, Bool.not_eq_false] at * <;> omega)) ?_
    refine sy_move rfl rfl rfl ?_
    refine sy_move rfl rfl rfl ?_
    refine sy_move rfl rfl rfl ?_
    refine sy_cmp rfl rfl rfl rfl rfl ?_
    refine sy_move rfl rfl rfl ?_
    refine sy_cond (d := 69) _ rfl rfl (fun hg69 => ?_) (fun hg69 => ?_)
    · refine sy_skip rfl rfl rfl ?_
      refine sy_skip rfl rfl rfl ?_
      refine sy_skip rfl rfl rfl ?_
      refine sy_skip rfl rfl rfl ?_
      refine sy_pickT rfl rfl rfl rfl ?_
      refine sy_setT (d := 74) rfl rfl (by first | rfl | decide | (simp only [beq_iff_eq, beq_eq_false_iff_ne, bne_iff_ne, bne_eq_false_iff_eq, decide_eq_true_eq, decide_eq_false_iff_not, ne_eq, Bool.not_eq_true, Bool.not_eq_false] at * <;> omega)) ?_
      refine sy_pickT rfl rfl rfl rfl ?_
      refine sy_move rfl rfl rfl ?_
      refine sy_move rfl rfl rfl ?_
      refine sy_move rfl rfl rfl ?_
      refine sy_cmp rfl rfl rfl rfl rfl ?_
      refine sy_move rfl rfl rfl ?_
      refine sy_cond (d := 80) _ rfl rfl (fun hg80 => ?_) (fun hg80 => ?_)
      · refine sy_skip rfl rfl rfl ?_
        refine sy_skip rfl rfl rfl ?_
        refine sy_skip rfl rfl rfl ?_
        refine sy_pickT rfl rfl rfl rfl ?_
        refine sy_setT (d := 84) rfl rfl (by first | rfl | decide | (simp only [beq_iff_eq, beq_eq_false_iff_ne, bne_iff_ne, bne_eq_false_iff_eq, decide_eq_true_eq, decide_eq_false_iff_not, ne_eq, Bool.not_eq_true, Bool.not_eq_false] at * <;> omega)) ?_
        refine sy_pickT rfl rfl rfl rfl ?_
        refine sy_pickF rfl rfl rfl rfl ?_
        refine sy_pickT rfl rfl rfl rfl ?_
        refine sy_move rfl rfl rfl ?_
        refine sy_move rfl rfl rfl ?_
        refine sy_not rfl rfl rfl ?_
        refine sy_setF (d := 90) rfl rfl rfl ?_
        refine sy_move rfl rfl rfl ?_
        refine sy_move rfl rfl rfl ?_
        refine sy_move rfl rfl rfl ?_
        refine sy_cmp rfl rfl rfl rfl rfl ?_
        refine sy_pickF rfl rfl rfl rfl ?_
        refine sy_move rfl rfl rfl ?_
        refine sy_cond (d := 96) _ rfl rfl (fun hg96 => ?_) (fun hg96 => ?_)
        · refine sy_skip rfl rfl rfl ?_
          refine sy_skip rfl rfl rfl ?_
          refine sy_skip rfl rfl rfl ?_
          refine sy_skip rfl rfl rfl ?_
          refine sy_pickT rfl rfl rfl rfl ?_
          refine sy_setT (d := 101) rfl rfl (by first | rfl | decide | (simp only [beq_iff_eq, beq_eq_false_iff_ne, bne_iff_ne, bne_eq_false_iff_eq, decide_eq_true_eq, decide_eq_false_iff_not, ne_eq, Bool.not_eq_true, Bool.not_eq_false] at * <;> omega)) ?_
          refine sy_pickT rfl rfl rfl rfl ?_
          refine sy_assign rfl rfl rfl ?_
          refine sy_nil rfl ?_
          refine ny_next ?_
          refine cy_ret ?_
          exact ny_finR (res1 rfl rfl) (fun w hs => ⟨ret_true (by first | rfl | decide | (simp only [beq_iff_eq, beq_eq_false_iff_ne, bne_iff_ne, bne_eq_false_iff_eq, decide_eq_true_eq, decide_eq_false_iff_not, ne_eq, Bool.not_eq_true, Bool.not_eq_false] at * <;> omega)), hs.frm⟩)
        · refine sy_move rfl rfl rfl ?_
          refine sy_move rfl rfl rfl ?_
          refine sy_subi rfl rfl rfl (by omega) (by omega) rfl rfl ?_
          refine sy_cmp rfl rfl rfl rfl rfl ?_
          refine sy_pickF rfl rfl rfl rfl ?_
          refine sy_setT (d := 101) rfl rfl (by first | rfl | decide | (simp only [beq_iff_eq, beq_eq_false_iff_ne, bne_iff_ne, bne_eq_false_iff_eq, decide_eq_true_eq, decide_eq_false_iff_not, ne_eq, Bool.not_eq_true, Bool.not_eq_false] at * <;> omega)) ?_
          refine sy_pickT rfl rfl rfl rfl ?_
          refine sy_assign rfl rfl rfl ?_
          refine sy_nil rfl ?_
          refine ny_next ?_
          refine cy_ret ?_
          exact ny_finR (res1 rfl rfl) (fun w hs => ⟨ret_true (by first | rfl | decide | (simp only [beq_iff_eq, beq_eq_false_iff_ne, bne_iff_ne, bne_eq_false_iff_eq, decide_eq_true_eq, decide_eq_false_iff_not, ne_eq, Bool.not_eq_true, Bool.not_eq_false] at * <;> omega)), hs.frm⟩)
      · refine sy_move rfl rfl rfl ?_
        refine sy_move rfl rfl rfl ?_
        refine sy_cmp rfl rfl rfl rfl rfl ?_
        refine sy_pickF rfl rfl rfl rfl ?_
        refine sy_setT (d := 84) rfl rfl (by first | rfl | decide | (simp only [beq_iff_eq, beq_eq_false_iff_ne, bne_iff_ne, bne_eq_false_iff_eq, decide_eq_true_eq, decide_eq_false_iff_not, ne_eq, Bool.not_eq_true, Bool.not_eq_false] at * <;> omega)) ?_
        refine sy_pickT rfl rfl rfl rfl ?_
        refine sy_pickF rfl rfl rfl rfl ?_
        refine sy_pickT rfl rfl rfl rfl ?_
        refine sy_move rfl rfl rfl ?_
        refine sy_move rfl rfl rfl ?_
        refine sy_not rfl rfl rfl ?_
        refine sy_setF (d := 90) rfl rfl rfl ?_
        refine sy_move rfl rfl rfl ?_
        refine sy_move rfl rfl rfl ?_
        refine sy_move rfl rfl rfl ?_
        refine sy_cmp rfl rfl rfl rfl rfl ?_
        refine sy_pickF rfl rfl rfl rfl ?_
        refine sy_move rfl rfl rfl ?_
        refine sy_cond (d := 96) _ rfl rfl (fun hg96 => ?_) (fun hg96 => ?_)
        · refine sy_skip rfl rfl rfl ?_
          refine sy_skip rfl rfl rfl ?_
          refine sy_skip rfl rfl rfl ?_
          refine sy_skip rfl rfl rfl ?_
          refine sy_pickT rfl rfl rfl rfl ?_
          refine sy_setT (d := 101) rfl rfl (by first | rfl | decide | (simp only [beq_iff_eq, beq_eq_false_iff_ne, bne_iff_ne, bne_eq_false_iff_eq, decide_eq_true_eq, decide_eq_false_iff_not, ne_eq, Bool.not_eq_true, Bool.not_eq_false] at * <;> omega)) ?_
          refine sy_pickT rfl rfl rfl rfl ?_
          refine sy_assign rfl rfl rfl ?_
          refine sy_nil rfl ?_
          refine ny_next ?_
          refine cy_ret ?_
          exact ny_finR (res1 rfl rfl) (fun w hs => ⟨ret_true (by first | rfl | decide | (simp only [beq_iff_eq, beq_eq_false_iff_ne, bne_iff_ne, bne_eq_false_iff_eq, decide_eq_true_eq, decide_eq_false_iff_not, ne_eq, Bool.not_eq_true, Bool.not_eq_false] at * <;> omega)), hs.frm⟩)
        · refine sy_move rfl rfl rfl ?_
          refine sy_move rfl rfl rfl ?_
          refine sy_subi rfl rfl rfl (by omega) (by omega) rfl rfl ?_
          refine sy_cmp rfl rfl rfl rfl rfl ?_
          refine sy_pickF rfl rfl rfl rfl ?_
          refine sy_setT (d := 101) rfl rfl (by first | rfl | decide | (simp only [beq_iff_eq, beq_eq_false_iff_ne, bne_iff_ne, bne_eq_false_iff_eq, decide_eq_true_eq, decide_eq_false_iff_not, ne_eq, Bool.not_eq_true, Bool.not_eq_false] at * <;> omega)) ?_
          refine sy_pickT rfl rfl rfl rfl ?_
          refine sy_assign rfl rfl rfl ?_
          refine sy_nil rfl ?_
          refine ny_next ?_
          refine cy_ret ?_
          exact ny_finR (res1 rfl rfl) (fun w hs => ⟨ret_true (by first | rfl | decide | (simp only [beq_iff_eq, beq_eq_false_iff_ne, bne_iff_ne, bne_eq_false_iff_eq, decide_eq_true_eq, decide_eq_false_iff_not, ne_eq, Bool.not_eq_true, Bool.not_eq_false] at * <;> omega)), hs.frm⟩)
    · refine sy_move rfl rfl rfl ?_
      refine sy_move rfl rfl rfl ?_
      refine sy_subi rfl rfl rfl (by omega) (by omega) rfl rfl ?_
      refine sy_cmp rfl rfl rfl rfl rfl ?_
      refine sy_pickF rfl rfl rfl rfl ?_
      refine sy_setT (d := 74) rfl rfl (by first | rfl | decide | (simp only [beq_iff_eq, beq_eq_false_iff_ne, bne_iff_ne, bne_eq_false_iff_eq, decide_eq_true_eq, decide_eq_false_iff_not, ne_eq, Bool.not_eq_true, Bool.not_eq_false] at * <;> omega)) ?_
      refine sy_pickT rfl rfl rfl rfl ?_
      refine sy_move rfl rfl rfl ?_
      refine sy_move rfl rfl rfl ?_
      refine sy_move rfl rfl rfl ?_
      refine sy_cmp rfl rfl rfl rfl rfl ?_
      refine sy_move rfl rfl rfl ?_
      refine sy_cond (d := 80) _ rfl rfl (fun hg80 => ?_) (fun hg80 => ?_)
      · refine sy_skip rfl rfl rfl ?_
        refine sy_skip rfl rfl rfl ?_
        refine sy_skip rfl rfl rfl ?_
        refine sy_pickT rfl rfl rfl rfl ?_
        refine sy_setT (d := 84) rfl rfl (by first | rfl | decide | (simp only [beq_iff_eq, beq_eq_false_iff_ne, bne_iff_ne, bne_eq_false_iff_eq, decide_eq_true_eq, decide_eq_false_iff_not, ne_eq, Bool.not_eq_true, Bool.not_eq_false] at * <;> omega)) ?_
        refine sy_pickT rfl rfl rfl rfl ?_
        refine sy_pickF rfl rfl rfl rfl ?_
        refine sy_pickT rfl rfl rfl rfl ?_
        refine sy_move rfl rfl rfl ?_
        refine sy_move rfl rfl rfl ?_
        refine sy_not rfl rfl rfl ?_
        refine sy_setF (d := 90) rfl rfl rfl ?_
        refine sy_move rfl rfl rfl ?_
        refine sy_move rfl rfl rfl ?_
        refine sy_move rfl rfl rfl ?_
        refine sy_cmp rfl rfl rfl rfl rfl ?_
        refine sy_pickF rfl rfl rfl rfl ?_
        refine sy_move rfl rfl rfl ?_
        refine sy_cond (d := 96) _ rfl rfl (fun hg96 => ?_) (fun hg96 => ?_)
        · refine sy_skip rfl rfl rfl ?_
          refine sy_skip rfl rfl rfl ?_
          refine sy_skip rfl rfl rfl ?_
          refine sy_skip rfl rfl rfl ?_
          refine sy_pickT rfl rfl rfl rfl ?_
          refine sy_setT (d := 101) rfl rfl (by first | rfl | decide | (simp only [beq_iff_eq, beq_eq_false_iff_ne, bne_iff_ne, bne_eq_false_iff_eq, decide_eq_true_eq, decide_eq_false_iff_not, ne_eq, Bool.not_eq_true, Bool.not_eq_false] at * <;> omega)) ?_
          refine sy_pickT rfl rfl rfl rfl ?_
          refine sy_assign rfl rfl rfl ?_
          refine sy_nil rfl ?_
          refine ny_next ?_
          refine cy_ret ?_
          exact ny_finR (res1 rfl rfl) (fun w hs => ⟨ret_true (by first | rfl | decide | (simp only [beq_iff_eq, beq_eq_false_iff_ne, bne_iff_ne, bne_eq_false_iff_eq, decide_eq_true_eq, decide_eq_false_iff_not, ne_eq, Bool.not_eq_true, Bool.not_eq_false] at * <;> omega)), hs.frm⟩)
        · refine sy_move rfl rfl rfl ?_
          refine sy_move rfl rfl rfl ?_
          refine sy_subi rfl rfl rfl (by omega) (by omega) rfl rfl ?_
          refine sy_cmp rfl rfl rfl rfl rfl ?_
          refine sy_pickF rfl rfl rfl rfl ?_
          refine sy_setT (d := 101) rfl rfl (by first | rfl | decide | (simp only [beq_iff_eq, beq_eq_false_iff_ne, bne_iff_ne, bne_eq_false_iff_eq, decide_eq_true_eq, decide_eq_false_iff_not, ne_eq, Bool.not_eq_true, Bool.not_eq_false] at * <;> omega)) ?_
          refine sy_pickT rfl rfl rfl rfl ?_
          refine sy_assign rfl rfl rfl ?_
          refine sy_nil rfl ?_
          refine ny_next ?_
          refine cy_ret ?_
          exact ny_finR (res1 rfl rfl) (fun w hs => ⟨ret_true (by first | rfl | decide | (simp only [beq_iff_eq, beq_eq_false_iff_ne, bne_iff_ne, bne_eq_false_iff_eq, decide_eq_true_eq, decide_eq_false_iff_not, ne_eq, Bool.not_eq_true, Bool.not_eq_false] at * <;> omega)), hs.frm⟩)
      · refine sy_move rfl rfl rfl ?_
        refine sy_move rfl rfl rfl ?_
        refine sy_cmp rfl rfl rfl rfl rfl ?_
        refine sy_pickF rfl rfl rfl rfl ?_
        refine sy_setT (d := 84) rfl rfl (by first | rfl | decide | (simp only [beq_iff_eq, beq_eq_false_iff_ne, bne_iff_ne, bne_eq_false_iff_eq, decide_eq_true_eq, decide_eq_false_iff_not, ne_eq, Bool.not_eq_true, Bool.not_eq_false] at * <;> omega)) ?_
        refine sy_pickT rfl rfl rfl rfl ?_
        refine sy_pickF rfl rfl rfl rfl ?_
        refine sy_pickT rfl rfl rfl rfl ?_
        refine sy_move rfl rfl rfl ?_
        refine sy_move rfl rfl rfl ?_
        refine sy_not rfl rfl rfl ?_
        refine sy_setF (d := 90) rfl rfl rfl ?_
        refine sy_move rfl rfl rfl ?_
        refine sy_move rfl rfl rfl ?_
        refine sy_move rfl rfl rfl ?_
        refine sy_cmp rfl rfl rfl rfl rfl ?_
        refine sy_pickF rfl rfl rfl rfl ?_
        refine sy_move rfl rfl rfl ?_
        refine sy_cond (d := 96) _ rfl rfl (fun hg96 => ?_) (fun hg96 => ?_)
        · refine sy_skip rfl rfl rfl ?_
          refine sy_skip rfl rfl rfl ?_
          refine sy_skip rfl rfl rfl ?_
          refine sy_skip rfl rfl rfl ?_
          refine sy_pickT rfl rfl rfl rfl ?_
          refine sy_setT (d := 101) rfl rfl (by first | rfl | decide | (simp only [beq_iff_eq, beq_eq_false_iff_ne, bne_iff_ne, bne_eq_false_iff_eq, decide_eq_true_eq, decide_eq_false_iff_not, ne_eq, Bool.not_eq_true, Bool.not_eq_false] at * <;> omega)) ?_
          refine sy_pickT rfl rfl rfl rfl ?_
          refine sy_assign rfl rfl rfl ?_
          refine sy_nil rfl ?_
          refine ny_next ?_
          refine cy_ret ?_
          exact ny_finR (res1 rfl rfl) (fun w hs => ⟨ret_true (by first | rfl | decide | (simp only [beq_iff_eq, beq_eq_false_iff_ne, bne_iff_ne, bne_eq_false_iff_eq, decide_eq_true_eq, decide_eq_false_iff_not, ne_eq, Bool.not_eq_true, Bool.not_eq_false] at * <;> omega)), hs.frm⟩)
        · refine sy_move rfl rfl rfl ?_
          refine sy_move rfl rfl rfl ?_
          refine sy_subi rfl rfl rfl (by omega) (by omega) rfl rfl ?_
          refine sy_cmp rfl rfl rfl rfl rfl ?_
          refine sy_pickF rfl rfl rfl rfl ?_
          refine sy_setT (d := 101) rfl rfl (by first | rfl | decide | (simp only [beq_iff_eq, beq_eq_false_iff_ne, bne_iff_ne, bne_eq_false_iff_eq, decide_eq_true_eq, decide_eq_false_iff_not, ne_eq, Bool.not_eq_true, Bool.not_eq_false] at * <;> omega)) ?_
          refine sy_pickT rfl rfl rfl rfl ?_
          refine sy_assign rfl rfl rfl ?_
          refine sy_nil rfl ?_
          refine ny_next ?_
          refine cy_ret ?_
          exact ny_finR (res1 rfl rfl) (fun w hs => ⟨ret_true (by first | rfl | decide | (simp only [beq_iff_eq, beq_eq_false_iff_ne, bne_iff_ne, bne_eq_false_iff_eq, decide_eq_true_eq, decide_eq_false_iff_not, ne_eq, Bool.not_eq_true, Bool.not_eq_false] at * <;> omega)), hs.frm⟩)
set_option maxRecDepth 100000 in
theorem opsRooms_TF (s : ByteArray) (h : Hp) (a b c : Int) (hX : refInfix s.data.toList = (a, b, c, true)) (hY : refPrefix s.data.toList = (0, 0, false)) (h1 : a = b ∨ a = b - 1) (h2 : c = b ∨ c = b - 1) (h3 : a < b ∨ c < b) (h4 : 0 < b) (h5 : b ≤ 2000) : C0 Try.prog 5 [.string s] h (.bool true) := by
  refine enter0 Try.func5 rfl rfl rfl (fun w => ?_)
  refine cy_seq ?_
  refine cy_region ?_
  refine sy_assign rfl rfl rfl ?_
  refine sy_nil rfl ?_
  refine ny_next ?_
  refine cy_seq ?_
  refine cy_region ?_
  refine sy_call rfl call_16 rfl (shown_c _) rfl rfl ?_
  refine sy_assign rfl rfl rfl ?_
  refine sy_setT (d := 3) rfl rfl rfl ?_
  refine sy_nil rfl ?_
  refine ny_next ?_
  refine cy_seq ?_
  refine cy_region ?_
  refine sy_move rfl rfl rfl ?_
  refine sy_call rfl call_17 rfl (infix_v hX) rfl rfl ?_
  refine sy_move rfl rfl rfl ?_
  refine sy_extract rfl rfl rfl rfl ?_
  refine sy_extract rfl rfl rfl rfl ?_
  refine sy_extract rfl rfl rfl rfl ?_
  refine sy_extract rfl rfl rfl rfl ?_
  refine sy_setT (d := 18) rfl rfl rfl ?_
  refine sy_assign rfl rfl rfl ?_
  refine sy_assign rfl rfl rfl ?_
  refine sy_assign rfl rfl rfl ?_
  refine sy_assign rfl rfl rfl ?_
  refine sy_nil rfl ?_
  refine ny_next ?_
  refine cy_seq ?_
  refine cy_region ?_
  refine sy_move rfl rfl rfl ?_
  refine sy_call rfl call_19 rfl (prefix_v hY) rfl rfl ?_
  refine sy_move rfl rfl rfl ?_
  refine sy_extract rfl rfl rfl rfl ?_
  refine sy_extract rfl rfl rfl rfl ?_
  refine sy_extract rfl rfl rfl rfl ?_
  refine sy_setF (d := 24) rfl rfl rfl ?_
  refine sy_assign rfl rfl rfl ?_
  refine sy_assign rfl rfl rfl ?_
  refine sy_assign rfl rfl rfl ?_
  refine sy_nil rfl ?_
  refine ny_next ?_
  refine cy_seq ?_
  refine cy_seq ?_
  refine cy_region ?_
  refine sy_move rfl rfl rfl ?_
  refine sy_not rfl rfl rfl ?_
  refine sy_setF (d := 26) rfl rfl rfl ?_
  refine sy_move rfl rfl rfl ?_
  refine sy_skip rfl rfl rfl ?_
  refine sy_skip rfl rfl rfl ?_
  refine sy_skip rfl rfl rfl ?_
  refine sy_skip rfl rfl rfl ?_
  refine sy_skip rfl rfl rfl ?_
  refine sy_skip rfl rfl rfl ?_
  refine sy_skip rfl rfl rfl ?_
  refine sy_skip rfl rfl rfl ?_
  refine sy_skip rfl rfl rfl ?_
  refine sy_skip rfl rfl rfl ?_
  refine sy_pickF rfl rfl rfl rfl ?_
  refine sy_move rfl rfl rfl ?_
  refine sy_move rfl rfl rfl ?_
  refine sy_not rfl rfl rfl ?_
  refine sy_setT (d := 41) rfl rfl rfl ?_
  refine sy_move rfl rfl rfl ?_
  refine sy_move rfl rfl rfl ?_
  refine sy_cmp rfl rfl rfl rfl rfl ?_
  refine sy_setF (d := 44) rfl rfl rfl ?_
  refine sy_move rfl rfl rfl ?_
  refine sy_move rfl rfl rfl ?_
  refine sy_cmp rfl rfl rfl rfl rfl ?_
  refine sy_setF (d := 47) rfl rfl rfl ?_
  refine sy_pickF rfl rfl rfl rfl ?_
  refine sy_pickT rfl rfl rfl rfl ?_
  refine sy_pickF rfl rfl rfl rfl ?_
  refine sy_nil rfl ?_
  refine ny_next ?_
  refine cy_condF rfl ?_
  refine cy_skip ?_
  refine ny_next ?_
  refine cy_seq ?_
  refine cy_region ?_
  refine sy_move rfl rfl rfl ?_
  refine sy_move rfl rfl rfl ?_
  refine sy_move rfl rfl rfl ?_
  refine sy_not rfl rfl rfl ?_
  refine sy_setF (d := 54) rfl rfl rfl ?_
  refine sy_move rfl rfl rfl ?_
  refine sy_move rfl rfl rfl ?_
  refine sy_move rfl rfl rfl ?_
  refine sy_cmp rfl rfl rfl rfl rfl ?_
  refine sy_move rfl rfl rfl ?_
  refine sy_cond (d := 59) _ rfl rfl (fun hg59 => ?_) (fun hg59 => ?_)
  · refine sy_skip rfl rfl rfl ?_
    refine sy_skip rfl rfl rfl ?_
    refine sy_skip rfl rfl rfl ?_
    refine sy_skip rfl rfl rfl ?_
    refine sy_pickT rfl rfl rfl rfl ?_
    refine sy_setT (d := 64) rfl rfl (by first | rfl | decide | (simp only [beq_iff_eq, beq_eq_false_iff_ne, bne_iff_ne, bne_eq_false_iff_eq, decide_eq_true_eq, decide_eq_false_iff_not, ne_eq, Bool.not_eq_true, Bool.not_eq_false] at * <;> omega)) ?_
    refine sy_move rfl rfl rfl ?_
    refine sy_move rfl rfl rfl ?_
    refine sy_move rfl rfl rfl ?_
    refine sy_cmp rfl rfl rfl rfl rfl ?_
    refine sy_move rfl rfl rfl ?_
    refine sy_cond (d := 69) _ rfl rfl (fun hg69 => ?_) (fun hg69 => ?_)
    · refine sy_skip rfl rfl rfl ?_
      refine sy_skip rfl rfl rfl ?_
      refine sy_skip rfl rfl rfl ?_
      refine sy_skip rfl rfl rfl ?_
      refine sy_pickT rfl rfl rfl rfl ?_
      refine sy_setT (d := 74) rfl rfl (by first | rfl | decide | (simp only [beq_iff_eq, beq_eq_false_iff_ne, bne_iff_ne, bne_eq_false_iff_eq, decide_eq_true_eq, decide_eq_false_iff_not, ne_eq, Bool.not_eq_true, Bool.not_eq_false] at * <;> omega)) ?_
      refine sy_pickT rfl rfl rfl rfl ?_
      refine sy_move rfl rfl rfl ?_
      refine sy_move rfl rfl rfl ?_
      refine sy_move rfl rfl rfl ?_
      refine sy_cmp rfl rfl rfl rfl rfl ?_
      refine sy_move rfl rfl rfl ?_
      refine sy_cond (d := 80) _ rfl rfl (fun hg80 => ?_) (fun hg80 => ?_)
      · refine sy_skip rfl rfl rfl ?_
        refine sy_skip rfl rfl rfl ?_
        refine sy_skip rfl rfl rfl ?_
        refine sy_pickT rfl rfl rfl rfl ?_
        refine sy_setT (d := 84) rfl rfl (by first | rfl | decide | (simp only [beq_iff_eq, beq_eq_false_iff_ne, bne_iff_ne, bne_eq_false_iff_eq, decide_eq_true_eq, decide_eq_false_iff_not, ne_eq, Bool.not_eq_true, Bool.not_eq_false] at * <;> omega)) ?_
        refine sy_pickT rfl rfl rfl rfl ?_
        refine sy_pickF rfl rfl rfl rfl ?_
        refine sy_pickT rfl rfl rfl rfl ?_
        refine sy_move rfl rfl rfl ?_
        refine sy_move rfl rfl rfl ?_
        refine sy_not rfl rfl rfl ?_
        refine sy_setT (d := 90) rfl rfl rfl ?_
        refine sy_move rfl rfl rfl ?_
        refine sy_skip rfl rfl rfl ?_
        refine sy_skip rfl rfl rfl ?_
        refine sy_skip rfl rfl rfl ?_
        refine sy_pickT rfl rfl rfl rfl ?_
        refine sy_setT (d := 95) rfl rfl (by first | rfl | decide | (simp only [beq_iff_eq, beq_eq_false_iff_ne, bne_iff_ne, bne_eq_false_iff_eq, decide_eq_true_eq, decide_eq_false_iff_not, ne_eq, Bool.not_eq_true, Bool.not_eq_false] at * <;> omega)) ?_
        refine sy_move rfl rfl rfl ?_
        refine sy_skip rfl rfl rfl ?_
        refine sy_skip rfl rfl rfl ?_
        refine sy_skip rfl rfl rfl ?_
        refine sy_skip rfl rfl rfl ?_
        refine sy_pickT rfl rfl rfl rfl ?_
        refine sy_setT (d := 101) rfl rfl (by first | rfl | decide | (simp only [beq_iff_eq, beq_eq_false_iff_ne, bne_iff_ne, bne_eq_false_iff_eq, decide_eq_true_eq, decide_eq_false_iff_not, ne_eq, Bool.not_eq_true, Bool.not_eq_false] at * <;> omega)) ?_
        refine sy_pickT rfl rfl rfl rfl ?_
        refine sy_assign rfl rfl rfl ?_
        refine sy_nil rfl ?_
        refine ny_next ?_
        refine cy_ret ?_
        exact ny_finR (res1 rfl rfl) (fun w hs => ⟨ret_true (by first | rfl | decide | (simp only [beq_iff_eq, beq_eq_false_iff_ne, bne_iff_ne, bne_eq_false_iff_eq, decide_eq_true_eq, decide_eq_false_iff_not, ne_eq, Bool.not_eq_true, Bool.not_eq_false] at * <;> omega)), hs.frm⟩)
      · refine sy_move rfl rfl rfl ?_
        refine sy_move rfl rfl rfl ?_
        refine sy_cmp rfl rfl rfl rfl rfl ?_
        refine sy_pickF rfl rfl rfl rfl ?_
        refine sy_setT (d := 84) rfl rfl (by first | rfl | decide | (simp only [beq_iff_eq, beq_eq_false_iff_ne, bne_iff_ne, bne_eq_false_iff_eq, decide_eq_true_eq, decide_eq_false_iff_not, ne_eq, Bool.not_eq_true, Bool.not_eq_false] at * <;> omega)) ?_
        refine sy_pickT rfl rfl rfl rfl ?_
        refine sy_pickF rfl rfl rfl rfl ?_
        refine sy_pickT rfl rfl rfl rfl ?_
        refine sy_move rfl rfl rfl ?_
        refine sy_move rfl rfl rfl ?_
        refine sy_not rfl rfl rfl ?_
        refine sy_setT (d := 90) rfl rfl rfl ?_
        refine sy_move rfl rfl rfl ?_
        refine sy_skip rfl rfl rfl ?_
        refine sy_skip rfl rfl rfl ?_
        refine sy_skip rfl rfl rfl ?_
        refine sy_pickT rfl rfl rfl rfl ?_
        refine sy_setT (d := 95) rfl rfl (by first | rfl | decide | (simp only [beq_iff_eq, beq_eq_false_iff_ne, bne_iff_ne, bne_eq_false_iff_eq, decide_eq_true_eq, decide_eq_false_iff_not, ne_eq, Bool.not_eq_true, Bool.not_eq_false] at * <;> omega)) ?_
        refine sy_move rfl rfl rfl ?_
        refine sy_skip rfl rfl rfl ?_
        refine sy_skip rfl rfl rfl ?_
        refine sy_skip rfl rfl rfl ?_
        refine sy_skip rfl rfl rfl ?_
        refine sy_pickT rfl rfl rfl rfl ?_
        refine sy_setT (d := 101) rfl rfl (by first | rfl | decide | (simp only [beq_iff_eq, beq_eq_false_iff_ne, bne_iff_ne, bne_eq_false_iff_eq, decide_eq_true_eq, decide_eq_false_iff_not, ne_eq, Bool.not_eq_true, Bool.not_eq_false] at * <;> omega)) ?_
        refine sy_pickT rfl rfl rfl rfl ?_
        refine sy_assign rfl rfl rfl ?_
        refine sy_nil rfl ?_
        refine ny_next ?_
        refine cy_ret ?_
        exact ny_finR (res1 rfl rfl) (fun w hs => ⟨ret_true (by first | rfl | decide | (simp only [beq_iff_eq, beq_eq_false_iff_ne, bne_iff_ne, bne_eq_false_iff_eq, decide_eq_true_eq, decide_eq_false_iff_not, ne_eq, Bool.not_eq_true, Bool.not_eq_false] at * <;> omega)), hs.frm⟩)
    · refine sy_move rfl rfl rfl ?_
      refine sy_move rfl rfl rfl ?_
      refine sy_subi rfl rfl rfl (by omega) (by omega) rfl rfl ?_
      refine sy_cmp rfl rfl rfl rfl rfl ?_
      refine sy_pickF rfl rfl rfl rfl ?_
      refine sy_setT (d := 74) rfl rfl (by first | rfl | decide | (simp only [beq_iff_eq, beq_eq_false_iff_ne, bne_iff_ne, bne_eq_false_iff_eq, decide_eq_true_eq, decide_eq_false_iff_not, ne_eq, Bool.not_eq_true, Bool.not_eq_false] at * <;> omega)) ?_
      refine sy_pickT rfl rfl rfl rfl ?_
      refine sy_move rfl rfl rfl ?_
      refine sy_move rfl rfl rfl ?_
      refine sy_move rfl rfl rfl ?_
      refine sy_cmp rfl rfl rfl rfl rfl ?_
      refine sy_move rfl rfl rfl ?_
      refine sy_cond (d := 80) _ rfl rfl (fun hg80 => ?_) (fun hg80 => ?_)
      · refine sy_skip rfl rfl rfl ?_
        refine sy_skip rfl rfl rfl ?_
        refine sy_skip rfl rfl rfl ?_
        refine sy_pickT rfl rfl rfl rfl ?_
        refine sy_setT (d := 84) rfl rfl (by first | rfl | decide | (simp only [beq_iff_eq, beq_eq_false_iff_ne, bne_iff_ne, bne_eq_false_iff_eq, decide_eq_true_eq, decide_eq_false_iff_not, ne_eq, Bool.not_eq_true, Bool.not_eq_false] at * <;> omega)) ?_
        refine sy_pickT rfl rfl rfl rfl ?_
        refine sy_pickF rfl rfl rfl rfl ?_
        refine sy_pickT rfl rfl rfl rfl ?_
        refine sy_move rfl rfl rfl ?_
        refine sy_move rfl rfl rfl ?_
        refine sy_not rfl rfl rfl ?_
        refine sy_setT (d := 90) rfl rfl rfl ?_
        refine sy_move rfl rfl rfl ?_
        refine sy_skip rfl rfl rfl ?_
        refine sy_skip rfl rfl rfl ?_
        refine sy_skip rfl rfl rfl ?_
        refine sy_pickT rfl rfl rfl rfl ?_
        refine sy_setT (d := 95) rfl rfl (by first | rfl | decide | (simp only [beq_iff_eq, beq_eq_false_iff_ne, bne_iff_ne, bne_eq_false_iff_eq, decide_eq_true_eq, decide_eq_false_iff_not, ne_eq, Bool.not_eq_true, Bool.not_eq_false] at * <;> omega)) ?_
        refine sy_move rfl rfl rfl ?_
        refine sy_skip rfl rfl rfl ?_
        refine sy_skip rfl rfl rfl ?_
        refine sy_skip rfl rfl rfl ?_
        refine sy_skip rfl rfl rfl ?_
        refine sy_pickT rfl rfl rfl rfl ?_
        refine sy_setT (d := 101) rfl rfl (by first | rfl | decide | (simp only [beq_iff_eq, beq_eq_false_iff_ne, bne_iff_ne, bne_eq_false_iff_eq, decide_eq_true_eq, decide_eq_false_iff_not, ne_eq, Bool.not_eq_true, Bool.not_eq_false] at * <;> omega)) ?_
        refine sy_pickT rfl rfl rfl rfl ?_
        refine sy_assign rfl rfl rfl ?_
        refine sy_nil rfl ?_
        refine ny_next ?_
        refine cy_ret ?_
        exact ny_finR (res1 rfl rfl) (fun w hs => ⟨ret_true (by first | rfl | decide | (simp only [beq_iff_eq, beq_eq_false_iff_ne, bne_iff_ne, bne_eq_false_iff_eq, decide_eq_true_eq, decide_eq_false_iff_not, ne_eq, Bool.not_eq_true, Bool.not_eq_false] at * <;> omega)), hs.frm⟩)
      · refine sy_move rfl rfl rfl ?_
        refine sy_move rfl rfl rfl ?_
        refine sy_cmp rfl rfl rfl rfl rfl ?_
        refine sy_pickF rfl rfl rfl rfl ?_
        refine sy_setT (d := 84) rfl rfl (by first | rfl | decide | (simp only [beq_iff_eq, beq_eq_false_iff_ne, bne_iff_ne, bne_eq_false_iff_eq, decide_eq_true_eq, decide_eq_false_iff_not, ne_eq, Bool.not_eq_true, Bool.not_eq_false] at * <;> omega)) ?_
        refine sy_pickT rfl rfl rfl rfl ?_
        refine sy_pickF rfl rfl rfl rfl ?_
        refine sy_pickT rfl rfl rfl rfl ?_
        refine sy_move rfl rfl rfl ?_
        refine sy_move rfl rfl rfl ?_
        refine sy_not rfl rfl rfl ?_
        refine sy_setT (d := 90) rfl rfl rfl ?_
        refine sy_move rfl rfl rfl ?_
        refine sy_skip rfl rfl rfl ?_
        refine sy_skip rfl rfl rfl ?_
        refine sy_skip rfl rfl rfl ?_
        refine sy_pickT rfl rfl rfl rfl ?_
        refine sy_setT (d := 95) rfl rfl (by first | rfl | decide | (simp only [beq_iff_eq, beq_eq_false_iff_ne, bne_iff_ne, bne_eq_false_iff_eq, decide_eq_true_eq, decide_eq_false_iff_not, ne_eq, Bool.not_eq_true, Bool.not_eq_false] at * <;> omega)) ?_
        refine sy_move rfl rfl rfl ?_
        refine sy_skip rfl rfl rfl ?_
        refine sy_skip rfl rfl rfl ?_
        refine sy_skip rfl rfl rfl ?_
        refine sy_skip rfl rfl rfl ?_
        refine sy_pickT rfl rfl rfl rfl ?_
        refine sy_setT (d := 101) rfl rfl (by first | rfl | decide | (simp only [beq_iff_eq, beq_eq_false_iff_ne, bne_iff_ne, bne_eq_false_iff_eq, decide_eq_true_eq, decide_eq_false_iff_not, ne_eq, Bool.not_eq_true, Bool.not_eq_false] at * <;> omega)) ?_
        refine sy_pickT rfl rfl rfl rfl ?_
        refine sy_assign rfl rfl rfl ?_
        refine sy_nil rfl ?_
        refine ny_next ?_
        refine cy_ret ?_
        exact ny_finR (res1 rfl rfl) (fun w hs => ⟨ret_true (by first | rfl | decide | (simp only [beq_iff_eq, beq_eq_false_iff_ne, bne_iff_ne, bne_eq_false_iff_eq, decide_eq_true_eq, decide_eq_false_iff_not, ne_eq, Bool.not_eq_true, Bool.not_eq_false] at * <;> omega)), hs.frm⟩)
  · refine sy_move rfl rfl rfl ?_
    refine sy_move rfl rfl rfl ?_
    refine sy_subi rfl rfl rfl (by omega) (by omega) rfl rfl ?_
    refine sy_cmp rfl rfl rfl rfl rfl ?_
    refine sy_pickF rfl rfl rfl rfl ?_
    refine sy_setT (d := 64) rfl rfl (by first | rfl | decide | (simp only [beq_iff_eq, beq_eq_false_iff_ne, bne_iff_ne, bne_eq_false_iff_eq, decide_eq_true_eq, decide_eq_false_iff_not, ne_eq, Bool.not_eq_true, Bool.not_eq_false] at * <;> omega)) ?_
    refine sy_move rfl rfl rfl ?_
    refine sy_move rfl rfl rfl ?_
    refine sy_move rfl rfl rfl ?_
    refine sy_cmp rfl rfl rfl rfl rfl ?_
    refine sy_move rfl rfl rfl ?_
    refine sy_cond (d := 69) _ rfl rfl (fun hg69 => ?_) (fun hg69 => ?_)
    · refine sy_skip rfl rfl rfl ?_
      refine sy_skip rfl rfl rfl ?_
      refine sy_skip rfl rfl rfl ?_
      refine sy_skip rfl rfl rfl ?_
      refine sy_pickT rfl rfl rfl rfl ?_
      refine sy_setT (d := 74) rfl rfl (by first | rfl | decide | (simp only [beq_iff_eq, beq_eq_false_iff_ne, bne_iff_ne, bne_eq_false_iff_eq, decide_eq_true_eq, decide_eq_false_iff_not, ne_eq, Bool.not_eq_true, Bool.not_eq_false] at * <;> omega)) ?_
      refine sy_pickT rfl rfl rfl rfl ?_
      refine sy_move rfl rfl rfl ?_
      refine sy_move rfl rfl rfl ?_
      refine sy_move rfl rfl rfl ?_
      refine sy_cmp rfl rfl rfl rfl rfl ?_
      refine sy_move rfl rfl rfl ?_
      refine sy_cond (d := 80) _ rfl rfl (fun hg80 => ?_) (fun hg80 => ?_)
      · refine sy_skip rfl rfl rfl ?_
        refine sy_skip rfl rfl rfl ?_
        refine sy_skip rfl rfl rfl ?_
        refine sy_pickT rfl rfl rfl rfl ?_
        refine sy_setT (d := 84) rfl rfl (by first | rfl | decide | (simp only [beq_iff_eq, beq_eq_false_iff_ne, bne_iff_ne, bne_eq_false_iff_eq, decide_eq_true_eq, decide_eq_false_iff_not, ne_eq, Bool.not_eq_true, Bool.not_eq_false] at * <;> omega)) ?_
        refine sy_pickT rfl rfl rfl rfl ?_
        refine sy_pickF rfl rfl rfl rfl ?_
        refine sy_pickT rfl rfl rfl rfl ?_
        refine sy_move rfl rfl rfl ?_
        refine sy_move rfl rfl rfl ?_
        refine sy_not rfl rfl rfl ?_
        refine sy_setT (d := 90) rfl rfl rfl ?_
        refine sy_move rfl rfl rfl ?_
        refine sy_skip rfl rfl rfl ?_
        refine sy_skip rfl rfl rfl ?_
        refine sy_skip rfl rfl rfl ?_
        refine sy_pickT rfl rfl rfl rfl ?_
        refine sy_setT (d := 95) rfl rfl (by first | rfl | decide | (simp only [beq_iff_eq, beq_eq_false_iff_ne, bne_iff_ne, bne_eq_false_iff_eq, decide_eq_true_eq, decide_eq_false_iff_not, ne_eq, Bool.not_eq_true, Bool.not_eq_false] at * <;> omega)) ?_
        refine sy_move rfl rfl rfl ?_
        refine sy_skip rfl rfl rfl ?_
        refine sy_skip rfl rfl rfl ?_
        refine sy_skip rfl rfl rfl ?_
        refine sy_skip rfl rfl rfl ?_
        refine sy_pickT rfl rfl rfl rfl ?_
        refine sy_setT (d := 101) rfl rfl (by first | rfl | decide | (simp only [beq_iff_eq, beq_eq_false_iff_ne, bne_iff_ne, bne_eq_false_iff_eq, decide_eq_true_eq, decide_eq_false_iff_not, ne_eq, Bool.not_eq_true, Bool.not_eq_false] at * <;> omega)) ?_
        refine sy_pickT rfl rfl rfl rfl ?_
        refine sy_assign rfl rfl rfl ?_
        refine sy_nil rfl ?_
        refine ny_next ?_
        refine cy_ret ?_
        exact ny_finR (res1 rfl rfl) (fun w hs => ⟨ret_true (by first | rfl | decide | (simp only [beq_iff_eq, beq_eq_false_iff_ne, bne_iff_ne, bne_eq_false_iff_eq, decide_eq_true_eq, decide_eq_false_iff_not, ne_eq, Bool.not_eq_true, Bool.not_eq_false] at * <;> omega)), hs.frm⟩)
      · refine sy_move rfl rfl rfl ?_
        refine sy_move rfl rfl rfl ?_
        refine sy_cmp rfl rfl rfl rfl rfl ?_
        refine sy_pickF rfl rfl rfl rfl ?_
        refine sy_setT (d := 84) rfl rfl (by first | rfl | decide | (simp only [beq_iff_eq, beq_eq_false_iff_ne, bne_iff_ne, bne_eq_false_iff_eq, decide_eq_true_eq, decide_eq_false_iff_not, ne_eq, Bool.not_eq_true, Bool.not_eq_false] at * <;> omega)) ?_
        refine sy_pickT rfl rfl rfl rfl ?_
        refine sy_pickF rfl rfl rfl rfl ?_
        refine sy_pickT rfl rfl rfl rfl ?_
        refine sy_move rfl rfl rfl ?_
        refine sy_move rfl rfl rfl ?_
        refine sy_not rfl rfl rfl ?_
        refine sy_setT (d := 90) rfl rfl rfl ?_
        refine sy_move rfl rfl rfl ?_
        refine sy_skip rfl rfl rfl ?_
        refine sy_skip rfl rfl rfl ?_
        refine sy_skip rfl rfl rfl ?_
        refine sy_pickT rfl rfl rfl rfl ?_
        refine sy_setT (d := 95) rfl rfl (by first | rfl | decide | (simp only [beq_iff_eq, beq_eq_false_iff_ne, bne_iff_ne, bne_eq_false_iff_eq, decide_eq_true_eq, decide_eq_false_iff_not, ne_eq, Bool.not_eq_true, Bool.not_eq_false] at * <;> omega)) ?_
        refine sy_move rfl rfl rfl ?_
        refine sy_skip rfl rfl rfl ?_
        refine sy_skip rfl rfl rfl ?_
        refine sy_skip rfl rfl rfl ?_
        refine sy_skip rfl rfl rfl ?_
        refine sy_pickT rfl rfl rfl rfl ?_
        refine sy_setT (d := 101) rfl rfl (by first | rfl | decide | (simp only [beq_iff_eq, beq_eq_false_iff_ne, bne_iff_ne, bne_eq_false_iff_eq, decide_eq_true_eq, decide_eq_false_iff_not, ne_eq, Bool.not_eq_true, Bool.not_eq_false] at * <;> omega)) ?_
        refine sy_pickT rfl rfl rfl rfl ?_
        refine sy_assign rfl rfl rfl ?_
        refine sy_nil rfl ?_
        refine ny_next ?_
        refine cy_ret ?_
        exact ny_finR (res1 rfl rfl) (fun w hs => ⟨ret_true (by first | rfl | decide | (simp only [beq_iff_eq, beq_eq_false_iff_ne, bne_iff_ne, bne_eq_false_iff_eq, decide_eq_true_eq, decide_eq_false_iff_not, ne_eq, Bool.not_eq_true, Bool.not_eq_false] at * <;> omega)), hs.frm⟩)
    · refine sy_move rfl rfl rfl ?_
      refine sy_move rfl rfl rfl ?_
      refine sy_subi rfl rfl rfl (by omega) (by omega) rfl rfl ?_
      refine sy_cmp rfl rfl rfl rfl rfl ?_
      refine sy_pickF rfl rfl rfl rfl ?_
      refine sy_setT (d := 74) rfl rfl (by first | rfl | decide | (simp only [beq_iff_eq, beq_eq_false_iff_ne, bne_iff_ne, bne_eq_false_iff_eq, decide_eq_true_eq, decide_eq_false_iff_not, ne_eq, Bool.not_eq_true, Bool.not_eq_false] at * <;> omega)) ?_
      refine sy_pickT rfl rfl rfl rfl ?_
      refine sy_move rfl rfl rfl ?_
      refine sy_move rfl rfl rfl ?_
      refine sy_move rfl rfl rfl ?_
      refine sy_cmp rfl rfl rfl rfl rfl ?_
      refine sy_move rfl rfl rfl ?_
      refine sy_cond (d := 80) _ rfl rfl (fun hg80 => ?_) (fun hg80 => ?_)
      · refine sy_skip rfl rfl rfl ?_
        refine sy_skip rfl rfl rfl ?_
        refine sy_skip rfl rfl rfl ?_
        refine sy_pickT rfl rfl rfl rfl ?_
        refine sy_setT (d := 84) rfl rfl (by first | rfl | decide | (simp only [beq_iff_eq, beq_eq_false_iff_ne, bne_iff_ne, bne_eq_false_iff_eq, decide_eq_true_eq, decide_eq_false_iff_not, ne_eq, Bool.not_eq_true, Bool.not_eq_false] at * <;> omega)) ?_
        refine sy_pickT rfl rfl rfl rfl ?_
        refine sy_pickF rfl rfl rfl rfl ?_
        refine sy_pickT rfl rfl rfl rfl ?_
        refine sy_move rfl rfl rfl ?_
        refine sy_move rfl rfl rfl ?_
        refine sy_not rfl rfl rfl ?_
        refine sy_setT (d := 90) rfl rfl rfl ?_
        refine sy_move rfl rfl rfl ?_
        refine sy_skip rfl rfl rfl ?_
        refine sy_skip rfl rfl rfl ?_
        refine sy_skip rfl rfl rfl ?_
        refine sy_pickT rfl rfl rfl rfl ?_
        refine sy_setT (d := 95) rfl rfl (by first | rfl | decide | (simp only [beq_iff_eq, beq_eq_false_iff_ne, bne_iff_ne, bne_eq_false_iff_eq, decide_eq_true_eq, decide_eq_false_iff_not, ne_eq, Bool.not_eq_true, Bool.not_eq_false] at * <;> omega)) ?_
        refine sy_move rfl rfl rfl ?_
        refine sy_skip rfl rfl rfl ?_
        refine sy_skip rfl rfl rfl ?_
        refine sy_skip rfl rfl rfl ?_
        refine sy_skip rfl rfl rfl ?_
        refine sy_pickT rfl rfl rfl rfl ?_
        refine sy_setT (d := 101) rfl rfl (by first | rfl | decide | (simp only [beq_iff_eq, beq_eq_false_iff_ne, bne_iff_ne, bne_eq_false_iff_eq, decide_eq_true_eq, decide_eq_false_iff_not, ne_eq, Bool.not_eq_true, Bool.not_eq_false] at * <;> omega)) ?_
        refine sy_pickT rfl rfl rfl rfl ?_
        refine sy_assign rfl rfl rfl ?_
        refine sy_nil rfl ?_
        refine ny_next ?_
        refine cy_ret ?_
        exact ny_finR (res1 rfl rfl) (fun w hs => ⟨ret_true (by first | rfl | decide | (simp only [beq_iff_eq, beq_eq_false_iff_ne, bne_iff_ne, bne_eq_false_iff_eq, decide_eq_true_eq, decide_eq_false_iff_not, ne_eq, Bool.not_eq_true, Bool.not_eq_false] at * <;> omega)), hs.frm⟩)
      · refine sy_move rfl rfl rfl ?_
        refine sy_move rfl rfl rfl ?_
        refine sy_cmp rfl rfl rfl rfl rfl ?_
        refine sy_pickF rfl rfl rfl rfl ?_
        refine sy_setT (d := 84) rfl rfl (by first | rfl | decide | (simp only [beq_iff_eq, beq_eq_false_iff_ne, bne_iff_ne, bne_eq_false_iff_eq, decide_eq_true_eq, decide_eq_false_iff_not, ne_eq, Bool.not_eq_true, Bool.not_eq_false] at * <;> omega)) ?_
        refine sy_pickT rfl rfl rfl rfl ?_
        refine sy_pickF rfl rfl rfl rfl ?_
        refine sy_pickT rfl rfl rfl rfl ?_
        refine sy_move rfl rfl rfl ?_
        refine sy_move rfl rfl rfl ?_
        refine sy_not rfl rfl rfl ?_
        refine sy_setT (d := 90) rfl rfl rfl ?_
        refine sy_move rfl rfl rfl ?_
        refine sy_skip rfl rfl rfl ?_
        refine sy_skip rfl rfl rfl ?_
        refine sy_skip rfl rfl rfl ?_
        refine sy_pickT rfl rfl rfl rfl ?_
        refine sy_setT (d := 95) rfl rfl (by first | rfl | decide | (simp only [beq_iff_eq, beq_eq_false_iff_ne, bne_iff_ne, bne_eq_false_iff_eq, decide_eq_true_eq, decide_eq_false_iff_not, ne_eq, Bool.not_eq_true, Bool.not_eq_false] at * <;> omega)) ?_
        refine sy_move rfl rfl rfl ?_
        refine sy_skip rfl rfl rfl ?_
        refine sy_skip rfl rfl rfl ?_
        refine sy_skip rfl rfl rfl ?_
        refine sy_skip rfl rfl rfl ?_
        refine sy_pickT rfl rfl rfl rfl ?_
        refine sy_setT (d := 101) rfl rfl (by first | rfl | decide | (simp only [beq_iff_eq, beq_eq_false_iff_ne, bne_iff_ne, bne_eq_false_iff_eq, decide_eq_true_eq, decide_eq_false_iff_not, ne_eq, Bool.not_eq_true, Bool.not_eq_false] at * <;> omega)) ?_
        refine sy_pickT rfl rfl rfl rfl ?_
        refine sy_assign rfl rfl rfl ?_
        refine sy_nil rfl ?_
        refine ny_next ?_
        refine cy_ret ?_
        exact ny_finR (res1 rfl rfl) (fun w hs => ⟨ret_true (by first | rfl | decide | (simp only [beq_iff_eq, beq_eq_false_iff_ne, bne_iff_ne, bne_eq_false_iff_eq, decide_eq_true_eq, decide_eq_false_iff_not, ne_eq, Bool.not_eq_true, Bool.not_eq_false] at * <;> omega)), hs.frm⟩)
set_option maxRecDepth 100000 in
theorem opsRooms_FT (s : ByteArray) (h : Hp) (d e : Int) (hX : refInfix s.data.toList = (0, 0, 0, false)) (hY : refPrefix s.data.toList = (d, e, true)) (h6 : e = d ∨ e = d - 1) (h7 : 0 < d) (h8 : d ≤ 2000) : C0 Try.prog 5 [.string s] h (.bool true) := by
  refine enter0 Try.func5 rfl rfl rfl (fun w => ?_)
  refine cy_seq ?_
  refine cy_region ?_
  refine sy_assign rfl rfl rfl ?_
  refine sy_nil rfl ?_
  refine ny_next ?_
  refine cy_seq ?_
  refine cy_region ?_
  refine sy_call rfl call_16 rfl (shown_c _) rfl rfl ?_
  refine sy_assign rfl rfl rfl ?_
  refine sy_setT (d := 3) rfl rfl rfl ?_
  refine sy_nil rfl ?_
  refine ny_next ?_
  refine cy_seq ?_
  refine cy_region ?_
  refine sy_move rfl rfl rfl ?_
  refine sy_call rfl call_17 rfl (infix_v hX) rfl rfl ?_
  refine sy_move rfl rfl rfl ?_
  refine sy_extract rfl rfl rfl rfl ?_
  refine sy_extract rfl rfl rfl rfl ?_
  refine sy_extract rfl rfl rfl rfl ?_
  refine sy_extract rfl rfl rfl rfl ?_
  refine sy_setF (d := 18) rfl rfl rfl ?_
  refine sy_assign rfl rfl rfl ?_
  refine sy_assign rfl rfl rfl ?_
  refine sy_assign rfl rfl rfl ?_
  refine sy_assign rfl rfl rfl ?_
  refine sy_nil rfl ?_
  refine ny_next ?_
  refine cy_seq ?_
  refine cy_region ?_
  refine sy_move rfl rfl rfl ?_
  refine sy_call rfl call_19 rfl (prefix_v hY) rfl rfl ?_
  refine sy_move rfl rfl rfl ?_
  refine sy_extract rfl rfl rfl rfl ?_
  refine sy_extract rfl rfl rfl rfl ?_
  refine sy_extract rfl rfl rfl rfl ?_
  refine sy_setT (d := 24) rfl rfl rfl ?_
  refine sy_assign rfl rfl rfl ?_
  refine sy_assign rfl rfl rfl ?_
  refine sy_assign rfl rfl rfl ?_
  refine sy_nil rfl ?_
  refine ny_next ?_
  refine cy_seq ?_
  refine cy_seq ?_
  refine cy_region ?_
  refine sy_move rfl rfl rfl ?_
  refine sy_not rfl rfl rfl ?_
  refine sy_setT (d := 26) rfl rfl rfl ?_
  refine sy_move rfl rfl rfl ?_
  refine sy_move rfl rfl rfl ?_
  refine sy_cmp rfl rfl rfl rfl rfl ?_
  refine sy_setF (d := 29) rfl rfl rfl ?_
  refine sy_move rfl rfl rfl ?_
  refine sy_move rfl rfl rfl ?_
  refine sy_cmp rfl rfl rfl rfl rfl ?_
  refine sy_setF (d := 32) rfl rfl rfl ?_
  refine sy_pickF rfl rfl rfl rfl ?_
  refine sy_move rfl rfl rfl ?_
  refine sy_move rfl rfl rfl ?_
  refine sy_cmp rfl rfl rfl rfl rfl ?_
  refine sy_setF (d := 36) rfl rfl rfl ?_
  refine sy_pickF rfl rfl rfl rfl ?_
  refine sy_pickT rfl rfl rfl rfl ?_
  refine sy_move rfl rfl rfl ?_
  refine sy_move rfl rfl rfl ?_
  refine sy_not rfl rfl rfl ?_
  refine sy_setF (d := 41) rfl rfl rfl ?_
  refine sy_move rfl rfl rfl ?_
  refine sy_skip rfl rfl rfl ?_
  refine sy_skip rfl rfl rfl ?_
  refine sy_skip rfl rfl rfl ?_
  refine sy_skip rfl rfl rfl ?_
  refine sy_skip rfl rfl rfl ?_
  refine sy_skip rfl rfl rfl ?_
  refine sy_pickF rfl rfl rfl rfl ?_
  refine sy_pickF rfl rfl rfl rfl ?_
  refine sy_nil rfl ?_
  refine ny_next ?_
  refine cy_condF rfl ?_
  refine cy_skip ?_
  refine ny_next ?_
  refine cy_seq ?_
  refine cy_region ?_
  refine sy_move rfl rfl rfl ?_
  refine sy_move rfl rfl rfl ?_
  refine sy_move rfl rfl rfl ?_
  refine sy_not rfl rfl rfl ?_
  refine sy_setT (d := 54) rfl rfl rfl ?_
  refine sy_move rfl rfl rfl ?_
  refine sy_skip rfl rfl rfl ?_
  refine sy_skip rfl rfl rfl ?_
  refine sy_skip rfl rfl rfl ?_
  refine sy_skip rfl rfl rfl ?_
  refine sy_skip rfl rfl rfl ?_
  refine sy_skip rfl rfl rfl ?_
  refine sy_skip rfl rfl rfl ?_
  refine sy_skip rfl rfl rfl ?_
  refine sy_skip rfl rfl rfl ?_
  refine sy_skip rfl rfl rfl ?_
  refine sy_skip rfl rfl rfl ?_
  refine sy_skip rfl rfl rfl ?_
  refine sy_skip rfl rfl rfl ?_
  refine sy_skip rfl rfl rfl ?_
  refine sy_skip rfl rfl rfl ?_
  refine sy_skip rfl rfl rfl ?_
  refine sy_skip rfl rfl rfl ?_
  refine sy_skip rfl rfl rfl ?_
  refine sy_skip rfl rfl rfl ?_
  refine sy_skip rfl rfl rfl ?_
  refine sy_skip rfl rfl rfl ?_
  refine sy_skip rfl rfl rfl ?_
  refine sy_skip rfl rfl rfl ?_
  refine sy_skip rfl rfl rfl ?_
  refine sy_skip rfl rfl rfl ?_
  refine sy_skip rfl rfl rfl ?_
  refine sy_skip rfl rfl rfl ?_
  refine sy_skip rfl rfl rfl ?_
  refine sy_skip rfl rfl rfl ?_
  refine sy_skip rfl rfl rfl ?_
  refine sy_pickT rfl rfl rfl rfl ?_
  refine sy_pickT rfl rfl rfl rfl ?_
  refine sy_move rfl rfl rfl ?_
  refine sy_move rfl rfl rfl ?_
  refine sy_not rfl rfl rfl ?_
  refine sy_setF (d := 90) rfl rfl rfl ?_
  refine sy_move rfl rfl rfl ?_
  refine sy_move rfl rfl rfl ?_
  refine sy_move rfl rfl rfl ?_
  refine sy_cmp rfl rfl rfl rfl rfl ?_
  refine sy_pickF rfl rfl rfl rfl ?_
  refine sy_move rfl rfl rfl ?_
  refine sy_cond (d := 96) _ rfl rfl (fun hg96 => ?_) (fun hg96 => ?_)
  · refine sy_skip rfl rfl rfl ?_
    refine sy_skip rfl rfl rfl ?_
    refine sy_skip rfl rfl rfl ?_
    refine sy_skip rfl rfl rfl ?_
    refine sy_pickT rfl rfl rfl rfl ?_
    refine sy_setT (d := 101) rfl rfl (by first | rfl | decide | (simp only [beq_iff_eq, beq_eq_false_iff_ne, bne_iff_ne, bne_eq_false_iff_eq, decide_eq_true_eq, decide_eq_false_iff_not, ne_eq, Bool.not_eq_true, Bool.not_eq_false] at * <;> omega)) ?_
    refine sy_pickT rfl rfl rfl rfl ?_
    refine sy_assign rfl rfl rfl ?_
    refine sy_nil rfl ?_
    refine ny_next ?_
    refine cy_ret ?_
    exact ny_finR (res1 rfl rfl) (fun w hs => ⟨ret_true (by first | rfl | decide | (simp only [beq_iff_eq, beq_eq_false_iff_ne, bne_iff_ne, bne_eq_false_iff_eq, decide_eq_true_eq, decide_eq_false_iff_not, ne_eq, Bool.not_eq_true, Bool.not_eq_false] at * <;> omega)), hs.frm⟩)
  · refine sy_move rfl rfl rfl ?_
    refine sy_move rfl rfl rfl ?_
    refine sy_subi rfl rfl rfl (by omega) (by omega) rfl rfl ?_
    refine sy_cmp rfl rfl rfl rfl rfl ?_
    refine sy_pickF rfl rfl rfl rfl ?_
    refine sy_setT (d := 101) rfl rfl (by first | rfl | decide | (simp only [beq_iff_eq, beq_eq_false_iff_ne, bne_iff_ne, bne_eq_false_iff_eq, decide_eq_true_eq, decide_eq_false_iff_not, ne_eq, Bool.not_eq_true, Bool.not_eq_false] at * <;> omega)) ?_
    refine sy_pickT rfl rfl rfl rfl ?_
    refine sy_assign rfl rfl rfl ?_
    refine sy_nil rfl ?_
    refine ny_next ?_
    refine cy_ret ?_
    exact ny_finR (res1 rfl rfl) (fun w hs => ⟨ret_true (by first | rfl | decide | (simp only [beq_iff_eq, beq_eq_false_iff_ne, bne_iff_ne, bne_eq_false_iff_eq, decide_eq_true_eq, decide_eq_false_iff_not, ne_eq, Bool.not_eq_true, Bool.not_eq_false] at * <;> omega)), hs.frm⟩)
set_option maxRecDepth 100000 in
theorem opsRooms_FF (s : ByteArray) (h : Hp) (hX : refInfix s.data.toList = (0, 0, 0, false)) (hY : refPrefix s.data.toList = (0, 0, false)) : C0 Try.prog 5 [.string s] h (.bool true) := by
  refine enter0 Try.func5 rfl rfl rfl (fun w => ?_)
  refine cy_seq ?_
  refine cy_region ?_
  refine sy_assign rfl rfl rfl ?_
  refine sy_nil rfl ?_
  refine ny_next ?_
  refine cy_seq ?_
  refine cy_region ?_
  refine sy_call rfl call_16 rfl (shown_c _) rfl rfl ?_
  refine sy_assign rfl rfl rfl ?_
  refine sy_setT (d := 3) rfl rfl rfl ?_
  refine sy_nil rfl ?_
  refine ny_next ?_
  refine cy_seq ?_
  refine cy_region ?_
  refine sy_move rfl rfl rfl ?_
  refine sy_call rfl call_17 rfl (infix_v hX) rfl rfl ?_
  refine sy_move rfl rfl rfl ?_
  refine sy_extract rfl rfl rfl rfl ?_
  refine sy_extract rfl rfl rfl rfl ?_
  refine sy_extract rfl rfl rfl rfl ?_
  refine sy_extract rfl rfl rfl rfl ?_
  refine sy_setF (d := 18) rfl rfl rfl ?_
  refine sy_assign rfl rfl rfl ?_
  refine sy_assign rfl rfl rfl ?_
  refine sy_assign rfl rfl rfl ?_
  refine sy_assign rfl rfl rfl ?_
  refine sy_nil rfl ?_
  refine ny_next ?_
  refine cy_seq ?_
  refine cy_region ?_
  refine sy_move rfl rfl rfl ?_
  refine sy_call rfl call_19 rfl (prefix_v hY) rfl rfl ?_
  refine sy_move rfl rfl rfl ?_
  refine sy_extract rfl rfl rfl rfl ?_
  refine sy_extract rfl rfl rfl rfl ?_
  refine sy_extract rfl rfl rfl rfl ?_
  refine sy_setF (d := 24) rfl rfl rfl ?_
  refine sy_assign rfl rfl rfl ?_
  refine sy_assign rfl rfl rfl ?_
  refine sy_assign rfl rfl rfl ?_
  refine sy_nil rfl ?_
  refine ny_next ?_
  refine cy_seq ?_
  refine cy_seq ?_
  refine cy_region ?_
  refine sy_move rfl rfl rfl ?_
  refine sy_not rfl rfl rfl ?_
  refine sy_setT (d := 26) rfl rfl rfl ?_
  refine sy_move rfl rfl rfl ?_
  refine sy_move rfl rfl rfl ?_
  refine sy_cmp rfl rfl rfl rfl rfl ?_
  refine sy_setF (d := 29) rfl rfl rfl ?_
  refine sy_move rfl rfl rfl ?_
  refine sy_move rfl rfl rfl ?_
  refine sy_cmp rfl rfl rfl rfl rfl ?_
  refine sy_setF (d := 32) rfl rfl rfl ?_
  refine sy_pickF rfl rfl rfl rfl ?_
  refine sy_move rfl rfl rfl ?_
  refine sy_move rfl rfl rfl ?_
  refine sy_cmp rfl rfl rfl rfl rfl ?_
  refine sy_setF (d := 36) rfl rfl rfl ?_
  refine sy_pickF rfl rfl rfl rfl ?_
  refine sy_pickT rfl rfl rfl rfl ?_
  refine sy_move rfl rfl rfl ?_
  refine sy_move rfl rfl rfl ?_
  refine sy_not rfl rfl rfl ?_
  refine sy_setT (d := 41) rfl rfl rfl ?_
  refine sy_move rfl rfl rfl ?_
  refine sy_move rfl rfl rfl ?_
  refine sy_cmp rfl rfl rfl rfl rfl ?_
  refine sy_setF (d := 44) rfl rfl rfl ?_
  refine sy_move rfl rfl rfl ?_
  refine sy_move rfl rfl rfl ?_
  refine sy_cmp rfl rfl rfl rfl rfl ?_
  refine sy_setF (d := 47) rfl rfl rfl ?_
  refine sy_pickF rfl rfl rfl rfl ?_
  refine sy_pickT rfl rfl rfl rfl ?_
  refine sy_pickF rfl rfl rfl rfl ?_
  refine sy_nil rfl ?_
  refine ny_next ?_
  refine cy_condF rfl ?_
  refine cy_skip ?_
  refine ny_next ?_
  refine cy_seq ?_
  refine cy_region ?_
  refine sy_move rfl rfl rfl ?_
  refine sy_move rfl rfl rfl ?_
  refine sy_move rfl rfl rfl ?_
  refine sy_not rfl rfl rfl ?_
  refine sy_setT (d := 54) rfl rfl rfl ?_
  refine sy_move rfl rfl rfl ?_
  refine sy_skip rfl rfl rfl ?_
  refine sy_skip rfl rfl rfl ?_
  refine sy_skip rfl rfl rfl ?_
  refine sy_skip rfl rfl rfl ?_
  refine sy_skip rfl rfl rfl ?_
  refine sy_skip rfl rfl rfl ?_
  refine sy_skip rfl rfl rfl ?_
  refine sy_skip rfl rfl rfl ?_
  refine sy_skip rfl rfl rfl ?_
  refine sy_skip rfl rfl rfl ?_
  refine sy_skip rfl rfl rfl ?_
  refine sy_skip rfl rfl rfl ?_
  refine sy_skip rfl rfl rfl ?_
  refine sy_skip rfl rfl rfl ?_
  refine sy_skip rfl rfl rfl ?_
  refine sy_skip rfl rfl rfl ?_
  refine sy_skip rfl rfl rfl ?_
  refine sy_skip rfl rfl rfl ?_
  refine sy_skip rfl rfl rfl ?_
  refine sy_skip rfl rfl rfl ?_
  refine sy_skip rfl rfl rfl ?_
  refine sy_skip rfl rfl rfl ?_
  refine sy_skip rfl rfl rfl ?_
  refine sy_skip rfl rfl rfl ?_
  refine sy_skip rfl rfl rfl ?_
  refine sy_skip rfl rfl rfl ?_
  refine sy_skip rfl rfl rfl ?_
  refine sy_skip rfl rfl rfl ?_
  refine sy_skip rfl rfl rfl ?_
  refine sy_skip rfl rfl rfl ?_
  refine sy_pickT rfl rfl rfl rfl ?_
  refine sy_pickT rfl rfl rfl rfl ?_
  refine sy_move rfl rfl rfl ?_
  refine sy_move rfl rfl rfl ?_
  refine sy_not rfl rfl rfl ?_
  refine sy_setT (d := 90) rfl rfl rfl ?_
  refine sy_move rfl rfl rfl ?_
  refine sy_skip rfl rfl rfl ?_
  refine sy_skip rfl rfl rfl ?_
  refine sy_skip rfl rfl rfl ?_
  refine sy_pickT rfl rfl rfl rfl ?_
  refine sy_setT (d := 95) rfl rfl (by first | rfl | decide | (simp only [beq_iff_eq, beq_eq_false_iff_ne, bne_iff_ne, bne_eq_false_iff_eq, decide_eq_true_eq, decide_eq_false_iff_not, ne_eq, Bool.not_eq_true, Bool.not_eq_false] at * <;> omega)) ?_
  refine sy_move rfl rfl rfl ?_
  refine sy_skip rfl rfl rfl ?_
  refine sy_skip rfl rfl rfl ?_
  refine sy_skip rfl rfl rfl ?_
  refine sy_skip rfl rfl rfl ?_
  refine sy_pickT rfl rfl rfl rfl ?_
  refine sy_setT (d := 101) rfl rfl (by first | rfl | decide | (simp only [beq_iff_eq, beq_eq_false_iff_ne, bne_iff_ne, bne_eq_false_iff_eq, decide_eq_true_eq, decide_eq_false_iff_not, ne_eq, Bool.not_eq_true, Bool.not_eq_false] at * <;> omega)) ?_
  refine sy_pickT rfl rfl rfl rfl ?_
  refine sy_assign rfl rfl rfl ?_
  refine sy_nil rfl ?_
  refine ny_next ?_
  refine cy_ret ?_
  exact ny_finR (res1 rfl rfl) (fun w hs => ⟨ret_true (by first | rfl | decide | (simp only [beq_iff_eq, beq_eq_false_iff_ne, bne_iff_ne, bne_eq_false_iff_eq, decide_eq_true_eq, decide_eq_false_iff_not, ne_eq, Bool.not_eq_true, Bool.not_eq_false] at * <;> omega)), hs.frm⟩)
theorem opsRooms_c (s : ByteArray) (h : Hp) : C0 Try.prog 5 [.string s] h (.bool true) := by
  obtain ⟨a, b, c, is, hX⟩ : ∃ a b c is, refInfix s.data.toList = (a, b, c, is) := ⟨_, _, _, _, rfl⟩
  obtain ⟨d, e, was, hY⟩ : ∃ d e was, refPrefix s.data.toList = (d, e, was) := ⟨_, _, _, rfl⟩
  have f1 := infix_facts hX
  have f2 := prefix_facts hY
  cases is with
  | false =>
    obtain ⟨rfl, rfl, rfl⟩ := f1.1 rfl
    cases was with
    | false =>
      obtain ⟨rfl, rfl⟩ := f2.1 rfl
      exact opsRooms_FF s h hX hY
    | true =>
      obtain ⟨g1, g2, g3⟩ := f2.2 rfl
      exact opsRooms_FT s h d e hX hY g1 g2 g3
  | true =>
    obtain ⟨k1, k2, k3, k4, k5⟩ := f1.2 rfl
    cases was with
    | false =>
      obtain ⟨rfl, rfl⟩ := f2.1 rfl
      exact opsRooms_TF s h a b c hX hY k1 k2 k3 k4 k5
    | true =>
      obtain ⟨g1, g2, g3⟩ := f2.2 rfl
      exact opsRooms_TT s h a b c d e hX hY k1 k2 k3 k4 k5 g1 g2 g3
set_option maxRecDepth 100000 in
theorem opsReads_3 (c0 : UInt8) (h : Hp) (i : Nat) (hi : i = c0.toNat % 26) (p : Int) (t0 t1 t2 : UInt8) (nm : List UInt8) (ho : opsL[i]? = some (p, [t0, t1, t2], nm)) (hp1 : 1 ≤ p) (hp2 : p ≤ 1200) (hc0 : c0.toNat < 256) (a b : Int) (hX : refInfix nm = (a, p, b, true)) (h1 : a ≥ 0) (h2 : b ≥ 0) (h3 : a + b ≥ 2 * p - 2) (h4 : a + b < 2 * p) : C0 Try.prog 6 [.int .u8 (c0.toNat : Int)] h (.bool true) := by
  refine enter0 Try.func6 rfl rfl rfl (fun w => ?_)
  refine cy_seq ?_
  refine cy_region ?_
  refine sy_assign rfl rfl rfl ?_
  refine sy_nil rfl ?_
  refine ny_next ?_
  refine cy_seq ?_
  refine cy_region ?_
  refine sy_call rfl call_16 rfl (shown_c _) rfl rfl ?_
  refine sy_assign rfl rfl rfl ?_
  refine sy_nil rfl ?_
  refine ny_next ?_
  refine cy_seq ?_
  refine cy_region ?_
  refine sy_callx call_21 rfl (all_c _) rfl rfl (fun x9 h2 hx hle9 => ?_)
  obtain ⟨g, c⟩ := x9
  refine sy_assign rfl rfl rfl ?_
  refine sy_nil rfl ?_
  refine ny_next ?_
  refine cy_seq ?_
  refine cy_seq ?_
  refine cy_region ?_
  refine sy_move rfl rfl rfl ?_
  refine sy_len rfl (len_slice Try.underlying28 _ _ _) rfl rfl ?_
  refine sy_cmp rfl rfl rfl rfl rfl ?_
  refine sy_nil rfl ?_
  refine ny_next ?_
  refine cy_cond rfl (fun hc17 => ?_) (fun hc17 => ?_)
  · cases hc17
  · refine cy_skip ?_
    refine ny_next ?_
    refine cy_seq ?_
    refine cy_region ?_
    refine sy_move rfl rfl rfl ?_
    refine sy_move rfl rfl rfl ?_
    refine sy_convi Try.underlying5 Try.underlying3 rfl (by omega) (by omega) rfl rfl ?_
    refine sy_move rfl rfl rfl ?_
    refine sy_len rfl (len_slice Try.underlying28 _ _ _) rfl rfl ?_
    refine sy_rem (z := ((i : Nat) : Int)) rfl rfl (by omega) (by decide) (by decide) (by omega) rfl rfl ?_
    refine sy_idxS (ik := .i64) (i := (i : Int)) els_28 rfl rfl (by omega) (by omega) rfl rfl ?_
    refine sy_ldah (vs := [.int .i64 p, .string ⟨([t0, t1, t2] : List UInt8).toArray⟩, .string ⟨nm.toArray⟩]) agg_33 rfl rfl (fun j u hj => by have := hx _ u (cellsOf_get ho hj); simpa using this) rfl rfl ?_
    refine sy_alloc zer_33 rfl rfl (fun b5 hb5 hM5 => ?_) (by simp)
    first | refine sy_stl 0 sz_33 rfl rfl rfl rfl rfl rfl rfl rfl ?_ | refine sy_stl 1 sz_33 rfl rfl rfl rfl rfl rfl rfl rfl ?_
    refine sy_nil rfl ?_
    refine ny_next ?_
    refine cy_seq ?_
    refine cy_region ?_
    refine sy_field fld_33_2 rfl rfl rfl ?_
    first | refine sy_ldr 0 one_9 rfl rfl rfl rfl rfl ?_ | refine sy_ldr 1 one_9 rfl rfl rfl rfl rfl ?_
    refine sy_call rfl call_17 rfl (infix_v hX) rfl rfl ?_
    refine sy_move rfl rfl rfl ?_
    refine sy_extract rfl rfl rfl rfl ?_
    refine sy_extract rfl rfl rfl rfl ?_
    refine sy_extract rfl rfl rfl rfl ?_
    refine sy_extract rfl rfl rfl rfl ?_
    refine sy_setT (d := 33) rfl rfl rfl ?_
    refine sy_assign rfl rfl rfl ?_
    refine sy_assign rfl rfl rfl ?_
    refine sy_assign rfl rfl rfl ?_
    refine sy_assign rfl rfl rfl ?_
    refine sy_nil rfl ?_
    refine ny_next ?_
    refine cy_seq ?_
    refine cy_region ?_
    refine sy_field fld_33_2 rfl rfl rfl ?_
    first | refine sy_ldr 0 one_9 rfl rfl rfl rfl rfl ?_ | refine sy_ldr 1 one_9 rfl rfl rfl rfl rfl ?_
    refine sy_call rfl call_19 rfl (prefix_c _ _) rfl rfl ?_
    refine sy_move rfl rfl rfl ?_
    refine sy_extract rfl rfl rfl rfl ?_
    refine sy_extract rfl rfl rfl rfl ?_
    refine sy_extract rfl rfl rfl rfl ?_
    refine sy_assign rfl rfl rfl ?_
    refine sy_assign rfl rfl rfl ?_
    refine sy_assign rfl rfl rfl ?_
    refine sy_nil rfl ?_
    refine ny_next ?_
    refine cy_seq ?_
    refine cy_seq ?_
    refine cy_region ?_
    refine sy_field fld_33_1 rfl rfl rfl ?_
    first | refine sy_ldr 0 one_9 rfl rfl rfl rfl rfl ?_ | refine sy_ldr 1 one_9 rfl rfl rfl rfl rfl ?_
    refine sy_len rfl (len_string Try.underlying9 _) rfl rfl ?_
    refine sy_cmp rfl rfl rfl rfl rfl ?_
    refine sy_nil rfl ?_
    refine ny_next ?_
    refine cy_cond rfl (fun hc44 => ?_) (fun hc44 => ?_)
    · refine cy_seq ?_
      refine cy_region ?_
      refine sy_move rfl rfl rfl ?_
      refine sy_move rfl rfl rfl ?_
      refine sy_setT (d := 46) rfl rfl (by first | rfl | decide | (simp only [beq_iff_eq, beq_eq_false_iff_ne, bne_iff_ne, bne_eq_false_iff_eq, decide_eq_true_eq, decide_eq_false_iff_not, ne_eq, Bool.not_eq_true, Bool.not_eq_false] at * <;> omega)) ?_
      refine sy_move rfl rfl rfl ?_
      refine sy_pickT rfl rfl rfl rfl ?_
      refine sy_move rfl rfl rfl ?_
      refine sy_move rfl rfl rfl ?_
      refine sy_field fld_33_0 rfl rfl rfl ?_
      first | refine sy_ldr 0 one_3 rfl rfl rfl rfl rfl ?_ | refine sy_ldr 1 one_3 rfl rfl rfl rfl rfl ?_
      refine sy_cmp rfl rfl rfl rfl rfl ?_
      refine sy_pickT rfl rfl rfl rfl ?_
      refine sy_move rfl rfl rfl ?_
      refine sy_setT (d := 55) rfl rfl (by first | rfl | decide | (simp only [beq_iff_eq, beq_eq_false_iff_ne, bne_iff_ne, bne_eq_false_iff_eq, decide_eq_true_eq, decide_eq_false_iff_not, ne_eq, Bool.not_eq_true, Bool.not_eq_false] at * <;> omega)) ?_
      refine sy_move rfl rfl rfl ?_
      refine sy_cmp rfl rfl rfl rfl rfl ?_
      refine sy_pickT rfl rfl rfl rfl ?_
      refine sy_move rfl rfl rfl ?_
      refine sy_setT (d := 59) rfl rfl (by first | rfl | decide | (simp only [beq_iff_eq, beq_eq_false_iff_ne, bne_iff_ne, bne_eq_false_iff_eq, decide_eq_true_eq, decide_eq_false_iff_not, ne_eq, Bool.not_eq_true, Bool.not_eq_false] at * <;> omega)) ?_
      refine sy_move rfl rfl rfl ?_
      refine sy_cmp rfl rfl rfl rfl rfl ?_
      refine sy_pickT rfl rfl rfl rfl ?_
      refine sy_move rfl rfl rfl ?_
      refine sy_setT (d := 63) rfl rfl (by first | rfl | decide | (simp only [beq_iff_eq, beq_eq_false_iff_ne, bne_iff_ne, bne_eq_false_iff_eq, decide_eq_true_eq, decide_eq_false_iff_not, ne_eq, Bool.not_eq_true, Bool.not_eq_false] at * <;> omega)) ?_
      refine sy_move rfl rfl rfl ?_
      refine sy_move rfl rfl rfl ?_
      refine sy_addi rfl rfl rfl (by omega) (by omega) rfl rfl ?_
      refine sy_move rfl rfl rfl ?_
      refine sy_muli rfl rfl rfl (by omega) (by omega) rfl rfl ?_
      refine sy_subi rfl rfl rfl (by omega) (by omega) rfl rfl ?_
      refine sy_cmp rfl rfl rfl rfl rfl ?_
      refine sy_pickT rfl rfl rfl rfl ?_
      refine sy_move rfl rfl rfl ?_
      refine sy_setT (d := 72) rfl rfl (by first | rfl | decide | (simp only [beq_iff_eq, beq_eq_false_iff_ne, bne_iff_ne, bne_eq_false_iff_eq, decide_eq_true_eq, decide_eq_false_iff_not, ne_eq, Bool.not_eq_true, Bool.not_eq_false] at * <;> omega)) ?_
      refine sy_move rfl rfl rfl ?_
      refine sy_move rfl rfl rfl ?_
      refine sy_addi rfl rfl rfl (by omega) (by omega) rfl rfl ?_
      refine sy_move rfl rfl rfl ?_
      refine sy_muli rfl rfl rfl (by omega) (by omega) rfl rfl ?_
      refine sy_cmp rfl rfl rfl rfl rfl ?_
      refine sy_pickT rfl rfl rfl rfl ?_
      refine sy_assign rfl rfl rfl ?_
      refine sy_nil rfl ?_
      refine ny_next ?_
      refine cy_ret ?_
      refine ny_thenR ?_
      exact ny_finR (res1 rfl rfl) (fun w hs => ⟨ret_true (by first | rfl | decide | (simp only [beq_iff_eq, beq_eq_false_iff_ne, bne_iff_ne, bne_eq_false_iff_eq, decide_eq_true_eq, decide_eq_false_iff_not, ne_eq, Bool.not_eq_true, Bool.not_eq_false] at * <;> omega)), hs.frm⟩)
    · simp [ByteArray.size] at hc44
set_option maxRecDepth 100000 in
theorem opsReads_2 (c0 : UInt8) (h : Hp) (i : Nat) (hi : i = c0.toNat % 26) (p : Int) (t0 t1 : UInt8) (nm : List UInt8) (ho : opsL[i]? = some (p, [t0, t1], nm)) (hp1 : 1 ≤ p) (hp2 : p ≤ 1200) (hc0 : c0.toNat < 256) (e : Int) (hX : refPrefix nm = (p, e, true)) (h1 : e ≤ p) : C0 Try.prog 6 [.int .u8 (c0.toNat : Int)] h (.bool true) := by
  refine enter0 Try.func6 rfl rfl rfl (fun w => ?_)
  refine cy_seq ?_
  refine cy_region ?_
  refine sy_assign rfl rfl rfl ?_
  refine sy_nil rfl ?_
  refine ny_next ?_
  refine cy_seq ?_
  refine cy_region ?_
  refine sy_call rfl call_16 rfl (shown_c _) rfl rfl ?_
  refine sy_assign rfl rfl rfl ?_
  refine sy_nil rfl ?_
  refine ny_next ?_
  refine cy_seq ?_
  refine cy_region ?_
  refine sy_callx call_21 rfl (all_c _) rfl rfl (fun x9 h2 hx hle9 => ?_)
  obtain ⟨g, c⟩ := x9
  refine sy_assign rfl rfl rfl ?_
  refine sy_nil rfl ?_
  refine ny_next ?_
  refine cy_seq ?_
  refine cy_seq ?_
  refine cy_region ?_
  refine sy_move rfl rfl rfl ?_
  refine sy_len rfl (len_slice Try.underlying28 _ _ _) rfl rfl ?_
  refine sy_cmp rfl rfl rfl rfl rfl ?_
  refine sy_nil rfl ?_
  refine ny_next ?_
  refine cy_cond rfl (fun hc17 => ?_) (fun hc17 => ?_)
  · cases hc17
  · refine cy_skip ?_
    refine ny_next ?_
    refine cy_seq ?_
    refine cy_region ?_
    refine sy_move rfl rfl rfl ?_
    refine sy_move rfl rfl rfl ?_
    refine sy_convi Try.underlying5 Try.underlying3 rfl (by omega) (by omega) rfl rfl ?_
    refine sy_move rfl rfl rfl ?_
    refine sy_len rfl (len_slice Try.underlying28 _ _ _) rfl rfl ?_
    refine sy_rem (z := ((i : Nat) : Int)) rfl rfl (by omega) (by decide) (by decide) (by omega) rfl rfl ?_
    refine sy_idxS (ik := .i64) (i := (i : Int)) els_28 rfl rfl (by omega) (by omega) rfl rfl ?_
    refine sy_ldah (vs := [.int .i64 p, .string ⟨([t0, t1] : List UInt8).toArray⟩, .string ⟨nm.toArray⟩]) agg_33 rfl rfl (fun j u hj => by have := hx _ u (cellsOf_get ho hj); simpa using this) rfl rfl ?_
    refine sy_alloc zer_33 rfl rfl (fun b5 hb5 hM5 => ?_) (by simp)
    first | refine sy_stl 0 sz_33 rfl rfl rfl rfl rfl rfl rfl rfl ?_ | refine sy_stl 1 sz_33 rfl rfl rfl rfl rfl rfl rfl rfl ?_
    refine sy_nil rfl ?_
    refine ny_next ?_
    refine cy_seq ?_
    refine cy_region ?_
    refine sy_field fld_33_2 rfl rfl rfl ?_
    first | refine sy_ldr 0 one_9 rfl rfl rfl rfl rfl ?_ | refine sy_ldr 1 one_9 rfl rfl rfl rfl rfl ?_
    refine sy_call rfl call_17 rfl (infix_c _ _) rfl rfl ?_
    refine sy_move rfl rfl rfl ?_
    refine sy_extract rfl rfl rfl rfl ?_
    refine sy_extract rfl rfl rfl rfl ?_
    refine sy_extract rfl rfl rfl rfl ?_
    refine sy_extract rfl rfl rfl rfl ?_
    refine sy_assign rfl rfl rfl ?_
    refine sy_assign rfl rfl rfl ?_
    refine sy_assign rfl rfl rfl ?_
    refine sy_assign rfl rfl rfl ?_
    refine sy_nil rfl ?_
    refine ny_next ?_
    refine cy_seq ?_
    refine cy_region ?_
    refine sy_field fld_33_2 rfl rfl rfl ?_
    first | refine sy_ldr 0 one_9 rfl rfl rfl rfl rfl ?_ | refine sy_ldr 1 one_9 rfl rfl rfl rfl rfl ?_
    refine sy_call rfl call_19 rfl (prefix_v hX) rfl rfl ?_
    refine sy_move rfl rfl rfl ?_
    refine sy_extract rfl rfl rfl rfl ?_
    refine sy_extract rfl rfl rfl rfl ?_
    refine sy_extract rfl rfl rfl rfl ?_
    refine sy_setT (d := 40) rfl rfl rfl ?_
    refine sy_assign rfl rfl rfl ?_
    refine sy_assign rfl rfl rfl ?_
    refine sy_assign rfl rfl rfl ?_
    refine sy_nil rfl ?_
    refine ny_next ?_
    refine cy_seq ?_
    refine cy_seq ?_
    refine cy_region ?_
    refine sy_field fld_33_1 rfl rfl rfl ?_
    first | refine sy_ldr 0 one_9 rfl rfl rfl rfl rfl ?_ | refine sy_ldr 1 one_9 rfl rfl rfl rfl rfl ?_
    refine sy_len rfl (len_string Try.underlying9 _) rfl rfl ?_
    refine sy_cmp rfl rfl rfl rfl rfl ?_
    refine sy_nil rfl ?_
    refine ny_next ?_
    refine cy_cond rfl (fun hc44 => ?_) (fun hc44 => ?_)
    · simp [ByteArray.size] at hc44
    · refine cy_skip ?_
      refine ny_next ?_
      refine cy_seq ?_
      refine cy_region ?_
      refine sy_move rfl rfl rfl ?_
      refine sy_move rfl rfl rfl ?_
      refine sy_setT (d := 81) rfl rfl (by first | rfl | decide | (simp only [beq_iff_eq, beq_eq_false_iff_ne, bne_iff_ne, bne_eq_false_iff_eq, decide_eq_true_eq, decide_eq_false_iff_not, ne_eq, Bool.not_eq_true, Bool.not_eq_false] at * <;> omega)) ?_
      refine sy_move rfl rfl rfl ?_
      refine sy_pickT rfl rfl rfl rfl ?_
      refine sy_move rfl rfl rfl ?_
      refine sy_move rfl rfl rfl ?_
      refine sy_field fld_33_0 rfl rfl rfl ?_
      first | refine sy_ldr 0 one_3 rfl rfl rfl rfl rfl ?_ | refine sy_ldr 1 one_3 rfl rfl rfl rfl rfl ?_
      refine sy_cmp rfl rfl rfl rfl rfl ?_
      refine sy_pickT rfl rfl rfl rfl ?_
      refine sy_move rfl rfl rfl ?_
      refine sy_setT (d := 90) rfl rfl (by first | rfl | decide | (simp only [beq_iff_eq, beq_eq_false_iff_ne, bne_iff_ne, bne_eq_false_iff_eq, decide_eq_true_eq, decide_eq_false_iff_not, ne_eq, Bool.not_eq_true, Bool.not_eq_false] at * <;> omega)) ?_
      refine sy_move rfl rfl rfl ?_
      refine sy_field fld_33_0 rfl rfl rfl ?_
      first | refine sy_ldr 0 one_3 rfl rfl rfl rfl rfl ?_ | refine sy_ldr 1 one_3 rfl rfl rfl rfl rfl ?_
      refine sy_cmp rfl rfl rfl rfl rfl ?_
      refine sy_pickT rfl rfl rfl rfl ?_
      refine sy_assign rfl rfl rfl ?_
      refine sy_nil rfl ?_
      refine ny_next ?_
      refine cy_ret ?_
      exact ny_finR (res1 rfl rfl) (fun w hs => ⟨ret_true (by first | rfl | decide | (simp only [beq_iff_eq, beq_eq_false_iff_ne, bne_iff_ne, bne_eq_false_iff_eq, decide_eq_true_eq, decide_eq_false_iff_not, ne_eq, Bool.not_eq_true, Bool.not_eq_false] at * <;> omega)), hs.frm⟩)
theorem opsReads_c (c0 : UInt8) (h : Hp) : C0 Try.prog 6 [.int .u8 (c0.toNat : Int)] h (.bool true) := by
  have hc0 := c0.toNat_lt
  obtain ⟨i, hi⟩ : ∃ i, i = c0.toNat % 26 := ⟨_, rfl⟩
  obtain ⟨⟨p, ty, nm⟩, ho⟩ : ∃ o, opsL[i]? = some o := ⟨_, List.getElem?_eq_getElem (by rw [opsL_len]; omega)⟩
  have hm := List.mem_of_getElem? ho
  have hpri := pri_all _ hm
  have htold := told_all _ hm
  unfold told at htold
  rcases len_all _ hm with hl | hl
  · simp only [hl, if_true, Bool.and_eq_true, beq_iff_eq, decide_eq_true_eq] at htold
    obtain ⟨⟨⟨⟨⟨⟨⟨⟨⟨h1, h2⟩, h3⟩, h4⟩, h5⟩, h6⟩, h7⟩, h8⟩, h9⟩, h10⟩ := htold
    match ty, hl with
    | [t0, t1, t2], _ => exact opsReads_3 c0 h i hi p t0 t1 t2 nm ho hpri.1 hpri.2 hc0 _ _ (by rw [← h1, ← h2]) h7 h8 h9 h10
  · simp only [hl, if_neg (show ¬ (2 = 3) by decide), Bool.and_eq_true, beq_iff_eq, decide_eq_true_eq] at htold
    obtain ⟨⟨⟨⟨⟨h0, h1⟩, h2⟩, h3⟩, h4⟩, h5⟩ := htold
    match ty, hl with
    | [t0, t1], _ => exact opsReads_2 c0 h i hi p t0 t1 nm ho hpri.1 hpri.2 hc0 _ (by rw [← h1, ← h2]) h5
end Go.Proofs.Ytbeocnhbbhidaaa

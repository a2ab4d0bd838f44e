/- errors.Is, errors.As and package grant's Code: the walks. Conditions: as each says. Printed by a program of this session. -/
import Derived.Test.YtamifocfbcmfkaaDoorFactsY
import Derived.Test.YtamifocfbcmfkaaDoorErrA
set_option linter.unusedVariables false
set_option linter.unusedSimpArgs false
namespace Go.Proofs.YtamifocfbcmfkaaDoor
open Go.RowKit Go.Proofs.YtamifocfbcmfkaaDoor.E
set_option maxRecDepth 100000 in
theorem unwrap_c (s : ByteArray) (e : Int) (h : Hp) : C0 Tryd.prog 118 [.agg #[.string s, .int .i64 e]] h (.iface 28 (.int .i64 e)) := by
  refine enter0 Tryd.func118 rfl rfl rfl (fun w => ?_)
  refine cy_seq ?_
  refine cy_region ?_
  refine sy_box rfl rfl rfl rfl (fun b1 hb1 hM1 => ?_) (by simp)
  refine sy_assign rfl rfl rfl ?_
  refine sy_nil rfl ?_
  refine ny_next ?_
  refine cy_seq ?_
  refine cy_region ?_
  refine sy_field fld_96_1 rfl rfl rfl ?_
  first | refine sy_ldr 0 one_28 rfl rfl rfl rfl rfl ?_ | refine sy_ldr 1 one_28 rfl rfl rfl rfl rfl ?_
  refine sy_iface Tryd.underlying28 rfl rfl rfl rfl ?_
  refine sy_assign rfl rfl rfl ?_
  refine sy_nil rfl ?_
  refine ny_next ?_
  refine cy_ret ?_
  refine ny_finR (res1 rfl rfl) (fun w hs => ⟨?_, hs.frm⟩)
  rfl
set_option maxRecDepth 100000 in
theorem is2R_c (s : ByteArray) (e : Int) (h : Hp) : C0 Tryd.prog 78 [.iface 96 (.agg #[.string s, .int .i64 e]), .iface 28 (.int .i64 1), .bool true] h (.bool (e == 1)) := by
  refine enter0 Tryd.func78 rfl rfl rfl (fun w => ?_)
  refine cy_seq ?_
  refine cy_region ?_
  refine sy_assign rfl rfl rfl ?_
  refine sy_nil rfl ?_
  refine ny_next ?_
  refine cy_block ?_
  refine cy_rounds 1 ?_
  refine cy_block ?_
  refine cy_seq ?_
  refine cy_seq ?_
  refine cy_region ?_
  refine sy_move rfl rfl rfl ?_
  refine sy_setT (d := 14) rfl rfl rfl ?_
  refine sy_move rfl rfl rfl ?_
  refine sy_move rfl rfl rfl ?_
  refine sy_move rfl rfl rfl ?_
  refine sy_eqif rfl rfl (fun w => eqRE _ _ w) rfl rfl ?_
  refine sy_pickT rfl rfl rfl rfl ?_
  refine sy_setF (d := 19) rfl rfl rfl ?_
  refine sy_nil rfl ?_
  refine ny_next ?_
  refine cy_condF rfl ?_
  refine cy_skip ?_
  refine ny_next ?_
  refine cy_seq ?_
  refine cy_seq ?_
  refine cy_region ?_
  refine sy_move rfl rfl rfl ?_
  refine sy_assert rfl (fun w => asRIs _ _ w) rfl rfl ?_
  refine sy_move rfl rfl rfl ?_
  refine sy_extract rfl rfl rfl rfl ?_
  refine sy_extract rfl rfl rfl rfl ?_
  refine sy_setF (d := 24) rfl rfl rfl ?_
  refine sy_assign rfl rfl rfl ?_
  refine sy_assign rfl rfl rfl ?_
  refine sy_nil rfl ?_
  refine ny_next ?_
  refine cy_seq ?_
  refine cy_region ?_
  refine sy_move rfl rfl rfl ?_
  refine sy_move rfl rfl rfl ?_
  refine sy_skip rfl rfl rfl ?_
  refine sy_skip rfl rfl rfl ?_
  refine sy_skip rfl rfl rfl ?_
  refine sy_pickF rfl rfl rfl rfl ?_
  refine sy_nil rfl ?_
  refine ny_next ?_
  refine cy_condF rfl ?_
  refine cy_skip ?_
  refine ny_next ?_
  refine cy_seq ?_
  refine cy_region ?_
  refine sy_move rfl rfl rfl ?_
  refine sy_nil rfl ?_
  refine ny_next ?_
  refine cy_block ?_
  refine cy_seq ?_
  refine cy_region ?_
  refine sy_assert rfl (fun w => asRUn _ _ w) rfl rfl ?_
  refine sy_extract rfl rfl rfl rfl ?_
  refine sy_setT (d := 33) rfl rfl rfl ?_
  refine sy_extract rfl rfl rfl rfl ?_
  refine sy_nil rfl ?_
  refine ny_next ?_
  refine cy_condT rfl ?_
  refine cy_seq ?_
  refine cy_region ?_
  refine sy_assign rfl rfl rfl ?_
  refine sy_nil rfl ?_
  refine ny_next ?_
  refine cy_seq ?_
  refine cy_region ?_
  refine sy_move rfl rfl rfl ?_
  refine sy_invoke rfl rfl rfl (fun w => unwR s e w) (unwrap_c s e h) rfl rfl ?_
  refine sy_assign rfl rfl rfl ?_
  refine sy_nil rfl ?_
  refine ny_next ?_
  refine cy_seq ?_
  refine cy_region ?_
  refine sy_move rfl rfl rfl ?_
  refine sy_eqn Tryd.underlying34 rfl rfl rfl rfl rfl ?_
  refine sy_setF (d := 38) rfl rfl rfl ?_
  refine sy_nil rfl ?_
  refine ny_next ?_
  refine cy_condF rfl ?_
  refine cy_skip ?_
  refine ny_blockN ?_
  refine ny_blockN ?_
  refine ny_again ?_
  refine cy_block ?_
  refine cy_seq ?_
  refine cy_seq ?_
  refine cy_region ?_
  refine sy_move rfl rfl rfl ?_
  refine sy_setT (d := 14) rfl rfl rfl ?_
  refine sy_move rfl rfl rfl ?_
  refine sy_move rfl rfl rfl ?_
  refine sy_move rfl rfl rfl ?_
  refine sy_eqif rfl rfl (fun w => eqEE _ _ w) rfl rfl ?_
  refine sy_pickT rfl rfl rfl rfl ?_
  refine sy_nil rfl ?_
  refine ny_next ?_
  refine cy_cond rfl (fun hc19 => ?_) (fun hc19 => ?_)
  · refine cy_seq ?_
    refine cy_region ?_
    refine sy_assign rfl rfl rfl ?_
    refine sy_nil rfl ?_
    refine ny_next ?_
    refine cy_ret ?_
    refine ny_thenR ?_
    refine ny_blockR ?_
    refine ny_thenR ?_
    refine ny_blockR ?_
    refine ny_finR (res1 rfl rfl) (fun w hs => ⟨?_, hs.frm⟩)
    first | rw [hc19] | (simp_all; done) | rfl
  · refine cy_skip ?_
    refine ny_next ?_
    refine cy_seq ?_
    refine cy_seq ?_
    refine cy_region ?_
    refine sy_move rfl rfl rfl ?_
    refine sy_assert rfl (fun w => asEIs _ _ w) rfl rfl ?_
    refine sy_move rfl rfl rfl ?_
    refine sy_extract rfl rfl rfl rfl ?_
    refine sy_extract rfl rfl rfl rfl ?_
    refine sy_setF (d := 24) rfl rfl rfl ?_
    refine sy_assign rfl rfl rfl ?_
    refine sy_assign rfl rfl rfl ?_
    refine sy_nil rfl ?_
    refine ny_next ?_
    refine cy_seq ?_
    refine cy_region ?_
    refine sy_move rfl rfl rfl ?_
    refine sy_move rfl rfl rfl ?_
    refine sy_skip rfl rfl rfl ?_
    refine sy_skip rfl rfl rfl ?_
    refine sy_skip rfl rfl rfl ?_
    refine sy_pickF rfl rfl rfl rfl ?_
    refine sy_nil rfl ?_
    refine ny_next ?_
    refine cy_condF rfl ?_
    refine cy_skip ?_
    refine ny_next ?_
    refine cy_seq ?_
    refine cy_region ?_
    refine sy_move rfl rfl rfl ?_
    refine sy_nil rfl ?_
    refine ny_next ?_
    refine cy_block ?_
    refine cy_seq ?_
    refine cy_region ?_
    refine sy_assert rfl (fun w => asEUn _ _ w) rfl rfl ?_
    refine sy_extract rfl rfl rfl rfl ?_
    refine sy_setF (d := 33) rfl rfl rfl ?_
    refine sy_extract rfl rfl rfl rfl ?_
    refine sy_nil rfl ?_
    refine ny_next ?_
    refine cy_condF rfl ?_
    refine cy_seq ?_
    refine cy_region ?_
    refine sy_assert rfl (fun w => asEUns _ _ w) rfl rfl ?_
    refine sy_extract rfl rfl rfl rfl ?_
    refine sy_setF (d := 40) rfl rfl rfl ?_
    refine sy_extract rfl rfl rfl rfl ?_
    refine sy_nil rfl ?_
    refine ny_next ?_
    refine cy_condF rfl ?_
    refine cy_seq ?_
    refine cy_region ?_
    refine sy_assign rfl rfl rfl ?_
    refine sy_nil rfl ?_
    refine ny_next ?_
    refine cy_seq ?_
    refine cy_region ?_
    refine sy_assign rfl rfl rfl ?_
    refine sy_nil rfl ?_
    refine ny_next ?_
    refine cy_ret ?_
    refine ny_blockR ?_
    refine ny_blockR ?_
    refine ny_thenR ?_
    refine ny_blockR ?_
    refine ny_finR (res1 rfl rfl) (fun w hs => ⟨?_, hs.frm⟩)
    first | rw [hc19] | (simp_all; done) | rfl
set_option maxRecDepth 100000 in
theorem is2E_c (e : Int) (h : Hp) : C0 Tryd.prog 78 [.iface 28 (.int .i64 e), .iface 28 (.int .i64 1), .bool true] h (.bool (e == 1)) := by
  refine enter0 Tryd.func78 rfl rfl rfl (fun w => ?_)
  refine cy_seq ?_
  refine cy_region ?_
  refine sy_assign rfl rfl rfl ?_
  refine sy_nil rfl ?_
  refine ny_next ?_
  refine cy_block ?_
  refine cy_rounds 0 ?_
  refine cy_block ?_
  refine cy_seq ?_
  refine cy_seq ?_
  refine cy_region ?_
  refine sy_move rfl rfl rfl ?_
  refine sy_setT (d := 14) rfl rfl rfl ?_
  refine sy_move rfl rfl rfl ?_
  refine sy_move rfl rfl rfl ?_
  refine sy_move rfl rfl rfl ?_
  refine sy_eqif rfl rfl (fun w => eqEE _ _ w) rfl rfl ?_
  refine sy_pickT rfl rfl rfl rfl ?_
  refine sy_nil rfl ?_
  refine ny_next ?_
  refine cy_cond rfl (fun hc19 => ?_) (fun hc19 => ?_)
  · refine cy_seq ?_
    refine cy_region ?_
    refine sy_assign rfl rfl rfl ?_
    refine sy_nil rfl ?_
    refine ny_next ?_
    refine cy_ret ?_
    refine ny_thenR ?_
    refine ny_blockR ?_
    refine ny_thenR ?_
    refine ny_blockR ?_
    refine ny_finR (res1 rfl rfl) (fun w hs => ⟨?_, hs.frm⟩)
    first | rw [hc19] | (simp_all; done) | rfl
  · refine cy_skip ?_
    refine ny_next ?_
    refine cy_seq ?_
    refine cy_seq ?_
    refine cy_region ?_
    refine sy_move rfl rfl rfl ?_
    refine sy_assert rfl (fun w => asEIs _ _ w) rfl rfl ?_
    refine sy_move rfl rfl rfl ?_
    refine sy_extract rfl rfl rfl rfl ?_
    refine sy_extract rfl rfl rfl rfl ?_
    refine sy_setF (d := 24) rfl rfl rfl ?_
    refine sy_assign rfl rfl rfl ?_
    refine sy_assign rfl rfl rfl ?_
    refine sy_nil rfl ?_
    refine ny_next ?_
    refine cy_seq ?_
    refine cy_region ?_
    refine sy_move rfl rfl rfl ?_
    refine sy_move rfl rfl rfl ?_
    refine sy_skip rfl rfl rfl ?_
    refine sy_skip rfl rfl rfl ?_
    refine sy_skip rfl rfl rfl ?_
    refine sy_pickF rfl rfl rfl rfl ?_
    refine sy_nil rfl ?_
    refine ny_next ?_
    refine cy_condF rfl ?_
    refine cy_skip ?_
    refine ny_next ?_
    refine cy_seq ?_
    refine cy_region ?_
    refine sy_move rfl rfl rfl ?_
    refine sy_nil rfl ?_
    refine ny_next ?_
    refine cy_block ?_
    refine cy_seq ?_
    refine cy_region ?_
    refine sy_assert rfl (fun w => asEUn _ _ w) rfl rfl ?_
    refine sy_extract rfl rfl rfl rfl ?_
    refine sy_setF (d := 33) rfl rfl rfl ?_
    refine sy_extract rfl rfl rfl rfl ?_
    refine sy_nil rfl ?_
    refine ny_next ?_
    refine cy_condF rfl ?_
    refine cy_seq ?_
    refine cy_region ?_
    refine sy_assert rfl (fun w => asEUns _ _ w) rfl rfl ?_
    refine sy_extract rfl rfl rfl rfl ?_
    refine sy_setF (d := 40) rfl rfl rfl ?_
    refine sy_extract rfl rfl rfl rfl ?_
    refine sy_nil rfl ?_
    refine ny_next ?_
    refine cy_condF rfl ?_
    refine cy_seq ?_
    refine cy_region ?_
    refine sy_assign rfl rfl rfl ?_
    refine sy_nil rfl ?_
    refine ny_next ?_
    refine cy_seq ?_
    refine cy_region ?_
    refine sy_assign rfl rfl rfl ?_
    refine sy_nil rfl ?_
    refine ny_next ?_
    refine cy_ret ?_
    refine ny_blockR ?_
    refine ny_blockR ?_
    refine ny_thenR ?_
    refine ny_blockR ?_
    refine ny_finR (res1 rfl rfl) (fun w hs => ⟨?_, hs.frm⟩)
    first | rw [hc19] | (simp_all; done) | rfl
set_option maxRecDepth 100000 in
theorem isR_c (s : ByteArray) (e : Int) (h : Hp) : C0 Tryd.prog 58 [.iface 96 (.agg #[.string s, .int .i64 e]), .iface 28 (.int .i64 1)] h (.bool (e == 1)) := by
  refine enter0 Tryd.func58 rfl rfl rfl (fun w => ?_)
  refine cy_seq ?_
  refine cy_region ?_
  refine sy_assign rfl rfl rfl ?_
  refine sy_nil rfl ?_
  refine ny_next ?_
  refine cy_seq ?_
  refine cy_seq ?_
  refine cy_region ?_
  refine sy_move rfl rfl rfl ?_
  refine sy_eqn Tryd.underlying34 rfl rfl rfl rfl rfl ?_
  refine sy_setF (d := 7) rfl rfl rfl ?_
  refine sy_move rfl rfl rfl ?_
  refine sy_move rfl rfl rfl ?_
  refine sy_eqn Tryd.underlying34 rfl rfl rfl rfl rfl ?_
  refine sy_pickF rfl rfl rfl rfl ?_
  refine sy_setF (d := 11) rfl rfl rfl ?_
  refine sy_nil rfl ?_
  refine ny_next ?_
  refine cy_condF rfl ?_
  refine cy_skip ?_
  refine ny_next ?_
  refine cy_seq ?_
  refine cy_region ?_
  refine sy_move rfl rfl rfl ?_
  refine sy_exq rfl (fun w hs => tofE _ w) rfl rfl ?_
  refine sy_invq rfl rfl (fun w => cCmp w) rfl rfl ?_
  refine sy_assign rfl rfl rfl ?_
  refine sy_nil rfl ?_
  refine ny_next ?_
  refine cy_seq ?_
  refine cy_region ?_
  refine sy_move rfl rfl rfl ?_
  refine sy_move rfl rfl rfl ?_
  refine sy_move rfl rfl rfl ?_
  refine sy_call rfl call_78 rfl (is2R_c s e h) rfl rfl ?_
  refine sy_assign rfl rfl rfl ?_
  refine sy_nil rfl ?_
  refine ny_next ?_
  refine cy_ret ?_
  refine ny_finR (res1 rfl rfl) (fun w hs => ⟨?_, hs.frm⟩)
  rfl
set_option maxRecDepth 100000 in
theorem isE_c (e : Int) (h : Hp) : C0 Tryd.prog 58 [.iface 28 (.int .i64 e), .iface 28 (.int .i64 1)] h (.bool (e == 1)) := by
  refine enter0 Tryd.func58 rfl rfl rfl (fun w => ?_)
  refine cy_seq ?_
  refine cy_region ?_
  refine sy_assign rfl rfl rfl ?_
  refine sy_nil rfl ?_
  refine ny_next ?_
  refine cy_seq ?_
  refine cy_seq ?_
  refine cy_region ?_
  refine sy_move rfl rfl rfl ?_
  refine sy_eqn Tryd.underlying34 rfl rfl rfl rfl rfl ?_
  refine sy_setF (d := 7) rfl rfl rfl ?_
  refine sy_move rfl rfl rfl ?_
  refine sy_move rfl rfl rfl ?_
  refine sy_eqn Tryd.underlying34 rfl rfl rfl rfl rfl ?_
  refine sy_pickF rfl rfl rfl rfl ?_
  refine sy_setF (d := 11) rfl rfl rfl ?_
  refine sy_nil rfl ?_
  refine ny_next ?_
  refine cy_condF rfl ?_
  refine cy_skip ?_
  refine ny_next ?_
  refine cy_seq ?_
  refine cy_region ?_
  refine sy_move rfl rfl rfl ?_
  refine sy_exq rfl (fun w hs => tofE _ w) rfl rfl ?_
  refine sy_invq rfl rfl (fun w => cCmp w) rfl rfl ?_
  refine sy_assign rfl rfl rfl ?_
  refine sy_nil rfl ?_
  refine ny_next ?_
  refine cy_seq ?_
  refine cy_region ?_
  refine sy_move rfl rfl rfl ?_
  refine sy_move rfl rfl rfl ?_
  refine sy_move rfl rfl rfl ?_
  refine sy_call rfl call_78 rfl (is2E_c e h) rfl rfl ?_
  refine sy_assign rfl rfl rfl ?_
  refine sy_nil rfl ?_
  refine ny_next ?_
  refine cy_ret ?_
  refine ny_finR (res1 rfl rfl) (fun w hs => ⟨?_, hs.frm⟩)
  rfl
set_option maxRecDepth 100000 in
theorem as2R_c (s : ByteArray) (e x0 : Int) (b bq : Nat) (h : Hp) (hq : h bq = some (.cells #[.pointer (some ⟨b, 0, none⟩)] 104 (0, 0))) : CXM Tryd.prog 82 [.iface 96 (.agg #[.string s, .int .i64 e]), .iface 104 (.pointer (some ⟨b, 0, none⟩)), .agg #[.pointer (some ⟨4, 104, none⟩), .pointer (some ⟨bq, 0, none⟩), .int .u64 150], .iface 135 (.agg #[.pointer (some ⟨4, 28, none⟩)])] h b (.cells [.int .i64 x0].toArray 28 (0, 0)) (fun _ : Unit => .bool true) (fun _ _ o => o = .cells [.int .i64 e].toArray 28 (0, 0)) := by
  refine enterXM Tryd.func82 rfl rfl rfl (fun w hb0 => ?_)
  refine cy_seq ?_
  refine cy_region ?_
  refine sy_box rfl rfl rfl rfl (fun b6 hb6 hM6 => ?_) (by simp only [List.mem_singleton]; rintro _ rfl; exact hb0)
  refine sy_assign rfl rfl rfl ?_
  refine sy_nil rfl ?_
  refine ny_next ?_
  refine cy_block ?_
  refine cy_rounds 1 ?_
  refine cy_block ?_
  refine cy_seq ?_
  refine cy_seq ?_
  refine cy_region ?_
  refine sy_move rfl rfl rfl ?_
  refine sy_exq rfl (fun w hs => tofRef _ w) rfl rfl ?_
  refine sy_move rfl rfl rfl ?_
  refine sy_invq rfl rfl (fun w => cAssR w) rfl rfl ?_
  refine sy_setF (d := 19) rfl rfl rfl ?_
  refine sy_nil rfl ?_
  refine ny_next ?_
  refine cy_condF rfl ?_
  refine cy_skip ?_
  refine ny_next ?_
  refine cy_seq ?_
  refine cy_seq ?_
  refine cy_region ?_
  refine sy_move rfl rfl rfl ?_
  refine sy_assert rfl (fun w => asRAs _ _ w) rfl rfl ?_
  refine sy_move rfl rfl rfl ?_
  refine sy_extract rfl rfl rfl rfl ?_
  refine sy_extract rfl rfl rfl rfl ?_
  refine sy_setF (d := 29) rfl rfl rfl ?_
  refine sy_assign rfl rfl rfl ?_
  refine sy_assign rfl rfl rfl ?_
  refine sy_nil rfl ?_
  refine ny_next ?_
  refine cy_seq ?_
  refine cy_region ?_
  refine sy_move rfl rfl rfl ?_
  refine sy_move rfl rfl rfl ?_
  refine sy_skip rfl rfl rfl ?_
  refine sy_skip rfl rfl rfl ?_
  refine sy_skip rfl rfl rfl ?_
  refine sy_pickF rfl rfl rfl rfl ?_
  refine sy_nil rfl ?_
  refine ny_next ?_
  refine cy_condF rfl ?_
  refine cy_skip ?_
  refine ny_next ?_
  refine cy_seq ?_
  refine cy_region ?_
  refine sy_move rfl rfl rfl ?_
  refine sy_nil rfl ?_
  refine ny_next ?_
  refine cy_block ?_
  refine cy_seq ?_
  refine cy_region ?_
  refine sy_assert rfl (fun w => asRUn _ _ w) rfl rfl ?_
  refine sy_extract rfl rfl rfl rfl ?_
  refine sy_setT (d := 38) rfl rfl rfl ?_
  refine sy_extract rfl rfl rfl rfl ?_
  refine sy_nil rfl ?_
  refine ny_next ?_
  refine cy_condT rfl ?_
  refine cy_seq ?_
  refine cy_region ?_
  refine sy_assign rfl rfl rfl ?_
  refine sy_nil rfl ?_
  refine ny_next ?_
  refine cy_seq ?_
  refine cy_region ?_
  refine sy_move rfl rfl rfl ?_
  refine sy_invoke rfl rfl rfl (fun w => unwR s e w) (unwrap_c s e h) rfl rfl ?_
  refine sy_assign rfl rfl rfl ?_
  refine sy_nil rfl ?_
  refine ny_next ?_
  refine cy_seq ?_
  refine cy_region ?_
  refine sy_move rfl rfl rfl ?_
  refine sy_eqn Tryd.underlying34 rfl rfl rfl rfl rfl ?_
  refine sy_setF (d := 43) rfl rfl rfl ?_
  refine sy_nil rfl ?_
  refine ny_next ?_
  refine cy_condF rfl ?_
  refine cy_skip ?_
  refine ny_blockN ?_
  refine ny_blockN ?_
  refine ny_again ?_
  refine cy_block ?_
  refine cy_seq ?_
  refine cy_seq ?_
  refine cy_region ?_
  refine sy_move rfl rfl rfl ?_
  refine sy_exq rfl (fun w hs => tofE _ w) rfl rfl ?_
  refine sy_move rfl rfl rfl ?_
  refine sy_invq rfl rfl (fun w => cAssE w) rfl rfl ?_
  refine sy_setT (d := 19) rfl rfl rfl ?_
  refine sy_nil rfl ?_
  refine ny_next ?_
  refine cy_condT rfl ?_
  refine cy_seq ?_
  refine cy_region ?_
  first | refine sy_ldar 0 agg_126 rfl rfl rfl rfl rfl ?_ | refine sy_ldar 1 agg_126 rfl rfl rfl rfl rfl ?_ | refine sy_ldar 2 agg_126 rfl rfl rfl rfl rfl ?_ | refine sy_ldar 3 agg_126 rfl rfl rfl rfl rfl ?_ | refine sy_ldar 4 agg_126 rfl rfl rfl rfl rfl ?_ | refine sy_ldar 5 agg_126 rfl rfl rfl rfl rfl ?_
  refine sy_exq rfl (fun w hs => elmP ⟨bq, 0, none⟩ ⟨b, 0, none⟩ w (hs.sub.cell (Hp.blk hq 0 _ rfl))) rfl rfl ?_
  refine sy_move rfl rfl rfl ?_
  refine sy_exn (v := fun b2 => .agg #[.pointer (some ⟨4, 28, none⟩), .pointer (some ⟨b2, 0, none⟩), .int .u64 130]) rfl (fun w => vofE e w) rfl rfl (fun b23 hb23 hM23 => ?_) (by simp only [List.mem_singleton]; rintro _ rfl; exact hb0)
  refine sy_exw2 (off := 0) (old := .int .i64 x0) (new := .int .i64 e) (cs := [.int .i64 x0]) 2 rfl rfl rfl rfl (fun w hs hc hz => setX ⟨b, 0, none⟩ ⟨b23, 0, none⟩ e _ w (hs.cellQ 0 (cs := [.int .i64 e]) rfl rfl) hc hz) rfl rfl ?_
  refine sy_nil rfl ?_
  refine ny_next ?_
  refine cy_seq ?_
  refine cy_region ?_
  refine sy_assign rfl rfl rfl ?_
  refine sy_nil rfl ?_
  refine ny_next ?_
  refine cy_ret ?_
  refine ny_thenR ?_
  refine ny_blockR ?_
  refine ny_thenR ?_
  refine ny_blockR ?_
  exact ny_finR (res1 rfl rfl) (fun w hs => ⟨(), _, _, rfl, rfl, hs.toTurn⟩)
set_option maxRecDepth 100000 in
theorem asR_c (s : ByteArray) (e x0 : Int) (b : Nat) (h : Hp) (hG : h.cell ⟨0, 0, none⟩ = some (.iface 135 (.agg #[.pointer (some ⟨4, 34, none⟩)]))) : CXM Tryd.prog 59 [.iface 96 (.agg #[.string s, .int .i64 e]), .iface 104 (.pointer (some ⟨b, 0, none⟩))] h b (.cells [.int .i64 x0].toArray 28 (0, 0)) (fun _ : Unit => .bool true) (fun _ _ o => o = .cells [.int .i64 e].toArray 28 (0, 0)) := by
  refine enterXM Tryd.func59 rfl rfl rfl (fun w hb0 => ?_)
  refine cy_seq ?_
  refine cy_region ?_
  refine sy_assign rfl rfl rfl ?_
  refine sy_nil rfl ?_
  refine ny_next ?_
  refine cy_seq ?_
  refine cy_seq ?_
  refine cy_region ?_
  refine sy_move rfl rfl rfl ?_
  refine sy_eqn Tryd.underlying34 rfl rfl rfl rfl rfl ?_
  refine sy_setF (d := 9) rfl rfl rfl ?_
  refine sy_nil rfl ?_
  refine ny_next ?_
  refine cy_condF rfl ?_
  refine cy_skip ?_
  refine ny_next ?_
  refine cy_seq ?_
  refine cy_seq ?_
  refine cy_region ?_
  refine sy_move rfl rfl rfl ?_
  refine sy_eqn Tryd.underlying20 rfl rfl rfl rfl rfl ?_
  refine sy_setF (d := 11) rfl rfl rfl ?_
  refine sy_nil rfl ?_
  refine ny_next ?_
  refine cy_condF rfl ?_
  refine cy_skip ?_
  refine ny_next ?_
  refine cy_seq ?_
  refine cy_region ?_
  refine sy_move rfl rfl rfl ?_
  refine sy_exn (v := fun b2 => .agg #[.pointer (some ⟨4, 104, none⟩), .pointer (some ⟨b2, 0, none⟩), .int .u64 150]) rfl (fun w => vofP ⟨b, 0, none⟩ w) rfl rfl (fun b14 hb14 hM14 => ?_) (by simp only [List.mem_singleton]; rintro _ rfl; exact hb0)
  refine sy_frz 0 rfl hM14 (fun hq hleq hbq => ?_)
  refine sy_alloc zer_126 rfl rfl (fun b5 hb5 hM5 => ?_) (by simp only [List.mem_singleton]; rintro _ rfl; exact hb0)
  first | refine sy_stl 0 sz_126 rfl rfl rfl rfl rfl rfl rfl rfl ?_ | refine sy_stl 1 sz_126 rfl rfl rfl rfl rfl rfl rfl rfl ?_ | refine sy_stl 2 sz_126 rfl rfl rfl rfl rfl rfl rfl rfl ?_ | refine sy_stl 3 sz_126 rfl rfl rfl rfl rfl rfl rfl rfl ?_ | refine sy_stl 4 sz_126 rfl rfl rfl rfl rfl rfl rfl rfl ?_ | refine sy_stl 5 sz_126 rfl rfl rfl rfl rfl rfl rfl rfl ?_
  refine sy_nil rfl ?_
  refine ny_next ?_
  refine cy_seq ?_
  refine cy_region ?_
  first | refine sy_ldar 0 agg_126 rfl rfl rfl rfl rfl ?_ | refine sy_ldar 1 agg_126 rfl rfl rfl rfl rfl ?_ | refine sy_ldar 2 agg_126 rfl rfl rfl rfl rfl ?_ | refine sy_ldar 3 agg_126 rfl rfl rfl rfl rfl ?_ | refine sy_ldar 4 agg_126 rfl rfl rfl rfl rfl ?_ | refine sy_ldar 5 agg_126 rfl rfl rfl rfl rfl ?_
  refine sy_exq rfl (fun w hs => typP ⟨b14, 0, none⟩ w) rfl rfl ?_
  refine sy_assign rfl rfl rfl ?_
  refine sy_nil rfl ?_
  refine ny_next ?_
  refine cy_seq ?_
  refine cy_seq ?_
  refine cy_region ?_
  refine sy_move rfl rfl rfl ?_
  refine sy_invq rfl rfl (fun w => cKindP w) rfl rfl ?_
  refine sy_cmp rfl rfl rfl rfl rfl ?_
  refine sy_setF (d := 19) rfl rfl rfl ?_
  refine sy_move rfl rfl rfl ?_
  first | refine sy_ldar 0 agg_126 rfl rfl rfl rfl rfl ?_ | refine sy_ldar 1 agg_126 rfl rfl rfl rfl rfl ?_ | refine sy_ldar 2 agg_126 rfl rfl rfl rfl rfl ?_ | refine sy_ldar 3 agg_126 rfl rfl rfl rfl rfl ?_ | refine sy_ldar 4 agg_126 rfl rfl rfl rfl rfl ?_ | refine sy_ldar 5 agg_126 rfl rfl rfl rfl rfl ?_
  refine sy_exq rfl (fun w hs => nilP ⟨b14, 0, none⟩ ⟨b, 0, none⟩ w (hs.sub.cell (Hp.blk hbq 0 _ rfl))) rfl rfl ?_
  refine sy_pickF rfl rfl rfl rfl ?_
  refine sy_setF (d := 23) rfl rfl rfl ?_
  refine sy_nil rfl ?_
  refine ny_next ?_
  refine cy_condF rfl ?_
  refine cy_skip ?_
  refine ny_next ?_
  refine cy_seq ?_
  refine cy_region ?_
  refine sy_move rfl rfl rfl ?_
  refine sy_invq rfl rfl (fun w => cElem w) rfl rfl ?_
  refine sy_assign rfl rfl rfl ?_
  refine sy_nil rfl ?_
  refine ny_next ?_
  refine cy_seq ?_
  refine cy_seq ?_
  refine cy_region ?_
  refine sy_move rfl rfl rfl ?_
  refine sy_invq rfl rfl (fun w => cKindE w) rfl rfl ?_
  refine sy_cmp rfl rfl rfl rfl rfl ?_
  refine sy_setT (d := 29) rfl rfl rfl ?_
  refine sy_move rfl rfl rfl ?_
  refine sy_move rfl rfl rfl ?_
  refine sy_ldh one_120 rfl (hleq.cell hG) rfl rfl ?_
  refine sy_invq rfl rfl (fun w => cImp w) rfl rfl ?_
  refine sy_setT (d := 33) rfl rfl rfl ?_
  refine sy_not rfl rfl rfl ?_
  refine sy_pickT rfl rfl rfl rfl ?_
  refine sy_setF (d := 35) rfl rfl rfl ?_
  refine sy_nil rfl ?_
  refine ny_next ?_
  refine cy_condF rfl ?_
  refine cy_skip ?_
  refine ny_next ?_
  refine cy_seq ?_
  refine cy_region ?_
  refine sy_move rfl rfl rfl ?_
  refine sy_move rfl rfl rfl ?_
  first | refine sy_ldar 0 agg_126 rfl rfl rfl rfl rfl ?_ | refine sy_ldar 1 agg_126 rfl rfl rfl rfl rfl ?_ | refine sy_ldar 2 agg_126 rfl rfl rfl rfl rfl ?_ | refine sy_ldar 3 agg_126 rfl rfl rfl rfl rfl ?_ | refine sy_ldar 4 agg_126 rfl rfl rfl rfl rfl ?_ | refine sy_ldar 5 agg_126 rfl rfl rfl rfl rfl ?_
  refine sy_move rfl rfl rfl ?_
  refine sy_callxm 1 call_82 rfl rfl (as2R_c s e x0 b b14 hq hbq) rfl rfl (fun x41 h41 o41 hx41 hle41 => ?_)
  subst hx41
  refine sy_assign rfl rfl rfl ?_
  refine sy_nil rfl ?_
  refine ny_next ?_
  refine cy_ret ?_
  exact ny_finR (res1 rfl rfl) (fun w hs => ⟨(), _, _, rfl, rfl, hs.toTurn⟩)
set_option maxRecDepth 100000 in
theorem codeR_c (s : ByteArray) (e : Int) (h : Hp) (hG : h.cell ⟨0, 0, none⟩ = some (.iface 135 (.agg #[.pointer (some ⟨4, 34, none⟩)]))) : C0 Tryd.prog 29 [.iface 96 (.agg #[.string s, .int .i64 e])] h (.int .i64 e) := by
  refine enter0 Tryd.func29 rfl rfl rfl (fun w => ?_)
  refine cy_seq ?_
  refine cy_region ?_
  refine sy_assign rfl rfl rfl ?_
  refine sy_nil rfl ?_
  refine ny_next ?_
  refine cy_seq ?_
  refine cy_region ?_
  refine sy_alloc zer_28 rfl rfl (fun b3 hb3 hM3 => ?_) (by simp)
  refine sy_nil rfl ?_
  refine ny_next ?_
  refine cy_seq ?_
  refine cy_block ?_
  refine cy_seq ?_
  refine cy_region ?_
  refine sy_move rfl rfl rfl ?_
  refine sy_eqn Tryd.underlying34 rfl rfl rfl rfl rfl ?_
  refine sy_setF (d := 6) rfl rfl rfl ?_
  refine sy_assign rfl rfl rfl ?_
  refine sy_nil rfl ?_
  refine ny_next ?_
  refine cy_condF rfl ?_
  refine cy_seq ?_
  refine cy_region ?_
  refine sy_move rfl rfl rfl ?_
  refine sy_iface Tryd.underlying28 rfl rfl rfl rfl ?_
  refine sy_call rfl call_58 rfl (isR_c s e h) rfl rfl ?_
  refine sy_assign rfl rfl rfl ?_
  refine sy_nil rfl ?_
  refine ny_next ?_
  refine cy_cond rfl (fun hc7 => ?_) (fun hc7 => ?_)
  · refine cy_seq ?_
    refine cy_region ?_
    refine sy_assign rfl rfl rfl ?_
    refine sy_nil rfl ?_
    refine ny_next ?_
    refine cy_ret ?_
    refine ny_blockR ?_
    refine ny_thenR ?_
    refine ny_finR (res1 rfl rfl) (fun w hs => ⟨?_, hs.frm⟩)
    first | rfl | (have he1 := eq_of_beq hc7; rw [he1]) | (simp_all; done)
  · refine cy_seq ?_
    refine cy_region ?_
    refine sy_move rfl rfl rfl ?_
    refine sy_iface Tryd.underlying104 rfl rfl rfl rfl ?_
    refine sy_callxm 0 call_59 rfl rfl (asR_c s e 0 _ h hG) rfl rfl (fun x14 h14 o14 hx14 hle14 => ?_)
    subst hx14
    refine sy_setT (d := 14) rfl rfl rfl ?_
    refine sy_assign rfl rfl rfl ?_
    refine sy_nil rfl ?_
    refine ny_next ?_
    refine cy_condT rfl ?_
    refine cy_seq ?_
    refine cy_region ?_
    first | refine sy_ldr 0 one_28 rfl rfl rfl rfl rfl ?_ | refine sy_ldr 1 one_28 rfl rfl rfl rfl rfl ?_ | refine sy_ldr 2 one_28 rfl rfl rfl rfl rfl ?_
    refine sy_assign rfl rfl rfl ?_
    refine sy_nil rfl ?_
    refine ny_next ?_
    refine cy_ret ?_
    refine ny_blockR ?_
    refine ny_thenR ?_
    refine ny_finR (res1 rfl rfl) (fun w hs => ⟨?_, hs.frm⟩)
    first | rfl | (have he1 := eq_of_beq hc7; rw [he1]) | (simp_all; done)
set_option maxRecDepth 100000 in
theorem as2E_c (e x0 : Int) (b bq : Nat) (h : Hp) (hq : h bq = some (.cells #[.pointer (some ⟨b, 0, none⟩)] 104 (0, 0))) : CXM Tryd.prog 82 [.iface 28 (.int .i64 e), .iface 104 (.pointer (some ⟨b, 0, none⟩)), .agg #[.pointer (some ⟨4, 104, none⟩), .pointer (some ⟨bq, 0, none⟩), .int .u64 150], .iface 135 (.agg #[.pointer (some ⟨4, 28, none⟩)])] h b (.cells [.int .i64 x0].toArray 28 (0, 0)) (fun _ : Unit => .bool true) (fun _ _ o => o = .cells [.int .i64 e].toArray 28 (0, 0)) := by
  refine enterXM Tryd.func82 rfl rfl rfl (fun w hb0 => ?_)
  refine cy_seq ?_
  refine cy_region ?_
  refine sy_box rfl rfl rfl rfl (fun b6 hb6 hM6 => ?_) (by simp only [List.mem_singleton]; rintro _ rfl; exact hb0)
  refine sy_assign rfl rfl rfl ?_
  refine sy_nil rfl ?_
  refine ny_next ?_
  refine cy_block ?_
  refine cy_rounds 0 ?_
  refine cy_block ?_
  refine cy_seq ?_
  refine cy_seq ?_
  refine cy_region ?_
  refine sy_move rfl rfl rfl ?_
  refine sy_exq rfl (fun w hs => tofE _ w) rfl rfl ?_
  refine sy_move rfl rfl rfl ?_
  refine sy_invq rfl rfl (fun w => cAssE w) rfl rfl ?_
  refine sy_setT (d := 19) rfl rfl rfl ?_
  refine sy_nil rfl ?_
  refine ny_next ?_
  refine cy_condT rfl ?_
  refine cy_seq ?_
  refine cy_region ?_
  first | refine sy_ldar 0 agg_126 rfl rfl rfl rfl rfl ?_ | refine sy_ldar 1 agg_126 rfl rfl rfl rfl rfl ?_ | refine sy_ldar 2 agg_126 rfl rfl rfl rfl rfl ?_ | refine sy_ldar 3 agg_126 rfl rfl rfl rfl rfl ?_ | refine sy_ldar 4 agg_126 rfl rfl rfl rfl rfl ?_ | refine sy_ldar 5 agg_126 rfl rfl rfl rfl rfl ?_
  refine sy_exq rfl (fun w hs => elmP ⟨bq, 0, none⟩ ⟨b, 0, none⟩ w (hs.sub.cell (Hp.blk hq 0 _ rfl))) rfl rfl ?_
  refine sy_move rfl rfl rfl ?_
  refine sy_exn (v := fun b2 => .agg #[.pointer (some ⟨4, 28, none⟩), .pointer (some ⟨b2, 0, none⟩), .int .u64 130]) rfl (fun w => vofE e w) rfl rfl (fun b23 hb23 hM23 => ?_) (by simp only [List.mem_singleton]; rintro _ rfl; exact hb0)
  refine sy_exw2 (off := 0) (old := .int .i64 x0) (new := .int .i64 e) (cs := [.int .i64 x0]) 2 rfl rfl rfl rfl (fun w hs hc hz => setX ⟨b, 0, none⟩ ⟨b23, 0, none⟩ e _ w (hs.cellQ 0 (cs := [.int .i64 e]) rfl rfl) hc hz) rfl rfl ?_
  refine sy_nil rfl ?_
  refine ny_next ?_
  refine cy_seq ?_
  refine cy_region ?_
  refine sy_assign rfl rfl rfl ?_
  refine sy_nil rfl ?_
  refine ny_next ?_
  refine cy_ret ?_
  refine ny_thenR ?_
  refine ny_blockR ?_
  refine ny_thenR ?_
  refine ny_blockR ?_
  exact ny_finR (res1 rfl rfl) (fun w hs => ⟨(), _, _, rfl, rfl, hs.toTurn⟩)
set_option maxRecDepth 100000 in
theorem asE_c (e x0 : Int) (b : Nat) (h : Hp) (hG : h.cell ⟨0, 0, none⟩ = some (.iface 135 (.agg #[.pointer (some ⟨4, 34, none⟩)]))) : CXM Tryd.prog 59 [.iface 28 (.int .i64 e), .iface 104 (.pointer (some ⟨b, 0, none⟩))] h b (.cells [.int .i64 x0].toArray 28 (0, 0)) (fun _ : Unit => .bool true) (fun _ _ o => o = .cells [.int .i64 e].toArray 28 (0, 0)) := by
  refine enterXM Tryd.func59 rfl rfl rfl (fun w hb0 => ?_)
  refine cy_seq ?_
  refine cy_region ?_
  refine sy_assign rfl rfl rfl ?_
  refine sy_nil rfl ?_
  refine ny_next ?_
  refine cy_seq ?_
  refine cy_seq ?_
  refine cy_region ?_
  refine sy_move rfl rfl rfl ?_
  refine sy_eqn Tryd.underlying34 rfl rfl rfl rfl rfl ?_
  refine sy_setF (d := 9) rfl rfl rfl ?_
  refine sy_nil rfl ?_
  refine ny_next ?_
  refine cy_condF rfl ?_
  refine cy_skip ?_
  refine ny_next ?_
  refine cy_seq ?_
  refine cy_seq ?_
  refine cy_region ?_
  refine sy_move rfl rfl rfl ?_
  refine sy_eqn Tryd.underlying20 rfl rfl rfl rfl rfl ?_
  refine sy_setF (d := 11) rfl rfl rfl ?_
  refine sy_nil rfl ?_
  refine ny_next ?_
  refine cy_condF rfl ?_
  refine cy_skip ?_
  refine ny_next ?_
  refine cy_seq ?_
  refine cy_region ?_
  refine sy_move rfl rfl rfl ?_
  refine sy_exn (v := fun b2 => .agg #[.pointer (some ⟨4, 104, none⟩), .pointer (some ⟨b2, 0, none⟩), .int .u64 150]) rfl (fun w => vofP ⟨b, 0, none⟩ w) rfl rfl (fun b14 hb14 hM14 => ?_) (by simp only [List.mem_singleton]; rintro _ rfl; exact hb0)
  refine sy_frz 0 rfl hM14 (fun hq hleq hbq => ?_)
  refine sy_alloc zer_126 rfl rfl (fun b5 hb5 hM5 => ?_) (by simp only [List.mem_singleton]; rintro _ rfl; exact hb0)
  first | refine sy_stl 0 sz_126 rfl rfl rfl rfl rfl rfl rfl rfl ?_ | refine sy_stl 1 sz_126 rfl rfl rfl rfl rfl rfl rfl rfl ?_ | refine sy_stl 2 sz_126 rfl rfl rfl rfl rfl rfl rfl rfl ?_ | refine sy_stl 3 sz_126 rfl rfl rfl rfl rfl rfl rfl rfl ?_ | refine sy_stl 4 sz_126 rfl rfl rfl rfl rfl rfl rfl rfl ?_ | refine sy_stl 5 sz_126 rfl rfl rfl rfl rfl rfl rfl rfl ?_
  refine sy_nil rfl ?_
  refine ny_next ?_
  refine cy_seq ?_
  refine cy_region ?_
  first | refine sy_ldar 0 agg_126 rfl rfl rfl rfl rfl ?_ | refine sy_ldar 1 agg_126 rfl rfl rfl rfl rfl ?_ | refine sy_ldar 2 agg_126 rfl rfl rfl rfl rfl ?_ | refine sy_ldar 3 agg_126 rfl rfl rfl rfl rfl ?_ | refine sy_ldar 4 agg_126 rfl rfl rfl rfl rfl ?_ | refine sy_ldar 5 agg_126 rfl rfl rfl rfl rfl ?_
  refine sy_exq rfl (fun w hs => typP ⟨b14, 0, none⟩ w) rfl rfl ?_
  refine sy_assign rfl rfl rfl ?_
  refine sy_nil rfl ?_
  refine ny_next ?_
  refine cy_seq ?_
  refine cy_seq ?_
  refine cy_region ?_
  refine sy_move rfl rfl rfl ?_
  refine sy_invq rfl rfl (fun w => cKindP w) rfl rfl ?_
  refine sy_cmp rfl rfl rfl rfl rfl ?_
  refine sy_setF (d := 19) rfl rfl rfl ?_
  refine sy_move rfl rfl rfl ?_
  first | refine sy_ldar 0 agg_126 rfl rfl rfl rfl rfl ?_ | refine sy_ldar 1 agg_126 rfl rfl rfl rfl rfl ?_ | refine sy_ldar 2 agg_126 rfl rfl rfl rfl rfl ?_ | refine sy_ldar 3 agg_126 rfl rfl rfl rfl rfl ?_ | refine sy_ldar 4 agg_126 rfl rfl rfl rfl rfl ?_ | refine sy_ldar 5 agg_126 rfl rfl rfl rfl rfl ?_
  refine sy_exq rfl (fun w hs => nilP ⟨b14, 0, none⟩ ⟨b, 0, none⟩ w (hs.sub.cell (Hp.blk hbq 0 _ rfl))) rfl rfl ?_
  refine sy_pickF rfl rfl rfl rfl ?_
  refine sy_setF (d := 23) rfl rfl rfl ?_
  refine sy_nil rfl ?_
  refine ny_next ?_
  refine cy_condF rfl ?_
  refine cy_skip ?_
  refine ny_next ?_
  refine cy_seq ?_
  refine cy_region ?_
  refine sy_move rfl rfl rfl ?_
  refine sy_invq rfl rfl (fun w => cElem w) rfl rfl ?_
  refine sy_assign rfl rfl rfl ?_
  refine sy_nil rfl ?_
  refine ny_next ?_
  refine cy_seq ?_
  refine cy_seq ?_
  refine cy_region ?_
  refine sy_move rfl rfl rfl ?_
  refine sy_invq rfl rfl (fun w => cKindE w) rfl rfl ?_
  refine sy_cmp rfl rfl rfl rfl rfl ?_
  refine sy_setT (d := 29) rfl rfl rfl ?_
  refine sy_move rfl rfl rfl ?_
  refine sy_move rfl rfl rfl ?_
  refine sy_ldh one_120 rfl (hleq.cell hG) rfl rfl ?_
  refine sy_invq rfl rfl (fun w => cImp w) rfl rfl ?_
  refine sy_setT (d := 33) rfl rfl rfl ?_
  refine sy_not rfl rfl rfl ?_
  refine sy_pickT rfl rfl rfl rfl ?_
  refine sy_setF (d := 35) rfl rfl rfl ?_
  refine sy_nil rfl ?_
  refine ny_next ?_
  refine cy_condF rfl ?_
  refine cy_skip ?_
  refine ny_next ?_
  refine cy_seq ?_
  refine cy_region ?_
  refine sy_move rfl rfl rfl ?_
  refine sy_move rfl rfl rfl ?_
  first | refine sy_ldar 0 agg_126 rfl rfl rfl rfl rfl ?_ | refine sy_ldar 1 agg_126 rfl rfl rfl rfl rfl ?_ | refine sy_ldar 2 agg_126 rfl rfl rfl rfl rfl ?_ | refine sy_ldar 3 agg_126 rfl rfl rfl rfl rfl ?_ | refine sy_ldar 4 agg_126 rfl rfl rfl rfl rfl ?_ | refine sy_ldar 5 agg_126 rfl rfl rfl rfl rfl ?_
  refine sy_move rfl rfl rfl ?_
  refine sy_callxm 1 call_82 rfl rfl (as2E_c e x0 b b14 hq hbq) rfl rfl (fun x41 h41 o41 hx41 hle41 => ?_)
  subst hx41
  refine sy_assign rfl rfl rfl ?_
  refine sy_nil rfl ?_
  refine ny_next ?_
  refine cy_ret ?_
  exact ny_finR (res1 rfl rfl) (fun w hs => ⟨(), _, _, rfl, rfl, hs.toTurn⟩)
set_option maxRecDepth 100000 in
theorem codeE_c (e : Int) (h : Hp) (hG : h.cell ⟨0, 0, none⟩ = some (.iface 135 (.agg #[.pointer (some ⟨4, 34, none⟩)]))) : C0 Tryd.prog 29 [.iface 28 (.int .i64 e)] h (.int .i64 e) := by
  refine enter0 Tryd.func29 rfl rfl rfl (fun w => ?_)
  refine cy_seq ?_
  refine cy_region ?_
  refine sy_assign rfl rfl rfl ?_
  refine sy_nil rfl ?_
  refine ny_next ?_
  refine cy_seq ?_
  refine cy_region ?_
  refine sy_alloc zer_28 rfl rfl (fun b3 hb3 hM3 => ?_) (by simp)
  refine sy_nil rfl ?_
  refine ny_next ?_
  refine cy_seq ?_
  refine cy_block ?_
  refine cy_seq ?_
  refine cy_region ?_
  refine sy_move rfl rfl rfl ?_
  refine sy_eqn Tryd.underlying34 rfl rfl rfl rfl rfl ?_
  refine sy_setF (d := 6) rfl rfl rfl ?_
  refine sy_assign rfl rfl rfl ?_
  refine sy_nil rfl ?_
  refine ny_next ?_
  refine cy_condF rfl ?_
  refine cy_seq ?_
  refine cy_region ?_
  refine sy_move rfl rfl rfl ?_
  refine sy_iface Tryd.underlying28 rfl rfl rfl rfl ?_
  refine sy_call rfl call_58 rfl (isE_c e h) rfl rfl ?_
  refine sy_assign rfl rfl rfl ?_
  refine sy_nil rfl ?_
  refine ny_next ?_
  refine cy_cond rfl (fun hc7 => ?_) (fun hc7 => ?_)
  · refine cy_seq ?_
    refine cy_region ?_
    refine sy_assign rfl rfl rfl ?_
    refine sy_nil rfl ?_
    refine ny_next ?_
    refine cy_ret ?_
    refine ny_blockR ?_
    refine ny_thenR ?_
    refine ny_finR (res1 rfl rfl) (fun w hs => ⟨?_, hs.frm⟩)
    first | rfl | (have he1 := eq_of_beq hc7; rw [he1]) | (simp_all; done)
  · refine cy_seq ?_
    refine cy_region ?_
    refine sy_move rfl rfl rfl ?_
    refine sy_iface Tryd.underlying104 rfl rfl rfl rfl ?_
    refine sy_callxm 0 call_59 rfl rfl (asE_c e 0 _ h hG) rfl rfl (fun x14 h14 o14 hx14 hle14 => ?_)
    subst hx14
    refine sy_setT (d := 14) rfl rfl rfl ?_
    refine sy_assign rfl rfl rfl ?_
    refine sy_nil rfl ?_
    refine ny_next ?_
    refine cy_condT rfl ?_
    refine cy_seq ?_
    refine cy_region ?_
    first | refine sy_ldr 0 one_28 rfl rfl rfl rfl rfl ?_ | refine sy_ldr 1 one_28 rfl rfl rfl rfl rfl ?_ | refine sy_ldr 2 one_28 rfl rfl rfl rfl rfl ?_
    refine sy_assign rfl rfl rfl ?_
    refine sy_nil rfl ?_
    refine ny_next ?_
    refine cy_ret ?_
    refine ny_blockR ?_
    refine ny_thenR ?_
    refine ny_finR (res1 rfl rfl) (fun w hs => ⟨?_, hs.frm⟩)
    first | rfl | (have he1 := eq_of_beq hc7; rw [he1]) | (simp_all; done)
set_option maxRecDepth 100000 in
theorem codeN_c (h : Hp) : C0 Tryd.prog 29 [.nilIface] h (.int .i64 0) := by
  refine enter0 Tryd.func29 rfl rfl rfl (fun w => ?_)
  refine cy_seq ?_
  refine cy_region ?_
  refine sy_assign rfl rfl rfl ?_
  refine sy_nil rfl ?_
  refine ny_next ?_
  refine cy_seq ?_
  refine cy_region ?_
  refine sy_alloc zer_28 rfl rfl (fun b3 hb3 hM3 => ?_) (by simp)
  refine sy_nil rfl ?_
  refine ny_next ?_
  refine cy_seq ?_
  refine cy_block ?_
  refine cy_seq ?_
  refine cy_region ?_
  refine sy_move rfl rfl rfl ?_
  refine sy_eqn Tryd.underlying34 rfl rfl rfl rfl rfl ?_
  refine sy_setT (d := 6) rfl rfl rfl ?_
  refine sy_assign rfl rfl rfl ?_
  refine sy_nil rfl ?_
  refine ny_next ?_
  refine cy_condT rfl ?_
  refine cy_seq ?_
  refine cy_region ?_
  refine sy_assign rfl rfl rfl ?_
  refine sy_nil rfl ?_
  refine ny_next ?_
  refine cy_ret ?_
  refine ny_blockR ?_
  refine ny_thenR ?_
  refine ny_finR (res1 rfl rfl) (fun w hs => ⟨?_, hs.frm⟩)
  rfl
end Go.Proofs.YtamifocfbcmfkaaDoor

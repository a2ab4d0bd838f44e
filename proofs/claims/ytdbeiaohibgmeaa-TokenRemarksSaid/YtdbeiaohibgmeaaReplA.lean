/- Locks and atomics of one goroutine: the walks. Conditions: as each says. Printed by a program of this session. -/
import Derived.Test.YtdbeiaohibgmeaaFactsA
import Derived.Test.YtdbeiaohibgmeaaReplPure
set_option linter.unusedVariables false
set_option linter.unusedSimpArgs false
namespace Go.Proofs.Ytdbeiaohibgmeaa
open Go.RowKit Go.Proofs.Ytdbeiaohibgmeaa.E Go.Proofs.Ytdbeiaohibgmeaa.ReplP
set_option maxRecDepth 100000 in
theorem bload_c (b off : Nat) (x : Int) (h : Hp) (hc : h.cell ⟨b, off, none⟩ = some (.int .u32 x)) : C0 Try.prog 35 [.pointer (some ⟨b, off, none⟩)] h (.bool (x != 0)) := by
  refine enter0 Try.func35 rfl rfl rfl (fun w => ?_)
  refine cy_seq ?_
  refine cy_region ?_
  refine sy_assign rfl rfl rfl ?_
  refine sy_nil rfl ?_
  refine ny_next ?_
  refine cy_seq ?_
  refine cy_region ?_
  refine sy_move rfl rfl rfl ?_
  refine sy_nilCheck rfl rfl rfl ?_
  refine sy_field fld_52_1 rfl rfl rfl ?_
  refine sy_exq rfl (fun w hs => run_call_load Try.func40 (by kernel_rfl) (by kernel_rfl) (by kernel_rfl) .u32 (by kernel_rfl) (hs.sub.cell hc)) rfl rfl ?_
  refine sy_cmp rfl rfl rfl rfl rfl ?_
  refine sy_assign rfl rfl rfl ?_
  refine sy_nil rfl ?_
  refine ny_next ?_
  refine cy_ret ?_
  refine ny_finR (res1 rfl rfl) (fun w hs => ⟨?_, hs.frm⟩)
  rfl
set_option maxRecDepth 100000 in
theorem b32_c (h : Hp) : C0 Try.prog 49 [.bool true] h (.int .u32 1) := by
  refine enter0 Try.func49 rfl rfl rfl (fun w => ?_)
  refine cy_seq ?_
  refine cy_region ?_
  refine sy_assign rfl rfl rfl ?_
  refine sy_nil rfl ?_
  refine ny_next ?_
  refine cy_seq ?_
  refine cy_seq ?_
  refine cy_region ?_
  refine sy_move rfl rfl rfl ?_
  refine sy_setT (d := 3) rfl rfl rfl ?_
  refine sy_nil rfl ?_
  refine ny_next ?_
  refine cy_condT rfl ?_
  refine cy_seq ?_
  refine cy_region ?_
  refine sy_assign rfl rfl rfl ?_
  refine sy_nil rfl ?_
  refine ny_next ?_
  refine cy_ret ?_
  refine ny_thenR ?_
  refine ny_finR (res1 rfl rfl) (fun w hs => ⟨?_, hs.frm⟩)
  rfl
set_option maxRecDepth 100000 in
theorem lockI_c (b : Nat) (T : TypeId) (h : Hp) (x0 x1 x2 x3 x4 : Value)  : CM Try.prog 46 [.pointer (some ⟨b, 1, none⟩)] h b (.cells [x0, .int .i32 0, x2, x3, x4].toArray T (0, 0)) (.tuple #[]) (.cells [x0, .int .i32 1, x2, x3, x4].toArray T (0, 0)) := by
  refine enter1 Try.func46 rfl rfl rfl (fun w hb0 => ?_)
  refine cy_seq ?_
  refine cy_region ?_
  refine sy_exq rfl (fun w hs => run_call_mark0 Try.func52 (by kernel_rfl) (by kernel_rfl) (by kernel_rfl) .disable (by kernel_rfl) w) rfl rfl ?_
  refine sy_nil rfl ?_
  refine ny_next ?_
  refine cy_seq ?_
  refine cy_seq ?_
  refine cy_region ?_
  refine sy_move rfl rfl rfl ?_
  refine sy_nilCheck rfl rfl rfl ?_
  refine sy_field fld_54_0 rfl rfl rfl ?_
  refine sy_exw (off := 1) (old := .int .i32 0) (new := .int .i32 1) 0 rfl rfl rfl rfl (fun w hc hz => run_call_cas_hit Try.func53 (by kernel_rfl) (by kernel_rfl) (by kernel_rfl) .i32 (by kernel_rfl) hc hz) rfl rfl ?_
  refine sy_setT (d := 6) rfl rfl rfl ?_
  refine sy_nil rfl ?_
  refine ny_next ?_
  refine cy_condT rfl ?_
  refine cy_seq ?_
  refine cy_condT rfl ?_
  refine cy_seq ?_
  refine cy_region ?_
  refine sy_exq rfl (fun w hs => run_call_mark0 Try.func54 (by kernel_rfl) (by kernel_rfl) (by kernel_rfl) .enable (by kernel_rfl) w) rfl rfl ?_
  refine sy_nil rfl ?_
  refine ny_next ?_
  refine cy_region ?_
  refine sy_move rfl rfl rfl ?_
  refine sy_unsafe (v := .int .i32 1) Try.underlying99 Try.underlying103 (by kernel_rfl) rfl (fun w hs => St.cellR 0 rfl rfl hs) rfl rfl ?_
  refine sy_exq rfl (fun w hs => run_call_marked Try.func55 (by kernel_rfl) (by kernel_rfl) (by kernel_rfl) .acquire (by kernel_rfl) ⟨b, 1, none⟩ w) rfl rfl ?_
  refine sy_nil rfl ?_
  refine ny_next ?_
  refine cy_ret ?_
  refine ny_thenR ?_
  exact ny_finR (res0 rfl) (fun w hs => ⟨rfl, hs.frm, hs.ok _ (List.mem_cons_self)⟩)
set_option maxRecDepth 100000 in
theorem lock_c (b : Nat) (T : TypeId) (h : Hp) (x0 x1 x2 x3 x4 : Value)  : CM Try.prog 41 [.pointer (some ⟨b, 1, none⟩)] h b (.cells [x0, .int .i32 0, x2, x3, x4].toArray T (0, 0)) (.tuple #[]) (.cells [x0, .int .i32 1, x2, x3, x4].toArray T (0, 0)) := by
  refine enter1 Try.func41 rfl rfl rfl (fun w hb0 => ?_)
  refine cy_region ?_
  refine sy_move rfl rfl rfl ?_
  refine sy_nilCheck rfl rfl rfl ?_
  refine sy_field fld_56_1 rfl rfl rfl ?_
  refine sy_callm 0 call_46 rfl rfl (lockI_c b T h x0 x1 x2 x3 x4) rfl rfl ?_
  refine sy_nil rfl ?_
  exact ny_fin (res0 rfl) (fun w hs => ⟨rfl, hs.frm, hs.ok _ (List.mem_cons_self)⟩)
set_option maxRecDepth 100000 in
theorem unlockI_c (b : Nat) (T : TypeId) (h : Hp) (x0 x1 x2 x3 x4 : Value)  : CM Try.prog 47 [.pointer (some ⟨b, 1, none⟩)] h b (.cells [x0, .int .i32 1, x2, x3, x4].toArray T (0, 0)) (.tuple #[]) (.cells [x0, .int .i32 0, x2, x3, x4].toArray T (0, 0)) := by
  refine enter1 Try.func47 rfl rfl rfl (fun w hb0 => ?_)
  refine cy_seq ?_
  refine cy_condT rfl ?_
  refine cy_seq ?_
  refine cy_region ?_
  refine sy_move rfl rfl rfl ?_
  refine sy_nilCheck rfl rfl rfl ?_
  refine sy_field fld_54_0 rfl rfl rfl ?_
  first | refine sy_ldr 0 one_21 rfl rfl rfl rfl rfl ?_
  refine sy_nil rfl ?_
  refine ny_next ?_
  refine cy_seq ?_
  refine cy_region ?_
  refine sy_move rfl rfl rfl ?_
  refine sy_unsafe (v := .int .i32 1) Try.underlying99 Try.underlying103 (by kernel_rfl) rfl (fun w hs => St.cellR 0 rfl rfl hs) rfl rfl ?_
  refine sy_exq rfl (fun w hs => run_call_marked Try.func57 (by kernel_rfl) (by kernel_rfl) (by kernel_rfl) .releaseMerge (by kernel_rfl) ⟨b, 1, none⟩ w) rfl rfl ?_
  refine sy_nil rfl ?_
  refine ny_next ?_
  refine cy_region ?_
  refine sy_exq rfl (fun w hs => run_call_mark0 Try.func52 (by kernel_rfl) (by kernel_rfl) (by kernel_rfl) .disable (by kernel_rfl) w) rfl rfl ?_
  refine sy_nil rfl ?_
  refine ny_next ?_
  refine cy_seq ?_
  refine cy_region ?_
  refine sy_move rfl rfl rfl ?_
  refine sy_nilCheck rfl rfl rfl ?_
  refine sy_field fld_54_0 rfl rfl rfl ?_
  refine sy_exw (off := 1) (old := .int .i32 1) (new := .int .i32 0) 0 rfl rfl rfl rfl (fun w hc hz => run_call_add Try.func58 (by kernel_rfl) (by kernel_rfl) (by kernel_rfl) .i32 (by kernel_rfl) hc hz (by simp [go_sem]; rfl)) rfl rfl ?_
  refine sy_assign rfl rfl rfl ?_
  refine sy_nil rfl ?_
  refine ny_next ?_
  refine cy_seq ?_
  refine cy_seq ?_
  refine cy_region ?_
  refine sy_move rfl rfl rfl ?_
  refine sy_cmp rfl rfl rfl rfl rfl ?_
  refine sy_setF (d := 16) rfl rfl rfl ?_
  refine sy_nil rfl ?_
  refine ny_next ?_
  refine cy_condF rfl ?_
  refine cy_skip ?_
  refine ny_next ?_
  refine cy_region ?_
  refine sy_exq rfl (fun w hs => run_call_mark0 Try.func54 (by kernel_rfl) (by kernel_rfl) (by kernel_rfl) .enable (by kernel_rfl) w) rfl rfl ?_
  refine sy_nil rfl ?_
  exact ny_fin (res0 rfl) (fun w hs => ⟨rfl, hs.frm, hs.ok _ (List.mem_cons_self)⟩)
set_option maxRecDepth 100000 in
theorem unlock_d (b : Nat) (T : TypeId) (h : Hp) (x0 x1 x2 x3 x4 : Value)  : CMD Try.prog 42 [.pointer (some ⟨b, 1, none⟩)] h b (.cells [x0, .int .i32 1, x2, x3, x4].toArray T (0, 0)) (.cells [x0, .int .i32 0, x2, x3, x4].toArray T (0, 0)) := by
  refine enter1D Try.func42 rfl rfl rfl (fun w hb0 => ?_)
  refine cy_region ?_
  refine sy_move rfl rfl rfl ?_
  refine sy_nilCheck rfl rfl rfl ?_
  refine sy_field fld_56_1 rfl rfl rfl ?_
  refine sy_callm 0 call_47 rfl rfl (unlockI_c b T h x0 x1 x2 x3 x4) rfl rfl ?_
  refine sy_nil rfl ?_
  exact ny_fin (res0 rfl) (fun w hs => ⟨⟨_, rfl⟩, hs.frm, hs.ok _ (List.mem_cons_self)⟩)
set_option maxRecDepth 100000 in
theorem store_d (b : Nat) (T : TypeId) (h : Hp) (x0 x1 x2 x3 x4 : Value) (x : Int)  : CMD Try.prog 43 [.pointer (some ⟨b, 0, none⟩), .bool true] h b (.cells [.int .u32 x, x1, x2, x3, x4].toArray T (0, 0)) (.cells [.int .u32 1, x1, x2, x3, x4].toArray T (0, 0)) := by
  refine enter1D Try.func43 rfl rfl rfl (fun w hb0 => ?_)
  refine cy_regionA mixed ?_
  refine zy_q 0 rfl (by kernel_rfl) (fun hB0_0 => ?_)
  refine sy_move rfl rfl rfl ?_
  refine sy_nil1 (ny_zq hB0_0 ?_)
  refine zy_q 1 rfl (by kernel_rfl) (fun hB0_1 => ?_)
  refine sy_nilCheck rfl rfl rfl ?_
  refine sy_nil1 (ny_zq hB0_1 ?_)
  refine zy_q 2 rfl (by kernel_rfl) (fun hB0_2 => ?_)
  refine sy_field fld_52_1 rfl rfl rfl ?_
  refine sy_nil1 (ny_zq hB0_2 ?_)
  refine zy_q 3 rfl (by kernel_rfl) (fun hB0_3 => ?_)
  refine sy_move rfl rfl rfl ?_
  refine sy_nil1 (ny_zq hB0_3 ?_)
  refine zy_1 4 (by kernel_rfl) ?_
  refine zop_run rfl rfl (fun hB0_4 => ?_)
  refine sy_call rfl call_49 rfl (b32_c _) rfl rfl ?_
  refine sy_nil rfl (ny_zy hB0_4 (Hp.Le.refl _) ?_)
  refine zy_1 5 (by kernel_rfl) ?_
  refine zop_run rfl rfl (fun hB0_5 => ?_)
  refine sy_exw (off := 0) (old := .int .u32 x) (new := .int .u32 1) 0 rfl rfl rfl rfl (fun w hc hz => run_call_store Try.func48 (by kernel_rfl) (by kernel_rfl) (by kernel_rfl) (by kernel_rfl) hc hz) rfl rfl ?_
  refine sy_nil rfl (ny_zy hB0_5 (Hp.Le.refl _) ?_)
  refine zy_done (by kernel_rfl) ?_
  exact ny_fin (res0 rfl) (fun w hs => ⟨⟨_, rfl⟩, hs.frm, hs.ok _ (List.mem_cons_self)⟩)
end Go.Proofs.Ytdbeiaohibgmeaa

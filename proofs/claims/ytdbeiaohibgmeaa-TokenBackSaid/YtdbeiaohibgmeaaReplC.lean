/- strings.Replacer, made once: the walks. Conditions: as each says. Printed by a program of this session. -/
import Derived.Test.YtdbeiaohibgmeaaFactsC
import Derived.Test.YtdbeiaohibgmeaaReplB
set_option linter.unusedVariables false
set_option linter.unusedSimpArgs false
namespace Go.Proofs.Ytdbeiaohibgmeaa
open Go.RowKit Go.Proofs.Ytdbeiaohibgmeaa.E Go.Proofs.Ytdbeiaohibgmeaa.ReplP
set_option maxRecDepth 100000 in
theorem buildOnce_c (b : Nat) (h : Hp) (x2 : Value) (A : Option Addr) (cO : Nat) (hO : RowsAt h A 1 (olds.map fun s => [Value.string s])) : CXM Try.prog 31 [.pointer (some ⟨b, 0, none⟩)] h b (.cells [.int .u32 0, .int .i32 1, x2, .nilIface, .slice A 6 cO].toArray 62 (0, 0)) (fun _ : Nat => .tuple #[]) (fun x h' o' => o' = .cells [.int .u32 0, .int .i32 1, x2, .iface 84 (.pointer (some ⟨x, 0, none⟩)), .slice none 0 0].toArray 62 (0, 0) ∧ ReplT h' 83 x) := by
  refine enterXM Try.func31 rfl rfl rfl (fun w hb0 => ?_)
  refine cy_seq ?_
  refine cy_region ?_
  refine sy_move rfl rfl rfl ?_
  refine sy_move rfl rfl rfl ?_
  refine sy_callxm 0 call_37 rfl rfl (build_c b h x2 A cO hO) rfl rfl (fun x4 h4 o4 hx4 hle4 => ?_)
  obtain ⟨rfl, hR4⟩ := hx4
  refine sy_nilCheck rfl rfl rfl ?_
  refine sy_field fld_62_1 rfl rfl rfl ?_
  first | refine sy_stl 0 sz_60 rfl rfl rfl rfl rfl rfl rfl rfl ?_ | refine sy_stl 1 sz_60 rfl rfl rfl rfl rfl rfl rfl rfl ?_
  refine sy_nil rfl ?_
  refine ny_next ?_
  refine cy_region ?_
  refine sy_move rfl rfl rfl ?_
  refine sy_nilCheck rfl rfl rfl ?_
  refine sy_field fld_62_2 rfl rfl rfl ?_
  first | refine sy_stl 0 sz_46 rfl rfl rfl rfl rfl rfl rfl rfl ?_ | refine sy_stl 1 sz_46 rfl rfl rfl rfl rfl rfl rfl rfl ?_
  refine sy_nil rfl ?_
  exact ny_fin (res0 rfl) (fun w hs => ⟨x4, h4, _, rfl, ⟨rfl, hR4⟩, hs.toTurn⟩)
set_option maxRecDepth 100000 in
theorem doSlow_c (b : Nat) (h : Hp) (x2 : Value) (A : Option Addr) (cO : Nat) (hO : RowsAt h A 1 (olds.map fun s => [Value.string s])) : CXM Try.prog 36 [.pointer (some ⟨b, 0, none⟩), .func (.func 31) #[.pointer (some ⟨b, 0, none⟩)] #[]] h b (.cells [.int .u32 0, .int .i32 0, x2, .nilIface, .slice A 6 cO].toArray 62 (0, 0)) (fun _ : Nat => .tuple #[]) (fun x h' o' => o' = .cells [.int .u32 1, .int .i32 0, x2, .iface 84 (.pointer (some ⟨x, 0, none⟩)), .slice none 0 0].toArray 62 (0, 0) ∧ ReplT h' 83 x) := by
  refine enterXMD Try.func36 rfl rfl rfl (fun w hb0 => ?_)
  refine cy_seq ?_
  refine cy_region ?_
  refine sy_move rfl rfl rfl ?_
  refine sy_nilCheck rfl rfl rfl ?_
  refine sy_field fld_58_2 rfl rfl rfl ?_
  refine sy_callm 0 call_41 rfl rfl (lock_c b 62 h _ (.int .i32 0) x2 _ _) rfl rfl ?_
  refine sy_nil rfl ?_
  refine ny_next ?_
  refine cy_seq ?_
  refine cy_region ?_
  refine sy_move rfl rfl rfl ?_
  refine sy_nilCheck rfl rfl rfl ?_
  refine sy_field fld_58_2 rfl rfl rfl ?_
  refine sy_defer rfl rfl ?_
  refine sy_nil rfl ?_
  refine ny_next ?_
  refine cy_seq ?_
  refine cy_region ?_
  refine sy_move rfl rfl rfl ?_
  refine sy_nilCheck rfl rfl rfl ?_
  refine sy_field fld_58_1 rfl rfl rfl ?_
  refine sy_callr 0 rfl call_35 rfl rfl (bload_c b 0 0 _ (by simp [Hp.cell, Hp.upd])) rfl rfl ?_
  refine sy_not rfl rfl rfl ?_
  refine sy_setT (d := 15) rfl rfl rfl ?_
  refine sy_nil rfl ?_
  refine ny_next ?_
  refine cy_condT rfl ?_
  refine cy_seq ?_
  refine cy_region ?_
  refine sy_move rfl rfl rfl ?_
  refine sy_nilCheck rfl rfl rfl ?_
  refine sy_field fld_58_1 rfl rfl rfl ?_
  refine sy_defer rfl rfl ?_
  refine sy_nil rfl ?_
  refine ny_next ?_
  refine cy_region ?_
  refine sy_move rfl rfl rfl ?_
  refine sy_callbxm 0 call_31 rfl rfl rfl (buildOnce_c b h x2 A cO hO) rfl rfl (fun x20 h20 o20 hx20 hle20 => ?_)
  obtain ⟨rfl, hR20⟩ := hx20
  refine sy_nil rfl ?_
  refine ny_finD (lv_cons 0 call_43 rfl (store_d b 62 h20 (.int .u32 0) _ _ _ _ 0) (lv_cons 0 call_42 rfl (unlock_d b 62 h20 _ (.int .i32 0) _ _ _) (lv_nil (res0 rfl) (fun w hs => ⟨x20, h20, _, rfl, ⟨rfl, hR20⟩, hs.toTurn⟩))))
set_option maxRecDepth 100000 in
theorem do_c (b : Nat) (h : Hp) (x2 : Value) (A : Option Addr) (cO : Nat) (hO : RowsAt h A 1 (olds.map fun s => [Value.string s])) : CXM Try.prog 30 [.pointer (some ⟨b, 0, none⟩), .func (.func 31) #[.pointer (some ⟨b, 0, none⟩)] #[]] h b (.cells [.int .u32 0, .int .i32 0, x2, .nilIface, .slice A 6 cO].toArray 62 (0, 0)) (fun _ : Nat => .tuple #[]) (fun x h' o' => o' = .cells [.int .u32 1, .int .i32 0, x2, .iface 84 (.pointer (some ⟨x, 0, none⟩)), .slice none 0 0].toArray 62 (0, 0) ∧ ReplT h' 83 x) := by
  refine enterXM Try.func30 rfl rfl rfl (fun w hb0 => ?_)
  refine cy_seq ?_
  refine cy_region ?_
  refine sy_move rfl rfl rfl ?_
  refine sy_nilCheck rfl rfl rfl ?_
  refine sy_field fld_58_1 rfl rfl rfl ?_
  refine sy_callr 0 rfl call_35 rfl rfl (bload_c b 0 0 _ (by simp [Hp.cell, Hp.upd])) rfl rfl ?_
  refine sy_not rfl rfl rfl ?_
  refine sy_setT (d := 8) rfl rfl rfl ?_
  refine sy_nil rfl ?_
  refine ny_next ?_
  refine cy_condT rfl ?_
  refine cy_region ?_
  refine sy_move rfl rfl rfl ?_
  refine sy_move rfl rfl rfl ?_
  refine sy_callxm 0 call_36 rfl rfl (doSlow_c b h x2 A cO hO) rfl rfl (fun x11 h11 o11 hx11 hle11 => ?_)
  obtain ⟨rfl, hR11⟩ := hx11
  refine sy_nil rfl ?_
  exact ny_fin (res0 rfl) (fun w hs => ⟨x11, h11, _, rfl, ⟨rfl, hR11⟩, hs.toTurn⟩)
set_option maxRecDepth 100000 in
theorem newRepl_c (h : Hp) (A : Option Addr) (cO : Nat) (hO : RowsAt h A 1 (olds.map fun s => [Value.string s])) : CXN Try.prog 16 [.slice A 6 cO] h (fun (_ : Option Addr × Nat) b => .pointer (some ⟨b, 0, none⟩)) (fun x h' o' => o' = .cells [.int .u32 0, .int .i32 0, .int .u32 0, .nilIface, .slice x.1 6 x.2].toArray 62 (0, 0) ∧ RowsAt h' x.1 1 (olds.map fun s => [Value.string s])) := by
  refine enterXN Try.func16 rfl rfl rfl (fun w => ?_)
  refine cy_seq ?_
  refine cy_region ?_
  refine sy_assign rfl rfl rfl ?_
  refine sy_nil rfl ?_
  refine ny_next ?_
  refine cy_seq ?_
  refine cy_seq ?_
  refine cy_region ?_
  refine sy_move rfl rfl rfl ?_
  refine sy_len rfl (len_slice Try.underlying46 _ _ _) rfl rfl ?_
  refine sy_rem (z := 0) rfl rfl (by decide) (by decide) (by decide) (by decide) rfl rfl ?_
  refine sy_cmp rfl rfl rfl rfl rfl ?_
  refine sy_setF (d := 6) rfl rfl rfl ?_
  refine sy_nil rfl ?_
  refine ny_next ?_
  refine cy_condF rfl ?_
  refine cy_skip ?_
  refine ny_next ?_
  refine cy_seq ?_
  refine cy_nilRow 9 1 ?_
  refine cy_region ?_
  refine sy_move rfl rfl rfl ?_
  refine sy_appendh (news := (olds.map fun s => [Value.string s]).flatten) 0 row_46 (by decide) rfl rfl rfl (fun hA => by have := hO.none hA; simp [olds] at this) rfl (hO.cells (by decide) (fun c hc => by obtain ⟨x, _, rfl⟩ := List.mem_map.1 hc; rfl)) (fun u hu => by simp only [olds, List.map_cons, List.map_nil, List.flatten_cons, List.flatten_nil, List.append_nil, List.cons_append, List.nil_append, List.mem_cons, List.not_mem_nil, or_false] at hu; rcases hu with rfl | rfl | rfl | rfl | rfl | rfl <;> rfl) (by decide) (by decide) rfl rfl (fun v9 => ?_)
  refine sy_frzRow 0 rfl (fun _ _ => by simp) (fun A9 c9 h9 hv9 hlc9 hcm9 _ hle9 hcell9 => ?_)
  subst hv9
  have hr9 : RowsAt h9 A9 1 (olds.map fun s => [Value.string s]) := rows_row (by decide) (fun c hc => by obtain ⟨x, _, rfl⟩ := List.mem_map.1 hc; rfl) hcell9
  refine sy_build rfl (fun w => bld_62_2 w) rfl rfl ?_
  refine sy_box rfl rfl rfl rfl (fun b11 hb11 hM11 => ?_) (by simp)
  refine sy_assign rfl rfl rfl ?_
  refine sy_nil rfl ?_
  refine ny_next ?_
  refine cy_ret ?_
  exact ny_finR (res1 rfl rfl) (fun w hs => ⟨(A9, c9), b11, h9, _, rfl, ⟨rfl, hr9⟩, hs.toNew⟩)
end Go.Proofs.Ytdbeiaohibgmeaa

/- The engine, the plain laws and the walks of this seat, part 2: what the functions answer. Conditions: as each says; printed by programs of this session. -/
import Derived.Laws.Externs
import Derived.Lib.Bytealg
import Derived.Test.YtanhhihechakhaaGreatDoorMa
set_option linter.unusedVariables false
set_option linter.unusedSimpArgs false
namespace Go.Proofs.YtanhhihechakhaaGreatDoor
open Go.RowKit Go.Proofs.YtanhhihechakhaaGreatDoor.E Go.Proofs.YtanhhihechakhaaGreatDoor.ReplP
theorem bldR {x1 : Option Addr} {x2 x3 : Nat} (w : World) : (Instr.build 205 #[(1, .slice x1 x2 x3)]).run Tryz.prog w = .ok (.agg (rT (fun _ => .slice none 0 0) (.slice x1 x2 x3)).toArray) w := by kernel_rfl
theorem zerR : zerL Tryz.prog 205 = some (rT (fun _ => .slice none 0 0) (.slice none 0 0)) := by kernel_rfl
set_option maxRecDepth 100000 in
set_option maxHeartbeats 1000000 in
theorem build_c (b : Nat) (h : Hp) (x2 : Value) (A : Option Addr) (cO : Nat) (hO : RowsAt h A 1 (olds.map fun s => [Value.string s])) : CXM Tryz.prog 125 [.pointer (some ⟨b, 0, none⟩)] h b (.cells [.int .u32 0, .int .i32 1, x2, .nilIface, .slice A 6 cO].toArray 165 (0, 0)) (fun x : Nat => .iface 206 (.pointer (some ⟨x, 0, none⟩))) (fun x h' o' => o' = .cells [.int .u32 0, .int .i32 1, x2, .nilIface, .slice A 6 cO].toArray 165 (0, 0) ∧ ReplT h' 205 x) := by
  refine enterXM Tryz.func125 rfl rfl rfl (fun w hb0 => ?_)
  refine cy_seq ?_
  refine cy_region ?_
  refine sy_assign rfl rfl rfl ?_
  refine sy_nil rfl ?_
  refine ny_next ?_
  refine cy_seq ?_
  refine cy_region ?_
  refine sy_move rfl rfl rfl ?_
  refine sy_nilCheck rfl rfl rfl ?_
  refine sy_field fld_165_2 rfl rfl rfl ?_
  first | refine sy_ldr 0 one_37 rfl rfl rfl rfl rfl ?_ | refine sy_ldr 1 one_37 rfl rfl rfl rfl rfl ?_ | refine sy_ldr 2 one_37 rfl rfl rfl rfl rfl ?_ | refine sy_ldr 3 one_37 rfl rfl rfl rfl rfl ?_ | refine sy_ldr 4 one_37 rfl rfl rfl rfl rfl ?_ | refine sy_ldr 5 one_37 rfl rfl rfl rfl rfl ?_
  refine sy_assign rfl rfl rfl ?_
  refine sy_nil rfl ?_
  refine ny_next ?_
  refine cy_seq ?_
  refine cy_seq ?_
  refine cy_region ?_
  refine sy_move rfl rfl rfl ?_
  refine sy_len rfl (len_slice Tryz.underlying37 _ _ _) rfl rfl ?_
  refine sy_cmp rfl rfl rfl rfl rfl ?_
  refine sy_setF (d := 21) rfl rfl rfl ?_
  refine sy_move rfl rfl rfl ?_
  refine sy_skip rfl rfl rfl ?_
  refine sy_skip rfl rfl rfl ?_
  refine sy_skip rfl rfl rfl ?_
  refine sy_skip rfl rfl rfl ?_
  refine sy_skip rfl rfl rfl ?_
  refine sy_pickF rfl rfl rfl rfl ?_
  refine sy_setF (d := 28) rfl rfl rfl ?_
  refine sy_nil rfl ?_
  refine ny_next ?_
  refine cy_condF rfl ?_
  refine cy_skip ?_
  refine ny_next ?_
  refine cy_seq ?_
  refine cy_region ?_
  refine sy_assign rfl rfl rfl ?_
  refine sy_nil rfl ?_
  refine ny_next ?_
  refine cy_seq ?_
  refine cy_seq ?_
  refine cy_region ?_
  refine sy_assign rfl rfl rfl ?_
  refine sy_nil rfl ?_
  refine ny_next ?_
  refine cy_block ?_
  refine cy_rounds 3 ?_
  refine cy_seq ?_
  refine cy_seq ?_
  refine cy_region ?_
  refine sy_move rfl rfl rfl ?_
  refine sy_move rfl rfl rfl ?_
  refine sy_len rfl (len_slice Tryz.underlying37 _ _ _) rfl rfl ?_
  refine sy_cmp rfl rfl rfl rfl rfl ?_
  refine sy_setT (d := 40) rfl rfl rfl ?_
  refine sy_nil rfl ?_
  refine ny_next ?_
  refine cy_condT rfl ?_
  refine cy_skip ?_
  refine ny_next ?_
  refine cy_seq ?_
  refine cy_block ?_
  refine cy_seq ?_
  refine cy_seq ?_
  refine cy_region ?_
  refine sy_move rfl rfl rfl ?_
  refine sy_move rfl rfl rfl ?_
  refine sy_idxR (i := 0) (fc := fun s => [Value.string s]) (es := olds) els_37 rfl rfl hO rfl (by decide) rfl rfl (fun e45 b45 o45 he45 hA45 hc45 => ?_)
  obtain rfl := Option.some.inj (show some (olds[0]) = some e45 from he45)
  refine sy_ldh one_9 rfl (hc45 0 _ rfl) rfl rfl ?_
  refine sy_len rfl (len_string Tryz.underlying9 _) rfl rfl ?_
  refine sy_cmp rfl rfl rfl rfl rfl ?_
  refine sy_setF (d := 48) rfl rfl rfl ?_
  refine sy_nil rfl ?_
  refine ny_next ?_
  refine cy_condF rfl ?_
  refine cy_skip ?_
  refine ny_next ?_
  refine cy_seq ?_
  refine cy_region ?_
  refine sy_move rfl rfl rfl ?_
  refine sy_move rfl rfl rfl ?_
  refine sy_addi (z := 1) rfl rfl (by decide) (by decide) (by decide) rfl rfl ?_
  refine sy_idxR (i := 1) (fc := fun s => [Value.string s]) (es := olds) els_37 rfl rfl hO rfl (by decide) rfl rfl (fun e55 b55 o55 he55 hA55 hc55 => ?_)
  obtain rfl := Option.some.inj (show some (olds[1]) = some e55 from he55)
  refine sy_ldh one_9 rfl (hc55 0 _ rfl) rfl rfl ?_
  refine sy_len rfl (len_string Tryz.underlying9 _) rfl rfl ?_
  refine sy_cmp rfl rfl rfl rfl rfl ?_
  refine sy_setT (d := 58) rfl rfl rfl ?_
  refine sy_nil rfl ?_
  refine ny_next ?_
  refine cy_condT rfl ?_
  refine cy_region ?_
  refine sy_assign rfl rfl rfl ?_
  refine sy_nil rfl ?_
  refine ny_blockN ?_
  refine ny_next ?_
  refine cy_region ?_
  refine sy_move rfl rfl rfl ?_
  refine sy_addi (z := 2) rfl rfl (by decide) (by decide) (by decide) rfl rfl ?_
  refine sy_assign rfl rfl rfl ?_
  refine sy_nil rfl ?_
  refine ny_again ?_
  refine cy_seq ?_
  refine cy_seq ?_
  refine cy_region ?_
  refine sy_move rfl rfl rfl ?_
  refine sy_move rfl rfl rfl ?_
  refine sy_len rfl (len_slice Tryz.underlying37 _ _ _) rfl rfl ?_
  refine sy_cmp rfl rfl rfl rfl rfl ?_
  refine sy_setT (d := 40) rfl rfl rfl ?_
  refine sy_nil rfl ?_
  refine ny_next ?_
  refine cy_condT rfl ?_
  refine cy_skip ?_
  refine ny_next ?_
  refine cy_seq ?_
  refine cy_block ?_
  refine cy_seq ?_
  refine cy_seq ?_
  refine cy_region ?_
  refine sy_move rfl rfl rfl ?_
  refine sy_move rfl rfl rfl ?_
  refine sy_idxR (i := 2) (fc := fun s => [Value.string s]) (es := olds) els_37 rfl rfl hO rfl (by decide) rfl rfl (fun e45 b45 o45 he45 hA45 hc45 => ?_)
  obtain rfl := Option.some.inj (show some (olds[2]) = some e45 from he45)
  refine sy_ldh one_9 rfl (hc45 0 _ rfl) rfl rfl ?_
  refine sy_len rfl (len_string Tryz.underlying9 _) rfl rfl ?_
  refine sy_cmp rfl rfl rfl rfl rfl ?_
  refine sy_setF (d := 48) rfl rfl rfl ?_
  refine sy_nil rfl ?_
  refine ny_next ?_
  refine cy_condF rfl ?_
  refine cy_skip ?_
  refine ny_next ?_
  refine cy_seq ?_
  refine cy_region ?_
  refine sy_move rfl rfl rfl ?_
  refine sy_move rfl rfl rfl ?_
  refine sy_addi (z := 3) rfl rfl (by decide) (by decide) (by decide) rfl rfl ?_
  refine sy_idxR (i := 3) (fc := fun s => [Value.string s]) (es := olds) els_37 rfl rfl hO rfl (by decide) rfl rfl (fun e55 b55 o55 he55 hA55 hc55 => ?_)
  obtain rfl := Option.some.inj (show some (olds[3]) = some e55 from he55)
  refine sy_ldh one_9 rfl (hc55 0 _ rfl) rfl rfl ?_
  refine sy_len rfl (len_string Tryz.underlying9 _) rfl rfl ?_
  refine sy_cmp rfl rfl rfl rfl rfl ?_
  refine sy_setT (d := 58) rfl rfl rfl ?_
  refine sy_nil rfl ?_
  refine ny_next ?_
  refine cy_condT rfl ?_
  refine cy_region ?_
  refine sy_assign rfl rfl rfl ?_
  refine sy_nil rfl ?_
  refine ny_blockN ?_
  refine ny_next ?_
  refine cy_region ?_
  refine sy_move rfl rfl rfl ?_
  refine sy_addi (z := 4) rfl rfl (by decide) (by decide) (by decide) rfl rfl ?_
  refine sy_assign rfl rfl rfl ?_
  refine sy_nil rfl ?_
  refine ny_again ?_
  refine cy_seq ?_
  refine cy_seq ?_
  refine cy_region ?_
  refine sy_move rfl rfl rfl ?_
  refine sy_move rfl rfl rfl ?_
  refine sy_len rfl (len_slice Tryz.underlying37 _ _ _) rfl rfl ?_
  refine sy_cmp rfl rfl rfl rfl rfl ?_
  refine sy_setT (d := 40) rfl rfl rfl ?_
  refine sy_nil rfl ?_
  refine ny_next ?_
  refine cy_condT rfl ?_
  refine cy_skip ?_
  refine ny_next ?_
  refine cy_seq ?_
  refine cy_block ?_
  refine cy_seq ?_
  refine cy_seq ?_
  refine cy_region ?_
  refine sy_move rfl rfl rfl ?_
  refine sy_move rfl rfl rfl ?_
  refine sy_idxR (i := 4) (fc := fun s => [Value.string s]) (es := olds) els_37 rfl rfl hO rfl (by decide) rfl rfl (fun e45 b45 o45 he45 hA45 hc45 => ?_)
  obtain rfl := Option.some.inj (show some (olds[4]) = some e45 from he45)
  refine sy_ldh one_9 rfl (hc45 0 _ rfl) rfl rfl ?_
  refine sy_len rfl (len_string Tryz.underlying9 _) rfl rfl ?_
  refine sy_cmp rfl rfl rfl rfl rfl ?_
  refine sy_setF (d := 48) rfl rfl rfl ?_
  refine sy_nil rfl ?_
  refine ny_next ?_
  refine cy_condF rfl ?_
  refine cy_skip ?_
  refine ny_next ?_
  refine cy_seq ?_
  refine cy_region ?_
  refine sy_move rfl rfl rfl ?_
  refine sy_move rfl rfl rfl ?_
  refine sy_addi (z := 5) rfl rfl (by decide) (by decide) (by decide) rfl rfl ?_
  refine sy_idxR (i := 5) (fc := fun s => [Value.string s]) (es := olds) els_37 rfl rfl hO rfl (by decide) rfl rfl (fun e55 b55 o55 he55 hA55 hc55 => ?_)
  obtain rfl := Option.some.inj (show some (olds[5]) = some e55 from he55)
  refine sy_ldh one_9 rfl (hc55 0 _ rfl) rfl rfl ?_
  refine sy_len rfl (len_string Tryz.underlying9 _) rfl rfl ?_
  refine sy_cmp rfl rfl rfl rfl rfl ?_
  refine sy_setT (d := 58) rfl rfl rfl ?_
  refine sy_nil rfl ?_
  refine ny_next ?_
  refine cy_condT rfl ?_
  refine cy_region ?_
  refine sy_assign rfl rfl rfl ?_
  refine sy_nil rfl ?_
  refine ny_blockN ?_
  refine ny_next ?_
  refine cy_region ?_
  refine sy_move rfl rfl rfl ?_
  refine sy_addi (z := 6) rfl rfl (by decide) (by decide) (by decide) rfl rfl ?_
  refine sy_assign rfl rfl rfl ?_
  refine sy_nil rfl ?_
  refine ny_again ?_
  refine cy_seq ?_
  refine cy_seq ?_
  refine cy_region ?_
  refine sy_move rfl rfl rfl ?_
  refine sy_move rfl rfl rfl ?_
  refine sy_len rfl (len_slice Tryz.underlying37 _ _ _) rfl rfl ?_
  refine sy_cmp rfl rfl rfl rfl rfl ?_
  refine sy_setF (d := 40) rfl rfl rfl ?_
  refine sy_nil rfl ?_
  refine ny_next ?_
  refine cy_condF rfl ?_
  refine cy_exit ?_
  refine ny_thenE ?_
  refine ny_thenE ?_
  refine ny_blockX ?_
  refine ny_next ?_
  refine cy_seq ?_
  refine cy_seq ?_
  refine cy_region ?_
  refine sy_move rfl rfl rfl ?_
  refine sy_setF (d := 59) rfl rfl rfl ?_
  refine sy_nil rfl ?_
  refine ny_next ?_
  refine cy_condF rfl ?_
  refine cy_skip ?_
  refine ny_next ?_
  refine cy_seq ?_
  refine cy_region ?_
  refine sy_move rfl rfl rfl ?_
  refine sy_len rfl (len_slice Tryz.underlying37 _ _ _) rfl rfl ?_
  refine sy_quo (z := 3) rfl rfl (by decide) rfl (by decide) (by decide) rfl rfl ?_
  refine sy_make0 (k1 := .i64) (k2 := .i64) (c := 3) row_37 rfl rfl (by decide) (by decide) rfl rfl (fun b94 hb94 hM94 => ?_) (by simp only [List.mem_singleton]; rintro _ rfl; exact hb0)
  refine sy_build rfl (fun w => bldR w) rfl rfl ?_
  refine sy_alloc (zs := rT (fun _ => Value.slice none 0 0) (.slice none 0 0)) zerR rfl rfl (fun b11 hb11 hM11 => ?_) (by simp only [List.mem_singleton]; rintro _ rfl; exact hb0)
  first | refine sy_stl 0 sz_205 rfl rfl rfl rfl rfl rfl rfl rfl ?_ | refine sy_stl 1 sz_205 rfl rfl rfl rfl rfl rfl rfl rfl ?_ | refine sy_stl 2 sz_205 rfl rfl rfl rfl rfl rfl rfl rfl ?_ | refine sy_stl 3 sz_205 rfl rfl rfl rfl rfl rfl rfl rfl ?_ | refine sy_stl 4 sz_205 rfl rfl rfl rfl rfl rfl rfl rfl ?_ | refine sy_stl 5 sz_205 rfl rfl rfl rfl rfl rfl rfl rfl ?_
  refine sy_nil rfl ?_
  refine ny_next ?_
  refine cy_seq ?_
  refine cy_seq ?_
  refine cy_region ?_
  refine sy_move rfl rfl rfl ?_
  refine sy_len rfl (len_slice Tryz.underlying37 _ _ _) rfl rfl ?_
  refine sy_subi (z := 4) rfl rfl (by decide) (by decide) (by decide) rfl rfl ?_
  refine sy_assign rfl rfl rfl ?_
  refine sy_nil rfl ?_
  refine ny_next ?_
  refine cy_block ?_
  refine cy_rounds 3 ?_
  refine cy_seq ?_
  refine cy_seq ?_
  refine cy_region ?_
  refine sy_move rfl rfl rfl ?_
  refine sy_cmp rfl rfl rfl rfl rfl ?_
  refine sy_setT (d := 100) rfl rfl rfl ?_
  refine sy_nil rfl ?_
  refine ny_next ?_
  refine cy_condT rfl ?_
  refine cy_skip ?_
  refine ny_next ?_
  refine cy_seq ?_
  refine cy_block ?_
  refine cy_seq ?_
  refine cy_region ?_
  refine sy_move rfl rfl rfl ?_
  refine sy_move rfl rfl rfl ?_
  refine sy_idxR (i := 4) (fc := fun s => [Value.string s]) (es := olds) els_37 rfl rfl hO rfl (by decide) rfl rfl (fun e105 b105 o105 he105 hA105 hc105 => ?_)
  obtain rfl := Option.some.inj (show some (olds[4]) = some e105 from he105)
  refine sy_ldh one_9 rfl (hc105 0 _ rfl) rfl rfl ?_
  refine sy_idxs (u := 10) Tryz.underlying9 rfl rfl (by decide) rfl rfl rfl ?_
  refine sy_assign rfl rfl rfl ?_
  refine sy_nil rfl ?_
  refine ny_next ?_
  refine cy_seq ?_
  refine cy_region ?_
  refine sy_move rfl rfl rfl ?_
  refine sy_move rfl rfl rfl ?_
  refine sy_addi (z := 5) rfl rfl (by decide) (by decide) (by decide) rfl rfl ?_
  refine sy_idxR (i := 5) (fc := fun s => [Value.string s]) (es := olds) els_37 rfl rfl hO rfl (by decide) rfl rfl (fun e111 b111 o111 he111 hA111 hc111 => ?_)
  obtain rfl := Option.some.inj (show some (olds[5]) = some e111 from he111)
  refine sy_ldh one_9 rfl (hc111 0 _ rfl) rfl rfl ?_
  refine sy_assign rfl rfl rfl ?_
  refine sy_nil rfl ?_
  refine ny_next ?_
  refine cy_seq ?_
  refine cy_seq ?_
  refine cy_region ?_
  refine sy_move rfl rfl rfl ?_
  refine sy_field fld_205_0 rfl rfl rfl ?_
  refine sy_idxA (i := ((10 : UInt8).toNat : Int)) arr_203 rfl rfl (by decide) (by decide) rfl rfl ?_
  refine sy_ldr (cs := rT (fun _ => Value.slice none 0 0) (.slice (some ⟨b94, 0, none⟩) 0 3)) (v := .slice none 0 0) 0 one_40 rfl rfl (rT_get (fun _ => Value.slice none 0 0) _ 10) rfl rfl ?_
  refine sy_eqsl (b := true) Tryz.underlying40 rfl rfl rfl rfl ?_
  refine sy_setT (d := 117) rfl rfl rfl ?_
  refine sy_nil rfl ?_
  refine ny_next ?_
  refine cy_condT rfl ?_
  refine cy_region ?_
  refine sy_field fld_205_1 rfl rfl rfl ?_
  refine sy_ldr (cs := rT (fun _ => Value.slice none 0 0) (.slice (some ⟨b94, 0, none⟩) 0 3)) (v := (.slice (some ⟨b94, 0, none⟩) 0 3)) 0 one_37 rfl rfl (rT_last _ _) rfl rfl ?_
  refine sy_move rfl rfl rfl ?_
  refine sy_buildSlice rfl (fun w => bsl_40_1_0 w) rfl rfl (fun b121 hb121 hM121 => ?_) (by simp only [List.mem_singleton]; rintro _ rfl; exact hb0)
  refine sy_byte1 (u := 10) 0 Tryz.underlying40 Tryz.underlying5 Tryz.underlying9 rfl rfl rfl rfl rfl ?_
  refine sy_buildSlice rfl (fun w => bsl_37_1_0 w) rfl rfl (fun b123 hb123 hM123 => ?_) (by simp only [List.mem_singleton]; rintro _ rfl; exact hb0)
  refine sy_append 3 0 row_37 (by decide) rfl rfl rfl rfl rfl rfl (by decide) (by decide) rfl rfl (fun v124 => ?_)
  refine sy_rowform 0 rfl (fun A124_10 c124_10 hv124 => ?_)
  subst hv124
  refine sy_field fld_205_1 rfl rfl rfl ?_
  refine sy_st (vs := [(.slice A124_10 1 c124_10)]) (cs := rT (fun _ => Value.slice none 0 0) (.slice (some ⟨b94, 0, none⟩) 0 3)) (cs' := rT (fun _ => Value.slice none 0 0) (.slice A124_10 1 c124_10)) 3 rfl rfl rfl rfl (fun w => sz_spec sz_37 w) rfl (by rw [rT_len]; exact Nat.le_of_ble_eq_true rfl) (rT_set2 _ _ _) rfl ?_
  refine sy_sel [0, 0, 2] rfl ?_
  refine sy_nil rfl ?_
  refine ny_next ?_
  refine cy_region ?_
  refine sy_move rfl rfl rfl ?_
  refine sy_move rfl rfl rfl ?_
  refine sy_strbytes Tryz.underlying9 Tryz.underlying40 Tryz.underlying5 rfl rfl rfl (fun b128_10 c128_10 h128_10 hle128_10 hr128_10 => ?_) (by simp only [List.mem_singleton]; rintro _ rfl; exact hb0)
  replace hO := hO.le hle128_10
  refine sy_field fld_205_0 rfl rfl rfl ?_
  refine sy_idxA (i := ((10 : UInt8).toNat : Int)) arr_203 rfl rfl (by decide) (by decide) rfl rfl ?_
  refine sy_st (vs := [.slice (some ⟨b128_10, 0, none⟩) 2 c128_10]) (cs := rT (fun _ => Value.slice none 0 0) (.slice A124_10 1 c124_10)) (cs' := rT (updC (fun _ => Value.slice none 0 0) 10 (.slice (some ⟨b128_10, 0, none⟩) 2 c128_10)) (.slice A124_10 1 c124_10)) 0 rfl rfl rfl rfl (fun w => sz_spec sz_40 w) rfl (by rw [rT_len]; exact Nat.le_of_ble_eq_true rfl) (rT_set _ _ _ 10) rfl ?_
  refine sy_nil rfl ?_
  refine ny_blockN ?_
  refine ny_next ?_
  refine cy_region ?_
  refine sy_move rfl rfl rfl ?_
  refine sy_subi (z := 2) rfl rfl (by decide) (by decide) (by decide) rfl rfl ?_
  refine sy_assign rfl rfl rfl ?_
  refine sy_nil rfl ?_
  refine ny_again ?_
  refine cy_seq ?_
  refine cy_seq ?_
  refine cy_region ?_
  refine sy_move rfl rfl rfl ?_
  refine sy_cmp rfl rfl rfl rfl rfl ?_
  refine sy_setT (d := 100) rfl rfl rfl ?_
  refine sy_nil rfl ?_
  refine ny_next ?_
  refine cy_condT rfl ?_
  refine cy_skip ?_
  refine ny_next ?_
  refine cy_seq ?_
  refine cy_block ?_
  refine cy_seq ?_
  refine cy_region ?_
  refine sy_move rfl rfl rfl ?_
  refine sy_move rfl rfl rfl ?_
  refine sy_idxR (i := 2) (fc := fun s => [Value.string s]) (es := olds) els_37 rfl rfl hO rfl (by decide) rfl rfl (fun e105 b105 o105 he105 hA105 hc105 => ?_)
  obtain rfl := Option.some.inj (show some (olds[2]) = some e105 from he105)
  refine sy_ldh one_9 rfl (hc105 0 _ rfl) rfl rfl ?_
  refine sy_idxs (u := 92) Tryz.underlying9 rfl rfl (by decide) rfl rfl rfl ?_
  refine sy_assign rfl rfl rfl ?_
  refine sy_nil rfl ?_
  refine ny_next ?_
  refine cy_seq ?_
  refine cy_region ?_
  refine sy_move rfl rfl rfl ?_
  refine sy_move rfl rfl rfl ?_
  refine sy_addi (z := 3) rfl rfl (by decide) (by decide) (by decide) rfl rfl ?_
  refine sy_idxR (i := 3) (fc := fun s => [Value.string s]) (es := olds) els_37 rfl rfl hO rfl (by decide) rfl rfl (fun e111 b111 o111 he111 hA111 hc111 => ?_)
  obtain rfl := Option.some.inj (show some (olds[3]) = some e111 from he111)
  refine sy_ldh one_9 rfl (hc111 0 _ rfl) rfl rfl ?_
  refine sy_assign rfl rfl rfl ?_
  refine sy_nil rfl ?_
  refine ny_next ?_
  refine cy_seq ?_
  refine cy_seq ?_
  refine cy_region ?_
  refine sy_move rfl rfl rfl ?_
  refine sy_field fld_205_0 rfl rfl rfl ?_
  refine sy_idxA (i := ((92 : UInt8).toNat : Int)) arr_203 rfl rfl (by decide) (by decide) rfl rfl ?_
  refine sy_ldr (cs := rT (updC (fun _ => Value.slice none 0 0) 10 (.slice (some ⟨b128_10, 0, none⟩) 2 c128_10)) (.slice A124_10 1 c124_10)) (v := .slice none 0 0) 0 one_40 rfl rfl (rT_get (updC (fun _ => Value.slice none 0 0) 10 (.slice (some ⟨b128_10, 0, none⟩) 2 c128_10)) _ 92) rfl rfl ?_
  refine sy_eqsl (b := true) Tryz.underlying40 rfl rfl rfl rfl ?_
  refine sy_setT (d := 117) rfl rfl rfl ?_
  refine sy_nil rfl ?_
  refine ny_next ?_
  refine cy_condT rfl ?_
  refine cy_region ?_
  refine sy_field fld_205_1 rfl rfl rfl ?_
  refine sy_ldr (cs := rT (updC (fun _ => Value.slice none 0 0) 10 (.slice (some ⟨b128_10, 0, none⟩) 2 c128_10)) (.slice A124_10 1 c124_10)) (v := (.slice A124_10 1 c124_10)) 0 one_37 rfl rfl (rT_last _ _) rfl rfl ?_
  refine sy_move rfl rfl rfl ?_
  refine sy_buildSlice rfl (fun w => bsl_40_1_0 w) rfl rfl (fun b121 hb121 hM121 => ?_) (by simp only [List.mem_singleton]; rintro _ rfl; exact hb0)
  refine sy_byte1 (u := 92) 0 Tryz.underlying40 Tryz.underlying5 Tryz.underlying9 rfl rfl rfl rfl rfl ?_
  refine sy_buildSlice rfl (fun w => bsl_37_1_0 w) rfl rfl (fun b123 hb123 hM123 => ?_) (by simp only [List.mem_singleton]; rintro _ rfl; exact hb0)
  refine sy_append 3 0 row_37 (by decide) rfl rfl rfl rfl rfl rfl (by decide) (by decide) rfl rfl (fun v124 => ?_)
  refine sy_rowform 0 rfl (fun A124_92 c124_92 hv124 => ?_)
  subst hv124
  refine sy_field fld_205_1 rfl rfl rfl ?_
  refine sy_st (vs := [(.slice A124_92 2 c124_92)]) (cs := rT (updC (fun _ => Value.slice none 0 0) 10 (.slice (some ⟨b128_10, 0, none⟩) 2 c128_10)) (.slice A124_10 1 c124_10)) (cs' := rT (updC (fun _ => Value.slice none 0 0) 10 (.slice (some ⟨b128_10, 0, none⟩) 2 c128_10)) (.slice A124_92 2 c124_92)) 3 rfl rfl rfl rfl (fun w => sz_spec sz_37 w) rfl (by rw [rT_len]; exact Nat.le_of_ble_eq_true rfl) (rT_set2 _ _ _) rfl ?_
  refine sy_sel [0, 0, 2] rfl ?_
  refine sy_nil rfl ?_
  refine ny_next ?_
  refine cy_region ?_
  refine sy_move rfl rfl rfl ?_
  refine sy_move rfl rfl rfl ?_
  refine sy_strbytes Tryz.underlying9 Tryz.underlying40 Tryz.underlying5 rfl rfl rfl (fun b128_92 c128_92 h128_92 hle128_92 hr128_92 => ?_) (by simp only [List.mem_singleton]; rintro _ rfl; exact hb0)
  replace hO := hO.le hle128_92
  replace hr128_10 := hr128_10.le hle128_92
  refine sy_field fld_205_0 rfl rfl rfl ?_
  refine sy_idxA (i := ((92 : UInt8).toNat : Int)) arr_203 rfl rfl (by decide) (by decide) rfl rfl ?_
  refine sy_st (vs := [.slice (some ⟨b128_92, 0, none⟩) 2 c128_92]) (cs := rT (updC (fun _ => Value.slice none 0 0) 10 (.slice (some ⟨b128_10, 0, none⟩) 2 c128_10)) (.slice A124_92 2 c124_92)) (cs' := rT (updC (updC (fun _ => Value.slice none 0 0) 10 (.slice (some ⟨b128_10, 0, none⟩) 2 c128_10)) 92 (.slice (some ⟨b128_92, 0, none⟩) 2 c128_92)) (.slice A124_92 2 c124_92)) 0 rfl rfl rfl rfl (fun w => sz_spec sz_40 w) rfl (by rw [rT_len]; exact Nat.le_of_ble_eq_true rfl) (rT_set _ _ _ 92) rfl ?_
  refine sy_nil rfl ?_
  refine ny_blockN ?_
  refine ny_next ?_
  refine cy_region ?_
  refine sy_move rfl rfl rfl ?_
  refine sy_subi (z := 0) rfl rfl (by decide) (by decide) (by decide) rfl rfl ?_
  refine sy_assign rfl rfl rfl ?_
  refine sy_nil rfl ?_
  refine ny_again ?_
  refine cy_seq ?_
  refine cy_seq ?_
  refine cy_region ?_
  refine sy_move rfl rfl rfl ?_
  refine sy_cmp rfl rfl rfl rfl rfl ?_
  refine sy_setT (d := 100) rfl rfl rfl ?_
  refine sy_nil rfl ?_
  refine ny_next ?_
  refine cy_condT rfl ?_
  refine cy_skip ?_
  refine ny_next ?_
  refine cy_seq ?_
  refine cy_block ?_
  refine cy_seq ?_
  refine cy_region ?_
  refine sy_move rfl rfl rfl ?_
  refine sy_move rfl rfl rfl ?_
  refine sy_idxR (i := 0) (fc := fun s => [Value.string s]) (es := olds) els_37 rfl rfl hO rfl (by decide) rfl rfl (fun e105 b105 o105 he105 hA105 hc105 => ?_)
  obtain rfl := Option.some.inj (show some (olds[0]) = some e105 from he105)
  refine sy_ldh one_9 rfl (hc105 0 _ rfl) rfl rfl ?_
  refine sy_idxs (u := 39) Tryz.underlying9 rfl rfl (by decide) rfl rfl rfl ?_
  refine sy_assign rfl rfl rfl ?_
  refine sy_nil rfl ?_
  refine ny_next ?_
  refine cy_seq ?_
  refine cy_region ?_
  refine sy_move rfl rfl rfl ?_
  refine sy_move rfl rfl rfl ?_
  refine sy_addi (z := 1) rfl rfl (by decide) (by decide) (by decide) rfl rfl ?_
  refine sy_idxR (i := 1) (fc := fun s => [Value.string s]) (es := olds) els_37 rfl rfl hO rfl (by decide) rfl rfl (fun e111 b111 o111 he111 hA111 hc111 => ?_)
  obtain rfl := Option.some.inj (show some (olds[1]) = some e111 from he111)
  refine sy_ldh one_9 rfl (hc111 0 _ rfl) rfl rfl ?_
  refine sy_assign rfl rfl rfl ?_
  refine sy_nil rfl ?_
  refine ny_next ?_
  refine cy_seq ?_
  refine cy_seq ?_
  refine cy_region ?_
  refine sy_move rfl rfl rfl ?_
  refine sy_field fld_205_0 rfl rfl rfl ?_
  refine sy_idxA (i := ((39 : UInt8).toNat : Int)) arr_203 rfl rfl (by decide) (by decide) rfl rfl ?_
  refine sy_ldr (cs := rT (updC (updC (fun _ => Value.slice none 0 0) 10 (.slice (some ⟨b128_10, 0, none⟩) 2 c128_10)) 92 (.slice (some ⟨b128_92, 0, none⟩) 2 c128_92)) (.slice A124_92 2 c124_92)) (v := .slice none 0 0) 0 one_40 rfl rfl (rT_get (updC (updC (fun _ => Value.slice none 0 0) 10 (.slice (some ⟨b128_10, 0, none⟩) 2 c128_10)) 92 (.slice (some ⟨b128_92, 0, none⟩) 2 c128_92)) _ 39) rfl rfl ?_
  refine sy_eqsl (b := true) Tryz.underlying40 rfl rfl rfl rfl ?_
  refine sy_setT (d := 117) rfl rfl rfl ?_
  refine sy_nil rfl ?_
  refine ny_next ?_
  refine cy_condT rfl ?_
  refine cy_region ?_
  refine sy_field fld_205_1 rfl rfl rfl ?_
  refine sy_ldr (cs := rT (updC (updC (fun _ => Value.slice none 0 0) 10 (.slice (some ⟨b128_10, 0, none⟩) 2 c128_10)) 92 (.slice (some ⟨b128_92, 0, none⟩) 2 c128_92)) (.slice A124_92 2 c124_92)) (v := (.slice A124_92 2 c124_92)) 0 one_37 rfl rfl (rT_last _ _) rfl rfl ?_
  refine sy_move rfl rfl rfl ?_
  refine sy_buildSlice rfl (fun w => bsl_40_1_0 w) rfl rfl (fun b121 hb121 hM121 => ?_) (by simp only [List.mem_singleton]; rintro _ rfl; exact hb0)
  refine sy_byte1 (u := 39) 0 Tryz.underlying40 Tryz.underlying5 Tryz.underlying9 rfl rfl rfl rfl rfl ?_
  refine sy_buildSlice rfl (fun w => bsl_37_1_0 w) rfl rfl (fun b123 hb123 hM123 => ?_) (by simp only [List.mem_singleton]; rintro _ rfl; exact hb0)
  refine sy_append 3 0 row_37 (by decide) rfl rfl rfl rfl rfl rfl (by decide) (by decide) rfl rfl (fun v124 => ?_)
  refine sy_rowform 0 rfl (fun A124_39 c124_39 hv124 => ?_)
  subst hv124
  refine sy_field fld_205_1 rfl rfl rfl ?_
  refine sy_st (vs := [(.slice A124_39 3 c124_39)]) (cs := rT (updC (updC (fun _ => Value.slice none 0 0) 10 (.slice (some ⟨b128_10, 0, none⟩) 2 c128_10)) 92 (.slice (some ⟨b128_92, 0, none⟩) 2 c128_92)) (.slice A124_92 2 c124_92)) (cs' := rT (updC (updC (fun _ => Value.slice none 0 0) 10 (.slice (some ⟨b128_10, 0, none⟩) 2 c128_10)) 92 (.slice (some ⟨b128_92, 0, none⟩) 2 c128_92)) (.slice A124_39 3 c124_39)) 3 rfl rfl rfl rfl (fun w => sz_spec sz_37 w) rfl (by rw [rT_len]; exact Nat.le_of_ble_eq_true rfl) (rT_set2 _ _ _) rfl ?_
  refine sy_sel [0, 0, 2] rfl ?_
  refine sy_nil rfl ?_
  refine ny_next ?_
  refine cy_region ?_
  refine sy_move rfl rfl rfl ?_
  refine sy_move rfl rfl rfl ?_
  refine sy_strbytes Tryz.underlying9 Tryz.underlying40 Tryz.underlying5 rfl rfl rfl (fun b128_39 c128_39 h128_39 hle128_39 hr128_39 => ?_) (by simp only [List.mem_singleton]; rintro _ rfl; exact hb0)
  replace hO := hO.le hle128_39
  replace hr128_10 := hr128_10.le hle128_39
  replace hr128_92 := hr128_92.le hle128_39
  refine sy_field fld_205_0 rfl rfl rfl ?_
  refine sy_idxA (i := ((39 : UInt8).toNat : Int)) arr_203 rfl rfl (by decide) (by decide) rfl rfl ?_
  refine sy_st (vs := [.slice (some ⟨b128_39, 0, none⟩) 2 c128_39]) (cs := rT (updC (updC (fun _ => Value.slice none 0 0) 10 (.slice (some ⟨b128_10, 0, none⟩) 2 c128_10)) 92 (.slice (some ⟨b128_92, 0, none⟩) 2 c128_92)) (.slice A124_39 3 c124_39)) (cs' := rT (updC (updC (updC (fun _ => Value.slice none 0 0) 10 (.slice (some ⟨b128_10, 0, none⟩) 2 c128_10)) 92 (.slice (some ⟨b128_92, 0, none⟩) 2 c128_92)) 39 (.slice (some ⟨b128_39, 0, none⟩) 2 c128_39)) (.slice A124_39 3 c124_39)) 0 rfl rfl rfl rfl (fun w => sz_spec sz_40 w) rfl (by rw [rT_len]; exact Nat.le_of_ble_eq_true rfl) (rT_set _ _ _ 39) rfl ?_
  refine sy_nil rfl ?_
  refine ny_blockN ?_
  refine ny_next ?_
  refine cy_region ?_
  refine sy_move rfl rfl rfl ?_
  refine sy_subi (z := -2) rfl rfl (by decide) (by decide) (by decide) rfl rfl ?_
  refine sy_assign rfl rfl rfl ?_
  refine sy_nil rfl ?_
  refine ny_again ?_
  refine cy_seq ?_
  refine cy_seq ?_
  refine cy_region ?_
  refine sy_move rfl rfl rfl ?_
  refine sy_cmp rfl rfl rfl rfl rfl ?_
  refine sy_setF (d := 100) rfl rfl rfl ?_
  refine sy_nil rfl ?_
  refine ny_next ?_
  refine cy_condF rfl ?_
  refine cy_exit ?_
  refine ny_thenE ?_
  refine ny_thenE ?_
  refine ny_blockX ?_
  refine ny_next ?_
  refine cy_seq ?_
  refine cy_region ?_
  refine sy_iface Tryz.underlying206 rfl rfl rfl rfl ?_
  refine sy_assign rfl rfl rfl ?_
  refine sy_nil rfl ?_
  refine ny_next ?_
  refine cy_ret ?_
  refine ny_finR (res1 rfl rfl) (fun w hs => ?_)
  obtain ⟨A3, k3, h9, hv9, _, _, _, hle9, hcell9, _, hs9⟩ := frzRow 1 rfl (fun g hg hgm => by simp only [List.mem_singleton] at hgm; subst hgm; exact (List.pairwise_cons.1 (List.pairwise_cons.1 hs.dis).2).1 _ (List.mem_cons_self) _ hg rfl) hs
  injection hv9 with hv9a _ hv9b
  subst hv9a hv9b
  obtain ⟨h10, hle10, hb10, hs10⟩ := frz 0 rfl hM11 hs9
  refine ⟨b11, h10, _, rfl, ⟨rfl, _, _, _, _, (by rw [repl_form] at hb10; exact hb10), fun c => ?_, fun c hc => ?_, ?_⟩, hs10.toTurn⟩
  · unfold isSp
    by_cases h1 : c = 39
    · subst h1; rfl
    · by_cases h2 : c = 92
      · subst h2; rfl
      · by_cases h3 : c = 10
        · subst h3; rfl
        · simp [h1, h2, h3]
  · unfold isSp at hc
    simp only [Bool.or_eq_true, beq_iff_eq] at hc
    rcases hc with (rfl | rfl) | rfl
    · exact (hr128_10.le hle9).le hle10
    · exact (hr128_92.le hle9).le hle10
    · exact (hr128_39.le hle9).le hle10
  · exact (rows_row (cs := sps.map fun c => [Value.string ⟨#[c]⟩]) (by decide) (fun c hc => by obtain ⟨x, _, rfl⟩ := List.mem_map.1 hc; rfl) hcell9).le hle10
end Go.Proofs.YtanhhihechakhaaGreatDoor
set_option linter.unusedVariables false
set_option linter.unusedSimpArgs false
namespace Go.Proofs.YtanhhihechakhaaGreatDoor
open Go.RowKit Go.Proofs.YtanhhihechakhaaGreatDoor.E Go.Proofs.YtanhhihechakhaaGreatDoor.ReplP
set_option maxRecDepth 100000 in
theorem buildOnce_c (b : Nat) (h : Hp) (x2 : Value) (A : Option Addr) (cO : Nat) (hO : RowsAt h A 1 (olds.map fun s => [Value.string s])) : CXM Tryz.prog 109 [.pointer (some ⟨b, 0, none⟩)] h b (.cells [.int .u32 0, .int .i32 1, x2, .nilIface, .slice A 6 cO].toArray 165 (0, 0)) (fun _ : Nat => .tuple #[]) (fun x h' o' => o' = .cells [.int .u32 0, .int .i32 1, x2, .iface 206 (.pointer (some ⟨x, 0, none⟩)), .slice none 0 0].toArray 165 (0, 0) ∧ ReplT h' 205 x) := by
  refine enterXM Tryz.func109 rfl rfl rfl (fun w hb0 => ?_)
  refine cy_seq ?_
  refine cy_region ?_
  refine sy_move rfl rfl rfl ?_
  refine sy_move rfl rfl rfl ?_
  refine sy_callxm 0 call_125 rfl rfl (build_c b h x2 A cO hO) rfl rfl (fun x4 h4 o4 hx4 hle4 => ?_)
  obtain ⟨rfl, hR4⟩ := hx4
  refine sy_nilCheck rfl rfl rfl ?_
  refine sy_field fld_165_1 rfl rfl rfl ?_
  first | refine sy_stl 0 sz_163 rfl rfl rfl rfl rfl rfl rfl rfl ?_ | refine sy_stl 1 sz_163 rfl rfl rfl rfl rfl rfl rfl rfl ?_
  refine sy_nil rfl ?_
  refine ny_next ?_
  refine cy_region ?_
  refine sy_move rfl rfl rfl ?_
  refine sy_nilCheck rfl rfl rfl ?_
  refine sy_field fld_165_2 rfl rfl rfl ?_
  first | refine sy_stl 0 sz_37 rfl rfl rfl rfl rfl rfl rfl rfl ?_ | refine sy_stl 1 sz_37 rfl rfl rfl rfl rfl rfl rfl rfl ?_
  refine sy_nil rfl ?_
  exact ny_fin (res0 rfl) (fun w hs => ⟨x4, h4, _, rfl, ⟨rfl, hR4⟩, hs.toTurn⟩)
set_option maxRecDepth 100000 in
theorem doSlow_c (b : Nat) (h : Hp) (x2 : Value) (A : Option Addr) (cO : Nat) (hO : RowsAt h A 1 (olds.map fun s => [Value.string s])) : CXM Tryz.prog 124 [.pointer (some ⟨b, 0, none⟩), .func (.func 109) #[.pointer (some ⟨b, 0, none⟩)] #[]] h b (.cells [.int .u32 0, .int .i32 0, x2, .nilIface, .slice A 6 cO].toArray 165 (0, 0)) (fun _ : Nat => .tuple #[]) (fun x h' o' => o' = .cells [.int .u32 1, .int .i32 0, x2, .iface 206 (.pointer (some ⟨x, 0, none⟩)), .slice none 0 0].toArray 165 (0, 0) ∧ ReplT h' 205 x) := by
  refine enterXMD Tryz.func124 rfl rfl rfl (fun w hb0 => ?_)
  refine cy_seq ?_
  refine cy_region ?_
  refine sy_move rfl rfl rfl ?_
  refine sy_nilCheck rfl rfl rfl ?_
  refine sy_field fld_161_2 rfl rfl rfl ?_
  refine sy_callm 0 call_133 rfl rfl (lock_c b 165 h _ (.int .i32 0) x2 _ _) rfl rfl ?_
  refine sy_nil rfl ?_
  refine ny_next ?_
  refine cy_seq ?_
  refine cy_region ?_
  refine sy_move rfl rfl rfl ?_
  refine sy_nilCheck rfl rfl rfl ?_
  refine sy_field fld_161_2 rfl rfl rfl ?_
  refine sy_defer rfl rfl ?_
  refine sy_nil rfl ?_
  refine ny_next ?_
  refine cy_seq ?_
  refine cy_region ?_
  refine sy_move rfl rfl rfl ?_
  refine sy_nilCheck rfl rfl rfl ?_
  refine sy_field fld_161_1 rfl rfl rfl ?_
  refine sy_callr 0 rfl call_123 rfl rfl (bload_c b 0 0 _ (by simp [Hp.cell, Hp.upd])) rfl rfl ?_
  refine sy_not rfl rfl rfl ?_
  refine sy_setT (d := 15) rfl rfl rfl ?_
  refine sy_nil rfl ?_
  refine ny_next ?_
  refine cy_condT rfl ?_
  refine cy_seq ?_
  refine cy_region ?_
  refine sy_move rfl rfl rfl ?_
  refine sy_nilCheck rfl rfl rfl ?_
  refine sy_field fld_161_1 rfl rfl rfl ?_
  refine sy_defer rfl rfl ?_
  refine sy_nil rfl ?_
  refine ny_next ?_
  refine cy_region ?_
  refine sy_move rfl rfl rfl ?_
  refine sy_callbxm 0 call_109 rfl rfl rfl (buildOnce_c b h x2 A cO hO) rfl rfl (fun x20 h20 o20 hx20 hle20 => ?_)
  obtain ⟨rfl, hR20⟩ := hx20
  refine sy_nil rfl ?_
  refine ny_finD (lv_cons 0 call_135 rfl (store_d b 165 h20 (.int .u32 0) _ _ _ _ 0) (lv_cons 0 call_134 rfl (unlock_d b 165 h20 _ (.int .i32 0) _ _ _) (lv_nil (res0 rfl) (fun w hs => ⟨x20, h20, _, rfl, ⟨rfl, hR20⟩, hs.toTurn⟩))))
set_option maxRecDepth 100000 in
theorem do_c (b : Nat) (h : Hp) (x2 : Value) (A : Option Addr) (cO : Nat) (hO : RowsAt h A 1 (olds.map fun s => [Value.string s])) : CXM Tryz.prog 108 [.pointer (some ⟨b, 0, none⟩), .func (.func 109) #[.pointer (some ⟨b, 0, none⟩)] #[]] h b (.cells [.int .u32 0, .int .i32 0, x2, .nilIface, .slice A 6 cO].toArray 165 (0, 0)) (fun _ : Nat => .tuple #[]) (fun x h' o' => o' = .cells [.int .u32 1, .int .i32 0, x2, .iface 206 (.pointer (some ⟨x, 0, none⟩)), .slice none 0 0].toArray 165 (0, 0) ∧ ReplT h' 205 x) := by
  refine enterXM Tryz.func108 rfl rfl rfl (fun w hb0 => ?_)
  refine cy_seq ?_
  refine cy_region ?_
  refine sy_move rfl rfl rfl ?_
  refine sy_nilCheck rfl rfl rfl ?_
  refine sy_field fld_161_1 rfl rfl rfl ?_
  refine sy_callr 0 rfl call_123 rfl rfl (bload_c b 0 0 _ (by simp [Hp.cell, Hp.upd])) rfl rfl ?_
  refine sy_not rfl rfl rfl ?_
  refine sy_setT (d := 8) rfl rfl rfl ?_
  refine sy_nil rfl ?_
  refine ny_next ?_
  refine cy_condT rfl ?_
  refine cy_region ?_
  refine sy_move rfl rfl rfl ?_
  refine sy_move rfl rfl rfl ?_
  refine sy_callxm 0 call_124 rfl rfl (doSlow_c b h x2 A cO hO) rfl rfl (fun x11 h11 o11 hx11 hle11 => ?_)
  obtain ⟨rfl, hR11⟩ := hx11
  refine sy_nil rfl ?_
  exact ny_fin (res0 rfl) (fun w hs => ⟨x11, h11, _, rfl, ⟨rfl, hR11⟩, hs.toTurn⟩)
set_option maxRecDepth 100000 in
theorem newRepl_c (h : Hp) (A : Option Addr) (cO : Nat) (hO : RowsAt h A 1 (olds.map fun s => [Value.string s])) : CXN Tryz.prog 90 [.slice A 6 cO] h (fun (_ : Option Addr × Nat) b => .pointer (some ⟨b, 0, none⟩)) (fun x h' o' => o' = .cells [.int .u32 0, .int .i32 0, .int .u32 0, .nilIface, .slice x.1 6 x.2].toArray 165 (0, 0) ∧ RowsAt h' x.1 1 (olds.map fun s => [Value.string s])) := by
  refine enterXN Tryz.func90 rfl rfl rfl (fun w => ?_)
  refine cy_seq ?_
  refine cy_region ?_
  refine sy_assign rfl rfl rfl ?_
  refine sy_nil rfl ?_
  refine ny_next ?_
  refine cy_seq ?_
  refine cy_seq ?_
  refine cy_region ?_
  refine sy_move rfl rfl rfl ?_
  refine sy_len rfl (len_slice Tryz.underlying37 _ _ _) rfl rfl ?_
  refine sy_rem (z := 0) rfl rfl (by decide) (by decide) (by decide) (by decide) rfl rfl ?_
  refine sy_cmp rfl rfl rfl rfl rfl ?_
  refine sy_setF (d := 6) rfl rfl rfl ?_
  refine sy_nil rfl ?_
  refine ny_next ?_
  refine cy_condF rfl ?_
  refine cy_skip ?_
  refine ny_next ?_
  refine cy_seq ?_
  refine cy_nilRow 9 1 ?_
  refine cy_region ?_
  refine sy_move rfl rfl rfl ?_
  refine sy_appendh (news := (olds.map fun s => [Value.string s]).flatten) 0 row_37 (by decide) rfl rfl rfl (fun hA => by have := hO.none hA; simp [olds] at this) rfl (hO.cells (by decide) (fun c hc => by obtain ⟨x, _, rfl⟩ := List.mem_map.1 hc; rfl)) (fun u hu => by simp only [olds, List.map_cons, List.map_nil, List.flatten_cons, List.flatten_nil, List.append_nil, List.cons_append, List.nil_append, List.mem_cons, List.not_mem_nil, or_false] at hu; rcases hu with rfl | rfl | rfl | rfl | rfl | rfl <;> rfl) (by decide) (by decide) rfl rfl (fun v9 => ?_)
  refine sy_frzRow 0 rfl (fun _ _ => by simp) (fun A9 c9 h9 hv9 hlc9 hcm9 _ hle9 hcell9 => ?_)
  subst hv9
  have hr9 : RowsAt h9 A9 1 (olds.map fun s => [Value.string s]) := rows_row (by decide) (fun c hc => by obtain ⟨x, _, rfl⟩ := List.mem_map.1 hc; rfl) hcell9
  refine sy_build rfl (fun w => bld_165_2 w) rfl rfl ?_
  refine sy_box rfl rfl rfl rfl (fun b11 hb11 hM11 => ?_) (by simp)
  refine sy_assign rfl rfl rfl ?_
  refine sy_nil rfl ?_
  refine ny_next ?_
  refine cy_ret ?_
  exact ny_finR (res1 rfl rfl) (fun w hs => ⟨(A9, c9), b11, h9, _, rfl, ⟨rfl, hr9⟩, hs.toNew⟩)
end Go.Proofs.YtanhhihechakhaaGreatDoor
set_option linter.unusedVariables false
set_option linter.unusedSimpArgs false
namespace Go.Proofs.YtanhhihechakhaaGreatDoor.E
open Go.RowKit
theorem ext_run {P : Program} {F : Nat} {fn : Func} {e : Array Value → Sem Value} {vs : Array Value} {v : Value} {w w' : World} (hf : P.funcs[F]? = some fn) (hname : (fn.name == "runtime.NumGoroutine") = false) (hb : fn.body.isNone = true) (hn : Extern.findNext fn = none) (he : Extern.find fn = some e)
    (hr : (e vs).run P w = .ok v w') : (callFunc F vs).run P w = .ok (.value v) w' := by rw [run_callFunc_extern hf hname hb hn he, hr]; rfl
section
variable {m : Md} {P : Program} {ops : Array Oper} {Q : Exit → Act → World → Prop} {n : Nat} {D : List Deferred} {w0 : World} {M : List Nat} {h0 : Hp}
variable {f : Tab} {h : Hp} {H : List Res} {rest : List Oper} {o : Oper}
variable {d t s : Nat} {p : String} {af : Array Edge} {g : Option (Nat × Bool)}
theorem sy_idxU {x y : Operand} {b len : Nat} {u : UInt8} (hs : arrB P s len 1 = true) (hx : f.ev x = some (.pointer (some ⟨b, 0, none⟩))) (hy : f.ev y = some (.int .u8 (u.toNat : Int))) (h1 : u.toNat < len) (hw : gok ops f g = some true) (hn : Nat.blt d n = true)
    (k : Sy m P ops Q n D w0 M h0 rest ((d, .pointer (some ⟨b, u.toNat, none⟩)) :: f) h H) : Sy m P ops Q n D w0 M h0 (⟨some d, .indexAddr s x y, t, p, af, g⟩ :: rest) f h H :=
  sy_idxA hs hx hy (by omega) (by omega) hw hn (by
    have e : 0 + ((u.toNat : Nat) : Int).toNat * 1 = u.toNat := by rw [Int.toNat_natCast]; omega
    rw [e]
    exact k)
theorem sy_idxB {x y : Operand} {b len cap e k0 : Nat} {ik : IntKind} (hs : elsB P s e 1 = true) (hx : f.ev x = some (.slice (some ⟨b, 0, none⟩) len cap)) (hy : f.ev y = some (.int ik (k0 : Int))) (h1 : k0 < len) (hw : gok ops f g = some true) (hn : Nat.blt d n = true)
    (k : Sy m P ops Q n D w0 M h0 rest ((d, .pointer (some ⟨b, k0, none⟩)) :: f) h H) : Sy m P ops Q n D w0 M h0 (⟨some d, .indexAddr s x y, t, p, af, g⟩ :: rest) f h H :=
  sy_idxS hs hx hy (by omega) (by omega) hw hn (by
    have e : 0 + ((k0 : Nat) : Int).toNat * 1 = k0 := by rw [Int.toNat_natCast]; omega
    rw [e]
    exact k)
theorem sy_cutB {x y : Operand} {b l c e k0 : Nat} {ik : IntKind} (hs : elsB P s e 1 = true) (hx : f.ev x = some (.slice (some ⟨b, 0, none⟩) l c)) (hy : f.ev y = some (.int ik (k0 : Int))) (hk : k0 ≤ l) (hkc : k0 < c) (hw : gok ops f g = some true) (hn : Nat.blt d n = true)
    (k : Sy m P ops Q n D w0 M h0 rest ((d, .slice (some ⟨b, k0, none⟩) (l - k0) (c - k0)) :: f) h H) : Sy m P ops Q n D w0 M h0 (⟨some d, .slice s x (some y) none none, t, p, af, g⟩ :: rest) f h H :=
  sy_cutFrom hs hx hy hk hkc hw hn (by
    have e : 0 + k0 * 1 = k0 := by omega
    rw [e]
    exact k)
end
theorem Hp.blk0 {h : Hp} {g e : Nat} {fr : Nat × Nat} {cs : List Value} (hg : h g = some (.cells cs.toArray e fr)) (i : Nat) {v : Value} (hv : cs[i]? = some v) : h.cell ⟨g, i, none⟩ = some v := by simp [Hp.cell, hg, hv]
theorem ba_at {s : ByteArray} {i : Nat} {u : UInt8} (h : s.data.toList[i]? = some u) : s[((i : Nat) : Int).toNat]? = some u := by
  have hl := (List.getElem?_eq_some_iff.1 h).1
  have hi : i < s.size := by simpa using hl
  have e : ((i : Nat) : Int).toNat = i := Int.toNat_natCast i
  rw [e, getElem?_pos s i hi]
  have h2 := (List.getElem?_eq_some_iff.1 h).2
  rw [← h2]
  rfl
theorem ba_eta (s : ByteArray) : (⟨s.data.toList.toArray⟩ : ByteArray) = s := by
  obtain ⟨⟨l⟩⟩ := s
  rfl
end Go.Proofs.YtanhhihechakhaaGreatDoor.E
namespace Go.Proofs.YtanhhihechakhaaGreatDoor.ReplP
open Go.RowKit Go.Proofs.YtanhhihechakhaaGreatDoor.E
theorem sps_sp {i : Nat} {c : UInt8} (h : sps[i]? = some c) : isSp c = true := by
  have hm := List.mem_of_getElem? h
  simp only [sps, List.mem_cons, List.not_mem_nil, or_false] at hm
  rcases hm with rfl | rfl | rfl <;> rfl
def cntS (l : List UInt8) (i : Nat) : Nat := ((sps.take i).map fun c => l.count c).sum
theorem cntS_succ {l : List UInt8} {i : Nat} {c : UInt8} (h : sps[i]? = some c) : cntS l (i + 1) = cntS l i + l.count c := by
  unfold cntS
  rw [List.take_add_one, h, List.map_append, List.sum_append]
  simp
def anyS (l : List UInt8) (i : Nat) : Bool := (sps.take i).any fun c => decide (l.count c ≠ 0)
theorem anyS_succ {l : List UInt8} {i : Nat} {c : UInt8} (h : sps[i]? = some c) : anyS l (i + 1) = (anyS l i || decide (l.count c ≠ 0)) := by
  unfold anyS
  rw [List.take_add_one, h, List.any_append]
  simp
theorem count_len (l : List UInt8) (c : UInt8) : l.count c ≤ l.length := List.count_le_length
theorem cntS_le (l : List UInt8) (i : Nat) : cntS l i ≤ 3 * l.length := by
  have h1 := count_len l 10
  have h2 := count_len l 92
  have h3 := count_len l 39
  unfold cntS sps
  match i with
  | 0 => simp
  | 1 => simp; omega
  | 2 => simp; omega
  | k + 3 => simp; omega
theorem cntS_all (l : List UInt8) : l.length + cntS l 3 = (repl l).length := by
  rw [repl_count]
  simp [cntS, sps]
  omega
theorem anyS_all (l : List UInt8) : anyS l 3 = l.any isSp := by rw [any_count]; rfl
theorem repl_take_le (l : List UInt8) (i : Nat) : (repl (l.take i)).length ≤ 2 * l.length := by
  have h1 := repl_le (l.take i)
  have h2 : (l.take i).length ≤ l.length := by rw [List.length_take]; omega
  omega
theorem repl_room {l : List UInt8} {i : Nat} {c : UInt8} (h : l[i]? = some c) : (repl (l.take i)).length + (one c).length ≤ (repl l).length := by
  have h1 := repl_take_len l (i + 1)
  rw [repl_snoc h, List.length_append] at h1
  omega
end Go.Proofs.YtanhhihechakhaaGreatDoor.ReplP
set_option linter.unusedVariables false
set_option linter.unusedSimpArgs false
namespace Go.Proofs.YtanhhihechakhaaGreatDoor
open Go.RowKit Go.Proofs.YtanhhihechakhaaGreatDoor.E Go.Proofs.YtanhhihechakhaaGreatDoor.ReplP
theorem cntX (s : ByteArray) (c : UInt8) (w : World) : (callFunc 208 #[.string s, .int .u8 (c.toNat : Int)]).run Tryz.prog w = .ok (.value (.int .i64 ((s.data.toList.count c : Nat) : Int))) w := by
  have h1 := Lib.run_countString (P := Tryz.prog) s (c.toNat : Int) w
  have e : (c.toNat : Int).toNat.toUInt8 = c := by simp
  rw [e] at h1
  exact ext_run (e := Extern.BytealgCount.count) Tryz.func208 (by kernel_rfl) (by kernel_rfl) (by kernel_rfl) (by kernel_rfl) h1
set_option maxRecDepth 100000 in
theorem count_c (s : ByteArray) (c : UInt8) (h : Hp) : C0 Tryz.prog 206 [.string s, .string ⟨#[c]⟩] h (.int .i64 ((s.data.toList.count c : Nat) : Int)) := by
  refine enter0 Tryz.func206 rfl rfl rfl (fun w => ?_)
  refine cy_seq ?_
  refine cy_region ?_
  refine sy_assign rfl rfl rfl ?_
  refine sy_nil rfl ?_
  refine ny_next ?_
  refine cy_seq ?_
  refine cy_seq ?_
  refine cy_region ?_
  refine sy_move rfl rfl rfl ?_
  refine sy_len rfl (len_string Tryz.underlying9 _) rfl rfl ?_
  refine sy_cmp rfl rfl rfl rfl rfl ?_
  refine sy_setF (d := 9) rfl rfl rfl ?_
  refine sy_nil rfl ?_
  refine ny_next ?_
  refine cy_condF rfl ?_
  refine cy_skip ?_
  refine ny_next ?_
  refine cy_seq ?_
  refine cy_seq ?_
  refine cy_region ?_
  refine sy_move rfl rfl rfl ?_
  refine sy_len rfl (len_string Tryz.underlying9 _) rfl rfl ?_
  refine sy_cmp rfl rfl rfl rfl rfl ?_
  refine sy_setT (d := 15) rfl rfl rfl ?_
  refine sy_nil rfl ?_
  refine ny_next ?_
  refine cy_condT rfl ?_
  refine cy_seq ?_
  refine cy_region ?_
  refine sy_move rfl rfl rfl ?_
  refine sy_move rfl rfl rfl ?_
  refine sy_idxs (u := c) Tryz.underlying9 rfl rfl (by decide) rfl rfl rfl ?_
  refine sy_exq rfl (fun w hs => cntX s c w) rfl rfl ?_
  refine sy_assign rfl rfl rfl ?_
  refine sy_nil rfl ?_
  refine ny_next ?_
  refine cy_ret ?_
  refine ny_thenR ?_
  refine ny_finR (res1 rfl rfl) (fun w hs => ⟨?_, hs.frm⟩)
  rfl
set_option maxRecDepth 100000 in
theorem bsr_c (x : Nat) (s : ByteArray) (h : Hp) (hR : ReplT h 205 x) (hs : s.size ≤ 140737488355328) : C0 Tryz.prog 204 [.pointer (some ⟨x, 0, none⟩), .string s] h (.string ⟨(repl s.data.toList).toArray⟩) := by
  obtain ⟨rA, rk, A3, k3, hX, hN, hS, h3⟩ := hR
  refine enter0 Tryz.func204 rfl rfl rfl (fun w => ?_)
  refine cy_seq ?_
  refine cy_region ?_
  refine sy_assign rfl rfl rfl ?_
  refine sy_nil rfl ?_
  refine ny_next ?_
  refine cy_seq ?_
  refine cy_region ?_
  refine sy_move rfl rfl rfl ?_
  refine sy_len rfl (len_string Tryz.underlying9 _) rfl rfl ?_
  refine sy_assign rfl rfl rfl ?_
  refine sy_nil rfl ?_
  refine ny_next ?_
  refine cy_seq ?_
  refine cy_region ?_
  refine sy_assign rfl rfl rfl ?_
  refine sy_nil rfl ?_
  refine ny_next ?_
  refine cy_seq ?_
  refine cy_seq ?_
  refine cy_region ?_
  refine sy_move rfl rfl rfl ?_
  refine sy_nilCheck rfl rfl rfl ?_
  refine sy_field fld_205_1 rfl rfl rfl ?_
  refine sy_ldh one_37 rfl (Hp.blk hX 256 _ (rT_last _ _)) rfl rfl ?_
  refine sy_len rfl (len_slice Tryz.underlying37 _ _ _) rfl rfl ?_
  refine sy_muli (z := 24) rfl rfl rfl (by decide) (by decide) rfl rfl ?_
  refine sy_move rfl rfl rfl ?_
  refine sy_len rfl (len_string Tryz.underlying9 _) rfl rfl ?_
  refine sy_cmp rfl rfl rfl rfl rfl ?_
  refine sy_nil rfl ?_
  refine ny_next ?_
  refine cy_cond rfl (fun hc26 => ?_) (fun hc26 => ?_)
  · refine cy_seq ?_
    refine cy_region ?_
    refine sy_move rfl rfl rfl ?_
    refine sy_nilCheck rfl rfl rfl ?_
    refine sy_field fld_205_1 rfl rfl rfl ?_
    refine sy_ldh one_37 rfl (Hp.blk hX 256 _ (rT_last _ _)) rfl rfl ?_
    refine sy_len rfl (len_slice Tryz.underlying37 _ _ _) rfl rfl ?_
    refine sy_move rfl rfl rfl ?_
    refine sy_nil rfl ?_
    refine ny_next ?_
    refine cy_block ?_
    refine cy_loopK (ι := Nat) [0, 1, 30, 31] rfl (fun i => i ≤ 3) (fun i => 3 - i) (fun i => [(5, .int .i64 ((s.size + cntS s.data.toList i : Nat) : Int)), (6, .bool (anyS s.data.toList i)), (32, .int .i64 (i : Int))]) (fun i => h) (fun i => []) 0 [] (Nat.zero_le _) ⟨rfl, rfl, rfl, trivial⟩ rfl rfl ?_
    rintro i hI
    have hcs := cntS_le s.data.toList i
    refine cy_seq ?_
    refine cy_region ?_
    refine sy_cmp rfl rfl rfl rfl rfl ?_
    refine sy_nil rfl ?_
    refine ny_next ?_
    refine cy_seq ?_
    refine cy_cond rfl (fun hc33 => ?_) (fun hc33 => ?_)
    · have hlti : i < 3 := by have := of_decide_eq_true hc33; omega
      refine cy_skip ?_
      refine ny_next ?_
      refine cy_seq ?_
      refine cy_block ?_
      refine cy_seq ?_
      refine cy_region ?_
      refine sy_idxR (fc := (fun c => [Value.string ⟨#[c]⟩])) (es := sps) els_37 rfl rfl h3 rfl (by omega) rfl rfl (fun e34 b34 o34 he34 hA34 hc34 => ?_)
      refine sy_ldh one_9 rfl (hc34 0 _ rfl) rfl rfl ?_
      refine sy_assign rfl rfl rfl ?_
      refine sy_nil rfl ?_
      refine ny_next ?_
      refine cy_seq ?_
      refine cy_region ?_
      refine sy_move rfl rfl rfl ?_
      refine sy_move rfl rfl rfl ?_
      refine sy_call rfl call_206 rfl (count_c s e34 _) rfl rfl ?_
      have hcl := count_len s.data.toList e34
      have hsz : s.data.toList.length = s.size := rfl
      have hsp := sps_sp he34
      have hr2 := rep_len hsp
      refine sy_assign rfl rfl rfl ?_
      refine sy_nil rfl ?_
      refine ny_next ?_
      refine cy_seq ?_
      refine cy_region ?_
      refine sy_move rfl rfl rfl ?_
      refine sy_cmp rfl rfl rfl rfl rfl ?_
      refine sy_nil rfl ?_
      refine ny_next ?_
      refine cy_cond rfl (fun hc40 => ?_) (fun hc40 => ?_)
      · have hne : s.data.toList.count e34 ≠ 0 := by intro h9; rw [h9] at hc40; simp at hc40
        refine cy_seq ?_
        refine cy_regionQ mixed (by kernel_rfl) ?_
        refine sy_move rfl rfl rfl ?_
        refine sy_move rfl rfl rfl ?_
        refine sy_move rfl rfl rfl ?_
        refine sy_move rfl rfl rfl ?_
        refine sy_idxs (u := e34) Tryz.underlying9 rfl rfl (by decide) rfl rfl rfl ?_
        refine sy_nilCheck rfl rfl rfl ?_
        refine sy_field fld_205_0 rfl rfl rfl ?_
        refine sy_idxU (u := e34) arr_203 rfl rfl (by have := e34.toNat_lt; omega) rfl rfl ?_
        refine sy_ldh one_40 rfl (Hp.blk0 hX e34.toNat (rT_get _ _ e34)) rfl rfl ?_
        refine sy_len rfl (len_slice Tryz.underlying40 _ _ _) rfl rfl ?_
        refine sy_subi (z := 1) rfl rfl (by omega) (by omega) (by omega) rfl rfl ?_
        refine sy_muli (z := ((s.data.toList.count e34 : Nat) : Int)) rfl rfl (by omega) (by omega) (by omega) rfl rfl ?_
        refine sy_addi (z := ((s.size + cntS s.data.toList i + s.data.toList.count e34 : Nat) : Int)) rfl rfl (by omega) (by omega) (by omega) rfl rfl ?_
        refine sy_assign rfl rfl rfl ?_
        refine sy_nil rfl ?_
        refine ny_next ?_
        refine cy_region ?_
        refine sy_assign rfl rfl rfl ?_
        refine sy_nil rfl ?_
        refine ny_blockN ?_
        refine ny_next ?_
        refine cy_region ?_
        refine sy_addi (z := ((i + 1 : Nat) : Int)) rfl rfl (by omega) (by omega) (by omega) rfl rfl ?_
        refine sy_move rfl rfl rfl ?_
        refine sy_nil rfl ?_
        refine ny_roundK [0, 1, 30, 31] (i + 1) [] (show i + 1 ≤ 3 by omega) (show 3 - (i + 1) < 3 - i by omega) rfl ⟨congrArg (fun z : Nat => some (Value.int .i64 (z : Int))) (by rw [cntS_succ he34]; omega), congrArg (fun b => some (Value.bool b)) (by rw [anyS_succ he34, decide_eq_true hne, Bool.or_true]), rfl, trivial⟩ rfl rfl
      · have heq : s.data.toList.count e34 = 0 := by simpa using hc40
        refine cy_skip ?_
        refine ny_blockN ?_
        refine ny_next ?_
        refine cy_region ?_
        refine sy_addi (z := ((i + 1 : Nat) : Int)) rfl rfl (by omega) (by omega) (by omega) rfl rfl ?_
        refine sy_move rfl rfl rfl ?_
        refine sy_nil rfl ?_
        refine ny_roundK [0, 1, 30, 31] (i + 1) [] (show i + 1 ≤ 3 by omega) (show 3 - (i + 1) < 3 - i by omega) rfl ⟨congrArg (fun z : Nat => some (Value.int .i64 (z : Int))) (by rw [cntS_succ he34, heq]; rfl), congrArg (fun b => some (Value.bool b)) (by rw [anyS_succ he34, heq]; simp), rfl, trivial⟩ rfl rfl
    · have hie : i = 3 := by have := of_decide_eq_false hc33; omega
      subst hie
      rw [show s.size + cntS s.data.toList 3 = (repl s.data.toList).length from cntS_all s.data.toList, anyS_all]
      refine cy_exit ?_
      refine ny_thenE ?_
      refine ny_thenE ?_
      refine ny_blockX ?_
      refine ny_next ?_
      refine cy_seq ?_
      refine cy_seq ?_
      refine cy_region ?_
      refine sy_move rfl rfl rfl ?_
      refine sy_not rfl rfl rfl ?_
      refine sy_nil rfl ?_
      refine ny_next ?_
      refine cy_cond rfl (fun hc82 => ?_) (fun hc82 => ?_)
      · refine cy_seq ?_
        refine cy_region ?_
        refine sy_move rfl rfl rfl ?_
        refine sy_assign rfl rfl rfl ?_
        refine sy_nil rfl ?_
        refine ny_next ?_
        refine cy_ret ?_
        refine ny_thenR ?_
        refine ny_finR (res1 rfl rfl) (fun w hs2 => ⟨?_, hs2.frm⟩)
        have hno : s.data.toList.any isSp = false := by simpa using hc82
        rw [repl_no hno, ba_eta]
      · refine cy_skip ?_
        refine ny_next ?_
        refine cy_seq ?_
        have hN2 := repl_le s.data.toList
        have hsz : s.data.toList.length = s.size := rfl
        refine cy_region ?_
        refine sy_move rfl rfl rfl ?_
        refine sy_makeB row_40 zer_5 rfl rfl (by omega) rfl rfl (fun b85 hb85 hM85 => ?_) (by simp)
        refine sy_assign rfl rfl rfl ?_
        refine sy_nil rfl ?_
        refine ny_next ?_
        refine cy_seq ?_
        refine cy_region ?_
        refine sy_assign rfl rfl rfl ?_
        refine sy_nil rfl ?_
        refine ny_next ?_
        refine cy_seq ?_
        refine cy_seq ?_
        refine cy_region ?_
        refine sy_assign rfl rfl rfl ?_
        refine sy_nil rfl ?_
        refine ny_next ?_
        refine cy_block ?_
        refine cy_loopK (ι := Nat) [0, 1, 12] rfl (fun i => i ≤ s.size) (fun i => s.size - i) (fun i => [(13, .int .i64 (((repl (s.data.toList.take i)).length : Nat) : Int)), (14, .int .i64 (i : Int))]) (fun i => h) (fun i => [.blk b85 (.cells ((repl (s.data.toList.take i)).map bv ++ List.replicate ((repl s.data.toList).length - (repl (s.data.toList.take i)).length) (Value.int .u8 0)).toArray 5 (0, 0))]) 0 [0] (Nat.zero_le _) ⟨rfl, rfl, trivial⟩ rfl rfl ?_
        rintro i hI
        have hrt := repl_take_le s.data.toList i
        refine cy_seq ?_
        refine cy_seq ?_
        refine cy_region ?_
        refine sy_move rfl rfl rfl ?_
        refine sy_move rfl rfl rfl ?_
        refine sy_len rfl (len_string Tryz.underlying9 _) rfl rfl ?_
        refine sy_cmp rfl rfl rfl rfl rfl ?_
        refine sy_nil rfl ?_
        refine ny_next ?_
        refine cy_cond rfl (fun hc89 => ?_) (fun hc89 => ?_)
        · have hlti : i < s.size := by have := of_decide_eq_true hc89; omega
          obtain ⟨e0, he0⟩ : ∃ e0, s.data.toList[i]? = some e0 := ⟨_, List.getElem?_eq_getElem (by show i < s.size; omega)⟩
          have hroom := repl_room he0
          refine cy_skip ?_
          refine ny_next ?_
          refine cy_seq ?_
          refine cy_block ?_
          refine cy_seq ?_
          refine cy_region ?_
          refine sy_move rfl rfl rfl ?_
          refine sy_move rfl rfl rfl ?_
          refine sy_idxs (u := e0) Tryz.underlying9 rfl rfl (by omega) (ba_at he0) rfl rfl ?_
          refine sy_assign rfl rfl rfl ?_
          refine sy_nil rfl ?_
          refine ny_next ?_
          refine cy_seq ?_
          refine cy_region ?_
          refine sy_move rfl rfl rfl ?_
          refine sy_move rfl rfl rfl ?_
          refine sy_nilCheck rfl rfl rfl ?_
          refine sy_field fld_205_0 rfl rfl rfl ?_
          refine sy_idxU (u := e0) arr_203 rfl rfl (by have := e0.toNat_lt; omega) rfl rfl ?_
          refine sy_ldh one_40 rfl (Hp.blk0 hX e0.toNat (rT_get _ _ e0)) rfl rfl ?_
          refine sy_eqsl (b := isSp e0) Tryz.underlying40 rfl (by simp [hN]) rfl rfl ?_
          refine sy_nil rfl ?_
          refine ny_next ?_
          refine cy_cond rfl (fun hc101 => ?_) (fun hc101 => ?_)
          · have hr2 := rep_len hc101
            rw [one_sp hc101, hr2] at hroom
            have hrr := hS e0 hc101
            refine cy_regionA mixed ?_
            refine zy_q 0 rfl (by kernel_rfl) (fun hB28_0 => ?_)
            refine sy_move rfl rfl rfl ?_
            refine sy_nil1 (ny_zq hB28_0 ?_)
            refine zy_q 1 rfl (by kernel_rfl) (fun hB28_1 => ?_)
            refine sy_move rfl rfl rfl ?_
            refine sy_nil1 (ny_zq hB28_1 ?_)
            refine zy_q 2 rfl (by kernel_rfl) (fun hB28_2 => ?_)
            refine sy_move rfl rfl rfl ?_
            refine sy_nil1 (ny_zq hB28_2 ?_)
            refine zy_q 3 rfl (by kernel_rfl) (fun hB28_3 => ?_)
            refine sy_cutB els_40 rfl rfl (by omega) (by omega) rfl rfl ?_
            refine sy_nil1 (ny_zq hB28_3 ?_)
            refine zy_q 4 rfl (by kernel_rfl) (fun hB28_4 => ?_)
            refine sy_move rfl rfl rfl ?_
            refine sy_nil1 (ny_zq hB28_4 ?_)
            refine zy_q 5 rfl (by kernel_rfl) (fun hB28_5 => ?_)
            refine sy_move rfl rfl rfl ?_
            refine sy_nil1 (ny_zq hB28_5 ?_)
            refine zy_q 6 rfl (by kernel_rfl) (fun hB28_6 => ?_)
            refine sy_nilCheck rfl rfl rfl ?_
            refine sy_nil1 (ny_zq hB28_6 ?_)
            refine zy_q 7 rfl (by kernel_rfl) (fun hB28_7 => ?_)
            refine sy_field fld_205_0 rfl rfl rfl ?_
            refine sy_nil1 (ny_zq hB28_7 ?_)
            refine zy_q 8 rfl (by kernel_rfl) (fun hB28_8 => ?_)
            refine sy_idxU (u := e0) arr_203 rfl rfl (by have := e0.toNat_lt; omega) rfl rfl ?_
            refine sy_nil1 (ny_zq hB28_8 ?_)
            refine zy_q 9 rfl (by kernel_rfl) (fun hB28_9 => ?_)
            refine sy_ldh one_40 rfl (Hp.blk0 hX e0.toNat (rT_get _ _ e0)) rfl rfl ?_
            refine sy_nil1 (ny_zq hB28_9 ?_)
            refine zy_1 10 (by kernel_rfl) ?_
            refine zop_run rfl rfl (fun hB28_10 => ?_)
            refine sy_copy (news := (rep e0).map bv) 0 row_40 rfl rfl rfl (by simp) (by omega) (by omega) (by have h9 := hrr.cells (by decide) (byteC_len _); rw [byteC_flat] at h9; exact h9) (fun u hu => by obtain ⟨x9, _, rfl⟩ := List.mem_map.1 hu; rfl) (by rw [List.length_append, List.length_map, List.length_replicate]; omega) (st_bytes (by omega)) rfl rfl ?_
            refine sy_nil rfl (ny_zy hB28_10 (Hp.Le.refl _) ?_)
            refine zy_q 11 rfl (by kernel_rfl) (fun hB28_11 => ?_)
            refine sy_addi (z := (((repl (s.data.toList.take i)).length + 2 : Nat) : Int)) rfl rfl (by omega) (by omega) (by omega) rfl rfl ?_
            refine sy_nil1 (ny_zq hB28_11 ?_)
            refine zy_q 12 rfl (by kernel_rfl) (fun hB28_12 => ?_)
            refine sy_assign rfl rfl rfl ?_
            refine sy_nil1 (ny_zq hB28_12 ?_)
            refine zy_done (by kernel_rfl) ?_
            refine ny_blockN ?_
            refine ny_next ?_
            refine cy_region ?_
            refine sy_move rfl rfl rfl ?_
            refine sy_addi (z := ((i + 1 : Nat) : Int)) rfl rfl (by omega) (by omega) (by omega) rfl rfl ?_
            refine sy_assign rfl rfl rfl ?_
            refine sy_nil rfl ?_
            refine ny_roundK [0, 1, 12] (i + 1) [0] (show i + 1 ≤ s.size by omega) (show s.size - (i + 1) < s.size - i by omega) rfl ⟨congrArg (fun z : Nat => some (Value.int .i64 (z : Int))) (by rw [repl_snoc he0, List.length_append, one_sp hc101, hr2]), rfl, trivial⟩ rfl (by rw [repl_snoc he0, one_sp hc101]; rfl)
          · rw [one_no hc101] at hroom
            simp only [List.length_cons, List.length_nil] at hroom
            refine cy_seq ?_
            refine cy_region ?_
            refine sy_move rfl rfl rfl ?_
            refine sy_move rfl rfl rfl ?_
            refine sy_move rfl rfl rfl ?_
            refine sy_idxB els_40 rfl rfl (by omega) rfl rfl ?_
            refine sy_st (vs := [bv e0]) 0 rfl rfl rfl rfl (fun w => sz_spec sz_5 w) rfl (by simp; omega) (st_byte (by omega)) rfl ?_
            refine sy_nil rfl ?_
            refine ny_next ?_
            refine cy_region ?_
            refine sy_move rfl rfl rfl ?_
            refine sy_addi (z := (((repl (s.data.toList.take i)).length + 1 : Nat) : Int)) rfl rfl (by omega) (by omega) (by omega) rfl rfl ?_
            refine sy_assign rfl rfl rfl ?_
            refine sy_nil rfl ?_
            refine ny_blockN ?_
            refine ny_next ?_
            refine cy_region ?_
            refine sy_move rfl rfl rfl ?_
            refine sy_addi (z := ((i + 1 : Nat) : Int)) rfl rfl (by omega) (by omega) (by omega) rfl rfl ?_
            refine sy_assign rfl rfl rfl ?_
            refine sy_nil rfl ?_
            refine ny_roundK [0, 1, 12] (i + 1) [0] (show i + 1 ≤ s.size by omega) (show s.size - (i + 1) < s.size - i by omega) rfl ⟨congrArg (fun z : Nat => some (Value.int .i64 (z : Int))) (by rw [repl_snoc he0, List.length_append, one_no hc101]; rfl), rfl, trivial⟩ rfl (by rw [repl_snoc he0, one_no hc101]; rfl)
        · have hie : i = s.size := by have := of_decide_eq_false hc89; omega
          subst hie
          have htk : s.data.toList.take s.size = s.data.toList := List.take_of_length_le (Nat.le_refl _)
          rw [htk, Nat.sub_self, List.replicate_zero, List.append_nil]
          refine cy_exit ?_
          refine ny_thenE ?_
          refine ny_thenE ?_
          refine ny_blockX ?_
          refine ny_next ?_
          refine cy_seq ?_
          refine cy_region ?_
          refine sy_move rfl rfl rfl ?_
          refine sy_bytesr 0 Tryz.underlying40 Tryz.underlying5 Tryz.underlying9 rfl rfl rfl rfl rfl rfl ?_
          refine sy_assign rfl rfl rfl ?_
          refine sy_nil rfl ?_
          refine ny_next ?_
          refine cy_ret ?_
          refine ny_finR (res1 rfl rfl) (fun w hs2 => ⟨?_, hs2.frm⟩)
          rfl
  · refine cy_seq ?_
    refine cy_region ?_
    refine sy_assign rfl rfl rfl ?_
    refine sy_nil rfl ?_
    refine ny_next ?_
    refine cy_block ?_
    refine cy_loopK (ι := Nat) [0, 1] rfl (fun i => i ≤ s.size) (fun i => s.size - i) (fun i => [(5, .int .i64 (((repl (s.data.toList.take i)).length + (s.size - i) : Nat) : Int)), (6, .bool ((s.data.toList.take i).any isSp)), (10, .int .i64 (i : Int))]) (fun i => h) (fun i => []) 0 [] (Nat.zero_le _) ⟨congrArg (fun z : Nat => some (Value.int .i64 (z : Int))) (by simp [repl]), rfl, rfl, trivial⟩ rfl rfl ?_
    rintro i hI
    have hrt := repl_take_le s.data.toList i
    have hsz : s.data.toList.length = s.size := rfl
    refine cy_seq ?_
    refine cy_seq ?_
    refine cy_region ?_
    refine sy_move rfl rfl rfl ?_
    refine sy_move rfl rfl rfl ?_
    refine sy_len rfl (len_string Tryz.underlying9 _) rfl rfl ?_
    refine sy_cmp rfl rfl rfl rfl rfl ?_
    refine sy_nil rfl ?_
    refine ny_next ?_
    refine cy_cond rfl (fun hc58 => ?_) (fun hc58 => ?_)
    · have hlti : i < s.size := by have := of_decide_eq_true hc58; omega
      obtain ⟨e0, he0⟩ : ∃ e0, s.data.toList[i]? = some e0 := ⟨_, List.getElem?_eq_getElem (by show i < s.size; omega)⟩
      refine cy_skip ?_
      refine ny_next ?_
      refine cy_seq ?_
      refine cy_block ?_
      refine cy_seq ?_
      refine cy_region ?_
      refine sy_move rfl rfl rfl ?_
      refine sy_move rfl rfl rfl ?_
      refine sy_idxs (u := e0) Tryz.underlying9 rfl rfl (by omega) (ba_at he0) rfl rfl ?_
      refine sy_assign rfl rfl rfl ?_
      refine sy_nil rfl ?_
      refine ny_next ?_
      refine cy_seq ?_
      refine cy_region ?_
      refine sy_move rfl rfl rfl ?_
      refine sy_move rfl rfl rfl ?_
      refine sy_nilCheck rfl rfl rfl ?_
      refine sy_field fld_205_0 rfl rfl rfl ?_
      refine sy_idxU (u := e0) arr_203 rfl rfl (by have := e0.toNat_lt; omega) rfl rfl ?_
      refine sy_ldh one_40 rfl (Hp.blk0 hX e0.toNat (rT_get _ _ e0)) rfl rfl ?_
      refine sy_eqsl (b := isSp e0) Tryz.underlying40 rfl (by simp [hN]) rfl rfl ?_
      refine sy_nil rfl ?_
      refine ny_next ?_
      refine cy_cond rfl (fun hc70 => ?_) (fun hc70 => ?_)
      · have hr2 := rep_len hc70
        refine cy_seq ?_
        refine cy_region ?_
        refine sy_move rfl rfl rfl ?_
        refine sy_move rfl rfl rfl ?_
        refine sy_move rfl rfl rfl ?_
        refine sy_nilCheck rfl rfl rfl ?_
        refine sy_field fld_205_0 rfl rfl rfl ?_
        refine sy_idxU (u := e0) arr_203 rfl rfl (by have := e0.toNat_lt; omega) rfl rfl ?_
        refine sy_ldh one_40 rfl (Hp.blk0 hX e0.toNat (rT_get _ _ e0)) rfl rfl ?_
        refine sy_len rfl (len_slice Tryz.underlying40 _ _ _) rfl rfl ?_
        refine sy_subi (z := 1) rfl rfl (by omega) (by omega) (by omega) rfl rfl ?_
        refine sy_addi (z := (((repl (s.data.toList.take i)).length + (s.size - i) + 1 : Nat) : Int)) rfl rfl (by omega) (by omega) (by omega) rfl rfl ?_
        refine sy_assign rfl rfl rfl ?_
        refine sy_nil rfl ?_
        refine ny_next ?_
        refine cy_region ?_
        refine sy_assign rfl rfl rfl ?_
        refine sy_nil rfl ?_
        refine ny_blockN ?_
        refine ny_next ?_
        refine cy_region ?_
        refine sy_move rfl rfl rfl ?_
        refine sy_addi (z := ((i + 1 : Nat) : Int)) rfl rfl (by omega) (by omega) (by omega) rfl rfl ?_
        refine sy_assign rfl rfl rfl ?_
        refine sy_nil rfl ?_
        refine ny_roundK [0, 1] (i + 1) [] (show i + 1 ≤ s.size by omega) (show s.size - (i + 1) < s.size - i by omega) rfl ⟨congrArg (fun z : Nat => some (Value.int .i64 (z : Int))) (by rw [repl_snoc he0, List.length_append, one_sp hc70, hr2]; omega), congrArg (fun b => some (Value.bool b)) (by rw [any_snoc he0, hc70, Bool.or_true]), rfl, trivial⟩ rfl rfl
      · refine cy_skip ?_
        refine ny_blockN ?_
        refine ny_next ?_
        refine cy_region ?_
        refine sy_move rfl rfl rfl ?_
        refine sy_addi (z := ((i + 1 : Nat) : Int)) rfl rfl (by omega) (by omega) (by omega) rfl rfl ?_
        refine sy_assign rfl rfl rfl ?_
        refine sy_nil rfl ?_
        refine ny_roundK [0, 1] (i + 1) [] (show i + 1 ≤ s.size by omega) (show s.size - (i + 1) < s.size - i by omega) rfl ⟨congrArg (fun z : Nat => some (Value.int .i64 (z : Int))) (by rw [repl_snoc he0, List.length_append, one_no hc70]; simp; omega), congrArg (fun b => some (Value.bool b)) (by rw [any_snoc he0, hc70, Bool.or_false]), rfl, trivial⟩ rfl rfl
    · have hie : i = s.size := by have := of_decide_eq_false hc58; omega
      subst hie
      have htk : s.data.toList.take s.size = s.data.toList := List.take_of_length_le (Nat.le_refl _)
      rw [htk, Nat.sub_self, Nat.add_zero]
      refine cy_exit ?_
      refine ny_thenE ?_
      refine ny_thenE ?_
      refine ny_blockX ?_
      refine ny_next ?_
      refine cy_seq ?_
      refine cy_seq ?_
      refine cy_region ?_
      refine sy_move rfl rfl rfl ?_
      refine sy_not rfl rfl rfl ?_
      refine sy_nil rfl ?_
      refine ny_next ?_
      refine cy_cond rfl (fun hc82 => ?_) (fun hc82 => ?_)
      · refine cy_seq ?_
        refine cy_region ?_
        refine sy_move rfl rfl rfl ?_
        refine sy_assign rfl rfl rfl ?_
        refine sy_nil rfl ?_
        refine ny_next ?_
        refine cy_ret ?_
        refine ny_thenR ?_
        refine ny_finR (res1 rfl rfl) (fun w hs2 => ⟨?_, hs2.frm⟩)
        have hno : s.data.toList.any isSp = false := by simpa using hc82
        rw [repl_no hno, ba_eta]
      · refine cy_skip ?_
        refine ny_next ?_
        refine cy_seq ?_
        have hN2 := repl_le s.data.toList
        have hsz : s.data.toList.length = s.size := rfl
        refine cy_region ?_
        refine sy_move rfl rfl rfl ?_
        refine sy_makeB row_40 zer_5 rfl rfl (by omega) rfl rfl (fun b85 hb85 hM85 => ?_) (by simp)
        refine sy_assign rfl rfl rfl ?_
        refine sy_nil rfl ?_
        refine ny_next ?_
        refine cy_seq ?_
        refine cy_region ?_
        refine sy_assign rfl rfl rfl ?_
        refine sy_nil rfl ?_
        refine ny_next ?_
        refine cy_seq ?_
        refine cy_seq ?_
        refine cy_region ?_
        refine sy_assign rfl rfl rfl ?_
        refine sy_nil rfl ?_
        refine ny_next ?_
        refine cy_block ?_
        refine cy_loopK (ι := Nat) [0, 1, 12] rfl (fun i => i ≤ s.size) (fun i => s.size - i) (fun i => [(13, .int .i64 (((repl (s.data.toList.take i)).length : Nat) : Int)), (14, .int .i64 (i : Int))]) (fun i => h) (fun i => [.blk b85 (.cells ((repl (s.data.toList.take i)).map bv ++ List.replicate ((repl s.data.toList).length - (repl (s.data.toList.take i)).length) (Value.int .u8 0)).toArray 5 (0, 0))]) 0 [0] (Nat.zero_le _) ⟨rfl, rfl, trivial⟩ rfl rfl ?_
        rintro i hI
        have hrt := repl_take_le s.data.toList i
        refine cy_seq ?_
        refine cy_seq ?_
        refine cy_region ?_
        refine sy_move rfl rfl rfl ?_
        refine sy_move rfl rfl rfl ?_
        refine sy_len rfl (len_string Tryz.underlying9 _) rfl rfl ?_
        refine sy_cmp rfl rfl rfl rfl rfl ?_
        refine sy_nil rfl ?_
        refine ny_next ?_
        refine cy_cond rfl (fun hc89 => ?_) (fun hc89 => ?_)
        · have hlti : i < s.size := by have := of_decide_eq_true hc89; omega
          obtain ⟨e0, he0⟩ : ∃ e0, s.data.toList[i]? = some e0 := ⟨_, List.getElem?_eq_getElem (by show i < s.size; omega)⟩
          have hroom := repl_room he0
          refine cy_skip ?_
          refine ny_next ?_
          refine cy_seq ?_
          refine cy_block ?_
          refine cy_seq ?_
          refine cy_region ?_
          refine sy_move rfl rfl rfl ?_
          refine sy_move rfl rfl rfl ?_
          refine sy_idxs (u := e0) Tryz.underlying9 rfl rfl (by omega) (ba_at he0) rfl rfl ?_
          refine sy_assign rfl rfl rfl ?_
          refine sy_nil rfl ?_
          refine ny_next ?_
          refine cy_seq ?_
          refine cy_region ?_
          refine sy_move rfl rfl rfl ?_
          refine sy_move rfl rfl rfl ?_
          refine sy_nilCheck rfl rfl rfl ?_
          refine sy_field fld_205_0 rfl rfl rfl ?_
          refine sy_idxU (u := e0) arr_203 rfl rfl (by have := e0.toNat_lt; omega) rfl rfl ?_
          refine sy_ldh one_40 rfl (Hp.blk0 hX e0.toNat (rT_get _ _ e0)) rfl rfl ?_
          refine sy_eqsl (b := isSp e0) Tryz.underlying40 rfl (by simp [hN]) rfl rfl ?_
          refine sy_nil rfl ?_
          refine ny_next ?_
          refine cy_cond rfl (fun hc101 => ?_) (fun hc101 => ?_)
          · have hr2 := rep_len hc101
            rw [one_sp hc101, hr2] at hroom
            have hrr := hS e0 hc101
            refine cy_regionA mixed ?_
            refine zy_q 0 rfl (by kernel_rfl) (fun hB28_0 => ?_)
            refine sy_move rfl rfl rfl ?_
            refine sy_nil1 (ny_zq hB28_0 ?_)
            refine zy_q 1 rfl (by kernel_rfl) (fun hB28_1 => ?_)
            refine sy_move rfl rfl rfl ?_
            refine sy_nil1 (ny_zq hB28_1 ?_)
            refine zy_q 2 rfl (by kernel_rfl) (fun hB28_2 => ?_)
            refine sy_move rfl rfl rfl ?_
            refine sy_nil1 (ny_zq hB28_2 ?_)
            refine zy_q 3 rfl (by kernel_rfl) (fun hB28_3 => ?_)
            refine sy_cutB els_40 rfl rfl (by omega) (by omega) rfl rfl ?_
            refine sy_nil1 (ny_zq hB28_3 ?_)
            refine zy_q 4 rfl (by kernel_rfl) (fun hB28_4 => ?_)
            refine sy_move rfl rfl rfl ?_
            refine sy_nil1 (ny_zq hB28_4 ?_)
            refine zy_q 5 rfl (by kernel_rfl) (fun hB28_5 => ?_)
            refine sy_move rfl rfl rfl ?_
            refine sy_nil1 (ny_zq hB28_5 ?_)
            refine zy_q 6 rfl (by kernel_rfl) (fun hB28_6 => ?_)
            refine sy_nilCheck rfl rfl rfl ?_
            refine sy_nil1 (ny_zq hB28_6 ?_)
            refine zy_q 7 rfl (by kernel_rfl) (fun hB28_7 => ?_)
            refine sy_field fld_205_0 rfl rfl rfl ?_
            refine sy_nil1 (ny_zq hB28_7 ?_)
            refine zy_q 8 rfl (by kernel_rfl) (fun hB28_8 => ?_)
            refine sy_idxU (u := e0) arr_203 rfl rfl (by have := e0.toNat_lt; omega) rfl rfl ?_
            refine sy_nil1 (ny_zq hB28_8 ?_)
            refine zy_q 9 rfl (by kernel_rfl) (fun hB28_9 => ?_)
            refine sy_ldh one_40 rfl (Hp.blk0 hX e0.toNat (rT_get _ _ e0)) rfl rfl ?_
            refine sy_nil1 (ny_zq hB28_9 ?_)
            refine zy_1 10 (by kernel_rfl) ?_
            refine zop_run rfl rfl (fun hB28_10 => ?_)
            refine sy_copy (news := (rep e0).map bv) 0 row_40 rfl rfl rfl (by simp) (by omega) (by omega) (by have h9 := hrr.cells (by decide) (byteC_len _); rw [byteC_flat] at h9; exact h9) (fun u hu => by obtain ⟨x9, _, rfl⟩ := List.mem_map.1 hu; rfl) (by rw [List.length_append, List.length_map, List.length_replicate]; omega) (st_bytes (by omega)) rfl rfl ?_
            refine sy_nil rfl (ny_zy hB28_10 (Hp.Le.refl _) ?_)
            refine zy_q 11 rfl (by kernel_rfl) (fun hB28_11 => ?_)
            refine sy_addi (z := (((repl (s.data.toList.take i)).length + 2 : Nat) : Int)) rfl rfl (by omega) (by omega) (by omega) rfl rfl ?_
            refine sy_nil1 (ny_zq hB28_11 ?_)
            refine zy_q 12 rfl (by kernel_rfl) (fun hB28_12 => ?_)
            refine sy_assign rfl rfl rfl ?_
            refine sy_nil1 (ny_zq hB28_12 ?_)
            refine zy_done (by kernel_rfl) ?_
            refine ny_blockN ?_
            refine ny_next ?_
            refine cy_region ?_
            refine sy_move rfl rfl rfl ?_
            refine sy_addi (z := ((i + 1 : Nat) : Int)) rfl rfl (by omega) (by omega) (by omega) rfl rfl ?_
            refine sy_assign rfl rfl rfl ?_
            refine sy_nil rfl ?_
            refine ny_roundK [0, 1, 12] (i + 1) [0] (show i + 1 ≤ s.size by omega) (show s.size - (i + 1) < s.size - i by omega) rfl ⟨congrArg (fun z : Nat => some (Value.int .i64 (z : Int))) (by rw [repl_snoc he0, List.length_append, one_sp hc101, hr2]), rfl, trivial⟩ rfl (by rw [repl_snoc he0, one_sp hc101]; rfl)
          · rw [one_no hc101] at hroom
            simp only [List.length_cons, List.length_nil] at hroom
            refine cy_seq ?_
            refine cy_region ?_
            refine sy_move rfl rfl rfl ?_
            refine sy_move rfl rfl rfl ?_
            refine sy_move rfl rfl rfl ?_
            refine sy_idxB els_40 rfl rfl (by omega) rfl rfl ?_
            refine sy_st (vs := [bv e0]) 0 rfl rfl rfl rfl (fun w => sz_spec sz_5 w) rfl (by simp; omega) (st_byte (by omega)) rfl ?_
            refine sy_nil rfl ?_
            refine ny_next ?_
            refine cy_region ?_
            refine sy_move rfl rfl rfl ?_
            refine sy_addi (z := (((repl (s.data.toList.take i)).length + 1 : Nat) : Int)) rfl rfl (by omega) (by omega) (by omega) rfl rfl ?_
            refine sy_assign rfl rfl rfl ?_
            refine sy_nil rfl ?_
            refine ny_blockN ?_
            refine ny_next ?_
            refine cy_region ?_
            refine sy_move rfl rfl rfl ?_
            refine sy_addi (z := ((i + 1 : Nat) : Int)) rfl rfl (by omega) (by omega) (by omega) rfl rfl ?_
            refine sy_assign rfl rfl rfl ?_
            refine sy_nil rfl ?_
            refine ny_roundK [0, 1, 12] (i + 1) [0] (show i + 1 ≤ s.size by omega) (show s.size - (i + 1) < s.size - i by omega) rfl ⟨congrArg (fun z : Nat => some (Value.int .i64 (z : Int))) (by rw [repl_snoc he0, List.length_append, one_no hc101]; rfl), rfl, trivial⟩ rfl (by rw [repl_snoc he0, one_no hc101]; rfl)
        · have hie : i = s.size := by have := of_decide_eq_false hc89; omega
          subst hie
          have htk : s.data.toList.take s.size = s.data.toList := List.take_of_length_le (Nat.le_refl _)
          rw [htk, Nat.sub_self, List.replicate_zero, List.append_nil]
          refine cy_exit ?_
          refine ny_thenE ?_
          refine ny_thenE ?_
          refine ny_blockX ?_
          refine ny_next ?_
          refine cy_seq ?_
          refine cy_region ?_
          refine sy_move rfl rfl rfl ?_
          refine sy_bytesr 0 Tryz.underlying40 Tryz.underlying5 Tryz.underlying9 rfl rfl rfl rfl rfl rfl ?_
          refine sy_assign rfl rfl rfl ?_
          refine sy_nil rfl ?_
          refine ny_next ?_
          refine cy_ret ?_
          refine ny_finR (res1 rfl rfl) (fun w hs2 => ⟨?_, hs2.frm⟩)
          rfl
theorem metR (x : Nat) (s : ByteArray) (w : World) : (callMethod (.iface 206 (.pointer (some ⟨x, 0, none⟩))) "Replace" #[.string s]).run Tryz.prog w = .ok (.enter 204 #[.pointer (some ⟨x, 0, none⟩), .string s]) w := by kernel_rfl
set_option maxRecDepth 100000 in
theorem replace_c (b : Nat) (s : ByteArray) (h : Hp) (hs : s.size ≤ 140737488355328) (A : Option Addr) (cO : Nat) (hO : RowsAt h A 1 (olds.map fun s => [Value.string s])) : CXM Tryz.prog 91 [.pointer (some ⟨b, 0, none⟩), .string s] h b (.cells [.int .u32 0, .int .i32 0, .int .u32 0, .nilIface, .slice A 6 cO].toArray 165 (0, 0)) (fun _ : Unit => .string ⟨(repl s.data.toList).toArray⟩) (fun _ _ _ => True) := by
  refine enterXM Tryz.func91 rfl rfl rfl (fun w hb0 => ?_)
  refine cy_seq ?_
  refine cy_region ?_
  refine sy_assign rfl rfl rfl ?_
  refine sy_nil rfl ?_
  refine ny_next ?_
  refine cy_seq ?_
  refine cy_region ?_
  refine sy_move rfl rfl rfl ?_
  refine sy_nilCheck rfl rfl rfl ?_
  refine sy_field fld_165_0 rfl rfl rfl ?_
  refine sy_move rfl rfl rfl ?_
  refine sy_bind (s := 0) rfl rfl rfl rfl ?_
  refine sy_callxm 0 call_108 rfl rfl (do_c b h (.int .u32 0) A cO hO) rfl rfl (fun x10 h10 o10 hx10 hle10 => ?_)
  obtain ⟨rfl, hR10⟩ := hx10
  refine sy_nil rfl ?_
  refine ny_next ?_
  refine cy_seq ?_
  refine cy_region ?_
  refine sy_move rfl rfl rfl ?_
  refine sy_nilCheck rfl rfl rfl ?_
  refine sy_field fld_165_1 rfl rfl rfl ?_
  first | refine sy_ldr 0 one_163 rfl rfl rfl rfl rfl ?_ | refine sy_ldr 1 one_163 rfl rfl rfl rfl rfl ?_
  refine sy_move rfl rfl rfl ?_
  refine sy_invoke rfl rfl rfl (fun w => metR x10 s w) (bsr_c x10 s _ hR10 hs) rfl rfl ?_
  refine sy_assign rfl rfl rfl ?_
  refine sy_nil rfl ?_
  refine ny_next ?_
  refine cy_ret ?_
  exact ny_finR (res1 rfl rfl) (fun w hs2 => ⟨(), h10, _, rfl, trivial, hs2.toTurn⟩)
def quoteB (s : ByteArray) (p : Bool) : ByteArray := if p = true then s else ⟨#[39]⟩ ++ ⟨(repl s.data.toList).toArray⟩ ++ ⟨#[39]⟩
set_option maxRecDepth 100000 in
theorem quote_c (s : ByteArray) (h : Hp) (p : Bool) (hs : s.size ≤ 140737488355328) (hp : ∀ h, C0 Tryz.prog 89 [.string s] h (.bool p)) : C0 Tryz.prog 63 [.string s] h (.string (quoteB s p)) := by
  refine enter0 Tryz.func63 rfl rfl rfl (fun w => ?_)
  refine cy_seq ?_
  refine cy_region ?_
  refine sy_assign rfl rfl rfl ?_
  refine sy_nil rfl ?_
  refine ny_next ?_
  refine cy_seq ?_
  refine cy_seq ?_
  refine cy_region ?_
  refine sy_move rfl rfl rfl ?_
  refine sy_call rfl call_89 rfl (hp _) rfl rfl ?_
  refine sy_nil rfl ?_
  refine ny_next ?_
  refine cy_cond rfl (fun hc4 => ?_) (fun hc4 => ?_)
  · refine cy_seq ?_
    refine cy_region ?_
    refine sy_move rfl rfl rfl ?_
    refine sy_assign rfl rfl rfl ?_
    refine sy_nil rfl ?_
    refine ny_next ?_
    refine cy_ret ?_
    refine ny_thenR ?_
    refine ny_finR (res1 rfl rfl) (fun w hs2 => ⟨?_, hs2.frm⟩)
    rw [hc4]
    rfl
  · refine cy_skip ?_
    refine ny_next ?_
    refine cy_seq ?_
    refine cy_region ?_
    refine sy_buildSlice rfl (fun w => bsl_37_6_0x1x2x3x4x5 w) rfl rfl (fun b6 hb6 hM6 => ?_) (by simp)
    refine sy_frz 0 rfl (by simp) (fun h6 hle6 hb6 => ?_)
    have hO6 : RowsAt h6 (some ⟨b6, 0, none⟩) 1 (olds.map fun s => [Value.string s]) := rows_blk (by decide) (fun c hc => by obtain ⟨x, _, rfl⟩ := List.mem_map.1 hc; rfl) hb6
    refine sy_callxn call_90 rfl (newRepl_c h6 (some ⟨b6, 0, none⟩) 6 hO6) rfl rfl (fun x7 b7 h7 o7 hx7 hle7 hb7 hM7 => ?_) (by simp)
    obtain ⟨A7, c7⟩ := x7
    obtain ⟨rfl, hO7⟩ := hx7
    refine sy_move rfl rfl rfl ?_
    refine sy_callxm 0 call_91 rfl rfl (replace_c b7 s h7 hs A7 c7 hO7) rfl rfl (fun x9 h9 o9 hx9 hle9 => ?_)
    refine sy_cat rfl rfl (by have h1 := repl_le s.data.toList; have h2 : s.data.toList.length = s.size := rfl; have h3 : (⟨(repl s.data.toList).toArray⟩ : ByteArray).size = (repl s.data.toList).length := rfl; have h4 : (⟨#[39]⟩ : ByteArray).size = 1 := rfl; first | omega | (simp only [ByteArray.size_append]; omega)) rfl rfl ?_
    refine sy_cat rfl rfl (by have h1 := repl_le s.data.toList; have h2 : s.data.toList.length = s.size := rfl; have h3 : (⟨(repl s.data.toList).toArray⟩ : ByteArray).size = (repl s.data.toList).length := rfl; have h4 : (⟨#[39]⟩ : ByteArray).size = 1 := rfl; first | omega | (simp only [ByteArray.size_append]; omega)) rfl rfl ?_
    refine sy_assign rfl rfl rfl ?_
    refine sy_nil rfl ?_
    refine ny_next ?_
    refine cy_ret ?_
    refine ny_finR (res1 rfl rfl) (fun w hs2 => ⟨?_, hs2.frm⟩)
    rw [hc4]
    rfl
end Go.Proofs.YtanhhihechakhaaGreatDoor
set_option linter.unusedVariables false
set_option linter.unusedSimpArgs false
namespace Go.Proofs.YtanhhihechakhaaGreatDoor.E
open Go.RowKit
theorem cy_asRow {P : Program} {c : Code} {Q : Exit → Act → World → Prop} {n : Nat} {D : List Deferred} {w0 : World} {M : List Nat} {h0 : Hp} {f : Tab} {h : Hp} {H : List Res} {b e l sz : Nat} {cs : List Value} {H1 : List Res} (i : Nat) (hp : pickR i H = some (.blk b (.cells cs.toArray e (0, 0)), H1)) (hl : cs.length = l * sz) (hm : l ≤ maxLen) (k : Cy P c Q n D w0 M h0 f h (.row (.slice (some ⟨b, 0, none⟩) l l) e sz l cs :: H1)) :
    Cy P c Q n D w0 M h0 f h H := fun a w ha hs => k a w ha ((hs.swap (pickR_perm hp)).asRow hl hm)
end Go.Proofs.YtanhhihechakhaaGreatDoor.E
namespace Go.Proofs.YtanhhihechakhaaGreatDoor.TokP
open Go.RowKit Go.Proofs.YtanhhihechakhaaGreatDoor.E Go.Proofs.YtanhhihechakhaaGreatDoor.ReplP
def smallB (c : UInt8) : Bool := decide ((97 : Int) ≤ (c.toNat : Int)) && decide ((c.toNat : Int) ≤ 122)
def bigB (c : UInt8) : Bool := (decide ((65 : Int) ≤ (c.toNat : Int)) && decide ((c.toNat : Int) ≤ 90)) || ((c.toNat : Int) == 95)
def digitB (c : UInt8) : Bool := decide ((48 : Int) ≤ (c.toNat : Int)) && decide ((c.toNat : Int) ≤ 57)
def letterB (c : UInt8) : Bool := smallB c || bigB c || digitB c
def signL : List UInt8 := [43, 45, 42, 47, 92, 94, 60, 62, 61, 126, 58, 46, 63, 64, 35, 38, 36]
def signB (c : UInt8) : Bool := signL.contains c
def blankB (c : UInt8) : Bool := (((c.toNat : Int) == 9) || ((c.toNat : Int) == 10)) || ((c.toNat : Int) == 13) || ((c.toNat : Int) == 32)
def lineB (c : UInt8) : Bool := !((c.toNat : Int) == 10)
theorem idx_has : ∀ (l : List UInt8) (c : UInt8), decide (0 ≤ Lib.indexByte l c) = l.contains c
  | [], c => rfl
  | b :: l, c => by
    have h1 := idx_has l c
    have h2 := Lib.indexByte_ge l c
    have e : Lib.indexByte (b :: l) c = if (b == c) = true then 0 else if (Lib.indexByte l c == -1) = true then -1 else Lib.indexByte l c + 1 := by rw [Lib.indexByte]
    rw [List.contains_cons, ← h1, e]
    clear e
    by_cases hb : (b == c) = true
    · rw [if_pos hb]
      have : (c == b) = true := beq_iff_eq.2 (beq_iff_eq.1 hb).symm
      rw [this]
      rfl
    · rw [if_neg hb]
      have : (c == b) = false := by
        have hb' : (b == c) = false := by simpa using hb
        rw [beq_eq_false_iff_ne] at hb' ⊢
        exact fun h => hb' h.symm
      rw [this, Bool.false_or]
      by_cases h3 : (Lib.indexByte l c == -1) = true
      · rw [if_pos h3]
        have h4 : Lib.indexByte l c = -1 := by simpa using h3
        rw [h4]
      · rw [if_neg h3]
        have h4 : ¬ Lib.indexByte l c = -1 := by simpa using h3
        exact decide_eq_decide.2 (by omega)
/-! how many bytes of one kind a text begins with -/
def runB (p : UInt8 → Bool) (l : List UInt8) : Nat := (l.takeWhile p).length
theorem runB_le (p : UInt8 → Bool) (l : List UInt8) : runB p l ≤ l.length := (List.takeWhile_prefix p).length_le
theorem runB_nil (p : UInt8 → Bool) : runB p [] = 0 := rfl
theorem runB_yes {p : UInt8 → Bool} {c : UInt8} {l : List UInt8} (h : p c = true) : runB p (c :: l) = runB p l + 1 := by simp [runB, h]
theorem runB_no {p : UInt8 → Bool} {c : UInt8} {l : List UInt8} (h : p c = false) : runB p (c :: l) = 0 := by simp [runB, h]
theorem run_end {p : UInt8 → Bool} : ∀ {l : List UInt8} {i : Nat}, (l.take i).all p = true → l.length ≤ i → runB p l = l.length
  | [], _, _, _ => rfl
  | c :: l, 0, _, hl => by simp at hl
  | c :: l, i + 1, h, hl => by
    rw [List.take_succ_cons, List.all_cons, Bool.and_eq_true] at h
    rw [runB_yes h.1, run_end h.2 (by simpa using hl)]
    rfl
theorem run_at {p : UInt8 → Bool} : ∀ {l : List UInt8} {i : Nat} {e : UInt8}, (l.take i).all p = true → l[i]? = some e → p e = false → runB p l = i
  | [], i, e, _, he, _ => by simp at he
  | c :: l, 0, e, _, he, hp => by
    simp only [List.getElem?_cons_zero, Option.some.injEq] at he
    subst he
    exact runB_no hp
  | c :: l, i + 1, e, h, he, hp => by
    rw [List.take_succ_cons, List.all_cons, Bool.and_eq_true] at h
    rw [runB_yes h.1, run_at h.2 (by simpa using he) hp]
theorem all_snoc {p : UInt8 → Bool} {l : List UInt8} {i : Nat} {x : UInt8} (h : l[i]? = some x) : (l.take (i + 1)).all p = ((l.take i).all p && p x) := by
  rw [List.take_add_one, h, List.all_append]
  simp
theorem has_snoc {l : List UInt8} {i : Nat} {c x : UInt8} (h : l[i]? = some x) (hp : (l.take i).contains c = false) (hx : ¬ x.toNat = c.toNat) : (l.take (i + 1)).contains c = false := by
  rw [List.take_add_one, h, List.contains_eq_mem]
  rw [List.contains_eq_mem] at hp
  have hne : ¬ c = x := fun h9 => hx (by rw [h9])
  simp only [Option.toList_some, List.mem_append, List.mem_singleton, decide_eq_false_iff_not, not_or] at hp ⊢
  exact ⟨hp, hne⟩
theorem has_yes {l : List UInt8} {i : Nat} {c x : UInt8} (h : l[i]? = some x) (hx : x.toNat = c.toNat) : l.contains c = true := by
  have : x = c := UInt8.toNat_inj.1 hx
  subst this
  rw [List.contains_eq_mem, decide_eq_true_iff]
  exact List.mem_of_getElem? h
theorem run_eq_all (p : UInt8 → Bool) : ∀ l : List UInt8, decide (runB p l = l.length) = l.all p
  | [] => rfl
  | c :: l => by
    have ih := run_eq_all p l
    rw [List.all_cons, ← ih]
    cases h : p c with
    | true =>
      rw [runB_yes h, Bool.true_and]
      exact decide_eq_decide.2 (by simp)
    | false =>
      rw [runB_no h, Bool.false_and]
      simp
theorem run_all (p : UInt8 → Bool) (l : List UInt8) : (((runB p l : Nat) : Int) == ((l.length : Nat) : Int)) = l.all p := by
  rw [← run_eq_all, Bool.eq_iff_iff]
  simp
  omega
/-! plain names -/
def firstB (p : UInt8 → Bool) : List UInt8 → Bool
  | [] => false
  | c :: _ => p c
def plainB (l : List UInt8) : Bool := if (l == [] || l == [46]) = true then false else if ((l == [91, 93] || l == [33]) || l == [59]) = true then true else (firstB smallB l && l.all letterB) || l.all signB
theorem plain_end {l : List UInt8} (h1 : (l == []) = false) (h2 : (l == [46]) = false) (h3 : (l == [91, 93]) = false) (h4 : (l == [33]) = false) (h5 : (l == [59]) = false) : plainB l = ((firstB smallB l && l.all letterB) || l.all signB) := by
  unfold plainB
  rw [h1, h2, h3, h4, h5]
  rfl
/-! what is passed over -/
def skipN : List UInt8 → Nat
  | [] => 0
  | c :: l => if c = 37 then (if runB lineB l = l.length then l.length + 1 else runB lineB l + 2 + skipN (l.drop (runB lineB l + 1))) else if blankB c = true then 1 + skipN l else 0
termination_by l => l.length
decreasing_by
  · simp
    omega
  · simp
end Go.Proofs.YtanhhihechakhaaGreatDoor.TokP
set_option linter.unusedVariables false
set_option linter.unusedSimpArgs false
namespace Go.Proofs.YtanhhihechakhaaGreatDoor
open Go.RowKit Go.Proofs.YtanhhihechakhaaGreatDoor.E Go.Proofs.YtanhhihechakhaaGreatDoor.ReplP Go.Proofs.YtanhhihechakhaaGreatDoor.TokP
set_option maxRecDepth 100000 in
theorem small_c (c : UInt8) (h : Hp) : C0 Tryz.prog 68 [.int .u8 (c.toNat : Int)] h (.bool (smallB c)) := by
  refine enter0 Tryz.func68 rfl rfl rfl (fun w => ?_)
  refine cy_seq ?_
  refine cy_region ?_
  refine sy_assign rfl rfl rfl ?_
  refine sy_nil rfl ?_
  refine ny_next ?_
  refine cy_seq ?_
  refine cy_region ?_
  refine sy_move rfl rfl rfl ?_
  refine sy_cmp rfl rfl rfl rfl rfl ?_
  refine sy_move rfl rfl rfl ?_
  refine sy_cond (d := 5) _ rfl rfl (fun hg5 => ?_) (fun hg5 => ?_)
  · refine sy_move rfl rfl rfl ?_
    refine sy_cmp rfl rfl rfl rfl rfl ?_
    refine sy_pickT rfl rfl rfl rfl ?_
    refine sy_assign rfl rfl rfl ?_
    refine sy_nil rfl ?_
    refine ny_next ?_
    refine cy_ret ?_
    refine ny_finR (res1 rfl rfl) (fun w hs => ⟨?_, hs.frm⟩)
    refine congrArg (fun b => Ending.returned (Value.bool b)) ?_
    unfold smallB
    first | rfl | (simp_all; done) | (simp_all; omega)
  · refine sy_skip rfl rfl rfl ?_
    refine sy_skip rfl rfl rfl ?_
    refine sy_pickF rfl rfl rfl rfl ?_
    refine sy_assign rfl rfl rfl ?_
    refine sy_nil rfl ?_
    refine ny_next ?_
    refine cy_ret ?_
    refine ny_finR (res1 rfl rfl) (fun w hs => ⟨?_, hs.frm⟩)
    refine congrArg (fun b => Ending.returned (Value.bool b)) ?_
    unfold smallB
    first | rfl | (simp_all; done) | (simp_all; omega)
set_option maxRecDepth 100000 in
theorem big_c (c : UInt8) (h : Hp) : C0 Tryz.prog 70 [.int .u8 (c.toNat : Int)] h (.bool (bigB c)) := by
  refine enter0 Tryz.func70 rfl rfl rfl (fun w => ?_)
  refine cy_seq ?_
  refine cy_region ?_
  refine sy_assign rfl rfl rfl ?_
  refine sy_nil rfl ?_
  refine ny_next ?_
  refine cy_seq ?_
  refine cy_region ?_
  refine sy_move rfl rfl rfl ?_
  refine sy_cmp rfl rfl rfl rfl rfl ?_
  refine sy_move rfl rfl rfl ?_
  refine sy_cond (d := 5) _ rfl rfl (fun hg5 => ?_) (fun hg5 => ?_)
  · refine sy_move rfl rfl rfl ?_
    refine sy_cmp rfl rfl rfl rfl rfl ?_
    refine sy_pickT rfl rfl rfl rfl ?_
    refine sy_move rfl rfl rfl ?_
    refine sy_cond (d := 9) _ rfl rfl (fun hg9 => ?_) (fun hg9 => ?_)
    · refine sy_skip rfl rfl rfl ?_
      refine sy_skip rfl rfl rfl ?_
      refine sy_pickT rfl rfl rfl rfl ?_
      refine sy_assign rfl rfl rfl ?_
      refine sy_nil rfl ?_
      refine ny_next ?_
      refine cy_ret ?_
      refine ny_finR (res1 rfl rfl) (fun w hs => ⟨?_, hs.frm⟩)
      refine congrArg (fun b => Ending.returned (Value.bool b)) ?_
      unfold bigB
      first | rfl | (simp_all; done) | (simp_all; omega)
    · refine sy_move rfl rfl rfl ?_
      refine sy_cmp rfl rfl rfl rfl rfl ?_
      refine sy_pickF rfl rfl rfl rfl ?_
      refine sy_assign rfl rfl rfl ?_
      refine sy_nil rfl ?_
      refine ny_next ?_
      refine cy_ret ?_
      refine ny_finR (res1 rfl rfl) (fun w hs => ⟨?_, hs.frm⟩)
      refine congrArg (fun b => Ending.returned (Value.bool b)) ?_
      unfold bigB
      first | rfl | (simp_all; done) | (simp_all; omega)
  · refine sy_skip rfl rfl rfl ?_
    refine sy_skip rfl rfl rfl ?_
    refine sy_pickF rfl rfl rfl rfl ?_
    refine sy_move rfl rfl rfl ?_
    refine sy_move rfl rfl rfl ?_
    refine sy_cmp rfl rfl rfl rfl rfl ?_
    refine sy_pickF rfl rfl rfl rfl ?_
    refine sy_assign rfl rfl rfl ?_
    refine sy_nil rfl ?_
    refine ny_next ?_
    refine cy_ret ?_
    refine ny_finR (res1 rfl rfl) (fun w hs => ⟨?_, hs.frm⟩)
    refine congrArg (fun b => Ending.returned (Value.bool b)) ?_
    unfold bigB
    first | rfl | (simp_all; done) | (simp_all; omega)
set_option maxRecDepth 100000 in
theorem digit_c (c : UInt8) (h : Hp) : C0 Tryz.prog 71 [.int .u8 (c.toNat : Int)] h (.bool (digitB c)) := by
  refine enter0 Tryz.func71 rfl rfl rfl (fun w => ?_)
  refine cy_seq ?_
  refine cy_region ?_
  refine sy_assign rfl rfl rfl ?_
  refine sy_nil rfl ?_
  refine ny_next ?_
  refine cy_seq ?_
  refine cy_region ?_
  refine sy_move rfl rfl rfl ?_
  refine sy_cmp rfl rfl rfl rfl rfl ?_
  refine sy_move rfl rfl rfl ?_
  refine sy_cond (d := 5) _ rfl rfl (fun hg5 => ?_) (fun hg5 => ?_)
  · refine sy_move rfl rfl rfl ?_
    refine sy_cmp rfl rfl rfl rfl rfl ?_
    refine sy_pickT rfl rfl rfl rfl ?_
    refine sy_assign rfl rfl rfl ?_
    refine sy_nil rfl ?_
    refine ny_next ?_
    refine cy_ret ?_
    refine ny_finR (res1 rfl rfl) (fun w hs => ⟨?_, hs.frm⟩)
    refine congrArg (fun b => Ending.returned (Value.bool b)) ?_
    unfold digitB
    first | rfl | (simp_all; done) | (simp_all; omega)
  · refine sy_skip rfl rfl rfl ?_
    refine sy_skip rfl rfl rfl ?_
    refine sy_pickF rfl rfl rfl rfl ?_
    refine sy_assign rfl rfl rfl ?_
    refine sy_nil rfl ?_
    refine ny_next ?_
    refine cy_ret ?_
    refine ny_finR (res1 rfl rfl) (fun w hs => ⟨?_, hs.frm⟩)
    refine congrArg (fun b => Ending.returned (Value.bool b)) ?_
    unfold digitB
    first | rfl | (simp_all; done) | (simp_all; omega)
set_option maxRecDepth 100000 in
theorem blank_c (c : UInt8) (h : Hp) : C0 Tryz.prog 67 [.int .u8 (c.toNat : Int)] h (.bool (blankB c)) := by
  refine enter0 Tryz.func67 rfl rfl rfl (fun w => ?_)
  refine cy_seq ?_
  refine cy_region ?_
  refine sy_assign rfl rfl rfl ?_
  refine sy_nil rfl ?_
  refine ny_next ?_
  refine cy_seq ?_
  refine cy_region ?_
  refine sy_move rfl rfl rfl ?_
  refine sy_cmp rfl rfl rfl rfl rfl ?_
  refine sy_move rfl rfl rfl ?_
  refine sy_cond (d := 5) _ rfl rfl (fun hg5 => ?_) (fun hg5 => ?_)
  · refine sy_skip rfl rfl rfl ?_
    refine sy_skip rfl rfl rfl ?_
    refine sy_pickT rfl rfl rfl rfl ?_
    refine sy_move rfl rfl rfl ?_
    refine sy_skip rfl rfl rfl ?_
    refine sy_skip rfl rfl rfl ?_
    refine sy_pickT rfl rfl rfl rfl ?_
    refine sy_move rfl rfl rfl ?_
    refine sy_skip rfl rfl rfl ?_
    refine sy_skip rfl rfl rfl ?_
    refine sy_pickT rfl rfl rfl rfl ?_
    refine sy_assign rfl rfl rfl ?_
    refine sy_nil rfl ?_
    refine ny_next ?_
    refine cy_ret ?_
    refine ny_finR (res1 rfl rfl) (fun w hs => ⟨?_, hs.frm⟩)
    refine congrArg (fun b => Ending.returned (Value.bool b)) ?_
    unfold blankB
    first | rfl | (simp_all; done) | (simp_all; omega)
  · refine sy_move rfl rfl rfl ?_
    refine sy_cmp rfl rfl rfl rfl rfl ?_
    refine sy_pickF rfl rfl rfl rfl ?_
    refine sy_move rfl rfl rfl ?_
    refine sy_cond (d := 9) _ rfl rfl (fun hg9 => ?_) (fun hg9 => ?_)
    · refine sy_skip rfl rfl rfl ?_
      refine sy_skip rfl rfl rfl ?_
      refine sy_pickT rfl rfl rfl rfl ?_
      refine sy_move rfl rfl rfl ?_
      refine sy_skip rfl rfl rfl ?_
      refine sy_skip rfl rfl rfl ?_
      refine sy_pickT rfl rfl rfl rfl ?_
      refine sy_assign rfl rfl rfl ?_
      refine sy_nil rfl ?_
      refine ny_next ?_
      refine cy_ret ?_
      refine ny_finR (res1 rfl rfl) (fun w hs => ⟨?_, hs.frm⟩)
      refine congrArg (fun b => Ending.returned (Value.bool b)) ?_
      unfold blankB
      first | rfl | (simp_all; done) | (simp_all; omega)
    · refine sy_move rfl rfl rfl ?_
      refine sy_cmp rfl rfl rfl rfl rfl ?_
      refine sy_pickF rfl rfl rfl rfl ?_
      refine sy_move rfl rfl rfl ?_
      refine sy_cond (d := 13) _ rfl rfl (fun hg13 => ?_) (fun hg13 => ?_)
      · refine sy_skip rfl rfl rfl ?_
        refine sy_skip rfl rfl rfl ?_
        refine sy_pickT rfl rfl rfl rfl ?_
        refine sy_assign rfl rfl rfl ?_
        refine sy_nil rfl ?_
        refine ny_next ?_
        refine cy_ret ?_
        refine ny_finR (res1 rfl rfl) (fun w hs => ⟨?_, hs.frm⟩)
        refine congrArg (fun b => Ending.returned (Value.bool b)) ?_
        unfold blankB
        first | rfl | (simp_all; done) | (simp_all; omega)
      · refine sy_move rfl rfl rfl ?_
        refine sy_cmp rfl rfl rfl rfl rfl ?_
        refine sy_pickF rfl rfl rfl rfl ?_
        refine sy_assign rfl rfl rfl ?_
        refine sy_nil rfl ?_
        refine ny_next ?_
        refine cy_ret ?_
        refine ny_finR (res1 rfl rfl) (fun w hs => ⟨?_, hs.frm⟩)
        refine congrArg (fun b => Ending.returned (Value.bool b)) ?_
        unfold blankB
        first | rfl | (simp_all; done) | (simp_all; omega)
set_option maxRecDepth 100000 in
theorem line_c (c : UInt8) (h : Hp) : C0 Tryz.prog 66 [.int .u8 (c.toNat : Int)] h (.bool (lineB c)) := by
  refine enter0 Tryz.func66 rfl rfl rfl (fun w => ?_)
  refine cy_seq ?_
  refine cy_region ?_
  refine sy_assign rfl rfl rfl ?_
  refine sy_nil rfl ?_
  refine ny_next ?_
  refine cy_seq ?_
  refine cy_region ?_
  refine sy_move rfl rfl rfl ?_
  refine sy_cmp rfl rfl rfl rfl rfl ?_
  refine sy_assign rfl rfl rfl ?_
  refine sy_nil rfl ?_
  refine ny_next ?_
  refine cy_ret ?_
  refine ny_finR (res1 rfl rfl) (fun w hs => ⟨?_, hs.frm⟩)
  refine congrArg (fun b => Ending.returned (Value.bool b)) ?_
  unfold lineB
  first | rfl | (simp_all; done) | (simp_all; omega)
set_option maxRecDepth 100000 in
theorem letter_c (c : UInt8) (h : Hp) : C0 Tryz.prog 69 [.int .u8 (c.toNat : Int)] h (.bool (letterB c)) := by
  refine enter0 Tryz.func69 rfl rfl rfl (fun w => ?_)
  refine cy_seq ?_
  refine cy_region ?_
  refine sy_assign rfl rfl rfl ?_
  refine sy_nil rfl ?_
  refine ny_next ?_
  refine cy_seq ?_
  refine cy_region ?_
  refine sy_move rfl rfl rfl ?_
  refine sy_call rfl call_68 rfl (small_c c _) rfl rfl ?_
  refine sy_move rfl rfl rfl ?_
  refine sy_cond (d := 5) _ rfl rfl (fun hg5 => ?_) (fun hg5 => ?_)
  · refine sy_skip rfl rfl rfl ?_
    refine sy_skip rfl rfl rfl ?_
    refine sy_pickT rfl rfl rfl rfl ?_
    refine sy_move rfl rfl rfl ?_
    refine sy_skip rfl rfl rfl ?_
    refine sy_skip rfl rfl rfl ?_
    refine sy_pickT rfl rfl rfl rfl ?_
    refine sy_assign rfl rfl rfl ?_
    refine sy_nil rfl ?_
    refine ny_next ?_
    refine cy_ret ?_
    refine ny_finR (res1 rfl rfl) (fun w hs => ⟨?_, hs.frm⟩)
    refine congrArg (fun b => Ending.returned (Value.bool b)) ?_
    unfold letterB
    first | rfl | (simp_all; done) | (simp_all; omega)
  · refine sy_move rfl rfl rfl ?_
    refine sy_call rfl call_70 rfl (big_c c _) rfl rfl ?_
    refine sy_pickF rfl rfl rfl rfl ?_
    refine sy_move rfl rfl rfl ?_
    refine sy_cond (d := 9) _ rfl rfl (fun hg9 => ?_) (fun hg9 => ?_)
    · refine sy_skip rfl rfl rfl ?_
      refine sy_skip rfl rfl rfl ?_
      refine sy_pickT rfl rfl rfl rfl ?_
      refine sy_assign rfl rfl rfl ?_
      refine sy_nil rfl ?_
      refine ny_next ?_
      refine cy_ret ?_
      refine ny_finR (res1 rfl rfl) (fun w hs => ⟨?_, hs.frm⟩)
      refine congrArg (fun b => Ending.returned (Value.bool b)) ?_
      unfold letterB
      first | rfl | (simp_all; done) | (simp_all; omega)
    · refine sy_move rfl rfl rfl ?_
      refine sy_call rfl call_71 rfl (digit_c c _) rfl rfl ?_
      refine sy_pickF rfl rfl rfl rfl ?_
      refine sy_assign rfl rfl rfl ?_
      refine sy_nil rfl ?_
      refine ny_next ?_
      refine cy_ret ?_
      refine ny_finR (res1 rfl rfl) (fun w hs => ⟨?_, hs.frm⟩)
      refine congrArg (fun b => Ending.returned (Value.bool b)) ?_
      unfold letterB
      first | rfl | (simp_all; done) | (simp_all; omega)
theorem ibX (s : ByteArray) (c : UInt8) (w : World) : (callFunc 110 #[.string s, .int .u8 (c.toNat : Int)]).run Tryz.prog w = .ok (.value (.int .i64 (Lib.indexByte s.data.toList c))) w := by
  have h1 := Lib.run_indexByteString (P := Tryz.prog) s (c.toNat : Int) w
  have e : (c.toNat : Int).toNat.toUInt8 = c := by simp
  rw [e] at h1
  exact ext_run Tryz.func110 (by kernel_rfl) (by kernel_rfl) (by kernel_rfl) (by kernel_rfl) h1
set_option maxRecDepth 100000 in
theorem ib2_c (s : ByteArray) (c : UInt8) (h : Hp) : C0 Tryz.prog 93 [.string s, .int .u8 (c.toNat : Int)] h (.int .i64 (Lib.indexByte s.data.toList c)) := by
  refine enter0 Tryz.func93 rfl rfl rfl (fun w => ?_)
  refine cy_seq ?_
  refine cy_region ?_
  refine sy_assign rfl rfl rfl ?_
  refine sy_nil rfl ?_
  refine ny_next ?_
  refine cy_seq ?_
  refine cy_region ?_
  refine sy_move rfl rfl rfl ?_
  refine sy_move rfl rfl rfl ?_
  refine sy_exq rfl (fun w hs => ibX s c w) rfl rfl ?_
  refine sy_assign rfl rfl rfl ?_
  refine sy_nil rfl ?_
  refine ny_next ?_
  refine cy_ret ?_
  refine ny_finR (res1 rfl rfl) (fun w hs => ⟨?_, hs.frm⟩)
  rfl
set_option maxRecDepth 100000 in
theorem ib_c (s : ByteArray) (c : UInt8) (h : Hp) : C0 Tryz.prog 74 [.string s, .int .u8 (c.toNat : Int)] h (.int .i64 (Lib.indexByte s.data.toList c)) := by
  refine enter0 Tryz.func74 rfl rfl rfl (fun w => ?_)
  refine cy_seq ?_
  refine cy_region ?_
  refine sy_assign rfl rfl rfl ?_
  refine sy_nil rfl ?_
  refine ny_next ?_
  refine cy_seq ?_
  refine cy_region ?_
  refine sy_move rfl rfl rfl ?_
  refine sy_move rfl rfl rfl ?_
  refine sy_call rfl call_93 rfl (ib2_c s c _) rfl rfl ?_
  refine sy_assign rfl rfl rfl ?_
  refine sy_nil rfl ?_
  refine ny_next ?_
  refine cy_ret ?_
  refine ny_finR (res1 rfl rfl) (fun w hs => ⟨?_, hs.frm⟩)
  rfl
set_option maxRecDepth 100000 in
theorem sign_c (c : UInt8) (h : Hp) : C0 Tryz.prog 76 [.int .u8 (c.toNat : Int)] h (.bool (signB c)) := by
  refine enter0 Tryz.func76 rfl rfl rfl (fun w => ?_)
  refine cy_seq ?_
  refine cy_region ?_
  refine sy_assign rfl rfl rfl ?_
  refine sy_nil rfl ?_
  refine ny_next ?_
  refine cy_seq ?_
  refine cy_region ?_
  refine sy_move rfl rfl rfl ?_
  refine sy_call rfl call_74 rfl (ib_c _ c _) rfl rfl ?_
  refine sy_cmp rfl rfl rfl rfl rfl ?_
  refine sy_assign rfl rfl rfl ?_
  refine sy_nil rfl ?_
  refine ny_next ?_
  refine cy_ret ?_
  refine ny_finR (res1 rfl rfl) (fun w hs => ⟨?_, hs.frm⟩)
  exact congrArg (fun b => Ending.returned (Value.bool b)) (idx_has signL c)
set_option maxRecDepth 100000 in
theorem row_c (s : ByteArray) (F : Nat) (p : UInt8 → Bool) (h : Hp) (hs : s.size ≤ 140737488355328) (hFB : callB Tryz.prog F = true) (hF : ∀ c h, C0 Tryz.prog F [.int .u8 (c.toNat : Int)] h (.bool (p c))) : C0 Tryz.prog 65 [.string s, .func (.func F) #[] #[]] h (.int .i64 ((runB p s.data.toList : Nat) : Int)) := by
  refine enter0 Tryz.func65 rfl rfl rfl (fun w => ?_)
  refine cy_seq ?_
  refine cy_region ?_
  refine sy_assign rfl rfl rfl ?_
  refine sy_nil rfl ?_
  refine ny_next ?_
  refine cy_seq ?_
  refine cy_region ?_
  refine sy_assign rfl rfl rfl ?_
  refine sy_nil rfl ?_
  refine ny_next ?_
  refine cy_seq ?_
  refine cy_block ?_
  refine cy_loopK (ι := Nat) [0, 1] rfl (fun i => i ≤ s.size ∧ (s.data.toList.take i).all p = true) (fun i => s.size - i) (fun i => [(5, .int .i64 (i : Int))]) (fun i => h) (fun i => []) 0 [] ⟨Nat.zero_le _, by simp⟩ ⟨rfl, trivial⟩ rfl rfl ?_
  rintro i ⟨hI, hpre⟩
  refine cy_seq ?_
  refine cy_seq ?_
  refine cy_region ?_
  refine sy_move rfl rfl rfl ?_
  refine sy_move rfl rfl rfl ?_
  refine sy_len rfl (len_string Tryz.underlying9 _) rfl rfl ?_
  refine sy_cmp rfl rfl rfl rfl rfl ?_
  refine sy_move rfl rfl rfl ?_
  refine sy_cond (d := 10) _ rfl rfl (fun hg10 => ?_) (fun hg10 => ?_)
  · have hlti : i < s.size := by have := of_decide_eq_true hg10; omega
    obtain ⟨e0, he0⟩ : ∃ e0, s.data.toList[i]? = some e0 := ⟨_, List.getElem?_eq_getElem (by show i < s.size; omega)⟩
    refine sy_move rfl rfl rfl ?_
    refine sy_move rfl rfl rfl ?_
    refine sy_move rfl rfl rfl ?_
    refine sy_idxs (u := e0) Tryz.underlying9 rfl rfl (by omega) (ba_at he0) rfl rfl ?_
    refine sy_callv rfl hFB (caps := []) rfl rfl (hF e0 _) rfl rfl ?_
    refine sy_pickT rfl rfl rfl rfl ?_
    refine sy_nil rfl ?_
    refine ny_next ?_
    refine cy_cond rfl (fun hc16 => ?_) (fun hc16 => ?_)
    · refine cy_skip ?_
      refine ny_next ?_
      refine cy_block ?_
      refine cy_region ?_
      refine sy_move rfl rfl rfl ?_
      refine sy_addi (z := ((i + 1 : Nat) : Int)) rfl rfl (by omega) (by omega) (by omega) rfl rfl ?_
      refine sy_assign rfl rfl rfl ?_
      refine sy_nil rfl ?_
      refine ny_blockN ?_
      refine ny_roundK [0, 1] (i + 1) [] ⟨by omega, by rw [all_snoc he0, hpre, hc16]; rfl⟩ (show s.size - (i + 1) < s.size - i by omega) rfl ⟨rfl, trivial⟩ rfl rfl
    · refine cy_exit ?_
      refine ny_thenE ?_
      refine ny_thenE ?_
      refine ny_blockX ?_
      refine ny_next ?_
      refine cy_seq ?_
      refine cy_region ?_
      refine sy_move rfl rfl rfl ?_
      refine sy_assign rfl rfl rfl ?_
      refine sy_nil rfl ?_
      refine ny_next ?_
      refine cy_ret ?_
      refine ny_finR (res1 rfl rfl) (fun w hs2 => ⟨?_, hs2.frm⟩)
      first | (rw [run_at hpre he0 hc16]) | (rw [run_end hpre (by show s.size ≤ i; exact hge)]; refine congrArg (fun z : Nat => Ending.returned (Value.int .i64 (z : Int))) ?_; show i = s.size; omega)
  · have hge : s.size ≤ i := by have := of_decide_eq_false hg10; omega
    refine sy_skip rfl rfl rfl ?_
    refine sy_skip rfl rfl rfl ?_
    refine sy_skip rfl rfl rfl ?_
    refine sy_skip rfl rfl rfl ?_
    refine sy_skip rfl rfl rfl ?_
    refine sy_pickF rfl rfl rfl rfl ?_
    refine sy_nil rfl ?_
    refine ny_next ?_
    refine cy_condF rfl ?_
    refine cy_exit ?_
    refine ny_thenE ?_
    refine ny_thenE ?_
    refine ny_blockX ?_
    refine ny_next ?_
    refine cy_seq ?_
    refine cy_region ?_
    refine sy_move rfl rfl rfl ?_
    refine sy_assign rfl rfl rfl ?_
    refine sy_nil rfl ?_
    refine ny_next ?_
    refine cy_ret ?_
    refine ny_finR (res1 rfl rfl) (fun w hs2 => ⟨?_, hs2.frm⟩)
    first | (rw [run_at hpre he0 hc16]) | (rw [run_end hpre (by show s.size ≤ i; exact hge)]; refine congrArg (fun z : Nat => Ending.returned (Value.int .i64 (z : Int))) ?_; show i = s.size; omega)
set_option maxRecDepth 100000 in
theorem plain_c (s : ByteArray) (h : Hp) (hs : s.size ≤ 140737488355328) : C0 Tryz.prog 89 [.string s] h (.bool (plainB s.data.toList)) := by
  refine enter0 Tryz.func89 rfl rfl rfl (fun w => ?_)
  refine cy_seq ?_
  refine cy_region ?_
  refine sy_assign rfl rfl rfl ?_
  refine sy_nil rfl ?_
  refine ny_next ?_
  refine cy_seq ?_
  refine cy_block ?_
  refine cy_seq ?_
  refine cy_region ?_
  refine sy_move rfl rfl rfl ?_
  refine sy_eqs rfl rfl rfl rfl ?_
  refine sy_move rfl rfl rfl ?_
  refine sy_cond (d := 6) _ rfl rfl (fun hg6 => ?_) (fun hg6 => ?_)
  · refine sy_skip rfl rfl rfl ?_
    refine sy_skip rfl rfl rfl ?_
    refine sy_pickT rfl rfl rfl rfl ?_
    refine sy_assign rfl rfl rfl ?_
    refine sy_nil rfl ?_
    refine ny_next ?_
    refine cy_condT rfl ?_
    refine cy_seq ?_
    refine cy_region ?_
    refine sy_assign rfl rfl rfl ?_
    refine sy_nil rfl ?_
    refine ny_next ?_
    refine cy_ret ?_
    refine ny_blockR ?_
    refine ny_thenR ?_
    refine ny_finR (res1 rfl rfl) (fun w hs2 => ⟨?_, hs2.frm⟩)
    refine congrArg (fun b => Ending.returned (Value.bool b)) ?_
    unfold plainB
    simp_all
  · refine sy_move rfl rfl rfl ?_
    refine sy_eqs rfl rfl rfl rfl ?_
    refine sy_pickF rfl rfl rfl rfl ?_
    refine sy_assign rfl rfl rfl ?_
    refine sy_nil rfl ?_
    refine ny_next ?_
    refine cy_cond rfl (fun hc3 => ?_) (fun hc3 => ?_)
    · refine cy_seq ?_
      refine cy_region ?_
      refine sy_assign rfl rfl rfl ?_
      refine sy_nil rfl ?_
      refine ny_next ?_
      refine cy_ret ?_
      refine ny_blockR ?_
      refine ny_thenR ?_
      refine ny_finR (res1 rfl rfl) (fun w hs2 => ⟨?_, hs2.frm⟩)
      refine congrArg (fun b => Ending.returned (Value.bool b)) ?_
      unfold plainB
      simp_all
    · refine cy_seq ?_
      refine cy_region ?_
      refine sy_move rfl rfl rfl ?_
      refine sy_eqs rfl rfl rfl rfl ?_
      refine sy_move rfl rfl rfl ?_
      refine sy_cond (d := 13) _ rfl rfl (fun hg13 => ?_) (fun hg13 => ?_)
      · refine sy_skip rfl rfl rfl ?_
        refine sy_skip rfl rfl rfl ?_
        refine sy_pickT rfl rfl rfl rfl ?_
        refine sy_move rfl rfl rfl ?_
        refine sy_skip rfl rfl rfl ?_
        refine sy_skip rfl rfl rfl ?_
        refine sy_pickT rfl rfl rfl rfl ?_
        refine sy_assign rfl rfl rfl ?_
        refine sy_nil rfl ?_
        refine ny_next ?_
        refine cy_condT rfl ?_
        refine cy_seq ?_
        refine cy_region ?_
        refine sy_assign rfl rfl rfl ?_
        refine sy_nil rfl ?_
        refine ny_next ?_
        refine cy_ret ?_
        refine ny_blockR ?_
        refine ny_thenR ?_
        refine ny_finR (res1 rfl rfl) (fun w hs2 => ⟨?_, hs2.frm⟩)
        refine congrArg (fun b => Ending.returned (Value.bool b)) ?_
        unfold plainB
        simp_all
      · refine sy_move rfl rfl rfl ?_
        refine sy_eqs rfl rfl rfl rfl ?_
        refine sy_pickF rfl rfl rfl rfl ?_
        refine sy_move rfl rfl rfl ?_
        refine sy_cond (d := 17) _ rfl rfl (fun hg17 => ?_) (fun hg17 => ?_)
        · refine sy_skip rfl rfl rfl ?_
          refine sy_skip rfl rfl rfl ?_
          refine sy_pickT rfl rfl rfl rfl ?_
          refine sy_assign rfl rfl rfl ?_
          refine sy_nil rfl ?_
          refine ny_next ?_
          refine cy_condT rfl ?_
          refine cy_seq ?_
          refine cy_region ?_
          refine sy_assign rfl rfl rfl ?_
          refine sy_nil rfl ?_
          refine ny_next ?_
          refine cy_ret ?_
          refine ny_blockR ?_
          refine ny_thenR ?_
          refine ny_finR (res1 rfl rfl) (fun w hs2 => ⟨?_, hs2.frm⟩)
          refine congrArg (fun b => Ending.returned (Value.bool b)) ?_
          unfold plainB
          simp_all
        · refine sy_move rfl rfl rfl ?_
          refine sy_eqs rfl rfl rfl rfl ?_
          refine sy_pickF rfl rfl rfl rfl ?_
          refine sy_assign rfl rfl rfl ?_
          refine sy_nil rfl ?_
          refine ny_next ?_
          refine cy_cond rfl (fun hc10 => ?_) (fun hc10 => ?_)
          · refine cy_seq ?_
            refine cy_region ?_
            refine sy_assign rfl rfl rfl ?_
            refine sy_nil rfl ?_
            refine ny_next ?_
            refine cy_ret ?_
            refine ny_blockR ?_
            refine ny_thenR ?_
            refine ny_finR (res1 rfl rfl) (fun w hs2 => ⟨?_, hs2.frm⟩)
            refine congrArg (fun b => Ending.returned (Value.bool b)) ?_
            unfold plainB
            simp_all
          · refine cy_skip ?_
            refine ny_blockN ?_
            refine ny_next ?_
            refine cy_seq ?_
            have hne : s.data.toList ≠ [] := by
              intro h9
              simp_all
            obtain ⟨e0, r0, hl0⟩ : ∃ e0 r0, s.data.toList = e0 :: r0 := List.exists_cons_of_ne_nil hne
            have he0 : s.data.toList[0]? = some e0 := by rw [hl0]; rfl
            refine cy_region ?_
            refine sy_move rfl rfl rfl ?_
            refine sy_idxs (u := e0) Tryz.underlying9 rfl rfl (by omega) (ba_at (i := 0) he0) rfl rfl ?_
            refine sy_call rfl call_68 rfl (small_c e0 _) rfl rfl ?_
            refine sy_move rfl rfl rfl ?_
            refine sy_cond (d := 24) _ rfl rfl (fun hg24 => ?_) (fun hg24 => ?_)
            · refine sy_move rfl rfl rfl ?_
              refine sy_call rfl call_65 rfl (row_c s 69 letterB _ hs call_69 (fun c h => letter_c c h)) rfl rfl ?_
              refine sy_move rfl rfl rfl ?_
              refine sy_len rfl (len_string Tryz.underlying9 _) rfl rfl ?_
              refine sy_cmp rfl rfl rfl rfl rfl ?_
              refine sy_pickT rfl rfl rfl rfl ?_
              refine sy_move rfl rfl rfl ?_
              refine sy_cond (d := 31) _ rfl rfl (fun hg31 => ?_) (fun hg31 => ?_)
              · refine sy_skip rfl rfl rfl ?_
                refine sy_skip rfl rfl rfl ?_
                refine sy_skip rfl rfl rfl ?_
                refine sy_skip rfl rfl rfl ?_
                refine sy_skip rfl rfl rfl ?_
                refine sy_pickT rfl rfl rfl rfl ?_
                refine sy_assign rfl rfl rfl ?_
                refine sy_nil rfl ?_
                refine ny_next ?_
                refine cy_ret ?_
                refine ny_finR (res1 rfl rfl) (fun w hs2 => ⟨?_, hs2.frm⟩)
                refine congrArg (fun b => Ending.returned (Value.bool b)) ?_
                have q1 := run_all letterB s.data.toList
                have q2 := run_all signB s.data.toList
                have q3 : firstB smallB s.data.toList = smallB e0 := by rw [hl0]; rfl
                have q4 : s.data.toList.length = s.size := rfl
                rw [q4] at q1 q2
                show _ = plainB s.data.toList
                rw [plain_end hg6 hc3 hg13 hg17 hc10, q3, ← q1, ← q2]
                first | (rw [hg24, hg31]; rfl) | (rw [hg24]; rfl)
              · refine sy_move rfl rfl rfl ?_
                refine sy_call rfl call_65 rfl (row_c s 76 signB _ hs call_76 (fun c h => sign_c c h)) rfl rfl ?_
                refine sy_move rfl rfl rfl ?_
                refine sy_len rfl (len_string Tryz.underlying9 _) rfl rfl ?_
                refine sy_cmp rfl rfl rfl rfl rfl ?_
                refine sy_pickF rfl rfl rfl rfl ?_
                refine sy_assign rfl rfl rfl ?_
                refine sy_nil rfl ?_
                refine ny_next ?_
                refine cy_ret ?_
                refine ny_finR (res1 rfl rfl) (fun w hs2 => ⟨?_, hs2.frm⟩)
                refine congrArg (fun b => Ending.returned (Value.bool b)) ?_
                have q1 := run_all letterB s.data.toList
                have q2 := run_all signB s.data.toList
                have q3 : firstB smallB s.data.toList = smallB e0 := by rw [hl0]; rfl
                have q4 : s.data.toList.length = s.size := rfl
                rw [q4] at q1 q2
                show _ = plainB s.data.toList
                rw [plain_end hg6 hc3 hg13 hg17 hc10, q3, ← q1, ← q2]
                first | (rw [hg24, hg31]; rfl) | (rw [hg24]; rfl)
            · refine sy_skip rfl rfl rfl ?_
              refine sy_skip rfl rfl rfl ?_
              refine sy_skip rfl rfl rfl ?_
              refine sy_skip rfl rfl rfl ?_
              refine sy_skip rfl rfl rfl ?_
              refine sy_pickF rfl rfl rfl rfl ?_
              refine sy_move rfl rfl rfl ?_
              refine sy_move rfl rfl rfl ?_
              refine sy_call rfl call_65 rfl (row_c s 76 signB _ hs call_76 (fun c h => sign_c c h)) rfl rfl ?_
              refine sy_move rfl rfl rfl ?_
              refine sy_len rfl (len_string Tryz.underlying9 _) rfl rfl ?_
              refine sy_cmp rfl rfl rfl rfl rfl ?_
              refine sy_pickF rfl rfl rfl rfl ?_
              refine sy_assign rfl rfl rfl ?_
              refine sy_nil rfl ?_
              refine ny_next ?_
              refine cy_ret ?_
              refine ny_finR (res1 rfl rfl) (fun w hs2 => ⟨?_, hs2.frm⟩)
              refine congrArg (fun b => Ending.returned (Value.bool b)) ?_
              have q1 := run_all letterB s.data.toList
              have q2 := run_all signB s.data.toList
              have q3 : firstB smallB s.data.toList = smallB e0 := by rw [hl0]; rfl
              have q4 : s.data.toList.length = s.size := rfl
              rw [q4] at q1 q2
              show _ = plainB s.data.toList
              rw [plain_end hg6 hc3 hg13 hg17 hc10, q3, ← q1, ← q2]
              first | (rw [hg24, hg31]; rfl) | (rw [hg24]; rfl)
set_option maxRecDepth 100000 in
theorem rsmall_c (c : UInt8) (h : Hp) : C0 Tryz.prog 84 [.int .u8 (c.toNat : Int)] h (.bool (smallB c)) := by
  refine enter0 Tryz.func84 rfl rfl rfl (fun w => ?_)
  refine cy_seq ?_
  refine cy_region ?_
  refine sy_assign rfl rfl rfl ?_
  refine sy_nil rfl ?_
  refine ny_next ?_
  refine cy_seq ?_
  refine cy_region ?_
  refine sy_move rfl rfl rfl ?_
  refine sy_cmp rfl rfl rfl rfl rfl ?_
  refine sy_move rfl rfl rfl ?_
  refine sy_cond (d := 5) _ rfl rfl (fun hg5 => ?_) (fun hg5 => ?_)
  · refine sy_move rfl rfl rfl ?_
    refine sy_cmp rfl rfl rfl rfl rfl ?_
    refine sy_pickT rfl rfl rfl rfl ?_
    refine sy_assign rfl rfl rfl ?_
    refine sy_nil rfl ?_
    refine ny_next ?_
    refine cy_ret ?_
    refine ny_finR (res1 rfl rfl) (fun w hs => ⟨?_, hs.frm⟩)
    refine congrArg (fun b => Ending.returned (Value.bool b)) ?_
    unfold smallB
    first | rfl | (simp_all; done) | (simp_all; omega)
  · refine sy_skip rfl rfl rfl ?_
    refine sy_skip rfl rfl rfl ?_
    refine sy_pickF rfl rfl rfl rfl ?_
    refine sy_assign rfl rfl rfl ?_
    refine sy_nil rfl ?_
    refine ny_next ?_
    refine cy_ret ?_
    refine ny_finR (res1 rfl rfl) (fun w hs => ⟨?_, hs.frm⟩)
    refine congrArg (fun b => Ending.returned (Value.bool b)) ?_
    unfold smallB
    first | rfl | (simp_all; done) | (simp_all; omega)
set_option maxRecDepth 100000 in
theorem rdigit_c (c : UInt8) (h : Hp) : C0 Tryz.prog 101 [.int .u8 (c.toNat : Int)] h (.bool (digitB c)) := by
  refine enter0 Tryz.func101 rfl rfl rfl (fun w => ?_)
  refine cy_seq ?_
  refine cy_region ?_
  refine sy_assign rfl rfl rfl ?_
  refine sy_nil rfl ?_
  refine ny_next ?_
  refine cy_seq ?_
  refine cy_region ?_
  refine sy_move rfl rfl rfl ?_
  refine sy_cmp rfl rfl rfl rfl rfl ?_
  refine sy_move rfl rfl rfl ?_
  refine sy_cond (d := 5) _ rfl rfl (fun hg5 => ?_) (fun hg5 => ?_)
  · refine sy_move rfl rfl rfl ?_
    refine sy_cmp rfl rfl rfl rfl rfl ?_
    refine sy_pickT rfl rfl rfl rfl ?_
    refine sy_assign rfl rfl rfl ?_
    refine sy_nil rfl ?_
    refine ny_next ?_
    refine cy_ret ?_
    refine ny_finR (res1 rfl rfl) (fun w hs => ⟨?_, hs.frm⟩)
    refine congrArg (fun b => Ending.returned (Value.bool b)) ?_
    unfold digitB
    first | rfl | (simp_all; done) | (simp_all; omega)
  · refine sy_skip rfl rfl rfl ?_
    refine sy_skip rfl rfl rfl ?_
    refine sy_pickF rfl rfl rfl rfl ?_
    refine sy_assign rfl rfl rfl ?_
    refine sy_nil rfl ?_
    refine ny_next ?_
    refine cy_ret ?_
    refine ny_finR (res1 rfl rfl) (fun w hs => ⟨?_, hs.frm⟩)
    refine congrArg (fun b => Ending.returned (Value.bool b)) ?_
    unfold digitB
    first | rfl | (simp_all; done) | (simp_all; omega)
set_option maxRecDepth 100000 in
theorem rletter_c (c : UInt8) (h : Hp) : C0 Tryz.prog 85 [.int .u8 (c.toNat : Int)] h (.bool (letterB c)) := by
  refine enter0 Tryz.func85 rfl rfl rfl (fun w => ?_)
  refine cy_seq ?_
  refine cy_region ?_
  refine sy_assign rfl rfl rfl ?_
  refine sy_nil rfl ?_
  refine ny_next ?_
  refine cy_seq ?_
  refine cy_region ?_
  refine sy_move rfl rfl rfl ?_
  refine sy_call rfl call_84 rfl (rsmall_c c _) rfl rfl ?_
  refine sy_move rfl rfl rfl ?_
  refine sy_cond (d := 5) _ rfl rfl (fun hg5 => ?_) (fun hg5 => ?_)
  · refine sy_skip rfl rfl rfl ?_
    refine sy_skip rfl rfl rfl ?_
    refine sy_skip rfl rfl rfl ?_
    refine sy_skip rfl rfl rfl ?_
    refine sy_skip rfl rfl rfl ?_
    refine sy_skip rfl rfl rfl ?_
    refine sy_pickT rfl rfl rfl rfl ?_
    refine sy_move rfl rfl rfl ?_
    refine sy_skip rfl rfl rfl ?_
    refine sy_skip rfl rfl rfl ?_
    refine sy_pickT rfl rfl rfl rfl ?_
    refine sy_move rfl rfl rfl ?_
    refine sy_skip rfl rfl rfl ?_
    refine sy_skip rfl rfl rfl ?_
    refine sy_pickT rfl rfl rfl rfl ?_
    refine sy_assign rfl rfl rfl ?_
    refine sy_nil rfl ?_
    refine ny_next ?_
    refine cy_ret ?_
    refine ny_finR (res1 rfl rfl) (fun w hs => ⟨?_, hs.frm⟩)
    refine congrArg (fun b => Ending.returned (Value.bool b)) ?_
    unfold letterB bigB
    first | (simp_all; done) | (simp_all; intros; omega)
  · refine sy_move rfl rfl rfl ?_
    refine sy_cmp rfl rfl rfl rfl rfl ?_
    refine sy_move rfl rfl rfl ?_
    refine sy_cond (d := 8) _ rfl rfl (fun hg8 => ?_) (fun hg8 => ?_)
    · refine sy_move rfl rfl rfl ?_
      refine sy_cmp rfl rfl rfl rfl rfl ?_
      refine sy_pickT rfl rfl rfl rfl ?_
      refine sy_pickF rfl rfl rfl rfl ?_
      refine sy_move rfl rfl rfl ?_
      refine sy_cond (d := 13) _ rfl rfl (fun hg13 => ?_) (fun hg13 => ?_)
      · refine sy_skip rfl rfl rfl ?_
        refine sy_skip rfl rfl rfl ?_
        refine sy_pickT rfl rfl rfl rfl ?_
        refine sy_move rfl rfl rfl ?_
        refine sy_skip rfl rfl rfl ?_
        refine sy_skip rfl rfl rfl ?_
        refine sy_pickT rfl rfl rfl rfl ?_
        refine sy_assign rfl rfl rfl ?_
        refine sy_nil rfl ?_
        refine ny_next ?_
        refine cy_ret ?_
        refine ny_finR (res1 rfl rfl) (fun w hs => ⟨?_, hs.frm⟩)
        refine congrArg (fun b => Ending.returned (Value.bool b)) ?_
        unfold letterB bigB
        first | (simp_all; done) | (simp_all; intros; omega)
      · refine sy_move rfl rfl rfl ?_
        refine sy_cmp rfl rfl rfl rfl rfl ?_
        refine sy_pickF rfl rfl rfl rfl ?_
        refine sy_move rfl rfl rfl ?_
        refine sy_cond (d := 17) _ rfl rfl (fun hg17 => ?_) (fun hg17 => ?_)
        · refine sy_skip rfl rfl rfl ?_
          refine sy_skip rfl rfl rfl ?_
          refine sy_pickT rfl rfl rfl rfl ?_
          refine sy_assign rfl rfl rfl ?_
          refine sy_nil rfl ?_
          refine ny_next ?_
          refine cy_ret ?_
          refine ny_finR (res1 rfl rfl) (fun w hs => ⟨?_, hs.frm⟩)
          refine congrArg (fun b => Ending.returned (Value.bool b)) ?_
          unfold letterB bigB
          first | (simp_all; done) | (simp_all; intros; omega)
        · refine sy_move rfl rfl rfl ?_
          refine sy_call rfl call_101 rfl (rdigit_c c _) rfl rfl ?_
          refine sy_pickF rfl rfl rfl rfl ?_
          refine sy_assign rfl rfl rfl ?_
          refine sy_nil rfl ?_
          refine ny_next ?_
          refine cy_ret ?_
          refine ny_finR (res1 rfl rfl) (fun w hs => ⟨?_, hs.frm⟩)
          refine congrArg (fun b => Ending.returned (Value.bool b)) ?_
          unfold letterB bigB
          first | (simp_all; done) | (simp_all; intros; omega)
    · refine sy_skip rfl rfl rfl ?_
      refine sy_skip rfl rfl rfl ?_
      refine sy_pickF rfl rfl rfl rfl ?_
      refine sy_pickF rfl rfl rfl rfl ?_
      refine sy_move rfl rfl rfl ?_
      refine sy_move rfl rfl rfl ?_
      refine sy_cmp rfl rfl rfl rfl rfl ?_
      refine sy_pickF rfl rfl rfl rfl ?_
      refine sy_move rfl rfl rfl ?_
      refine sy_cond (d := 17) _ rfl rfl (fun hg17 => ?_) (fun hg17 => ?_)
      · refine sy_skip rfl rfl rfl ?_
        refine sy_skip rfl rfl rfl ?_
        refine sy_pickT rfl rfl rfl rfl ?_
        refine sy_assign rfl rfl rfl ?_
        refine sy_nil rfl ?_
        refine ny_next ?_
        refine cy_ret ?_
        refine ny_finR (res1 rfl rfl) (fun w hs => ⟨?_, hs.frm⟩)
        refine congrArg (fun b => Ending.returned (Value.bool b)) ?_
        unfold letterB bigB
        first | (simp_all; done) | (simp_all; intros; omega)
      · refine sy_move rfl rfl rfl ?_
        refine sy_call rfl call_101 rfl (rdigit_c c _) rfl rfl ?_
        refine sy_pickF rfl rfl rfl rfl ?_
        refine sy_assign rfl rfl rfl ?_
        refine sy_nil rfl ?_
        refine ny_next ?_
        refine cy_ret ?_
        refine ny_finR (res1 rfl rfl) (fun w hs => ⟨?_, hs.frm⟩)
        refine congrArg (fun b => Ending.returned (Value.bool b)) ?_
        unfold letterB bigB
        first | (simp_all; done) | (simp_all; intros; omega)
set_option maxRecDepth 100000 in
theorem within_c (c : UInt8) (s : ByteArray) (h : Hp) (hs : s.size ≤ 140737488355328) : C0 Tryz.prog 102 [.int .u8 (c.toNat : Int), .string s] h (.bool (s.data.toList.contains c)) := by
  refine enter0 Tryz.func102 rfl rfl rfl (fun w => ?_)
  refine cy_seq ?_
  refine cy_region ?_
  refine sy_assign rfl rfl rfl ?_
  refine sy_nil rfl ?_
  refine ny_next ?_
  refine cy_seq ?_
  refine cy_seq ?_
  refine cy_region ?_
  refine sy_assign rfl rfl rfl ?_
  refine sy_nil rfl ?_
  refine ny_next ?_
  refine cy_block ?_
  refine cy_loopK (ι := Nat) [0, 1] rfl (fun i => i ≤ s.size ∧ (s.data.toList.take i).contains c = false) (fun i => s.size - i) (fun i => [(5, .int .i64 (i : Int))]) (fun i => h) (fun i => []) 0 [] ⟨Nat.zero_le _, by simp⟩ ⟨rfl, trivial⟩ rfl rfl ?_
  rintro i ⟨hI, hpre⟩
  refine cy_seq ?_
  refine cy_seq ?_
  refine cy_region ?_
  refine sy_move rfl rfl rfl ?_
  refine sy_move rfl rfl rfl ?_
  refine sy_len rfl (len_string Tryz.underlying9 _) rfl rfl ?_
  refine sy_cmp rfl rfl rfl rfl rfl ?_
  refine sy_nil rfl ?_
  refine ny_next ?_
  refine cy_cond rfl (fun hc9 => ?_) (fun hc9 => ?_)
  · have hlti : i < s.size := by have := of_decide_eq_true hc9; omega
    obtain ⟨e0, he0⟩ : ∃ e0, s.data.toList[i]? = some e0 := ⟨_, List.getElem?_eq_getElem (by show i < s.size; omega)⟩
    refine cy_skip ?_
    refine ny_next ?_
    refine cy_seq ?_
    refine cy_block ?_
    refine cy_seq ?_
    refine cy_region ?_
    refine sy_move rfl rfl rfl ?_
    refine sy_move rfl rfl rfl ?_
    refine sy_idxs (u := e0) Tryz.underlying9 rfl rfl (by omega) (ba_at he0) rfl rfl ?_
    refine sy_move rfl rfl rfl ?_
    refine sy_cmp rfl rfl rfl rfl rfl ?_
    refine sy_nil rfl ?_
    refine ny_next ?_
    refine cy_cond rfl (fun hc16 => ?_) (fun hc16 => ?_)
    · refine cy_seq ?_
      refine cy_region ?_
      refine sy_assign rfl rfl rfl ?_
      refine sy_nil rfl ?_
      refine ny_next ?_
      refine cy_ret ?_
      refine ny_blockR ?_
      refine ny_thenR ?_
      refine ny_thenR ?_
      refine ny_blockR ?_
      refine ny_thenR ?_
      refine ny_finR (res1 rfl rfl) (fun w hs2 => ⟨?_, hs2.frm⟩)
      refine congrArg (fun b => Ending.returned (Value.bool b)) ?_
      have h9 : (e0.toNat : Int) = (c.toNat : Int) := by simpa using hc16
      exact (has_yes he0 (by omega)).symm
    · refine cy_skip ?_
      refine ny_blockN ?_
      refine ny_next ?_
      refine cy_region ?_
      refine sy_move rfl rfl rfl ?_
      refine sy_addi (z := ((i + 1 : Nat) : Int)) rfl rfl (by omega) (by omega) (by omega) rfl rfl ?_
      refine sy_assign rfl rfl rfl ?_
      refine sy_nil rfl ?_
      refine ny_roundK [0, 1] (i + 1) [] ⟨by omega, has_snoc he0 hpre (by have h9 : ¬ (e0.toNat : Int) = (c.toNat : Int) := (by simpa using hc16); omega)⟩ (show s.size - (i + 1) < s.size - i by omega) rfl ⟨rfl, trivial⟩ rfl rfl
  · have hie : i = s.size := by have := of_decide_eq_false hc9; omega
    subst hie
    refine cy_exit ?_
    refine ny_thenE ?_
    refine ny_thenE ?_
    refine ny_blockX ?_
    refine ny_next ?_
    refine cy_seq ?_
    refine cy_region ?_
    refine sy_assign rfl rfl rfl ?_
    refine sy_nil rfl ?_
    refine ny_next ?_
    refine cy_ret ?_
    refine ny_finR (res1 rfl rfl) (fun w hs2 => ⟨?_, hs2.frm⟩)
    refine congrArg (fun b => Ending.returned (Value.bool b)) ?_
    have htk : s.data.toList.take s.size = s.data.toList := List.take_of_length_le (Nat.le_refl _)
    rw [htk] at hpre
    exact hpre.symm
set_option maxRecDepth 100000 in
theorem rsign_c (c : UInt8) (h : Hp) : C0 Tryz.prog 86 [.int .u8 (c.toNat : Int)] h (.bool (signB c)) := by
  refine enter0 Tryz.func86 rfl rfl rfl (fun w => ?_)
  refine cy_seq ?_
  refine cy_region ?_
  refine sy_assign rfl rfl rfl ?_
  refine sy_nil rfl ?_
  refine ny_next ?_
  refine cy_seq ?_
  refine cy_region ?_
  refine sy_move rfl rfl rfl ?_
  refine sy_call rfl call_102 rfl (within_c c _ _ (by decide)) rfl rfl ?_
  refine sy_assign rfl rfl rfl ?_
  refine sy_nil rfl ?_
  refine ny_next ?_
  refine cy_ret ?_
  refine ny_finR (res1 rfl rfl) (fun w hs => ⟨?_, hs.frm⟩)
  rfl
set_option maxRecDepth 100000 in
theorem rplain_c (s : ByteArray) (h : Hp) (hs : s.size ≤ 140737488355328) : C0 Tryz.prog 59 [.string s] h (.bool (plainB s.data.toList)) := by
  refine enter0 Tryz.func59 rfl rfl rfl (fun w => ?_)
  refine cy_seq ?_
  refine cy_region ?_
  refine sy_assign rfl rfl rfl ?_
  refine sy_nil rfl ?_
  refine ny_next ?_
  refine cy_seq ?_
  refine cy_seq ?_
  refine cy_region ?_
  refine sy_move rfl rfl rfl ?_
  refine sy_eqs rfl rfl rfl rfl ?_
  refine sy_move rfl rfl rfl ?_
  refine sy_cond (d := 8) _ rfl rfl (fun hg8 => ?_) (fun hg8 => ?_)
  · refine sy_skip rfl rfl rfl ?_
    refine sy_skip rfl rfl rfl ?_
    refine sy_pickT rfl rfl rfl rfl ?_
    refine sy_move rfl rfl rfl ?_
    refine sy_skip rfl rfl rfl ?_
    refine sy_skip rfl rfl rfl ?_
    refine sy_pickT rfl rfl rfl rfl ?_
    refine sy_nil rfl ?_
    refine ny_next ?_
    refine cy_condT rfl ?_
    refine cy_seq ?_
    refine cy_region ?_
    refine sy_assign rfl rfl rfl ?_
    refine sy_nil rfl ?_
    refine ny_next ?_
    refine cy_ret ?_
    refine ny_thenR ?_
    refine ny_finR (res1 rfl rfl) (fun w hs2 => ⟨?_, hs2.frm⟩)
    refine congrArg (fun b => Ending.returned (Value.bool b)) ?_
    unfold plainB
    simp_all
  · refine sy_move rfl rfl rfl ?_
    refine sy_eqs rfl rfl rfl rfl ?_
    refine sy_pickF rfl rfl rfl rfl ?_
    refine sy_move rfl rfl rfl ?_
    refine sy_cond (d := 12) _ rfl rfl (fun hg12 => ?_) (fun hg12 => ?_)
    · refine sy_skip rfl rfl rfl ?_
      refine sy_skip rfl rfl rfl ?_
      refine sy_pickT rfl rfl rfl rfl ?_
      refine sy_nil rfl ?_
      refine ny_next ?_
      refine cy_condT rfl ?_
      refine cy_seq ?_
      refine cy_region ?_
      refine sy_assign rfl rfl rfl ?_
      refine sy_nil rfl ?_
      refine ny_next ?_
      refine cy_ret ?_
      refine ny_thenR ?_
      refine ny_finR (res1 rfl rfl) (fun w hs2 => ⟨?_, hs2.frm⟩)
      refine congrArg (fun b => Ending.returned (Value.bool b)) ?_
      unfold plainB
      simp_all
    · refine sy_move rfl rfl rfl ?_
      refine sy_eqs rfl rfl rfl rfl ?_
      refine sy_pickF rfl rfl rfl rfl ?_
      refine sy_nil rfl ?_
      refine ny_next ?_
      refine cy_cond rfl (fun hc15 => ?_) (fun hc15 => ?_)
      · refine cy_seq ?_
        refine cy_region ?_
        refine sy_assign rfl rfl rfl ?_
        refine sy_nil rfl ?_
        refine ny_next ?_
        refine cy_ret ?_
        refine ny_thenR ?_
        refine ny_finR (res1 rfl rfl) (fun w hs2 => ⟨?_, hs2.frm⟩)
        refine congrArg (fun b => Ending.returned (Value.bool b)) ?_
        unfold plainB
        simp_all
      · refine cy_skip ?_
        refine ny_next ?_
        refine cy_seq ?_
        refine cy_seq ?_
        refine cy_region ?_
        refine sy_move rfl rfl rfl ?_
        refine sy_eqs rfl rfl rfl rfl ?_
        refine sy_move rfl rfl rfl ?_
        refine sy_cond (d := 18) _ rfl rfl (fun hg18 => ?_) (fun hg18 => ?_)
        · refine sy_skip rfl rfl rfl ?_
          refine sy_skip rfl rfl rfl ?_
          refine sy_pickT rfl rfl rfl rfl ?_
          refine sy_nil rfl ?_
          refine ny_next ?_
          refine cy_condT rfl ?_
          refine cy_seq ?_
          refine cy_region ?_
          refine sy_assign rfl rfl rfl ?_
          refine sy_nil rfl ?_
          refine ny_next ?_
          refine cy_ret ?_
          refine ny_thenR ?_
          refine ny_finR (res1 rfl rfl) (fun w hs2 => ⟨?_, hs2.frm⟩)
          refine congrArg (fun b => Ending.returned (Value.bool b)) ?_
          unfold plainB
          simp_all
        · refine sy_move rfl rfl rfl ?_
          refine sy_eqs rfl rfl rfl rfl ?_
          refine sy_pickF rfl rfl rfl rfl ?_
          refine sy_nil rfl ?_
          refine ny_next ?_
          refine cy_cond rfl (fun hc21 => ?_) (fun hc21 => ?_)
          · refine cy_seq ?_
            refine cy_region ?_
            refine sy_assign rfl rfl rfl ?_
            refine sy_nil rfl ?_
            refine ny_next ?_
            refine cy_ret ?_
            refine ny_thenR ?_
            refine ny_finR (res1 rfl rfl) (fun w hs2 => ⟨?_, hs2.frm⟩)
            refine congrArg (fun b => Ending.returned (Value.bool b)) ?_
            unfold plainB
            simp_all
          · refine cy_skip ?_
            refine ny_next ?_
            refine cy_seq ?_
            have hne : s.data.toList ≠ [] := by
              intro h9
              rw [h9] at hg18
              simp at hg18
            obtain ⟨e0, r0, hl0⟩ : ∃ e0 r0, s.data.toList = e0 :: r0 := List.exists_cons_of_ne_nil hne
            have he0 : s.data.toList[0]? = some e0 := by rw [hl0]; rfl
            refine cy_region ?_
            refine sy_move rfl rfl rfl ?_
            refine sy_idxs (u := e0) Tryz.underlying9 rfl rfl (by omega) (ba_at (i := 0) he0) rfl rfl ?_
            refine sy_call rfl call_84 rfl (rsmall_c e0 _) rfl rfl ?_
            refine sy_assign rfl rfl rfl ?_
            refine sy_nil rfl ?_
            refine ny_next ?_
            refine cy_seq ?_
            refine cy_region ?_
            refine sy_assign rfl rfl rfl ?_
            refine sy_nil rfl ?_
            refine ny_next ?_
            refine cy_seq ?_
            refine cy_seq ?_
            refine cy_region ?_
            refine sy_assign rfl rfl rfl ?_
            refine sy_nil rfl ?_
            refine ny_next ?_
            refine cy_block ?_
            refine cy_loopK (ι := Nat) [0] rfl (fun i => i ≤ s.size) (fun i => s.size - i) (fun i => [(3, .bool (smallB e0 && (s.data.toList.take i).all letterB)), (4, .bool ((s.data.toList.take i).all signB)), (5, .int .i64 (i : Int))]) (fun i => h) (fun i => []) 0 [] (Nat.zero_le _) ⟨congrArg (fun b => some (Value.bool b)) (by simp), rfl, rfl, trivial⟩ rfl rfl ?_
            rintro i hI
            refine cy_seq ?_
            refine cy_seq ?_
            refine cy_region ?_
            refine sy_move rfl rfl rfl ?_
            refine sy_move rfl rfl rfl ?_
            refine sy_len rfl (len_string Tryz.underlying9 _) rfl rfl ?_
            refine sy_cmp rfl rfl rfl rfl rfl ?_
            refine sy_nil rfl ?_
            refine ny_next ?_
            refine cy_cond rfl (fun hc28 => ?_) (fun hc28 => ?_)
            · have hlti : i < s.size := by have := of_decide_eq_true hc28; omega
              obtain ⟨e1, he1⟩ : ∃ e1, s.data.toList[i]? = some e1 := ⟨_, List.getElem?_eq_getElem (by show i < s.size; omega)⟩
              refine cy_skip ?_
              refine ny_next ?_
              refine cy_seq ?_
              refine cy_block ?_
              refine cy_seq ?_
              refine cy_region ?_
              refine sy_move rfl rfl rfl ?_
              refine sy_move rfl rfl rfl ?_
              refine sy_cond (d := 32) _ rfl rfl (fun hg32 => ?_) (fun hg32 => ?_)
              · refine sy_move rfl rfl rfl ?_
                refine sy_move rfl rfl rfl ?_
                refine sy_idxs (u := e1) Tryz.underlying9 rfl rfl (by omega) (ba_at he1) rfl rfl ?_
                refine sy_call rfl call_85 rfl (rletter_c e1 _) rfl rfl ?_
                refine sy_pickT rfl rfl rfl rfl ?_
                refine sy_assign rfl rfl rfl ?_
                refine sy_nil rfl ?_
                refine ny_next ?_
                refine cy_region ?_
                refine sy_move rfl rfl rfl ?_
                refine sy_move rfl rfl rfl ?_
                refine sy_cond (d := 39) _ rfl rfl (fun hg39 => ?_) (fun hg39 => ?_)
                · refine sy_move rfl rfl rfl ?_
                  refine sy_move rfl rfl rfl ?_
                  refine sy_idxs (u := e1) Tryz.underlying9 rfl rfl (by omega) (ba_at he1) rfl rfl ?_
                  refine sy_call rfl call_86 rfl (rsign_c e1 _) rfl rfl ?_
                  refine sy_pickT rfl rfl rfl rfl ?_
                  refine sy_assign rfl rfl rfl ?_
                  refine sy_nil rfl ?_
                  refine ny_blockN ?_
                  refine ny_next ?_
                  refine cy_region ?_
                  refine sy_move rfl rfl rfl ?_
                  refine sy_addi (z := ((i + 1 : Nat) : Int)) rfl rfl (by omega) (by omega) (by omega) rfl rfl ?_
                  refine sy_assign rfl rfl rfl ?_
                  refine sy_nil rfl ?_
                  refine ny_roundK [0] (i + 1) [] (show i + 1 ≤ s.size by omega) (show s.size - (i + 1) < s.size - i by omega) rfl ⟨congrArg (fun b => some (Value.bool b)) (by rw [all_snoc he1, ← Bool.and_assoc]; first | (rw [hg32]; rfl) | rfl), congrArg (fun b => some (Value.bool b)) (by rw [all_snoc he1]; first | (rw [hg39]; rfl) | rfl), rfl, trivial⟩ rfl rfl
                · refine sy_skip rfl rfl rfl ?_
                  refine sy_skip rfl rfl rfl ?_
                  refine sy_skip rfl rfl rfl ?_
                  refine sy_skip rfl rfl rfl ?_
                  refine sy_pickF rfl rfl rfl rfl ?_
                  refine sy_assign rfl rfl rfl ?_
                  refine sy_nil rfl ?_
                  refine ny_blockN ?_
                  refine ny_next ?_
                  refine cy_region ?_
                  refine sy_move rfl rfl rfl ?_
                  refine sy_addi (z := ((i + 1 : Nat) : Int)) rfl rfl (by omega) (by omega) (by omega) rfl rfl ?_
                  refine sy_assign rfl rfl rfl ?_
                  refine sy_nil rfl ?_
                  refine ny_roundK [0] (i + 1) [] (show i + 1 ≤ s.size by omega) (show s.size - (i + 1) < s.size - i by omega) rfl ⟨congrArg (fun b => some (Value.bool b)) (by rw [all_snoc he1, ← Bool.and_assoc]; first | (rw [hg32]; rfl) | rfl), congrArg (fun b => some (Value.bool b)) (by rw [all_snoc he1]; first | (rw [hg39]; rfl) | rfl), rfl, trivial⟩ rfl rfl
              · refine sy_skip rfl rfl rfl ?_
                refine sy_skip rfl rfl rfl ?_
                refine sy_skip rfl rfl rfl ?_
                refine sy_skip rfl rfl rfl ?_
                refine sy_pickF rfl rfl rfl rfl ?_
                refine sy_assign rfl rfl rfl ?_
                refine sy_nil rfl ?_
                refine ny_next ?_
                refine cy_region ?_
                refine sy_move rfl rfl rfl ?_
                refine sy_move rfl rfl rfl ?_
                refine sy_cond (d := 39) _ rfl rfl (fun hg39 => ?_) (fun hg39 => ?_)
                · refine sy_move rfl rfl rfl ?_
                  refine sy_move rfl rfl rfl ?_
                  refine sy_idxs (u := e1) Tryz.underlying9 rfl rfl (by omega) (ba_at he1) rfl rfl ?_
                  refine sy_call rfl call_86 rfl (rsign_c e1 _) rfl rfl ?_
                  refine sy_pickT rfl rfl rfl rfl ?_
                  refine sy_assign rfl rfl rfl ?_
                  refine sy_nil rfl ?_
                  refine ny_blockN ?_
                  refine ny_next ?_
                  refine cy_region ?_
                  refine sy_move rfl rfl rfl ?_
                  refine sy_addi (z := ((i + 1 : Nat) : Int)) rfl rfl (by omega) (by omega) (by omega) rfl rfl ?_
                  refine sy_assign rfl rfl rfl ?_
                  refine sy_nil rfl ?_
                  refine ny_roundK [0] (i + 1) [] (show i + 1 ≤ s.size by omega) (show s.size - (i + 1) < s.size - i by omega) rfl ⟨congrArg (fun b => some (Value.bool b)) (by rw [all_snoc he1, ← Bool.and_assoc]; first | (rw [hg32]; rfl) | rfl), congrArg (fun b => some (Value.bool b)) (by rw [all_snoc he1]; first | (rw [hg39]; rfl) | rfl), rfl, trivial⟩ rfl rfl
                · refine sy_skip rfl rfl rfl ?_
                  refine sy_skip rfl rfl rfl ?_
                  refine sy_skip rfl rfl rfl ?_
                  refine sy_skip rfl rfl rfl ?_
                  refine sy_pickF rfl rfl rfl rfl ?_
                  refine sy_assign rfl rfl rfl ?_
                  refine sy_nil rfl ?_
                  refine ny_blockN ?_
                  refine ny_next ?_
                  refine cy_region ?_
                  refine sy_move rfl rfl rfl ?_
                  refine sy_addi (z := ((i + 1 : Nat) : Int)) rfl rfl (by omega) (by omega) (by omega) rfl rfl ?_
                  refine sy_assign rfl rfl rfl ?_
                  refine sy_nil rfl ?_
                  refine ny_roundK [0] (i + 1) [] (show i + 1 ≤ s.size by omega) (show s.size - (i + 1) < s.size - i by omega) rfl ⟨congrArg (fun b => some (Value.bool b)) (by rw [all_snoc he1, ← Bool.and_assoc]; first | (rw [hg32]; rfl) | rfl), congrArg (fun b => some (Value.bool b)) (by rw [all_snoc he1]; first | (rw [hg39]; rfl) | rfl), rfl, trivial⟩ rfl rfl
            · have hie : i = s.size := by have := of_decide_eq_false hc28; omega
              subst hie
              have htk : s.data.toList.take s.size = s.data.toList := List.take_of_length_le (Nat.le_refl _)
              rw [htk]
              refine cy_exit ?_
              refine ny_thenE ?_
              refine ny_thenE ?_
              refine ny_blockX ?_
              refine ny_next ?_
              refine cy_seq ?_
              refine cy_region ?_
              refine sy_move rfl rfl rfl ?_
              refine sy_move rfl rfl rfl ?_
              refine sy_cond (d := 46) _ rfl rfl (fun hg46 => ?_) (fun hg46 => ?_)
              · refine sy_skip rfl rfl rfl ?_
                refine sy_pickT rfl rfl rfl rfl ?_
                refine sy_assign rfl rfl rfl ?_
                refine sy_nil rfl ?_
                refine ny_next ?_
                refine cy_ret ?_
                refine ny_finR (res1 rfl rfl) (fun w hs2 => ⟨?_, hs2.frm⟩)
                refine congrArg (fun b => Ending.returned (Value.bool b)) ?_
                have q3 : firstB smallB s.data.toList = smallB e0 := by rw [hl0]; rfl
                rw [plain_end hg18 hc21 hg8 hg12 hc15, q3]
                first | (rw [hg46]; rfl) | rfl
              · refine sy_move rfl rfl rfl ?_
                refine sy_pickF rfl rfl rfl rfl ?_
                refine sy_assign rfl rfl rfl ?_
                refine sy_nil rfl ?_
                refine ny_next ?_
                refine cy_ret ?_
                refine ny_finR (res1 rfl rfl) (fun w hs2 => ⟨?_, hs2.frm⟩)
                refine congrArg (fun b => Ending.returned (Value.bool b)) ?_
                have q3 : firstB smallB s.data.toList = smallB e0 := by rw [hl0]; rfl
                rw [plain_end hg18 hc21 hg8 hg12 hc15, q3]
                first | (rw [hg46]; rfl) | rfl
end Go.Proofs.YtanhhihechakhaaGreatDoor
set_option linter.unusedVariables false
set_option linter.unusedSimpArgs false
namespace Go.Proofs.YtanhhihechakhaaGreatDoor
open Go.RowKit Go.Proofs.YtanhhihechakhaaGreatDoor.E Go.Proofs.YtanhhihechakhaaGreatDoor.ReplP Go.Proofs.YtanhhihechakhaaGreatDoor.TokP
set_option maxRecDepth 100000 in
theorem rquote_c (s : ByteArray) (h : Hp) (hs : s.size ≤ 70368744177600) : C0 Tryz.prog 40 [.string s] h (.string (quoteB s (plainB s.data.toList))) := by
  refine enter0 Tryz.func40 rfl rfl rfl (fun w => ?_)
  refine cy_seq ?_
  refine cy_region ?_
  refine sy_assign rfl rfl rfl ?_
  refine sy_nil rfl ?_
  refine ny_next ?_
  refine cy_seq ?_
  refine cy_seq ?_
  refine cy_region ?_
  refine sy_move rfl rfl rfl ?_
  refine sy_call rfl call_59 rfl (rplain_c s _ (by omega)) rfl rfl ?_
  refine sy_nil rfl ?_
  refine ny_next ?_
  refine cy_cond rfl (fun hc6 => ?_) (fun hc6 => ?_)
  · refine cy_seq ?_
    refine cy_region ?_
    refine sy_move rfl rfl rfl ?_
    refine sy_assign rfl rfl rfl ?_
    refine sy_nil rfl ?_
    refine ny_next ?_
    refine cy_ret ?_
    refine ny_thenR ?_
    refine ny_finR (res1 rfl rfl) (fun w hs2 => ⟨?_, hs2.frm⟩)
    unfold quoteB
    rw [hc6]
    rfl
  · refine cy_skip ?_
    refine ny_next ?_
    refine cy_seq ?_
    refine cy_region ?_
    refine sy_buildSlice rfl (fun w => bsl_40_1_0 w) rfl rfl (fun b8 hb8 hM8 => ?_) (by simp)
    refine sy_assign rfl rfl rfl ?_
    refine sy_nil rfl ?_
    refine ny_next ?_
    refine cy_seq ?_
    refine cy_seq ?_
    refine cy_region ?_
    refine sy_assign rfl rfl rfl ?_
    refine sy_nil rfl ?_
    refine ny_next ?_
    refine cy_block ?_
    refine cy_asRow (l := 1) (sz := 1) (cs := [.int .u8 39]) 0 rfl rfl (by decide) ?_
    refine cy_loopK (ι := Nat × Value) [0] rfl (fun z => z.1 ≤ s.size) (fun z => s.size - z.1) (fun z => [(3, z.2), (4, .int .i64 (z.1 : Int))]) (fun z => h) (fun z => [Res.row z.2 5 1 (1 + (repl (s.data.toList.take z.1)).length) (([39] ++ repl (s.data.toList.take z.1)).map bv)]) (0, .slice (some ⟨b8, 0, none⟩) 1 1) [0] (Nat.zero_le _) ⟨rfl, rfl, trivial⟩ rfl rfl ?_
    rintro ⟨i, v3⟩ hI
    simp only at hI ⊢
    refine cy_seq ?_
    refine cy_seq ?_
    refine cy_region ?_
    refine sy_move rfl rfl rfl ?_
    refine sy_move rfl rfl rfl ?_
    refine sy_len rfl (len_string Tryz.underlying9 _) rfl rfl ?_
    refine sy_cmp rfl rfl rfl rfl rfl ?_
    refine sy_nil rfl ?_
    refine ny_next ?_
    refine cy_cond rfl (fun hc12 => ?_) (fun hc12 => ?_)
    · have hlti : i < s.size := by have := of_decide_eq_true hc12; omega
      obtain ⟨e0, he0⟩ : ∃ e0, s.data.toList[i]? = some e0 := ⟨_, List.getElem?_eq_getElem (by show i < s.size; omega)⟩
      refine cy_skip ?_
      refine ny_next ?_
      refine cy_seq ?_
      refine cy_block ?_
      refine cy_seq ?_
      refine cy_region ?_
      refine sy_move rfl rfl rfl ?_
      refine sy_move rfl rfl rfl ?_
      refine sy_idxs (u := e0) Tryz.underlying9 rfl rfl (by omega) (ba_at he0) rfl rfl ?_
      refine sy_nil rfl ?_
      refine ny_next ?_
      refine cy_block ?_
      refine cy_seq ?_
      refine cy_region ?_
      refine sy_cmp rfl rfl rfl rfl rfl ?_
      refine sy_assign rfl rfl rfl ?_
      refine sy_nil rfl ?_
      refine ny_next ?_
      refine cy_cond rfl (fun hc24 => ?_) (fun hc24 => ?_)
      · have hone : one e0 = [39, 39] := by
          have h9 : (e0.toNat : Int) = 39 := by simpa using hc24
          have h8 : e0 = 39 := UInt8.toNat_inj.1 (by show e0.toNat = 39; omega)
          rw [h8]
          rfl
        refine cy_region ?_
        refine sy_move rfl rfl rfl ?_
        refine sy_buildSlice rfl (fun w => bsl_40_2_0x1 w) rfl rfl (fun b27 hb27 hM27 => ?_) (by simp)
        refine sy_append 1 0 row_40 (by decide) rfl rfl rfl rfl rfl rfl (by have := repl_take_le s.data.toList i; have : s.data.toList.length = s.size := rfl; omega) (by have := repl_take_le s.data.toList i; have : s.data.toList.length = s.size := rfl; simp only [maxLen]; omega) rfl rfl (fun v28 => ?_)
        refine sy_assign rfl rfl rfl ?_
        refine sy_nil rfl ?_
        refine ny_blockN ?_
        refine ny_blockN ?_
        refine ny_next ?_
        refine cy_region ?_
        refine sy_move rfl rfl rfl ?_
        refine sy_addi (z := ((i + 1 : Nat) : Int)) rfl rfl (by omega) (by omega) (by omega) rfl rfl ?_
        refine sy_assign rfl rfl rfl ?_
        refine sy_nil rfl ?_
        refine ny_roundK [0] (i + 1, v28) [0] (show i + 1 ≤ s.size by omega) (show s.size - (i + 1) < s.size - i by omega) rfl ⟨rfl, rfl, trivial⟩ rfl (by show _ = some [Res.row v28 5 1 (1 + (repl (s.data.toList.take (i + 1))).length) (([39] ++ repl (s.data.toList.take (i + 1))).map bv)]; rw [repl_snoc he0, hone, List.length_append, ← Nat.add_assoc, ← List.append_assoc, List.map_append (l₁ := [39] ++ repl (s.data.toList.take i))]; rfl)
      · refine cy_seq ?_
        refine cy_region ?_
        refine sy_cmp rfl rfl rfl rfl rfl ?_
        refine sy_assign rfl rfl rfl ?_
        refine sy_nil rfl ?_
        refine ny_next ?_
        refine cy_cond rfl (fun hc29 => ?_) (fun hc29 => ?_)
        · have hone : one e0 = [92, 92] := by
            have h9 : (e0.toNat : Int) = 92 := by simpa using hc29
            have h8 : e0 = 92 := UInt8.toNat_inj.1 (by show e0.toNat = 92; omega)
            rw [h8]
            rfl
          refine cy_region ?_
          refine sy_move rfl rfl rfl ?_
          refine sy_buildSlice rfl (fun w => bsl_40_2_0x1 w) rfl rfl (fun b32 hb32 hM32 => ?_) (by simp)
          refine sy_append 1 0 row_40 (by decide) rfl rfl rfl rfl rfl rfl (by have := repl_take_le s.data.toList i; have : s.data.toList.length = s.size := rfl; omega) (by have := repl_take_le s.data.toList i; have : s.data.toList.length = s.size := rfl; simp only [maxLen]; omega) rfl rfl (fun v33 => ?_)
          refine sy_assign rfl rfl rfl ?_
          refine sy_nil rfl ?_
          refine ny_blockN ?_
          refine ny_blockN ?_
          refine ny_next ?_
          refine cy_region ?_
          refine sy_move rfl rfl rfl ?_
          refine sy_addi (z := ((i + 1 : Nat) : Int)) rfl rfl (by omega) (by omega) (by omega) rfl rfl ?_
          refine sy_assign rfl rfl rfl ?_
          refine sy_nil rfl ?_
          refine ny_roundK [0] (i + 1, v33) [0] (show i + 1 ≤ s.size by omega) (show s.size - (i + 1) < s.size - i by omega) rfl ⟨rfl, rfl, trivial⟩ rfl (by show _ = some [Res.row v33 5 1 (1 + (repl (s.data.toList.take (i + 1))).length) (([39] ++ repl (s.data.toList.take (i + 1))).map bv)]; rw [repl_snoc he0, hone, List.length_append, ← Nat.add_assoc, ← List.append_assoc, List.map_append (l₁ := [39] ++ repl (s.data.toList.take i))]; rfl)
        · refine cy_seq ?_
          refine cy_region ?_
          refine sy_cmp rfl rfl rfl rfl rfl ?_
          refine sy_assign rfl rfl rfl ?_
          refine sy_nil rfl ?_
          refine ny_next ?_
          refine cy_cond rfl (fun hc34 => ?_) (fun hc34 => ?_)
          · have hone : one e0 = [92, 110] := by
              have h9 : (e0.toNat : Int) = 10 := by simpa using hc34
              have h8 : e0 = 10 := UInt8.toNat_inj.1 (by show e0.toNat = 10; omega)
              rw [h8]
              rfl
            refine cy_region ?_
            refine sy_move rfl rfl rfl ?_
            refine sy_buildSlice rfl (fun w => bsl_40_2_0x1 w) rfl rfl (fun b37 hb37 hM37 => ?_) (by simp)
            refine sy_append 1 0 row_40 (by decide) rfl rfl rfl rfl rfl rfl (by have := repl_take_le s.data.toList i; have : s.data.toList.length = s.size := rfl; omega) (by have := repl_take_le s.data.toList i; have : s.data.toList.length = s.size := rfl; simp only [maxLen]; omega) rfl rfl (fun v38 => ?_)
            refine sy_assign rfl rfl rfl ?_
            refine sy_nil rfl ?_
            refine ny_blockN ?_
            refine ny_blockN ?_
            refine ny_next ?_
            refine cy_region ?_
            refine sy_move rfl rfl rfl ?_
            refine sy_addi (z := ((i + 1 : Nat) : Int)) rfl rfl (by omega) (by omega) (by omega) rfl rfl ?_
            refine sy_assign rfl rfl rfl ?_
            refine sy_nil rfl ?_
            refine ny_roundK [0] (i + 1, v38) [0] (show i + 1 ≤ s.size by omega) (show s.size - (i + 1) < s.size - i by omega) rfl ⟨rfl, rfl, trivial⟩ rfl (by show _ = some [Res.row v38 5 1 (1 + (repl (s.data.toList.take (i + 1))).length) (([39] ++ repl (s.data.toList.take (i + 1))).map bv)]; rw [repl_snoc he0, hone, List.length_append, ← Nat.add_assoc, ← List.append_assoc, List.map_append (l₁ := [39] ++ repl (s.data.toList.take i))]; rfl)
          · have hone : one e0 = [e0] := by
              refine one_no ?_
              unfold isSp
              have q1 : ¬ (e0.toNat : Int) = 39 := by simpa using hc24
              have q2 : ¬ (e0.toNat : Int) = 92 := by simpa using hc29
              have q3 : ¬ (e0.toNat : Int) = 10 := by simpa using hc34
              have r1 : ¬ e0 = 39 := fun h9 => q1 (by rw [h9]; rfl)
              have r2 : ¬ e0 = 92 := fun h9 => q2 (by rw [h9]; rfl)
              have r3 : ¬ e0 = 10 := fun h9 => q3 (by rw [h9]; rfl)
              simp [r1, r2, r3]
            refine cy_region ?_
            refine sy_move rfl rfl rfl ?_
            refine sy_move rfl rfl rfl ?_
            refine sy_move rfl rfl rfl ?_
            refine sy_idxs (u := e0) Tryz.underlying9 rfl rfl (by omega) (ba_at he0) rfl rfl ?_
            refine sy_buildSlice rfl (fun w => bsl_40_1_0 w) rfl rfl (fun b22 hb22 hM22 => ?_) (by simp)
            refine sy_append 1 0 row_40 (by decide) rfl rfl rfl rfl rfl rfl (by have := repl_take_le s.data.toList i; have : s.data.toList.length = s.size := rfl; omega) (by have := repl_take_le s.data.toList i; have : s.data.toList.length = s.size := rfl; simp only [maxLen]; omega) rfl rfl (fun v23 => ?_)
            refine sy_assign rfl rfl rfl ?_
            refine sy_nil rfl ?_
            refine ny_blockN ?_
            refine ny_blockN ?_
            refine ny_next ?_
            refine cy_region ?_
            refine sy_move rfl rfl rfl ?_
            refine sy_addi (z := ((i + 1 : Nat) : Int)) rfl rfl (by omega) (by omega) (by omega) rfl rfl ?_
            refine sy_assign rfl rfl rfl ?_
            refine sy_nil rfl ?_
            refine ny_roundK [0] (i + 1, v23) [0] (show i + 1 ≤ s.size by omega) (show s.size - (i + 1) < s.size - i by omega) rfl ⟨rfl, rfl, trivial⟩ rfl (by show _ = some [Res.row v23 5 1 (1 + (repl (s.data.toList.take (i + 1))).length) (([39] ++ repl (s.data.toList.take (i + 1))).map bv)]; rw [repl_snoc he0, hone, List.length_append, ← Nat.add_assoc, ← List.append_assoc, List.map_append (l₁ := [39] ++ repl (s.data.toList.take i))]; rfl)
    · have hie : i = s.size := by have := of_decide_eq_false hc12; omega
      subst hie
      have htk : s.data.toList.take s.size = s.data.toList := List.take_of_length_le (Nat.le_refl _)
      rw [htk]
      refine cy_exit ?_
      refine ny_thenE ?_
      refine ny_thenE ?_
      refine ny_blockX ?_
      refine ny_next ?_
      refine cy_seq ?_
      refine cy_region ?_
      refine sy_move rfl rfl rfl ?_
      refine sy_buildSlice rfl (fun w => bsl_40_1_0 w) rfl rfl (fun b40 hb40 hM40 => ?_) (by simp)
      refine sy_append 1 0 row_40 (by decide) rfl rfl rfl rfl rfl rfl (by have := repl_le s.data.toList; have : s.data.toList.length = s.size := rfl; omega) (by have := repl_le s.data.toList; have : s.data.toList.length = s.size := rfl; simp only [maxLen]; omega) rfl rfl (fun v41 => ?_)
      refine sy_frzRow 0 rfl (fun _ _ => by simp) (fun A9 c9 h9 hv9 hlc9 hcm9 _ hle9 hcell9 => ?_)
      subst hv9
      have hr9 : RowsAt h9 A9 1 ((([39] ++ repl s.data.toList) ++ [39]).map byteC) := rows_row (by decide) (byteC_len _) (by rw [byteC_flat, List.map_append]; exact hcell9)
      refine sy_bytesh Tryz.underlying40 Tryz.underlying5 Tryz.underlying9 rfl hr9 (by simp; omega) rfl rfl ?_
      refine sy_assign rfl rfl rfl ?_
      refine sy_nil rfl ?_
      refine ny_next ?_
      refine cy_ret ?_
      refine ny_finR (res1 rfl rfl) (fun w hs2 => ⟨?_, hs2.frm⟩)
      unfold quoteB
      rw [hc6]
      refine congrArg (fun b => Ending.returned (Value.string b)) ?_
      apply ByteArray.ext
      simp
end Go.Proofs.YtanhhihechakhaaGreatDoor
set_option linter.unusedVariables false
set_option linter.unusedSimpArgs false
namespace Go.Proofs.YtanhhihechakhaaGreatDoor.TokP
open Go.RowKit Go.Proofs.YtanhhihechakhaaGreatDoor.E Go.Proofs.YtanhhihechakhaaGreatDoor.ReplP
theorem ext_from (s : ByteArray) (i : Nat) : (s.extract i s.size).data.toList = s.data.toList.drop i := by
  obtain ⟨⟨l⟩⟩ := s
  simp [ByteArray.size]
  rw [List.take_of_length_le (by rw [List.length_drop]; exact Nat.le_refl _)]
theorem ext_to (s : ByteArray) (i : Nat) : (s.extract 0 i).data.toList = s.data.toList.take i := by
  obtain ⟨⟨l⟩⟩ := s
  simp
theorem drop_at {l : List UInt8} {i : Nat} {e : UInt8} (h : l[i]? = some e) : l.drop i = e :: l.drop (i + 1) := by
  have hl := (List.getElem?_eq_some_iff.1 h).1
  rw [List.drop_eq_getElem_cons hl, (List.getElem?_eq_some_iff.1 h).2]
theorem skip_nil : skipN [] = 0 := by rw [skipN]
theorem skip_cons (c : UInt8) (l : List UInt8) : skipN (c :: l) = if c = 37 then (if runB lineB l = l.length then l.length + 1 else runB lineB l + 2 + skipN (l.drop (runB lineB l + 1))) else if blankB c = true then 1 + skipN l else 0 := by rw [skipN]
theorem line_pct : lineB 37 = true := rfl
section
variable {l : List UInt8} {i : Nat} {e : UInt8}
theorem skip_blank (h : l[i]? = some e) (h1 : ¬ e = 37) (h2 : blankB e = true) : i + 1 + skipN (l.drop (i + 1)) = i + skipN (l.drop i) := by
  rw [drop_at h, skip_cons, if_neg h1, if_pos h2]
  omega
theorem skip_stop (h : l[i]? = some e) (h1 : ¬ e = 37) (h2 : blankB e = false) : skipN (l.drop i) = 0 := by
  rw [drop_at h, skip_cons, if_neg h1, h2]
  rfl
theorem skip_run (h : l[i]? = some e) (h1 : e = 37) : runB lineB (l.drop i) = runB lineB (l.drop (i + 1)) + 1 := by
  rw [drop_at h, h1, runB_yes line_pct]
theorem skip_last (h : l[i]? = some e) (h1 : e = 37) (h2 : i + runB lineB (l.drop i) = l.length) : i + skipN (l.drop i) = l.length := by
  have hl := (List.getElem?_eq_some_iff.1 h).1
  rw [skip_run h h1] at h2
  have h3 : runB lineB (l.drop (i + 1)) = (l.drop (i + 1)).length := by rw [List.length_drop]; omega
  rw [drop_at h, skip_cons, if_pos h1, if_pos h3, List.length_drop]
  omega
theorem skip_remark (h : l[i]? = some e) (h1 : e = 37) (h2 : ¬ i + runB lineB (l.drop i) = l.length) : i + runB lineB (l.drop i) + 1 ≤ l.length ∧ (i + runB lineB (l.drop i) + 1) + skipN (l.drop (i + runB lineB (l.drop i) + 1)) = i + skipN (l.drop i) := by
  have hl := (List.getElem?_eq_some_iff.1 h).1
  have h4 := runB_le lineB (l.drop i)
  rw [List.length_drop] at h4
  refine ⟨by omega, ?_⟩
  rw [skip_run h h1] at h2 h4
  have h3 : ¬ runB lineB (l.drop (i + 1)) = (l.drop (i + 1)).length := by rw [List.length_drop]; omega
  have h5 : skipN (l.drop i) = runB lineB (l.drop (i + 1)) + 2 + skipN ((l.drop (i + 1)).drop (runB lineB (l.drop (i + 1)) + 1)) := by rw [drop_at h, skip_cons, if_pos h1, if_neg h3]
  have h6 : (l.drop (i + 1)).drop (runB lineB (l.drop (i + 1)) + 1) = l.drop (i + runB lineB (l.drop i) + 1) := by
    rw [List.drop_drop, skip_run h h1]
    congr 1
    omega
  rw [h6] at h5
  rw [h5, skip_run h h1]
  omega
end
theorem skip_le : ∀ (k : Nat) (l : List UInt8), l.length ≤ k → skipN l ≤ l.length
  | _, [], _ => by rw [skip_nil]; exact Nat.le_refl _
  | 0, _ :: _, h => by simp at h
  | k + 1, c :: l, h => by
    have hl : l.length ≤ k := by simpa using h
    rw [skip_cons, List.length_cons]
    split
    · split
      · exact Nat.le_refl _
      · have h1 := skip_le k (l.drop (runB lineB l + 1)) (by rw [List.length_drop]; omega)
        have h2 := runB_le lineB l
        rw [List.length_drop] at h1
        omega
    · split
      · have := skip_le k l hl
        omega
      · exact Nat.zero_le _
/-! ends and escapes -/
def pointB : List UInt8 → Bool
  | [] => false
  | c :: _ => c == 46
theorem point_take (l : List UInt8) : (l.take 1 == [46]) = pointB l := by
  cases l with
  | nil => rfl
  | cons c t => simp [pointB]
theorem point_nil {l : List UInt8} (h : ¬ 1 ≤ l.length) : pointB l = false := by
  cases l with
  | nil => rfl
  | cons c t => simp at h
theorem point_some {l : List UInt8} (h : pointB l = true) : 1 ≤ l.length := by
  cases l with
  | nil => simp [pointB] at h
  | cons c t => simp
def afterB : Option UInt8 → Bool
  | none => false
  | some d => blankB d || ((d.toNat : Int) == 37)
def endsB (l : List UInt8) : Bool := pointB l && (((l.length : Int) == 1) || afterB l[1]?)
def esc (c : UInt8) : Option UInt8 := if ((c.toNat : Int) == 92) = true then some c else if ((c.toNat : Int) == 39) = true then some c else if ((c.toNat : Int) == 110) = true then some 10 else none
end Go.Proofs.YtanhhihechakhaaGreatDoor.TokP
set_option linter.unusedVariables false
set_option linter.unusedSimpArgs false
namespace Go.Proofs.YtanhhihechakhaaGreatDoor
open Go.RowKit Go.Proofs.YtanhhihechakhaaGreatDoor.E Go.Proofs.YtanhhihechakhaaGreatDoor.ReplP Go.Proofs.YtanhhihechakhaaGreatDoor.TokP
set_option maxRecDepth 100000 in
theorem skip_c (s : ByteArray) (h : Hp) (hs : s.size ≤ 70368744177600) : C0 Tryz.prog 50 [.string s] h (.int .i64 ((skipN s.data.toList : Nat) : Int)) := by
  refine enter0 Tryz.func50 rfl rfl rfl (fun w => ?_)
  refine cy_seq ?_
  refine cy_region ?_
  refine sy_assign rfl rfl rfl ?_
  refine sy_nil rfl ?_
  refine ny_next ?_
  refine cy_seq ?_
  refine cy_region ?_
  refine sy_assign rfl rfl rfl ?_
  refine sy_nil rfl ?_
  refine ny_next ?_
  refine cy_seq ?_
  refine cy_block ?_
  refine cy_loopK (ι := Nat) [0] rfl (fun i => i ≤ s.size ∧ i + skipN (s.data.toList.drop i) = skipN s.data.toList) (fun i => s.size - i) (fun i => [(3, .int .i64 (i : Int))]) (fun i => h) (fun i => []) 0 [] ⟨Nat.zero_le _, by simp⟩ ⟨rfl, trivial⟩ rfl rfl ?_
  rintro i ⟨hI, hpre⟩
  have hsz : s.data.toList.length = s.size := rfl
  refine cy_seq ?_
  refine cy_seq ?_
  refine cy_region ?_
  refine sy_move rfl rfl rfl ?_
  refine sy_move rfl rfl rfl ?_
  refine sy_len rfl (len_string Tryz.underlying9 _) rfl rfl ?_
  refine sy_cmp rfl rfl rfl rfl rfl ?_
  refine sy_nil rfl ?_
  refine ny_next ?_
  refine cy_cond rfl (fun hc8 => ?_) (fun hc8 => ?_)
  · have hlti : i < s.size := by have := of_decide_eq_true hc8; omega
    obtain ⟨e0, he0⟩ : ∃ e0, s.data.toList[i]? = some e0 := ⟨_, List.getElem?_eq_getElem (by show i < s.size; omega)⟩
    refine cy_skip ?_
    refine ny_next ?_
    refine cy_block ?_
    refine cy_seq ?_
    refine cy_region ?_
    refine sy_move rfl rfl rfl ?_
    refine sy_move rfl rfl rfl ?_
    refine sy_idxs (u := e0) Tryz.underlying9 rfl rfl (by omega) (ba_at he0) rfl rfl ?_
    refine sy_assign rfl rfl rfl ?_
    refine sy_nil rfl ?_
    refine ny_next ?_
    refine cy_block ?_
    refine cy_seq ?_
    refine cy_block ?_
    refine cy_seq ?_
    refine cy_block ?_
    refine cy_seq ?_
    refine cy_block ?_
    refine cy_seq ?_
    refine cy_seq ?_
    refine cy_seq ?_
    refine cy_region ?_
    refine sy_move rfl rfl rfl ?_
    refine sy_cmp rfl rfl rfl rfl rfl ?_
    refine sy_assign rfl rfl rfl ?_
    refine sy_nil rfl ?_
    refine ny_next ?_
    refine cy_cond rfl (fun hc12 => ?_) (fun hc12 => ?_)
    · have h37 : e0 = 37 := UInt8.toNat_inj.1 (by have h9 : (e0.toNat : Int) = 37 := (by simpa using hc12); show e0.toNat = 37; omega)
      refine cy_exit ?_
      refine ny_thenE ?_
      refine ny_thenE ?_
      refine ny_blockX ?_
      refine ny_next ?_
      refine cy_seq ?_
      refine cy_region ?_
      refine sy_move rfl rfl rfl ?_
      refine sy_move rfl rfl rfl ?_
      refine sy_move rfl rfl rfl ?_
      refine sy_strfrom Tryz.underlying9 rfl rfl (by omega) rfl rfl ?_
      have hxs : (s.extract i s.size).size ≤ 140737488355328 := by
        have h9 : (s.extract i s.size).size = (s.extract i s.size).data.toList.length := rfl
        rw [h9, ext_from, List.length_drop]
        omega
      refine sy_call rfl call_65 rfl (row_c (s.extract i s.size) 66 lineB _ hxs call_66 (fun c h => line_c c h)) rfl rfl ?_
      rw [ext_from]
      have hrl := runB_le lineB (s.data.toList.drop i)
      rw [List.length_drop] at hrl
      refine sy_addi (z := ((i + runB lineB (s.data.toList.drop i) : Nat) : Int)) rfl rfl (by omega) (by omega) (by omega) rfl rfl ?_
      refine sy_assign rfl rfl rfl ?_
      refine sy_nil rfl ?_
      refine ny_next ?_
      refine cy_seq ?_
      refine cy_region ?_
      refine sy_move rfl rfl rfl ?_
      refine sy_move rfl rfl rfl ?_
      refine sy_len rfl (len_string Tryz.underlying9 _) rfl rfl ?_
      refine sy_cmp rfl rfl rfl rfl rfl ?_
      refine sy_nil rfl ?_
      refine ny_next ?_
      refine cy_cond rfl (fun hc27 => ?_) (fun hc27 => ?_)
      · refine cy_seq ?_
        refine cy_region ?_
        refine sy_move rfl rfl rfl ?_
        refine sy_assign rfl rfl rfl ?_
        refine sy_nil rfl ?_
        refine ny_next ?_
        refine cy_ret ?_
        refine ny_blockR ?_
        refine ny_thenR ?_
        refine ny_blockR ?_
        refine ny_thenR ?_
        refine ny_blockR ?_
        refine ny_blockR ?_
        refine ny_thenR ?_
        refine ny_blockR ?_
        refine ny_thenR ?_
        refine ny_finR (res1 rfl rfl) (fun w hs2 => ⟨?_, hs2.frm⟩)
        refine congrArg (fun z : Nat => Ending.returned (Value.int .i64 (z : Int))) ?_
        have hnl : i + runB lineB (s.data.toList.drop i) = s.size := by have h9 := eq_of_beq hc27; omega
        have h8 := skip_last he0 h37 hnl
        omega
      · have hnl : ¬ i + runB lineB (s.data.toList.drop i) = s.size := by
          intro h9
          rw [h9] at hc27
          simp at hc27
        have hsk := skip_remark he0 h37 hnl
        refine cy_skip ?_
        refine ny_blockN ?_
        refine ny_next ?_
        refine cy_seq ?_
        refine cy_region ?_
        refine sy_move rfl rfl rfl ?_
        refine sy_addi (z := ((i + runB lineB (s.data.toList.drop i) + 1 : Nat) : Int)) rfl rfl (by omega) (by omega) (by omega) rfl rfl ?_
        refine sy_assign rfl rfl rfl ?_
        refine sy_nil rfl ?_
        refine ny_next ?_
        refine cy_exit ?_
        refine ny_blockY rfl ?_
        refine ny_thenE ?_
        refine ny_blockX ?_
        refine ny_blockN ?_
        refine ny_roundK [0] (i + runB lineB (s.data.toList.drop i) + 1) [] ⟨hsk.1, hsk.2.trans hpre⟩ (by have := hsk.1; show s.size - (i + runB lineB (s.data.toList.drop i) + 1) < s.size - i; omega) rfl ⟨rfl, trivial⟩ rfl rfl
    · have h37 : ¬ e0 = 37 := by
        intro h9
        rw [h9] at hc12
        simp at hc12
      refine cy_skip ?_
      refine ny_next ?_
      refine cy_seq ?_
      refine cy_region ?_
      refine sy_move rfl rfl rfl ?_
      refine sy_call rfl call_67 rfl (blank_c e0 _) rfl rfl ?_
      refine sy_assign rfl rfl rfl ?_
      refine sy_nil rfl ?_
      refine ny_next ?_
      refine cy_cond rfl (fun hc15 => ?_) (fun hc15 => ?_)
      · refine cy_exit ?_
        refine ny_thenE ?_
        refine ny_blockY rfl ?_
        refine ny_thenE ?_
        refine ny_blockX ?_
        refine ny_next ?_
        refine cy_seq ?_
        refine cy_region ?_
        refine sy_move rfl rfl rfl ?_
        refine sy_addi (z := ((i + 1 : Nat) : Int)) rfl rfl (by omega) (by omega) (by omega) rfl rfl ?_
        refine sy_assign rfl rfl rfl ?_
        refine sy_nil rfl ?_
        refine ny_next ?_
        refine cy_exit ?_
        refine ny_blockY rfl ?_
        refine ny_thenE ?_
        refine ny_blockX ?_
        refine ny_blockN ?_
        refine ny_roundK [0] (i + 1) [] ⟨by omega, (skip_blank he0 h37 hc15).trans hpre⟩ (show s.size - (i + 1) < s.size - i by omega) rfl ⟨rfl, trivial⟩ rfl rfl
      · refine cy_skip ?_
        refine ny_next ?_
        refine cy_exit ?_
        refine ny_blockY rfl ?_
        refine ny_thenE ?_
        refine ny_blockY rfl ?_
        refine ny_thenE ?_
        refine ny_blockX ?_
        refine ny_next ?_
        refine cy_seq ?_
        refine cy_seq ?_
        refine cy_region ?_
        refine sy_move rfl rfl rfl ?_
        refine sy_assign rfl rfl rfl ?_
        refine sy_nil rfl ?_
        refine ny_next ?_
        refine cy_ret ?_
        refine ny_thenR ?_
        refine ny_blockR ?_
        refine ny_blockR ?_
        refine ny_thenR ?_
        refine ny_blockR ?_
        refine ny_thenR ?_
        refine ny_finR (res1 rfl rfl) (fun w hs2 => ⟨?_, hs2.frm⟩)
        refine congrArg (fun z : Nat => Ending.returned (Value.int .i64 (z : Int))) ?_
        have h8 := skip_stop he0 h37 hc15
        omega
  · have hie : i = s.size := by have := of_decide_eq_false hc8; omega
    subst hie
    refine cy_exit ?_
    refine ny_thenE ?_
    refine ny_thenE ?_
    refine ny_blockX ?_
    refine ny_next ?_
    refine cy_seq ?_
    refine cy_region ?_
    refine sy_move rfl rfl rfl ?_
    refine sy_assign rfl rfl rfl ?_
    refine sy_nil rfl ?_
    refine ny_next ?_
    refine cy_ret ?_
    refine ny_finR (res1 rfl rfl) (fun w hs2 => ⟨?_, hs2.frm⟩)
    refine congrArg (fun z : Nat => Ending.returned (Value.int .i64 (z : Int))) ?_
    rw [show s.data.toList.drop s.size = [] from List.drop_eq_nil_of_le (Nat.le_refl _), skip_nil] at hpre
    exact hpre
set_option maxRecDepth 100000 in
theorem hp2_c (s : ByteArray) (h : Hp) (hs : s.size ≤ 70368744177600) : C0 Tryz.prog 60 [.string s, .string ⟨#[46]⟩] h (.bool (pointB s.data.toList)) := by
  refine enter0 Tryz.func60 rfl rfl rfl (fun w => ?_)
  refine cy_seq ?_
  refine cy_region ?_
  refine sy_assign rfl rfl rfl ?_
  refine sy_nil rfl ?_
  refine ny_next ?_
  refine cy_seq ?_
  refine cy_region ?_
  refine sy_move rfl rfl rfl ?_
  refine sy_len rfl (len_string Tryz.underlying9 _) rfl rfl ?_
  refine sy_move rfl rfl rfl ?_
  refine sy_len rfl (len_string Tryz.underlying9 _) rfl rfl ?_
  refine sy_cmp rfl rfl rfl rfl rfl ?_
  refine sy_move rfl rfl rfl ?_
  refine sy_cond (d := 10) _ rfl rfl (fun hg10 => ?_) (fun hg10 => ?_)
  · refine sy_move rfl rfl rfl ?_
    refine sy_move rfl rfl rfl ?_
    refine sy_len rfl (len_string Tryz.underlying9 _) rfl rfl ?_
    refine sy_strto (hi := 1) Tryz.underlying9 rfl rfl (by have := of_decide_eq_true hg10; have h8 : (⟨#[46]⟩ : ByteArray).size = 1 := rfl; omega) rfl rfl ?_
    refine sy_move rfl rfl rfl ?_
    refine sy_eqs rfl rfl rfl rfl ?_
    refine sy_pickT rfl rfl rfl rfl ?_
    refine sy_assign rfl rfl rfl ?_
    refine sy_nil rfl ?_
    refine ny_next ?_
    refine cy_ret ?_
    refine ny_finR (res1 rfl rfl) (fun w hs2 => ⟨?_, hs2.frm⟩)
    refine congrArg (fun b => Ending.returned (Value.bool b)) ?_
    first | (rw [ext_to]; exact point_take _) | exact (point_nil (by have h9 := of_decide_eq_false hg10; have h8 : (⟨#[46]⟩ : ByteArray).size = 1 := rfl; have h7 : s.data.toList.length = s.size := rfl; omega)).symm
  · refine sy_skip rfl rfl rfl ?_
    refine sy_skip rfl rfl rfl ?_
    refine sy_skip rfl rfl rfl ?_
    refine sy_skip rfl rfl rfl ?_
    refine sy_skip rfl rfl rfl ?_
    refine sy_skip rfl rfl rfl ?_
    refine sy_pickF rfl rfl rfl rfl ?_
    refine sy_assign rfl rfl rfl ?_
    refine sy_nil rfl ?_
    refine ny_next ?_
    refine cy_ret ?_
    refine ny_finR (res1 rfl rfl) (fun w hs2 => ⟨?_, hs2.frm⟩)
    refine congrArg (fun b => Ending.returned (Value.bool b)) ?_
    first | (rw [ext_to]; exact point_take _) | exact (point_nil (by have h9 := of_decide_eq_false hg10; have h8 : (⟨#[46]⟩ : ByteArray).size = 1 := rfl; have h7 : s.data.toList.length = s.size := rfl; omega)).symm
set_option maxRecDepth 100000 in
theorem hp_c (s : ByteArray) (h : Hp) (hs : s.size ≤ 70368744177600) : C0 Tryz.prog 41 [.string s, .string ⟨#[46]⟩] h (.bool (pointB s.data.toList)) := by
  refine enter0 Tryz.func41 rfl rfl rfl (fun w => ?_)
  refine cy_seq ?_
  refine cy_region ?_
  refine sy_assign rfl rfl rfl ?_
  refine sy_nil rfl ?_
  refine ny_next ?_
  refine cy_seq ?_
  refine cy_region ?_
  refine sy_move rfl rfl rfl ?_
  refine sy_move rfl rfl rfl ?_
  refine sy_call rfl call_60 rfl (hp2_c s _ hs) rfl rfl ?_
  refine sy_assign rfl rfl rfl ?_
  refine sy_nil rfl ?_
  refine ny_next ?_
  refine cy_ret ?_
  refine ny_finR (res1 rfl rfl) (fun w hs => ⟨?_, hs.frm⟩)
  rfl
set_option maxRecDepth 100000 in
theorem ends_c (s : ByteArray) (h : Hp) (hs : s.size ≤ 70368744177600) : C0 Tryz.prog 75 [.string s] h (.bool (endsB s.data.toList)) := by
  refine enter0 Tryz.func75 rfl rfl rfl (fun w => ?_)
  refine cy_seq ?_
  refine cy_region ?_
  refine sy_assign rfl rfl rfl ?_
  refine sy_nil rfl ?_
  refine ny_next ?_
  refine cy_seq ?_
  refine cy_region ?_
  refine sy_move rfl rfl rfl ?_
  refine sy_call rfl call_41 rfl (hp_c s _ hs) rfl rfl ?_
  refine sy_move rfl rfl rfl ?_
  refine sy_cond (d := 5) _ rfl rfl (fun hg5 => ?_) (fun hg5 => ?_)
  · refine sy_move rfl rfl rfl ?_
    refine sy_len rfl (len_string Tryz.underlying9 _) rfl rfl ?_
    refine sy_cmp rfl rfl rfl rfl rfl ?_
    refine sy_move rfl rfl rfl ?_
    refine sy_cond (d := 9) _ rfl rfl (fun hg9 => ?_) (fun hg9 => ?_)
    · refine sy_skip rfl rfl rfl ?_
      refine sy_skip rfl rfl rfl ?_
      refine sy_skip rfl rfl rfl ?_
      refine sy_pickT rfl rfl rfl rfl ?_
      refine sy_move rfl rfl rfl ?_
      refine sy_skip rfl rfl rfl ?_
      refine sy_skip rfl rfl rfl ?_
      refine sy_skip rfl rfl rfl ?_
      refine sy_pickT rfl rfl rfl rfl ?_
      refine sy_pickT rfl rfl rfl rfl ?_
      refine sy_assign rfl rfl rfl ?_
      refine sy_nil rfl ?_
      refine ny_next ?_
      refine cy_ret ?_
      refine ny_finR (res1 rfl rfl) (fun w hs2 => ⟨?_, hs2.frm⟩)
      refine congrArg (fun b => Ending.returned (Value.bool b)) ?_
      have h7 : ((s.data.toList.length : Int) == 1) = ((s.size : Int) == 1) := rfl
      unfold endsB
      rw [h7, hg5]
      first | rfl | (rw [hg9, he0]; show _ = (true && (false || (blankB e0 || ((e0.toNat : Int) == 37)))); rw [hg14]; rfl) | (rw [hg9]; rfl)
    · have hsz1 : s.data.toList.length = s.size := rfl
      have hp1 := point_some hg5
      obtain ⟨e0, he0⟩ : ∃ e0, s.data.toList[1]? = some e0 := ⟨_, List.getElem?_eq_getElem (by have h9 : ¬ (s.size : Int) = 1 := (by simpa using hg9); omega)⟩
      refine sy_move rfl rfl rfl ?_
      refine sy_idxs (u := e0) Tryz.underlying9 rfl rfl (by omega) (ba_at (i := 1) he0) rfl rfl ?_
      refine sy_call rfl call_67 rfl (blank_c e0 _) rfl rfl ?_
      refine sy_pickF rfl rfl rfl rfl ?_
      refine sy_move rfl rfl rfl ?_
      refine sy_cond (d := 14) _ rfl rfl (fun hg14 => ?_) (fun hg14 => ?_)
      · refine sy_skip rfl rfl rfl ?_
        refine sy_skip rfl rfl rfl ?_
        refine sy_skip rfl rfl rfl ?_
        refine sy_pickT rfl rfl rfl rfl ?_
        refine sy_pickT rfl rfl rfl rfl ?_
        refine sy_assign rfl rfl rfl ?_
        refine sy_nil rfl ?_
        refine ny_next ?_
        refine cy_ret ?_
        refine ny_finR (res1 rfl rfl) (fun w hs2 => ⟨?_, hs2.frm⟩)
        refine congrArg (fun b => Ending.returned (Value.bool b)) ?_
        have h7 : ((s.data.toList.length : Int) == 1) = ((s.size : Int) == 1) := rfl
        unfold endsB
        rw [h7, hg5]
        first | rfl | (rw [hg9, he0]; show _ = (true && (false || (blankB e0 || ((e0.toNat : Int) == 37)))); rw [hg14]; rfl) | (rw [hg9]; rfl)
      · refine sy_move rfl rfl rfl ?_
        refine sy_idxs (u := e0) Tryz.underlying9 rfl rfl (by omega) (ba_at (i := 1) he0) rfl rfl ?_
        refine sy_cmp rfl rfl rfl rfl rfl ?_
        refine sy_pickF rfl rfl rfl rfl ?_
        refine sy_pickT rfl rfl rfl rfl ?_
        refine sy_assign rfl rfl rfl ?_
        refine sy_nil rfl ?_
        refine ny_next ?_
        refine cy_ret ?_
        refine ny_finR (res1 rfl rfl) (fun w hs2 => ⟨?_, hs2.frm⟩)
        refine congrArg (fun b => Ending.returned (Value.bool b)) ?_
        have h7 : ((s.data.toList.length : Int) == 1) = ((s.size : Int) == 1) := rfl
        unfold endsB
        rw [h7, hg5]
        first | rfl | (rw [hg9, he0]; show _ = (true && (false || (blankB e0 || ((e0.toNat : Int) == 37)))); rw [hg14]; rfl) | (rw [hg9]; rfl)
  · refine sy_skip rfl rfl rfl ?_
    refine sy_skip rfl rfl rfl ?_
    refine sy_skip rfl rfl rfl ?_
    refine sy_skip rfl rfl rfl ?_
    refine sy_skip rfl rfl rfl ?_
    refine sy_skip rfl rfl rfl ?_
    refine sy_skip rfl rfl rfl ?_
    refine sy_skip rfl rfl rfl ?_
    refine sy_skip rfl rfl rfl ?_
    refine sy_skip rfl rfl rfl ?_
    refine sy_skip rfl rfl rfl ?_
    refine sy_skip rfl rfl rfl ?_
    refine sy_skip rfl rfl rfl ?_
    refine sy_pickF rfl rfl rfl rfl ?_
    refine sy_assign rfl rfl rfl ?_
    refine sy_nil rfl ?_
    refine ny_next ?_
    refine cy_ret ?_
    refine ny_finR (res1 rfl rfl) (fun w hs2 => ⟨?_, hs2.frm⟩)
    refine congrArg (fun b => Ending.returned (Value.bool b)) ?_
    have h7 : ((s.data.toList.length : Int) == 1) = ((s.size : Int) == 1) := rfl
    unfold endsB
    rw [h7, hg5]
    first | rfl | (rw [hg9, he0]; show _ = (true && (false || (blankB e0 || ((e0.toNat : Int) == 37)))); rw [hg14]; rfl) | (rw [hg9]; rfl)
set_option maxRecDepth 100000 in
theorem esc_c (c : UInt8) (h : Hp) : C0 Tryz.prog 92 [.int .u8 (c.toNat : Int)] h (.tuple #[.int .u8 (((esc c).getD 0).toNat : Int), .bool (esc c).isSome]) := by
  refine enter0 Tryz.func92 rfl rfl rfl (fun w => ?_)
  refine cy_seq ?_
  refine cy_region ?_
  refine sy_assign rfl rfl rfl ?_
  refine sy_assign rfl rfl rfl ?_
  refine sy_nil rfl ?_
  refine ny_next ?_
  refine cy_seq ?_
  refine cy_seq ?_
  refine cy_region ?_
  refine sy_move rfl rfl rfl ?_
  refine sy_nil rfl ?_
  refine ny_next ?_
  refine cy_block ?_
  refine cy_seq ?_
  refine cy_seq ?_
  refine cy_region ?_
  refine sy_cmp rfl rfl rfl rfl rfl ?_
  refine sy_assign rfl rfl rfl ?_
  refine sy_nil rfl ?_
  refine ny_next ?_
  refine cy_cond rfl (fun hc5 => ?_) (fun hc5 => ?_)
  · refine cy_skip ?_
    refine ny_next ?_
    refine cy_cond rfl (fun hc5 => ?_) (fun hc5 => ?_)
    · refine cy_seq ?_
      refine cy_region ?_
      refine sy_move rfl rfl rfl ?_
      refine sy_assign rfl rfl rfl ?_
      refine sy_assign rfl rfl rfl ?_
      refine sy_nil rfl ?_
      refine ny_next ?_
      refine cy_ret ?_
      refine ny_blockR ?_
      refine ny_thenR ?_
      refine ny_finR (res2 rfl rfl rfl) (fun w hs2 => ⟨?_, hs2.frm⟩)
      unfold esc
      first | (rw [if_pos (by assumption)]; done) | (simp_all; done)
    · refine cy_seq ?_
      refine cy_region ?_
      refine sy_cmp rfl rfl rfl rfl rfl ?_
      refine sy_assign rfl rfl rfl ?_
      refine sy_nil rfl ?_
      refine ny_next ?_
      refine cy_cond rfl (fun hc9 => ?_) (fun hc9 => ?_)
      · refine cy_seq ?_
        refine cy_region ?_
        refine sy_assign rfl rfl rfl ?_
        refine sy_assign rfl rfl rfl ?_
        refine sy_nil rfl ?_
        refine ny_next ?_
        refine cy_ret ?_
        refine ny_blockR ?_
        refine ny_thenR ?_
        refine ny_finR (res2 rfl rfl rfl) (fun w hs2 => ⟨?_, hs2.frm⟩)
        unfold esc
        first | (rw [if_pos (by assumption)]; done) | (simp_all; done)
      · refine cy_skip ?_
        refine ny_blockN ?_
        refine ny_next ?_
        refine cy_seq ?_
        refine cy_region ?_
        refine sy_assign rfl rfl rfl ?_
        refine sy_assign rfl rfl rfl ?_
        refine sy_nil rfl ?_
        refine ny_next ?_
        refine cy_ret ?_
        refine ny_finR (res2 rfl rfl rfl) (fun w hs2 => ⟨?_, hs2.frm⟩)
        unfold esc
        first | (rw [if_pos (by assumption)]; done) | (simp_all; done)
  · refine cy_region ?_
    refine sy_cmp rfl rfl rfl rfl rfl ?_
    refine sy_assign rfl rfl rfl ?_
    refine sy_nil rfl ?_
    refine ny_next ?_
    refine cy_cond rfl (fun hc5 => ?_) (fun hc5 => ?_)
    · refine cy_seq ?_
      refine cy_region ?_
      refine sy_move rfl rfl rfl ?_
      refine sy_assign rfl rfl rfl ?_
      refine sy_assign rfl rfl rfl ?_
      refine sy_nil rfl ?_
      refine ny_next ?_
      refine cy_ret ?_
      refine ny_blockR ?_
      refine ny_thenR ?_
      refine ny_finR (res2 rfl rfl rfl) (fun w hs2 => ⟨?_, hs2.frm⟩)
      unfold esc
      first | (rw [if_pos (by assumption)]; done) | (simp_all; done)
    · refine cy_seq ?_
      refine cy_region ?_
      refine sy_cmp rfl rfl rfl rfl rfl ?_
      refine sy_assign rfl rfl rfl ?_
      refine sy_nil rfl ?_
      refine ny_next ?_
      refine cy_cond rfl (fun hc9 => ?_) (fun hc9 => ?_)
      · refine cy_seq ?_
        refine cy_region ?_
        refine sy_assign rfl rfl rfl ?_
        refine sy_assign rfl rfl rfl ?_
        refine sy_nil rfl ?_
        refine ny_next ?_
        refine cy_ret ?_
        refine ny_blockR ?_
        refine ny_thenR ?_
        refine ny_finR (res2 rfl rfl rfl) (fun w hs2 => ⟨?_, hs2.frm⟩)
        unfold esc
        first | (rw [if_pos (by assumption)]; done) | (simp_all; done)
      · refine cy_skip ?_
        refine ny_blockN ?_
        refine ny_next ?_
        refine cy_seq ?_
        refine cy_region ?_
        refine sy_assign rfl rfl rfl ?_
        refine sy_assign rfl rfl rfl ?_
        refine sy_nil rfl ?_
        refine ny_next ?_
        refine cy_ret ?_
        refine ny_finR (res2 rfl rfl rfl) (fun w hs2 => ⟨?_, hs2.frm⟩)
        unfold esc
        first | (rw [if_pos (by assumption)]; done) | (simp_all; done)
set_option maxRecDepth 100000 in
theorem bad_c (w : ByteArray) (e : Int) (h : Hp) : C0 Tryz.prog 49 [.string w, .int .i64 e] h (.iface 100 (.agg #[.string w, .int .i64 e])) := by
  refine enter0 Tryz.func49 rfl rfl rfl (fun w => ?_)
  refine cy_seq ?_
  refine cy_region ?_
  refine sy_assign rfl rfl rfl ?_
  refine sy_nil rfl ?_
  refine ny_next ?_
  refine cy_seq ?_
  refine cy_region ?_
  refine sy_move rfl rfl rfl ?_
  refine sy_move rfl rfl rfl ?_
  refine sy_build rfl (fun w => bld_100_0x1 w) rfl rfl ?_
  refine sy_iface Tryz.underlying100 rfl rfl rfl rfl ?_
  refine sy_assign rfl rfl rfl ?_
  refine sy_nil rfl ?_
  refine ny_next ?_
  refine cy_ret ?_
  refine ny_finR (res1 rfl rfl) (fun w hs => ⟨?_, hs.frm⟩)
  rfl
end Go.Proofs.YtanhhihechakhaaGreatDoor
set_option linter.unusedVariables false
set_option linter.unusedSimpArgs false
namespace Go.Proofs.YtanhhihechakhaaGreatDoor.E
open Go.RowKit
section
variable {m : Md} {P : Program} {ops : Array Oper} {Q : Exit → Act → World → Prop} {n : Nat} {D : List Deferred} {w0 : World} {M : List Nat} {h0 : Hp}
variable {f : Tab} {h : Hp} {H : List Res} {rest : List Oper} {o : Oper}
variable {d t s : Nat} {p : String} {af : Array Edge} {g : Option (Nat × Bool)}
theorem sy_subK {x y : Operand} {ik : IntKind} {m1 m2 z : Int} {s2 : Nat} (hx : f.ev x = some (.int ik m1)) (hy : f.ev y = some (.int ik m2)) (hz : ik.wrap (m1 - m2) = z) (hw : gok ops f g = some true) (hn : Nat.blt d n = true)
    (k : Sy m P ops Q n D w0 M h0 rest ((d, .int ik z) :: f) h H) : Sy m P ops Q n D w0 M h0 (⟨some d, .binOp .sub s x y s2, t, p, af, g⟩ :: rest) f h H := sy_sub hx hy hw hn (by rw [hz]; exact k)
theorem sy_addK {x y : Operand} {ik : IntKind} {m1 m2 z : Int} {s2 : Nat} (hx : f.ev x = some (.int ik m1)) (hy : f.ev y = some (.int ik m2)) (hz : ik.wrap (m1 + m2) = z) (hw : gok ops f g = some true) (hn : Nat.blt d n = true)
    (k : Sy m P ops Q n D w0 M h0 rest ((d, .int ik z) :: f) h H) : Sy m P ops Q n D w0 M h0 (⟨some d, .binOp .add s x y s2, t, p, af, g⟩ :: rest) f h H := sy_add hx hy hw hn (by rw [hz]; exact k)
theorem sy_mulK {x y : Operand} {ik : IntKind} {m1 m2 z : Int} {s2 : Nat} (hx : f.ev x = some (.int ik m1)) (hy : f.ev y = some (.int ik m2)) (hz : ik.wrap (m1 * m2) = z) (hw : gok ops f g = some true) (hn : Nat.blt d n = true)
    (k : Sy m P ops Q n D w0 M h0 rest ((d, .int ik z) :: f) h H) : Sy m P ops Q n D w0 M h0 (⟨some d, .binOp .mul s x y s2, t, p, af, g⟩ :: rest) f h H := sy_mul hx hy hw hn (by rw [hz]; exact k)
theorem sy_convK {x : Operand} {i1 i2 : IntKind} {mm z : Int} {s2 : Nat} (hs : P.underlying s = some (.int i1)) (ht : P.underlying s2 = some (.int i2)) (hx : f.ev x = some (.int i1 mm)) (hz : i2.wrap mm = z) (hw : gok ops f g = some true) (hn : Nat.blt d n = true)
    (k : Sy m P ops Q n D w0 M h0 rest ((d, .int i2 z) :: f) h H) : Sy m P ops Q n D w0 M h0 (⟨some d, .convert s s2 x, t, p, af, g⟩ :: rest) f h H := sy_conv hs ht hx hw hn (by rw [hz]; exact k)
theorem run_quoU {a b z : Int} (h1 : 0 < b) (hz : Int.tdiv a b = z) (hl : 0 ≤ z) (hu : z ≤ 18446744073709551615) (w : World) : (binOp .quo s (.int .u64 a) (.int .u64 b)).run P w = .ok (.int .u64 z) w := by
  have h5 : ¬ b = 0 := by omega
  have h6 : ¬ b = -1 := by omega
  subst hz
  simp [binOp, Op.intDiv, h5, IntWalk.u64_in (Int.tdiv a b) ⟨hl, hu⟩]
theorem sy_quoU {x y : Operand} {m1 m2 z : Int} {s2 : Nat} (hx : f.ev x = some (.int .u64 m1)) (hy : f.ev y = some (.int .u64 m2)) (h1 : 0 < m2) (hz : Int.tdiv m1 m2 = z) (hl : 0 ≤ z) (hu : z ≤ 18446744073709551615) (hw : gok ops f g = some true) (hn : Nat.blt d n = true)
    (k : Sy m P ops Q n D w0 M h0 rest ((d, .int .u64 z) :: f) h H) : Sy m P ops Q n D w0 M h0 (⟨some d, .binOp .quo s x y s2, t, p, af, g⟩ :: rest) f h H :=
  sy_bin hx hy ⟨by simp, by simp⟩ (fun w => run_quoU h1 hz hl hu w) hw hn k
theorem rescT {fn : Func} {t u u2 ty e l : Nat} {fr : Nat × Nat} {b : Nat} {cs vs : List Value} {v2 v3 : Value} {H1 : List Res} (i : Nat) (hr : fn.results = #[.cell t ty, .tmp u, .tmp u2]) (hty : aggB P ty l = true) (hv : f.get t = some (.pointer (some ⟨b, 0, none⟩))) (hu : f.get u = some v2) (hu2 : f.get u2 = some v3)
    (hp : pickR i H = some (.blk b (.cells cs.toArray e fr), H1)) (hc : sliceO 0 l cs = some vs) :
    ∀ a w, Holds n [] f a → St w0 M h0 h H w → (results fn a.tmps).run P w = .ok (.tuple #[.agg vs.toArray, v2, v3]) w := fun a w ha hs => by
  have h1 := ha.get t _ hv
  have h2 := ha.get u v2 hu
  have h2b := ha.get u2 v3 hu2
  have hb : w.heap[b]? = some (.cells cs.toArray e fr) := (hs.swap (pickR_perm hp)).ok _ (List.mem_cons_self)
  obtain ⟨h5, h6⟩ := agg_spec hty w
  obtain ⟨h7, h8⟩ := sliceO_spec hc
  subst h7
  have h3 := run_loadCells_list (P := P) w ⟨b, 0, none⟩ vs (fun j u hj => by
    rw [Addr.add_at]
    have := h8 j u hj
    simp only [Nat.zero_add] at this ⊢
    simp [World.cell?, hb, this])
  simp [results, hr, h1, h2, h2b, asAddr, loadVar, h5, h6, h3]
end
end Go.Proofs.YtanhhihechakhaaGreatDoor.E
namespace Go.Proofs.YtanhhihechakhaaGreatDoor.TokP
open Go.RowKit Go.Proofs.YtanhhihechakhaaGreatDoor.E Go.Proofs.YtanhhihechakhaaGreatDoor.ReplP
/-- what the scanner answers: a token and how many bytes it has, or what is wrong -/
structure Ans where
  kind : Int
  str : ByteArray
  num : Int
  quo : Bool
  used : Nat
  err : Option (ByteArray × Int)
def Ans.tok (k : Int) (s : ByteArray) (n : Int) (q : Bool) (used : Nat) : Ans := ⟨k, s, n, q, used, none⟩
def Ans.bad (what : ByteArray) (e : Int) : Ans := ⟨0, ⟨#[]⟩, 0, false, 0, some (what, e)⟩
def errV (T : Nat) : Option (ByteArray × Int) → Value
  | none => .nilIface
  | some x => .iface T (.agg #[.string x.1, .int .i64 x.2])
def ansV (T : Nat) (a : Ans) : Value := .tuple #[.agg #[.int .i64 a.kind, .string a.str, .int .i64 a.num, .bool a.quo, .bool false], .int .i64 (a.used : Int), errV T a.err]
def valN (l : List UInt8) : Nat := l.foldl (fun a c => 10 * a + (c.toNat - 48)) 0
theorem valN_snoc (l : List UInt8) (c : UInt8) : valN (l ++ [c]) = 10 * valN l + (c.toNat - 48) := by simp [valN]
theorem valN_succ {l : List UInt8} {i : Nat} {c : UInt8} (h : l[i]? = some c) : valN (l.take (i + 1)) = 10 * valN (l.take i) + (c.toNat - 48) := by
  rw [List.take_add_one, h]
  exact valN_snoc _ c
theorem foldl_ge : ∀ (l : List UInt8) (a : Nat), a ≤ l.foldl (fun a c => 10 * a + (c.toNat - 48)) a
  | [], a => Nat.le_refl _
  | c :: l, a => by
    rw [List.foldl_cons]
    have := foldl_ge l (10 * a + (c.toNat - 48))
    omega
theorem valN_le (l : List UInt8) (i : Nat) : valN (l.take i) ≤ valN l := by
  have e : l.take i ++ l.drop i = l := List.take_append_drop i l
  have h1 : valN l = (l.drop i).foldl (fun a c => 10 * a + (c.toNat - 48)) (valN (l.take i)) := by
    conv => lhs; rw [← e]
    unfold valN
    rw [List.foldl_append]
  rw [h1]
  exact foldl_ge _ _
theorem run_yes {p : UInt8 → Bool} : ∀ {l : List UInt8} {c : UInt8}, c ∈ l.take (runB p l) → p c = true
  | [], c, h => by simp [runB] at h
  | b :: l, c, h => by
    cases hb : p b with
    | false =>
      rw [runB_no hb] at h
      simp at h
    | true =>
      rw [runB_yes hb, List.take_succ_cons] at h
      rcases List.mem_cons.1 h with rfl | h
      · exact hb
      · exact run_yes h
def dotB : Option UInt8 → Bool
  | none => false
  | some c => (c.toNat : Int) == 46
def digO : Option UInt8 → Bool
  | none => false
  | some c => digitB c
def dottedB (l : List UInt8) (n : Nat) : Bool := (decide (((n : Int) + 1) < (l.length : Int)) && dotB l[n]?) && digO l[n + 1]?
def w1 : ByteArray := ⟨#[97, 32, 110, 117, 109, 98, 101, 114, 32, 119, 105, 116, 104, 32, 97, 32, 112, 111, 105, 110, 116]⟩
def w2 : ByteArray := ⟨#[97, 32, 110, 117, 109, 98, 101, 114]⟩
def figs (l : List UInt8) : List UInt8 := l.take (runB digitB l)
def numA (l : List UInt8) : Ans := if dottedB l (runB digitB l) = true then .bad w1 4 else if 9223372036854775808 < valN (figs l) then .bad w2 2 else .tok 3 ⟨#[]⟩ (IntKind.i64.wrap ((valN (figs l) : Nat) : Int)) false (runB digitB l)
theorem figs_len (l : List UInt8) : (figs l).length = runB digitB l := by
  unfold figs
  rw [List.length_take, Nat.min_eq_left (runB_le _ _)]
theorem figs_dig {l : List UInt8} {i : Nat} {c : UInt8} (h : (figs l)[i]? = some c) : 48 ≤ c.toNat ∧ c.toNat ≤ 57 := by
  have h1 := run_yes (List.mem_of_getElem? h)
  unfold digitB at h1
  rw [Bool.and_eq_true, decide_eq_true_iff, decide_eq_true_iff] at h1
  omega
end Go.Proofs.YtanhhihechakhaaGreatDoor.TokP
set_option linter.unusedVariables false
set_option linter.unusedSimpArgs false
namespace Go.Proofs.YtanhhihechakhaaGreatDoor
open Go.RowKit Go.Proofs.YtanhhihechakhaaGreatDoor.E Go.Proofs.YtanhhihechakhaaGreatDoor.ReplP Go.Proofs.YtanhhihechakhaaGreatDoor.TokP
set_option maxRecDepth 100000 in
theorem number_c (s : ByteArray) (h : Hp) (hs : s.size ≤ 70368744177600) : C0 Tryz.prog 72 [.string s] h (ansV 100 (numA s.data.toList)) := by
  refine enter0 Tryz.func72 rfl rfl rfl (fun w => ?_)
  refine cy_seq ?_
  refine cy_region ?_
  refine sy_alloc zer_79 rfl rfl (fun b2 hb2 hM2 => ?_) (by simp)
  refine sy_assign rfl rfl rfl ?_
  refine sy_assign rfl rfl rfl ?_
  refine sy_nil rfl ?_
  refine ny_next ?_
  refine cy_seq ?_
  refine cy_region ?_
  refine sy_move rfl rfl rfl ?_
  have hrl := runB_le digitB s.data.toList
  have hsz0 : s.data.toList.length = s.size := rfl
  refine sy_call rfl call_65 rfl (row_c s 71 digitB _ (by omega) call_71 (fun c h => digit_c c h)) rfl rfl ?_
  refine sy_assign rfl rfl rfl ?_
  refine sy_nil rfl ?_
  refine ny_next ?_
  refine cy_seq ?_
  refine cy_seq ?_
  refine cy_region ?_
  refine sy_move rfl rfl rfl ?_
  refine sy_addi rfl rfl rfl (by omega) (by omega) rfl rfl ?_
  refine sy_move rfl rfl rfl ?_
  refine sy_len rfl (len_string Tryz.underlying9 _) rfl rfl ?_
  refine sy_cmp rfl rfl rfl rfl rfl ?_
  refine sy_move rfl rfl rfl ?_
  refine sy_cond (d := 17) _ rfl rfl (fun hg17 => ?_) (fun hg17 => ?_)
  · have hsz : s.data.toList.length = s.size := rfl
    have h17 : ((runB digitB s.data.toList) : Int) + 1 < (s.size : Int) := of_decide_eq_true hg17
    obtain ⟨e0, he0⟩ : ∃ e0, s.data.toList[(runB digitB s.data.toList)]? = some e0 := ⟨_, List.getElem?_eq_getElem (by omega)⟩
    obtain ⟨e1, he1⟩ : ∃ e1, s.data.toList[(runB digitB s.data.toList) + 1]? = some e1 := ⟨_, List.getElem?_eq_getElem (by omega)⟩
    refine sy_move rfl rfl rfl ?_
    refine sy_move rfl rfl rfl ?_
    refine sy_idxs (u := e0) Tryz.underlying9 rfl rfl (by omega) (ba_at he0) rfl rfl ?_
    refine sy_cmp rfl rfl rfl rfl rfl ?_
    refine sy_pickT rfl rfl rfl rfl ?_
    refine sy_move rfl rfl rfl ?_
    refine sy_cond (d := 23) _ rfl rfl (fun hg23 => ?_) (fun hg23 => ?_)
    · refine sy_move rfl rfl rfl ?_
      refine sy_move rfl rfl rfl ?_
      refine sy_addi (z := (((runB digitB s.data.toList) + 1 : Nat) : Int)) rfl rfl (by omega) (by omega) (by omega) rfl rfl ?_
      refine sy_idxs (u := e1) Tryz.underlying9 rfl rfl (by omega) (ba_at he1) rfl rfl ?_
      refine sy_call rfl call_71 rfl (digit_c e1 _) rfl rfl ?_
      refine sy_pickT rfl rfl rfl rfl ?_
      refine sy_nil rfl ?_
      refine ny_next ?_
      refine cy_cond rfl (fun hc29 => ?_) (fun hc29 => ?_)
      · have hdot : dottedB s.data.toList (runB digitB s.data.toList) = true := by
          have h7 : decide ((((runB digitB s.data.toList) : Nat) : Int) + 1 < (s.data.toList.length : Int)) = decide ((((runB digitB s.data.toList) : Nat) : Int) + 1 < (s.size : Int)) := rfl
          unfold dottedB
          rw [h7]
          first | (rw [hg17, he0, he1]; show ((true && ((e0.toNat : Int) == 46)) && digitB e1) = _; first | (rw [hg23, hc29]; rfl) | (rw [hg23]; rfl)) | (rw [hg17]; rfl)
        refine cy_seq ?_
        refine cy_region ?_
        refine sy_build rfl (fun w => bld_79_ w) rfl rfl ?_
        refine sy_call rfl call_49 rfl (bad_c _ _ _) rfl rfl ?_
        first | refine sy_stl 0 sz_79 rfl rfl rfl rfl rfl rfl rfl rfl ?_ | refine sy_stl 1 sz_79 rfl rfl rfl rfl rfl rfl rfl rfl ?_ | refine sy_stl 2 sz_79 rfl rfl rfl rfl rfl rfl rfl rfl ?_
        refine sy_assign rfl rfl rfl ?_
        refine sy_assign rfl rfl rfl ?_
        refine sy_nil rfl ?_
        refine ny_next ?_
        refine cy_ret ?_
        refine ny_thenR ?_
        first | refine ny_finR (rescT 0 rfl agg_79 rfl rfl rfl rfl rfl) (fun w hs2 => ⟨?_, hs2.frm⟩) | refine ny_finR (rescT 1 rfl agg_79 rfl rfl rfl rfl rfl) (fun w hs2 => ⟨?_, hs2.frm⟩) | refine ny_finR (rescT 2 rfl agg_79 rfl rfl rfl rfl rfl) (fun w hs2 => ⟨?_, hs2.frm⟩)
        unfold numA
        rw [if_pos hdot]
        rfl
      · have hdot : dottedB s.data.toList (runB digitB s.data.toList) = false := by
          have h7 : decide ((((runB digitB s.data.toList) : Nat) : Int) + 1 < (s.data.toList.length : Int)) = decide ((((runB digitB s.data.toList) : Nat) : Int) + 1 < (s.size : Int)) := rfl
          unfold dottedB
          rw [h7]
          first | (rw [hg17, he0, he1]; show ((true && ((e0.toNat : Int) == 46)) && digitB e1) = _; first | (rw [hg23, hc29]; rfl) | (rw [hg23]; rfl)) | (rw [hg17]; rfl)
        refine cy_skip ?_
        refine ny_next ?_
        refine cy_seq ?_
        refine cy_region ?_
        refine sy_assign rfl rfl rfl ?_
        refine sy_nil rfl ?_
        refine ny_next ?_
        refine cy_seq ?_
        refine cy_seq ?_
        refine cy_region ?_
        refine sy_move rfl rfl rfl ?_
        refine sy_move rfl rfl rfl ?_
        refine sy_strto Tryz.underlying9 rfl rfl (by omega) rfl rfl ?_
        refine sy_strbytes Tryz.underlying9 Tryz.underlying40 Tryz.underlying5 rfl rfl rfl (fun b35 c35 h35 hle35 hr35 => ?_) (by simp)
        rw [ext_to] at hr35
        have hfl := figs_len s.data.toList
        have hxs : (s.extract 0 (runB digitB s.data.toList)).size = (runB digitB s.data.toList) := by
          have h9 : (s.extract 0 (runB digitB s.data.toList)).size = (s.extract 0 (runB digitB s.data.toList)).data.toList.length := rfl
          rw [h9, ext_to]
          exact hfl
        rw [hxs]
        refine sy_len rfl (len_slice Tryz.underlying40 _ _ _) rfl rfl ?_
        refine sy_move rfl rfl rfl ?_
        refine sy_nil rfl ?_
        refine ny_next ?_
        refine cy_block ?_
        refine cy_loopK (ι := Nat) [2, 5, 35, 36] rfl (fun i => i ≤ (runB digitB s.data.toList) ∧ valN ((figs s.data.toList).take i) ≤ 9223372036854775808) (fun i => (runB digitB s.data.toList) - i) (fun i => [(6, .int .u64 ((valN ((figs s.data.toList).take i) : Nat) : Int)), (37, .int .i64 (i : Int))]) (fun i => h35) (fun i => [.blk b2 (.cells [.int .i64 0, .string ⟨#[]⟩, .int .i64 0, .bool false, .bool false].toArray 79 (0, 0))]) 0 [0] ⟨Nat.zero_le _, by simp [valN]⟩ ⟨rfl, rfl, trivial⟩ rfl rfl ?_
        rintro i ⟨hI, hpre⟩
        refine cy_seq ?_
        refine cy_region ?_
        refine sy_cmp rfl rfl rfl rfl rfl ?_
        refine sy_nil rfl ?_
        refine ny_next ?_
        refine cy_seq ?_
        refine cy_cond rfl (fun hc38 => ?_) (fun hc38 => ?_)
        · have hlti : i < (runB digitB s.data.toList) := by have := of_decide_eq_true hc38; omega
          refine cy_skip ?_
          refine ny_next ?_
          refine cy_seq ?_
          refine cy_block ?_
          refine cy_seq ?_
          refine cy_region ?_
          refine sy_idxR (fc := byteC) (es := (figs s.data.toList)) els_40 rfl rfl hr35 hfl (by omega) rfl rfl (fun e39 b39 o39 he39 hA39 hc39 => ?_)
          refine sy_ldh one_5 rfl (hc39 0 _ rfl) rfl rfl ?_
          have hdg := figs_dig he39
          refine sy_assign rfl rfl rfl ?_
          refine sy_nil rfl ?_
          refine ny_next ?_
          refine cy_seq ?_
          refine cy_region ?_
          refine sy_move rfl rfl rfl ?_
          refine sy_subK (z := ((e39.toNat - 48 : Nat) : Int)) rfl rfl (by rw [IntWalk.u8_in _ ⟨by omega, by omega⟩]; omega) rfl rfl ?_
          refine sy_convK (z := ((e39.toNat - 48 : Nat) : Int)) Tryz.underlying5 Tryz.underlying121 rfl (by rw [IntWalk.u64_in _ ⟨by omega, by omega⟩]) rfl rfl ?_
          refine sy_assign rfl rfl rfl ?_
          refine sy_nil rfl ?_
          refine ny_next ?_
          refine cy_seq ?_
          refine cy_seq ?_
          refine cy_region ?_
          refine sy_move rfl rfl rfl ?_
          refine sy_move rfl rfl rfl ?_
          refine sy_subK (z := ((9223372036854775808 - (e39.toNat - 48) : Nat) : Int)) rfl rfl (by rw [IntWalk.u64_in _ ⟨by omega, by omega⟩]; omega) rfl rfl ?_
          refine sy_quoU (z := (((9223372036854775808 - (e39.toNat - 48)) / 10 : Nat) : Int)) rfl rfl (by decide) rfl (by omega) (by omega) rfl rfl ?_
          refine sy_cmp rfl rfl rfl rfl rfl ?_
          refine sy_nil rfl ?_
          refine ny_next ?_
          refine cy_cond rfl (fun hc48 => ?_) (fun hc48 => ?_)
          · have hbig : 9223372036854775808 < valN (figs s.data.toList) := by
              have h9 := of_decide_eq_true hc48
              have h8 := valN_le (figs s.data.toList) (i + 1)
              rw [valN_succ he39] at h8
              omega
            refine cy_seq ?_
            refine cy_region ?_
            refine sy_build rfl (fun w => bld_79_ w) rfl rfl ?_
            refine sy_call rfl call_49 rfl (bad_c _ _ _) rfl rfl ?_
            first | refine sy_stl 0 sz_79 rfl rfl rfl rfl rfl rfl rfl rfl ?_ | refine sy_stl 1 sz_79 rfl rfl rfl rfl rfl rfl rfl rfl ?_ | refine sy_stl 2 sz_79 rfl rfl rfl rfl rfl rfl rfl rfl ?_
            refine sy_assign rfl rfl rfl ?_
            refine sy_assign rfl rfl rfl ?_
            refine sy_nil rfl ?_
            refine ny_next ?_
            refine cy_ret ?_
            refine ny_thenR ?_
            refine ny_blockR ?_
            refine ny_thenR ?_
            refine ny_thenR ?_
            refine ny_blockR ?_
            refine ny_thenR ?_
            first | refine ny_finR (rescT 0 rfl agg_79 rfl rfl rfl rfl rfl) (fun w hs2 => ⟨?_, hs2.frm⟩) | refine ny_finR (rescT 1 rfl agg_79 rfl rfl rfl rfl rfl) (fun w hs2 => ⟨?_, hs2.frm⟩) | refine ny_finR (rescT 2 rfl agg_79 rfl rfl rfl rfl rfl) (fun w hs2 => ⟨?_, hs2.frm⟩)
            unfold numA
            rw [hdot, if_neg (by decide), if_pos hbig]
            rfl
          · have hok := of_decide_eq_false hc48
            refine cy_skip ?_
            refine ny_next ?_
            refine cy_region ?_
            refine sy_move rfl rfl rfl ?_
            refine sy_mulK (z := ((10 * valN ((figs s.data.toList).take i) : Nat) : Int)) rfl rfl (by rw [IntWalk.u64_in _ ⟨by omega, by omega⟩]; omega) rfl rfl ?_
            refine sy_move rfl rfl rfl ?_
            refine sy_addK (z := ((10 * valN ((figs s.data.toList).take i) + (e39.toNat - 48) : Nat) : Int)) rfl rfl (by rw [IntWalk.u64_in _ ⟨by omega, by omega⟩]; omega) rfl rfl ?_
            refine sy_assign rfl rfl rfl ?_
            refine sy_nil rfl ?_
            refine ny_blockN ?_
            refine ny_next ?_
            refine cy_region ?_
            refine sy_addi (z := ((i + 1 : Nat) : Int)) rfl rfl (by omega) (by omega) (by omega) rfl rfl ?_
            refine sy_move rfl rfl rfl ?_
            refine sy_nil rfl ?_
            refine ny_roundK [2, 5, 35, 36] (i + 1) [0] ⟨by omega, by rw [valN_succ he39]; omega⟩ (show (runB digitB s.data.toList) - (i + 1) < (runB digitB s.data.toList) - i by omega) rfl ⟨congrArg (fun z : Nat => some (Value.int .u64 (z : Int))) (valN_succ he39).symm, rfl, trivial⟩ rfl rfl
        · have hie : i = (runB digitB s.data.toList) := by have := of_decide_eq_false hc38; omega
          have htk : (figs s.data.toList).take i = (figs s.data.toList) := List.take_of_length_le (by omega)
          rw [htk] at hpre ⊢
          refine cy_exit ?_
          refine ny_thenE ?_
          refine ny_thenE ?_
          refine ny_blockX ?_
          refine ny_next ?_
          refine cy_seq ?_
          refine cy_region ?_
          refine sy_move rfl rfl rfl ?_
          refine sy_convK Tryz.underlying121 Tryz.underlying2 rfl rfl rfl rfl ?_
          refine sy_build rfl (fun w => bld_79_0x2 w) rfl rfl ?_
          refine sy_move rfl rfl rfl ?_
          first | refine sy_stl 0 sz_79 rfl rfl rfl rfl rfl rfl rfl rfl ?_ | refine sy_stl 1 sz_79 rfl rfl rfl rfl rfl rfl rfl rfl ?_ | refine sy_stl 2 sz_79 rfl rfl rfl rfl rfl rfl rfl rfl ?_
          refine sy_assign rfl rfl rfl ?_
          refine sy_assign rfl rfl rfl ?_
          refine sy_nil rfl ?_
          refine ny_next ?_
          refine cy_ret ?_
          first | refine ny_finR (rescT 0 rfl agg_79 rfl rfl rfl rfl rfl) (fun w hs2 => ⟨?_, hs2.frm⟩) | refine ny_finR (rescT 1 rfl agg_79 rfl rfl rfl rfl rfl) (fun w hs2 => ⟨?_, hs2.frm⟩) | refine ny_finR (rescT 2 rfl agg_79 rfl rfl rfl rfl rfl) (fun w hs2 => ⟨?_, hs2.frm⟩)
          unfold numA
          rw [hdot, if_neg (by decide), if_neg (by omega)]
          rfl
    · refine sy_skip rfl rfl rfl ?_
      refine sy_skip rfl rfl rfl ?_
      refine sy_skip rfl rfl rfl ?_
      refine sy_skip rfl rfl rfl ?_
      refine sy_skip rfl rfl rfl ?_
      refine sy_pickF rfl rfl rfl rfl ?_
      refine sy_nil rfl ?_
      refine ny_next ?_
      refine cy_condF rfl ?_
      have hdot : dottedB s.data.toList (runB digitB s.data.toList) = false := by
        have h7 : decide ((((runB digitB s.data.toList) : Nat) : Int) + 1 < (s.data.toList.length : Int)) = decide ((((runB digitB s.data.toList) : Nat) : Int) + 1 < (s.size : Int)) := rfl
        unfold dottedB
        rw [h7]
        first | (rw [hg17, he0, he1]; show ((true && ((e0.toNat : Int) == 46)) && digitB e1) = _; first | (rw [hg23, hc29]; rfl) | (rw [hg23]; rfl)) | (rw [hg17]; rfl)
      refine cy_skip ?_
      refine ny_next ?_
      refine cy_seq ?_
      refine cy_region ?_
      refine sy_assign rfl rfl rfl ?_
      refine sy_nil rfl ?_
      refine ny_next ?_
      refine cy_seq ?_
      refine cy_seq ?_
      refine cy_region ?_
      refine sy_move rfl rfl rfl ?_
      refine sy_move rfl rfl rfl ?_
      refine sy_strto Tryz.underlying9 rfl rfl (by omega) rfl rfl ?_
      refine sy_strbytes Tryz.underlying9 Tryz.underlying40 Tryz.underlying5 rfl rfl rfl (fun b35 c35 h35 hle35 hr35 => ?_) (by simp)
      rw [ext_to] at hr35
      have hfl := figs_len s.data.toList
      have hxs : (s.extract 0 (runB digitB s.data.toList)).size = (runB digitB s.data.toList) := by
        have h9 : (s.extract 0 (runB digitB s.data.toList)).size = (s.extract 0 (runB digitB s.data.toList)).data.toList.length := rfl
        rw [h9, ext_to]
        exact hfl
      rw [hxs]
      refine sy_len rfl (len_slice Tryz.underlying40 _ _ _) rfl rfl ?_
      refine sy_move rfl rfl rfl ?_
      refine sy_nil rfl ?_
      refine ny_next ?_
      refine cy_block ?_
      refine cy_loopK (ι := Nat) [2, 5, 35, 36] rfl (fun i => i ≤ (runB digitB s.data.toList) ∧ valN ((figs s.data.toList).take i) ≤ 9223372036854775808) (fun i => (runB digitB s.data.toList) - i) (fun i => [(6, .int .u64 ((valN ((figs s.data.toList).take i) : Nat) : Int)), (37, .int .i64 (i : Int))]) (fun i => h35) (fun i => [.blk b2 (.cells [.int .i64 0, .string ⟨#[]⟩, .int .i64 0, .bool false, .bool false].toArray 79 (0, 0))]) 0 [0] ⟨Nat.zero_le _, by simp [valN]⟩ ⟨rfl, rfl, trivial⟩ rfl rfl ?_
      rintro i ⟨hI, hpre⟩
      refine cy_seq ?_
      refine cy_region ?_
      refine sy_cmp rfl rfl rfl rfl rfl ?_
      refine sy_nil rfl ?_
      refine ny_next ?_
      refine cy_seq ?_
      refine cy_cond rfl (fun hc38 => ?_) (fun hc38 => ?_)
      · have hlti : i < (runB digitB s.data.toList) := by have := of_decide_eq_true hc38; omega
        refine cy_skip ?_
        refine ny_next ?_
        refine cy_seq ?_
        refine cy_block ?_
        refine cy_seq ?_
        refine cy_region ?_
        refine sy_idxR (fc := byteC) (es := (figs s.data.toList)) els_40 rfl rfl hr35 hfl (by omega) rfl rfl (fun e39 b39 o39 he39 hA39 hc39 => ?_)
        refine sy_ldh one_5 rfl (hc39 0 _ rfl) rfl rfl ?_
        have hdg := figs_dig he39
        refine sy_assign rfl rfl rfl ?_
        refine sy_nil rfl ?_
        refine ny_next ?_
        refine cy_seq ?_
        refine cy_region ?_
        refine sy_move rfl rfl rfl ?_
        refine sy_subK (z := ((e39.toNat - 48 : Nat) : Int)) rfl rfl (by rw [IntWalk.u8_in _ ⟨by omega, by omega⟩]; omega) rfl rfl ?_
        refine sy_convK (z := ((e39.toNat - 48 : Nat) : Int)) Tryz.underlying5 Tryz.underlying121 rfl (by rw [IntWalk.u64_in _ ⟨by omega, by omega⟩]) rfl rfl ?_
        refine sy_assign rfl rfl rfl ?_
        refine sy_nil rfl ?_
        refine ny_next ?_
        refine cy_seq ?_
        refine cy_seq ?_
        refine cy_region ?_
        refine sy_move rfl rfl rfl ?_
        refine sy_move rfl rfl rfl ?_
        refine sy_subK (z := ((9223372036854775808 - (e39.toNat - 48) : Nat) : Int)) rfl rfl (by rw [IntWalk.u64_in _ ⟨by omega, by omega⟩]; omega) rfl rfl ?_
        refine sy_quoU (z := (((9223372036854775808 - (e39.toNat - 48)) / 10 : Nat) : Int)) rfl rfl (by decide) rfl (by omega) (by omega) rfl rfl ?_
        refine sy_cmp rfl rfl rfl rfl rfl ?_
        refine sy_nil rfl ?_
        refine ny_next ?_
        refine cy_cond rfl (fun hc48 => ?_) (fun hc48 => ?_)
        · have hbig : 9223372036854775808 < valN (figs s.data.toList) := by
            have h9 := of_decide_eq_true hc48
            have h8 := valN_le (figs s.data.toList) (i + 1)
            rw [valN_succ he39] at h8
            omega
          refine cy_seq ?_
          refine cy_region ?_
          refine sy_build rfl (fun w => bld_79_ w) rfl rfl ?_
          refine sy_call rfl call_49 rfl (bad_c _ _ _) rfl rfl ?_
          first | refine sy_stl 0 sz_79 rfl rfl rfl rfl rfl rfl rfl rfl ?_ | refine sy_stl 1 sz_79 rfl rfl rfl rfl rfl rfl rfl rfl ?_ | refine sy_stl 2 sz_79 rfl rfl rfl rfl rfl rfl rfl rfl ?_
          refine sy_assign rfl rfl rfl ?_
          refine sy_assign rfl rfl rfl ?_
          refine sy_nil rfl ?_
          refine ny_next ?_
          refine cy_ret ?_
          refine ny_thenR ?_
          refine ny_blockR ?_
          refine ny_thenR ?_
          refine ny_thenR ?_
          refine ny_blockR ?_
          refine ny_thenR ?_
          first | refine ny_finR (rescT 0 rfl agg_79 rfl rfl rfl rfl rfl) (fun w hs2 => ⟨?_, hs2.frm⟩) | refine ny_finR (rescT 1 rfl agg_79 rfl rfl rfl rfl rfl) (fun w hs2 => ⟨?_, hs2.frm⟩) | refine ny_finR (rescT 2 rfl agg_79 rfl rfl rfl rfl rfl) (fun w hs2 => ⟨?_, hs2.frm⟩)
          unfold numA
          rw [hdot, if_neg (by decide), if_pos hbig]
          rfl
        · have hok := of_decide_eq_false hc48
          refine cy_skip ?_
          refine ny_next ?_
          refine cy_region ?_
          refine sy_move rfl rfl rfl ?_
          refine sy_mulK (z := ((10 * valN ((figs s.data.toList).take i) : Nat) : Int)) rfl rfl (by rw [IntWalk.u64_in _ ⟨by omega, by omega⟩]; omega) rfl rfl ?_
          refine sy_move rfl rfl rfl ?_
          refine sy_addK (z := ((10 * valN ((figs s.data.toList).take i) + (e39.toNat - 48) : Nat) : Int)) rfl rfl (by rw [IntWalk.u64_in _ ⟨by omega, by omega⟩]; omega) rfl rfl ?_
          refine sy_assign rfl rfl rfl ?_
          refine sy_nil rfl ?_
          refine ny_blockN ?_
          refine ny_next ?_
          refine cy_region ?_
          refine sy_addi (z := ((i + 1 : Nat) : Int)) rfl rfl (by omega) (by omega) (by omega) rfl rfl ?_
          refine sy_move rfl rfl rfl ?_
          refine sy_nil rfl ?_
          refine ny_roundK [2, 5, 35, 36] (i + 1) [0] ⟨by omega, by rw [valN_succ he39]; omega⟩ (show (runB digitB s.data.toList) - (i + 1) < (runB digitB s.data.toList) - i by omega) rfl ⟨congrArg (fun z : Nat => some (Value.int .u64 (z : Int))) (valN_succ he39).symm, rfl, trivial⟩ rfl rfl
      · have hie : i = (runB digitB s.data.toList) := by have := of_decide_eq_false hc38; omega
        have htk : (figs s.data.toList).take i = (figs s.data.toList) := List.take_of_length_le (by omega)
        rw [htk] at hpre ⊢
        refine cy_exit ?_
        refine ny_thenE ?_
        refine ny_thenE ?_
        refine ny_blockX ?_
        refine ny_next ?_
        refine cy_seq ?_
        refine cy_region ?_
        refine sy_move rfl rfl rfl ?_
        refine sy_convK Tryz.underlying121 Tryz.underlying2 rfl rfl rfl rfl ?_
        refine sy_build rfl (fun w => bld_79_0x2 w) rfl rfl ?_
        refine sy_move rfl rfl rfl ?_
        first | refine sy_stl 0 sz_79 rfl rfl rfl rfl rfl rfl rfl rfl ?_ | refine sy_stl 1 sz_79 rfl rfl rfl rfl rfl rfl rfl rfl ?_ | refine sy_stl 2 sz_79 rfl rfl rfl rfl rfl rfl rfl rfl ?_
        refine sy_assign rfl rfl rfl ?_
        refine sy_assign rfl rfl rfl ?_
        refine sy_nil rfl ?_
        refine ny_next ?_
        refine cy_ret ?_
        first | refine ny_finR (rescT 0 rfl agg_79 rfl rfl rfl rfl rfl) (fun w hs2 => ⟨?_, hs2.frm⟩) | refine ny_finR (rescT 1 rfl agg_79 rfl rfl rfl rfl rfl) (fun w hs2 => ⟨?_, hs2.frm⟩) | refine ny_finR (rescT 2 rfl agg_79 rfl rfl rfl rfl rfl) (fun w hs2 => ⟨?_, hs2.frm⟩)
        unfold numA
        rw [hdot, if_neg (by decide), if_neg (by omega)]
        rfl
  · refine sy_skip rfl rfl rfl ?_
    refine sy_skip rfl rfl rfl ?_
    refine sy_skip rfl rfl rfl ?_
    refine sy_skip rfl rfl rfl ?_
    refine sy_pickF rfl rfl rfl rfl ?_
    refine sy_move rfl rfl rfl ?_
    refine sy_skip rfl rfl rfl ?_
    refine sy_skip rfl rfl rfl ?_
    refine sy_skip rfl rfl rfl ?_
    refine sy_skip rfl rfl rfl ?_
    refine sy_skip rfl rfl rfl ?_
    refine sy_pickF rfl rfl rfl rfl ?_
    refine sy_nil rfl ?_
    refine ny_next ?_
    refine cy_condF rfl ?_
    have hdot : dottedB s.data.toList (runB digitB s.data.toList) = false := by
      have h7 : decide ((((runB digitB s.data.toList) : Nat) : Int) + 1 < (s.data.toList.length : Int)) = decide ((((runB digitB s.data.toList) : Nat) : Int) + 1 < (s.size : Int)) := rfl
      unfold dottedB
      rw [h7]
      first | (rw [hg17, he0, he1]; show ((true && ((e0.toNat : Int) == 46)) && digitB e1) = _; first | (rw [hg23, hc29]; rfl) | (rw [hg23]; rfl)) | (rw [hg17]; rfl)
    refine cy_skip ?_
    refine ny_next ?_
    refine cy_seq ?_
    refine cy_region ?_
    refine sy_assign rfl rfl rfl ?_
    refine sy_nil rfl ?_
    refine ny_next ?_
    refine cy_seq ?_
    refine cy_seq ?_
    refine cy_region ?_
    refine sy_move rfl rfl rfl ?_
    refine sy_move rfl rfl rfl ?_
    refine sy_strto Tryz.underlying9 rfl rfl (by omega) rfl rfl ?_
    refine sy_strbytes Tryz.underlying9 Tryz.underlying40 Tryz.underlying5 rfl rfl rfl (fun b35 c35 h35 hle35 hr35 => ?_) (by simp)
    rw [ext_to] at hr35
    have hfl := figs_len s.data.toList
    have hxs : (s.extract 0 (runB digitB s.data.toList)).size = (runB digitB s.data.toList) := by
      have h9 : (s.extract 0 (runB digitB s.data.toList)).size = (s.extract 0 (runB digitB s.data.toList)).data.toList.length := rfl
      rw [h9, ext_to]
      exact hfl
    rw [hxs]
    refine sy_len rfl (len_slice Tryz.underlying40 _ _ _) rfl rfl ?_
    refine sy_move rfl rfl rfl ?_
    refine sy_nil rfl ?_
    refine ny_next ?_
    refine cy_block ?_
    refine cy_loopK (ι := Nat) [2, 5, 35, 36] rfl (fun i => i ≤ (runB digitB s.data.toList) ∧ valN ((figs s.data.toList).take i) ≤ 9223372036854775808) (fun i => (runB digitB s.data.toList) - i) (fun i => [(6, .int .u64 ((valN ((figs s.data.toList).take i) : Nat) : Int)), (37, .int .i64 (i : Int))]) (fun i => h35) (fun i => [.blk b2 (.cells [.int .i64 0, .string ⟨#[]⟩, .int .i64 0, .bool false, .bool false].toArray 79 (0, 0))]) 0 [0] ⟨Nat.zero_le _, by simp [valN]⟩ ⟨rfl, rfl, trivial⟩ rfl rfl ?_
    rintro i ⟨hI, hpre⟩
    refine cy_seq ?_
    refine cy_region ?_
    refine sy_cmp rfl rfl rfl rfl rfl ?_
    refine sy_nil rfl ?_
    refine ny_next ?_
    refine cy_seq ?_
    refine cy_cond rfl (fun hc38 => ?_) (fun hc38 => ?_)
    · have hlti : i < (runB digitB s.data.toList) := by have := of_decide_eq_true hc38; omega
      refine cy_skip ?_
      refine ny_next ?_
      refine cy_seq ?_
      refine cy_block ?_
      refine cy_seq ?_
      refine cy_region ?_
      refine sy_idxR (fc := byteC) (es := (figs s.data.toList)) els_40 rfl rfl hr35 hfl (by omega) rfl rfl (fun e39 b39 o39 he39 hA39 hc39 => ?_)
      refine sy_ldh one_5 rfl (hc39 0 _ rfl) rfl rfl ?_
      have hdg := figs_dig he39
      refine sy_assign rfl rfl rfl ?_
      refine sy_nil rfl ?_
      refine ny_next ?_
      refine cy_seq ?_
      refine cy_region ?_
      refine sy_move rfl rfl rfl ?_
      refine sy_subK (z := ((e39.toNat - 48 : Nat) : Int)) rfl rfl (by rw [IntWalk.u8_in _ ⟨by omega, by omega⟩]; omega) rfl rfl ?_
      refine sy_convK (z := ((e39.toNat - 48 : Nat) : Int)) Tryz.underlying5 Tryz.underlying121 rfl (by rw [IntWalk.u64_in _ ⟨by omega, by omega⟩]) rfl rfl ?_
      refine sy_assign rfl rfl rfl ?_
      refine sy_nil rfl ?_
      refine ny_next ?_
      refine cy_seq ?_
      refine cy_seq ?_
      refine cy_region ?_
      refine sy_move rfl rfl rfl ?_
      refine sy_move rfl rfl rfl ?_
      refine sy_subK (z := ((9223372036854775808 - (e39.toNat - 48) : Nat) : Int)) rfl rfl (by rw [IntWalk.u64_in _ ⟨by omega, by omega⟩]; omega) rfl rfl ?_
      refine sy_quoU (z := (((9223372036854775808 - (e39.toNat - 48)) / 10 : Nat) : Int)) rfl rfl (by decide) rfl (by omega) (by omega) rfl rfl ?_
      refine sy_cmp rfl rfl rfl rfl rfl ?_
      refine sy_nil rfl ?_
      refine ny_next ?_
      refine cy_cond rfl (fun hc48 => ?_) (fun hc48 => ?_)
      · have hbig : 9223372036854775808 < valN (figs s.data.toList) := by
          have h9 := of_decide_eq_true hc48
          have h8 := valN_le (figs s.data.toList) (i + 1)
          rw [valN_succ he39] at h8
          omega
        refine cy_seq ?_
        refine cy_region ?_
        refine sy_build rfl (fun w => bld_79_ w) rfl rfl ?_
        refine sy_call rfl call_49 rfl (bad_c _ _ _) rfl rfl ?_
        first | refine sy_stl 0 sz_79 rfl rfl rfl rfl rfl rfl rfl rfl ?_ | refine sy_stl 1 sz_79 rfl rfl rfl rfl rfl rfl rfl rfl ?_ | refine sy_stl 2 sz_79 rfl rfl rfl rfl rfl rfl rfl rfl ?_
        refine sy_assign rfl rfl rfl ?_
        refine sy_assign rfl rfl rfl ?_
        refine sy_nil rfl ?_
        refine ny_next ?_
        refine cy_ret ?_
        refine ny_thenR ?_
        refine ny_blockR ?_
        refine ny_thenR ?_
        refine ny_thenR ?_
        refine ny_blockR ?_
        refine ny_thenR ?_
        first | refine ny_finR (rescT 0 rfl agg_79 rfl rfl rfl rfl rfl) (fun w hs2 => ⟨?_, hs2.frm⟩) | refine ny_finR (rescT 1 rfl agg_79 rfl rfl rfl rfl rfl) (fun w hs2 => ⟨?_, hs2.frm⟩) | refine ny_finR (rescT 2 rfl agg_79 rfl rfl rfl rfl rfl) (fun w hs2 => ⟨?_, hs2.frm⟩)
        unfold numA
        rw [hdot, if_neg (by decide), if_pos hbig]
        rfl
      · have hok := of_decide_eq_false hc48
        refine cy_skip ?_
        refine ny_next ?_
        refine cy_region ?_
        refine sy_move rfl rfl rfl ?_
        refine sy_mulK (z := ((10 * valN ((figs s.data.toList).take i) : Nat) : Int)) rfl rfl (by rw [IntWalk.u64_in _ ⟨by omega, by omega⟩]; omega) rfl rfl ?_
        refine sy_move rfl rfl rfl ?_
        refine sy_addK (z := ((10 * valN ((figs s.data.toList).take i) + (e39.toNat - 48) : Nat) : Int)) rfl rfl (by rw [IntWalk.u64_in _ ⟨by omega, by omega⟩]; omega) rfl rfl ?_
        refine sy_assign rfl rfl rfl ?_
        refine sy_nil rfl ?_
        refine ny_blockN ?_
        refine ny_next ?_
        refine cy_region ?_
        refine sy_addi (z := ((i + 1 : Nat) : Int)) rfl rfl (by omega) (by omega) (by omega) rfl rfl ?_
        refine sy_move rfl rfl rfl ?_
        refine sy_nil rfl ?_
        refine ny_roundK [2, 5, 35, 36] (i + 1) [0] ⟨by omega, by rw [valN_succ he39]; omega⟩ (show (runB digitB s.data.toList) - (i + 1) < (runB digitB s.data.toList) - i by omega) rfl ⟨congrArg (fun z : Nat => some (Value.int .u64 (z : Int))) (valN_succ he39).symm, rfl, trivial⟩ rfl rfl
    · have hie : i = (runB digitB s.data.toList) := by have := of_decide_eq_false hc38; omega
      have htk : (figs s.data.toList).take i = (figs s.data.toList) := List.take_of_length_le (by omega)
      rw [htk] at hpre ⊢
      refine cy_exit ?_
      refine ny_thenE ?_
      refine ny_thenE ?_
      refine ny_blockX ?_
      refine ny_next ?_
      refine cy_seq ?_
      refine cy_region ?_
      refine sy_move rfl rfl rfl ?_
      refine sy_convK Tryz.underlying121 Tryz.underlying2 rfl rfl rfl rfl ?_
      refine sy_build rfl (fun w => bld_79_0x2 w) rfl rfl ?_
      refine sy_move rfl rfl rfl ?_
      first | refine sy_stl 0 sz_79 rfl rfl rfl rfl rfl rfl rfl rfl ?_ | refine sy_stl 1 sz_79 rfl rfl rfl rfl rfl rfl rfl rfl ?_ | refine sy_stl 2 sz_79 rfl rfl rfl rfl rfl rfl rfl rfl ?_
      refine sy_assign rfl rfl rfl ?_
      refine sy_assign rfl rfl rfl ?_
      refine sy_nil rfl ?_
      refine ny_next ?_
      refine cy_ret ?_
      first | refine ny_finR (rescT 0 rfl agg_79 rfl rfl rfl rfl rfl) (fun w hs2 => ⟨?_, hs2.frm⟩) | refine ny_finR (rescT 1 rfl agg_79 rfl rfl rfl rfl rfl) (fun w hs2 => ⟨?_, hs2.frm⟩) | refine ny_finR (rescT 2 rfl agg_79 rfl rfl rfl rfl rfl) (fun w hs2 => ⟨?_, hs2.frm⟩)
      unfold numA
      rw [hdot, if_neg (by decide), if_neg (by omega)]
      rfl
end Go.Proofs.YtanhhihechakhaaGreatDoor
set_option linter.unusedVariables false
set_option linter.unusedSimpArgs false
namespace Go.Proofs.YtanhhihechakhaaGreatDoor.TokP
open Go.RowKit Go.Proofs.YtanhhihechakhaaGreatDoor.E Go.Proofs.YtanhhihechakhaaGreatDoor.ReplP
def q1 : ByteArray := ⟨#[97, 32, 98, 97, 99, 107, 115, 108, 97, 115, 104]⟩
def q2 : ByteArray := ⟨#[97, 32, 98, 121, 116, 101, 32, 111, 102, 32, 97, 32, 110, 97, 109, 101]⟩
def q3 : ByteArray := ⟨#[97, 32, 110, 97, 109, 101, 32, 119, 105, 116, 104, 111, 117, 116, 32, 97, 110, 32, 101, 110, 100]⟩
def quoL : List UInt8 → List UInt8 → Nat → Ans
  | [], _, _ => .bad q3 4
  | [c], out, k => if c = 39 then .tok 1 ⟨out.toArray⟩ 0 true (k + 1) else if c = 92 then .bad q2 4 else if (c.toNat : Int) < 32 then .bad q2 4 else .bad q3 4
  | c :: d :: t, out, k => if c = 39 then (if d = 39 then quoL t (out ++ [39]) (k + 2) else .tok 1 ⟨out.toArray⟩ 0 true (k + 1))
      else if c = 92 then (match esc d with | some x => quoL t (out ++ [x]) (k + 2) | none => .bad q1 4)
      else if (c.toNat : Int) < 32 then .bad q2 4 else quoL (d :: t) (out ++ [c]) (k + 1)
section
variable {l out : List UInt8} {i : Nat} {c d : UInt8}
theorem quo_none (h : l.length ≤ i) : quoL (l.drop i) out i = .bad q3 4 := by rw [List.drop_eq_nil_of_le h, quoL]
theorem drop_two (h1 : l[i]? = some c) (h2 : l[i + 1]? = some d) : l.drop i = c :: d :: l.drop (i + 2) := by rw [drop_at h1, drop_at h2]
theorem drop_one (h1 : l[i]? = some c) (h2 : ¬ i + 1 < l.length) : l.drop i = [c] := by rw [drop_at h1, List.drop_eq_nil_of_le (by omega)]
theorem quo_mark (h1 : l[i]? = some 39) (h2 : l[i + 1]? = some 39) : quoL (l.drop (i + 2)) (out ++ [39]) (i + 2) = quoL (l.drop i) out i := by
  rw [drop_two h1 h2, quoL, if_pos rfl, if_pos rfl]
theorem quo_end (h1 : l[i]? = some 39) (h2 : ¬ l[i + 1]? = some 39) : quoL (l.drop i) out i = .tok 1 ⟨out.toArray⟩ 0 true (i + 1) := by
  by_cases hl : i + 1 < l.length
  · have h3 : l[i + 1]? = some (l[i + 1]'hl) := List.getElem?_eq_getElem hl
    rw [drop_two h1 h3, quoL, if_pos rfl, if_neg (fun h => h2 (by rw [h3, h]))]
  · rw [drop_one h1 hl, quoL, if_pos rfl]
theorem quo_esc {x : UInt8} (h1 : l[i]? = some 92) (h2 : l[i + 1]? = some d) (h3 : esc d = some x) : quoL (l.drop (i + 2)) (out ++ [x]) (i + 2) = quoL (l.drop i) out i := by
  rw [drop_two h1 h2, quoL, if_neg (by decide), if_pos rfl, h3]
theorem quo_bad (h1 : l[i]? = some 92) (h2 : l[i + 1]? = some d) (h3 : esc d = none) : quoL (l.drop i) out i = .bad q1 4 := by
  rw [drop_two h1 h2, quoL, if_neg (by decide), if_pos rfl, h3]
theorem quo_slash (h1 : l[i]? = some 92) (h2 : ¬ i + 1 < l.length) : quoL (l.drop i) out i = .bad q2 4 := by
  rw [drop_one h1 h2, quoL, if_neg (by decide), if_pos rfl]
theorem quo_low (h1 : l[i]? = some c) (h39 : ¬ c = 39) (h92 : ¬ c = 92) (h : (c.toNat : Int) < 32) : quoL (l.drop i) out i = .bad q2 4 := by
  by_cases hl : i + 1 < l.length
  · rw [drop_two h1 (List.getElem?_eq_getElem hl), quoL, if_neg h39, if_neg h92, if_pos h]
  · rw [drop_one h1 hl, quoL, if_neg h39, if_neg h92, if_pos h]
theorem quo_byte (h1 : l[i]? = some c) (h39 : ¬ c = 39) (h92 : ¬ c = 92) (h : ¬ (c.toNat : Int) < 32) : quoL (l.drop (i + 1)) (out ++ [c]) (i + 1) = quoL (l.drop i) out i := by
  by_cases hl : i + 1 < l.length
  · have h3 : l[i + 1]? = some (l[i + 1]'hl) := List.getElem?_eq_getElem hl
    rw [drop_two h1 h3, quoL, if_neg h39, if_neg h92, if_neg h, drop_at h3]
  · rw [drop_one h1 hl, quoL, if_neg h39, if_neg h92, if_neg h, List.drop_eq_nil_of_le (by omega), quoL]
theorem quo_markC (h1 : l[i]? = some c) (h39 : c = 39) (h2 : l[i + 1]? = some d) (h39b : d = 39) : quoL (l.drop (i + 2)) (out ++ [c]) (i + 2) = quoL (l.drop i) out i := by
  subst h39 h39b
  exact quo_mark h1 h2
theorem quo_endC (h1 : l[i]? = some c) (h39 : c = 39) (h2 : ∀ d, l[i + 1]? = some d → ¬ d = 39) : quoL (l.drop i) out i = .tok 1 ⟨out.toArray⟩ 0 true (i + 1) := by
  subst h39
  exact quo_end h1 (fun h => h2 39 h rfl)
theorem quo_escC {x : UInt8} (h1 : l[i]? = some c) (h92 : c = 92) (h2 : l[i + 1]? = some d) (h3 : esc d = some x) : quoL (l.drop (i + 2)) (out ++ [x]) (i + 2) = quoL (l.drop i) out i := by
  subst h92
  exact quo_esc h1 h2 h3
theorem quo_badC (h1 : l[i]? = some c) (h92 : c = 92) (h2 : l[i + 1]? = some d) (h3 : esc d = none) : quoL (l.drop i) out i = .bad q1 4 := by
  subst h92
  exact quo_bad h1 h2 h3
theorem quo_slashC (h1 : l[i]? = some c) (h92 : c = 92) (h2 : ¬ i + 1 < l.length) : quoL (l.drop i) out i = .bad q2 4 := by
  subst h92
  exact quo_slash h1 h2
end
def quoA (l : List UInt8) : Ans := quoL (l.drop 1) [] 1
end Go.Proofs.YtanhhihechakhaaGreatDoor.TokP
set_option linter.unusedVariables false
set_option linter.unusedSimpArgs false
namespace Go.Proofs.YtanhhihechakhaaGreatDoor
open Go.RowKit Go.Proofs.YtanhhihechakhaaGreatDoor.E Go.Proofs.YtanhhihechakhaaGreatDoor.ReplP Go.Proofs.YtanhhihechakhaaGreatDoor.TokP
set_option maxRecDepth 100000 in
theorem quoted_c (s : ByteArray) (h : Hp) (hs : s.size ≤ 70368744177600) (h0 : 1 ≤ s.size) : C0 Tryz.prog 73 [.string s] h (ansV 100 (quoA s.data.toList)) := by
  refine enter0 Tryz.func73 rfl rfl rfl (fun w => ?_)
  refine cy_seq ?_
  refine cy_region ?_
  refine sy_alloc zer_79 rfl rfl (fun b2 hb2 hM2 => ?_) (by simp)
  refine sy_assign rfl rfl rfl ?_
  refine sy_assign rfl rfl rfl ?_
  refine sy_nil rfl ?_
  refine ny_next ?_
  refine cy_seq ?_
  refine cy_region ?_
  refine sy_assign rfl rfl rfl ?_
  refine sy_nil rfl ?_
  refine ny_next ?_
  refine cy_seq ?_
  refine cy_seq ?_
  refine cy_region ?_
  refine sy_assign rfl rfl rfl ?_
  refine sy_nil rfl ?_
  refine ny_next ?_
  refine cy_block ?_
  refine cy_nilRow 5 1 ?_
  refine cy_loopK (ι := Nat × List UInt8 × Value) [0, 2] rfl (fun z => z.1 ≤ s.size ∧ z.2.1.length ≤ z.1 ∧ quoL (s.data.toList.drop z.1) z.2.1 z.1 = quoA s.data.toList) (fun z => s.size - z.1) (fun z => [(5, z.2.2), (6, .int .i64 (z.1 : Int))]) (fun z => h) (fun z => [Res.row z.2.2 5 1 (z.2.1).length ((z.2.1).map bv), .blk b2 (.cells [.int .i64 0, .string ⟨#[]⟩, .int .i64 0, .bool false, .bool false].toArray 79 (0, 0))]) (1, [], .slice none 0 0) [0, 0] ⟨h0, Nat.zero_le _, rfl⟩ ⟨rfl, rfl, trivial⟩ rfl rfl ?_
  rintro ⟨i, out, v5⟩ ⟨hI, hol, hpre⟩
  simp only at hI hol hpre ⊢
  refine cy_seq ?_
  refine cy_seq ?_
  refine cy_region ?_
  refine sy_move rfl rfl rfl ?_
  refine sy_move rfl rfl rfl ?_
  refine sy_len rfl (len_string Tryz.underlying9 _) rfl rfl ?_
  refine sy_cmp rfl rfl rfl rfl rfl ?_
  refine sy_nil rfl ?_
  refine ny_next ?_
  refine cy_cond rfl (fun hc14 => ?_) (fun hc14 => ?_)
  · have hlti : i < s.size := by have := of_decide_eq_true hc14; omega
    obtain ⟨e0, he0⟩ : ∃ e0, s.data.toList[i]? = some e0 := ⟨_, List.getElem?_eq_getElem (by show i < s.size; omega)⟩
    refine cy_skip ?_
    refine ny_next ?_
    refine cy_seq ?_
    refine cy_block ?_
    refine cy_seq ?_
    refine cy_region ?_
    refine sy_move rfl rfl rfl ?_
    refine sy_move rfl rfl rfl ?_
    refine sy_idxs (u := e0) Tryz.underlying9 rfl rfl (by omega) (ba_at he0) rfl rfl ?_
    refine sy_assign rfl rfl rfl ?_
    refine sy_nil rfl ?_
    refine ny_next ?_
    refine cy_seq ?_
    refine cy_region ?_
    refine sy_move rfl rfl rfl ?_
    refine sy_addi (z := ((i + 1 : Nat) : Int)) rfl rfl (by omega) (by omega) (by omega) rfl rfl ?_
    refine sy_move rfl rfl rfl ?_
    refine sy_len rfl (len_string Tryz.underlying9 _) rfl rfl ?_
    refine sy_cmp rfl rfl rfl rfl rfl ?_
    refine sy_assign rfl rfl rfl ?_
    refine sy_nil rfl ?_
    refine ny_next ?_
    refine cy_seq ?_
    refine cy_block ?_
    refine cy_seq ?_
    refine cy_region ?_
    refine sy_move rfl rfl rfl ?_
    refine sy_cmp rfl rfl rfl rfl rfl ?_
    refine sy_move rfl rfl rfl ?_
    refine sy_cond (d := 28) _ rfl rfl (fun hg28 => ?_) (fun hg28 => ?_)
    · have h39 : e0 = 39 := UInt8.toNat_inj.1 (by have h9 : (e0.toNat : Int) = 39 := (by simpa using hg28); show e0.toNat = 39; omega)
      refine sy_move rfl rfl rfl ?_
      refine sy_pickT rfl rfl rfl rfl ?_
      refine sy_move rfl rfl rfl ?_
      refine sy_cond (d := 31) _ rfl rfl (fun hg31 => ?_) (fun hg31 => ?_)
      · have hmo : i + 1 < s.size := by have := of_decide_eq_true hg31; omega
        obtain ⟨e1, he1⟩ : ∃ e1, s.data.toList[i + 1]? = some e1 := ⟨_, List.getElem?_eq_getElem (by show i + 1 < s.size; omega)⟩
        refine sy_move rfl rfl rfl ?_
        refine sy_move rfl rfl rfl ?_
        refine sy_addi (z := ((i + 1 : Nat) : Int)) rfl rfl (by omega) (by omega) (by omega) rfl rfl ?_
        refine sy_idxs (u := e1) Tryz.underlying9 rfl rfl (by omega) (ba_at he1) rfl rfl ?_
        refine sy_cmp rfl rfl rfl rfl rfl ?_
        refine sy_pickT rfl rfl rfl rfl ?_
        refine sy_assign rfl rfl rfl ?_
        refine sy_nil rfl ?_
        refine ny_next ?_
        refine cy_cond rfl (fun hc25 => ?_) (fun hc25 => ?_)
        · have h39b : e1 = 39 := UInt8.toNat_inj.1 (by have h9 : (e1.toNat : Int) = 39 := (by simpa using hc25); show e1.toNat = 39; omega)
          refine cy_region ?_
          refine sy_move rfl rfl rfl ?_
          refine sy_addi (z := ((i + 1 : Nat) : Int)) rfl rfl (by omega) (by omega) (by omega) rfl rfl ?_
          refine sy_assign rfl rfl rfl ?_
          refine sy_nil rfl ?_
          refine ny_blockN ?_
          refine ny_next ?_
          refine cy_region ?_
          refine sy_move rfl rfl rfl ?_
          refine sy_move rfl rfl rfl ?_
          refine sy_buildSlice rfl (fun w => bsl_40_1_0 w) rfl rfl (fun b80 hb80 hM80 => ?_) (by simp)
          refine sy_append 1 0 row_40 (by decide) rfl rfl rfl rfl rfl rfl (by omega) (by simp only [maxLen]; omega) rfl rfl (fun v81 => ?_)
          refine sy_assign rfl rfl rfl ?_
          refine sy_nil rfl ?_
          refine ny_blockN ?_
          refine ny_next ?_
          refine cy_region ?_
          refine sy_move rfl rfl rfl ?_
          refine sy_addi (z := ((i + 1 + 1 : Nat) : Int)) rfl rfl (by omega) (by omega) (by omega) rfl rfl ?_
          refine sy_assign rfl rfl rfl ?_
          refine sy_nil rfl ?_
          refine ny_roundK [0, 2] (i + 2, out ++ [e0], v81) [0, 1] ⟨by omega, by show (out ++ [e0]).length ≤ i + 2; rw [List.length_append]; simp; omega, (quo_markC he0 h39 he1 h39b).trans hpre⟩ (show s.size - (i + 2) < s.size - i by omega) rfl ⟨rfl, rfl, trivial⟩ rfl (by show _ = some [Res.row v81 5 1 (out ++ [e0]).length ((out ++ [e0]).map bv), .blk b2 (.cells [.int .i64 0, .string ⟨#[]⟩, .int .i64 0, .bool false, .bool false].toArray 79 (0, 0))]; rw [List.length_append, List.map_append]; rfl)
        · refine cy_seq ?_
          refine cy_region ?_
          refine sy_move rfl rfl rfl ?_
          refine sy_cmp rfl rfl rfl rfl rfl ?_
          refine sy_setT (d := 42) rfl rfl hg28 ?_
          refine sy_assign rfl rfl rfl ?_
          refine sy_nil rfl ?_
          refine ny_next ?_
          refine cy_condT rfl ?_
          refine cy_seq ?_
          refine cy_region ?_
          refine sy_move rfl rfl rfl ?_
          refine sy_frzRow 0 rfl (fun _ _ => by simp) (fun A9 c9 h9 hv9 hlc9 hcm9 _ hle9 hcell9 => ?_)
          subst hv9
          have hr9 : RowsAt h9 A9 1 (out.map byteC) := rows_row (by decide) (byteC_len _) (by rw [byteC_flat]; exact hcell9)
          refine sy_bytesh Tryz.underlying40 Tryz.underlying5 Tryz.underlying9 rfl hr9 rfl rfl rfl ?_
          refine sy_build rfl (fun w => bld_79_0x1x3 w) rfl rfl ?_
          refine sy_move rfl rfl rfl ?_
          refine sy_addi (z := ((i + 1 : Nat) : Int)) rfl rfl (by omega) (by omega) (by omega) rfl rfl ?_
          first | refine sy_stl 0 sz_79 rfl rfl rfl rfl rfl rfl rfl rfl ?_ | refine sy_stl 1 sz_79 rfl rfl rfl rfl rfl rfl rfl rfl ?_ | refine sy_stl 2 sz_79 rfl rfl rfl rfl rfl rfl rfl rfl ?_ | refine sy_stl 3 sz_79 rfl rfl rfl rfl rfl rfl rfl rfl ?_
          refine sy_assign rfl rfl rfl ?_
          refine sy_assign rfl rfl rfl ?_
          refine sy_nil rfl ?_
          refine ny_next ?_
          refine cy_ret ?_
          refine ny_blockR ?_
          refine ny_thenR ?_
          refine ny_blockR ?_
          refine ny_thenR ?_
          refine ny_thenR ?_
          refine ny_blockR ?_
          refine ny_thenR ?_
          first | refine ny_finR (rescT 0 rfl agg_79 rfl rfl rfl rfl rfl) (fun w hs2 => ⟨?_, hs2.frm⟩) | refine ny_finR (rescT 1 rfl agg_79 rfl rfl rfl rfl rfl) (fun w hs2 => ⟨?_, hs2.frm⟩) | refine ny_finR (rescT 2 rfl agg_79 rfl rfl rfl rfl rfl) (fun w hs2 => ⟨?_, hs2.frm⟩) | refine ny_finR (rescT 3 rfl agg_79 rfl rfl rfl rfl rfl) (fun w hs2 => ⟨?_, hs2.frm⟩)
          rw [← hpre, quo_endC he0 h39 (by first | (intro d9 hd9; rw [he1] at hd9; injection hd9 with hd9; subst hd9; intro h9; rw [h9] at hc25; simp at hc25; done) | (intro d9 hd9; have h8 := (List.getElem?_eq_some_iff.1 hd9).1; have h9 := of_decide_eq_false hg31; have h7 : s.data.toList.length = s.size := rfl; omega))]
          rfl
      · refine sy_skip rfl rfl rfl ?_
        refine sy_skip rfl rfl rfl ?_
        refine sy_skip rfl rfl rfl ?_
        refine sy_skip rfl rfl rfl ?_
        refine sy_skip rfl rfl rfl ?_
        refine sy_pickF rfl rfl rfl rfl ?_
        refine sy_assign rfl rfl rfl ?_
        refine sy_nil rfl ?_
        refine ny_next ?_
        refine cy_condF rfl ?_
        refine cy_seq ?_
        refine cy_region ?_
        refine sy_move rfl rfl rfl ?_
        refine sy_cmp rfl rfl rfl rfl rfl ?_
        refine sy_setT (d := 42) rfl rfl hg28 ?_
        refine sy_assign rfl rfl rfl ?_
        refine sy_nil rfl ?_
        refine ny_next ?_
        refine cy_condT rfl ?_
        refine cy_seq ?_
        refine cy_region ?_
        refine sy_move rfl rfl rfl ?_
        refine sy_frzRow 0 rfl (fun _ _ => by simp) (fun A9 c9 h9 hv9 hlc9 hcm9 _ hle9 hcell9 => ?_)
        subst hv9
        have hr9 : RowsAt h9 A9 1 (out.map byteC) := rows_row (by decide) (byteC_len _) (by rw [byteC_flat]; exact hcell9)
        refine sy_bytesh Tryz.underlying40 Tryz.underlying5 Tryz.underlying9 rfl hr9 rfl rfl rfl ?_
        refine sy_build rfl (fun w => bld_79_0x1x3 w) rfl rfl ?_
        refine sy_move rfl rfl rfl ?_
        refine sy_addi (z := ((i + 1 : Nat) : Int)) rfl rfl (by omega) (by omega) (by omega) rfl rfl ?_
        first | refine sy_stl 0 sz_79 rfl rfl rfl rfl rfl rfl rfl rfl ?_ | refine sy_stl 1 sz_79 rfl rfl rfl rfl rfl rfl rfl rfl ?_ | refine sy_stl 2 sz_79 rfl rfl rfl rfl rfl rfl rfl rfl ?_ | refine sy_stl 3 sz_79 rfl rfl rfl rfl rfl rfl rfl rfl ?_
        refine sy_assign rfl rfl rfl ?_
        refine sy_assign rfl rfl rfl ?_
        refine sy_nil rfl ?_
        refine ny_next ?_
        refine cy_ret ?_
        refine ny_blockR ?_
        refine ny_thenR ?_
        refine ny_blockR ?_
        refine ny_thenR ?_
        refine ny_thenR ?_
        refine ny_blockR ?_
        refine ny_thenR ?_
        first | refine ny_finR (rescT 0 rfl agg_79 rfl rfl rfl rfl rfl) (fun w hs2 => ⟨?_, hs2.frm⟩) | refine ny_finR (rescT 1 rfl agg_79 rfl rfl rfl rfl rfl) (fun w hs2 => ⟨?_, hs2.frm⟩) | refine ny_finR (rescT 2 rfl agg_79 rfl rfl rfl rfl rfl) (fun w hs2 => ⟨?_, hs2.frm⟩) | refine ny_finR (rescT 3 rfl agg_79 rfl rfl rfl rfl rfl) (fun w hs2 => ⟨?_, hs2.frm⟩)
        rw [← hpre, quo_endC he0 h39 (by first | (intro d9 hd9; rw [he1] at hd9; injection hd9 with hd9; subst hd9; intro h9; rw [h9] at hc25; simp at hc25; done) | (intro d9 hd9; have h8 := (List.getElem?_eq_some_iff.1 hd9).1; have h9 := of_decide_eq_false hg31; have h7 : s.data.toList.length = s.size := rfl; omega))]
        rfl
    · have h39n : ¬ e0 = 39 := by
        intro h9
        rw [h9] at hg28
        simp at hg28
      refine sy_skip rfl rfl rfl ?_
      refine sy_pickF rfl rfl rfl rfl ?_
      refine sy_move rfl rfl rfl ?_
      refine sy_skip rfl rfl rfl ?_
      refine sy_skip rfl rfl rfl ?_
      refine sy_skip rfl rfl rfl ?_
      refine sy_skip rfl rfl rfl ?_
      refine sy_skip rfl rfl rfl ?_
      refine sy_pickF rfl rfl rfl rfl ?_
      refine sy_assign rfl rfl rfl ?_
      refine sy_nil rfl ?_
      refine ny_next ?_
      refine cy_condF rfl ?_
      refine cy_seq ?_
      refine cy_region ?_
      refine sy_move rfl rfl rfl ?_
      refine sy_cmp rfl rfl rfl rfl rfl ?_
      refine sy_setF (d := 42) rfl rfl hg28 ?_
      refine sy_assign rfl rfl rfl ?_
      refine sy_nil rfl ?_
      refine ny_next ?_
      refine cy_condF rfl ?_
      refine cy_seq ?_
      refine cy_region ?_
      refine sy_move rfl rfl rfl ?_
      refine sy_cmp rfl rfl rfl rfl rfl ?_
      refine sy_move rfl rfl rfl ?_
      refine sy_cond (d := 51) _ rfl rfl (fun hg51 => ?_) (fun hg51 => ?_)
      · have h92 : e0 = 92 := UInt8.toNat_inj.1 (by have h9 : (e0.toNat : Int) = 92 := (by simpa using hg51); show e0.toNat = 92; omega)
        refine sy_move rfl rfl rfl ?_
        refine sy_pickT rfl rfl rfl rfl ?_
        refine sy_assign rfl rfl rfl ?_
        refine sy_nil rfl ?_
        refine ny_next ?_
        refine cy_cond rfl (fun hc48 => ?_) (fun hc48 => ?_)
        · have hmo : i + 1 < s.size := by have := of_decide_eq_true hc48; omega
          obtain ⟨e1, he1⟩ : ∃ e1, s.data.toList[i + 1]? = some e1 := ⟨_, List.getElem?_eq_getElem (by show i + 1 < s.size; omega)⟩
          refine cy_seq ?_
          refine cy_region ?_
          refine sy_move rfl rfl rfl ?_
          refine sy_move rfl rfl rfl ?_
          refine sy_addi (z := ((i + 1 : Nat) : Int)) rfl rfl (by omega) (by omega) (by omega) rfl rfl ?_
          refine sy_idxs (u := e1) Tryz.underlying9 rfl rfl (by omega) (ba_at he1) rfl rfl ?_
          refine sy_call rfl call_92 rfl (esc_c e1 _) rfl rfl ?_
          refine sy_move rfl rfl rfl ?_
          refine sy_extract rfl rfl rfl rfl ?_
          refine sy_extract rfl rfl rfl rfl ?_
          refine sy_assign rfl rfl rfl ?_
          refine sy_assign rfl rfl rfl ?_
          refine sy_nil rfl ?_
          refine ny_next ?_
          refine cy_seq ?_
          refine cy_seq ?_
          refine cy_region ?_
          refine sy_move rfl rfl rfl ?_
          refine sy_not rfl rfl rfl ?_
          refine sy_nil rfl ?_
          refine ny_next ?_
          refine cy_cond rfl (fun hc63 => ?_) (fun hc63 => ?_)
          · refine cy_seq ?_
            refine cy_region ?_
            refine sy_build rfl (fun w => bld_79_ w) rfl rfl ?_
            refine sy_call rfl call_49 rfl (bad_c _ _ _) rfl rfl ?_
            first | refine sy_stl 0 sz_79 rfl rfl rfl rfl rfl rfl rfl rfl ?_ | refine sy_stl 1 sz_79 rfl rfl rfl rfl rfl rfl rfl rfl ?_ | refine sy_stl 2 sz_79 rfl rfl rfl rfl rfl rfl rfl rfl ?_ | refine sy_stl 3 sz_79 rfl rfl rfl rfl rfl rfl rfl rfl ?_
            refine sy_assign rfl rfl rfl ?_
            refine sy_assign rfl rfl rfl ?_
            refine sy_nil rfl ?_
            refine ny_next ?_
            refine cy_ret ?_
            refine ny_thenR ?_
            refine ny_blockR ?_
            refine ny_thenR ?_
            refine ny_blockR ?_
            refine ny_thenR ?_
            refine ny_thenR ?_
            refine ny_blockR ?_
            refine ny_thenR ?_
            first | refine ny_finR (rescT 0 rfl agg_79 rfl rfl rfl rfl rfl) (fun w hs2 => ⟨?_, hs2.frm⟩) | refine ny_finR (rescT 1 rfl agg_79 rfl rfl rfl rfl rfl) (fun w hs2 => ⟨?_, hs2.frm⟩) | refine ny_finR (rescT 2 rfl agg_79 rfl rfl rfl rfl rfl) (fun w hs2 => ⟨?_, hs2.frm⟩) | refine ny_finR (rescT 3 rfl agg_79 rfl rfl rfl rfl rfl) (fun w hs2 => ⟨?_, hs2.frm⟩)
            rw [← hpre, quo_badC he0 h92 he1 (Option.not_isSome_iff_eq_none.1 (by simpa using hc63))]
            rfl
          · obtain ⟨x1, hx1⟩ : ∃ x1, esc e1 = some x1 := Option.isSome_iff_exists.1 (by simpa using hc63)
            rw [show (esc e1).getD 0 = x1 by rw [hx1]; rfl]
            refine cy_skip ?_
            refine ny_next ?_
            refine cy_seq ?_
            refine cy_region ?_
            refine sy_move rfl rfl rfl ?_
            refine sy_assign rfl rfl rfl ?_
            refine sy_nil rfl ?_
            refine ny_next ?_
            refine cy_region ?_
            refine sy_move rfl rfl rfl ?_
            refine sy_addi (z := ((i + 1 : Nat) : Int)) rfl rfl (by omega) (by omega) (by omega) rfl rfl ?_
            refine sy_assign rfl rfl rfl ?_
            refine sy_nil rfl ?_
            refine ny_blockN ?_
            refine ny_next ?_
            refine cy_region ?_
            refine sy_move rfl rfl rfl ?_
            refine sy_move rfl rfl rfl ?_
            refine sy_buildSlice rfl (fun w => bsl_40_1_0 w) rfl rfl (fun b80 hb80 hM80 => ?_) (by simp)
            refine sy_append 1 0 row_40 (by decide) rfl rfl rfl rfl rfl rfl (by omega) (by simp only [maxLen]; omega) rfl rfl (fun v81 => ?_)
            refine sy_assign rfl rfl rfl ?_
            refine sy_nil rfl ?_
            refine ny_blockN ?_
            refine ny_next ?_
            refine cy_region ?_
            refine sy_move rfl rfl rfl ?_
            refine sy_addi (z := ((i + 1 + 1 : Nat) : Int)) rfl rfl (by omega) (by omega) (by omega) rfl rfl ?_
            refine sy_assign rfl rfl rfl ?_
            refine sy_nil rfl ?_
            refine ny_roundK [0, 2] (i + 2, out ++ [x1], v81) [0, 1] ⟨by omega, by show (out ++ [x1]).length ≤ i + 2; rw [List.length_append]; simp; omega, (quo_escC he0 h92 he1 hx1).trans hpre⟩ (show s.size - (i + 2) < s.size - i by omega) rfl ⟨rfl, rfl, trivial⟩ rfl (by show _ = some [Res.row v81 5 1 (out ++ [x1]).length ((out ++ [x1]).map bv), .blk b2 (.cells [.int .i64 0, .string ⟨#[]⟩, .int .i64 0, .bool false, .bool false].toArray 79 (0, 0))]; rw [List.length_append, List.map_append]; rfl)
        · refine cy_seq ?_
          refine cy_region ?_
          refine sy_move rfl rfl rfl ?_
          refine sy_cmp rfl rfl rfl rfl rfl ?_
          refine sy_setT (d := 71) rfl rfl hg51 ?_
          refine sy_move rfl rfl rfl ?_
          refine sy_skip rfl rfl rfl ?_
          refine sy_skip rfl rfl rfl ?_
          refine sy_pickT rfl rfl rfl rfl ?_
          refine sy_assign rfl rfl rfl ?_
          refine sy_nil rfl ?_
          refine ny_next ?_
          refine cy_condT rfl ?_
          refine cy_seq ?_
          refine cy_region ?_
          refine sy_build rfl (fun w => bld_79_ w) rfl rfl ?_
          refine sy_call rfl call_49 rfl (bad_c _ _ _) rfl rfl ?_
          first | refine sy_stl 0 sz_79 rfl rfl rfl rfl rfl rfl rfl rfl ?_ | refine sy_stl 1 sz_79 rfl rfl rfl rfl rfl rfl rfl rfl ?_ | refine sy_stl 2 sz_79 rfl rfl rfl rfl rfl rfl rfl rfl ?_ | refine sy_stl 3 sz_79 rfl rfl rfl rfl rfl rfl rfl rfl ?_
          refine sy_assign rfl rfl rfl ?_
          refine sy_assign rfl rfl rfl ?_
          refine sy_nil rfl ?_
          refine ny_next ?_
          refine cy_ret ?_
          refine ny_blockR ?_
          refine ny_thenR ?_
          refine ny_blockR ?_
          refine ny_thenR ?_
          refine ny_thenR ?_
          refine ny_blockR ?_
          refine ny_thenR ?_
          first | refine ny_finR (rescT 0 rfl agg_79 rfl rfl rfl rfl rfl) (fun w hs2 => ⟨?_, hs2.frm⟩) | refine ny_finR (rescT 1 rfl agg_79 rfl rfl rfl rfl rfl) (fun w hs2 => ⟨?_, hs2.frm⟩) | refine ny_finR (rescT 2 rfl agg_79 rfl rfl rfl rfl rfl) (fun w hs2 => ⟨?_, hs2.frm⟩) | refine ny_finR (rescT 3 rfl agg_79 rfl rfl rfl rfl rfl) (fun w hs2 => ⟨?_, hs2.frm⟩)
          first | (rw [← hpre, quo_slashC he0 h92 (by have h9 := of_decide_eq_false hc48; have h7 : s.data.toList.length = s.size := rfl; omega)]; rfl) | (rw [← hpre, quo_low he0 h39n h92n (of_decide_eq_true hc69)]; rfl)
      · have h92n : ¬ e0 = 92 := by
          intro h9
          rw [h9] at hg51
          simp at hg51
        refine sy_skip rfl rfl rfl ?_
        refine sy_pickF rfl rfl rfl rfl ?_
        refine sy_assign rfl rfl rfl ?_
        refine sy_nil rfl ?_
        refine ny_next ?_
        refine cy_condF rfl ?_
        refine cy_seq ?_
        refine cy_region ?_
        refine sy_move rfl rfl rfl ?_
        refine sy_cmp rfl rfl rfl rfl rfl ?_
        refine sy_setF (d := 71) rfl rfl hg51 ?_
        refine sy_move rfl rfl rfl ?_
        refine sy_move rfl rfl rfl ?_
        refine sy_cmp rfl rfl rfl rfl rfl ?_
        refine sy_pickF rfl rfl rfl rfl ?_
        refine sy_assign rfl rfl rfl ?_
        refine sy_nil rfl ?_
        refine ny_next ?_
        refine cy_cond rfl (fun hc69 => ?_) (fun hc69 => ?_)
        · refine cy_seq ?_
          refine cy_region ?_
          refine sy_build rfl (fun w => bld_79_ w) rfl rfl ?_
          refine sy_call rfl call_49 rfl (bad_c _ _ _) rfl rfl ?_
          first | refine sy_stl 0 sz_79 rfl rfl rfl rfl rfl rfl rfl rfl ?_ | refine sy_stl 1 sz_79 rfl rfl rfl rfl rfl rfl rfl rfl ?_ | refine sy_stl 2 sz_79 rfl rfl rfl rfl rfl rfl rfl rfl ?_ | refine sy_stl 3 sz_79 rfl rfl rfl rfl rfl rfl rfl rfl ?_
          refine sy_assign rfl rfl rfl ?_
          refine sy_assign rfl rfl rfl ?_
          refine sy_nil rfl ?_
          refine ny_next ?_
          refine cy_ret ?_
          refine ny_blockR ?_
          refine ny_thenR ?_
          refine ny_blockR ?_
          refine ny_thenR ?_
          refine ny_thenR ?_
          refine ny_blockR ?_
          refine ny_thenR ?_
          first | refine ny_finR (rescT 0 rfl agg_79 rfl rfl rfl rfl rfl) (fun w hs2 => ⟨?_, hs2.frm⟩) | refine ny_finR (rescT 1 rfl agg_79 rfl rfl rfl rfl rfl) (fun w hs2 => ⟨?_, hs2.frm⟩) | refine ny_finR (rescT 2 rfl agg_79 rfl rfl rfl rfl rfl) (fun w hs2 => ⟨?_, hs2.frm⟩) | refine ny_finR (rescT 3 rfl agg_79 rfl rfl rfl rfl rfl) (fun w hs2 => ⟨?_, hs2.frm⟩)
          first | (rw [← hpre, quo_slashC he0 h92 (by have h9 := of_decide_eq_false hc48; have h7 : s.data.toList.length = s.size := rfl; omega)]; rfl) | (rw [← hpre, quo_low he0 h39n h92n (of_decide_eq_true hc69)]; rfl)
        · refine cy_skip ?_
          refine ny_blockN ?_
          refine ny_next ?_
          refine cy_region ?_
          refine sy_move rfl rfl rfl ?_
          refine sy_move rfl rfl rfl ?_
          refine sy_buildSlice rfl (fun w => bsl_40_1_0 w) rfl rfl (fun b80 hb80 hM80 => ?_) (by simp)
          refine sy_append 1 0 row_40 (by decide) rfl rfl rfl rfl rfl rfl (by omega) (by simp only [maxLen]; omega) rfl rfl (fun v81 => ?_)
          refine sy_assign rfl rfl rfl ?_
          refine sy_nil rfl ?_
          refine ny_blockN ?_
          refine ny_next ?_
          refine cy_region ?_
          refine sy_move rfl rfl rfl ?_
          refine sy_addi (z := ((i + 1 : Nat) : Int)) rfl rfl (by omega) (by omega) (by omega) rfl rfl ?_
          refine sy_assign rfl rfl rfl ?_
          refine sy_nil rfl ?_
          refine ny_roundK [0, 2] (i + 1, out ++ [e0], v81) [0, 1] ⟨by omega, by show (out ++ [e0]).length ≤ i + 1; rw [List.length_append]; simp; omega, (quo_byte he0 h39n h92n (by have h9 := of_decide_eq_false hc69; exact h9)).trans hpre⟩ (show s.size - (i + 1) < s.size - i by omega) rfl ⟨rfl, rfl, trivial⟩ rfl (by show _ = some [Res.row v81 5 1 (out ++ [e0]).length ((out ++ [e0]).map bv), .blk b2 (.cells [.int .i64 0, .string ⟨#[]⟩, .int .i64 0, .bool false, .bool false].toArray 79 (0, 0))]; rw [List.length_append, List.map_append]; rfl)
  · have hge : s.size ≤ i := by have := of_decide_eq_false hc14; omega
    refine cy_exit ?_
    refine ny_thenE ?_
    refine ny_thenE ?_
    refine ny_blockX ?_
    refine ny_next ?_
    refine cy_seq ?_
    refine cy_region ?_
    refine sy_build rfl (fun w => bld_79_ w) rfl rfl ?_
    refine sy_call rfl call_49 rfl (bad_c _ _ _) rfl rfl ?_
    first | refine sy_stl 0 sz_79 rfl rfl rfl rfl rfl rfl rfl rfl ?_ | refine sy_stl 1 sz_79 rfl rfl rfl rfl rfl rfl rfl rfl ?_ | refine sy_stl 2 sz_79 rfl rfl rfl rfl rfl rfl rfl rfl ?_ | refine sy_stl 3 sz_79 rfl rfl rfl rfl rfl rfl rfl rfl ?_
    refine sy_assign rfl rfl rfl ?_
    refine sy_assign rfl rfl rfl ?_
    refine sy_nil rfl ?_
    refine ny_next ?_
    refine cy_ret ?_
    first | refine ny_finR (rescT 0 rfl agg_79 rfl rfl rfl rfl rfl) (fun w hs2 => ⟨?_, hs2.frm⟩) | refine ny_finR (rescT 1 rfl agg_79 rfl rfl rfl rfl rfl) (fun w hs2 => ⟨?_, hs2.frm⟩) | refine ny_finR (rescT 2 rfl agg_79 rfl rfl rfl rfl rfl) (fun w hs2 => ⟨?_, hs2.frm⟩) | refine ny_finR (rescT 3 rfl agg_79 rfl rfl rfl rfl rfl) (fun w hs2 => ⟨?_, hs2.frm⟩)
    rw [← hpre, quo_none (by show s.size ≤ i; exact hge)]
    rfl
end Go.Proofs.YtanhhihechakhaaGreatDoor
set_option linter.unusedVariables false
set_option linter.unusedSimpArgs false
namespace Go.Proofs.YtanhhihechakhaaGreatDoor.TokP
open Go.RowKit Go.Proofs.YtanhhihechakhaaGreatDoor.E Go.Proofs.YtanhhihechakhaaGreatDoor.ReplP
def punctL : List UInt8 := [40, 41, 91, 93, 44, 124]
def b1 : ByteArray := ⟨#[97, 32, 98, 121, 116, 101]⟩
def firstT (k : Int) (l : List UInt8) (n : Nat) : Ans := .tok k ⟨(l.take n).toArray⟩ 0 false n
def oneC (c : UInt8) (l : List UInt8) : Ans :=
  if smallB c = true then firstT 1 l (runB letterB l) else if bigB c = true then firstT 2 l (runB letterB l) else if digitB c = true then numA l else if ((c.toNat : Int) == 39) = true then quoA l
  else if punctL.contains c = true then firstT 4 l 1 else if (((c.toNat : Int) == 33) || ((c.toNat : Int) == 59)) = true then firstT 1 l 1 else if endsB l = true then firstT 5 l 1 else if signB c = true then firstT 1 l (runB signB l) else .bad b1 4
theorem ext_take (s : ByteArray) (i : Nat) : s.extract 0 i = ⟨(s.data.toList.take i).toArray⟩ := by
  rw [← ext_to, ba_eta]
end Go.Proofs.YtanhhihechakhaaGreatDoor.TokP

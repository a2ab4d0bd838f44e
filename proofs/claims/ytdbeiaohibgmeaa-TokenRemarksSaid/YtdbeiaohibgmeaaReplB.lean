/- strings.Replacer's build: the walk. Conditions: as each says. Printed by a program of this session. -/
import Derived.Test.YtdbeiaohibgmeaaFactsB
import Derived.Test.YtdbeiaohibgmeaaReplA
set_option linter.unusedVariables false
set_option linter.unusedSimpArgs false
namespace Go.Proofs.Ytdbeiaohibgmeaa
open Go.RowKit Go.Proofs.Ytdbeiaohibgmeaa.E Go.Proofs.Ytdbeiaohibgmeaa.ReplP
theorem bldR {x1 : Option Addr} {x2 x3 : Nat} (w : World) : (Instr.build 83 #[(1, .slice x1 x2 x3)]).run Try.prog w = .ok (.agg (rT (fun _ => .slice none 0 0) (.slice x1 x2 x3)).toArray) w := by kernel_rfl
theorem zerR : zerL Try.prog 83 = some (rT (fun _ => .slice none 0 0) (.slice none 0 0)) := by kernel_rfl
set_option maxRecDepth 100000 in
set_option maxHeartbeats 1000000 in
theorem build_c (b : Nat) (h : Hp) (x2 : Value) (A : Option Addr) (cO : Nat) (hO : RowsAt h A 1 (olds.map fun s => [Value.string s])) : CXM Try.prog 37 [.pointer (some ⟨b, 0, none⟩)] h b (.cells [.int .u32 0, .int .i32 1, x2, .nilIface, .slice A 6 cO].toArray 62 (0, 0)) (fun x : Nat => .iface 84 (.pointer (some ⟨x, 0, none⟩))) (fun x h' o' => o' = .cells [.int .u32 0, .int .i32 1, x2, .nilIface, .slice A 6 cO].toArray 62 (0, 0) ∧ ReplT h' 83 x) := by
  refine enterXM Try.func37 rfl rfl rfl (fun w hb0 => ?_)
  refine cy_seq ?_
  refine cy_region ?_
  refine sy_assign rfl rfl rfl ?_
  refine sy_nil rfl ?_
  refine ny_next ?_
  refine cy_seq ?_
  refine cy_region ?_
  refine sy_move rfl rfl rfl ?_
  refine sy_nilCheck rfl rfl rfl ?_
  refine sy_field fld_62_2 rfl rfl rfl ?_
  first | refine sy_ldr 0 one_46 rfl rfl rfl rfl rfl ?_ | refine sy_ldr 1 one_46 rfl rfl rfl rfl rfl ?_ | refine sy_ldr 2 one_46 rfl rfl rfl rfl rfl ?_ | refine sy_ldr 3 one_46 rfl rfl rfl rfl rfl ?_ | refine sy_ldr 4 one_46 rfl rfl rfl rfl rfl ?_ | refine sy_ldr 5 one_46 rfl rfl rfl rfl rfl ?_
  refine sy_assign rfl rfl rfl ?_
  refine sy_nil rfl ?_
  refine ny_next ?_
  refine cy_seq ?_
  refine cy_seq ?_
  refine cy_region ?_
  refine sy_move rfl rfl rfl ?_
  refine sy_len rfl (len_slice Try.underlying46 _ _ _) rfl rfl ?_
  refine sy_cmp rfl rfl rfl rfl rfl ?_
  refine sy_setF (d := 21) rfl rfl rfl ?_
  refine sy_move rfl rfl rfl ?_
  refine sy_skip rfl rfl rfl ?_
  refine sy_skip rfl rfl rfl ?_
  refine sy_skip rfl rfl rfl ?_
  refine sy_skip rfl rfl rfl ?_
  refine sy_skip rfl rfl rfl ?_
  refine sy_pickF rfl rfl rfl rfl ?_
  refine sy_setF (d := 28) rfl rfl rfl ?_
  refine sy_nil rfl ?_
  refine ny_next ?_
  refine cy_condF rfl ?_
  refine cy_skip ?_
  refine ny_next ?_
  refine cy_seq ?_
  refine cy_region ?_
  refine sy_assign rfl rfl rfl ?_
  refine sy_nil rfl ?_
  refine ny_next ?_
  refine cy_seq ?_
  refine cy_seq ?_
  refine cy_region ?_
  refine sy_assign rfl rfl rfl ?_
  refine sy_nil rfl ?_
  refine ny_next ?_
  refine cy_block ?_
  refine cy_rounds 3 ?_
  refine cy_seq ?_
  refine cy_seq ?_
  refine cy_region ?_
  refine sy_move rfl rfl rfl ?_
  refine sy_move rfl rfl rfl ?_
  refine sy_len rfl (len_slice Try.underlying46 _ _ _) rfl rfl ?_
  refine sy_cmp rfl rfl rfl rfl rfl ?_
  refine sy_setT (d := 40) rfl rfl rfl ?_
  refine sy_nil rfl ?_
  refine ny_next ?_
  refine cy_condT rfl ?_
  refine cy_skip ?_
  refine ny_next ?_
  refine cy_seq ?_
  refine cy_block ?_
  refine cy_seq ?_
  refine cy_seq ?_
  refine cy_region ?_
  refine sy_move rfl rfl rfl ?_
  refine sy_move rfl rfl rfl ?_
  refine sy_idxR (i := 0) (fc := fun s => [Value.string s]) (es := olds) els_46 rfl rfl hO rfl (by decide) rfl rfl (fun e45 b45 o45 he45 hA45 hc45 => ?_)
  obtain rfl := Option.some.inj (show some (olds[0]) = some e45 from he45)
  refine sy_ldh one_9 rfl (hc45 0 _ rfl) rfl rfl ?_
  refine sy_len rfl (len_string Try.underlying9 _) rfl rfl ?_
  refine sy_cmp rfl rfl rfl rfl rfl ?_
  refine sy_setF (d := 48) rfl rfl rfl ?_
  refine sy_nil rfl ?_
  refine ny_next ?_
  refine cy_condF rfl ?_
  refine cy_skip ?_
  refine ny_next ?_
  refine cy_seq ?_
  refine cy_region ?_
  refine sy_move rfl rfl rfl ?_
  refine sy_move rfl rfl rfl ?_
  refine sy_addi (z := 1) rfl rfl (by decide) (by decide) (by decide) rfl rfl ?_
  refine sy_idxR (i := 1) (fc := fun s => [Value.string s]) (es := olds) els_46 rfl rfl hO rfl (by decide) rfl rfl (fun e55 b55 o55 he55 hA55 hc55 => ?_)
  obtain rfl := Option.some.inj (show some (olds[1]) = some e55 from he55)
  refine sy_ldh one_9 rfl (hc55 0 _ rfl) rfl rfl ?_
  refine sy_len rfl (len_string Try.underlying9 _) rfl rfl ?_
  refine sy_cmp rfl rfl rfl rfl rfl ?_
  refine sy_setT (d := 58) rfl rfl rfl ?_
  refine sy_nil rfl ?_
  refine ny_next ?_
  refine cy_condT rfl ?_
  refine cy_region ?_
  refine sy_assign rfl rfl rfl ?_
  refine sy_nil rfl ?_
  refine ny_blockN ?_
  refine ny_next ?_
  refine cy_region ?_
  refine sy_move rfl rfl rfl ?_
  refine sy_addi (z := 2) rfl rfl (by decide) (by decide) (by decide) rfl rfl ?_
  refine sy_assign rfl rfl rfl ?_
  refine sy_nil rfl ?_
  refine ny_again ?_
  refine cy_seq ?_
  refine cy_seq ?_
  refine cy_region ?_
  refine sy_move rfl rfl rfl ?_
  refine sy_move rfl rfl rfl ?_
  refine sy_len rfl (len_slice Try.underlying46 _ _ _) rfl rfl ?_
  refine sy_cmp rfl rfl rfl rfl rfl ?_
  refine sy_setT (d := 40) rfl rfl rfl ?_
  refine sy_nil rfl ?_
  refine ny_next ?_
  refine cy_condT rfl ?_
  refine cy_skip ?_
  refine ny_next ?_
  refine cy_seq ?_
  refine cy_block ?_
  refine cy_seq ?_
  refine cy_seq ?_
  refine cy_region ?_
  refine sy_move rfl rfl rfl ?_
  refine sy_move rfl rfl rfl ?_
  refine sy_idxR (i := 2) (fc := fun s => [Value.string s]) (es := olds) els_46 rfl rfl hO rfl (by decide) rfl rfl (fun e45 b45 o45 he45 hA45 hc45 => ?_)
  obtain rfl := Option.some.inj (show some (olds[2]) = some e45 from he45)
  refine sy_ldh one_9 rfl (hc45 0 _ rfl) rfl rfl ?_
  refine sy_len rfl (len_string Try.underlying9 _) rfl rfl ?_
  refine sy_cmp rfl rfl rfl rfl rfl ?_
  refine sy_setF (d := 48) rfl rfl rfl ?_
  refine sy_nil rfl ?_
  refine ny_next ?_
  refine cy_condF rfl ?_
  refine cy_skip ?_
  refine ny_next ?_
  refine cy_seq ?_
  refine cy_region ?_
  refine sy_move rfl rfl rfl ?_
  refine sy_move rfl rfl rfl ?_
  refine sy_addi (z := 3) rfl rfl (by decide) (by decide) (by decide) rfl rfl ?_
  refine sy_idxR (i := 3) (fc := fun s => [Value.string s]) (es := olds) els_46 rfl rfl hO rfl (by decide) rfl rfl (fun e55 b55 o55 he55 hA55 hc55 => ?_)
  obtain rfl := Option.some.inj (show some (olds[3]) = some e55 from he55)
  refine sy_ldh one_9 rfl (hc55 0 _ rfl) rfl rfl ?_
  refine sy_len rfl (len_string Try.underlying9 _) rfl rfl ?_
  refine sy_cmp rfl rfl rfl rfl rfl ?_
  refine sy_setT (d := 58) rfl rfl rfl ?_
  refine sy_nil rfl ?_
  refine ny_next ?_
  refine cy_condT rfl ?_
  refine cy_region ?_
  refine sy_assign rfl rfl rfl ?_
  refine sy_nil rfl ?_
  refine ny_blockN ?_
  refine ny_next ?_
  refine cy_region ?_
  refine sy_move rfl rfl rfl ?_
  refine sy_addi (z := 4) rfl rfl (by decide) (by decide) (by decide) rfl rfl ?_
  refine sy_assign rfl rfl rfl ?_
  refine sy_nil rfl ?_
  refine ny_again ?_
  refine cy_seq ?_
  refine cy_seq ?_
  refine cy_region ?_
  refine sy_move rfl rfl rfl ?_
  refine sy_move rfl rfl rfl ?_
  refine sy_len rfl (len_slice Try.underlying46 _ _ _) rfl rfl ?_
  refine sy_cmp rfl rfl rfl rfl rfl ?_
  refine sy_setT (d := 40) rfl rfl rfl ?_
  refine sy_nil rfl ?_
  refine ny_next ?_
  refine cy_condT rfl ?_
  refine cy_skip ?_
  refine ny_next ?_
  refine cy_seq ?_
  refine cy_block ?_
  refine cy_seq ?_
  refine cy_seq ?_
  refine cy_region ?_
  refine sy_move rfl rfl rfl ?_
  refine sy_move rfl rfl rfl ?_
  refine sy_idxR (i := 4) (fc := fun s => [Value.string s]) (es := olds) els_46 rfl rfl hO rfl (by decide) rfl rfl (fun e45 b45 o45 he45 hA45 hc45 => ?_)
  obtain rfl := Option.some.inj (show some (olds[4]) = some e45 from he45)
  refine sy_ldh one_9 rfl (hc45 0 _ rfl) rfl rfl ?_
  refine sy_len rfl (len_string Try.underlying9 _) rfl rfl ?_
  refine sy_cmp rfl rfl rfl rfl rfl ?_
  refine sy_setF (d := 48) rfl rfl rfl ?_
  refine sy_nil rfl ?_
  refine ny_next ?_
  refine cy_condF rfl ?_
  refine cy_skip ?_
  refine ny_next ?_
  refine cy_seq ?_
  refine cy_region ?_
  refine sy_move rfl rfl rfl ?_
  refine sy_move rfl rfl rfl ?_
  refine sy_addi (z := 5) rfl rfl (by decide) (by decide) (by decide) rfl rfl ?_
  refine sy_idxR (i := 5) (fc := fun s => [Value.string s]) (es := olds) els_46 rfl rfl hO rfl (by decide) rfl rfl (fun e55 b55 o55 he55 hA55 hc55 => ?_)
  obtain rfl := Option.some.inj (show some (olds[5]) = some e55 from he55)
  refine sy_ldh one_9 rfl (hc55 0 _ rfl) rfl rfl ?_
  refine sy_len rfl (len_string Try.underlying9 _) rfl rfl ?_
  refine sy_cmp rfl rfl rfl rfl rfl ?_
  refine sy_setT (d := 58) rfl rfl rfl ?_
  refine sy_nil rfl ?_
  refine ny_next ?_
  refine cy_condT rfl ?_
  refine cy_region ?_
  refine sy_assign rfl rfl rfl ?_
  refine sy_nil rfl ?_
  refine ny_blockN ?_
  refine ny_next ?_
  refine cy_region ?_
  refine sy_move rfl rfl rfl ?_
  refine sy_addi (z := 6) rfl rfl (by decide) (by decide) (by decide) rfl rfl ?_
  refine sy_assign rfl rfl rfl ?_
  refine sy_nil rfl ?_
  refine ny_again ?_
  refine cy_seq ?_
  refine cy_seq ?_
  refine cy_region ?_
  refine sy_move rfl rfl rfl ?_
  refine sy_move rfl rfl rfl ?_
  refine sy_len rfl (len_slice Try.underlying46 _ _ _) rfl rfl ?_
  refine sy_cmp rfl rfl rfl rfl rfl ?_
  refine sy_setF (d := 40) rfl rfl rfl ?_
  refine sy_nil rfl ?_
  refine ny_next ?_
  refine cy_condF rfl ?_
  refine cy_exit ?_
  refine ny_thenE ?_
  refine ny_thenE ?_
  refine ny_blockX ?_
  refine ny_next ?_
  refine cy_seq ?_
  refine cy_seq ?_
  refine cy_region ?_
  refine sy_move rfl rfl rfl ?_
  refine sy_setF (d := 59) rfl rfl rfl ?_
  refine sy_nil rfl ?_
  refine ny_next ?_
  refine cy_condF rfl ?_
  refine cy_skip ?_
  refine ny_next ?_
  refine cy_seq ?_
  refine cy_region ?_
  refine sy_move rfl rfl rfl ?_
  refine sy_len rfl (len_slice Try.underlying46 _ _ _) rfl rfl ?_
  refine sy_quo (z := 3) rfl rfl (by decide) rfl (by decide) (by decide) rfl rfl ?_
  refine sy_make0 (k1 := .i64) (k2 := .i64) (c := 3) row_46 rfl rfl (by decide) (by decide) rfl rfl (fun b94 hb94 hM94 => ?_) (by simp only [List.mem_singleton]; rintro _ rfl; exact hb0)
  refine sy_build rfl (fun w => bldR w) rfl rfl ?_
  refine sy_alloc (zs := rT (fun _ => Value.slice none 0 0) (.slice none 0 0)) zerR rfl rfl (fun b11 hb11 hM11 => ?_) (by simp only [List.mem_singleton]; rintro _ rfl; exact hb0)
  first | refine sy_stl 0 sz_83 rfl rfl rfl rfl rfl rfl rfl rfl ?_ | refine sy_stl 1 sz_83 rfl rfl rfl rfl rfl rfl rfl rfl ?_ | refine sy_stl 2 sz_83 rfl rfl rfl rfl rfl rfl rfl rfl ?_ | refine sy_stl 3 sz_83 rfl rfl rfl rfl rfl rfl rfl rfl ?_ | refine sy_stl 4 sz_83 rfl rfl rfl rfl rfl rfl rfl rfl ?_ | refine sy_stl 5 sz_83 rfl rfl rfl rfl rfl rfl rfl rfl ?_
  refine sy_nil rfl ?_
  refine ny_next ?_
  refine cy_seq ?_
  refine cy_seq ?_
  refine cy_region ?_
  refine sy_move rfl rfl rfl ?_
  refine sy_len rfl (len_slice Try.underlying46 _ _ _) rfl rfl ?_
  refine sy_subi (z := 4) rfl rfl (by decide) (by decide) (by decide) rfl rfl ?_
  refine sy_assign rfl rfl rfl ?_
  refine sy_nil rfl ?_
  refine ny_next ?_
  refine cy_block ?_
  refine cy_rounds 3 ?_
  refine cy_seq ?_
  refine cy_seq ?_
  refine cy_region ?_
  refine sy_move rfl rfl rfl ?_
  refine sy_cmp rfl rfl rfl rfl rfl ?_
  refine sy_setT (d := 100) rfl rfl rfl ?_
  refine sy_nil rfl ?_
  refine ny_next ?_
  refine cy_condT rfl ?_
  refine cy_skip ?_
  refine ny_next ?_
  refine cy_seq ?_
  refine cy_block ?_
  refine cy_seq ?_
  refine cy_region ?_
  refine sy_move rfl rfl rfl ?_
  refine sy_move rfl rfl rfl ?_
  refine sy_idxR (i := 4) (fc := fun s => [Value.string s]) (es := olds) els_46 rfl rfl hO rfl (by decide) rfl rfl (fun e105 b105 o105 he105 hA105 hc105 => ?_)
  obtain rfl := Option.some.inj (show some (olds[4]) = some e105 from he105)
  refine sy_ldh one_9 rfl (hc105 0 _ rfl) rfl rfl ?_
  refine sy_idxs (u := 10) Try.underlying9 rfl rfl (by decide) rfl rfl rfl ?_
  refine sy_assign rfl rfl rfl ?_
  refine sy_nil rfl ?_
  refine ny_next ?_
  refine cy_seq ?_
  refine cy_region ?_
  refine sy_move rfl rfl rfl ?_
  refine sy_move rfl rfl rfl ?_
  refine sy_addi (z := 5) rfl rfl (by decide) (by decide) (by decide) rfl rfl ?_
  refine sy_idxR (i := 5) (fc := fun s => [Value.string s]) (es := olds) els_46 rfl rfl hO rfl (by decide) rfl rfl (fun e111 b111 o111 he111 hA111 hc111 => ?_)
  obtain rfl := Option.some.inj (show some (olds[5]) = some e111 from he111)
  refine sy_ldh one_9 rfl (hc111 0 _ rfl) rfl rfl ?_
  refine sy_assign rfl rfl rfl ?_
  refine sy_nil rfl ?_
  refine ny_next ?_
  refine cy_seq ?_
  refine cy_seq ?_
  refine cy_region ?_
  refine sy_move rfl rfl rfl ?_
  refine sy_field fld_83_0 rfl rfl rfl ?_
  refine sy_idxA (i := ((10 : UInt8).toNat : Int)) arr_81 rfl rfl (by decide) (by decide) rfl rfl ?_
  refine sy_ldr (cs := rT (fun _ => Value.slice none 0 0) (.slice (some ⟨b94, 0, none⟩) 0 3)) (v := .slice none 0 0) 0 one_65 rfl rfl (rT_get (fun _ => Value.slice none 0 0) _ 10) rfl rfl ?_
  refine sy_eqsl (b := true) Try.underlying65 rfl rfl rfl rfl ?_
  refine sy_setT (d := 117) rfl rfl rfl ?_
  refine sy_nil rfl ?_
  refine ny_next ?_
  refine cy_condT rfl ?_
  refine cy_region ?_
  refine sy_field fld_83_1 rfl rfl rfl ?_
  refine sy_ldr (cs := rT (fun _ => Value.slice none 0 0) (.slice (some ⟨b94, 0, none⟩) 0 3)) (v := (.slice (some ⟨b94, 0, none⟩) 0 3)) 0 one_46 rfl rfl (rT_last _ _) rfl rfl ?_
  refine sy_move rfl rfl rfl ?_
  refine sy_buildSlice rfl (fun w => bsl_65_1_0 w) rfl rfl (fun b121 hb121 hM121 => ?_) (by simp only [List.mem_singleton]; rintro _ rfl; exact hb0)
  refine sy_byte1 (u := 10) 0 Try.underlying65 Try.underlying5 Try.underlying9 rfl rfl rfl rfl rfl ?_
  refine sy_buildSlice rfl (fun w => bsl_46_1_0 w) rfl rfl (fun b123 hb123 hM123 => ?_) (by simp only [List.mem_singleton]; rintro _ rfl; exact hb0)
  refine sy_append 3 0 row_46 (by decide) rfl rfl rfl rfl rfl rfl (by decide) (by decide) rfl rfl (fun v124 => ?_)
  refine sy_rowform 0 rfl (fun A124_10 c124_10 hv124 => ?_)
  subst hv124
  refine sy_field fld_83_1 rfl rfl rfl ?_
  refine sy_st (vs := [(.slice A124_10 1 c124_10)]) (cs := rT (fun _ => Value.slice none 0 0) (.slice (some ⟨b94, 0, none⟩) 0 3)) (cs' := rT (fun _ => Value.slice none 0 0) (.slice A124_10 1 c124_10)) 3 rfl rfl rfl rfl (fun w => sz_spec sz_46 w) rfl (by rw [rT_len]; exact Nat.le_of_ble_eq_true rfl) (rT_set2 _ _ _) rfl ?_
  refine sy_sel [0, 0, 2] rfl ?_
  refine sy_nil rfl ?_
  refine ny_next ?_
  refine cy_region ?_
  refine sy_move rfl rfl rfl ?_
  refine sy_move rfl rfl rfl ?_
  refine sy_strbytes Try.underlying9 Try.underlying65 Try.underlying5 rfl rfl rfl (fun b128_10 c128_10 h128_10 hle128_10 hr128_10 => ?_) (by simp only [List.mem_singleton]; rintro _ rfl; exact hb0)
  replace hO := hO.le hle128_10
  refine sy_field fld_83_0 rfl rfl rfl ?_
  refine sy_idxA (i := ((10 : UInt8).toNat : Int)) arr_81 rfl rfl (by decide) (by decide) rfl rfl ?_
  refine sy_st (vs := [.slice (some ⟨b128_10, 0, none⟩) 2 c128_10]) (cs := rT (fun _ => Value.slice none 0 0) (.slice A124_10 1 c124_10)) (cs' := rT (updC (fun _ => Value.slice none 0 0) 10 (.slice (some ⟨b128_10, 0, none⟩) 2 c128_10)) (.slice A124_10 1 c124_10)) 0 rfl rfl rfl rfl (fun w => sz_spec sz_65 w) rfl (by rw [rT_len]; exact Nat.le_of_ble_eq_true rfl) (rT_set _ _ _ 10) rfl ?_
  refine sy_nil rfl ?_
  refine ny_blockN ?_
  refine ny_next ?_
  refine cy_region ?_
  refine sy_move rfl rfl rfl ?_
  refine sy_subi (z := 2) rfl rfl (by decide) (by decide) (by decide) rfl rfl ?_
  refine sy_assign rfl rfl rfl ?_
  refine sy_nil rfl ?_
  refine ny_again ?_
  refine cy_seq ?_
  refine cy_seq ?_
  refine cy_region ?_
  refine sy_move rfl rfl rfl ?_
  refine sy_cmp rfl rfl rfl rfl rfl ?_
  refine sy_setT (d := 100) rfl rfl rfl ?_
  refine sy_nil rfl ?_
  refine ny_next ?_
  refine cy_condT rfl ?_
  refine cy_skip ?_
  refine ny_next ?_
  refine cy_seq ?_
  refine cy_block ?_
  refine cy_seq ?_
  refine cy_region ?_
  refine sy_move rfl rfl rfl ?_
  refine sy_move rfl rfl rfl ?_
  refine sy_idxR (i := 2) (fc := fun s => [Value.string s]) (es := olds) els_46 rfl rfl hO rfl (by decide) rfl rfl (fun e105 b105 o105 he105 hA105 hc105 => ?_)
  obtain rfl := Option.some.inj (show some (olds[2]) = some e105 from he105)
  refine sy_ldh one_9 rfl (hc105 0 _ rfl) rfl rfl ?_
  refine sy_idxs (u := 92) Try.underlying9 rfl rfl (by decide) rfl rfl rfl ?_
  refine sy_assign rfl rfl rfl ?_
  refine sy_nil rfl ?_
  refine ny_next ?_
  refine cy_seq ?_
  refine cy_region ?_
  refine sy_move rfl rfl rfl ?_
  refine sy_move rfl rfl rfl ?_
  refine sy_addi (z := 3) rfl rfl (by decide) (by decide) (by decide) rfl rfl ?_
  refine sy_idxR (i := 3) (fc := fun s => [Value.string s]) (es := olds) els_46 rfl rfl hO rfl (by decide) rfl rfl (fun e111 b111 o111 he111 hA111 hc111 => ?_)
  obtain rfl := Option.some.inj (show some (olds[3]) = some e111 from he111)
  refine sy_ldh one_9 rfl (hc111 0 _ rfl) rfl rfl ?_
  refine sy_assign rfl rfl rfl ?_
  refine sy_nil rfl ?_
  refine ny_next ?_
  refine cy_seq ?_
  refine cy_seq ?_
  refine cy_region ?_
  refine sy_move rfl rfl rfl ?_
  refine sy_field fld_83_0 rfl rfl rfl ?_
  refine sy_idxA (i := ((92 : UInt8).toNat : Int)) arr_81 rfl rfl (by decide) (by decide) rfl rfl ?_
  refine sy_ldr (cs := rT (updC (fun _ => Value.slice none 0 0) 10 (.slice (some ⟨b128_10, 0, none⟩) 2 c128_10)) (.slice A124_10 1 c124_10)) (v := .slice none 0 0) 0 one_65 rfl rfl (rT_get (updC (fun _ => Value.slice none 0 0) 10 (.slice (some ⟨b128_10, 0, none⟩) 2 c128_10)) _ 92) rfl rfl ?_
  refine sy_eqsl (b := true) Try.underlying65 rfl rfl rfl rfl ?_
  refine sy_setT (d := 117) rfl rfl rfl ?_
  refine sy_nil rfl ?_
  refine ny_next ?_
  refine cy_condT rfl ?_
  refine cy_region ?_
  refine sy_field fld_83_1 rfl rfl rfl ?_
  refine sy_ldr (cs := rT (updC (fun _ => Value.slice none 0 0) 10 (.slice (some ⟨b128_10, 0, none⟩) 2 c128_10)) (.slice A124_10 1 c124_10)) (v := (.slice A124_10 1 c124_10)) 0 one_46 rfl rfl (rT_last _ _) rfl rfl ?_
  refine sy_move rfl rfl rfl ?_
  refine sy_buildSlice rfl (fun w => bsl_65_1_0 w) rfl rfl (fun b121 hb121 hM121 => ?_) (by simp only [List.mem_singleton]; rintro _ rfl; exact hb0)
  refine sy_byte1 (u := 92) 0 Try.underlying65 Try.underlying5 Try.underlying9 rfl rfl rfl rfl rfl ?_
  refine sy_buildSlice rfl (fun w => bsl_46_1_0 w) rfl rfl (fun b123 hb123 hM123 => ?_) (by simp only [List.mem_singleton]; rintro _ rfl; exact hb0)
  refine sy_append 3 0 row_46 (by decide) rfl rfl rfl rfl rfl rfl (by decide) (by decide) rfl rfl (fun v124 => ?_)
  refine sy_rowform 0 rfl (fun A124_92 c124_92 hv124 => ?_)
  subst hv124
  refine sy_field fld_83_1 rfl rfl rfl ?_
  refine sy_st (vs := [(.slice A124_92 2 c124_92)]) (cs := rT (updC (fun _ => Value.slice none 0 0) 10 (.slice (some ⟨b128_10, 0, none⟩) 2 c128_10)) (.slice A124_10 1 c124_10)) (cs' := rT (updC (fun _ => Value.slice none 0 0) 10 (.slice (some ⟨b128_10, 0, none⟩) 2 c128_10)) (.slice A124_92 2 c124_92)) 3 rfl rfl rfl rfl (fun w => sz_spec sz_46 w) rfl (by rw [rT_len]; exact Nat.le_of_ble_eq_true rfl) (rT_set2 _ _ _) rfl ?_
  refine sy_sel [0, 0, 2] rfl ?_
  refine sy_nil rfl ?_
  refine ny_next ?_
  refine cy_region ?_
  refine sy_move rfl rfl rfl ?_
  refine sy_move rfl rfl rfl ?_
  refine sy_strbytes Try.underlying9 Try.underlying65 Try.underlying5 rfl rfl rfl (fun b128_92 c128_92 h128_92 hle128_92 hr128_92 => ?_) (by simp only [List.mem_singleton]; rintro _ rfl; exact hb0)
  replace hO := hO.le hle128_92
  replace hr128_10 := hr128_10.le hle128_92
  refine sy_field fld_83_0 rfl rfl rfl ?_
  refine sy_idxA (i := ((92 : UInt8).toNat : Int)) arr_81 rfl rfl (by decide) (by decide) rfl rfl ?_
  refine sy_st (vs := [.slice (some ⟨b128_92, 0, none⟩) 2 c128_92]) (cs := rT (updC (fun _ => Value.slice none 0 0) 10 (.slice (some ⟨b128_10, 0, none⟩) 2 c128_10)) (.slice A124_92 2 c124_92)) (cs' := rT (updC (updC (fun _ => Value.slice none 0 0) 10 (.slice (some ⟨b128_10, 0, none⟩) 2 c128_10)) 92 (.slice (some ⟨b128_92, 0, none⟩) 2 c128_92)) (.slice A124_92 2 c124_92)) 0 rfl rfl rfl rfl (fun w => sz_spec sz_65 w) rfl (by rw [rT_len]; exact Nat.le_of_ble_eq_true rfl) (rT_set _ _ _ 92) rfl ?_
  refine sy_nil rfl ?_
  refine ny_blockN ?_
  refine ny_next ?_
  refine cy_region ?_
  refine sy_move rfl rfl rfl ?_
  refine sy_subi (z := 0) rfl rfl (by decide) (by decide) (by decide) rfl rfl ?_
  refine sy_assign rfl rfl rfl ?_
  refine sy_nil rfl ?_
  refine ny_again ?_
  refine cy_seq ?_
  refine cy_seq ?_
  refine cy_region ?_
  refine sy_move rfl rfl rfl ?_
  refine sy_cmp rfl rfl rfl rfl rfl ?_
  refine sy_setT (d := 100) rfl rfl rfl ?_
  refine sy_nil rfl ?_
  refine ny_next ?_
  refine cy_condT rfl ?_
  refine cy_skip ?_
  refine ny_next ?_
  refine cy_seq ?_
  refine cy_block ?_
  refine cy_seq ?_
  refine cy_region ?_
  refine sy_move rfl rfl rfl ?_
  refine sy_move rfl rfl rfl ?_
  refine sy_idxR (i := 0) (fc := fun s => [Value.string s]) (es := olds) els_46 rfl rfl hO rfl (by decide) rfl rfl (fun e105 b105 o105 he105 hA105 hc105 => ?_)
  obtain rfl := Option.some.inj (show some (olds[0]) = some e105 from he105)
  refine sy_ldh one_9 rfl (hc105 0 _ rfl) rfl rfl ?_
  refine sy_idxs (u := 39) Try.underlying9 rfl rfl (by decide) rfl rfl rfl ?_
  refine sy_assign rfl rfl rfl ?_
  refine sy_nil rfl ?_
  refine ny_next ?_
  refine cy_seq ?_
  refine cy_region ?_
  refine sy_move rfl rfl rfl ?_
  refine sy_move rfl rfl rfl ?_
  refine sy_addi (z := 1) rfl rfl (by decide) (by decide) (by decide) rfl rfl ?_
  refine sy_idxR (i := 1) (fc := fun s => [Value.string s]) (es := olds) els_46 rfl rfl hO rfl (by decide) rfl rfl (fun e111 b111 o111 he111 hA111 hc111 => ?_)
  obtain rfl := Option.some.inj (show some (olds[1]) = some e111 from he111)
  refine sy_ldh one_9 rfl (hc111 0 _ rfl) rfl rfl ?_
  refine sy_assign rfl rfl rfl ?_
  refine sy_nil rfl ?_
  refine ny_next ?_
  refine cy_seq ?_
  refine cy_seq ?_
  refine cy_region ?_
  refine sy_move rfl rfl rfl ?_
  refine sy_field fld_83_0 rfl rfl rfl ?_
  refine sy_idxA (i := ((39 : UInt8).toNat : Int)) arr_81 rfl rfl (by decide) (by decide) rfl rfl ?_
  refine sy_ldr (cs := rT (updC (updC (fun _ => Value.slice none 0 0) 10 (.slice (some ⟨b128_10, 0, none⟩) 2 c128_10)) 92 (.slice (some ⟨b128_92, 0, none⟩) 2 c128_92)) (.slice A124_92 2 c124_92)) (v := .slice none 0 0) 0 one_65 rfl rfl (rT_get (updC (updC (fun _ => Value.slice none 0 0) 10 (.slice (some ⟨b128_10, 0, none⟩) 2 c128_10)) 92 (.slice (some ⟨b128_92, 0, none⟩) 2 c128_92)) _ 39) rfl rfl ?_
  refine sy_eqsl (b := true) Try.underlying65 rfl rfl rfl rfl ?_
  refine sy_setT (d := 117) rfl rfl rfl ?_
  refine sy_nil rfl ?_
  refine ny_next ?_
  refine cy_condT rfl ?_
  refine cy_region ?_
  refine sy_field fld_83_1 rfl rfl rfl ?_
  refine sy_ldr (cs := rT (updC (updC (fun _ => Value.slice none 0 0) 10 (.slice (some ⟨b128_10, 0, none⟩) 2 c128_10)) 92 (.slice (some ⟨b128_92, 0, none⟩) 2 c128_92)) (.slice A124_92 2 c124_92)) (v := (.slice A124_92 2 c124_92)) 0 one_46 rfl rfl (rT_last _ _) rfl rfl ?_
  refine sy_move rfl rfl rfl ?_
  refine sy_buildSlice rfl (fun w => bsl_65_1_0 w) rfl rfl (fun b121 hb121 hM121 => ?_) (by simp only [List.mem_singleton]; rintro _ rfl; exact hb0)
  refine sy_byte1 (u := 39) 0 Try.underlying65 Try.underlying5 Try.underlying9 rfl rfl rfl rfl rfl ?_
  refine sy_buildSlice rfl (fun w => bsl_46_1_0 w) rfl rfl (fun b123 hb123 hM123 => ?_) (by simp only [List.mem_singleton]; rintro _ rfl; exact hb0)
  refine sy_append 3 0 row_46 (by decide) rfl rfl rfl rfl rfl rfl (by decide) (by decide) rfl rfl (fun v124 => ?_)
  refine sy_rowform 0 rfl (fun A124_39 c124_39 hv124 => ?_)
  subst hv124
  refine sy_field fld_83_1 rfl rfl rfl ?_
  refine sy_st (vs := [(.slice A124_39 3 c124_39)]) (cs := rT (updC (updC (fun _ => Value.slice none 0 0) 10 (.slice (some ⟨b128_10, 0, none⟩) 2 c128_10)) 92 (.slice (some ⟨b128_92, 0, none⟩) 2 c128_92)) (.slice A124_92 2 c124_92)) (cs' := rT (updC (updC (fun _ => Value.slice none 0 0) 10 (.slice (some ⟨b128_10, 0, none⟩) 2 c128_10)) 92 (.slice (some ⟨b128_92, 0, none⟩) 2 c128_92)) (.slice A124_39 3 c124_39)) 3 rfl rfl rfl rfl (fun w => sz_spec sz_46 w) rfl (by rw [rT_len]; exact Nat.le_of_ble_eq_true rfl) (rT_set2 _ _ _) rfl ?_
  refine sy_sel [0, 0, 2] rfl ?_
  refine sy_nil rfl ?_
  refine ny_next ?_
  refine cy_region ?_
  refine sy_move rfl rfl rfl ?_
  refine sy_move rfl rfl rfl ?_
  refine sy_strbytes Try.underlying9 Try.underlying65 Try.underlying5 rfl rfl rfl (fun b128_39 c128_39 h128_39 hle128_39 hr128_39 => ?_) (by simp only [List.mem_singleton]; rintro _ rfl; exact hb0)
  replace hO := hO.le hle128_39
  replace hr128_10 := hr128_10.le hle128_39
  replace hr128_92 := hr128_92.le hle128_39
  refine sy_field fld_83_0 rfl rfl rfl ?_
  refine sy_idxA (i := ((39 : UInt8).toNat : Int)) arr_81 rfl rfl (by decide) (by decide) rfl rfl ?_
  refine sy_st (vs := [.slice (some ⟨b128_39, 0, none⟩) 2 c128_39]) (cs := rT (updC (updC (fun _ => Value.slice none 0 0) 10 (.slice (some ⟨b128_10, 0, none⟩) 2 c128_10)) 92 (.slice (some ⟨b128_92, 0, none⟩) 2 c128_92)) (.slice A124_39 3 c124_39)) (cs' := rT (updC (updC (updC (fun _ => Value.slice none 0 0) 10 (.slice (some ⟨b128_10, 0, none⟩) 2 c128_10)) 92 (.slice (some ⟨b128_92, 0, none⟩) 2 c128_92)) 39 (.slice (some ⟨b128_39, 0, none⟩) 2 c128_39)) (.slice A124_39 3 c124_39)) 0 rfl rfl rfl rfl (fun w => sz_spec sz_65 w) rfl (by rw [rT_len]; exact Nat.le_of_ble_eq_true rfl) (rT_set _ _ _ 39) rfl ?_
  refine sy_nil rfl ?_
  refine ny_blockN ?_
  refine ny_next ?_
  refine cy_region ?_
  refine sy_move rfl rfl rfl ?_
  refine sy_subi (z := -2) rfl rfl (by decide) (by decide) (by decide) rfl rfl ?_
  refine sy_assign rfl rfl rfl ?_
  refine sy_nil rfl ?_
  refine ny_again ?_
  refine cy_seq ?_
  refine cy_seq ?_
  refine cy_region ?_
  refine sy_move rfl rfl rfl ?_
  refine sy_cmp rfl rfl rfl rfl rfl ?_
  refine sy_setF (d := 100) rfl rfl rfl ?_
  refine sy_nil rfl ?_
  refine ny_next ?_
  refine cy_condF rfl ?_
  refine cy_exit ?_
  refine ny_thenE ?_
  refine ny_thenE ?_
  refine ny_blockX ?_
  refine ny_next ?_
  refine cy_seq ?_
  refine cy_region ?_
  refine sy_iface Try.underlying84 rfl rfl rfl rfl ?_
  refine sy_assign rfl rfl rfl ?_
  refine sy_nil rfl ?_
  refine ny_next ?_
  refine cy_ret ?_
  refine ny_finR (res1 rfl rfl) (fun w hs => ?_)
  obtain ⟨A3, k3, h9, hv9, _, _, _, hle9, hcell9, _, hs9⟩ := frzRow 1 rfl (fun g hg hgm => by simp only [List.mem_singleton] at hgm; subst hgm; exact (List.pairwise_cons.1 (List.pairwise_cons.1 hs.dis).2).1 _ (List.mem_cons_self) _ hg rfl) hs
  injection hv9 with hv9a _ hv9b
  subst hv9a hv9b
  obtain ⟨h10, hle10, hb10, hs10⟩ := frz 0 rfl hM11 hs9
  refine ⟨b11, h10, _, rfl, ⟨rfl, _, _, _, _, (by rw [repl_form] at hb10; exact hb10), fun c => ?_, fun c hc => ?_, ?_⟩, hs10.toTurn⟩
  · unfold isSp
    by_cases h1 : c = 39
    · subst h1; rfl
    · by_cases h2 : c = 92
      · subst h2; rfl
      · by_cases h3 : c = 10
        · subst h3; rfl
        · simp [h1, h2, h3]
  · unfold isSp at hc
    simp only [Bool.or_eq_true, beq_iff_eq] at hc
    rcases hc with (rfl | rfl) | rfl
    · exact (hr128_10.le hle9).le hle10
    · exact (hr128_92.le hle9).le hle10
    · exact (hr128_39.le hle9).le hle10
  · exact (rows_row (cs := sps.map fun c => [Value.string ⟨#[c]⟩]) (by decide) (fun c hc => by obtain ⟨x, _, rfl⟩ := List.mem_map.1 hc; rfl) hcell9).le hle10
end Go.Proofs.Ytdbeiaohibgmeaa

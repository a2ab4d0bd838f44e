/- The engine, the plain laws and the walks of this seat, part 2: what the functions answer. Conditions: as each says; printed by programs of this session. -/
import Derived.Lib.AppendStr
import Derived.Lib.UnsafeStr
import Derived.Lib.Builder
import Derived.Test.YtanhhihechakhaaGreatDoorMa
set_option linter.unusedVariables false
set_option linter.unusedSimpArgs false
namespace Go.Proofs.YtanhhihechakhaaGreatDoor
open Go.RowKit Go.Proofs.YtanhhihechakhaaGreatDoor.E Go.Proofs.YtanhhihechakhaaGreatDoor.ReplP
theorem cntX (s : ByteArray) (c : UInt8) (w : World) : (callFunc 208 #[.string s, .int .u8 (c.toNat : Int)]).run Tryz.prog w = .ok (.value (.int .i64 ((s.data.toList.count c : Nat) : Int))) w := by
 have h1 := Lib.run_countString (P := Tryz.prog) s (c.toNat : Int) w
 have e : (c.toNat : Int).toNat.toUInt8 = c := by simp
 rw [e] at h1
 exact ext_run (e := Extern.BytealgCount.count) Tryz.func208 (by kernel_rfl) (by kernel_rfl) (by kernel_rfl) (by kernel_rfl) h1
set_option maxRecDepth 100000 in
theorem count_c (s : ByteArray) (c : UInt8) (h : Hp) : C0 Tryz.prog 206 [.string s, .string ⟨#[c]⟩] h (.int .i64 ((s.data.toList.count c : Nat) : Int)) := by
 refine enter0 Tryz.func206 rfl rfl rfl (fun w => ?_)
 refine cy_seq ?_
 refine cy_region ?_
 refine sy_assign rfl rfl rfl ?_
 refine sy_nil rfl ?_
 refine ny_next ?_
 refine cy_seq ?_
 refine cy_seq ?_
 refine cy_region ?_
 refine sy_move rfl rfl rfl ?_
 refine sy_len rfl (len_string Tryz.underlying9 _) rfl rfl ?_
 refine sy_cmp rfl rfl rfl rfl rfl ?_
 refine sy_setF (d := 9) rfl rfl rfl ?_
 refine sy_nil rfl ?_
 refine ny_next ?_
 refine cy_condF rfl ?_
 refine cy_skip ?_
 refine ny_next ?_
 refine cy_seq ?_
 refine cy_seq ?_
 refine cy_region ?_
 refine sy_move rfl rfl rfl ?_
 refine sy_len rfl (len_string Tryz.underlying9 _) rfl rfl ?_
 refine sy_cmp rfl rfl rfl rfl rfl ?_
 refine sy_setT (d := 15) rfl rfl rfl ?_
 refine sy_nil rfl ?_
 refine ny_next ?_
 refine cy_condT rfl ?_
 refine cy_seq ?_
 refine cy_region ?_
 refine sy_move rfl rfl rfl ?_
 refine sy_move rfl rfl rfl ?_
 refine sy_idxs (u := c) Tryz.underlying9 rfl rfl (by decide) rfl rfl rfl ?_
 refine sy_exq rfl (fun w hs => cntX s c w) rfl rfl ?_
 refine sy_assign rfl rfl rfl ?_
 refine sy_nil rfl ?_
 refine ny_next ?_
 refine cy_ret ?_
 refine ny_thenR ?_
 refine ny_finR (res1 rfl rfl) (fun w hs => ⟨?_, hs.frm⟩)
 rfl
set_option maxRecDepth 100000 in
theorem bsr_c (x : Nat) (s : ByteArray) (h : Hp) (hR : ReplT h 205 x) (hs : s.size ≤ 140737488355328) : C0 Tryz.prog 204 [.pointer (some ⟨x, 0, none⟩), .string s] h (.string ⟨(repl s.data.toList).toArray⟩) := by
 obtain ⟨rA, rk, A3, k3, hX, hN, hS, h3⟩ := hR
 refine enter0 Tryz.func204 rfl rfl rfl (fun w => ?_)
 refine cy_seq ?_
 refine cy_region ?_
 refine sy_assign rfl rfl rfl ?_
 refine sy_nil rfl ?_
 refine ny_next ?_
 refine cy_seq ?_
 refine cy_region ?_
 refine sy_move rfl rfl rfl ?_
 refine sy_len rfl (len_string Tryz.underlying9 _) rfl rfl ?_
 refine sy_assign rfl rfl rfl ?_
 refine sy_nil rfl ?_
 refine ny_next ?_
 refine cy_seq ?_
 refine cy_region ?_
 refine sy_assign rfl rfl rfl ?_
 refine sy_nil rfl ?_
 refine ny_next ?_
 refine cy_seq ?_
 refine cy_seq ?_
 refine cy_region ?_
 refine sy_move rfl rfl rfl ?_
 refine sy_nilCheck rfl rfl rfl ?_
 refine sy_field fld_205_1 rfl rfl rfl ?_
 refine sy_ldh one_37 rfl (Hp.blk hX 256 _ (rT_last _ _)) rfl rfl ?_
 refine sy_len rfl (len_slice Tryz.underlying37 _ _ _) rfl rfl ?_
 refine sy_muli (z := 24) rfl rfl rfl (by decide) (by decide) rfl rfl ?_
 refine sy_move rfl rfl rfl ?_
 refine sy_len rfl (len_string Tryz.underlying9 _) rfl rfl ?_
 refine sy_cmp rfl rfl rfl rfl rfl ?_
 refine sy_nil rfl ?_
 refine ny_next ?_
 refine cy_cond rfl (fun hc26 => ?_) (fun hc26 => ?_)
 · refine cy_seq ?_
   refine cy_region ?_
   refine sy_move rfl rfl rfl ?_
   refine sy_nilCheck rfl rfl rfl ?_
   refine sy_field fld_205_1 rfl rfl rfl ?_
   refine sy_ldh one_37 rfl (Hp.blk hX 256 _ (rT_last _ _)) rfl rfl ?_
   refine sy_len rfl (len_slice Tryz.underlying37 _ _ _) rfl rfl ?_
   refine sy_move rfl rfl rfl ?_
   refine sy_nil rfl ?_
   refine ny_next ?_
   refine cy_block ?_
   refine cy_loopK (ι := Nat) [0, 1, 30, 31] rfl (fun i => i ≤ 3) (fun i => 3 - i) (fun i => [(5, .int .i64 ((s.size + cntS s.data.toList i : Nat) : Int)), (6, .bool (anyS s.data.toList i)), (32, .int .i64 (i : Int))]) (fun i => h) (fun i => []) 0 [] (Nat.zero_le _) ⟨rfl, rfl, rfl, trivial⟩ rfl rfl ?_
   rintro i hI
   have hcs := cntS_le s.data.toList i
   refine cy_seq ?_
   refine cy_region ?_
   refine sy_cmp rfl rfl rfl rfl rfl ?_
   refine sy_nil rfl ?_
   refine ny_next ?_
   refine cy_seq ?_
   refine cy_cond rfl (fun hc33 => ?_) (fun hc33 => ?_)
   · have hlti : i < 3 := by have := of_decide_eq_true hc33; omega
     refine cy_skip ?_
     refine ny_next ?_
     refine cy_seq ?_
     refine cy_block ?_
     refine cy_seq ?_
     refine cy_region ?_
     refine sy_idxR (fc := (fun c => [Value.string ⟨#[c]⟩])) (es := sps) els_37 rfl rfl h3 rfl (by omega) rfl rfl (fun e34 b34 o34 he34 hA34 hc34 => ?_)
     refine sy_ldh one_9 rfl (hc34 0 _ rfl) rfl rfl ?_
     refine sy_assign rfl rfl rfl ?_
     refine sy_nil rfl ?_
     refine ny_next ?_
     refine cy_seq ?_
     refine cy_region ?_
     refine sy_move rfl rfl rfl ?_
     refine sy_move rfl rfl rfl ?_
     refine sy_call rfl call_206 rfl (count_c s e34 _) rfl rfl ?_
     have hcl := count_len s.data.toList e34
     have hsz : s.data.toList.length = s.size := rfl
     have hsp := sps_sp he34
     have hr2 := rep_len hsp
     refine sy_assign rfl rfl rfl ?_
     refine sy_nil rfl ?_
     refine ny_next ?_
     refine cy_seq ?_
     refine cy_region ?_
     refine sy_move rfl rfl rfl ?_
     refine sy_cmp rfl rfl rfl rfl rfl ?_
     refine sy_nil rfl ?_
     refine ny_next ?_
     refine cy_cond rfl (fun hc40 => ?_) (fun hc40 => ?_)
     · have hne : s.data.toList.count e34 ≠ 0 := by intro h9; rw [h9] at hc40; simp at hc40
       refine cy_seq ?_
       refine cy_regionQ mixed (by kernel_rfl) ?_
       refine sy_move rfl rfl rfl ?_
       refine sy_move rfl rfl rfl ?_
       refine sy_move rfl rfl rfl ?_
       refine sy_move rfl rfl rfl ?_
       refine sy_idxs (u := e34) Tryz.underlying9 rfl rfl (by decide) rfl rfl rfl ?_
       refine sy_nilCheck rfl rfl rfl ?_
       refine sy_field fld_205_0 rfl rfl rfl ?_
       refine sy_idxU (u := e34) arr_203 rfl rfl (by have := e34.toNat_lt; omega) rfl rfl ?_
       refine sy_ldh one_40 rfl (Hp.blk0 hX e34.toNat (rT_get _ _ e34)) rfl rfl ?_
       refine sy_len rfl (len_slice Tryz.underlying40 _ _ _) rfl rfl ?_
       refine sy_subi (z := 1) rfl rfl (by omega) (by omega) (by omega) rfl rfl ?_
       refine sy_muli (z := ((s.data.toList.count e34 : Nat) : Int)) rfl rfl (by omega) (by omega) (by omega) rfl rfl ?_
       refine sy_addi (z := ((s.size + cntS s.data.toList i + s.data.toList.count e34 : Nat) : Int)) rfl rfl (by omega) (by omega) (by omega) rfl rfl ?_
       refine sy_assign rfl rfl rfl ?_
       refine sy_nil rfl ?_
       refine ny_next ?_
       refine cy_region ?_
       refine sy_assign rfl rfl rfl ?_
       refine sy_nil rfl ?_
       refine ny_blockN ?_
       refine ny_next ?_
       refine cy_region ?_
       refine sy_addi (z := ((i + 1 : Nat) : Int)) rfl rfl (by omega) (by omega) (by omega) rfl rfl ?_
       refine sy_move rfl rfl rfl ?_
       refine sy_nil rfl ?_
       refine ny_roundK [0, 1, 30, 31] (i + 1) [] (show i + 1 ≤ 3 by omega) (show 3 - (i + 1) < 3 - i by omega) rfl ⟨congrArg (fun z : Nat => some (Value.int .i64 (z : Int))) (by rw [cntS_succ he34]; omega), congrArg (fun b => some (Value.bool b)) (by rw [anyS_succ he34, decide_eq_true hne, Bool.or_true]), rfl, trivial⟩ rfl rfl
     · have heq : s.data.toList.count e34 = 0 := by simpa using hc40
       refine cy_skip ?_
       refine ny_blockN ?_
       refine ny_next ?_
       refine cy_region ?_
       refine sy_addi (z := ((i + 1 : Nat) : Int)) rfl rfl (by omega) (by omega) (by omega) rfl rfl ?_
       refine sy_move rfl rfl rfl ?_
       refine sy_nil rfl ?_
       refine ny_roundK [0, 1, 30, 31] (i + 1) [] (show i + 1 ≤ 3 by omega) (show 3 - (i + 1) < 3 - i by omega) rfl ⟨congrArg (fun z : Nat => some (Value.int .i64 (z : Int))) (by rw [cntS_succ he34, heq]; rfl), congrArg (fun b => some (Value.bool b)) (by rw [anyS_succ he34, heq]; simp), rfl, trivial⟩ rfl rfl
   · have hie : i = 3 := by have := of_decide_eq_false hc33; omega
     subst hie
     rw [show s.size + cntS s.data.toList 3 = (repl s.data.toList).length from cntS_all s.data.toList, anyS_all]
     refine cy_exit ?_
     refine ny_thenE ?_
     refine ny_thenE ?_
     refine ny_blockX ?_
     refine ny_next ?_
     refine cy_seq ?_
     refine cy_seq ?_
     refine cy_region ?_
     refine sy_move rfl rfl rfl ?_
     refine sy_not rfl rfl rfl ?_
     refine sy_nil rfl ?_
     refine ny_next ?_
     refine cy_cond rfl (fun hc82 => ?_) (fun hc82 => ?_)
     · refine cy_seq ?_
       refine cy_region ?_
       refine sy_move rfl rfl rfl ?_
       refine sy_assign rfl rfl rfl ?_
       refine sy_nil rfl ?_
       refine ny_next ?_
       refine cy_ret ?_
       refine ny_thenR ?_
       refine ny_finR (res1 rfl rfl) (fun w hs2 => ⟨?_, hs2.frm⟩)
       have hno : s.data.toList.any isSp = false := by simpa using hc82
       rw [repl_no hno, ba_eta]
     · refine cy_skip ?_
       refine ny_next ?_
       refine cy_seq ?_
       have hN2 := repl_le s.data.toList
       have hsz : s.data.toList.length = s.size := rfl
       refine cy_region ?_
       refine sy_move rfl rfl rfl ?_
       refine sy_makeB row_40 zer_5 rfl rfl (by omega) rfl rfl (fun b85 hb85 hM85 => ?_) (by simp)
       refine sy_assign rfl rfl rfl ?_
       refine sy_nil rfl ?_
       refine ny_next ?_
       refine cy_seq ?_
       refine cy_region ?_
       refine sy_assign rfl rfl rfl ?_
       refine sy_nil rfl ?_
       refine ny_next ?_
       refine cy_seq ?_
       refine cy_seq ?_
       refine cy_region ?_
       refine sy_assign rfl rfl rfl ?_
       refine sy_nil rfl ?_
       refine ny_next ?_
       refine cy_block ?_
       refine cy_loopK (ι := Nat) [0, 1, 12] rfl (fun i => i ≤ s.size) (fun i => s.size - i) (fun i => [(13, .int .i64 (((repl (s.data.toList.take i)).length : Nat) : Int)), (14, .int .i64 (i : Int))]) (fun i => h) (fun i => [.blk b85 (.cells ((repl (s.data.toList.take i)).map bv ++ List.replicate ((repl s.data.toList).length - (repl (s.data.toList.take i)).length) (Value.int .u8 0)).toArray 5 (0, 0))]) 0 [0] (Nat.zero_le _) ⟨rfl, rfl, trivial⟩ rfl rfl ?_
       rintro i hI
       have hrt := repl_take_le s.data.toList i
       refine cy_seq ?_
       refine cy_seq ?_
       refine cy_region ?_
       refine sy_move rfl rfl rfl ?_
       refine sy_move rfl rfl rfl ?_
       refine sy_len rfl (len_string Tryz.underlying9 _) rfl rfl ?_
       refine sy_cmp rfl rfl rfl rfl rfl ?_
       refine sy_nil rfl ?_
       refine ny_next ?_
       refine cy_cond rfl (fun hc89 => ?_) (fun hc89 => ?_)
       · have hlti : i < s.size := by have := of_decide_eq_true hc89; omega
         obtain ⟨e0, he0⟩ : ∃ e0, s.data.toList[i]? = some e0 := ⟨_, List.getElem?_eq_getElem (by show i < s.size; omega)⟩
         have hroom := repl_room he0
         refine cy_skip ?_
         refine ny_next ?_
         refine cy_seq ?_
         refine cy_block ?_
         refine cy_seq ?_
         refine cy_region ?_
         refine sy_move rfl rfl rfl ?_
         refine sy_move rfl rfl rfl ?_
         refine sy_idxs (u := e0) Tryz.underlying9 rfl rfl (by omega) (ba_at he0) rfl rfl ?_
         refine sy_assign rfl rfl rfl ?_
         refine sy_nil rfl ?_
         refine ny_next ?_
         refine cy_seq ?_
         refine cy_region ?_
         refine sy_move rfl rfl rfl ?_
         refine sy_move rfl rfl rfl ?_
         refine sy_nilCheck rfl rfl rfl ?_
         refine sy_field fld_205_0 rfl rfl rfl ?_
         refine sy_idxU (u := e0) arr_203 rfl rfl (by have := e0.toNat_lt; omega) rfl rfl ?_
         refine sy_ldh one_40 rfl (Hp.blk0 hX e0.toNat (rT_get _ _ e0)) rfl rfl ?_
         refine sy_eqsl (b := isSp e0) Tryz.underlying40 rfl (by simp [hN]) rfl rfl ?_
         refine sy_nil rfl ?_
         refine ny_next ?_
         refine cy_cond rfl (fun hc101 => ?_) (fun hc101 => ?_)
         · have hr2 := rep_len hc101
           rw [one_sp hc101, hr2] at hroom
           have hrr := hS e0 hc101
           refine cy_regionA mixed ?_
           refine zy_q 0 rfl (by kernel_rfl) (fun hB28_0 => ?_)
           refine sy_move rfl rfl rfl ?_
           refine sy_nil1 (ny_zq hB28_0 ?_)
           refine zy_q 1 rfl (by kernel_rfl) (fun hB28_1 => ?_)
           refine sy_move rfl rfl rfl ?_
           refine sy_nil1 (ny_zq hB28_1 ?_)
           refine zy_q 2 rfl (by kernel_rfl) (fun hB28_2 => ?_)
           refine sy_move rfl rfl rfl ?_
           refine sy_nil1 (ny_zq hB28_2 ?_)
           refine zy_q 3 rfl (by kernel_rfl) (fun hB28_3 => ?_)
           refine sy_cutB els_40 rfl rfl (by omega) (by omega) rfl rfl ?_
           refine sy_nil1 (ny_zq hB28_3 ?_)
           refine zy_q 4 rfl (by kernel_rfl) (fun hB28_4 => ?_)
           refine sy_move rfl rfl rfl ?_
           refine sy_nil1 (ny_zq hB28_4 ?_)
           refine zy_q 5 rfl (by kernel_rfl) (fun hB28_5 => ?_)
           refine sy_move rfl rfl rfl ?_
           refine sy_nil1 (ny_zq hB28_5 ?_)
           refine zy_q 6 rfl (by kernel_rfl) (fun hB28_6 => ?_)
           refine sy_nilCheck rfl rfl rfl ?_
           refine sy_nil1 (ny_zq hB28_6 ?_)
           refine zy_q 7 rfl (by kernel_rfl) (fun hB28_7 => ?_)
           refine sy_field fld_205_0 rfl rfl rfl ?_
           refine sy_nil1 (ny_zq hB28_7 ?_)
           refine zy_q 8 rfl (by kernel_rfl) (fun hB28_8 => ?_)
           refine sy_idxU (u := e0) arr_203 rfl rfl (by have := e0.toNat_lt; omega) rfl rfl ?_
           refine sy_nil1 (ny_zq hB28_8 ?_)
           refine zy_q 9 rfl (by kernel_rfl) (fun hB28_9 => ?_)
           refine sy_ldh one_40 rfl (Hp.blk0 hX e0.toNat (rT_get _ _ e0)) rfl rfl ?_
           refine sy_nil1 (ny_zq hB28_9 ?_)
           refine zy_1 10 (by kernel_rfl) ?_
           refine zop_run rfl rfl (fun hB28_10 => ?_)
           refine sy_copy (news := (rep e0).map bv) 0 row_40 rfl rfl rfl (by simp) (by omega) (by omega) (by have h9 := hrr.cells (by decide) (byteC_len _); rw [byteC_flat] at h9; exact h9) (fun u hu => by obtain ⟨x9, _, rfl⟩ := List.mem_map.1 hu; rfl) (by rw [List.length_append, List.length_map, List.length_replicate]; omega) (st_bytes (by omega)) rfl rfl ?_
           refine sy_nil rfl (ny_zy hB28_10 (Hp.Le.refl _) ?_)
           refine zy_q 11 rfl (by kernel_rfl) (fun hB28_11 => ?_)
           refine sy_addi (z := (((repl (s.data.toList.take i)).length + 2 : Nat) : Int)) rfl rfl (by omega) (by omega) (by omega) rfl rfl ?_
           refine sy_nil1 (ny_zq hB28_11 ?_)
           refine zy_q 12 rfl (by kernel_rfl) (fun hB28_12 => ?_)
           refine sy_assign rfl rfl rfl ?_
           refine sy_nil1 (ny_zq hB28_12 ?_)
           refine zy_done (by kernel_rfl) ?_
           refine ny_blockN ?_
           refine ny_next ?_
           refine cy_region ?_
           refine sy_move rfl rfl rfl ?_
           refine sy_addi (z := ((i + 1 : Nat) : Int)) rfl rfl (by omega) (by omega) (by omega) rfl rfl ?_
           refine sy_assign rfl rfl rfl ?_
           refine sy_nil rfl ?_
           refine ny_roundK [0, 1, 12] (i + 1) [0] (show i + 1 ≤ s.size by omega) (show s.size - (i + 1) < s.size - i by omega) rfl ⟨congrArg (fun z : Nat => some (Value.int .i64 (z : Int))) (by rw [repl_snoc he0, List.length_append, one_sp hc101, hr2]), rfl, trivial⟩ rfl (by rw [repl_snoc he0, one_sp hc101]; rfl)
         · rw [one_no hc101] at hroom
           simp only [List.length_cons, List.length_nil] at hroom
           refine cy_seq ?_
           refine cy_region ?_
           refine sy_move rfl rfl rfl ?_
           refine sy_move rfl rfl rfl ?_
           refine sy_move rfl rfl rfl ?_
           refine sy_idxB els_40 rfl rfl (by omega) rfl rfl ?_
           refine sy_st (vs := [bv e0]) 0 rfl rfl rfl rfl (fun w => sz_spec sz_5 w) rfl (by simp; omega) (st_byte (by omega)) rfl ?_
           refine sy_nil rfl ?_
           refine ny_next ?_
           refine cy_region ?_
           refine sy_move rfl rfl rfl ?_
           refine sy_addi (z := (((repl (s.data.toList.take i)).length + 1 : Nat) : Int)) rfl rfl (by omega) (by omega) (by omega) rfl rfl ?_
           refine sy_assign rfl rfl rfl ?_
           refine sy_nil rfl ?_
           refine ny_blockN ?_
           refine ny_next ?_
           refine cy_region ?_
           refine sy_move rfl rfl rfl ?_
           refine sy_addi (z := ((i + 1 : Nat) : Int)) rfl rfl (by omega) (by omega) (by omega) rfl rfl ?_
           refine sy_assign rfl rfl rfl ?_
           refine sy_nil rfl ?_
           refine ny_roundK [0, 1, 12] (i + 1) [0] (show i + 1 ≤ s.size by omega) (show s.size - (i + 1) < s.size - i by omega) rfl ⟨congrArg (fun z : Nat => some (Value.int .i64 (z : Int))) (by rw [repl_snoc he0, List.length_append, one_no hc101]; rfl), rfl, trivial⟩ rfl (by rw [repl_snoc he0, one_no hc101]; rfl)
       · have hie : i = s.size := by have := of_decide_eq_false hc89; omega
         subst hie
         have htk : s.data.toList.take s.size = s.data.toList := List.take_of_length_le (Nat.le_refl _)
         rw [htk, Nat.sub_self, List.replicate_zero, List.append_nil]
         refine cy_exit ?_
         refine ny_thenE ?_
         refine ny_thenE ?_
         refine ny_blockX ?_
         refine ny_next ?_
         refine cy_seq ?_
         refine cy_region ?_
         refine sy_move rfl rfl rfl ?_
         refine sy_bytesr 0 Tryz.underlying40 Tryz.underlying5 Tryz.underlying9 rfl rfl rfl rfl rfl rfl ?_
         refine sy_assign rfl rfl rfl ?_
         refine sy_nil rfl ?_
         refine ny_next ?_
         refine cy_ret ?_
         refine ny_finR (res1 rfl rfl) (fun w hs2 => ⟨?_, hs2.frm⟩)
         rfl
 · refine cy_seq ?_
   refine cy_region ?_
   refine sy_assign rfl rfl rfl ?_
   refine sy_nil rfl ?_
   refine ny_next ?_
   refine cy_block ?_
   refine cy_loopK (ι := Nat) [0, 1] rfl (fun i => i ≤ s.size) (fun i => s.size - i) (fun i => [(5, .int .i64 (((repl (s.data.toList.take i)).length + (s.size - i) : Nat) : Int)), (6, .bool ((s.data.toList.take i).any isSp)), (10, .int .i64 (i : Int))]) (fun i => h) (fun i => []) 0 [] (Nat.zero_le _) ⟨congrArg (fun z : Nat => some (Value.int .i64 (z : Int))) (by simp [repl]), rfl, rfl, trivial⟩ rfl rfl ?_
   rintro i hI
   have hrt := repl_take_le s.data.toList i
   have hsz : s.data.toList.length = s.size := rfl
   refine cy_seq ?_
   refine cy_seq ?_
   refine cy_region ?_
   refine sy_move rfl rfl rfl ?_
   refine sy_move rfl rfl rfl ?_
   refine sy_len rfl (len_string Tryz.underlying9 _) rfl rfl ?_
   refine sy_cmp rfl rfl rfl rfl rfl ?_
   refine sy_nil rfl ?_
   refine ny_next ?_
   refine cy_cond rfl (fun hc58 => ?_) (fun hc58 => ?_)
   · have hlti : i < s.size := by have := of_decide_eq_true hc58; omega
     obtain ⟨e0, he0⟩ : ∃ e0, s.data.toList[i]? = some e0 := ⟨_, List.getElem?_eq_getElem (by show i < s.size; omega)⟩
     refine cy_skip ?_
     refine ny_next ?_
     refine cy_seq ?_
     refine cy_block ?_
     refine cy_seq ?_
     refine cy_region ?_
     refine sy_move rfl rfl rfl ?_
     refine sy_move rfl rfl rfl ?_
     refine sy_idxs (u := e0) Tryz.underlying9 rfl rfl (by omega) (ba_at he0) rfl rfl ?_
     refine sy_assign rfl rfl rfl ?_
     refine sy_nil rfl ?_
     refine ny_next ?_
     refine cy_seq ?_
     refine cy_region ?_
     refine sy_move rfl rfl rfl ?_
     refine sy_move rfl rfl rfl ?_
     refine sy_nilCheck rfl rfl rfl ?_
     refine sy_field fld_205_0 rfl rfl rfl ?_
     refine sy_idxU (u := e0) arr_203 rfl rfl (by have := e0.toNat_lt; omega) rfl rfl ?_
     refine sy_ldh one_40 rfl (Hp.blk0 hX e0.toNat (rT_get _ _ e0)) rfl rfl ?_
     refine sy_eqsl (b := isSp e0) Tryz.underlying40 rfl (by simp [hN]) rfl rfl ?_
     refine sy_nil rfl ?_
     refine ny_next ?_
     refine cy_cond rfl (fun hc70 => ?_) (fun hc70 => ?_)
     · have hr2 := rep_len hc70
       refine cy_seq ?_
       refine cy_region ?_
       refine sy_move rfl rfl rfl ?_
       refine sy_move rfl rfl rfl ?_
       refine sy_move rfl rfl rfl ?_
       refine sy_nilCheck rfl rfl rfl ?_
       refine sy_field fld_205_0 rfl rfl rfl ?_
       refine sy_idxU (u := e0) arr_203 rfl rfl (by have := e0.toNat_lt; omega) rfl rfl ?_
       refine sy_ldh one_40 rfl (Hp.blk0 hX e0.toNat (rT_get _ _ e0)) rfl rfl ?_
       refine sy_len rfl (len_slice Tryz.underlying40 _ _ _) rfl rfl ?_
       refine sy_subi (z := 1) rfl rfl (by omega) (by omega) (by omega) rfl rfl ?_
       refine sy_addi (z := (((repl (s.data.toList.take i)).length + (s.size - i) + 1 : Nat) : Int)) rfl rfl (by omega) (by omega) (by omega) rfl rfl ?_
       refine sy_assign rfl rfl rfl ?_
       refine sy_nil rfl ?_
       refine ny_next ?_
       refine cy_region ?_
       refine sy_assign rfl rfl rfl ?_
       refine sy_nil rfl ?_
       refine ny_blockN ?_
       refine ny_next ?_
       refine cy_region ?_
       refine sy_move rfl rfl rfl ?_
       refine sy_addi (z := ((i + 1 : Nat) : Int)) rfl rfl (by omega) (by omega) (by omega) rfl rfl ?_
       refine sy_assign rfl rfl rfl ?_
       refine sy_nil rfl ?_
       refine ny_roundK [0, 1] (i + 1) [] (show i + 1 ≤ s.size by omega) (show s.size - (i + 1) < s.size - i by omega) rfl ⟨congrArg (fun z : Nat => some (Value.int .i64 (z : Int))) (by rw [repl_snoc he0, List.length_append, one_sp hc70, hr2]; omega), congrArg (fun b => some (Value.bool b)) (by rw [any_snoc he0, hc70, Bool.or_true]), rfl, trivial⟩ rfl rfl
     · refine cy_skip ?_
       refine ny_blockN ?_
       refine ny_next ?_
       refine cy_region ?_
       refine sy_move rfl rfl rfl ?_
       refine sy_addi (z := ((i + 1 : Nat) : Int)) rfl rfl (by omega) (by omega) (by omega) rfl rfl ?_
       refine sy_assign rfl rfl rfl ?_
       refine sy_nil rfl ?_
       refine ny_roundK [0, 1] (i + 1) [] (show i + 1 ≤ s.size by omega) (show s.size - (i + 1) < s.size - i by omega) rfl ⟨congrArg (fun z : Nat => some (Value.int .i64 (z : Int))) (by rw [repl_snoc he0, List.length_append, one_no hc70]; simp; omega), congrArg (fun b => some (Value.bool b)) (by rw [any_snoc he0, hc70, Bool.or_false]), rfl, trivial⟩ rfl rfl
   · have hie : i = s.size := by have := of_decide_eq_false hc58; omega
     subst hie
     have htk : s.data.toList.take s.size = s.data.toList := List.take_of_length_le (Nat.le_refl _)
     rw [htk, Nat.sub_self, Nat.add_zero]
     refine cy_exit ?_
     refine ny_thenE ?_
     refine ny_thenE ?_
     refine ny_blockX ?_
     refine ny_next ?_
     refine cy_seq ?_
     refine cy_seq ?_
     refine cy_region ?_
     refine sy_move rfl rfl rfl ?_
     refine sy_not rfl rfl rfl ?_
     refine sy_nil rfl ?_
     refine ny_next ?_
     refine cy_cond rfl (fun hc82 => ?_) (fun hc82 => ?_)
     · refine cy_seq ?_
       refine cy_region ?_
       refine sy_move rfl rfl rfl ?_
       refine sy_assign rfl rfl rfl ?_
       refine sy_nil rfl ?_
       refine ny_next ?_
       refine cy_ret ?_
       refine ny_thenR ?_
       refine ny_finR (res1 rfl rfl) (fun w hs2 => ⟨?_, hs2.frm⟩)
       have hno : s.data.toList.any isSp = false := by simpa using hc82
       rw [repl_no hno, ba_eta]
     · refine cy_skip ?_
       refine ny_next ?_
       refine cy_seq ?_
       have hN2 := repl_le s.data.toList
       have hsz : s.data.toList.length = s.size := rfl
       refine cy_region ?_
       refine sy_move rfl rfl rfl ?_
       refine sy_makeB row_40 zer_5 rfl rfl (by omega) rfl rfl (fun b85 hb85 hM85 => ?_) (by simp)
       refine sy_assign rfl rfl rfl ?_
       refine sy_nil rfl ?_
       refine ny_next ?_
       refine cy_seq ?_
       refine cy_region ?_
       refine sy_assign rfl rfl rfl ?_
       refine sy_nil rfl ?_
       refine ny_next ?_
       refine cy_seq ?_
       refine cy_seq ?_
       refine cy_region ?_
       refine sy_assign rfl rfl rfl ?_
       refine sy_nil rfl ?_
       refine ny_next ?_
       refine cy_block ?_
       refine cy_loopK (ι := Nat) [0, 1, 12] rfl (fun i => i ≤ s.size) (fun i => s.size - i) (fun i => [(13, .int .i64 (((repl (s.data.toList.take i)).length : Nat) : Int)), (14, .int .i64 (i : Int))]) (fun i => h) (fun i => [.blk b85 (.cells ((repl (s.data.toList.take i)).map bv ++ List.replicate ((repl s.data.toList).length - (repl (s.data.toList.take i)).length) (Value.int .u8 0)).toArray 5 (0, 0))]) 0 [0] (Nat.zero_le _) ⟨rfl, rfl, trivial⟩ rfl rfl ?_
       rintro i hI
       have hrt := repl_take_le s.data.toList i
       refine cy_seq ?_
       refine cy_seq ?_
       refine cy_region ?_
       refine sy_move rfl rfl rfl ?_
       refine sy_move rfl rfl rfl ?_
       refine sy_len rfl (len_string Tryz.underlying9 _) rfl rfl ?_
       refine sy_cmp rfl rfl rfl rfl rfl ?_
       refine sy_nil rfl ?_
       refine ny_next ?_
       refine cy_cond rfl (fun hc89 => ?_) (fun hc89 => ?_)
       · have hlti : i < s.size := by have := of_decide_eq_true hc89; omega
         obtain ⟨e0, he0⟩ : ∃ e0, s.data.toList[i]? = some e0 := ⟨_, List.getElem?_eq_getElem (by show i < s.size; omega)⟩
         have hroom := repl_room he0
         refine cy_skip ?_
         refine ny_next ?_
         refine cy_seq ?_
         refine cy_block ?_
         refine cy_seq ?_
         refine cy_region ?_
         refine sy_move rfl rfl rfl ?_
         refine sy_move rfl rfl rfl ?_
         refine sy_idxs (u := e0) Tryz.underlying9 rfl rfl (by omega) (ba_at he0) rfl rfl ?_
         refine sy_assign rfl rfl rfl ?_
         refine sy_nil rfl ?_
         refine ny_next ?_
         refine cy_seq ?_
         refine cy_region ?_
         refine sy_move rfl rfl rfl ?_
         refine sy_move rfl rfl rfl ?_
         refine sy_nilCheck rfl rfl rfl ?_
         refine sy_field fld_205_0 rfl rfl rfl ?_
         refine sy_idxU (u := e0) arr_203 rfl rfl (by have := e0.toNat_lt; omega) rfl rfl ?_
         refine sy_ldh one_40 rfl (Hp.blk0 hX e0.toNat (rT_get _ _ e0)) rfl rfl ?_
         refine sy_eqsl (b := isSp e0) Tryz.underlying40 rfl (by simp [hN]) rfl rfl ?_
         refine sy_nil rfl ?_
         refine ny_next ?_
         refine cy_cond rfl (fun hc101 => ?_) (fun hc101 => ?_)
         · have hr2 := rep_len hc101
           rw [one_sp hc101, hr2] at hroom
           have hrr := hS e0 hc101
           refine cy_regionA mixed ?_
           refine zy_q 0 rfl (by kernel_rfl) (fun hB28_0 => ?_)
           refine sy_move rfl rfl rfl ?_
           refine sy_nil1 (ny_zq hB28_0 ?_)
           refine zy_q 1 rfl (by kernel_rfl) (fun hB28_1 => ?_)
           refine sy_move rfl rfl rfl ?_
           refine sy_nil1 (ny_zq hB28_1 ?_)
           refine zy_q 2 rfl (by kernel_rfl) (fun hB28_2 => ?_)
           refine sy_move rfl rfl rfl ?_
           refine sy_nil1 (ny_zq hB28_2 ?_)
           refine zy_q 3 rfl (by kernel_rfl) (fun hB28_3 => ?_)
           refine sy_cutB els_40 rfl rfl (by omega) (by omega) rfl rfl ?_
           refine sy_nil1 (ny_zq hB28_3 ?_)
           refine zy_q 4 rfl (by kernel_rfl) (fun hB28_4 => ?_)
           refine sy_move rfl rfl rfl ?_
           refine sy_nil1 (ny_zq hB28_4 ?_)
           refine zy_q 5 rfl (by kernel_rfl) (fun hB28_5 => ?_)
           refine sy_move rfl rfl rfl ?_
           refine sy_nil1 (ny_zq hB28_5 ?_)
           refine zy_q 6 rfl (by kernel_rfl) (fun hB28_6 => ?_)
           refine sy_nilCheck rfl rfl rfl ?_
           refine sy_nil1 (ny_zq hB28_6 ?_)
           refine zy_q 7 rfl (by kernel_rfl) (fun hB28_7 => ?_)
           refine sy_field fld_205_0 rfl rfl rfl ?_
           refine sy_nil1 (ny_zq hB28_7 ?_)
           refine zy_q 8 rfl (by kernel_rfl) (fun hB28_8 => ?_)
           refine sy_idxU (u := e0) arr_203 rfl rfl (by have := e0.toNat_lt; omega) rfl rfl ?_
           refine sy_nil1 (ny_zq hB28_8 ?_)
           refine zy_q 9 rfl (by kernel_rfl) (fun hB28_9 => ?_)
           refine sy_ldh one_40 rfl (Hp.blk0 hX e0.toNat (rT_get _ _ e0)) rfl rfl ?_
           refine sy_nil1 (ny_zq hB28_9 ?_)
           refine zy_1 10 (by kernel_rfl) ?_
           refine zop_run rfl rfl (fun hB28_10 => ?_)
           refine sy_copy (news := (rep e0).map bv) 0 row_40 rfl rfl rfl (by simp) (by omega) (by omega) (by have h9 := hrr.cells (by decide) (byteC_len _); rw [byteC_flat] at h9; exact h9) (fun u hu => by obtain ⟨x9, _, rfl⟩ := List.mem_map.1 hu; rfl) (by rw [List.length_append, List.length_map, List.length_replicate]; omega) (st_bytes (by omega)) rfl rfl ?_
           refine sy_nil rfl (ny_zy hB28_10 (Hp.Le.refl _) ?_)
           refine zy_q 11 rfl (by kernel_rfl) (fun hB28_11 => ?_)
           refine sy_addi (z := (((repl (s.data.toList.take i)).length + 2 : Nat) : Int)) rfl rfl (by omega) (by omega) (by omega) rfl rfl ?_
           refine sy_nil1 (ny_zq hB28_11 ?_)
           refine zy_q 12 rfl (by kernel_rfl) (fun hB28_12 => ?_)
           refine sy_assign rfl rfl rfl ?_
           refine sy_nil1 (ny_zq hB28_12 ?_)
           refine zy_done (by kernel_rfl) ?_
           refine ny_blockN ?_
           refine ny_next ?_
           refine cy_region ?_
           refine sy_move rfl rfl rfl ?_
           refine sy_addi (z := ((i + 1 : Nat) : Int)) rfl rfl (by omega) (by omega) (by omega) rfl rfl ?_
           refine sy_assign rfl rfl rfl ?_
           refine sy_nil rfl ?_
           refine ny_roundK [0, 1, 12] (i + 1) [0] (show i + 1 ≤ s.size by omega) (show s.size - (i + 1) < s.size - i by omega) rfl ⟨congrArg (fun z : Nat => some (Value.int .i64 (z : Int))) (by rw [repl_snoc he0, List.length_append, one_sp hc101, hr2]), rfl, trivial⟩ rfl (by rw [repl_snoc he0, one_sp hc101]; rfl)
         · rw [one_no hc101] at hroom
           simp only [List.length_cons, List.length_nil] at hroom
           refine cy_seq ?_
           refine cy_region ?_
           refine sy_move rfl rfl rfl ?_
           refine sy_move rfl rfl rfl ?_
           refine sy_move rfl rfl rfl ?_
           refine sy_idxB els_40 rfl rfl (by omega) rfl rfl ?_
           refine sy_st (vs := [bv e0]) 0 rfl rfl rfl rfl (fun w => sz_spec sz_5 w) rfl (by simp; omega) (st_byte (by omega)) rfl ?_
           refine sy_nil rfl ?_
           refine ny_next ?_
           refine cy_region ?_
           refine sy_move rfl rfl rfl ?_
           refine sy_addi (z := (((repl (s.data.toList.take i)).length + 1 : Nat) : Int)) rfl rfl (by omega) (by omega) (by omega) rfl rfl ?_
           refine sy_assign rfl rfl rfl ?_
           refine sy_nil rfl ?_
           refine ny_blockN ?_
           refine ny_next ?_
           refine cy_region ?_
           refine sy_move rfl rfl rfl ?_
           refine sy_addi (z := ((i + 1 : Nat) : Int)) rfl rfl (by omega) (by omega) (by omega) rfl rfl ?_
           refine sy_assign rfl rfl rfl ?_
           refine sy_nil rfl ?_
           refine ny_roundK [0, 1, 12] (i + 1) [0] (show i + 1 ≤ s.size by omega) (show s.size - (i + 1) < s.size - i by omega) rfl ⟨congrArg (fun z : Nat => some (Value.int .i64 (z : Int))) (by rw [repl_snoc he0, List.length_append, one_no hc101]; rfl), rfl, trivial⟩ rfl (by rw [repl_snoc he0, one_no hc101]; rfl)
       · have hie : i = s.size := by have := of_decide_eq_false hc89; omega
         subst hie
         have htk : s.data.toList.take s.size = s.data.toList := List.take_of_length_le (Nat.le_refl _)
         rw [htk, Nat.sub_self, List.replicate_zero, List.append_nil]
         refine cy_exit ?_
         refine ny_thenE ?_
         refine ny_thenE ?_
         refine ny_blockX ?_
         refine ny_next ?_
         refine cy_seq ?_
         refine cy_region ?_
         refine sy_move rfl rfl rfl ?_
         refine sy_bytesr 0 Tryz.underlying40 Tryz.underlying5 Tryz.underlying9 rfl rfl rfl rfl rfl rfl ?_
         refine sy_assign rfl rfl rfl ?_
         refine sy_nil rfl ?_
         refine ny_next ?_
         refine cy_ret ?_
         refine ny_finR (res1 rfl rfl) (fun w hs2 => ⟨?_, hs2.frm⟩)
         rfl
theorem metR (x : Nat) (s : ByteArray) (w : World) : (callMethod (.iface 206 (.pointer (some ⟨x, 0, none⟩))) "Replace" #[.string s]).run Tryz.prog w = .ok (.enter 204 #[.pointer (some ⟨x, 0, none⟩), .string s]) w := by kernel_rfl
set_option maxRecDepth 100000 in
theorem replace_c (b : Nat) (s : ByteArray) (h : Hp) (hs : s.size ≤ 140737488355328) (A : Option Addr) (cO : Nat) (hO : RowsAt h A 1 (olds.map fun s => [Value.string s])) : CXM Tryz.prog 91 [.pointer (some ⟨b, 0, none⟩), .string s] h b (.cells [.int .u32 0, .int .i32 0, .int .u32 0, .nilIface, .slice A 6 cO].toArray 165 (0, 0)) (fun _ : Unit => .string ⟨(repl s.data.toList).toArray⟩) (fun _ _ _ => True) := by
 refine enterXM Tryz.func91 rfl rfl rfl (fun w hb0 => ?_)
 refine cy_seq ?_
 refine cy_region ?_
 refine sy_assign rfl rfl rfl ?_
 refine sy_nil rfl ?_
 refine ny_next ?_
 refine cy_seq ?_
 refine cy_region ?_
 refine sy_move rfl rfl rfl ?_
 refine sy_nilCheck rfl rfl rfl ?_
 refine sy_field fld_165_0 rfl rfl rfl ?_
 refine sy_move rfl rfl rfl ?_
 refine sy_bind (s := 0) rfl rfl rfl rfl ?_
 refine sy_callxm 0 call_108 rfl rfl (do_c b h (.int .u32 0) A cO hO) rfl rfl (fun x10 h10 o10 hx10 hle10 => ?_)
 obtain ⟨rfl, hR10⟩ := hx10
 refine sy_nil rfl ?_
 refine ny_next ?_
 refine cy_seq ?_
 refine cy_region ?_
 refine sy_move rfl rfl rfl ?_
 refine sy_nilCheck rfl rfl rfl ?_
 refine sy_field fld_165_1 rfl rfl rfl ?_
 refine sy_ldr 0 one_163 rfl rfl rfl rfl rfl ?_
 refine sy_move rfl rfl rfl ?_
 refine sy_invoke rfl rfl rfl (fun w => metR x10 s w) (bsr_c x10 s _ hR10 hs) rfl rfl ?_
 refine sy_assign rfl rfl rfl ?_
 refine sy_nil rfl ?_
 refine ny_next ?_
 refine cy_ret ?_
 exact ny_finR (res1 rfl rfl) (fun w hs2 => ⟨(), h10, _, rfl, trivial, hs2.toTurn⟩)
def quoteB (s : ByteArray) (p : Bool) : ByteArray := if p = true then s else ⟨#[39]⟩ ++ ⟨(repl s.data.toList).toArray⟩ ++ ⟨#[39]⟩
set_option maxRecDepth 100000 in
theorem quote_c (s : ByteArray) (h : Hp) (p : Bool) (hs : s.size ≤ 140737488355328) (hp : ∀ h, C0 Tryz.prog 89 [.string s] h (.bool p)) : C0 Tryz.prog 63 [.string s] h (.string (quoteB s p)) := by
 refine enter0 Tryz.func63 rfl rfl rfl (fun w => ?_)
 refine cy_seq ?_
 refine cy_region ?_
 refine sy_assign rfl rfl rfl ?_
 refine sy_nil rfl ?_
 refine ny_next ?_
 refine cy_seq ?_
 refine cy_seq ?_
 refine cy_region ?_
 refine sy_move rfl rfl rfl ?_
 refine sy_call rfl call_89 rfl (hp _) rfl rfl ?_
 refine sy_nil rfl ?_
 refine ny_next ?_
 refine cy_cond rfl (fun hc4 => ?_) (fun hc4 => ?_)
 · refine cy_seq ?_
   refine cy_region ?_
   refine sy_move rfl rfl rfl ?_
   refine sy_assign rfl rfl rfl ?_
   refine sy_nil rfl ?_
   refine ny_next ?_
   refine cy_ret ?_
   refine ny_thenR ?_
   refine ny_finR (res1 rfl rfl) (fun w hs2 => ⟨?_, hs2.frm⟩)
   rw [hc4]
   rfl
 · refine cy_skip ?_
   refine ny_next ?_
   refine cy_seq ?_
   refine cy_region ?_
   refine sy_buildSlice rfl (fun w => bsl_37_6_0x1x2x3x4x5 w) rfl rfl (fun b6 hb6 hM6 => ?_) (by simp)
   refine sy_frz 0 rfl (by simp) (fun h6 hle6 hb6 => ?_)
   have hO6 : RowsAt h6 (some ⟨b6, 0, none⟩) 1 (olds.map fun s => [Value.string s]) := rows_blk (by decide) (fun c hc => by obtain ⟨x, _, rfl⟩ := List.mem_map.1 hc; rfl) hb6
   refine sy_callxn call_90 rfl (newRepl_c h6 (some ⟨b6, 0, none⟩) 6 hO6) rfl rfl (fun x7 b7 h7 o7 hx7 hle7 hb7 hM7 => ?_) (by simp)
   obtain ⟨A7, c7⟩ := x7
   obtain ⟨rfl, hO7⟩ := hx7
   refine sy_move rfl rfl rfl ?_
   refine sy_callxm 0 call_91 rfl rfl (replace_c b7 s h7 hs A7 c7 hO7) rfl rfl (fun x9 h9 o9 hx9 hle9 => ?_)
   refine sy_cat rfl rfl (by have h1 := repl_le s.data.toList; have h2 : s.data.toList.length = s.size := rfl; have h3 : (⟨(repl s.data.toList).toArray⟩ : ByteArray).size = (repl s.data.toList).length := rfl; have h4 : (⟨#[39]⟩ : ByteArray).size = 1 := rfl; first | omega | (simp only [ByteArray.size_append]; omega)) rfl rfl ?_
   refine sy_cat rfl rfl (by have h1 := repl_le s.data.toList; have h2 : s.data.toList.length = s.size := rfl; have h3 : (⟨(repl s.data.toList).toArray⟩ : ByteArray).size = (repl s.data.toList).length := rfl; have h4 : (⟨#[39]⟩ : ByteArray).size = 1 := rfl; first | omega | (simp only [ByteArray.size_append]; omega)) rfl rfl ?_
   refine sy_assign rfl rfl rfl ?_
   refine sy_nil rfl ?_
   refine ny_next ?_
   refine cy_ret ?_
   refine ny_finR (res1 rfl rfl) (fun w hs2 => ⟨?_, hs2.frm⟩)
   rw [hc4]
   rfl
end Go.Proofs.YtanhhihechakhaaGreatDoor
set_option linter.unusedVariables false
set_option linter.unusedSimpArgs false
namespace Go.Proofs.YtanhhihechakhaaGreatDoor.E
open Go.RowKit
end Go.Proofs.YtanhhihechakhaaGreatDoor.E
namespace Go.Proofs.YtanhhihechakhaaGreatDoor.TokP
open Go.RowKit Go.Proofs.YtanhhihechakhaaGreatDoor.E Go.Proofs.YtanhhihechakhaaGreatDoor.ReplP
def smallB (c : UInt8) : Bool := decide ((97 : Int) ≤ (c.toNat : Int)) && decide ((c.toNat : Int) ≤ 122)
def bigB (c : UInt8) : Bool := (decide ((65 : Int) ≤ (c.toNat : Int)) && decide ((c.toNat : Int) ≤ 90)) || ((c.toNat : Int) == 95)
def digitB (c : UInt8) : Bool := decide ((48 : Int) ≤ (c.toNat : Int)) && decide ((c.toNat : Int) ≤ 57)
def letterB (c : UInt8) : Bool := smallB c || bigB c || digitB c
def signL : List UInt8 := [43, 45, 42, 47, 92, 94, 60, 62, 61, 126, 58, 46, 63, 64, 35, 38, 36]
def signB (c : UInt8) : Bool := signL.contains c
def blankB (c : UInt8) : Bool := (((c.toNat : Int) == 9) || ((c.toNat : Int) == 10)) || ((c.toNat : Int) == 13) || ((c.toNat : Int) == 32)
def lineB (c : UInt8) : Bool := !((c.toNat : Int) == 10)
theorem idx_has : ∀ (l : List UInt8) (c : UInt8), decide (0 ≤ Lib.indexByte l c) = l.contains c
 | [], c => rfl
 | b :: l, c => by
  have h1 := idx_has l c
  have h2 := Lib.indexByte_ge l c
  have e : Lib.indexByte (b :: l) c = if (b == c) = true then 0 else if (Lib.indexByte l c == -1) = true then -1 else Lib.indexByte l c + 1 := by rw [Lib.indexByte]
  rw [List.contains_cons, ← h1, e]
  clear e
  by_cases hb : (b == c) = true
  · rw [if_pos hb]
    have : (c == b) = true := beq_iff_eq.2 (beq_iff_eq.1 hb).symm
    rw [this]
    rfl
  · rw [if_neg hb]
    have : (c == b) = false := by
     have hb' : (b == c) = false := by simpa using hb
     rw [beq_eq_false_iff_ne] at hb' ⊢
     exact fun h => hb' h.symm
    rw [this, Bool.false_or]
    by_cases h3 : (Lib.indexByte l c == -1) = true
    · rw [if_pos h3]
      have h4 : Lib.indexByte l c = -1 := by simpa using h3
      rw [h4]
    · rw [if_neg h3]
      have h4 : ¬ Lib.indexByte l c = -1 := by simpa using h3
      exact decide_eq_decide.2 (by omega)
/-! how many bytes of one kind a text begins with -/
def runB (p : UInt8 → Bool) (l : List UInt8) : Nat := (l.takeWhile p).length
theorem runB_le (p : UInt8 → Bool) (l : List UInt8) : runB p l ≤ l.length := (List.takeWhile_prefix p).length_le
theorem runB_yes {p : UInt8 → Bool} {c : UInt8} {l : List UInt8} (h : p c = true) : runB p (c :: l) = runB p l + 1 := by simp [runB, h]
theorem runB_no {p : UInt8 → Bool} {c : UInt8} {l : List UInt8} (h : p c = false) : runB p (c :: l) = 0 := by simp [runB, h]
theorem run_end {p : UInt8 → Bool} : ∀ {l : List UInt8} {i : Nat}, (l.take i).all p = true → l.length ≤ i → runB p l = l.length
 | [], _, _, _ => rfl
 | c :: l, 0, _, hl => by simp at hl
 | c :: l, i + 1, h, hl => by
  rw [List.take_succ_cons, List.all_cons, Bool.and_eq_true] at h
  rw [runB_yes h.1, run_end h.2 (by simpa using hl)]
  rfl
theorem run_at {p : UInt8 → Bool} : ∀ {l : List UInt8} {i : Nat} {e : UInt8}, (l.take i).all p = true → l[i]? = some e → p e = false → runB p l = i
 | [], i, e, _, he, _ => by simp at he
 | c :: l, 0, e, _, he, hp => by
  simp only [List.getElem?_cons_zero, Option.some.injEq] at he
  subst he
  exact runB_no hp
 | c :: l, i + 1, e, h, he, hp => by
  rw [List.take_succ_cons, List.all_cons, Bool.and_eq_true] at h
  rw [runB_yes h.1, run_at h.2 (by simpa using he) hp]
theorem all_snoc {p : UInt8 → Bool} {l : List UInt8} {i : Nat} {x : UInt8} (h : l[i]? = some x) : (l.take (i + 1)).all p = ((l.take i).all p && p x) := by
 rw [List.take_add_one, h, List.all_append]
 simp
theorem run_eq_all (p : UInt8 → Bool) : ∀ l : List UInt8, decide (runB p l = l.length) = l.all p
 | [] => rfl
 | c :: l => by
  have ih := run_eq_all p l
  rw [List.all_cons, ← ih]
  cases h : p c with
  | true =>
   rw [runB_yes h, Bool.true_and]
   exact decide_eq_decide.2 (by simp)
  | false =>
   rw [runB_no h, Bool.false_and]
   simp
theorem run_all (p : UInt8 → Bool) (l : List UInt8) : (((runB p l : Nat) : Int) == ((l.length : Nat) : Int)) = l.all p := by
 rw [← run_eq_all, Bool.eq_iff_iff]
 simp
 omega
/-! plain names -/
def firstB (p : UInt8 → Bool) : List UInt8 → Bool
 | [] => false
 | c :: _ => p c
def plainB (l : List UInt8) : Bool := if (l == [] || l == [46]) = true then false else if ((l == [91, 93] || l == [33]) || l == [59]) = true then true else (firstB smallB l && l.all letterB) || l.all signB
theorem plain_end {l : List UInt8} (h1 : (l == []) = false) (h2 : (l == [46]) = false) (h3 : (l == [91, 93]) = false) (h4 : (l == [33]) = false) (h5 : (l == [59]) = false) : plainB l = ((firstB smallB l && l.all letterB) || l.all signB) := by
 unfold plainB
 rw [h1, h2, h3, h4, h5]
 rfl
/-! what is passed over -/
def skipN : List UInt8 → Nat
 | [] => 0
 | c :: l => if c = 37 then (if runB lineB l = l.length then l.length + 1 else runB lineB l + 2 + skipN (l.drop (runB lineB l + 1))) else if blankB c = true then 1 + skipN l else 0
termination_by l => l.length
decreasing_by
 · simp
   omega
 · simp
end Go.Proofs.YtanhhihechakhaaGreatDoor.TokP
set_option linter.unusedVariables false
set_option linter.unusedSimpArgs false
namespace Go.Proofs.YtanhhihechakhaaGreatDoor
open Go.RowKit Go.Proofs.YtanhhihechakhaaGreatDoor.E Go.Proofs.YtanhhihechakhaaGreatDoor.ReplP Go.Proofs.YtanhhihechakhaaGreatDoor.TokP
set_option maxRecDepth 100000 in
theorem small_c (c : UInt8) (h : Hp) : C0 Tryz.prog 68 [.int .u8 (c.toNat : Int)] h (.bool (smallB c)) := by
 refine enter0 Tryz.func68 rfl rfl rfl (fun w => ?_)
 refine cy_seq ?_
 refine cy_region ?_
 refine sy_assign rfl rfl rfl ?_
 refine sy_nil rfl ?_
 refine ny_next ?_
 refine cy_seq ?_
 refine cy_region ?_
 refine sy_move rfl rfl rfl ?_
 refine sy_cmp rfl rfl rfl rfl rfl ?_
 refine sy_move rfl rfl rfl ?_
 refine sy_cond (d := 5) _ rfl rfl (fun hg5 => ?_) (fun hg5 => ?_)
 · refine sy_move rfl rfl rfl ?_
   refine sy_cmp rfl rfl rfl rfl rfl ?_
   refine sy_pickT rfl rfl rfl rfl ?_
   refine sy_assign rfl rfl rfl ?_
   refine sy_nil rfl ?_
   refine ny_next ?_
   refine cy_ret ?_
   refine ny_finR (res1 rfl rfl) (fun w hs => ⟨?_, hs.frm⟩)
   refine congrArg (fun b => Ending.returned (Value.bool b)) ?_
   unfold smallB
   (simp_all; done)
 · refine sy_skip rfl rfl rfl ?_
   refine sy_skip rfl rfl rfl ?_
   refine sy_pickF rfl rfl rfl rfl ?_
   refine sy_assign rfl rfl rfl ?_
   refine sy_nil rfl ?_
   refine ny_next ?_
   refine cy_ret ?_
   refine ny_finR (res1 rfl rfl) (fun w hs => ⟨?_, hs.frm⟩)
   refine congrArg (fun b => Ending.returned (Value.bool b)) ?_
   unfold smallB
   (simp_all; omega)
set_option maxRecDepth 100000 in
theorem big_c (c : UInt8) (h : Hp) : C0 Tryz.prog 70 [.int .u8 (c.toNat : Int)] h (.bool (bigB c)) := by
 refine enter0 Tryz.func70 rfl rfl rfl (fun w => ?_)
 refine cy_seq ?_
 refine cy_region ?_
 refine sy_assign rfl rfl rfl ?_
 refine sy_nil rfl ?_
 refine ny_next ?_
 refine cy_seq ?_
 refine cy_region ?_
 refine sy_move rfl rfl rfl ?_
 refine sy_cmp rfl rfl rfl rfl rfl ?_
 refine sy_move rfl rfl rfl ?_
 refine sy_cond (d := 5) _ rfl rfl (fun hg5 => ?_) (fun hg5 => ?_)
 · refine sy_move rfl rfl rfl ?_
   refine sy_cmp rfl rfl rfl rfl rfl ?_
   refine sy_pickT rfl rfl rfl rfl ?_
   refine sy_move rfl rfl rfl ?_
   refine sy_cond (d := 9) _ rfl rfl (fun hg9 => ?_) (fun hg9 => ?_)
   · refine sy_skip rfl rfl rfl ?_
     refine sy_skip rfl rfl rfl ?_
     refine sy_pickT rfl rfl rfl rfl ?_
     refine sy_assign rfl rfl rfl ?_
     refine sy_nil rfl ?_
     refine ny_next ?_
     refine cy_ret ?_
     refine ny_finR (res1 rfl rfl) (fun w hs => ⟨?_, hs.frm⟩)
     refine congrArg (fun b => Ending.returned (Value.bool b)) ?_
     unfold bigB
     (simp_all; done)
   · refine sy_move rfl rfl rfl ?_
     refine sy_cmp rfl rfl rfl rfl rfl ?_
     refine sy_pickF rfl rfl rfl rfl ?_
     refine sy_assign rfl rfl rfl ?_
     refine sy_nil rfl ?_
     refine ny_next ?_
     refine cy_ret ?_
     refine ny_finR (res1 rfl rfl) (fun w hs => ⟨?_, hs.frm⟩)
     refine congrArg (fun b => Ending.returned (Value.bool b)) ?_
     unfold bigB
     (simp_all; omega)
 · refine sy_skip rfl rfl rfl ?_
   refine sy_skip rfl rfl rfl ?_
   refine sy_pickF rfl rfl rfl rfl ?_
   refine sy_move rfl rfl rfl ?_
   refine sy_move rfl rfl rfl ?_
   refine sy_cmp rfl rfl rfl rfl rfl ?_
   refine sy_pickF rfl rfl rfl rfl ?_
   refine sy_assign rfl rfl rfl ?_
   refine sy_nil rfl ?_
   refine ny_next ?_
   refine cy_ret ?_
   refine ny_finR (res1 rfl rfl) (fun w hs => ⟨?_, hs.frm⟩)
   refine congrArg (fun b => Ending.returned (Value.bool b)) ?_
   unfold bigB
   (simp_all; omega)
set_option maxRecDepth 100000 in
theorem digit_c (c : UInt8) (h : Hp) : C0 Tryz.prog 71 [.int .u8 (c.toNat : Int)] h (.bool (digitB c)) := by
 refine enter0 Tryz.func71 rfl rfl rfl (fun w => ?_)
 refine cy_seq ?_
 refine cy_region ?_
 refine sy_assign rfl rfl rfl ?_
 refine sy_nil rfl ?_
 refine ny_next ?_
 refine cy_seq ?_
 refine cy_region ?_
 refine sy_move rfl rfl rfl ?_
 refine sy_cmp rfl rfl rfl rfl rfl ?_
 refine sy_move rfl rfl rfl ?_
 refine sy_cond (d := 5) _ rfl rfl (fun hg5 => ?_) (fun hg5 => ?_)
 · refine sy_move rfl rfl rfl ?_
   refine sy_cmp rfl rfl rfl rfl rfl ?_
   refine sy_pickT rfl rfl rfl rfl ?_
   refine sy_assign rfl rfl rfl ?_
   refine sy_nil rfl ?_
   refine ny_next ?_
   refine cy_ret ?_
   refine ny_finR (res1 rfl rfl) (fun w hs => ⟨?_, hs.frm⟩)
   refine congrArg (fun b => Ending.returned (Value.bool b)) ?_
   unfold digitB
   (simp_all; done)
 · refine sy_skip rfl rfl rfl ?_
   refine sy_skip rfl rfl rfl ?_
   refine sy_pickF rfl rfl rfl rfl ?_
   refine sy_assign rfl rfl rfl ?_
   refine sy_nil rfl ?_
   refine ny_next ?_
   refine cy_ret ?_
   refine ny_finR (res1 rfl rfl) (fun w hs => ⟨?_, hs.frm⟩)
   refine congrArg (fun b => Ending.returned (Value.bool b)) ?_
   unfold digitB
   (simp_all; omega)
set_option maxRecDepth 100000 in
theorem blank_c (c : UInt8) (h : Hp) : C0 Tryz.prog 67 [.int .u8 (c.toNat : Int)] h (.bool (blankB c)) := by
 refine enter0 Tryz.func67 rfl rfl rfl (fun w => ?_)
 refine cy_seq ?_
 refine cy_region ?_
 refine sy_assign rfl rfl rfl ?_
 refine sy_nil rfl ?_
 refine ny_next ?_
 refine cy_seq ?_
 refine cy_region ?_
 refine sy_move rfl rfl rfl ?_
 refine sy_cmp rfl rfl rfl rfl rfl ?_
 refine sy_move rfl rfl rfl ?_
 refine sy_cond (d := 5) _ rfl rfl (fun hg5 => ?_) (fun hg5 => ?_)
 · refine sy_skip rfl rfl rfl ?_
   refine sy_skip rfl rfl rfl ?_
   refine sy_pickT rfl rfl rfl rfl ?_
   refine sy_move rfl rfl rfl ?_
   refine sy_skip rfl rfl rfl ?_
   refine sy_skip rfl rfl rfl ?_
   refine sy_pickT rfl rfl rfl rfl ?_
   refine sy_move rfl rfl rfl ?_
   refine sy_skip rfl rfl rfl ?_
   refine sy_skip rfl rfl rfl ?_
   refine sy_pickT rfl rfl rfl rfl ?_
   refine sy_assign rfl rfl rfl ?_
   refine sy_nil rfl ?_
   refine ny_next ?_
   refine cy_ret ?_
   refine ny_finR (res1 rfl rfl) (fun w hs => ⟨?_, hs.frm⟩)
   refine congrArg (fun b => Ending.returned (Value.bool b)) ?_
   unfold blankB
   (simp_all; done)
 · refine sy_move rfl rfl rfl ?_
   refine sy_cmp rfl rfl rfl rfl rfl ?_
   refine sy_pickF rfl rfl rfl rfl ?_
   refine sy_move rfl rfl rfl ?_
   refine sy_cond (d := 9) _ rfl rfl (fun hg9 => ?_) (fun hg9 => ?_)
   · refine sy_skip rfl rfl rfl ?_
     refine sy_skip rfl rfl rfl ?_
     refine sy_pickT rfl rfl rfl rfl ?_
     refine sy_move rfl rfl rfl ?_
     refine sy_skip rfl rfl rfl ?_
     refine sy_skip rfl rfl rfl ?_
     refine sy_pickT rfl rfl rfl rfl ?_
     refine sy_assign rfl rfl rfl ?_
     refine sy_nil rfl ?_
     refine ny_next ?_
     refine cy_ret ?_
     refine ny_finR (res1 rfl rfl) (fun w hs => ⟨?_, hs.frm⟩)
     refine congrArg (fun b => Ending.returned (Value.bool b)) ?_
     unfold blankB
     (simp_all; done)
   · refine sy_move rfl rfl rfl ?_
     refine sy_cmp rfl rfl rfl rfl rfl ?_
     refine sy_pickF rfl rfl rfl rfl ?_
     refine sy_move rfl rfl rfl ?_
     refine sy_cond (d := 13) _ rfl rfl (fun hg13 => ?_) (fun hg13 => ?_)
     · refine sy_skip rfl rfl rfl ?_
       refine sy_skip rfl rfl rfl ?_
       refine sy_pickT rfl rfl rfl rfl ?_
       refine sy_assign rfl rfl rfl ?_
       refine sy_nil rfl ?_
       refine ny_next ?_
       refine cy_ret ?_
       refine ny_finR (res1 rfl rfl) (fun w hs => ⟨?_, hs.frm⟩)
       refine congrArg (fun b => Ending.returned (Value.bool b)) ?_
       unfold blankB
       (simp_all; done)
     · refine sy_move rfl rfl rfl ?_
       refine sy_cmp rfl rfl rfl rfl rfl ?_
       refine sy_pickF rfl rfl rfl rfl ?_
       refine sy_assign rfl rfl rfl ?_
       refine sy_nil rfl ?_
       refine ny_next ?_
       refine cy_ret ?_
       refine ny_finR (res1 rfl rfl) (fun w hs => ⟨?_, hs.frm⟩)
       refine congrArg (fun b => Ending.returned (Value.bool b)) ?_
       unfold blankB
       (simp_all; done)
set_option maxRecDepth 100000 in
theorem line_c (c : UInt8) (h : Hp) : C0 Tryz.prog 66 [.int .u8 (c.toNat : Int)] h (.bool (lineB c)) := by
 refine enter0 Tryz.func66 rfl rfl rfl (fun w => ?_)
 refine cy_seq ?_
 refine cy_region ?_
 refine sy_assign rfl rfl rfl ?_
 refine sy_nil rfl ?_
 refine ny_next ?_
 refine cy_seq ?_
 refine cy_region ?_
 refine sy_move rfl rfl rfl ?_
 refine sy_cmp rfl rfl rfl rfl rfl ?_
 refine sy_assign rfl rfl rfl ?_
 refine sy_nil rfl ?_
 refine ny_next ?_
 refine cy_ret ?_
 refine ny_finR (res1 rfl rfl) (fun w hs => ⟨?_, hs.frm⟩)
 refine congrArg (fun b => Ending.returned (Value.bool b)) ?_
 unfold lineB
 rfl
set_option maxRecDepth 100000 in
theorem letter_c (c : UInt8) (h : Hp) : C0 Tryz.prog 69 [.int .u8 (c.toNat : Int)] h (.bool (letterB c)) := by
 refine enter0 Tryz.func69 rfl rfl rfl (fun w => ?_)
 refine cy_seq ?_
 refine cy_region ?_
 refine sy_assign rfl rfl rfl ?_
 refine sy_nil rfl ?_
 refine ny_next ?_
 refine cy_seq ?_
 refine cy_region ?_
 refine sy_move rfl rfl rfl ?_
 refine sy_call rfl call_68 rfl (small_c c _) rfl rfl ?_
 refine sy_move rfl rfl rfl ?_
 refine sy_cond (d := 5) _ rfl rfl (fun hg5 => ?_) (fun hg5 => ?_)
 · refine sy_skip rfl rfl rfl ?_
   refine sy_skip rfl rfl rfl ?_
   refine sy_pickT rfl rfl rfl rfl ?_
   refine sy_move rfl rfl rfl ?_
   refine sy_skip rfl rfl rfl ?_
   refine sy_skip rfl rfl rfl ?_
   refine sy_pickT rfl rfl rfl rfl ?_
   refine sy_assign rfl rfl rfl ?_
   refine sy_nil rfl ?_
   refine ny_next ?_
   refine cy_ret ?_
   refine ny_finR (res1 rfl rfl) (fun w hs => ⟨?_, hs.frm⟩)
   refine congrArg (fun b => Ending.returned (Value.bool b)) ?_
   unfold letterB
   (simp_all; done)
 · refine sy_move rfl rfl rfl ?_
   refine sy_call rfl call_70 rfl (big_c c _) rfl rfl ?_
   refine sy_pickF rfl rfl rfl rfl ?_
   refine sy_move rfl rfl rfl ?_
   refine sy_cond (d := 9) _ rfl rfl (fun hg9 => ?_) (fun hg9 => ?_)
   · refine sy_skip rfl rfl rfl ?_
     refine sy_skip rfl rfl rfl ?_
     refine sy_pickT rfl rfl rfl rfl ?_
     refine sy_assign rfl rfl rfl ?_
     refine sy_nil rfl ?_
     refine ny_next ?_
     refine cy_ret ?_
     refine ny_finR (res1 rfl rfl) (fun w hs => ⟨?_, hs.frm⟩)
     refine congrArg (fun b => Ending.returned (Value.bool b)) ?_
     unfold letterB
     (simp_all; done)
   · refine sy_move rfl rfl rfl ?_
     refine sy_call rfl call_71 rfl (digit_c c _) rfl rfl ?_
     refine sy_pickF rfl rfl rfl rfl ?_
     refine sy_assign rfl rfl rfl ?_
     refine sy_nil rfl ?_
     refine ny_next ?_
     refine cy_ret ?_
     refine ny_finR (res1 rfl rfl) (fun w hs => ⟨?_, hs.frm⟩)
     refine congrArg (fun b => Ending.returned (Value.bool b)) ?_
     unfold letterB
     (simp_all; done)
theorem ibX (s : ByteArray) (c : UInt8) (w : World) : (callFunc 110 #[.string s, .int .u8 (c.toNat : Int)]).run Tryz.prog w = .ok (.value (.int .i64 (Lib.indexByte s.data.toList c))) w := by
 have h1 := Lib.run_indexByteString (P := Tryz.prog) s (c.toNat : Int) w
 have e : (c.toNat : Int).toNat.toUInt8 = c := by simp
 rw [e] at h1
 exact ext_run Tryz.func110 (by kernel_rfl) (by kernel_rfl) (by kernel_rfl) (by kernel_rfl) h1
set_option maxRecDepth 100000 in
theorem ib2_c (s : ByteArray) (c : UInt8) (h : Hp) : C0 Tryz.prog 93 [.string s, .int .u8 (c.toNat : Int)] h (.int .i64 (Lib.indexByte s.data.toList c)) := by
 refine enter0 Tryz.func93 rfl rfl rfl (fun w => ?_)
 refine cy_seq ?_
 refine cy_region ?_
 refine sy_assign rfl rfl rfl ?_
 refine sy_nil rfl ?_
 refine ny_next ?_
 refine cy_seq ?_
 refine cy_region ?_
 refine sy_move rfl rfl rfl ?_
 refine sy_move rfl rfl rfl ?_
 refine sy_exq rfl (fun w hs => ibX s c w) rfl rfl ?_
 refine sy_assign rfl rfl rfl ?_
 refine sy_nil rfl ?_
 refine ny_next ?_
 refine cy_ret ?_
 refine ny_finR (res1 rfl rfl) (fun w hs => ⟨?_, hs.frm⟩)
 rfl
set_option maxRecDepth 100000 in
theorem ib_c (s : ByteArray) (c : UInt8) (h : Hp) : C0 Tryz.prog 74 [.string s, .int .u8 (c.toNat : Int)] h (.int .i64 (Lib.indexByte s.data.toList c)) := by
 refine enter0 Tryz.func74 rfl rfl rfl (fun w => ?_)
 refine cy_seq ?_
 refine cy_region ?_
 refine sy_assign rfl rfl rfl ?_
 refine sy_nil rfl ?_
 refine ny_next ?_
 refine cy_seq ?_
 refine cy_region ?_
 refine sy_move rfl rfl rfl ?_
 refine sy_move rfl rfl rfl ?_
 refine sy_call rfl call_93 rfl (ib2_c s c _) rfl rfl ?_
 refine sy_assign rfl rfl rfl ?_
 refine sy_nil rfl ?_
 refine ny_next ?_
 refine cy_ret ?_
 refine ny_finR (res1 rfl rfl) (fun w hs => ⟨?_, hs.frm⟩)
 rfl
set_option maxRecDepth 100000 in
theorem sign_c (c : UInt8) (h : Hp) : C0 Tryz.prog 76 [.int .u8 (c.toNat : Int)] h (.bool (signB c)) := by
 refine enter0 Tryz.func76 rfl rfl rfl (fun w => ?_)
 refine cy_seq ?_
 refine cy_region ?_
 refine sy_assign rfl rfl rfl ?_
 refine sy_nil rfl ?_
 refine ny_next ?_
 refine cy_seq ?_
 refine cy_region ?_
 refine sy_move rfl rfl rfl ?_
 refine sy_call rfl call_74 rfl (ib_c _ c _) rfl rfl ?_
 refine sy_cmp rfl rfl rfl rfl rfl ?_
 refine sy_assign rfl rfl rfl ?_
 refine sy_nil rfl ?_
 refine ny_next ?_
 refine cy_ret ?_
 refine ny_finR (res1 rfl rfl) (fun w hs => ⟨?_, hs.frm⟩)
 exact congrArg (fun b => Ending.returned (Value.bool b)) (idx_has signL c)
set_option maxRecDepth 100000 in
theorem row_c (s : ByteArray) (F : Nat) (p : UInt8 → Bool) (h : Hp) (hs : s.size ≤ 140737488355328) (hFB : callB Tryz.prog F = true) (hF : ∀ c h, C0 Tryz.prog F [.int .u8 (c.toNat : Int)] h (.bool (p c))) : C0 Tryz.prog 65 [.string s, .func (.func F) #[] #[]] h (.int .i64 ((runB p s.data.toList : Nat) : Int)) := by
 refine enter0 Tryz.func65 rfl rfl rfl (fun w => ?_)
 refine cy_seq ?_
 refine cy_region ?_
 refine sy_assign rfl rfl rfl ?_
 refine sy_nil rfl ?_
 refine ny_next ?_
 refine cy_seq ?_
 refine cy_region ?_
 refine sy_assign rfl rfl rfl ?_
 refine sy_nil rfl ?_
 refine ny_next ?_
 refine cy_seq ?_
 refine cy_block ?_
 refine cy_loopK (ι := Nat) [0, 1] rfl (fun i => i ≤ s.size ∧ (s.data.toList.take i).all p = true) (fun i => s.size - i) (fun i => [(5, .int .i64 (i : Int))]) (fun i => h) (fun i => []) 0 [] ⟨Nat.zero_le _, by simp⟩ ⟨rfl, trivial⟩ rfl rfl ?_
 rintro i ⟨hI, hpre⟩
 refine cy_seq ?_
 refine cy_seq ?_
 refine cy_region ?_
 refine sy_move rfl rfl rfl ?_
 refine sy_move rfl rfl rfl ?_
 refine sy_len rfl (len_string Tryz.underlying9 _) rfl rfl ?_
 refine sy_cmp rfl rfl rfl rfl rfl ?_
 refine sy_move rfl rfl rfl ?_
 refine sy_cond (d := 10) _ rfl rfl (fun hg10 => ?_) (fun hg10 => ?_)
 · have hlti : i < s.size := by have := of_decide_eq_true hg10; omega
   obtain ⟨e0, he0⟩ : ∃ e0, s.data.toList[i]? = some e0 := ⟨_, List.getElem?_eq_getElem (by show i < s.size; omega)⟩
   refine sy_move rfl rfl rfl ?_
   refine sy_move rfl rfl rfl ?_
   refine sy_move rfl rfl rfl ?_
   refine sy_idxs (u := e0) Tryz.underlying9 rfl rfl (by omega) (ba_at he0) rfl rfl ?_
   refine sy_callv rfl hFB (caps := []) rfl rfl (hF e0 _) rfl rfl ?_
   refine sy_pickT rfl rfl rfl rfl ?_
   refine sy_nil rfl ?_
   refine ny_next ?_
   refine cy_cond rfl (fun hc16 => ?_) (fun hc16 => ?_)
   · refine cy_skip ?_
     refine ny_next ?_
     refine cy_block ?_
     refine cy_region ?_
     refine sy_move rfl rfl rfl ?_
     refine sy_addi (z := ((i + 1 : Nat) : Int)) rfl rfl (by omega) (by omega) (by omega) rfl rfl ?_
     refine sy_assign rfl rfl rfl ?_
     refine sy_nil rfl ?_
     refine ny_blockN ?_
     refine ny_roundK [0, 1] (i + 1) [] ⟨by omega, by rw [all_snoc he0, hpre, hc16]; rfl⟩ (show s.size - (i + 1) < s.size - i by omega) rfl ⟨rfl, trivial⟩ rfl rfl
   · refine cy_exit ?_
     refine ny_thenE ?_
     refine ny_thenE ?_
     refine ny_blockX ?_
     refine ny_next ?_
     refine cy_seq ?_
     refine cy_region ?_
     refine sy_move rfl rfl rfl ?_
     refine sy_assign rfl rfl rfl ?_
     refine sy_nil rfl ?_
     refine ny_next ?_
     refine cy_ret ?_
     refine ny_finR (res1 rfl rfl) (fun w hs2 => ⟨?_, hs2.frm⟩)
     (rw [run_at hpre he0 hc16])
 · have hge : s.size ≤ i := by have := of_decide_eq_false hg10; omega
   refine sy_skip rfl rfl rfl ?_
   refine sy_skip rfl rfl rfl ?_
   refine sy_skip rfl rfl rfl ?_
   refine sy_skip rfl rfl rfl ?_
   refine sy_skip rfl rfl rfl ?_
   refine sy_pickF rfl rfl rfl rfl ?_
   refine sy_nil rfl ?_
   refine ny_next ?_
   refine cy_condF rfl ?_
   refine cy_exit ?_
   refine ny_thenE ?_
   refine ny_thenE ?_
   refine ny_blockX ?_
   refine ny_next ?_
   refine cy_seq ?_
   refine cy_region ?_
   refine sy_move rfl rfl rfl ?_
   refine sy_assign rfl rfl rfl ?_
   refine sy_nil rfl ?_
   refine ny_next ?_
   refine cy_ret ?_
   refine ny_finR (res1 rfl rfl) (fun w hs2 => ⟨?_, hs2.frm⟩)
   (rw [run_end hpre (by show s.size ≤ i; exact hge)]; refine congrArg (fun z : Nat => Ending.returned (Value.int .i64 (z : Int))) ?_; show i = s.size; omega)
set_option maxRecDepth 100000 in
theorem plain_c (s : ByteArray) (h : Hp) (hs : s.size ≤ 140737488355328) : C0 Tryz.prog 89 [.string s] h (.bool (plainB s.data.toList)) := by
 refine enter0 Tryz.func89 rfl rfl rfl (fun w => ?_)
 refine cy_seq ?_
 refine cy_region ?_
 refine sy_assign rfl rfl rfl ?_
 refine sy_nil rfl ?_
 refine ny_next ?_
 refine cy_seq ?_
 refine cy_block ?_
 refine cy_seq ?_
 refine cy_region ?_
 refine sy_move rfl rfl rfl ?_
 refine sy_eqs rfl rfl rfl rfl ?_
 refine sy_move rfl rfl rfl ?_
 refine sy_cond (d := 6) _ rfl rfl (fun hg6 => ?_) (fun hg6 => ?_)
 · refine sy_skip rfl rfl rfl ?_
   refine sy_skip rfl rfl rfl ?_
   refine sy_pickT rfl rfl rfl rfl ?_
   refine sy_assign rfl rfl rfl ?_
   refine sy_nil rfl ?_
   refine ny_next ?_
   refine cy_condT rfl ?_
   refine cy_seq ?_
   refine cy_region ?_
   refine sy_assign rfl rfl rfl ?_
   refine sy_nil rfl ?_
   refine ny_next ?_
   refine cy_ret ?_
   refine ny_blockR ?_
   refine ny_thenR ?_
   refine ny_finR (res1 rfl rfl) (fun w hs2 => ⟨?_, hs2.frm⟩)
   refine congrArg (fun b => Ending.returned (Value.bool b)) ?_
   unfold plainB
   simp_all
 · refine sy_move rfl rfl rfl ?_
   refine sy_eqs rfl rfl rfl rfl ?_
   refine sy_pickF rfl rfl rfl rfl ?_
   refine sy_assign rfl rfl rfl ?_
   refine sy_nil rfl ?_
   refine ny_next ?_
   refine cy_cond rfl (fun hc3 => ?_) (fun hc3 => ?_)
   · refine cy_seq ?_
     refine cy_region ?_
     refine sy_assign rfl rfl rfl ?_
     refine sy_nil rfl ?_
     refine ny_next ?_
     refine cy_ret ?_
     refine ny_blockR ?_
     refine ny_thenR ?_
     refine ny_finR (res1 rfl rfl) (fun w hs2 => ⟨?_, hs2.frm⟩)
     refine congrArg (fun b => Ending.returned (Value.bool b)) ?_
     unfold plainB
     simp_all
   · refine cy_seq ?_
     refine cy_region ?_
     refine sy_move rfl rfl rfl ?_
     refine sy_eqs rfl rfl rfl rfl ?_
     refine sy_move rfl rfl rfl ?_
     refine sy_cond (d := 13) _ rfl rfl (fun hg13 => ?_) (fun hg13 => ?_)
     · refine sy_skip rfl rfl rfl ?_
       refine sy_skip rfl rfl rfl ?_
       refine sy_pickT rfl rfl rfl rfl ?_
       refine sy_move rfl rfl rfl ?_
       refine sy_skip rfl rfl rfl ?_
       refine sy_skip rfl rfl rfl ?_
       refine sy_pickT rfl rfl rfl rfl ?_
       refine sy_assign rfl rfl rfl ?_
       refine sy_nil rfl ?_
       refine ny_next ?_
       refine cy_condT rfl ?_
       refine cy_seq ?_
       refine cy_region ?_
       refine sy_assign rfl rfl rfl ?_
       refine sy_nil rfl ?_
       refine ny_next ?_
       refine cy_ret ?_
       refine ny_blockR ?_
       refine ny_thenR ?_
       refine ny_finR (res1 rfl rfl) (fun w hs2 => ⟨?_, hs2.frm⟩)
       refine congrArg (fun b => Ending.returned (Value.bool b)) ?_
       unfold plainB
       simp_all
     · refine sy_move rfl rfl rfl ?_
       refine sy_eqs rfl rfl rfl rfl ?_
       refine sy_pickF rfl rfl rfl rfl ?_
       refine sy_move rfl rfl rfl ?_
       refine sy_cond (d := 17) _ rfl rfl (fun hg17 => ?_) (fun hg17 => ?_)
       · refine sy_skip rfl rfl rfl ?_
         refine sy_skip rfl rfl rfl ?_
         refine sy_pickT rfl rfl rfl rfl ?_
         refine sy_assign rfl rfl rfl ?_
         refine sy_nil rfl ?_
         refine ny_next ?_
         refine cy_condT rfl ?_
         refine cy_seq ?_
         refine cy_region ?_
         refine sy_assign rfl rfl rfl ?_
         refine sy_nil rfl ?_
         refine ny_next ?_
         refine cy_ret ?_
         refine ny_blockR ?_
         refine ny_thenR ?_
         refine ny_finR (res1 rfl rfl) (fun w hs2 => ⟨?_, hs2.frm⟩)
         refine congrArg (fun b => Ending.returned (Value.bool b)) ?_
         unfold plainB
         simp_all
       · refine sy_move rfl rfl rfl ?_
         refine sy_eqs rfl rfl rfl rfl ?_
         refine sy_pickF rfl rfl rfl rfl ?_
         refine sy_assign rfl rfl rfl ?_
         refine sy_nil rfl ?_
         refine ny_next ?_
         refine cy_cond rfl (fun hc10 => ?_) (fun hc10 => ?_)
         · refine cy_seq ?_
           refine cy_region ?_
           refine sy_assign rfl rfl rfl ?_
           refine sy_nil rfl ?_
           refine ny_next ?_
           refine cy_ret ?_
           refine ny_blockR ?_
           refine ny_thenR ?_
           refine ny_finR (res1 rfl rfl) (fun w hs2 => ⟨?_, hs2.frm⟩)
           refine congrArg (fun b => Ending.returned (Value.bool b)) ?_
           unfold plainB
           simp_all
         · refine cy_skip ?_
           refine ny_blockN ?_
           refine ny_next ?_
           refine cy_seq ?_
           have hne : s.data.toList ≠ [] := by
            intro h9
            simp_all
           obtain ⟨e0, r0, hl0⟩ : ∃ e0 r0, s.data.toList = e0 :: r0 := List.exists_cons_of_ne_nil hne
           have he0 : s.data.toList[0]? = some e0 := by rw [hl0]; rfl
           refine cy_region ?_
           refine sy_move rfl rfl rfl ?_
           refine sy_idxs (u := e0) Tryz.underlying9 rfl rfl (by omega) (ba_at (i := 0) he0) rfl rfl ?_
           refine sy_call rfl call_68 rfl (small_c e0 _) rfl rfl ?_
           refine sy_move rfl rfl rfl ?_
           refine sy_cond (d := 24) _ rfl rfl (fun hg24 => ?_) (fun hg24 => ?_)
           · refine sy_move rfl rfl rfl ?_
             refine sy_call rfl call_65 rfl (row_c s 69 letterB _ hs call_69 (fun c h => letter_c c h)) rfl rfl ?_
             refine sy_move rfl rfl rfl ?_
             refine sy_len rfl (len_string Tryz.underlying9 _) rfl rfl ?_
             refine sy_cmp rfl rfl rfl rfl rfl ?_
             refine sy_pickT rfl rfl rfl rfl ?_
             refine sy_move rfl rfl rfl ?_
             refine sy_cond (d := 31) _ rfl rfl (fun hg31 => ?_) (fun hg31 => ?_)
             · refine sy_skip rfl rfl rfl ?_
               refine sy_skip rfl rfl rfl ?_
               refine sy_skip rfl rfl rfl ?_
               refine sy_skip rfl rfl rfl ?_
               refine sy_skip rfl rfl rfl ?_
               refine sy_pickT rfl rfl rfl rfl ?_
               refine sy_assign rfl rfl rfl ?_
               refine sy_nil rfl ?_
               refine ny_next ?_
               refine cy_ret ?_
               refine ny_finR (res1 rfl rfl) (fun w hs2 => ⟨?_, hs2.frm⟩)
               refine congrArg (fun b => Ending.returned (Value.bool b)) ?_
               have q1 := run_all letterB s.data.toList
               have q2 := run_all signB s.data.toList
               have q3 : firstB smallB s.data.toList = smallB e0 := by rw [hl0]; rfl
               have q4 : s.data.toList.length = s.size := rfl
               rw [q4] at q1 q2
               show _ = plainB s.data.toList
               rw [plain_end hg6 hc3 hg13 hg17 hc10, q3, ← q1, ← q2]
               (rw [hg24, hg31]; rfl)
             · refine sy_move rfl rfl rfl ?_
               refine sy_call rfl call_65 rfl (row_c s 76 signB _ hs call_76 (fun c h => sign_c c h)) rfl rfl ?_
               refine sy_move rfl rfl rfl ?_
               refine sy_len rfl (len_string Tryz.underlying9 _) rfl rfl ?_
               refine sy_cmp rfl rfl rfl rfl rfl ?_
               refine sy_pickF rfl rfl rfl rfl ?_
               refine sy_assign rfl rfl rfl ?_
               refine sy_nil rfl ?_
               refine ny_next ?_
               refine cy_ret ?_
               refine ny_finR (res1 rfl rfl) (fun w hs2 => ⟨?_, hs2.frm⟩)
               refine congrArg (fun b => Ending.returned (Value.bool b)) ?_
               have q1 := run_all letterB s.data.toList
               have q2 := run_all signB s.data.toList
               have q3 : firstB smallB s.data.toList = smallB e0 := by rw [hl0]; rfl
               have q4 : s.data.toList.length = s.size := rfl
               rw [q4] at q1 q2
               show _ = plainB s.data.toList
               rw [plain_end hg6 hc3 hg13 hg17 hc10, q3, ← q1, ← q2]
               (rw [hg24, hg31]; rfl)
           · refine sy_skip rfl rfl rfl ?_
             refine sy_skip rfl rfl rfl ?_
             refine sy_skip rfl rfl rfl ?_
             refine sy_skip rfl rfl rfl ?_
             refine sy_skip rfl rfl rfl ?_
             refine sy_pickF rfl rfl rfl rfl ?_
             refine sy_move rfl rfl rfl ?_
             refine sy_move rfl rfl rfl ?_
             refine sy_call rfl call_65 rfl (row_c s 76 signB _ hs call_76 (fun c h => sign_c c h)) rfl rfl ?_
             refine sy_move rfl rfl rfl ?_
             refine sy_len rfl (len_string Tryz.underlying9 _) rfl rfl ?_
             refine sy_cmp rfl rfl rfl rfl rfl ?_
             refine sy_pickF rfl rfl rfl rfl ?_
             refine sy_assign rfl rfl rfl ?_
             refine sy_nil rfl ?_
             refine ny_next ?_
             refine cy_ret ?_
             refine ny_finR (res1 rfl rfl) (fun w hs2 => ⟨?_, hs2.frm⟩)
             refine congrArg (fun b => Ending.returned (Value.bool b)) ?_
             have q1 := run_all letterB s.data.toList
             have q2 := run_all signB s.data.toList
             have q3 : firstB smallB s.data.toList = smallB e0 := by rw [hl0]; rfl
             have q4 : s.data.toList.length = s.size := rfl
             rw [q4] at q1 q2
             show _ = plainB s.data.toList
             rw [plain_end hg6 hc3 hg13 hg17 hc10, q3, ← q1, ← q2]
             (rw [hg24]; rfl)
end Go.Proofs.YtanhhihechakhaaGreatDoor
set_option linter.unusedVariables false
set_option linter.unusedSimpArgs false
namespace Go.Proofs.YtanhhihechakhaaGreatDoor.TokP
open Go.RowKit Go.Proofs.YtanhhihechakhaaGreatDoor.E Go.Proofs.YtanhhihechakhaaGreatDoor.ReplP
theorem ext_from (s : ByteArray) (i : Nat) : (s.extract i s.size).data.toList = s.data.toList.drop i := by
 obtain ⟨⟨l⟩⟩ := s
 simp [ByteArray.size]
 rw [List.take_of_length_le (by rw [List.length_drop]; exact Nat.le_refl _)]
theorem ext_to (s : ByteArray) (i : Nat) : (s.extract 0 i).data.toList = s.data.toList.take i := by
 obtain ⟨⟨l⟩⟩ := s
 simp
theorem drop_at {l : List UInt8} {i : Nat} {e : UInt8} (h : l[i]? = some e) : l.drop i = e :: l.drop (i + 1) := by
 have hl := (List.getElem?_eq_some_iff.1 h).1
 rw [List.drop_eq_getElem_cons hl, (List.getElem?_eq_some_iff.1 h).2]
theorem skip_nil : skipN [] = 0 := by rw [skipN]
theorem skip_cons (c : UInt8) (l : List UInt8) : skipN (c :: l) = if c = 37 then (if runB lineB l = l.length then l.length + 1 else runB lineB l + 2 + skipN (l.drop (runB lineB l + 1))) else if blankB c = true then 1 + skipN l else 0 := by rw [skipN]
theorem line_pct : lineB 37 = true := rfl
section
variable {l : List UInt8} {i : Nat} {e : UInt8}
theorem skip_blank (h : l[i]? = some e) (h1 : ¬ e = 37) (h2 : blankB e = true) : i + 1 + skipN (l.drop (i + 1)) = i + skipN (l.drop i) := by
 rw [drop_at h, skip_cons, if_neg h1, if_pos h2]
 omega
theorem skip_stop (h : l[i]? = some e) (h1 : ¬ e = 37) (h2 : blankB e = false) : skipN (l.drop i) = 0 := by
 rw [drop_at h, skip_cons, if_neg h1, h2]
 rfl
theorem skip_run (h : l[i]? = some e) (h1 : e = 37) : runB lineB (l.drop i) = runB lineB (l.drop (i + 1)) + 1 := by
 rw [drop_at h, h1, runB_yes line_pct]
theorem skip_last (h : l[i]? = some e) (h1 : e = 37) (h2 : i + runB lineB (l.drop i) = l.length) : i + skipN (l.drop i) = l.length := by
 have hl := (List.getElem?_eq_some_iff.1 h).1
 rw [skip_run h h1] at h2
 have h3 : runB lineB (l.drop (i + 1)) = (l.drop (i + 1)).length := by rw [List.length_drop]; omega
 rw [drop_at h, skip_cons, if_pos h1, if_pos h3, List.length_drop]
 omega
theorem skip_remark (h : l[i]? = some e) (h1 : e = 37) (h2 : ¬ i + runB lineB (l.drop i) = l.length) : i + runB lineB (l.drop i) + 1 ≤ l.length ∧ (i + runB lineB (l.drop i) + 1) + skipN (l.drop (i + runB lineB (l.drop i) + 1)) = i + skipN (l.drop i) := by
 have hl := (List.getElem?_eq_some_iff.1 h).1
 have h4 := runB_le lineB (l.drop i)
 rw [List.length_drop] at h4
 refine ⟨by omega, ?_⟩
 rw [skip_run h h1] at h2 h4
 have h3 : ¬ runB lineB (l.drop (i + 1)) = (l.drop (i + 1)).length := by rw [List.length_drop]; omega
 have h5 : skipN (l.drop i) = runB lineB (l.drop (i + 1)) + 2 + skipN ((l.drop (i + 1)).drop (runB lineB (l.drop (i + 1)) + 1)) := by rw [drop_at h, skip_cons, if_pos h1, if_neg h3]
 have h6 : (l.drop (i + 1)).drop (runB lineB (l.drop (i + 1)) + 1) = l.drop (i + runB lineB (l.drop i) + 1) := by
  rw [List.drop_drop, skip_run h h1]
  congr 1
  omega
 rw [h6] at h5
 rw [h5, skip_run h h1]
 omega
end
theorem skip_le : ∀ (k : Nat) (l : List UInt8), l.length ≤ k → skipN l ≤ l.length
 | _, [], _ => by rw [skip_nil]; exact Nat.le_refl _
 | 0, _ :: _, h => by simp at h
 | k + 1, c :: l, h => by
  have hl : l.length ≤ k := by simpa using h
  rw [skip_cons, List.length_cons]
  split
  · split
    · exact Nat.le_refl _
    · have h1 := skip_le k (l.drop (runB lineB l + 1)) (by rw [List.length_drop]; omega)
      have h2 := runB_le lineB l
      rw [List.length_drop] at h1
      omega
  · split
    · have := skip_le k l hl
      omega
    · exact Nat.zero_le _
/-! ends and escapes -/
def pointB : List UInt8 → Bool
 | [] => false
 | c :: _ => c == 46
theorem point_take (l : List UInt8) : (l.take 1 == [46]) = pointB l := by
 cases l with
 | nil => rfl
 | cons c t => simp [pointB]
theorem point_nil {l : List UInt8} (h : ¬ 1 ≤ l.length) : pointB l = false := by
 cases l with
 | nil => rfl
 | cons c t => simp at h
theorem point_some {l : List UInt8} (h : pointB l = true) : 1 ≤ l.length := by
 cases l with
 | nil => simp [pointB] at h
 | cons c t => simp
def afterB : Option UInt8 → Bool
 | none => false
 | some d => blankB d || ((d.toNat : Int) == 37)
def endsB (l : List UInt8) : Bool := pointB l && (((l.length : Int) == 1) || afterB l[1]?)
def esc (c : UInt8) : Option UInt8 := if ((c.toNat : Int) == 92) = true then some c else if ((c.toNat : Int) == 39) = true then some c else if ((c.toNat : Int) == 110) = true then some 10 else none
end Go.Proofs.YtanhhihechakhaaGreatDoor.TokP
set_option linter.unusedVariables false
set_option linter.unusedSimpArgs false
namespace Go.Proofs.YtanhhihechakhaaGreatDoor
open Go.RowKit Go.Proofs.YtanhhihechakhaaGreatDoor.E Go.Proofs.YtanhhihechakhaaGreatDoor.ReplP Go.Proofs.YtanhhihechakhaaGreatDoor.TokP
set_option maxRecDepth 100000 in
theorem skip_c (s : ByteArray) (h : Hp) (hs : s.size ≤ 70368744177600) : C0 Tryz.prog 50 [.string s] h (.int .i64 ((skipN s.data.toList : Nat) : Int)) := by
 refine enter0 Tryz.func50 rfl rfl rfl (fun w => ?_)
 refine cy_seq ?_
 refine cy_region ?_
 refine sy_assign rfl rfl rfl ?_
 refine sy_nil rfl ?_
 refine ny_next ?_
 refine cy_seq ?_
 refine cy_region ?_
 refine sy_assign rfl rfl rfl ?_
 refine sy_nil rfl ?_
 refine ny_next ?_
 refine cy_seq ?_
 refine cy_block ?_
 refine cy_loopK (ι := Nat) [0] rfl (fun i => i ≤ s.size ∧ i + skipN (s.data.toList.drop i) = skipN s.data.toList) (fun i => s.size - i) (fun i => [(3, .int .i64 (i : Int))]) (fun i => h) (fun i => []) 0 [] ⟨Nat.zero_le _, by simp⟩ ⟨rfl, trivial⟩ rfl rfl ?_
 rintro i ⟨hI, hpre⟩
 have hsz : s.data.toList.length = s.size := rfl
 refine cy_seq ?_
 refine cy_seq ?_
 refine cy_region ?_
 refine sy_move rfl rfl rfl ?_
 refine sy_move rfl rfl rfl ?_
 refine sy_len rfl (len_string Tryz.underlying9 _) rfl rfl ?_
 refine sy_cmp rfl rfl rfl rfl rfl ?_
 refine sy_nil rfl ?_
 refine ny_next ?_
 refine cy_cond rfl (fun hc8 => ?_) (fun hc8 => ?_)
 · have hlti : i < s.size := by have := of_decide_eq_true hc8; omega
   obtain ⟨e0, he0⟩ : ∃ e0, s.data.toList[i]? = some e0 := ⟨_, List.getElem?_eq_getElem (by show i < s.size; omega)⟩
   refine cy_skip ?_
   refine ny_next ?_
   refine cy_block ?_
   refine cy_seq ?_
   refine cy_region ?_
   refine sy_move rfl rfl rfl ?_
   refine sy_move rfl rfl rfl ?_
   refine sy_idxs (u := e0) Tryz.underlying9 rfl rfl (by omega) (ba_at he0) rfl rfl ?_
   refine sy_assign rfl rfl rfl ?_
   refine sy_nil rfl ?_
   refine ny_next ?_
   refine cy_block ?_
   refine cy_seq ?_
   refine cy_block ?_
   refine cy_seq ?_
   refine cy_block ?_
   refine cy_seq ?_
   refine cy_block ?_
   refine cy_seq ?_
   refine cy_seq ?_
   refine cy_seq ?_
   refine cy_region ?_
   refine sy_move rfl rfl rfl ?_
   refine sy_cmp rfl rfl rfl rfl rfl ?_
   refine sy_assign rfl rfl rfl ?_
   refine sy_nil rfl ?_
   refine ny_next ?_
   refine cy_cond rfl (fun hc12 => ?_) (fun hc12 => ?_)
   · have h37 : e0 = 37 := UInt8.toNat_inj.1 (by have h9 : (e0.toNat : Int) = 37 := (by simpa using hc12); show e0.toNat = 37; omega)
     refine cy_exit ?_
     refine ny_thenE ?_
     refine ny_thenE ?_
     refine ny_blockX ?_
     refine ny_next ?_
     refine cy_seq ?_
     refine cy_region ?_
     refine sy_move rfl rfl rfl ?_
     refine sy_move rfl rfl rfl ?_
     refine sy_move rfl rfl rfl ?_
     refine sy_strfrom Tryz.underlying9 rfl rfl (by omega) rfl rfl ?_
     have hxs : (s.extract i s.size).size ≤ 140737488355328 := by
      have h9 : (s.extract i s.size).size = (s.extract i s.size).data.toList.length := rfl
      rw [h9, ext_from, List.length_drop]
      omega
     refine sy_call rfl call_65 rfl (row_c (s.extract i s.size) 66 lineB _ hxs call_66 (fun c h => line_c c h)) rfl rfl ?_
     rw [ext_from]
     have hrl := runB_le lineB (s.data.toList.drop i)
     rw [List.length_drop] at hrl
     refine sy_addi (z := ((i + runB lineB (s.data.toList.drop i) : Nat) : Int)) rfl rfl (by omega) (by omega) (by omega) rfl rfl ?_
     refine sy_assign rfl rfl rfl ?_
     refine sy_nil rfl ?_
     refine ny_next ?_
     refine cy_seq ?_
     refine cy_region ?_
     refine sy_move rfl rfl rfl ?_
     refine sy_move rfl rfl rfl ?_
     refine sy_len rfl (len_string Tryz.underlying9 _) rfl rfl ?_
     refine sy_cmp rfl rfl rfl rfl rfl ?_
     refine sy_nil rfl ?_
     refine ny_next ?_
     refine cy_cond rfl (fun hc27 => ?_) (fun hc27 => ?_)
     · refine cy_seq ?_
       refine cy_region ?_
       refine sy_move rfl rfl rfl ?_
       refine sy_assign rfl rfl rfl ?_
       refine sy_nil rfl ?_
       refine ny_next ?_
       refine cy_ret ?_
       refine ny_blockR ?_
       refine ny_thenR ?_
       refine ny_blockR ?_
       refine ny_thenR ?_
       refine ny_blockR ?_
       refine ny_blockR ?_
       refine ny_thenR ?_
       refine ny_blockR ?_
       refine ny_thenR ?_
       refine ny_finR (res1 rfl rfl) (fun w hs2 => ⟨?_, hs2.frm⟩)
       refine congrArg (fun z : Nat => Ending.returned (Value.int .i64 (z : Int))) ?_
       have hnl : i + runB lineB (s.data.toList.drop i) = s.size := by have h9 := eq_of_beq hc27; omega
       have h8 := skip_last he0 h37 hnl
       omega
     · have hnl : ¬ i + runB lineB (s.data.toList.drop i) = s.size := by
        intro h9
        rw [h9] at hc27
        simp at hc27
       have hsk := skip_remark he0 h37 hnl
       refine cy_skip ?_
       refine ny_blockN ?_
       refine ny_next ?_
       refine cy_seq ?_
       refine cy_region ?_
       refine sy_move rfl rfl rfl ?_
       refine sy_addi (z := ((i + runB lineB (s.data.toList.drop i) + 1 : Nat) : Int)) rfl rfl (by omega) (by omega) (by omega) rfl rfl ?_
       refine sy_assign rfl rfl rfl ?_
       refine sy_nil rfl ?_
       refine ny_next ?_
       refine cy_exit ?_
       refine ny_blockY rfl ?_
       refine ny_thenE ?_
       refine ny_blockX ?_
       refine ny_blockN ?_
       refine ny_roundK [0] (i + runB lineB (s.data.toList.drop i) + 1) [] ⟨hsk.1, hsk.2.trans hpre⟩ (by have := hsk.1; show s.size - (i + runB lineB (s.data.toList.drop i) + 1) < s.size - i; omega) rfl ⟨rfl, trivial⟩ rfl rfl
   · have h37 : ¬ e0 = 37 := by
      intro h9
      rw [h9] at hc12
      simp at hc12
     refine cy_skip ?_
     refine ny_next ?_
     refine cy_seq ?_
     refine cy_region ?_
     refine sy_move rfl rfl rfl ?_
     refine sy_call rfl call_67 rfl (blank_c e0 _) rfl rfl ?_
     refine sy_assign rfl rfl rfl ?_
     refine sy_nil rfl ?_
     refine ny_next ?_
     refine cy_cond rfl (fun hc15 => ?_) (fun hc15 => ?_)
     · refine cy_exit ?_
       refine ny_thenE ?_
       refine ny_blockY rfl ?_
       refine ny_thenE ?_
       refine ny_blockX ?_
       refine ny_next ?_
       refine cy_seq ?_
       refine cy_region ?_
       refine sy_move rfl rfl rfl ?_
       refine sy_addi (z := ((i + 1 : Nat) : Int)) rfl rfl (by omega) (by omega) (by omega) rfl rfl ?_
       refine sy_assign rfl rfl rfl ?_
       refine sy_nil rfl ?_
       refine ny_next ?_
       refine cy_exit ?_
       refine ny_blockY rfl ?_
       refine ny_thenE ?_
       refine ny_blockX ?_
       refine ny_blockN ?_
       refine ny_roundK [0] (i + 1) [] ⟨by omega, (skip_blank he0 h37 hc15).trans hpre⟩ (show s.size - (i + 1) < s.size - i by omega) rfl ⟨rfl, trivial⟩ rfl rfl
     · refine cy_skip ?_
       refine ny_next ?_
       refine cy_exit ?_
       refine ny_blockY rfl ?_
       refine ny_thenE ?_
       refine ny_blockY rfl ?_
       refine ny_thenE ?_
       refine ny_blockX ?_
       refine ny_next ?_
       refine cy_seq ?_
       refine cy_seq ?_
       refine cy_region ?_
       refine sy_move rfl rfl rfl ?_
       refine sy_assign rfl rfl rfl ?_
       refine sy_nil rfl ?_
       refine ny_next ?_
       refine cy_ret ?_
       refine ny_thenR ?_
       refine ny_blockR ?_
       refine ny_blockR ?_
       refine ny_thenR ?_
       refine ny_blockR ?_
       refine ny_thenR ?_
       refine ny_finR (res1 rfl rfl) (fun w hs2 => ⟨?_, hs2.frm⟩)
       refine congrArg (fun z : Nat => Ending.returned (Value.int .i64 (z : Int))) ?_
       have h8 := skip_stop he0 h37 hc15
       omega
 · have hie : i = s.size := by have := of_decide_eq_false hc8; omega
   subst hie
   refine cy_exit ?_
   refine ny_thenE ?_
   refine ny_thenE ?_
   refine ny_blockX ?_
   refine ny_next ?_
   refine cy_seq ?_
   refine cy_region ?_
   refine sy_move rfl rfl rfl ?_
   refine sy_assign rfl rfl rfl ?_
   refine sy_nil rfl ?_
   refine ny_next ?_
   refine cy_ret ?_
   refine ny_finR (res1 rfl rfl) (fun w hs2 => ⟨?_, hs2.frm⟩)
   refine congrArg (fun z : Nat => Ending.returned (Value.int .i64 (z : Int))) ?_
   rw [show s.data.toList.drop s.size = [] from List.drop_eq_nil_of_le (Nat.le_refl _), skip_nil] at hpre
   exact hpre
set_option maxRecDepth 100000 in
theorem hp2_c (s : ByteArray) (h : Hp) (hs : s.size ≤ 70368744177600) : C0 Tryz.prog 60 [.string s, .string ⟨#[46]⟩] h (.bool (pointB s.data.toList)) := by
 refine enter0 Tryz.func60 rfl rfl rfl (fun w => ?_)
 refine cy_seq ?_
 refine cy_region ?_
 refine sy_assign rfl rfl rfl ?_
 refine sy_nil rfl ?_
 refine ny_next ?_
 refine cy_seq ?_
 refine cy_region ?_
 refine sy_move rfl rfl rfl ?_
 refine sy_len rfl (len_string Tryz.underlying9 _) rfl rfl ?_
 refine sy_move rfl rfl rfl ?_
 refine sy_len rfl (len_string Tryz.underlying9 _) rfl rfl ?_
 refine sy_cmp rfl rfl rfl rfl rfl ?_
 refine sy_move rfl rfl rfl ?_
 refine sy_cond (d := 10) _ rfl rfl (fun hg10 => ?_) (fun hg10 => ?_)
 · refine sy_move rfl rfl rfl ?_
   refine sy_move rfl rfl rfl ?_
   refine sy_len rfl (len_string Tryz.underlying9 _) rfl rfl ?_
   refine sy_strto (hi := 1) Tryz.underlying9 rfl rfl (by have := of_decide_eq_true hg10; have h8 : (⟨#[46]⟩ : ByteArray).size = 1 := rfl; omega) rfl rfl ?_
   refine sy_move rfl rfl rfl ?_
   refine sy_eqs rfl rfl rfl rfl ?_
   refine sy_pickT rfl rfl rfl rfl ?_
   refine sy_assign rfl rfl rfl ?_
   refine sy_nil rfl ?_
   refine ny_next ?_
   refine cy_ret ?_
   refine ny_finR (res1 rfl rfl) (fun w hs2 => ⟨?_, hs2.frm⟩)
   refine congrArg (fun b => Ending.returned (Value.bool b)) ?_
   (rw [ext_to]; exact point_take _)
 · refine sy_skip rfl rfl rfl ?_
   refine sy_skip rfl rfl rfl ?_
   refine sy_skip rfl rfl rfl ?_
   refine sy_skip rfl rfl rfl ?_
   refine sy_skip rfl rfl rfl ?_
   refine sy_skip rfl rfl rfl ?_
   refine sy_pickF rfl rfl rfl rfl ?_
   refine sy_assign rfl rfl rfl ?_
   refine sy_nil rfl ?_
   refine ny_next ?_
   refine cy_ret ?_
   refine ny_finR (res1 rfl rfl) (fun w hs2 => ⟨?_, hs2.frm⟩)
   refine congrArg (fun b => Ending.returned (Value.bool b)) ?_
   exact (point_nil (by have h9 := of_decide_eq_false hg10; have h8 : (⟨#[46]⟩ : ByteArray).size = 1 := rfl; have h7 : s.data.toList.length = s.size := rfl; omega)).symm
set_option maxRecDepth 100000 in
theorem hp_c (s : ByteArray) (h : Hp) (hs : s.size ≤ 70368744177600) : C0 Tryz.prog 41 [.string s, .string ⟨#[46]⟩] h (.bool (pointB s.data.toList)) := by
 refine enter0 Tryz.func41 rfl rfl rfl (fun w => ?_)
 refine cy_seq ?_
 refine cy_region ?_
 refine sy_assign rfl rfl rfl ?_
 refine sy_nil rfl ?_
 refine ny_next ?_
 refine cy_seq ?_
 refine cy_region ?_
 refine sy_move rfl rfl rfl ?_
 refine sy_move rfl rfl rfl ?_
 refine sy_call rfl call_60 rfl (hp2_c s _ hs) rfl rfl ?_
 refine sy_assign rfl rfl rfl ?_
 refine sy_nil rfl ?_
 refine ny_next ?_
 refine cy_ret ?_
 refine ny_finR (res1 rfl rfl) (fun w hs => ⟨?_, hs.frm⟩)
 rfl
set_option maxRecDepth 100000 in
theorem ends_c (s : ByteArray) (h : Hp) (hs : s.size ≤ 70368744177600) : C0 Tryz.prog 75 [.string s] h (.bool (endsB s.data.toList)) := by
 refine enter0 Tryz.func75 rfl rfl rfl (fun w => ?_)
 refine cy_seq ?_
 refine cy_region ?_
 refine sy_assign rfl rfl rfl ?_
 refine sy_nil rfl ?_
 refine ny_next ?_
 refine cy_seq ?_
 refine cy_region ?_
 refine sy_move rfl rfl rfl ?_
 refine sy_call rfl call_41 rfl (hp_c s _ hs) rfl rfl ?_
 refine sy_move rfl rfl rfl ?_
 refine sy_cond (d := 5) _ rfl rfl (fun hg5 => ?_) (fun hg5 => ?_)
 · refine sy_move rfl rfl rfl ?_
   refine sy_len rfl (len_string Tryz.underlying9 _) rfl rfl ?_
   refine sy_cmp rfl rfl rfl rfl rfl ?_
   refine sy_move rfl rfl rfl ?_
   refine sy_cond (d := 9) _ rfl rfl (fun hg9 => ?_) (fun hg9 => ?_)
   · refine sy_skip rfl rfl rfl ?_
     refine sy_skip rfl rfl rfl ?_
     refine sy_skip rfl rfl rfl ?_
     refine sy_pickT rfl rfl rfl rfl ?_
     refine sy_move rfl rfl rfl ?_
     refine sy_skip rfl rfl rfl ?_
     refine sy_skip rfl rfl rfl ?_
     refine sy_skip rfl rfl rfl ?_
     refine sy_pickT rfl rfl rfl rfl ?_
     refine sy_pickT rfl rfl rfl rfl ?_
     refine sy_assign rfl rfl rfl ?_
     refine sy_nil rfl ?_
     refine ny_next ?_
     refine cy_ret ?_
     refine ny_finR (res1 rfl rfl) (fun w hs2 => ⟨?_, hs2.frm⟩)
     refine congrArg (fun b => Ending.returned (Value.bool b)) ?_
     have h7 : ((s.data.toList.length : Int) == 1) = ((s.size : Int) == 1) := rfl
     unfold endsB
     rw [h7, hg5]
     (rw [hg9]; rfl)
   · have hsz1 : s.data.toList.length = s.size := rfl
     have hp1 := point_some hg5
     obtain ⟨e0, he0⟩ : ∃ e0, s.data.toList[1]? = some e0 := ⟨_, List.getElem?_eq_getElem (by have h9 : ¬ (s.size : Int) = 1 := (by simpa using hg9); omega)⟩
     refine sy_move rfl rfl rfl ?_
     refine sy_idxs (u := e0) Tryz.underlying9 rfl rfl (by omega) (ba_at (i := 1) he0) rfl rfl ?_
     refine sy_call rfl call_67 rfl (blank_c e0 _) rfl rfl ?_
     refine sy_pickF rfl rfl rfl rfl ?_
     refine sy_move rfl rfl rfl ?_
     refine sy_cond (d := 14) _ rfl rfl (fun hg14 => ?_) (fun hg14 => ?_)
     · refine sy_skip rfl rfl rfl ?_
       refine sy_skip rfl rfl rfl ?_
       refine sy_skip rfl rfl rfl ?_
       refine sy_pickT rfl rfl rfl rfl ?_
       refine sy_pickT rfl rfl rfl rfl ?_
       refine sy_assign rfl rfl rfl ?_
       refine sy_nil rfl ?_
       refine ny_next ?_
       refine cy_ret ?_
       refine ny_finR (res1 rfl rfl) (fun w hs2 => ⟨?_, hs2.frm⟩)
       refine congrArg (fun b => Ending.returned (Value.bool b)) ?_
       have h7 : ((s.data.toList.length : Int) == 1) = ((s.size : Int) == 1) := rfl
       unfold endsB
       rw [h7, hg5]
       (rw [hg9, he0]; show _ = (true && (false || (blankB e0 || ((e0.toNat : Int) == 37)))); rw [hg14]; rfl)
     · refine sy_move rfl rfl rfl ?_
       refine sy_idxs (u := e0) Tryz.underlying9 rfl rfl (by omega) (ba_at (i := 1) he0) rfl rfl ?_
       refine sy_cmp rfl rfl rfl rfl rfl ?_
       refine sy_pickF rfl rfl rfl rfl ?_
       refine sy_pickT rfl rfl rfl rfl ?_
       refine sy_assign rfl rfl rfl ?_
       refine sy_nil rfl ?_
       refine ny_next ?_
       refine cy_ret ?_
       refine ny_finR (res1 rfl rfl) (fun w hs2 => ⟨?_, hs2.frm⟩)
       refine congrArg (fun b => Ending.returned (Value.bool b)) ?_
       have h7 : ((s.data.toList.length : Int) == 1) = ((s.size : Int) == 1) := rfl
       unfold endsB
       rw [h7, hg5]
       (rw [hg9, he0]; show _ = (true && (false || (blankB e0 || ((e0.toNat : Int) == 37)))); rw [hg14]; rfl)
 · refine sy_skip rfl rfl rfl ?_
   refine sy_skip rfl rfl rfl ?_
   refine sy_skip rfl rfl rfl ?_
   refine sy_skip rfl rfl rfl ?_
   refine sy_skip rfl rfl rfl ?_
   refine sy_skip rfl rfl rfl ?_
   refine sy_skip rfl rfl rfl ?_
   refine sy_skip rfl rfl rfl ?_
   refine sy_skip rfl rfl rfl ?_
   refine sy_skip rfl rfl rfl ?_
   refine sy_skip rfl rfl rfl ?_
   refine sy_skip rfl rfl rfl ?_
   refine sy_skip rfl rfl rfl ?_
   refine sy_pickF rfl rfl rfl rfl ?_
   refine sy_assign rfl rfl rfl ?_
   refine sy_nil rfl ?_
   refine ny_next ?_
   refine cy_ret ?_
   refine ny_finR (res1 rfl rfl) (fun w hs2 => ⟨?_, hs2.frm⟩)
   refine congrArg (fun b => Ending.returned (Value.bool b)) ?_
   have h7 : ((s.data.toList.length : Int) == 1) = ((s.size : Int) == 1) := rfl
   unfold endsB
   rw [h7, hg5]
   rfl
set_option maxRecDepth 100000 in
theorem esc_c (c : UInt8) (h : Hp) : C0 Tryz.prog 92 [.int .u8 (c.toNat : Int)] h (.tuple #[.int .u8 (((esc c).getD 0).toNat : Int), .bool (esc c).isSome]) := by
 refine enter0 Tryz.func92 rfl rfl rfl (fun w => ?_)
 refine cy_seq ?_
 refine cy_region ?_
 refine sy_assign rfl rfl rfl ?_
 refine sy_assign rfl rfl rfl ?_
 refine sy_nil rfl ?_
 refine ny_next ?_
 refine cy_seq ?_
 refine cy_seq ?_
 refine cy_region ?_
 refine sy_move rfl rfl rfl ?_
 refine sy_nil rfl ?_
 refine ny_next ?_
 refine cy_block ?_
 refine cy_seq ?_
 refine cy_seq ?_
 refine cy_region ?_
 refine sy_cmp rfl rfl rfl rfl rfl ?_
 refine sy_assign rfl rfl rfl ?_
 refine sy_nil rfl ?_
 refine ny_next ?_
 refine cy_cond rfl (fun hc5 => ?_) (fun hc5 => ?_)
 · refine cy_skip ?_
   refine ny_next ?_
   refine cy_cond rfl (fun hc5 => ?_) (fun hc5 => ?_)
   · refine cy_seq ?_
     refine cy_region ?_
     refine sy_move rfl rfl rfl ?_
     refine sy_assign rfl rfl rfl ?_
     refine sy_assign rfl rfl rfl ?_
     refine sy_nil rfl ?_
     refine ny_next ?_
     refine cy_ret ?_
     refine ny_blockR ?_
     refine ny_thenR ?_
     refine ny_finR (res2 rfl rfl rfl) (fun w hs2 => ⟨?_, hs2.frm⟩)
     unfold esc
     (simp_all; done)
   · refine cy_seq ?_
     refine cy_region ?_
     refine sy_cmp rfl rfl rfl rfl rfl ?_
     refine sy_assign rfl rfl rfl ?_
     refine sy_nil rfl ?_
     refine ny_next ?_
     refine cy_cond rfl (fun hc9 => ?_) (fun hc9 => ?_)
     · refine cy_seq ?_
       refine cy_region ?_
       refine sy_assign rfl rfl rfl ?_
       refine sy_assign rfl rfl rfl ?_
       refine sy_nil rfl ?_
       refine ny_next ?_
       refine cy_ret ?_
       refine ny_blockR ?_
       refine ny_thenR ?_
       refine ny_finR (res2 rfl rfl rfl) (fun w hs2 => ⟨?_, hs2.frm⟩)
       unfold esc
       (simp_all; done)
     · refine cy_skip ?_
       refine ny_blockN ?_
       refine ny_next ?_
       refine cy_seq ?_
       refine cy_region ?_
       refine sy_assign rfl rfl rfl ?_
       refine sy_assign rfl rfl rfl ?_
       refine sy_nil rfl ?_
       refine ny_next ?_
       refine cy_ret ?_
       refine ny_finR (res2 rfl rfl rfl) (fun w hs2 => ⟨?_, hs2.frm⟩)
       unfold esc
       (simp_all; done)
 · refine cy_region ?_
   refine sy_cmp rfl rfl rfl rfl rfl ?_
   refine sy_assign rfl rfl rfl ?_
   refine sy_nil rfl ?_
   refine ny_next ?_
   refine cy_cond rfl (fun hc5 => ?_) (fun hc5 => ?_)
   · refine cy_seq ?_
     refine cy_region ?_
     refine sy_move rfl rfl rfl ?_
     refine sy_assign rfl rfl rfl ?_
     refine sy_assign rfl rfl rfl ?_
     refine sy_nil rfl ?_
     refine ny_next ?_
     refine cy_ret ?_
     refine ny_blockR ?_
     refine ny_thenR ?_
     refine ny_finR (res2 rfl rfl rfl) (fun w hs2 => ⟨?_, hs2.frm⟩)
     unfold esc
     (simp_all; done)
   · refine cy_seq ?_
     refine cy_region ?_
     refine sy_cmp rfl rfl rfl rfl rfl ?_
     refine sy_assign rfl rfl rfl ?_
     refine sy_nil rfl ?_
     refine ny_next ?_
     refine cy_cond rfl (fun hc9 => ?_) (fun hc9 => ?_)
     · refine cy_seq ?_
       refine cy_region ?_
       refine sy_assign rfl rfl rfl ?_
       refine sy_assign rfl rfl rfl ?_
       refine sy_nil rfl ?_
       refine ny_next ?_
       refine cy_ret ?_
       refine ny_blockR ?_
       refine ny_thenR ?_
       refine ny_finR (res2 rfl rfl rfl) (fun w hs2 => ⟨?_, hs2.frm⟩)
       unfold esc
       (simp_all; done)
     · refine cy_skip ?_
       refine ny_blockN ?_
       refine ny_next ?_
       refine cy_seq ?_
       refine cy_region ?_
       refine sy_assign rfl rfl rfl ?_
       refine sy_assign rfl rfl rfl ?_
       refine sy_nil rfl ?_
       refine ny_next ?_
       refine cy_ret ?_
       refine ny_finR (res2 rfl rfl rfl) (fun w hs2 => ⟨?_, hs2.frm⟩)
       unfold esc
       (simp_all; done)
set_option maxRecDepth 100000 in
theorem bad_c (w : ByteArray) (e : Int) (h : Hp) : C0 Tryz.prog 49 [.string w, .int .i64 e] h (.iface 100 (.agg #[.string w, .int .i64 e])) := by
 refine enter0 Tryz.func49 rfl rfl rfl (fun w => ?_)
 refine cy_seq ?_
 refine cy_region ?_
 refine sy_assign rfl rfl rfl ?_
 refine sy_nil rfl ?_
 refine ny_next ?_
 refine cy_seq ?_
 refine cy_region ?_
 refine sy_move rfl rfl rfl ?_
 refine sy_move rfl rfl rfl ?_
 refine sy_build rfl (fun w => bld_100_0x1 w) rfl rfl ?_
 refine sy_iface Tryz.underlying100 rfl rfl rfl rfl ?_
 refine sy_assign rfl rfl rfl ?_
 refine sy_nil rfl ?_
 refine ny_next ?_
 refine cy_ret ?_
 refine ny_finR (res1 rfl rfl) (fun w hs => ⟨?_, hs.frm⟩)
 rfl
end Go.Proofs.YtanhhihechakhaaGreatDoor
set_option linter.unusedVariables false
set_option linter.unusedSimpArgs false
namespace Go.Proofs.YtanhhihechakhaaGreatDoor.E
open Go.RowKit
section
variable {m : Md} {P : Program} {ops : Array Oper} {Q : Exit → Act → World → Prop} {n : Nat} {D : List Deferred} {w0 : World} {M : List Nat} {h0 : Hp}
variable {f : Tab} {h : Hp} {H : List Res} {rest : List Oper} {o : Oper}
variable {d t s : Nat} {p : String} {af : Array Edge} {g : Option (Nat × Bool)}
theorem sy_subK {x y : Operand} {ik : IntKind} {m1 m2 z : Int} {s2 : Nat} (hx : f.ev x = some (.int ik m1)) (hy : f.ev y = some (.int ik m2)) (hz : ik.wrap (m1 - m2) = z) (hw : gok ops f g = some true) (hn : Nat.blt d n = true)
    (k : Sy m P ops Q n D w0 M h0 rest ((d, .int ik z) :: f) h H) : Sy m P ops Q n D w0 M h0 (⟨some d, .binOp .sub s x y s2, t, p, af, g⟩ :: rest) f h H := sy_sub hx hy hw hn (by rw [hz]; exact k)
theorem sy_addK {x y : Operand} {ik : IntKind} {m1 m2 z : Int} {s2 : Nat} (hx : f.ev x = some (.int ik m1)) (hy : f.ev y = some (.int ik m2)) (hz : ik.wrap (m1 + m2) = z) (hw : gok ops f g = some true) (hn : Nat.blt d n = true)
    (k : Sy m P ops Q n D w0 M h0 rest ((d, .int ik z) :: f) h H) : Sy m P ops Q n D w0 M h0 (⟨some d, .binOp .add s x y s2, t, p, af, g⟩ :: rest) f h H := sy_add hx hy hw hn (by rw [hz]; exact k)
theorem sy_mulK {x y : Operand} {ik : IntKind} {m1 m2 z : Int} {s2 : Nat} (hx : f.ev x = some (.int ik m1)) (hy : f.ev y = some (.int ik m2)) (hz : ik.wrap (m1 * m2) = z) (hw : gok ops f g = some true) (hn : Nat.blt d n = true)
    (k : Sy m P ops Q n D w0 M h0 rest ((d, .int ik z) :: f) h H) : Sy m P ops Q n D w0 M h0 (⟨some d, .binOp .mul s x y s2, t, p, af, g⟩ :: rest) f h H := sy_mul hx hy hw hn (by rw [hz]; exact k)
theorem sy_convK {x : Operand} {i1 i2 : IntKind} {mm z : Int} {s2 : Nat} (hs : P.underlying s = some (.int i1)) (ht : P.underlying s2 = some (.int i2)) (hx : f.ev x = some (.int i1 mm)) (hz : i2.wrap mm = z) (hw : gok ops f g = some true) (hn : Nat.blt d n = true)
    (k : Sy m P ops Q n D w0 M h0 rest ((d, .int i2 z) :: f) h H) : Sy m P ops Q n D w0 M h0 (⟨some d, .convert s s2 x, t, p, af, g⟩ :: rest) f h H := sy_conv hs ht hx hw hn (by rw [hz]; exact k)
theorem run_quoU {a b z : Int} (h1 : 0 < b) (hz : Int.tdiv a b = z) (hl : 0 ≤ z) (hu : z ≤ 18446744073709551615) (w : World) : (binOp .quo s (.int .u64 a) (.int .u64 b)).run P w = .ok (.int .u64 z) w := by
 have h5 : ¬ b = 0 := by omega
 have h6 : ¬ b = -1 := by omega
 subst hz
 simp [binOp, Op.intDiv, h5, IntWalk.u64_in (Int.tdiv a b) ⟨hl, hu⟩]
theorem sy_quoU {x y : Operand} {m1 m2 z : Int} {s2 : Nat} (hx : f.ev x = some (.int .u64 m1)) (hy : f.ev y = some (.int .u64 m2)) (h1 : 0 < m2) (hz : Int.tdiv m1 m2 = z) (hl : 0 ≤ z) (hu : z ≤ 18446744073709551615) (hw : gok ops f g = some true) (hn : Nat.blt d n = true)
    (k : Sy m P ops Q n D w0 M h0 rest ((d, .int .u64 z) :: f) h H) : Sy m P ops Q n D w0 M h0 (⟨some d, .binOp .quo s x y s2, t, p, af, g⟩ :: rest) f h H :=
 sy_bin hx hy ⟨by simp, by simp⟩ (fun w => run_quoU h1 hz hl hu w) hw hn k
theorem rescT {fn : Func} {t u u2 ty e l : Nat} {fr : Nat × Nat} {b : Nat} {cs vs : List Value} {v2 v3 : Value} {H1 : List Res} (i : Nat) (hr : fn.results = #[.cell t ty, .tmp u, .tmp u2]) (hty : aggB P ty l = true) (hv : f.get t = some (.pointer (some ⟨b, 0, none⟩))) (hu : f.get u = some v2) (hu2 : f.get u2 = some v3)
    (hp : pickR i H = some (.blk b (.cells cs.toArray e fr), H1)) (hc : sliceO 0 l cs = some vs) :
    ∀ a w, Holds n [] f a → St w0 M h0 h H w → (results fn a.tmps).run P w = .ok (.tuple #[.agg vs.toArray, v2, v3]) w := fun a w ha hs => by
 have h1 := ha.get t _ hv
 have h2 := ha.get u v2 hu
 have h2b := ha.get u2 v3 hu2
 have hb : w.heap[b]? = some (.cells cs.toArray e fr) := (hs.swap (pickR_perm hp)).ok _ (List.mem_cons_self)
 obtain ⟨h5, h6⟩ := agg_spec hty w
 obtain ⟨h7, h8⟩ := sliceO_spec hc
 subst h7
 have h3 := run_loadCells_list (P := P) w ⟨b, 0, none⟩ vs (fun j u hj => by
  rw [Addr.add_at]
  have := h8 j u hj
  simp only [Nat.zero_add] at this ⊢
  simp [World.cell?, hb, this])
 simp [results, hr, h1, h2, h2b, asAddr, loadVar, h5, h6, h3]
end
end Go.Proofs.YtanhhihechakhaaGreatDoor.E
namespace Go.Proofs.YtanhhihechakhaaGreatDoor.TokP
open Go.RowKit Go.Proofs.YtanhhihechakhaaGreatDoor.E Go.Proofs.YtanhhihechakhaaGreatDoor.ReplP
structure Ans where
 kind : Int
 str : ByteArray
 num : Int
 quo : Bool
 used : Nat
 err : Option (ByteArray × Int)
def Ans.tok (k : Int) (s : ByteArray) (n : Int) (q : Bool) (used : Nat) : Ans := ⟨k, s, n, q, used, none⟩
def Ans.bad (what : ByteArray) (e : Int) : Ans := ⟨0, ⟨#[]⟩, 0, false, 0, some (what, e)⟩
def errV (T : Nat) : Option (ByteArray × Int) → Value
 | none => .nilIface
 | some x => .iface T (.agg #[.string x.1, .int .i64 x.2])
def ansV (T : Nat) (a : Ans) : Value := .tuple #[.agg #[.int .i64 a.kind, .string a.str, .int .i64 a.num, .bool a.quo, .bool false], .int .i64 (a.used : Int), errV T a.err]
def valN (l : List UInt8) : Nat := l.foldl (fun a c => 10 * a + (c.toNat - 48)) 0
theorem valN_snoc (l : List UInt8) (c : UInt8) : valN (l ++ [c]) = 10 * valN l + (c.toNat - 48) := by simp [valN]
theorem valN_succ {l : List UInt8} {i : Nat} {c : UInt8} (h : l[i]? = some c) : valN (l.take (i + 1)) = 10 * valN (l.take i) + (c.toNat - 48) := by
 rw [List.take_add_one, h]
 exact valN_snoc _ c
theorem foldl_ge : ∀ (l : List UInt8) (a : Nat), a ≤ l.foldl (fun a c => 10 * a + (c.toNat - 48)) a
 | [], a => Nat.le_refl _
 | c :: l, a => by
  rw [List.foldl_cons]
  have := foldl_ge l (10 * a + (c.toNat - 48))
  omega
theorem valN_le (l : List UInt8) (i : Nat) : valN (l.take i) ≤ valN l := by
 have e : l.take i ++ l.drop i = l := List.take_append_drop i l
 have h1 : valN l = (l.drop i).foldl (fun a c => 10 * a + (c.toNat - 48)) (valN (l.take i)) := by
  conv => lhs; rw [← e]
  unfold valN
  rw [List.foldl_append]
 rw [h1]
 exact foldl_ge _ _
theorem run_yes {p : UInt8 → Bool} : ∀ {l : List UInt8} {c : UInt8}, c ∈ l.take (runB p l) → p c = true
 | [], c, h => by simp [runB] at h
 | b :: l, c, h => by
  cases hb : p b with
  | false =>
   rw [runB_no hb] at h
   simp at h
  | true =>
   rw [runB_yes hb, List.take_succ_cons] at h
   rcases List.mem_cons.1 h with rfl | h
   · exact hb
   · exact run_yes h
def dotB : Option UInt8 → Bool
 | none => false
 | some c => (c.toNat : Int) == 46
def digO : Option UInt8 → Bool
 | none => false
 | some c => digitB c
def dottedB (l : List UInt8) (n : Nat) : Bool := (decide (((n : Int) + 1) < (l.length : Int)) && dotB l[n]?) && digO l[n + 1]?
def w1 : ByteArray := ⟨#[97, 32, 110, 117, 109, 98, 101, 114, 32, 119, 105, 116, 104, 32, 97, 32, 112, 111, 105, 110, 116]⟩
def w2 : ByteArray := ⟨#[97, 32, 110, 117, 109, 98, 101, 114]⟩
def figs (l : List UInt8) : List UInt8 := l.take (runB digitB l)
def numA (l : List UInt8) : Ans := if dottedB l (runB digitB l) = true then .bad w1 4 else if 9223372036854775808 < valN (figs l) then .bad w2 2 else .tok 3 ⟨#[]⟩ (IntKind.i64.wrap ((valN (figs l) : Nat) : Int)) false (runB digitB l)
theorem figs_len (l : List UInt8) : (figs l).length = runB digitB l := by
 unfold figs
 rw [List.length_take, Nat.min_eq_left (runB_le _ _)]
theorem figs_dig {l : List UInt8} {i : Nat} {c : UInt8} (h : (figs l)[i]? = some c) : 48 ≤ c.toNat ∧ c.toNat ≤ 57 := by
 have h1 := run_yes (List.mem_of_getElem? h)
 unfold digitB at h1
 rw [Bool.and_eq_true, decide_eq_true_iff, decide_eq_true_iff] at h1
 omega
end Go.Proofs.YtanhhihechakhaaGreatDoor.TokP
set_option linter.unusedVariables false
set_option linter.unusedSimpArgs false
namespace Go.Proofs.YtanhhihechakhaaGreatDoor
open Go.RowKit Go.Proofs.YtanhhihechakhaaGreatDoor.E Go.Proofs.YtanhhihechakhaaGreatDoor.ReplP Go.Proofs.YtanhhihechakhaaGreatDoor.TokP
set_option maxRecDepth 100000 in
theorem number_c (s : ByteArray) (h : Hp) (hs : s.size ≤ 70368744177600) : C0 Tryz.prog 72 [.string s] h (ansV 100 (numA s.data.toList)) := by
 refine enter0 Tryz.func72 rfl rfl rfl (fun w => ?_)
 refine cy_seq ?_
 refine cy_region ?_
 refine sy_alloc zer_79 rfl rfl (fun b2 hb2 hM2 => ?_) (by simp)
 refine sy_assign rfl rfl rfl ?_
 refine sy_assign rfl rfl rfl ?_
 refine sy_nil rfl ?_
 refine ny_next ?_
 refine cy_seq ?_
 refine cy_region ?_
 refine sy_move rfl rfl rfl ?_
 have hrl := runB_le digitB s.data.toList
 have hsz0 : s.data.toList.length = s.size := rfl
 refine sy_call rfl call_65 rfl (row_c s 71 digitB _ (by omega) call_71 (fun c h => digit_c c h)) rfl rfl ?_
 refine sy_assign rfl rfl rfl ?_
 refine sy_nil rfl ?_
 refine ny_next ?_
 refine cy_seq ?_
 refine cy_seq ?_
 refine cy_region ?_
 refine sy_move rfl rfl rfl ?_
 refine sy_addi rfl rfl rfl (by omega) (by omega) rfl rfl ?_
 refine sy_move rfl rfl rfl ?_
 refine sy_len rfl (len_string Tryz.underlying9 _) rfl rfl ?_
 refine sy_cmp rfl rfl rfl rfl rfl ?_
 refine sy_move rfl rfl rfl ?_
 refine sy_cond (d := 17) _ rfl rfl (fun hg17 => ?_) (fun hg17 => ?_)
 · have hsz : s.data.toList.length = s.size := rfl
   have h17 : ((runB digitB s.data.toList) : Int) + 1 < (s.size : Int) := of_decide_eq_true hg17
   obtain ⟨e0, he0⟩ : ∃ e0, s.data.toList[(runB digitB s.data.toList)]? = some e0 := ⟨_, List.getElem?_eq_getElem (by omega)⟩
   obtain ⟨e1, he1⟩ : ∃ e1, s.data.toList[(runB digitB s.data.toList) + 1]? = some e1 := ⟨_, List.getElem?_eq_getElem (by omega)⟩
   refine sy_move rfl rfl rfl ?_
   refine sy_move rfl rfl rfl ?_
   refine sy_idxs (u := e0) Tryz.underlying9 rfl rfl (by omega) (ba_at he0) rfl rfl ?_
   refine sy_cmp rfl rfl rfl rfl rfl ?_
   refine sy_pickT rfl rfl rfl rfl ?_
   refine sy_move rfl rfl rfl ?_
   refine sy_cond (d := 23) _ rfl rfl (fun hg23 => ?_) (fun hg23 => ?_)
   · refine sy_move rfl rfl rfl ?_
     refine sy_move rfl rfl rfl ?_
     refine sy_addi (z := (((runB digitB s.data.toList) + 1 : Nat) : Int)) rfl rfl (by omega) (by omega) (by omega) rfl rfl ?_
     refine sy_idxs (u := e1) Tryz.underlying9 rfl rfl (by omega) (ba_at he1) rfl rfl ?_
     refine sy_call rfl call_71 rfl (digit_c e1 _) rfl rfl ?_
     refine sy_pickT rfl rfl rfl rfl ?_
     refine sy_nil rfl ?_
     refine ny_next ?_
     refine cy_cond rfl (fun hc29 => ?_) (fun hc29 => ?_)
     · have hdot : dottedB s.data.toList (runB digitB s.data.toList) = true := by
        have h7 : decide ((((runB digitB s.data.toList) : Nat) : Int) + 1 < (s.data.toList.length : Int)) = decide ((((runB digitB s.data.toList) : Nat) : Int) + 1 < (s.size : Int)) := rfl
        unfold dottedB
        rw [h7]
        (rw [hg17, he0, he1]; show ((true && ((e0.toNat : Int) == 46)) && digitB e1) = _; first | (rw [hg23, hc29]; rfl) | (rw [hg23]; rfl))
       refine cy_seq ?_
       refine cy_region ?_
       refine sy_build rfl (fun w => bld_79_ w) rfl rfl ?_
       refine sy_call rfl call_49 rfl (bad_c _ _ _) rfl rfl ?_
       refine sy_stl 0 sz_79 rfl rfl rfl rfl rfl rfl rfl rfl ?_
       refine sy_assign rfl rfl rfl ?_
       refine sy_assign rfl rfl rfl ?_
       refine sy_nil rfl ?_
       refine ny_next ?_
       refine cy_ret ?_
       refine ny_thenR ?_
       refine ny_finR (rescT 0 rfl agg_79 rfl rfl rfl rfl rfl) (fun w hs2 => ⟨?_, hs2.frm⟩)
       unfold numA
       rw [if_pos hdot]
       rfl
     · have hdot : dottedB s.data.toList (runB digitB s.data.toList) = false := by
        have h7 : decide ((((runB digitB s.data.toList) : Nat) : Int) + 1 < (s.data.toList.length : Int)) = decide ((((runB digitB s.data.toList) : Nat) : Int) + 1 < (s.size : Int)) := rfl
        unfold dottedB
        rw [h7]
        (rw [hg17, he0, he1]; show ((true && ((e0.toNat : Int) == 46)) && digitB e1) = _; first | (rw [hg23, hc29]; rfl) | (rw [hg23]; rfl))
       refine cy_skip ?_
       refine ny_next ?_
       refine cy_seq ?_
       refine cy_region ?_
       refine sy_assign rfl rfl rfl ?_
       refine sy_nil rfl ?_
       refine ny_next ?_
       refine cy_seq ?_
       refine cy_seq ?_
       refine cy_region ?_
       refine sy_move rfl rfl rfl ?_
       refine sy_move rfl rfl rfl ?_
       refine sy_strto Tryz.underlying9 rfl rfl (by omega) rfl rfl ?_
       refine sy_strbytes Tryz.underlying9 Tryz.underlying40 Tryz.underlying5 rfl rfl rfl (fun b35 c35 h35 hle35 hr35 => ?_) (by simp)
       rw [ext_to] at hr35
       have hfl := figs_len s.data.toList
       have hxs : (s.extract 0 (runB digitB s.data.toList)).size = (runB digitB s.data.toList) := by
        have h9 : (s.extract 0 (runB digitB s.data.toList)).size = (s.extract 0 (runB digitB s.data.toList)).data.toList.length := rfl
        rw [h9, ext_to]
        exact hfl
       rw [hxs]
       refine sy_len rfl (len_slice Tryz.underlying40 _ _ _) rfl rfl ?_
       refine sy_move rfl rfl rfl ?_
       refine sy_nil rfl ?_
       refine ny_next ?_
       refine cy_block ?_
       refine cy_loopK (ι := Nat) [2, 5, 35, 36] rfl (fun i => i ≤ (runB digitB s.data.toList) ∧ valN ((figs s.data.toList).take i) ≤ 9223372036854775808) (fun i => (runB digitB s.data.toList) - i) (fun i => [(6, .int .u64 ((valN ((figs s.data.toList).take i) : Nat) : Int)), (37, .int .i64 (i : Int))]) (fun i => h35) (fun i => [.blk b2 (.cells [.int .i64 0, .string ⟨#[]⟩, .int .i64 0, .bool false, .bool false].toArray 79 (0, 0))]) 0 [0] ⟨Nat.zero_le _, by simp [valN]⟩ ⟨rfl, rfl, trivial⟩ rfl rfl ?_
       rintro i ⟨hI, hpre⟩
       refine cy_seq ?_
       refine cy_region ?_
       refine sy_cmp rfl rfl rfl rfl rfl ?_
       refine sy_nil rfl ?_
       refine ny_next ?_
       refine cy_seq ?_
       refine cy_cond rfl (fun hc38 => ?_) (fun hc38 => ?_)
       · have hlti : i < (runB digitB s.data.toList) := by have := of_decide_eq_true hc38; omega
         refine cy_skip ?_
         refine ny_next ?_
         refine cy_seq ?_
         refine cy_block ?_
         refine cy_seq ?_
         refine cy_region ?_
         refine sy_idxR (fc := byteC) (es := (figs s.data.toList)) els_40 rfl rfl hr35 hfl (by omega) rfl rfl (fun e39 b39 o39 he39 hA39 hc39 => ?_)
         refine sy_ldh one_5 rfl (hc39 0 _ rfl) rfl rfl ?_
         have hdg := figs_dig he39
         refine sy_assign rfl rfl rfl ?_
         refine sy_nil rfl ?_
         refine ny_next ?_
         refine cy_seq ?_
         refine cy_region ?_
         refine sy_move rfl rfl rfl ?_
         refine sy_subK (z := ((e39.toNat - 48 : Nat) : Int)) rfl rfl (by rw [IntWalk.u8_in _ ⟨by omega, by omega⟩]; omega) rfl rfl ?_
         refine sy_convK (z := ((e39.toNat - 48 : Nat) : Int)) Tryz.underlying5 Tryz.underlying121 rfl (by rw [IntWalk.u64_in _ ⟨by omega, by omega⟩]) rfl rfl ?_
         refine sy_assign rfl rfl rfl ?_
         refine sy_nil rfl ?_
         refine ny_next ?_
         refine cy_seq ?_
         refine cy_seq ?_
         refine cy_region ?_
         refine sy_move rfl rfl rfl ?_
         refine sy_move rfl rfl rfl ?_
         refine sy_subK (z := ((9223372036854775808 - (e39.toNat - 48) : Nat) : Int)) rfl rfl (by rw [IntWalk.u64_in _ ⟨by omega, by omega⟩]; omega) rfl rfl ?_
         refine sy_quoU (z := (((9223372036854775808 - (e39.toNat - 48)) / 10 : Nat) : Int)) rfl rfl (by decide) rfl (by omega) (by omega) rfl rfl ?_
         refine sy_cmp rfl rfl rfl rfl rfl ?_
         refine sy_nil rfl ?_
         refine ny_next ?_
         refine cy_cond rfl (fun hc48 => ?_) (fun hc48 => ?_)
         · have hbig : 9223372036854775808 < valN (figs s.data.toList) := by
            have h9 := of_decide_eq_true hc48
            have h8 := valN_le (figs s.data.toList) (i + 1)
            rw [valN_succ he39] at h8
            omega
           refine cy_seq ?_
           refine cy_region ?_
           refine sy_build rfl (fun w => bld_79_ w) rfl rfl ?_
           refine sy_call rfl call_49 rfl (bad_c _ _ _) rfl rfl ?_
           refine sy_stl 0 sz_79 rfl rfl rfl rfl rfl rfl rfl rfl ?_
           refine sy_assign rfl rfl rfl ?_
           refine sy_assign rfl rfl rfl ?_
           refine sy_nil rfl ?_
           refine ny_next ?_
           refine cy_ret ?_
           refine ny_thenR ?_
           refine ny_blockR ?_
           refine ny_thenR ?_
           refine ny_thenR ?_
           refine ny_blockR ?_
           refine ny_thenR ?_
           refine ny_finR (rescT 0 rfl agg_79 rfl rfl rfl rfl rfl) (fun w hs2 => ⟨?_, hs2.frm⟩)
           unfold numA
           rw [hdot, if_neg (by decide), if_pos hbig]
           rfl
         · have hok := of_decide_eq_false hc48
           refine cy_skip ?_
           refine ny_next ?_
           refine cy_region ?_
           refine sy_move rfl rfl rfl ?_
           refine sy_mulK (z := ((10 * valN ((figs s.data.toList).take i) : Nat) : Int)) rfl rfl (by rw [IntWalk.u64_in _ ⟨by omega, by omega⟩]; omega) rfl rfl ?_
           refine sy_move rfl rfl rfl ?_
           refine sy_addK (z := ((10 * valN ((figs s.data.toList).take i) + (e39.toNat - 48) : Nat) : Int)) rfl rfl (by rw [IntWalk.u64_in _ ⟨by omega, by omega⟩]; omega) rfl rfl ?_
           refine sy_assign rfl rfl rfl ?_
           refine sy_nil rfl ?_
           refine ny_blockN ?_
           refine ny_next ?_
           refine cy_region ?_
           refine sy_addi (z := ((i + 1 : Nat) : Int)) rfl rfl (by omega) (by omega) (by omega) rfl rfl ?_
           refine sy_move rfl rfl rfl ?_
           refine sy_nil rfl ?_
           refine ny_roundK [2, 5, 35, 36] (i + 1) [0] ⟨by omega, by rw [valN_succ he39]; omega⟩ (show (runB digitB s.data.toList) - (i + 1) < (runB digitB s.data.toList) - i by omega) rfl ⟨congrArg (fun z : Nat => some (Value.int .u64 (z : Int))) (valN_succ he39).symm, rfl, trivial⟩ rfl rfl
       · have hie : i = (runB digitB s.data.toList) := by have := of_decide_eq_false hc38; omega
         have htk : (figs s.data.toList).take i = (figs s.data.toList) := List.take_of_length_le (by omega)
         rw [htk] at hpre ⊢
         refine cy_exit ?_
         refine ny_thenE ?_
         refine ny_thenE ?_
         refine ny_blockX ?_
         refine ny_next ?_
         refine cy_seq ?_
         refine cy_region ?_
         refine sy_move rfl rfl rfl ?_
         refine sy_convK Tryz.underlying121 Tryz.underlying2 rfl rfl rfl rfl ?_
         refine sy_build rfl (fun w => bld_79_0x2 w) rfl rfl ?_
         refine sy_move rfl rfl rfl ?_
         refine sy_stl 0 sz_79 rfl rfl rfl rfl rfl rfl rfl rfl ?_
         refine sy_assign rfl rfl rfl ?_
         refine sy_assign rfl rfl rfl ?_
         refine sy_nil rfl ?_
         refine ny_next ?_
         refine cy_ret ?_
         refine ny_finR (rescT 0 rfl agg_79 rfl rfl rfl rfl rfl) (fun w hs2 => ⟨?_, hs2.frm⟩)
         unfold numA
         rw [hdot, if_neg (by decide), if_neg (by omega)]
         rfl
   · refine sy_skip rfl rfl rfl ?_
     refine sy_skip rfl rfl rfl ?_
     refine sy_skip rfl rfl rfl ?_
     refine sy_skip rfl rfl rfl ?_
     refine sy_skip rfl rfl rfl ?_
     refine sy_pickF rfl rfl rfl rfl ?_
     refine sy_nil rfl ?_
     refine ny_next ?_
     refine cy_condF rfl ?_
     have hdot : dottedB s.data.toList (runB digitB s.data.toList) = false := by
      have h7 : decide ((((runB digitB s.data.toList) : Nat) : Int) + 1 < (s.data.toList.length : Int)) = decide ((((runB digitB s.data.toList) : Nat) : Int) + 1 < (s.size : Int)) := rfl
      unfold dottedB
      rw [h7]
      (rw [hg17, he0, he1]; show ((true && ((e0.toNat : Int) == 46)) && digitB e1) = _; first | (rw [hg23, hc29]; rfl) | (rw [hg23]; rfl))
     refine cy_skip ?_
     refine ny_next ?_
     refine cy_seq ?_
     refine cy_region ?_
     refine sy_assign rfl rfl rfl ?_
     refine sy_nil rfl ?_
     refine ny_next ?_
     refine cy_seq ?_
     refine cy_seq ?_
     refine cy_region ?_
     refine sy_move rfl rfl rfl ?_
     refine sy_move rfl rfl rfl ?_
     refine sy_strto Tryz.underlying9 rfl rfl (by omega) rfl rfl ?_
     refine sy_strbytes Tryz.underlying9 Tryz.underlying40 Tryz.underlying5 rfl rfl rfl (fun b35 c35 h35 hle35 hr35 => ?_) (by simp)
     rw [ext_to] at hr35
     have hfl := figs_len s.data.toList
     have hxs : (s.extract 0 (runB digitB s.data.toList)).size = (runB digitB s.data.toList) := by
      have h9 : (s.extract 0 (runB digitB s.data.toList)).size = (s.extract 0 (runB digitB s.data.toList)).data.toList.length := rfl
      rw [h9, ext_to]
      exact hfl
     rw [hxs]
     refine sy_len rfl (len_slice Tryz.underlying40 _ _ _) rfl rfl ?_
     refine sy_move rfl rfl rfl ?_
     refine sy_nil rfl ?_
     refine ny_next ?_
     refine cy_block ?_
     refine cy_loopK (ι := Nat) [2, 5, 35, 36] rfl (fun i => i ≤ (runB digitB s.data.toList) ∧ valN ((figs s.data.toList).take i) ≤ 9223372036854775808) (fun i => (runB digitB s.data.toList) - i) (fun i => [(6, .int .u64 ((valN ((figs s.data.toList).take i) : Nat) : Int)), (37, .int .i64 (i : Int))]) (fun i => h35) (fun i => [.blk b2 (.cells [.int .i64 0, .string ⟨#[]⟩, .int .i64 0, .bool false, .bool false].toArray 79 (0, 0))]) 0 [0] ⟨Nat.zero_le _, by simp [valN]⟩ ⟨rfl, rfl, trivial⟩ rfl rfl ?_
     rintro i ⟨hI, hpre⟩
     refine cy_seq ?_
     refine cy_region ?_
     refine sy_cmp rfl rfl rfl rfl rfl ?_
     refine sy_nil rfl ?_
     refine ny_next ?_
     refine cy_seq ?_
     refine cy_cond rfl (fun hc38 => ?_) (fun hc38 => ?_)
     · have hlti : i < (runB digitB s.data.toList) := by have := of_decide_eq_true hc38; omega
       refine cy_skip ?_
       refine ny_next ?_
       refine cy_seq ?_
       refine cy_block ?_
       refine cy_seq ?_
       refine cy_region ?_
       refine sy_idxR (fc := byteC) (es := (figs s.data.toList)) els_40 rfl rfl hr35 hfl (by omega) rfl rfl (fun e39 b39 o39 he39 hA39 hc39 => ?_)
       refine sy_ldh one_5 rfl (hc39 0 _ rfl) rfl rfl ?_
       have hdg := figs_dig he39
       refine sy_assign rfl rfl rfl ?_
       refine sy_nil rfl ?_
       refine ny_next ?_
       refine cy_seq ?_
       refine cy_region ?_
       refine sy_move rfl rfl rfl ?_
       refine sy_subK (z := ((e39.toNat - 48 : Nat) : Int)) rfl rfl (by rw [IntWalk.u8_in _ ⟨by omega, by omega⟩]; omega) rfl rfl ?_
       refine sy_convK (z := ((e39.toNat - 48 : Nat) : Int)) Tryz.underlying5 Tryz.underlying121 rfl (by rw [IntWalk.u64_in _ ⟨by omega, by omega⟩]) rfl rfl ?_
       refine sy_assign rfl rfl rfl ?_
       refine sy_nil rfl ?_
       refine ny_next ?_
       refine cy_seq ?_
       refine cy_seq ?_
       refine cy_region ?_
       refine sy_move rfl rfl rfl ?_
       refine sy_move rfl rfl rfl ?_
       refine sy_subK (z := ((9223372036854775808 - (e39.toNat - 48) : Nat) : Int)) rfl rfl (by rw [IntWalk.u64_in _ ⟨by omega, by omega⟩]; omega) rfl rfl ?_
       refine sy_quoU (z := (((9223372036854775808 - (e39.toNat - 48)) / 10 : Nat) : Int)) rfl rfl (by decide) rfl (by omega) (by omega) rfl rfl ?_
       refine sy_cmp rfl rfl rfl rfl rfl ?_
       refine sy_nil rfl ?_
       refine ny_next ?_
       refine cy_cond rfl (fun hc48 => ?_) (fun hc48 => ?_)
       · have hbig : 9223372036854775808 < valN (figs s.data.toList) := by
          have h9 := of_decide_eq_true hc48
          have h8 := valN_le (figs s.data.toList) (i + 1)
          rw [valN_succ he39] at h8
          omega
         refine cy_seq ?_
         refine cy_region ?_
         refine sy_build rfl (fun w => bld_79_ w) rfl rfl ?_
         refine sy_call rfl call_49 rfl (bad_c _ _ _) rfl rfl ?_
         refine sy_stl 0 sz_79 rfl rfl rfl rfl rfl rfl rfl rfl ?_
         refine sy_assign rfl rfl rfl ?_
         refine sy_assign rfl rfl rfl ?_
         refine sy_nil rfl ?_
         refine ny_next ?_
         refine cy_ret ?_
         refine ny_thenR ?_
         refine ny_blockR ?_
         refine ny_thenR ?_
         refine ny_thenR ?_
         refine ny_blockR ?_
         refine ny_thenR ?_
         refine ny_finR (rescT 0 rfl agg_79 rfl rfl rfl rfl rfl) (fun w hs2 => ⟨?_, hs2.frm⟩)
         unfold numA
         rw [hdot, if_neg (by decide), if_pos hbig]
         rfl
       · have hok := of_decide_eq_false hc48
         refine cy_skip ?_
         refine ny_next ?_
         refine cy_region ?_
         refine sy_move rfl rfl rfl ?_
         refine sy_mulK (z := ((10 * valN ((figs s.data.toList).take i) : Nat) : Int)) rfl rfl (by rw [IntWalk.u64_in _ ⟨by omega, by omega⟩]; omega) rfl rfl ?_
         refine sy_move rfl rfl rfl ?_
         refine sy_addK (z := ((10 * valN ((figs s.data.toList).take i) + (e39.toNat - 48) : Nat) : Int)) rfl rfl (by rw [IntWalk.u64_in _ ⟨by omega, by omega⟩]; omega) rfl rfl ?_
         refine sy_assign rfl rfl rfl ?_
         refine sy_nil rfl ?_
         refine ny_blockN ?_
         refine ny_next ?_
         refine cy_region ?_
         refine sy_addi (z := ((i + 1 : Nat) : Int)) rfl rfl (by omega) (by omega) (by omega) rfl rfl ?_
         refine sy_move rfl rfl rfl ?_
         refine sy_nil rfl ?_
         refine ny_roundK [2, 5, 35, 36] (i + 1) [0] ⟨by omega, by rw [valN_succ he39]; omega⟩ (show (runB digitB s.data.toList) - (i + 1) < (runB digitB s.data.toList) - i by omega) rfl ⟨congrArg (fun z : Nat => some (Value.int .u64 (z : Int))) (valN_succ he39).symm, rfl, trivial⟩ rfl rfl
     · have hie : i = (runB digitB s.data.toList) := by have := of_decide_eq_false hc38; omega
       have htk : (figs s.data.toList).take i = (figs s.data.toList) := List.take_of_length_le (by omega)
       rw [htk] at hpre ⊢
       refine cy_exit ?_
       refine ny_thenE ?_
       refine ny_thenE ?_
       refine ny_blockX ?_
       refine ny_next ?_
       refine cy_seq ?_
       refine cy_region ?_
       refine sy_move rfl rfl rfl ?_
       refine sy_convK Tryz.underlying121 Tryz.underlying2 rfl rfl rfl rfl ?_
       refine sy_build rfl (fun w => bld_79_0x2 w) rfl rfl ?_
       refine sy_move rfl rfl rfl ?_
       refine sy_stl 0 sz_79 rfl rfl rfl rfl rfl rfl rfl rfl ?_
       refine sy_assign rfl rfl rfl ?_
       refine sy_assign rfl rfl rfl ?_
       refine sy_nil rfl ?_
       refine ny_next ?_
       refine cy_ret ?_
       refine ny_finR (rescT 0 rfl agg_79 rfl rfl rfl rfl rfl) (fun w hs2 => ⟨?_, hs2.frm⟩)
       unfold numA
       rw [hdot, if_neg (by decide), if_neg (by omega)]
       rfl
 · refine sy_skip rfl rfl rfl ?_
   refine sy_skip rfl rfl rfl ?_
   refine sy_skip rfl rfl rfl ?_
   refine sy_skip rfl rfl rfl ?_
   refine sy_pickF rfl rfl rfl rfl ?_
   refine sy_move rfl rfl rfl ?_
   refine sy_skip rfl rfl rfl ?_
   refine sy_skip rfl rfl rfl ?_
   refine sy_skip rfl rfl rfl ?_
   refine sy_skip rfl rfl rfl ?_
   refine sy_skip rfl rfl rfl ?_
   refine sy_pickF rfl rfl rfl rfl ?_
   refine sy_nil rfl ?_
   refine ny_next ?_
   refine cy_condF rfl ?_
   have hdot : dottedB s.data.toList (runB digitB s.data.toList) = false := by
    have h7 : decide ((((runB digitB s.data.toList) : Nat) : Int) + 1 < (s.data.toList.length : Int)) = decide ((((runB digitB s.data.toList) : Nat) : Int) + 1 < (s.size : Int)) := rfl
    unfold dottedB
    rw [h7]
    (rw [hg17]; rfl)
   refine cy_skip ?_
   refine ny_next ?_
   refine cy_seq ?_
   refine cy_region ?_
   refine sy_assign rfl rfl rfl ?_
   refine sy_nil rfl ?_
   refine ny_next ?_
   refine cy_seq ?_
   refine cy_seq ?_
   refine cy_region ?_
   refine sy_move rfl rfl rfl ?_
   refine sy_move rfl rfl rfl ?_
   refine sy_strto Tryz.underlying9 rfl rfl (by omega) rfl rfl ?_
   refine sy_strbytes Tryz.underlying9 Tryz.underlying40 Tryz.underlying5 rfl rfl rfl (fun b35 c35 h35 hle35 hr35 => ?_) (by simp)
   rw [ext_to] at hr35
   have hfl := figs_len s.data.toList
   have hxs : (s.extract 0 (runB digitB s.data.toList)).size = (runB digitB s.data.toList) := by
    have h9 : (s.extract 0 (runB digitB s.data.toList)).size = (s.extract 0 (runB digitB s.data.toList)).data.toList.length := rfl
    rw [h9, ext_to]
    exact hfl
   rw [hxs]
   refine sy_len rfl (len_slice Tryz.underlying40 _ _ _) rfl rfl ?_
   refine sy_move rfl rfl rfl ?_
   refine sy_nil rfl ?_
   refine ny_next ?_
   refine cy_block ?_
   refine cy_loopK (ι := Nat) [2, 5, 35, 36] rfl (fun i => i ≤ (runB digitB s.data.toList) ∧ valN ((figs s.data.toList).take i) ≤ 9223372036854775808) (fun i => (runB digitB s.data.toList) - i) (fun i => [(6, .int .u64 ((valN ((figs s.data.toList).take i) : Nat) : Int)), (37, .int .i64 (i : Int))]) (fun i => h35) (fun i => [.blk b2 (.cells [.int .i64 0, .string ⟨#[]⟩, .int .i64 0, .bool false, .bool false].toArray 79 (0, 0))]) 0 [0] ⟨Nat.zero_le _, by simp [valN]⟩ ⟨rfl, rfl, trivial⟩ rfl rfl ?_
   rintro i ⟨hI, hpre⟩
   refine cy_seq ?_
   refine cy_region ?_
   refine sy_cmp rfl rfl rfl rfl rfl ?_
   refine sy_nil rfl ?_
   refine ny_next ?_
   refine cy_seq ?_
   refine cy_cond rfl (fun hc38 => ?_) (fun hc38 => ?_)
   · have hlti : i < (runB digitB s.data.toList) := by have := of_decide_eq_true hc38; omega
     refine cy_skip ?_
     refine ny_next ?_
     refine cy_seq ?_
     refine cy_block ?_
     refine cy_seq ?_
     refine cy_region ?_
     refine sy_idxR (fc := byteC) (es := (figs s.data.toList)) els_40 rfl rfl hr35 hfl (by omega) rfl rfl (fun e39 b39 o39 he39 hA39 hc39 => ?_)
     refine sy_ldh one_5 rfl (hc39 0 _ rfl) rfl rfl ?_
     have hdg := figs_dig he39
     refine sy_assign rfl rfl rfl ?_
     refine sy_nil rfl ?_
     refine ny_next ?_
     refine cy_seq ?_
     refine cy_region ?_
     refine sy_move rfl rfl rfl ?_
     refine sy_subK (z := ((e39.toNat - 48 : Nat) : Int)) rfl rfl (by rw [IntWalk.u8_in _ ⟨by omega, by omega⟩]; omega) rfl rfl ?_
     refine sy_convK (z := ((e39.toNat - 48 : Nat) : Int)) Tryz.underlying5 Tryz.underlying121 rfl (by rw [IntWalk.u64_in _ ⟨by omega, by omega⟩]) rfl rfl ?_
     refine sy_assign rfl rfl rfl ?_
     refine sy_nil rfl ?_
     refine ny_next ?_
     refine cy_seq ?_
     refine cy_seq ?_
     refine cy_region ?_
     refine sy_move rfl rfl rfl ?_
     refine sy_move rfl rfl rfl ?_
     refine sy_subK (z := ((9223372036854775808 - (e39.toNat - 48) : Nat) : Int)) rfl rfl (by rw [IntWalk.u64_in _ ⟨by omega, by omega⟩]; omega) rfl rfl ?_
     refine sy_quoU (z := (((9223372036854775808 - (e39.toNat - 48)) / 10 : Nat) : Int)) rfl rfl (by decide) rfl (by omega) (by omega) rfl rfl ?_
     refine sy_cmp rfl rfl rfl rfl rfl ?_
     refine sy_nil rfl ?_
     refine ny_next ?_
     refine cy_cond rfl (fun hc48 => ?_) (fun hc48 => ?_)
     · have hbig : 9223372036854775808 < valN (figs s.data.toList) := by
        have h9 := of_decide_eq_true hc48
        have h8 := valN_le (figs s.data.toList) (i + 1)
        rw [valN_succ he39] at h8
        omega
       refine cy_seq ?_
       refine cy_region ?_
       refine sy_build rfl (fun w => bld_79_ w) rfl rfl ?_
       refine sy_call rfl call_49 rfl (bad_c _ _ _) rfl rfl ?_
       refine sy_stl 0 sz_79 rfl rfl rfl rfl rfl rfl rfl rfl ?_
       refine sy_assign rfl rfl rfl ?_
       refine sy_assign rfl rfl rfl ?_
       refine sy_nil rfl ?_
       refine ny_next ?_
       refine cy_ret ?_
       refine ny_thenR ?_
       refine ny_blockR ?_
       refine ny_thenR ?_
       refine ny_thenR ?_
       refine ny_blockR ?_
       refine ny_thenR ?_
       refine ny_finR (rescT 0 rfl agg_79 rfl rfl rfl rfl rfl) (fun w hs2 => ⟨?_, hs2.frm⟩)
       unfold numA
       rw [hdot, if_neg (by decide), if_pos hbig]
       rfl
     · have hok := of_decide_eq_false hc48
       refine cy_skip ?_
       refine ny_next ?_
       refine cy_region ?_
       refine sy_move rfl rfl rfl ?_
       refine sy_mulK (z := ((10 * valN ((figs s.data.toList).take i) : Nat) : Int)) rfl rfl (by rw [IntWalk.u64_in _ ⟨by omega, by omega⟩]; omega) rfl rfl ?_
       refine sy_move rfl rfl rfl ?_
       refine sy_addK (z := ((10 * valN ((figs s.data.toList).take i) + (e39.toNat - 48) : Nat) : Int)) rfl rfl (by rw [IntWalk.u64_in _ ⟨by omega, by omega⟩]; omega) rfl rfl ?_
       refine sy_assign rfl rfl rfl ?_
       refine sy_nil rfl ?_
       refine ny_blockN ?_
       refine ny_next ?_
       refine cy_region ?_
       refine sy_addi (z := ((i + 1 : Nat) : Int)) rfl rfl (by omega) (by omega) (by omega) rfl rfl ?_
       refine sy_move rfl rfl rfl ?_
       refine sy_nil rfl ?_
       refine ny_roundK [2, 5, 35, 36] (i + 1) [0] ⟨by omega, by rw [valN_succ he39]; omega⟩ (show (runB digitB s.data.toList) - (i + 1) < (runB digitB s.data.toList) - i by omega) rfl ⟨congrArg (fun z : Nat => some (Value.int .u64 (z : Int))) (valN_succ he39).symm, rfl, trivial⟩ rfl rfl
   · have hie : i = (runB digitB s.data.toList) := by have := of_decide_eq_false hc38; omega
     have htk : (figs s.data.toList).take i = (figs s.data.toList) := List.take_of_length_le (by omega)
     rw [htk] at hpre ⊢
     refine cy_exit ?_
     refine ny_thenE ?_
     refine ny_thenE ?_
     refine ny_blockX ?_
     refine ny_next ?_
     refine cy_seq ?_
     refine cy_region ?_
     refine sy_move rfl rfl rfl ?_
     refine sy_convK Tryz.underlying121 Tryz.underlying2 rfl rfl rfl rfl ?_
     refine sy_build rfl (fun w => bld_79_0x2 w) rfl rfl ?_
     refine sy_move rfl rfl rfl ?_
     refine sy_stl 0 sz_79 rfl rfl rfl rfl rfl rfl rfl rfl ?_
     refine sy_assign rfl rfl rfl ?_
     refine sy_assign rfl rfl rfl ?_
     refine sy_nil rfl ?_
     refine ny_next ?_
     refine cy_ret ?_
     refine ny_finR (rescT 0 rfl agg_79 rfl rfl rfl rfl rfl) (fun w hs2 => ⟨?_, hs2.frm⟩)
     unfold numA
     rw [hdot, if_neg (by decide), if_neg (by omega)]
     rfl
end Go.Proofs.YtanhhihechakhaaGreatDoor
set_option linter.unusedVariables false
set_option linter.unusedSimpArgs false
namespace Go.Proofs.YtanhhihechakhaaGreatDoor.TokP
open Go.RowKit Go.Proofs.YtanhhihechakhaaGreatDoor.E Go.Proofs.YtanhhihechakhaaGreatDoor.ReplP
def q1 : ByteArray := ⟨#[97, 32, 98, 97, 99, 107, 115, 108, 97, 115, 104]⟩
def q2 : ByteArray := ⟨#[97, 32, 98, 121, 116, 101, 32, 111, 102, 32, 97, 32, 110, 97, 109, 101]⟩
def q3 : ByteArray := ⟨#[97, 32, 110, 97, 109, 101, 32, 119, 105, 116, 104, 111, 117, 116, 32, 97, 110, 32, 101, 110, 100]⟩
def quoL : List UInt8 → List UInt8 → Nat → Ans
 | [], _, _ => .bad q3 4
 | [c], out, k => if c = 39 then .tok 1 ⟨out.toArray⟩ 0 true (k + 1) else if c = 92 then .bad q2 4 else if (c.toNat : Int) < 32 then .bad q2 4 else .bad q3 4
 | c :: d :: t, out, k => if c = 39 then (if d = 39 then quoL t (out ++ [39]) (k + 2) else .tok 1 ⟨out.toArray⟩ 0 true (k + 1))
     else if c = 92 then (match esc d with | some x => quoL t (out ++ [x]) (k + 2) | none => .bad q1 4)
     else if (c.toNat : Int) < 32 then .bad q2 4 else quoL (d :: t) (out ++ [c]) (k + 1)
section
variable {l out : List UInt8} {i : Nat} {c d : UInt8}
theorem quo_none (h : l.length ≤ i) : quoL (l.drop i) out i = .bad q3 4 := by rw [List.drop_eq_nil_of_le h, quoL]
theorem drop_two (h1 : l[i]? = some c) (h2 : l[i + 1]? = some d) : l.drop i = c :: d :: l.drop (i + 2) := by rw [drop_at h1, drop_at h2]
theorem drop_one (h1 : l[i]? = some c) (h2 : ¬ i + 1 < l.length) : l.drop i = [c] := by rw [drop_at h1, List.drop_eq_nil_of_le (by omega)]
theorem quo_mark (h1 : l[i]? = some 39) (h2 : l[i + 1]? = some 39) : quoL (l.drop (i + 2)) (out ++ [39]) (i + 2) = quoL (l.drop i) out i := by
 rw [drop_two h1 h2, quoL, if_pos rfl, if_pos rfl]
theorem quo_end (h1 : l[i]? = some 39) (h2 : ¬ l[i + 1]? = some 39) : quoL (l.drop i) out i = .tok 1 ⟨out.toArray⟩ 0 true (i + 1) := by
 by_cases hl : i + 1 < l.length
 · have h3 : l[i + 1]? = some (l[i + 1]'hl) := List.getElem?_eq_getElem hl
   rw [drop_two h1 h3, quoL, if_pos rfl, if_neg (fun h => h2 (by rw [h3, h]))]
 · rw [drop_one h1 hl, quoL, if_pos rfl]
theorem quo_esc {x : UInt8} (h1 : l[i]? = some 92) (h2 : l[i + 1]? = some d) (h3 : esc d = some x) : quoL (l.drop (i + 2)) (out ++ [x]) (i + 2) = quoL (l.drop i) out i := by
 rw [drop_two h1 h2, quoL, if_neg (by decide), if_pos rfl, h3]
theorem quo_bad (h1 : l[i]? = some 92) (h2 : l[i + 1]? = some d) (h3 : esc d = none) : quoL (l.drop i) out i = .bad q1 4 := by
 rw [drop_two h1 h2, quoL, if_neg (by decide), if_pos rfl, h3]
theorem quo_slash (h1 : l[i]? = some 92) (h2 : ¬ i + 1 < l.length) : quoL (l.drop i) out i = .bad q2 4 := by
 rw [drop_one h1 h2, quoL, if_neg (by decide), if_pos rfl]
theorem quo_low (h1 : l[i]? = some c) (h39 : ¬ c = 39) (h92 : ¬ c = 92) (h : (c.toNat : Int) < 32) : quoL (l.drop i) out i = .bad q2 4 := by
 by_cases hl : i + 1 < l.length
 · rw [drop_two h1 (List.getElem?_eq_getElem hl), quoL, if_neg h39, if_neg h92, if_pos h]
 · rw [drop_one h1 hl, quoL, if_neg h39, if_neg h92, if_pos h]
theorem quo_byte (h1 : l[i]? = some c) (h39 : ¬ c = 39) (h92 : ¬ c = 92) (h : ¬ (c.toNat : Int) < 32) : quoL (l.drop (i + 1)) (out ++ [c]) (i + 1) = quoL (l.drop i) out i := by
 by_cases hl : i + 1 < l.length
 · have h3 : l[i + 1]? = some (l[i + 1]'hl) := List.getElem?_eq_getElem hl
   rw [drop_two h1 h3, quoL, if_neg h39, if_neg h92, if_neg h, drop_at h3]
 · rw [drop_one h1 hl, quoL, if_neg h39, if_neg h92, if_neg h, List.drop_eq_nil_of_le (by omega), quoL]
theorem quo_markC (h1 : l[i]? = some c) (h39 : c = 39) (h2 : l[i + 1]? = some d) (h39b : d = 39) : quoL (l.drop (i + 2)) (out ++ [c]) (i + 2) = quoL (l.drop i) out i := by
 subst h39 h39b
 exact quo_mark h1 h2
theorem quo_endC (h1 : l[i]? = some c) (h39 : c = 39) (h2 : ∀ d, l[i + 1]? = some d → ¬ d = 39) : quoL (l.drop i) out i = .tok 1 ⟨out.toArray⟩ 0 true (i + 1) := by
 subst h39
 exact quo_end h1 (fun h => h2 39 h rfl)
theorem quo_escC {x : UInt8} (h1 : l[i]? = some c) (h92 : c = 92) (h2 : l[i + 1]? = some d) (h3 : esc d = some x) : quoL (l.drop (i + 2)) (out ++ [x]) (i + 2) = quoL (l.drop i) out i := by
 subst h92
 exact quo_esc h1 h2 h3
theorem quo_badC (h1 : l[i]? = some c) (h92 : c = 92) (h2 : l[i + 1]? = some d) (h3 : esc d = none) : quoL (l.drop i) out i = .bad q1 4 := by
 subst h92
 exact quo_bad h1 h2 h3
theorem quo_slashC (h1 : l[i]? = some c) (h92 : c = 92) (h2 : ¬ i + 1 < l.length) : quoL (l.drop i) out i = .bad q2 4 := by
 subst h92
 exact quo_slash h1 h2
end
def quoA (l : List UInt8) : Ans := quoL (l.drop 1) [] 1
end Go.Proofs.YtanhhihechakhaaGreatDoor.TokP
set_option linter.unusedVariables false
set_option linter.unusedSimpArgs false
namespace Go.Proofs.YtanhhihechakhaaGreatDoor
open Go.RowKit Go.Proofs.YtanhhihechakhaaGreatDoor.E Go.Proofs.YtanhhihechakhaaGreatDoor.ReplP Go.Proofs.YtanhhihechakhaaGreatDoor.TokP
set_option maxRecDepth 100000 in
theorem quoted_c (s : ByteArray) (h : Hp) (hs : s.size ≤ 70368744177600) (h0 : 1 ≤ s.size) : C0 Tryz.prog 73 [.string s] h (ansV 100 (quoA s.data.toList)) := by
 refine enter0 Tryz.func73 rfl rfl rfl (fun w => ?_)
 refine cy_seq ?_
 refine cy_region ?_
 refine sy_alloc zer_79 rfl rfl (fun b2 hb2 hM2 => ?_) (by simp)
 refine sy_assign rfl rfl rfl ?_
 refine sy_assign rfl rfl rfl ?_
 refine sy_nil rfl ?_
 refine ny_next ?_
 refine cy_seq ?_
 refine cy_region ?_
 refine sy_assign rfl rfl rfl ?_
 refine sy_nil rfl ?_
 refine ny_next ?_
 refine cy_seq ?_
 refine cy_seq ?_
 refine cy_region ?_
 refine sy_assign rfl rfl rfl ?_
 refine sy_nil rfl ?_
 refine ny_next ?_
 refine cy_block ?_
 refine cy_nilRow 5 1 ?_
 refine cy_loopK (ι := Nat × List UInt8 × Value) [0, 2] rfl (fun z => z.1 ≤ s.size ∧ z.2.1.length ≤ z.1 ∧ quoL (s.data.toList.drop z.1) z.2.1 z.1 = quoA s.data.toList) (fun z => s.size - z.1) (fun z => [(5, z.2.2), (6, .int .i64 (z.1 : Int))]) (fun z => h) (fun z => [Res.row z.2.2 5 1 (z.2.1).length ((z.2.1).map bv), .blk b2 (.cells [.int .i64 0, .string ⟨#[]⟩, .int .i64 0, .bool false, .bool false].toArray 79 (0, 0))]) (1, [], .slice none 0 0) [0, 0] ⟨h0, Nat.zero_le _, rfl⟩ ⟨rfl, rfl, trivial⟩ rfl rfl ?_
 rintro ⟨i, out, v5⟩ ⟨hI, hol, hpre⟩
 simp only at hI hol hpre ⊢
 refine cy_seq ?_
 refine cy_seq ?_
 refine cy_region ?_
 refine sy_move rfl rfl rfl ?_
 refine sy_move rfl rfl rfl ?_
 refine sy_len rfl (len_string Tryz.underlying9 _) rfl rfl ?_
 refine sy_cmp rfl rfl rfl rfl rfl ?_
 refine sy_nil rfl ?_
 refine ny_next ?_
 refine cy_cond rfl (fun hc14 => ?_) (fun hc14 => ?_)
 · have hlti : i < s.size := by have := of_decide_eq_true hc14; omega
   obtain ⟨e0, he0⟩ : ∃ e0, s.data.toList[i]? = some e0 := ⟨_, List.getElem?_eq_getElem (by show i < s.size; omega)⟩
   refine cy_skip ?_
   refine ny_next ?_
   refine cy_seq ?_
   refine cy_block ?_
   refine cy_seq ?_
   refine cy_region ?_
   refine sy_move rfl rfl rfl ?_
   refine sy_move rfl rfl rfl ?_
   refine sy_idxs (u := e0) Tryz.underlying9 rfl rfl (by omega) (ba_at he0) rfl rfl ?_
   refine sy_assign rfl rfl rfl ?_
   refine sy_nil rfl ?_
   refine ny_next ?_
   refine cy_seq ?_
   refine cy_region ?_
   refine sy_move rfl rfl rfl ?_
   refine sy_addi (z := ((i + 1 : Nat) : Int)) rfl rfl (by omega) (by omega) (by omega) rfl rfl ?_
   refine sy_move rfl rfl rfl ?_
   refine sy_len rfl (len_string Tryz.underlying9 _) rfl rfl ?_
   refine sy_cmp rfl rfl rfl rfl rfl ?_
   refine sy_assign rfl rfl rfl ?_
   refine sy_nil rfl ?_
   refine ny_next ?_
   refine cy_seq ?_
   refine cy_block ?_
   refine cy_seq ?_
   refine cy_region ?_
   refine sy_move rfl rfl rfl ?_
   refine sy_cmp rfl rfl rfl rfl rfl ?_
   refine sy_move rfl rfl rfl ?_
   refine sy_cond (d := 28) _ rfl rfl (fun hg28 => ?_) (fun hg28 => ?_)
   · have h39 : e0 = 39 := UInt8.toNat_inj.1 (by have h9 : (e0.toNat : Int) = 39 := (by simpa using hg28); show e0.toNat = 39; omega)
     refine sy_move rfl rfl rfl ?_
     refine sy_pickT rfl rfl rfl rfl ?_
     refine sy_move rfl rfl rfl ?_
     refine sy_cond (d := 31) _ rfl rfl (fun hg31 => ?_) (fun hg31 => ?_)
     · have hmo : i + 1 < s.size := by have := of_decide_eq_true hg31; omega
       obtain ⟨e1, he1⟩ : ∃ e1, s.data.toList[i + 1]? = some e1 := ⟨_, List.getElem?_eq_getElem (by show i + 1 < s.size; omega)⟩
       refine sy_move rfl rfl rfl ?_
       refine sy_move rfl rfl rfl ?_
       refine sy_addi (z := ((i + 1 : Nat) : Int)) rfl rfl (by omega) (by omega) (by omega) rfl rfl ?_
       refine sy_idxs (u := e1) Tryz.underlying9 rfl rfl (by omega) (ba_at he1) rfl rfl ?_
       refine sy_cmp rfl rfl rfl rfl rfl ?_
       refine sy_pickT rfl rfl rfl rfl ?_
       refine sy_assign rfl rfl rfl ?_
       refine sy_nil rfl ?_
       refine ny_next ?_
       refine cy_cond rfl (fun hc25 => ?_) (fun hc25 => ?_)
       · have h39b : e1 = 39 := UInt8.toNat_inj.1 (by have h9 : (e1.toNat : Int) = 39 := (by simpa using hc25); show e1.toNat = 39; omega)
         refine cy_region ?_
         refine sy_move rfl rfl rfl ?_
         refine sy_addi (z := ((i + 1 : Nat) : Int)) rfl rfl (by omega) (by omega) (by omega) rfl rfl ?_
         refine sy_assign rfl rfl rfl ?_
         refine sy_nil rfl ?_
         refine ny_blockN ?_
         refine ny_next ?_
         refine cy_region ?_
         refine sy_move rfl rfl rfl ?_
         refine sy_move rfl rfl rfl ?_
         refine sy_buildSlice rfl (fun w => bsl_40_1_0 w) rfl rfl (fun b80 hb80 hM80 => ?_) (by simp)
         refine sy_append 1 0 row_40 (by decide) rfl rfl rfl rfl rfl rfl (by omega) (by simp only [maxLen]; omega) rfl rfl (fun v81 => ?_)
         refine sy_assign rfl rfl rfl ?_
         refine sy_nil rfl ?_
         refine ny_blockN ?_
         refine ny_next ?_
         refine cy_region ?_
         refine sy_move rfl rfl rfl ?_
         refine sy_addi (z := ((i + 1 + 1 : Nat) : Int)) rfl rfl (by omega) (by omega) (by omega) rfl rfl ?_
         refine sy_assign rfl rfl rfl ?_
         refine sy_nil rfl ?_
         refine ny_roundK [0, 2] (i + 2, out ++ [e0], v81) [0, 1] ⟨by omega, by show (out ++ [e0]).length ≤ i + 2; rw [List.length_append]; simp; omega, (quo_markC he0 h39 he1 h39b).trans hpre⟩ (show s.size - (i + 2) < s.size - i by omega) rfl ⟨rfl, rfl, trivial⟩ rfl (by show _ = some [Res.row v81 5 1 (out ++ [e0]).length ((out ++ [e0]).map bv), .blk b2 (.cells [.int .i64 0, .string ⟨#[]⟩, .int .i64 0, .bool false, .bool false].toArray 79 (0, 0))]; rw [List.length_append, List.map_append]; rfl)
       · refine cy_seq ?_
         refine cy_region ?_
         refine sy_move rfl rfl rfl ?_
         refine sy_cmp rfl rfl rfl rfl rfl ?_
         refine sy_setT (d := 42) rfl rfl hg28 ?_
         refine sy_assign rfl rfl rfl ?_
         refine sy_nil rfl ?_
         refine ny_next ?_
         refine cy_condT rfl ?_
         refine cy_seq ?_
         refine cy_region ?_
         refine sy_move rfl rfl rfl ?_
         refine sy_frzRow 0 rfl (fun _ _ => by simp) (fun A9 c9 h9 hv9 hlc9 hcm9 _ hle9 hcell9 => ?_)
         subst hv9
         have hr9 : RowsAt h9 A9 1 (out.map byteC) := rows_row (by decide) (byteC_len _) (by rw [byteC_flat]; exact hcell9)
         refine sy_bytesh Tryz.underlying40 Tryz.underlying5 Tryz.underlying9 rfl hr9 rfl rfl rfl ?_
         refine sy_build rfl (fun w => bld_79_0x1x3 w) rfl rfl ?_
         refine sy_move rfl rfl rfl ?_
         refine sy_addi (z := ((i + 1 : Nat) : Int)) rfl rfl (by omega) (by omega) (by omega) rfl rfl ?_
         refine sy_stl 0 sz_79 rfl rfl rfl rfl rfl rfl rfl rfl ?_
         refine sy_assign rfl rfl rfl ?_
         refine sy_assign rfl rfl rfl ?_
         refine sy_nil rfl ?_
         refine ny_next ?_
         refine cy_ret ?_
         refine ny_blockR ?_
         refine ny_thenR ?_
         refine ny_blockR ?_
         refine ny_thenR ?_
         refine ny_thenR ?_
         refine ny_blockR ?_
         refine ny_thenR ?_
         refine ny_finR (rescT 0 rfl agg_79 rfl rfl rfl rfl rfl) (fun w hs2 => ⟨?_, hs2.frm⟩)
         rw [← hpre, quo_endC he0 h39 (by first | (intro d9 hd9; rw [he1] at hd9; injection hd9 with hd9; subst hd9; intro h9; rw [h9] at hc25; simp at hc25; done) | (intro d9 hd9; have h8 := (List.getElem?_eq_some_iff.1 hd9).1; have h9 := of_decide_eq_false hg31; have h7 : s.data.toList.length = s.size := rfl; omega))]
         rfl
     · refine sy_skip rfl rfl rfl ?_
       refine sy_skip rfl rfl rfl ?_
       refine sy_skip rfl rfl rfl ?_
       refine sy_skip rfl rfl rfl ?_
       refine sy_skip rfl rfl rfl ?_
       refine sy_pickF rfl rfl rfl rfl ?_
       refine sy_assign rfl rfl rfl ?_
       refine sy_nil rfl ?_
       refine ny_next ?_
       refine cy_condF rfl ?_
       refine cy_seq ?_
       refine cy_region ?_
       refine sy_move rfl rfl rfl ?_
       refine sy_cmp rfl rfl rfl rfl rfl ?_
       refine sy_setT (d := 42) rfl rfl hg28 ?_
       refine sy_assign rfl rfl rfl ?_
       refine sy_nil rfl ?_
       refine ny_next ?_
       refine cy_condT rfl ?_
       refine cy_seq ?_
       refine cy_region ?_
       refine sy_move rfl rfl rfl ?_
       refine sy_frzRow 0 rfl (fun _ _ => by simp) (fun A9 c9 h9 hv9 hlc9 hcm9 _ hle9 hcell9 => ?_)
       subst hv9
       have hr9 : RowsAt h9 A9 1 (out.map byteC) := rows_row (by decide) (byteC_len _) (by rw [byteC_flat]; exact hcell9)
       refine sy_bytesh Tryz.underlying40 Tryz.underlying5 Tryz.underlying9 rfl hr9 rfl rfl rfl ?_
       refine sy_build rfl (fun w => bld_79_0x1x3 w) rfl rfl ?_
       refine sy_move rfl rfl rfl ?_
       refine sy_addi (z := ((i + 1 : Nat) : Int)) rfl rfl (by omega) (by omega) (by omega) rfl rfl ?_
       refine sy_stl 0 sz_79 rfl rfl rfl rfl rfl rfl rfl rfl ?_
       refine sy_assign rfl rfl rfl ?_
       refine sy_assign rfl rfl rfl ?_
       refine sy_nil rfl ?_
       refine ny_next ?_
       refine cy_ret ?_
       refine ny_blockR ?_
       refine ny_thenR ?_
       refine ny_blockR ?_
       refine ny_thenR ?_
       refine ny_thenR ?_
       refine ny_blockR ?_
       refine ny_thenR ?_
       refine ny_finR (rescT 0 rfl agg_79 rfl rfl rfl rfl rfl) (fun w hs2 => ⟨?_, hs2.frm⟩)
       rw [← hpre, quo_endC he0 h39 (by first | (intro d9 hd9; rw [he1] at hd9; injection hd9 with hd9; subst hd9; intro h9; rw [h9] at hc25; simp at hc25; done) | (intro d9 hd9; have h8 := (List.getElem?_eq_some_iff.1 hd9).1; have h9 := of_decide_eq_false hg31; have h7 : s.data.toList.length = s.size := rfl; omega))]
       rfl
   · have h39n : ¬ e0 = 39 := by
      intro h9
      rw [h9] at hg28
      simp at hg28
     refine sy_skip rfl rfl rfl ?_
     refine sy_pickF rfl rfl rfl rfl ?_
     refine sy_move rfl rfl rfl ?_
     refine sy_skip rfl rfl rfl ?_
     refine sy_skip rfl rfl rfl ?_
     refine sy_skip rfl rfl rfl ?_
     refine sy_skip rfl rfl rfl ?_
     refine sy_skip rfl rfl rfl ?_
     refine sy_pickF rfl rfl rfl rfl ?_
     refine sy_assign rfl rfl rfl ?_
     refine sy_nil rfl ?_
     refine ny_next ?_
     refine cy_condF rfl ?_
     refine cy_seq ?_
     refine cy_region ?_
     refine sy_move rfl rfl rfl ?_
     refine sy_cmp rfl rfl rfl rfl rfl ?_
     refine sy_setF (d := 42) rfl rfl hg28 ?_
     refine sy_assign rfl rfl rfl ?_
     refine sy_nil rfl ?_
     refine ny_next ?_
     refine cy_condF rfl ?_
     refine cy_seq ?_
     refine cy_region ?_
     refine sy_move rfl rfl rfl ?_
     refine sy_cmp rfl rfl rfl rfl rfl ?_
     refine sy_move rfl rfl rfl ?_
     refine sy_cond (d := 51) _ rfl rfl (fun hg51 => ?_) (fun hg51 => ?_)
     · have h92 : e0 = 92 := UInt8.toNat_inj.1 (by have h9 : (e0.toNat : Int) = 92 := (by simpa using hg51); show e0.toNat = 92; omega)
       refine sy_move rfl rfl rfl ?_
       refine sy_pickT rfl rfl rfl rfl ?_
       refine sy_assign rfl rfl rfl ?_
       refine sy_nil rfl ?_
       refine ny_next ?_
       refine cy_cond rfl (fun hc48 => ?_) (fun hc48 => ?_)
       · have hmo : i + 1 < s.size := by have := of_decide_eq_true hc48; omega
         obtain ⟨e1, he1⟩ : ∃ e1, s.data.toList[i + 1]? = some e1 := ⟨_, List.getElem?_eq_getElem (by show i + 1 < s.size; omega)⟩
         refine cy_seq ?_
         refine cy_region ?_
         refine sy_move rfl rfl rfl ?_
         refine sy_move rfl rfl rfl ?_
         refine sy_addi (z := ((i + 1 : Nat) : Int)) rfl rfl (by omega) (by omega) (by omega) rfl rfl ?_
         refine sy_idxs (u := e1) Tryz.underlying9 rfl rfl (by omega) (ba_at he1) rfl rfl ?_
         refine sy_call rfl call_92 rfl (esc_c e1 _) rfl rfl ?_
         refine sy_move rfl rfl rfl ?_
         refine sy_extract rfl rfl rfl rfl ?_
         refine sy_extract rfl rfl rfl rfl ?_
         refine sy_assign rfl rfl rfl ?_
         refine sy_assign rfl rfl rfl ?_
         refine sy_nil rfl ?_
         refine ny_next ?_
         refine cy_seq ?_
         refine cy_seq ?_
         refine cy_region ?_
         refine sy_move rfl rfl rfl ?_
         refine sy_not rfl rfl rfl ?_
         refine sy_nil rfl ?_
         refine ny_next ?_
         refine cy_cond rfl (fun hc63 => ?_) (fun hc63 => ?_)
         · refine cy_seq ?_
           refine cy_region ?_
           refine sy_build rfl (fun w => bld_79_ w) rfl rfl ?_
           refine sy_call rfl call_49 rfl (bad_c _ _ _) rfl rfl ?_
           refine sy_stl 1 sz_79 rfl rfl rfl rfl rfl rfl rfl rfl ?_
           refine sy_assign rfl rfl rfl ?_
           refine sy_assign rfl rfl rfl ?_
           refine sy_nil rfl ?_
           refine ny_next ?_
           refine cy_ret ?_
           refine ny_thenR ?_
           refine ny_blockR ?_
           refine ny_thenR ?_
           refine ny_blockR ?_
           refine ny_thenR ?_
           refine ny_thenR ?_
           refine ny_blockR ?_
           refine ny_thenR ?_
           refine ny_finR (rescT 0 rfl agg_79 rfl rfl rfl rfl rfl) (fun w hs2 => ⟨?_, hs2.frm⟩)
           rw [← hpre, quo_badC he0 h92 he1 (Option.not_isSome_iff_eq_none.1 (by simpa using hc63))]
           rfl
         · obtain ⟨x1, hx1⟩ : ∃ x1, esc e1 = some x1 := Option.isSome_iff_exists.1 (by simpa using hc63)
           rw [show (esc e1).getD 0 = x1 by rw [hx1]; rfl]
           refine cy_skip ?_
           refine ny_next ?_
           refine cy_seq ?_
           refine cy_region ?_
           refine sy_move rfl rfl rfl ?_
           refine sy_assign rfl rfl rfl ?_
           refine sy_nil rfl ?_
           refine ny_next ?_
           refine cy_region ?_
           refine sy_move rfl rfl rfl ?_
           refine sy_addi (z := ((i + 1 : Nat) : Int)) rfl rfl (by omega) (by omega) (by omega) rfl rfl ?_
           refine sy_assign rfl rfl rfl ?_
           refine sy_nil rfl ?_
           refine ny_blockN ?_
           refine ny_next ?_
           refine cy_region ?_
           refine sy_move rfl rfl rfl ?_
           refine sy_move rfl rfl rfl ?_
           refine sy_buildSlice rfl (fun w => bsl_40_1_0 w) rfl rfl (fun b80 hb80 hM80 => ?_) (by simp)
           refine sy_append 1 0 row_40 (by decide) rfl rfl rfl rfl rfl rfl (by omega) (by simp only [maxLen]; omega) rfl rfl (fun v81 => ?_)
           refine sy_assign rfl rfl rfl ?_
           refine sy_nil rfl ?_
           refine ny_blockN ?_
           refine ny_next ?_
           refine cy_region ?_
           refine sy_move rfl rfl rfl ?_
           refine sy_addi (z := ((i + 1 + 1 : Nat) : Int)) rfl rfl (by omega) (by omega) (by omega) rfl rfl ?_
           refine sy_assign rfl rfl rfl ?_
           refine sy_nil rfl ?_
           refine ny_roundK [0, 2] (i + 2, out ++ [x1], v81) [0, 1] ⟨by omega, by show (out ++ [x1]).length ≤ i + 2; rw [List.length_append]; simp; omega, (quo_escC he0 h92 he1 hx1).trans hpre⟩ (show s.size - (i + 2) < s.size - i by omega) rfl ⟨rfl, rfl, trivial⟩ rfl (by show _ = some [Res.row v81 5 1 (out ++ [x1]).length ((out ++ [x1]).map bv), .blk b2 (.cells [.int .i64 0, .string ⟨#[]⟩, .int .i64 0, .bool false, .bool false].toArray 79 (0, 0))]; rw [List.length_append, List.map_append]; rfl)
       · refine cy_seq ?_
         refine cy_region ?_
         refine sy_move rfl rfl rfl ?_
         refine sy_cmp rfl rfl rfl rfl rfl ?_
         refine sy_setT (d := 71) rfl rfl hg51 ?_
         refine sy_move rfl rfl rfl ?_
         refine sy_skip rfl rfl rfl ?_
         refine sy_skip rfl rfl rfl ?_
         refine sy_pickT rfl rfl rfl rfl ?_
         refine sy_assign rfl rfl rfl ?_
         refine sy_nil rfl ?_
         refine ny_next ?_
         refine cy_condT rfl ?_
         refine cy_seq ?_
         refine cy_region ?_
         refine sy_build rfl (fun w => bld_79_ w) rfl rfl ?_
         refine sy_call rfl call_49 rfl (bad_c _ _ _) rfl rfl ?_
         refine sy_stl 1 sz_79 rfl rfl rfl rfl rfl rfl rfl rfl ?_
         refine sy_assign rfl rfl rfl ?_
         refine sy_assign rfl rfl rfl ?_
         refine sy_nil rfl ?_
         refine ny_next ?_
         refine cy_ret ?_
         refine ny_blockR ?_
         refine ny_thenR ?_
         refine ny_blockR ?_
         refine ny_thenR ?_
         refine ny_thenR ?_
         refine ny_blockR ?_
         refine ny_thenR ?_
         refine ny_finR (rescT 0 rfl agg_79 rfl rfl rfl rfl rfl) (fun w hs2 => ⟨?_, hs2.frm⟩)
         (rw [← hpre, quo_slashC he0 h92 (by have h9 := of_decide_eq_false hc48; have h7 : s.data.toList.length = s.size := rfl; omega)]; rfl)
     · have h92n : ¬ e0 = 92 := by
        intro h9
        rw [h9] at hg51
        simp at hg51
       refine sy_skip rfl rfl rfl ?_
       refine sy_pickF rfl rfl rfl rfl ?_
       refine sy_assign rfl rfl rfl ?_
       refine sy_nil rfl ?_
       refine ny_next ?_
       refine cy_condF rfl ?_
       refine cy_seq ?_
       refine cy_region ?_
       refine sy_move rfl rfl rfl ?_
       refine sy_cmp rfl rfl rfl rfl rfl ?_
       refine sy_setF (d := 71) rfl rfl hg51 ?_
       refine sy_move rfl rfl rfl ?_
       refine sy_move rfl rfl rfl ?_
       refine sy_cmp rfl rfl rfl rfl rfl ?_
       refine sy_pickF rfl rfl rfl rfl ?_
       refine sy_assign rfl rfl rfl ?_
       refine sy_nil rfl ?_
       refine ny_next ?_
       refine cy_cond rfl (fun hc69 => ?_) (fun hc69 => ?_)
       · refine cy_seq ?_
         refine cy_region ?_
         refine sy_build rfl (fun w => bld_79_ w) rfl rfl ?_
         refine sy_call rfl call_49 rfl (bad_c _ _ _) rfl rfl ?_
         refine sy_stl 1 sz_79 rfl rfl rfl rfl rfl rfl rfl rfl ?_
         refine sy_assign rfl rfl rfl ?_
         refine sy_assign rfl rfl rfl ?_
         refine sy_nil rfl ?_
         refine ny_next ?_
         refine cy_ret ?_
         refine ny_blockR ?_
         refine ny_thenR ?_
         refine ny_blockR ?_
         refine ny_thenR ?_
         refine ny_thenR ?_
         refine ny_blockR ?_
         refine ny_thenR ?_
         refine ny_finR (rescT 0 rfl agg_79 rfl rfl rfl rfl rfl) (fun w hs2 => ⟨?_, hs2.frm⟩)
         (rw [← hpre, quo_low he0 h39n h92n (of_decide_eq_true hc69)]; rfl)
       · refine cy_skip ?_
         refine ny_blockN ?_
         refine ny_next ?_
         refine cy_region ?_
         refine sy_move rfl rfl rfl ?_
         refine sy_move rfl rfl rfl ?_
         refine sy_buildSlice rfl (fun w => bsl_40_1_0 w) rfl rfl (fun b80 hb80 hM80 => ?_) (by simp)
         refine sy_append 1 0 row_40 (by decide) rfl rfl rfl rfl rfl rfl (by omega) (by simp only [maxLen]; omega) rfl rfl (fun v81 => ?_)
         refine sy_assign rfl rfl rfl ?_
         refine sy_nil rfl ?_
         refine ny_blockN ?_
         refine ny_next ?_
         refine cy_region ?_
         refine sy_move rfl rfl rfl ?_
         refine sy_addi (z := ((i + 1 : Nat) : Int)) rfl rfl (by omega) (by omega) (by omega) rfl rfl ?_
         refine sy_assign rfl rfl rfl ?_
         refine sy_nil rfl ?_
         refine ny_roundK [0, 2] (i + 1, out ++ [e0], v81) [0, 1] ⟨by omega, by show (out ++ [e0]).length ≤ i + 1; rw [List.length_append]; simp; omega, (quo_byte he0 h39n h92n (by have h9 := of_decide_eq_false hc69; exact h9)).trans hpre⟩ (show s.size - (i + 1) < s.size - i by omega) rfl ⟨rfl, rfl, trivial⟩ rfl (by show _ = some [Res.row v81 5 1 (out ++ [e0]).length ((out ++ [e0]).map bv), .blk b2 (.cells [.int .i64 0, .string ⟨#[]⟩, .int .i64 0, .bool false, .bool false].toArray 79 (0, 0))]; rw [List.length_append, List.map_append]; rfl)
 · have hge : s.size ≤ i := by have := of_decide_eq_false hc14; omega
   refine cy_exit ?_
   refine ny_thenE ?_
   refine ny_thenE ?_
   refine ny_blockX ?_
   refine ny_next ?_
   refine cy_seq ?_
   refine cy_region ?_
   refine sy_build rfl (fun w => bld_79_ w) rfl rfl ?_
   refine sy_call rfl call_49 rfl (bad_c _ _ _) rfl rfl ?_
   refine sy_stl 1 sz_79 rfl rfl rfl rfl rfl rfl rfl rfl ?_
   refine sy_assign rfl rfl rfl ?_
   refine sy_assign rfl rfl rfl ?_
   refine sy_nil rfl ?_
   refine ny_next ?_
   refine cy_ret ?_
   refine ny_finR (rescT 0 rfl agg_79 rfl rfl rfl rfl rfl) (fun w hs2 => ⟨?_, hs2.frm⟩)
   rw [← hpre, quo_none (by show s.size ≤ i; exact hge)]
   rfl
end Go.Proofs.YtanhhihechakhaaGreatDoor
set_option linter.unusedVariables false
set_option linter.unusedSimpArgs false
namespace Go.Proofs.YtanhhihechakhaaGreatDoor.TokP
open Go.RowKit Go.Proofs.YtanhhihechakhaaGreatDoor.E Go.Proofs.YtanhhihechakhaaGreatDoor.ReplP
def punctL : List UInt8 := [40, 41, 91, 93, 44, 124]
def b1 : ByteArray := ⟨#[97, 32, 98, 121, 116, 101]⟩
def firstT (k : Int) (l : List UInt8) (n : Nat) : Ans := .tok k ⟨(l.take n).toArray⟩ 0 false n
def oneC (c : UInt8) (l : List UInt8) : Ans :=
 if smallB c = true then firstT 1 l (runB letterB l) else if bigB c = true then firstT 2 l (runB letterB l) else if digitB c = true then numA l else if ((c.toNat : Int) == 39) = true then quoA l
 else if punctL.contains c = true then firstT 4 l 1 else if (((c.toNat : Int) == 33) || ((c.toNat : Int) == 59)) = true then firstT 1 l 1 else if endsB l = true then firstT 5 l 1 else if signB c = true then firstT 1 l (runB signB l) else .bad b1 4
theorem ext_take (s : ByteArray) (i : Nat) : s.extract 0 i = ⟨(s.data.toList.take i).toArray⟩ := by
 rw [← ext_to, ba_eta]
end Go.Proofs.YtanhhihechakhaaGreatDoor.TokP
set_option linter.unusedVariables false
set_option linter.unusedSimpArgs false
namespace Go.Proofs.YtanhhihechakhaaGreatDoor
open Go.RowKit Go.Proofs.YtanhhihechakhaaGreatDoor.E Go.Proofs.YtanhhihechakhaaGreatDoor.ReplP Go.Proofs.YtanhhihechakhaaGreatDoor.TokP
set_option maxRecDepth 100000 in
theorem one_c (s : ByteArray) (c : UInt8) (h : Hp) (hs : s.size ≤ 70368744177600) (h0 : 1 ≤ s.size) (hc0 : s.data.toList[0]? = some c) : C0 Tryz.prog 51 [.string s] h (ansV 100 (oneC c s.data.toList)) := by
 refine enter0 Tryz.func51 rfl rfl rfl (fun w => ?_)
 refine cy_seq ?_
 refine cy_region ?_
 refine sy_alloc zer_79 rfl rfl (fun b2 hb2 hM2 => ?_) (by simp)
 refine sy_assign rfl rfl rfl ?_
 refine sy_assign rfl rfl rfl ?_
 refine sy_nil rfl ?_
 refine ny_next ?_
 refine cy_seq ?_
 refine cy_region ?_
 refine sy_move rfl rfl rfl ?_
 refine sy_idxs (u := c) Tryz.underlying9 rfl rfl (by decide) (ba_at (i := 0) hc0) rfl rfl ?_
 refine sy_assign rfl rfl rfl ?_
 refine sy_nil rfl ?_
 refine ny_next ?_
 refine cy_seq ?_
 refine cy_region ?_
 refine sy_build rfl (fun w => bld_79_0 w) rfl rfl ?_
 refine sy_alloc zer_79 rfl rfl (fun b6 hb6 hM6 => ?_) (by simp)
 refine sy_stl 0 sz_79 rfl rfl rfl rfl rfl rfl rfl rfl ?_
 refine sy_nil rfl ?_
 refine ny_next ?_
 refine cy_seq ?_
 refine cy_region ?_
 refine sy_assign rfl rfl rfl ?_
 refine sy_nil rfl ?_
 refine ny_next ?_
 refine cy_seq ?_
 refine cy_block ?_
 refine cy_seq ?_
 refine cy_region ?_
 refine sy_move rfl rfl rfl ?_
 refine sy_call rfl call_68 rfl (small_c c _) rfl rfl ?_
 refine sy_assign rfl rfl rfl ?_
 refine sy_nil rfl ?_
 refine ny_next ?_
 refine cy_cond rfl (fun hc13 => ?_) (fun hc13 => ?_)
 · refine cy_region ?_
   refine sy_move rfl rfl rfl ?_
   refine sy_call rfl call_65 rfl (row_c s 69 letterB _ (by omega) call_69 (fun c h => letter_c c h)) rfl rfl ?_
   have hrl := runB_le letterB s.data.toList
   have hsz0 : s.data.toList.length = s.size := rfl
   refine sy_assign rfl rfl rfl ?_
   refine sy_nil rfl ?_
   refine ny_blockN ?_
   refine ny_next ?_
   refine cy_seq ?_
   refine cy_region ?_
   refine sy_move rfl rfl rfl ?_
   refine sy_move rfl rfl rfl ?_
   refine sy_strto Tryz.underlying9 rfl rfl (by omega) rfl rfl ?_
   refine sy_field fld_79_1 rfl rfl rfl ?_
   refine sy_stl 0 sz_9 rfl rfl rfl rfl rfl rfl rfl rfl ?_
   refine sy_nil rfl ?_
   refine ny_next ?_
   refine cy_seq ?_
   refine cy_region ?_
   refine sy_ldar 0 agg_79 rfl rfl rfl rfl rfl ?_
   refine sy_move rfl rfl rfl ?_
   refine sy_stl 1 sz_79 rfl rfl rfl rfl rfl rfl rfl rfl ?_
   refine sy_assign rfl rfl rfl ?_
   refine sy_assign rfl rfl rfl ?_
   refine sy_nil rfl ?_
   refine ny_next ?_
   refine cy_ret ?_
   refine ny_finR (rescT 0 rfl agg_79 rfl rfl rfl rfl rfl) (fun w hs2 => ⟨?_, hs2.frm⟩)
   unfold oneC
   simp only [*, if_true, if_false, Bool.false_eq_true, Bool.true_eq_false, Bool.or_true, Bool.true_or, Bool.or_false, Bool.false_or, ext_take]
   rfl
 · refine cy_seq ?_
   refine cy_region ?_
   refine sy_move rfl rfl rfl ?_
   refine sy_call rfl call_70 rfl (big_c c _) rfl rfl ?_
   refine sy_assign rfl rfl rfl ?_
   refine sy_nil rfl ?_
   refine ny_next ?_
   refine cy_cond rfl (fun hc18 => ?_) (fun hc18 => ?_)
   · refine cy_seq ?_
     refine cy_region ?_
     refine sy_field fld_79_0 rfl rfl rfl ?_
     refine sy_stl 0 sz_3 rfl rfl rfl rfl rfl rfl rfl rfl ?_
     refine sy_nil rfl ?_
     refine ny_next ?_
     refine cy_region ?_
     refine sy_move rfl rfl rfl ?_
     refine sy_call rfl call_65 rfl (row_c s 69 letterB _ (by omega) call_69 (fun c h => letter_c c h)) rfl rfl ?_
     have hrl := runB_le letterB s.data.toList
     have hsz0 : s.data.toList.length = s.size := rfl
     refine sy_assign rfl rfl rfl ?_
     refine sy_nil rfl ?_
     refine ny_blockN ?_
     refine ny_next ?_
     refine cy_seq ?_
     refine cy_region ?_
     refine sy_move rfl rfl rfl ?_
     refine sy_move rfl rfl rfl ?_
     refine sy_strto Tryz.underlying9 rfl rfl (by omega) rfl rfl ?_
     refine sy_field fld_79_1 rfl rfl rfl ?_
     refine sy_stl 0 sz_9 rfl rfl rfl rfl rfl rfl rfl rfl ?_
     refine sy_nil rfl ?_
     refine ny_next ?_
     refine cy_seq ?_
     refine cy_region ?_
     refine sy_ldar 0 agg_79 rfl rfl rfl rfl rfl ?_
     refine sy_move rfl rfl rfl ?_
     refine sy_stl 1 sz_79 rfl rfl rfl rfl rfl rfl rfl rfl ?_
     refine sy_assign rfl rfl rfl ?_
     refine sy_assign rfl rfl rfl ?_
     refine sy_nil rfl ?_
     refine ny_next ?_
     refine cy_ret ?_
     refine ny_finR (rescT 0 rfl agg_79 rfl rfl rfl rfl rfl) (fun w hs2 => ⟨?_, hs2.frm⟩)
     unfold oneC
     simp only [*, if_true, if_false, Bool.false_eq_true, Bool.true_eq_false, Bool.or_true, Bool.true_or, Bool.or_false, Bool.false_or, ext_take]
     rfl
   · refine cy_seq ?_
     refine cy_region ?_
     refine sy_move rfl rfl rfl ?_
     refine sy_call rfl call_71 rfl (digit_c c _) rfl rfl ?_
     refine sy_assign rfl rfl rfl ?_
     refine sy_nil rfl ?_
     refine ny_next ?_
     refine cy_cond rfl (fun hc24 => ?_) (fun hc24 => ?_)
     · refine cy_seq ?_
       refine cy_region ?_
       refine sy_move rfl rfl rfl ?_
       refine sy_call rfl call_72 rfl (number_c s _ hs) rfl rfl ?_
       refine sy_extract rfl rfl rfl rfl ?_
       refine sy_extract rfl rfl rfl rfl ?_
       refine sy_extract rfl rfl rfl rfl ?_
       refine sy_stl 1 sz_79 rfl rfl rfl rfl rfl rfl rfl rfl ?_
       refine sy_assign rfl rfl rfl ?_
       refine sy_assign rfl rfl rfl ?_
       refine sy_nil rfl ?_
       refine ny_next ?_
       refine cy_ret ?_
       refine ny_blockR ?_
       refine ny_thenR ?_
       refine ny_finR (rescT 0 rfl agg_79 rfl rfl rfl rfl rfl) (fun w hs2 => ⟨?_, hs2.frm⟩)
       unfold oneC
       simp only [*, if_true, if_false, Bool.false_eq_true, Bool.true_eq_false, Bool.or_true, Bool.true_or, Bool.or_false, Bool.false_or, ext_take]
       rfl
     · refine cy_seq ?_
       refine cy_region ?_
       refine sy_move rfl rfl rfl ?_
       refine sy_cmp rfl rfl rfl rfl rfl ?_
       refine sy_assign rfl rfl rfl ?_
       refine sy_nil rfl ?_
       refine ny_next ?_
       refine cy_cond rfl (fun hc32 => ?_) (fun hc32 => ?_)
       · refine cy_seq ?_
         refine cy_region ?_
         refine sy_move rfl rfl rfl ?_
         refine sy_call rfl call_73 rfl (quoted_c s _ hs h0) rfl rfl ?_
         refine sy_extract rfl rfl rfl rfl ?_
         refine sy_extract rfl rfl rfl rfl ?_
         refine sy_extract rfl rfl rfl rfl ?_
         refine sy_stl 1 sz_79 rfl rfl rfl rfl rfl rfl rfl rfl ?_
         refine sy_assign rfl rfl rfl ?_
         refine sy_assign rfl rfl rfl ?_
         refine sy_nil rfl ?_
         refine ny_next ?_
         refine cy_ret ?_
         refine ny_blockR ?_
         refine ny_thenR ?_
         refine ny_finR (rescT 0 rfl agg_79 rfl rfl rfl rfl rfl) (fun w hs2 => ⟨?_, hs2.frm⟩)
         unfold oneC
         simp only [*, if_true, if_false, Bool.false_eq_true, Bool.true_eq_false, Bool.or_true, Bool.true_or, Bool.or_false, Bool.false_or, ext_take]
         rfl
       · refine cy_seq ?_
         refine cy_region ?_
         refine sy_move rfl rfl rfl ?_
         refine sy_call rfl call_74 rfl (ib_c _ c _) rfl rfl ?_
         refine sy_cmp rfl rfl rfl rfl rfl ?_
         refine sy_assign rfl rfl rfl ?_
         refine sy_nil rfl ?_
         refine ny_next ?_
         refine cy_cond rfl (fun hc40 => ?_) (fun hc40 => ?_)
         · have hpu : punctL.contains c = true := (idx_has punctL c).symm.trans hc40
           refine cy_region ?_
           refine sy_field fld_79_0 rfl rfl rfl ?_
           refine sy_stl 0 sz_3 rfl rfl rfl rfl rfl rfl rfl rfl ?_
           refine sy_nil rfl ?_
           refine ny_blockN ?_
           refine ny_next ?_
           refine cy_seq ?_
           refine cy_region ?_
           refine sy_move rfl rfl rfl ?_
           refine sy_move rfl rfl rfl ?_
           refine sy_strto Tryz.underlying9 rfl rfl (by omega) rfl rfl ?_
           refine sy_field fld_79_1 rfl rfl rfl ?_
           refine sy_stl 0 sz_9 rfl rfl rfl rfl rfl rfl rfl rfl ?_
           refine sy_nil rfl ?_
           refine ny_next ?_
           refine cy_seq ?_
           refine cy_region ?_
           refine sy_ldar 0 agg_79 rfl rfl rfl rfl rfl ?_
           refine sy_move rfl rfl rfl ?_
           refine sy_stl 1 sz_79 rfl rfl rfl rfl rfl rfl rfl rfl ?_
           refine sy_assign rfl rfl rfl ?_
           refine sy_assign rfl rfl rfl ?_
           refine sy_nil rfl ?_
           refine ny_next ?_
           refine cy_ret ?_
           refine ny_finR (rescT 0 rfl agg_79 rfl rfl rfl rfl rfl) (fun w hs2 => ⟨?_, hs2.frm⟩)
           unfold oneC
           simp only [*, if_true, if_false, Bool.false_eq_true, Bool.true_eq_false, Bool.or_true, Bool.true_or, Bool.or_false, Bool.false_or, ext_take]
           rfl
         · have hpu : punctL.contains c = false := (idx_has punctL c).symm.trans hc40
           refine cy_seq ?_
           refine cy_region ?_
           refine sy_move rfl rfl rfl ?_
           refine sy_cmp rfl rfl rfl rfl rfl ?_
           refine sy_move rfl rfl rfl ?_
           refine sy_cond (d := 48) _ rfl rfl (fun hg48 => ?_) (fun hg48 => ?_)
           · refine sy_skip rfl rfl rfl ?_
             refine sy_skip rfl rfl rfl ?_
             refine sy_pickT rfl rfl rfl rfl ?_
             refine sy_assign rfl rfl rfl ?_
             refine sy_nil rfl ?_
             refine ny_next ?_
             refine cy_condT rfl ?_
             refine cy_skip ?_
             refine ny_blockN ?_
             refine ny_next ?_
             refine cy_seq ?_
             refine cy_region ?_
             refine sy_move rfl rfl rfl ?_
             refine sy_move rfl rfl rfl ?_
             refine sy_strto Tryz.underlying9 rfl rfl (by omega) rfl rfl ?_
             refine sy_field fld_79_1 rfl rfl rfl ?_
             refine sy_stl 0 sz_9 rfl rfl rfl rfl rfl rfl rfl rfl ?_
             refine sy_nil rfl ?_
             refine ny_next ?_
             refine cy_seq ?_
             refine cy_region ?_
             refine sy_ldar 0 agg_79 rfl rfl rfl rfl rfl ?_
             refine sy_move rfl rfl rfl ?_
             refine sy_stl 1 sz_79 rfl rfl rfl rfl rfl rfl rfl rfl ?_
             refine sy_assign rfl rfl rfl ?_
             refine sy_assign rfl rfl rfl ?_
             refine sy_nil rfl ?_
             refine ny_next ?_
             refine cy_ret ?_
             refine ny_finR (rescT 0 rfl agg_79 rfl rfl rfl rfl rfl) (fun w hs2 => ⟨?_, hs2.frm⟩)
             unfold oneC
             simp only [*, if_true, if_false, Bool.false_eq_true, Bool.true_eq_false, Bool.or_true, Bool.true_or, Bool.or_false, Bool.false_or, ext_take]
             rfl
           · refine sy_move rfl rfl rfl ?_
             refine sy_cmp rfl rfl rfl rfl rfl ?_
             refine sy_pickF rfl rfl rfl rfl ?_
             refine sy_assign rfl rfl rfl ?_
             refine sy_nil rfl ?_
             refine ny_next ?_
             refine cy_cond rfl (fun hc45 => ?_) (fun hc45 => ?_)
             · refine cy_skip ?_
               refine ny_blockN ?_
               refine ny_next ?_
               refine cy_seq ?_
               refine cy_region ?_
               refine sy_move rfl rfl rfl ?_
               refine sy_move rfl rfl rfl ?_
               refine sy_strto Tryz.underlying9 rfl rfl (by omega) rfl rfl ?_
               refine sy_field fld_79_1 rfl rfl rfl ?_
               refine sy_stl 0 sz_9 rfl rfl rfl rfl rfl rfl rfl rfl ?_
               refine sy_nil rfl ?_
               refine ny_next ?_
               refine cy_seq ?_
               refine cy_region ?_
               refine sy_ldar 0 agg_79 rfl rfl rfl rfl rfl ?_
               refine sy_move rfl rfl rfl ?_
               refine sy_stl 1 sz_79 rfl rfl rfl rfl rfl rfl rfl rfl ?_
               refine sy_assign rfl rfl rfl ?_
               refine sy_assign rfl rfl rfl ?_
               refine sy_nil rfl ?_
               refine ny_next ?_
               refine cy_ret ?_
               refine ny_finR (rescT 0 rfl agg_79 rfl rfl rfl rfl rfl) (fun w hs2 => ⟨?_, hs2.frm⟩)
               unfold oneC
               simp only [*, if_true, if_false, Bool.false_eq_true, Bool.true_eq_false, Bool.or_true, Bool.true_or, Bool.or_false, Bool.false_or, ext_take]
               rfl
             · refine cy_seq ?_
               refine cy_region ?_
               refine sy_move rfl rfl rfl ?_
               refine sy_call rfl call_75 rfl (ends_c s _ hs) rfl rfl ?_
               refine sy_assign rfl rfl rfl ?_
               refine sy_nil rfl ?_
               refine ny_next ?_
               refine cy_cond rfl (fun hc52 => ?_) (fun hc52 => ?_)
               · refine cy_region ?_
                 refine sy_field fld_79_0 rfl rfl rfl ?_
                 refine sy_stl 0 sz_3 rfl rfl rfl rfl rfl rfl rfl rfl ?_
                 refine sy_nil rfl ?_
                 refine ny_blockN ?_
                 refine ny_next ?_
                 refine cy_seq ?_
                 refine cy_region ?_
                 refine sy_move rfl rfl rfl ?_
                 refine sy_move rfl rfl rfl ?_
                 refine sy_strto Tryz.underlying9 rfl rfl (by omega) rfl rfl ?_
                 refine sy_field fld_79_1 rfl rfl rfl ?_
                 refine sy_stl 0 sz_9 rfl rfl rfl rfl rfl rfl rfl rfl ?_
                 refine sy_nil rfl ?_
                 refine ny_next ?_
                 refine cy_seq ?_
                 refine cy_region ?_
                 refine sy_ldar 0 agg_79 rfl rfl rfl rfl rfl ?_
                 refine sy_move rfl rfl rfl ?_
                 refine sy_stl 1 sz_79 rfl rfl rfl rfl rfl rfl rfl rfl ?_
                 refine sy_assign rfl rfl rfl ?_
                 refine sy_assign rfl rfl rfl ?_
                 refine sy_nil rfl ?_
                 refine ny_next ?_
                 refine cy_ret ?_
                 refine ny_finR (rescT 0 rfl agg_79 rfl rfl rfl rfl rfl) (fun w hs2 => ⟨?_, hs2.frm⟩)
                 unfold oneC
                 simp only [*, if_true, if_false, Bool.false_eq_true, Bool.true_eq_false, Bool.or_true, Bool.true_or, Bool.or_false, Bool.false_or, ext_take]
                 rfl
               · refine cy_seq ?_
                 refine cy_region ?_
                 refine sy_move rfl rfl rfl ?_
                 refine sy_call rfl call_76 rfl (sign_c c _) rfl rfl ?_
                 refine sy_assign rfl rfl rfl ?_
                 refine sy_nil rfl ?_
                 refine ny_next ?_
                 refine cy_cond rfl (fun hc56 => ?_) (fun hc56 => ?_)
                 · refine cy_region ?_
                   refine sy_move rfl rfl rfl ?_
                   refine sy_call rfl call_65 rfl (row_c s 76 signB _ (by omega) call_76 (fun c h => sign_c c h)) rfl rfl ?_
                   have hrl := runB_le signB s.data.toList
                   have hsz0 : s.data.toList.length = s.size := rfl
                   refine sy_assign rfl rfl rfl ?_
                   refine sy_nil rfl ?_
                   refine ny_blockN ?_
                   refine ny_next ?_
                   refine cy_seq ?_
                   refine cy_region ?_
                   refine sy_move rfl rfl rfl ?_
                   refine sy_move rfl rfl rfl ?_
                   refine sy_strto Tryz.underlying9 rfl rfl (by omega) rfl rfl ?_
                   refine sy_field fld_79_1 rfl rfl rfl ?_
                   refine sy_stl 0 sz_9 rfl rfl rfl rfl rfl rfl rfl rfl ?_
                   refine sy_nil rfl ?_
                   refine ny_next ?_
                   refine cy_seq ?_
                   refine cy_region ?_
                   refine sy_ldar 0 agg_79 rfl rfl rfl rfl rfl ?_
                   refine sy_move rfl rfl rfl ?_
                   refine sy_stl 1 sz_79 rfl rfl rfl rfl rfl rfl rfl rfl ?_
                   refine sy_assign rfl rfl rfl ?_
                   refine sy_assign rfl rfl rfl ?_
                   refine sy_nil rfl ?_
                   refine ny_next ?_
                   refine cy_ret ?_
                   refine ny_finR (rescT 0 rfl agg_79 rfl rfl rfl rfl rfl) (fun w hs2 => ⟨?_, hs2.frm⟩)
                   unfold oneC
                   simp only [*, if_true, if_false, Bool.false_eq_true, Bool.true_eq_false, Bool.or_true, Bool.true_or, Bool.or_false, Bool.false_or, ext_take]
                   rfl
                 · refine cy_seq ?_
                   refine cy_region ?_
                   refine sy_build rfl (fun w => bld_79_ w) rfl rfl ?_
                   refine sy_call rfl call_49 rfl (bad_c _ _ _) rfl rfl ?_
                   refine sy_stl 1 sz_79 rfl rfl rfl rfl rfl rfl rfl rfl ?_
                   refine sy_assign rfl rfl rfl ?_
                   refine sy_assign rfl rfl rfl ?_
                   refine sy_nil rfl ?_
                   refine ny_next ?_
                   refine cy_ret ?_
                   refine ny_blockR ?_
                   refine ny_thenR ?_
                   refine ny_finR (rescT 0 rfl agg_79 rfl rfl rfl rfl rfl) (fun w hs2 => ⟨?_, hs2.frm⟩)
                   unfold oneC
                   simp only [*, if_true, if_false, Bool.false_eq_true, Bool.true_eq_false, Bool.or_true, Bool.true_or, Bool.or_false, Bool.false_or, ext_take]
                   rfl
end Go.Proofs.YtanhhihechakhaaGreatDoor
set_option linter.unusedVariables false
set_option linter.unusedSimpArgs false
namespace Go.Proofs.YtanhhihechakhaaGreatDoor.TokP
open Go.RowKit Go.Proofs.YtanhhihechakhaaGreatDoor.E Go.Proofs.YtanhhihechakhaaGreatDoor.ReplP
structure Tk where
 a : Ans
 tight : Bool
def tkC (t : Tk) : List Value := [.int .i64 t.a.kind, .string t.a.str, .int .i64 t.a.num, .bool t.a.quo, .bool t.tight]
inductive Sc where
 | ok (ts : List Tk)
 | bad (at_ : Nat) (what : ByteArray) (e : Int)
def n1 : ByteArray := ⟨#[97, 32, 110, 97, 109, 101]⟩
def errA (a : Ans) : Option (ByteArray × Int) := if a.err = none ∧ 64 < a.str.size then some (n1, 3) else a.err
def firstC : List UInt8 → UInt8
 | [] => 0
 | c :: _ => c
def scanF (l : List UInt8) : Nat → Nat → List Tk → Sc
 | 0, _, acc => .ok acc
 | k + 1, i, acc =>
  if i + skipN (l.drop i) = l.length then .ok acc
  else match errA (oneC (firstC (l.drop (i + skipN (l.drop i)))) (l.drop (i + skipN (l.drop i)))) with
   | some x => .bad (i + skipN (l.drop i)) x.1 x.2
   | none => scanF l k (i + skipN (l.drop i) + (oneC (firstC (l.drop (i + skipN (l.drop i)))) (l.drop (i + skipN (l.drop i)))).used) (acc ++ [⟨oneC (firstC (l.drop (i + skipN (l.drop i)))) (l.drop (i + skipN (l.drop i))), decide (skipN (l.drop i) = 0) && decide (0 < acc.length)⟩])
theorem run_first {p : UInt8 → Bool} {c : UInt8} {l : List UInt8} (h : p c = true) : 1 ≤ runB p (c :: l) := by rw [runB_yes h]; omega
theorem num_used {c : UInt8} {l : List UInt8} (h : digitB c = true) (he : (numA (c :: l)).err = none) : 1 ≤ (numA (c :: l)).used ∧ (numA (c :: l)).used ≤ (c :: l).length := by
 unfold numA at he ⊢
 split at he
 · cases he
 · rename_i h1
   rw [if_neg h1]
   split at he
   · cases he
   · rename_i h2
     rw [if_neg h2]
     exact ⟨run_first h, runB_le _ _⟩
theorem quo_used (l : List UInt8) : ∀ (m : Nat) (r out : List UInt8) (k : Nat), r.length ≤ m → k + r.length = l.length → (quoL r out k).err = none → 1 ≤ (quoL r out k).used ∧ (quoL r out k).used ≤ l.length := by
 intro m
 induction m with
 | zero =>
  intro r out k hr hk he
  have : r = [] := List.eq_nil_of_length_eq_zero (by omega)
  subst this
  rw [quoL] at he
  cases he
 | succ m ih =>
  intro r out k hr hk he
  match r, hr, hk, he with
  | [], _, _, he => rw [quoL] at he; cases he
  | [c], _, hk, he =>
   rw [quoL] at he ⊢
   simp only [List.length_cons, List.length_nil] at hk
   split at he
   · rename_i h1
     rw [if_pos h1]
     exact ⟨by show 1 ≤ k + 1; omega, by show k + 1 ≤ _; omega⟩
   · split at he
     · cases he
     · split at he <;> cases he
  | c :: d :: t, hr, hk, he =>
   rw [quoL] at he ⊢
   simp only [List.length_cons] at hk hr
   by_cases h39 : c = 39
   · rw [if_pos h39] at he ⊢
     by_cases hd : d = 39
     · rw [if_pos hd] at he ⊢
       exact ih t _ (k + 2) (by omega) (by omega) he
     · rw [if_neg hd] at he ⊢
       exact ⟨by show 1 ≤ k + 1; omega, by show k + 1 ≤ _; omega⟩
   · rw [if_neg h39] at he ⊢
     by_cases h92 : c = 92
     · rw [if_pos h92] at he ⊢
       cases hx : esc d with
       | none => rw [hx] at he; cases he
       | some x =>
        rw [hx] at he
        exact ih t _ (k + 2) (by omega) (by omega) he
     · rw [if_neg h92] at he ⊢
       by_cases hlow : (c.toNat : Int) < 32
       · rw [if_pos hlow] at he; cases he
       · rw [if_neg hlow] at he ⊢
         exact ih (d :: t) _ (k + 1) (by simp only [List.length_cons]; omega) (by simp only [List.length_cons]; omega) he
theorem one_used {c : UInt8} {l : List UInt8} (he : (oneC c (c :: l)).err = none) : 1 ≤ (oneC c (c :: l)).used ∧ (oneC c (c :: l)).used ≤ (c :: l).length := by
 have h1 : 1 ≤ (c :: l).length := by simp
 unfold oneC at he ⊢
 split at he
 · rename_i h; rw [if_pos h]; exact ⟨run_first (by unfold letterB; rw [h]; rfl), runB_le _ _⟩
 rename_i h
 rw [if_neg h]
 split at he
 · rename_i h; rw [if_pos h]; exact ⟨run_first (by unfold letterB; rw [h]; simp), runB_le _ _⟩
 rename_i h
 rw [if_neg h]
 split at he
 · rename_i h; rw [if_pos h]; exact num_used h he
 rename_i h
 rw [if_neg h]
 split at he
 · rename_i h; rw [if_pos h]; exact quo_used (c :: l) l.length l [] 1 (Nat.le_refl _) (by simp; omega) he
 rename_i h
 rw [if_neg h]
 split at he
 · rename_i h; rw [if_pos h]; exact ⟨Nat.le_refl _, h1⟩
 rename_i h
 rw [if_neg h]
 split at he
 · rename_i h; rw [if_pos h]; exact ⟨Nat.le_refl _, h1⟩
 rename_i h
 rw [if_neg h]
 split at he
 · rename_i h; rw [if_pos h]; exact ⟨Nat.le_refl _, h1⟩
 rename_i h
 rw [if_neg h]
 split at he
 · rename_i h; rw [if_pos h]; exact ⟨run_first h, runB_le _ _⟩
 · cases he
section
variable {l : List UInt8} {i k : Nat} {acc : List Tk}
theorem skip_room (hi : i ≤ l.length) : i + skipN (l.drop i) ≤ l.length := by
 have := skip_le (l.drop i).length (l.drop i) (Nat.le_refl _)
 rw [List.length_drop] at this
 omega
theorem scan_done (h : i + skipN (l.drop i) = l.length) : scanF l (k + 1) i acc = .ok acc := by rw [scanF, if_pos h]
theorem scan_bad {x : ByteArray × Int} (h : ¬ i + skipN (l.drop i) = l.length) (he : errA (oneC (firstC (l.drop (i + skipN (l.drop i)))) (l.drop (i + skipN (l.drop i)))) = some x) : scanF l (k + 1) i acc = .bad (i + skipN (l.drop i)) x.1 x.2 := by rw [scanF, if_neg h, he]
theorem scan_more (h : ¬ i + skipN (l.drop i) = l.length) (he : errA (oneC (firstC (l.drop (i + skipN (l.drop i)))) (l.drop (i + skipN (l.drop i)))) = none) : scanF l (k + 1) i acc = scanF l k (i + skipN (l.drop i) + (oneC (firstC (l.drop (i + skipN (l.drop i)))) (l.drop (i + skipN (l.drop i)))).used) (acc ++ [⟨oneC (firstC (l.drop (i + skipN (l.drop i)))) (l.drop (i + skipN (l.drop i))), decide (skipN (l.drop i) = 0) && decide (0 < acc.length)⟩]) := by rw [scanF, if_neg h, he]
theorem err_none {a : Ans} (h : errA a = none) : a.err = none := by
 unfold errA at h
 split at h
 · cases h
 · exact h
theorem scan_used (hi : i ≤ l.length) (h : ¬ i + skipN (l.drop i) = l.length) (he : errA (oneC (firstC (l.drop (i + skipN (l.drop i)))) (l.drop (i + skipN (l.drop i)))) = none) : i + 1 ≤ i + skipN (l.drop i) + (oneC (firstC (l.drop (i + skipN (l.drop i)))) (l.drop (i + skipN (l.drop i)))).used ∧ i + skipN (l.drop i) + (oneC (firstC (l.drop (i + skipN (l.drop i)))) (l.drop (i + skipN (l.drop i)))).used ≤ l.length := by
 have h1 := skip_room hi
 have hlt : i + skipN (l.drop i) < l.length := by omega
 have h2 := drop_at (List.getElem?_eq_getElem hlt)
 have h3 := err_none he
 rw [h2] at h3 ⊢
 have h4 := one_used h3
 simp only [firstC]
 have h5 : (l[i + skipN (l.drop i)] :: l.drop (i + skipN (l.drop i) + 1)).length = l.length - (i + skipN (l.drop i)) := by rw [← h2, List.length_drop]
 have h6 : (oneC l[i + skipN (l.drop i)] (l[i + skipN (l.drop i)] :: l.drop (i + skipN (l.drop i) + 1))).used ≤ l.length - (i + skipN (l.drop i)) := Nat.le_trans h4.2 (Nat.le_of_eq h5)
 have h7 : 1 ≤ (oneC l[i + skipN (l.drop i)] (l[i + skipN (l.drop i)] :: l.drop (i + skipN (l.drop i) + 1))).used := h4.1
 omega
theorem scan_fuel : ∀ (k1 k2 i : Nat) (acc : List Tk), i ≤ l.length → l.length + 1 ≤ i + k1 → l.length + 1 ≤ i + k2 → scanF l k1 i acc = scanF l k2 i acc
 | 0, _, i, acc, hi, h1, _ => by omega
 | _, 0, i, acc, hi, _, h2 => by omega
 | k1 + 1, k2 + 1, i, acc, hi, h1, h2 => by
  by_cases h : i + skipN (l.drop i) = l.length
  · rw [scan_done h, scan_done h]
  · cases he : errA (oneC (firstC (l.drop (i + skipN (l.drop i)))) (l.drop (i + skipN (l.drop i)))) with
    | some x => rw [scan_bad h he, scan_bad h he]
    | none =>
     rw [scan_more h he, scan_more h he]
     have hu := scan_used hi h he
     exact scan_fuel k1 k2 _ _ hu.2 (by omega) (by omega)
end
def scanA (l : List UInt8) : Sc := if 4096 < l.length then .bad 0 ⟨#[97, 32, 116, 101, 120, 116]⟩ 3 else scanF l (l.length + 1) 0 []
end Go.Proofs.YtanhhihechakhaaGreatDoor.TokP
set_option linter.unusedVariables false
set_option linter.unusedSimpArgs false
namespace Go.Proofs.YtanhhihechakhaaGreatDoor
open Go.RowKit Go.Proofs.YtanhhihechakhaaGreatDoor.E Go.Proofs.YtanhhihechakhaaGreatDoor.ReplP Go.Proofs.YtanhhihechakhaaGreatDoor.TokP
theorem nilB_err (T : Nat) (e : Option (ByteArray × Int)) : nilB (errV T e) = some e.isNone := by cases e <;> rfl
def scV (T : Nat) (r : Sc) (x : Option Addr × Nat) : Value := match r with
 | .ok ts => .tuple #[.slice x.1 ts.length x.2, .int .i64 0, .nilIface]
 | .bad i w e => .tuple #[.slice none 0 0, .int .i64 (i : Int), .iface T (.agg #[.string w, .int .i64 e])]
def scR (r : Sc) (x : Option Addr × Nat) (h : Hp) : Prop := match r with
 | .ok ts => RowsAt h x.1 5 (ts.map tkC) ∧ ts.length ≤ x.2
 | .bad _ _ _ => True
theorem tkC_len (l : List Tk) : ∀ c ∈ l.map tkC, c.length = 5 := fun c hc => by
 obtain ⟨t, _, rfl⟩ := List.mem_map.1 hc
 rfl
theorem tkC_snoc (l : List Tk) (t : Tk) : ((l ++ [t]).map tkC).flatten = (l.map tkC).flatten ++ [.int .i64 t.a.kind, .string t.a.str, .int .i64 t.a.num, .bool t.a.quo, .bool t.tight] := by
 rw [List.map_append, List.flatten_append]
 simp [tkC]
set_option maxRecDepth 100000 in
theorem scan_c (s : ByteArray) (h : Hp) : CX Tryz.prog 34 [.string s] h (scV 100 (scanA s.data.toList)) (scR (scanA s.data.toList)) := by
 refine enterX Tryz.func34 rfl rfl rfl (fun w => ?_)
 refine cy_seq ?_
 refine cy_region ?_
 refine sy_assign rfl rfl rfl ?_
 refine sy_assign rfl rfl rfl ?_
 refine sy_assign rfl rfl rfl ?_
 refine sy_nil rfl ?_
 refine ny_next ?_
 refine cy_seq ?_
 refine cy_seq ?_
 refine cy_region ?_
 refine sy_move rfl rfl rfl ?_
 refine sy_len rfl (len_string Tryz.underlying9 _) rfl rfl ?_
 refine sy_cmp rfl rfl rfl rfl rfl ?_
 refine sy_nil rfl ?_
 refine ny_next ?_
 refine cy_cond rfl (fun hc13 => ?_) (fun hc13 => ?_)
 · refine cy_seq ?_
   refine cy_region ?_
   refine sy_call rfl call_49 rfl (bad_c _ _ _) rfl rfl ?_
   refine sy_assign rfl rfl rfl ?_
   refine sy_assign rfl rfl rfl ?_
   refine sy_assign rfl rfl rfl ?_
   refine sy_nil rfl ?_
   refine ny_next ?_
   refine cy_ret ?_
   refine ny_thenR ?_
   have hbig : 4096 < s.data.toList.length := by have h9 := of_decide_eq_true hc13; have h8 : s.data.toList.length = s.size := rfl; omega
   refine ny_finR (res3 rfl rfl rfl rfl) (fun w hs2 => ⟨(none, 0), _, ?_, ?_, hs2.toGrow⟩)
   · unfold scanA; rw [if_pos hbig]; rfl
   · unfold scanA; rw [if_pos hbig]; trivial
 · have hnb : ¬ 4096 < s.data.toList.length := by have h9 := of_decide_eq_false hc13; have h8 : s.data.toList.length = s.size := rfl; omega
   have hs : s.size ≤ 70368744177600 := by have h8 : s.data.toList.length = s.size := rfl; omega
   refine cy_skip ?_
   refine ny_next ?_
   refine cy_seq ?_
   refine cy_region ?_
   refine sy_assign rfl rfl rfl ?_
   refine sy_nil rfl ?_
   refine ny_next ?_
   refine cy_seq ?_
   refine cy_region ?_
   refine sy_assign rfl rfl rfl ?_
   refine sy_nil rfl ?_
   refine ny_next ?_
   refine cy_block ?_
   refine cy_nilRow 79 5 ?_
   refine cy_loopK (ι := Nat × List Tk × Value) [0] rfl (fun z => z.1 ≤ s.size ∧ z.2.1.length ≤ z.1 ∧ scanF s.data.toList (s.size + 1 - z.1) z.1 z.2.1 = scanF s.data.toList (s.size + 1) 0 []) (fun z => s.size - z.1) (fun z => [(5, z.2.2), (6, .int .i64 (z.1 : Int))]) (fun z => h) (fun z => [Res.row z.2.2 79 5 (z.2.1).length (((z.2.1).map tkC).flatten)]) (0, [], .slice none 0 0) [0] ⟨Nat.zero_le _, Nat.zero_le _, rfl⟩ ⟨rfl, rfl, trivial⟩ rfl rfl ?_
   rintro ⟨i, acc, v5⟩ ⟨hI, hol, hpre⟩
   simp only at hI hol hpre ⊢
   have hsz : s.data.toList.length = s.size := rfl
   obtain ⟨k, hk⟩ : ∃ k, s.size + 1 - i = k + 1 := ⟨s.size - i, by omega⟩
   have hcap : acc.length ≤ 4096 := by omega
   have hroom := skip_room (l := s.data.toList) hI
   refine cy_block ?_
   refine cy_seq ?_
   refine cy_region ?_
   refine sy_move rfl rfl rfl ?_
   refine sy_move rfl rfl rfl ?_
   refine sy_strfrom Tryz.underlying9 rfl rfl (by omega) rfl rfl ?_
   have hx18 : (s.extract i s.size).size ≤ 70368744177600 := by
    have h9 : (s.extract i s.size).size = (s.extract i s.size).data.toList.length := rfl
    rw [h9, ext_from, List.length_drop]
    omega
   refine sy_call rfl call_50 rfl (skip_c (s.extract i s.size) _ hx18) rfl rfl ?_
   rw [ext_from]
   refine sy_assign rfl rfl rfl ?_
   refine sy_nil rfl ?_
   refine ny_next ?_
   refine cy_seq ?_
   refine cy_region ?_
   refine sy_move rfl rfl rfl ?_
   refine sy_move rfl rfl rfl ?_
   refine sy_addi (z := (((i + skipN (s.data.toList.drop i)) : Nat) : Int)) rfl rfl (by omega) (by omega) (by omega) rfl rfl ?_
   refine sy_assign rfl rfl rfl ?_
   refine sy_nil rfl ?_
   refine ny_next ?_
   refine cy_seq ?_
   refine cy_seq ?_
   refine cy_region ?_
   refine sy_move rfl rfl rfl ?_
   refine sy_move rfl rfl rfl ?_
   refine sy_len rfl (len_string Tryz.underlying9 _) rfl rfl ?_
   refine sy_cmp rfl rfl rfl rfl rfl ?_
   refine sy_nil rfl ?_
   refine ny_next ?_
   refine cy_cond rfl (fun hc25 => ?_) (fun hc25 => ?_)
   · have hend : (i + skipN (s.data.toList.drop i)) = s.data.toList.length := by have h9 : (((i + skipN (s.data.toList.drop i)) : Nat) : Int) = (s.size : Int) := (by simpa using hc25); omega
     refine cy_frzRow 0 rfl (fun _ _ => by simp) (fun A9 c9 h9 hv9 hlc9 hcm9 _ hle9 hcell9 => ?_)
     subst hv9
     have hr9 : RowsAt h9 A9 5 (acc.map tkC) := rows_row (by decide) (tkC_len _) hcell9
     refine cy_seq ?_
     refine cy_region ?_
     refine sy_move rfl rfl rfl ?_
     refine sy_assign rfl rfl rfl ?_
     refine sy_assign rfl rfl rfl ?_
     refine sy_assign rfl rfl rfl ?_
     refine sy_nil rfl ?_
     refine ny_next ?_
     refine cy_ret ?_
     refine ny_thenR ?_
     refine ny_blockR ?_
     refine ny_thenR ?_
     refine ny_blockR ?_
     have hres : scanA s.data.toList = .ok acc := by unfold scanA; rw [if_neg hnb]; show scanF s.data.toList (s.size + 1) 0 [] = _; rw [← hpre, hk]; exact scan_done hend
     refine ny_finR (res3 rfl rfl rfl rfl) (fun w hs2 => ⟨(A9, c9), h9, ?_, ?_, hs2.toGrow⟩)
     · rw [hres]; rfl
     · rw [hres]; exact ⟨hr9, hlc9⟩
   · have hne : ¬ (i + skipN (s.data.toList.drop i)) = s.data.toList.length := by
      intro h9
      rw [hsz] at h9
      rw [h9] at hc25
      simp at hc25
     refine cy_skip ?_
     refine ny_next ?_
     refine cy_seq ?_
     refine cy_region ?_
     refine sy_move rfl rfl rfl ?_
     refine sy_move rfl rfl rfl ?_
     refine sy_strfrom Tryz.underlying9 rfl rfl (by omega) rfl rfl ?_
     have hx31 : (s.extract (i + skipN (s.data.toList.drop i)) s.size).size ≤ 70368744177600 := by
      have h9 : (s.extract (i + skipN (s.data.toList.drop i)) s.size).size = (s.extract (i + skipN (s.data.toList.drop i)) s.size).data.toList.length := rfl
      rw [h9, ext_from, List.length_drop]
      omega
     have hlt : (i + skipN (s.data.toList.drop i)) < s.data.toList.length := by omega
     have hdr := drop_at (List.getElem?_eq_getElem hlt)
     have hc31 : (s.extract (i + skipN (s.data.toList.drop i)) s.size).data.toList[0]? = some (firstC (s.data.toList.drop (i + skipN (s.data.toList.drop i)))) := by rw [ext_from, hdr]; rfl
     have hz31 : 1 ≤ (s.extract (i + skipN (s.data.toList.drop i)) s.size).size := by
      have h9 : (s.extract (i + skipN (s.data.toList.drop i)) s.size).size = (s.extract (i + skipN (s.data.toList.drop i)) s.size).data.toList.length := rfl
      rw [h9, ext_from, List.length_drop]
      omega
     refine sy_call rfl call_51 rfl (one_c (s.extract (i + skipN (s.data.toList.drop i)) s.size) _ _ hx31 hz31 hc31) rfl rfl ?_
     rw [ext_from]
     refine sy_move rfl rfl rfl ?_
     refine sy_extract rfl rfl rfl rfl ?_
     refine sy_extract rfl rfl rfl rfl ?_
     refine sy_extract rfl rfl rfl rfl ?_
     refine sy_alloc zer_79 rfl rfl (fun b8 hb8 hM8 => ?_) (by simp)
     refine sy_stl 0 sz_79 rfl rfl rfl rfl rfl rfl rfl rfl ?_
     refine sy_assign rfl rfl rfl ?_
     refine sy_assign rfl rfl rfl ?_
     refine sy_nil rfl ?_
     refine ny_next ?_
     refine cy_seq ?_
     refine cy_seq ?_
     refine cy_region ?_
     refine sy_move rfl rfl rfl ?_
     refine sy_eqn (e := (oneC (firstC (s.data.toList.drop (i + skipN (s.data.toList.drop i)))) (s.data.toList.drop (i + skipN (s.data.toList.drop i)))).err.isNone) Tryz.underlying60 rfl (nilB_err _ _) rfl rfl rfl ?_
     refine sy_move rfl rfl rfl ?_
     refine sy_cond (d := 37) _ rfl rfl (fun hg37 => ?_) (fun hg37 => ?_)
     · refine sy_field fld_79_1 rfl rfl rfl ?_
       refine sy_ldr 0 one_9 rfl rfl rfl rfl rfl ?_
       refine sy_len rfl (len_string Tryz.underlying9 _) rfl rfl ?_
       refine sy_cmp rfl rfl rfl rfl rfl ?_
       refine sy_pickT rfl rfl rfl rfl ?_
       refine sy_nil rfl ?_
       refine ny_next ?_
       refine cy_cond rfl (fun hc42 => ?_) (fun hc42 => ?_)
       · have herr : errA (oneC (firstC (s.data.toList.drop (i + skipN (s.data.toList.drop i)))) (s.data.toList.drop (i + skipN (s.data.toList.drop i)))) = some (n1, 3) := by
          unfold errA
          rw [if_pos ⟨Option.isNone_iff_eq_none.1 hg37, by have h9 := of_decide_eq_true hc42; omega⟩]
         refine cy_region ?_
         refine sy_call rfl call_49 rfl (bad_c _ _ _) rfl rfl ?_
         refine sy_assign rfl rfl rfl ?_
         refine sy_nil rfl ?_
         refine ny_next ?_
         refine cy_seq ?_
         refine cy_seq ?_
         refine cy_region ?_
         refine sy_move rfl rfl rfl ?_
         refine sy_eqn Tryz.underlying60 rfl rfl rfl rfl rfl ?_
         refine sy_setT (d := 45) rfl rfl rfl ?_
         refine sy_nil rfl ?_
         refine ny_next ?_
         refine cy_condT rfl ?_
         refine cy_seq ?_
         refine cy_region ?_
         refine sy_move rfl rfl rfl ?_
         refine sy_move rfl rfl rfl ?_
         refine sy_assign rfl rfl rfl ?_
         refine sy_assign rfl rfl rfl ?_
         refine sy_assign rfl rfl rfl ?_
         refine sy_nil rfl ?_
         refine ny_next ?_
         refine cy_ret ?_
         refine ny_thenR ?_
         refine ny_blockR ?_
         refine ny_thenR ?_
         refine ny_blockR ?_
         refine ny_finR (res3 rfl rfl rfl rfl) (fun w hs2 => ?_)
         have hres : scanA s.data.toList = .bad (i + skipN (s.data.toList.drop i)) n1 3 := by { unfold scanA; rw [if_neg hnb]; show scanF s.data.toList (s.size + 1) 0 [] = _; rw [← hpre, hk]; exact scan_bad hne herr }
         exact ⟨(none, 0), _, by { rw [hres]; rfl }, by { rw [hres]; trivial }, hs2.toGrow⟩
       · have herr : errA (oneC (firstC (s.data.toList.drop (i + skipN (s.data.toList.drop i)))) (s.data.toList.drop (i + skipN (s.data.toList.drop i)))) = none := by
          unfold errA
          rw [if_neg (by rintro ⟨_, h9⟩; have h8 := of_decide_eq_false hc42; omega)]
          exact Option.isNone_iff_eq_none.1 hg37
         have hus := scan_used hI hne herr
         refine cy_skip ?_
         refine ny_next ?_
         refine cy_seq ?_
         refine cy_seq ?_
         refine cy_region ?_
         refine sy_move rfl rfl rfl ?_
         refine sy_eqn (e := (oneC (firstC (s.data.toList.drop (i + skipN (s.data.toList.drop i)))) (s.data.toList.drop (i + skipN (s.data.toList.drop i)))).err.isNone) Tryz.underlying60 rfl (nilB_err _ _) rfl rfl rfl ?_
         refine sy_setF (d := 45) rfl rfl (by rw [hg37]; rfl) ?_
         refine sy_nil rfl ?_
         refine ny_next ?_
         refine cy_condF rfl ?_
         refine cy_skip ?_
         refine ny_next ?_
         refine cy_seq ?_
         refine cy_region ?_
         refine sy_move rfl rfl rfl ?_
         refine sy_cmp rfl rfl rfl rfl rfl ?_
         refine sy_move rfl rfl rfl ?_
         refine sy_cond (d := 50) _ rfl rfl (fun hg50 => ?_) (fun hg50 => ?_)
         · refine sy_move rfl rfl rfl ?_
           refine sy_rowform 1 rfl (fun A5 c5 hv5 => ?_)
           subst hv5
           refine sy_len rfl (len_slice Tryz.underlying58 _ _ _) rfl rfl ?_
           refine sy_cmp rfl rfl rfl rfl rfl ?_
           refine sy_pickT rfl rfl rfl rfl ?_
           refine sy_field fld_79_4 rfl rfl rfl ?_
           refine sy_stl 0 sz_4 rfl rfl rfl rfl rfl rfl rfl rfl ?_
           refine sy_nil rfl ?_
           refine ny_next ?_
           refine cy_seq ?_
           refine cy_region ?_
           refine sy_move rfl rfl rfl ?_
           refine sy_ldar 0 agg_79 rfl rfl rfl rfl rfl ?_
           refine sy_buildSlice rfl (fun w => bsl_58_1_0 w) rfl rfl (fun b58 hb58 hM58 => ?_) (by simp)
           refine sy_append 2 0 row_58 (by decide) rfl rfl rfl rfl rfl rfl (by omega) (by simp only [maxLen]; omega) rfl rfl (fun v59 => ?_)
           refine sy_assign rfl rfl rfl ?_
           refine sy_nil rfl ?_
           refine ny_next ?_
           refine cy_region ?_
           refine sy_move rfl rfl rfl ?_
           refine sy_move rfl rfl rfl ?_
           refine sy_addi (z := (((i + skipN (s.data.toList.drop i)) + (oneC (firstC (s.data.toList.drop (i + skipN (s.data.toList.drop i)))) (s.data.toList.drop (i + skipN (s.data.toList.drop i)))).used : Nat) : Int)) rfl rfl (by omega) (by omega) (by omega) rfl rfl ?_
           refine sy_assign rfl rfl rfl ?_
           refine sy_nil rfl ?_
           refine ny_blockN ?_
           refine ny_roundK [0] ((i + skipN (s.data.toList.drop i)) + (oneC (firstC (s.data.toList.drop (i + skipN (s.data.toList.drop i)))) (s.data.toList.drop (i + skipN (s.data.toList.drop i)))).used, acc ++ [Tk.mk (oneC (firstC (s.data.toList.drop (i + skipN (s.data.toList.drop i)))) (s.data.toList.drop (i + skipN (s.data.toList.drop i)))) (decide (skipN (s.data.toList.drop i) = 0) && decide (0 < acc.length))], v59) [0] ⟨hus.2, by show (acc ++ [_]).length ≤ _; rw [List.length_append]; simp only [List.length_cons, List.length_nil]; omega, by rw [← hpre, hk, scan_more hne herr]; exact scan_fuel _ _ _ _ hus.2 (by omega) (by omega)⟩ (show s.size - ((i + skipN (s.data.toList.drop i)) + (oneC (firstC (s.data.toList.drop (i + skipN (s.data.toList.drop i)))) (s.data.toList.drop (i + skipN (s.data.toList.drop i)))).used) < s.size - i by omega) rfl ⟨rfl, rfl, trivial⟩ rfl (by have htg : (decide (skipN (s.data.toList.drop i) = 0) && decide (0 < acc.length)) = decide ((0 : Int) < ((acc.length : Nat) : Int)) := by { rw [decide_eq_true (show skipN (s.data.toList.drop i) = 0 by simpa using hg50), Bool.true_and]; exact decide_eq_decide.2 (by omega) }; show _ = some [Res.row v59 79 5 (acc ++ [Tk.mk (oneC (firstC (s.data.toList.drop (i + skipN (s.data.toList.drop i)))) (s.data.toList.drop (i + skipN (s.data.toList.drop i)))) (decide (skipN (s.data.toList.drop i) = 0) && decide (0 < acc.length))]).length (((acc ++ [Tk.mk (oneC (firstC (s.data.toList.drop (i + skipN (s.data.toList.drop i)))) (s.data.toList.drop (i + skipN (s.data.toList.drop i)))) (decide (skipN (s.data.toList.drop i) = 0) && decide (0 < acc.length))]).map tkC).flatten)]; rw [htg, tkC_snoc, List.length_append]; rfl)
         · refine sy_skip rfl rfl rfl ?_
           refine sy_skip rfl rfl rfl ?_
           refine sy_skip rfl rfl rfl ?_
           refine sy_pickF rfl rfl rfl rfl ?_
           refine sy_field fld_79_4 rfl rfl rfl ?_
           refine sy_stl 0 sz_4 rfl rfl rfl rfl rfl rfl rfl rfl ?_
           refine sy_nil rfl ?_
           refine ny_next ?_
           refine cy_seq ?_
           refine cy_region ?_
           refine sy_move rfl rfl rfl ?_
           refine sy_ldar 0 agg_79 rfl rfl rfl rfl rfl ?_
           refine sy_buildSlice rfl (fun w => bsl_58_1_0 w) rfl rfl (fun b58 hb58 hM58 => ?_) (by simp)
           refine sy_append 2 0 row_58 (by decide) rfl rfl rfl rfl rfl rfl (by omega) (by simp only [maxLen]; omega) rfl rfl (fun v59 => ?_)
           refine sy_assign rfl rfl rfl ?_
           refine sy_nil rfl ?_
           refine ny_next ?_
           refine cy_region ?_
           refine sy_move rfl rfl rfl ?_
           refine sy_move rfl rfl rfl ?_
           refine sy_addi (z := (((i + skipN (s.data.toList.drop i)) + (oneC (firstC (s.data.toList.drop (i + skipN (s.data.toList.drop i)))) (s.data.toList.drop (i + skipN (s.data.toList.drop i)))).used : Nat) : Int)) rfl rfl (by omega) (by omega) (by omega) rfl rfl ?_
           refine sy_assign rfl rfl rfl ?_
           refine sy_nil rfl ?_
           refine ny_blockN ?_
           refine ny_roundK [0] ((i + skipN (s.data.toList.drop i)) + (oneC (firstC (s.data.toList.drop (i + skipN (s.data.toList.drop i)))) (s.data.toList.drop (i + skipN (s.data.toList.drop i)))).used, acc ++ [Tk.mk (oneC (firstC (s.data.toList.drop (i + skipN (s.data.toList.drop i)))) (s.data.toList.drop (i + skipN (s.data.toList.drop i)))) (decide (skipN (s.data.toList.drop i) = 0) && decide (0 < acc.length))], v59) [0] ⟨hus.2, by show (acc ++ [_]).length ≤ _; rw [List.length_append]; simp only [List.length_cons, List.length_nil]; omega, by rw [← hpre, hk, scan_more hne herr]; exact scan_fuel _ _ _ _ hus.2 (by omega) (by omega)⟩ (show s.size - ((i + skipN (s.data.toList.drop i)) + (oneC (firstC (s.data.toList.drop (i + skipN (s.data.toList.drop i)))) (s.data.toList.drop (i + skipN (s.data.toList.drop i)))).used) < s.size - i by omega) rfl ⟨rfl, rfl, trivial⟩ rfl (by have htg : (decide (skipN (s.data.toList.drop i) = 0) && decide (0 < acc.length)) = false := by { rw [decide_eq_false (show ¬ skipN (s.data.toList.drop i) = 0 by simpa using hg50), Bool.false_and] }; show _ = some [Res.row v59 79 5 (acc ++ [Tk.mk (oneC (firstC (s.data.toList.drop (i + skipN (s.data.toList.drop i)))) (s.data.toList.drop (i + skipN (s.data.toList.drop i)))) (decide (skipN (s.data.toList.drop i) = 0) && decide (0 < acc.length))]).length (((acc ++ [Tk.mk (oneC (firstC (s.data.toList.drop (i + skipN (s.data.toList.drop i)))) (s.data.toList.drop (i + skipN (s.data.toList.drop i)))) (decide (skipN (s.data.toList.drop i) = 0) && decide (0 < acc.length))]).map tkC).flatten)]; rw [htg, tkC_snoc, List.length_append]; rfl)
     · obtain ⟨x9, hx9⟩ : ∃ x9, (oneC (firstC (s.data.toList.drop (i + skipN (s.data.toList.drop i)))) (s.data.toList.drop (i + skipN (s.data.toList.drop i)))).err = some x9 := Option.ne_none_iff_exists'.1 (fun h9 => by rw [h9] at hg37; simp at hg37)
       have herr : errA (oneC (firstC (s.data.toList.drop (i + skipN (s.data.toList.drop i)))) (s.data.toList.drop (i + skipN (s.data.toList.drop i)))) = some x9 := by
        unfold errA
        rw [if_neg (by rintro ⟨h9, _⟩; rw [hx9] at h9; cases h9), hx9]
       refine sy_skip rfl rfl rfl ?_
       refine sy_skip rfl rfl rfl ?_
       refine sy_skip rfl rfl rfl ?_
       refine sy_skip rfl rfl rfl ?_
       refine sy_pickF rfl rfl rfl rfl ?_
       refine sy_nil rfl ?_
       refine ny_next ?_
       refine cy_condF rfl ?_
       refine cy_skip ?_
       refine ny_next ?_
       refine cy_seq ?_
       refine cy_seq ?_
       refine cy_region ?_
       refine sy_move rfl rfl rfl ?_
       refine sy_eqn (e := (oneC (firstC (s.data.toList.drop (i + skipN (s.data.toList.drop i)))) (s.data.toList.drop (i + skipN (s.data.toList.drop i)))).err.isNone) Tryz.underlying60 rfl (nilB_err _ _) rfl rfl rfl ?_
       refine sy_setT (d := 45) rfl rfl (by rw [hg37]; rfl) ?_
       refine sy_nil rfl ?_
       refine ny_next ?_
       refine cy_condT rfl ?_
       refine cy_seq ?_
       refine cy_region ?_
       refine sy_move rfl rfl rfl ?_
       refine sy_move rfl rfl rfl ?_
       refine sy_assign rfl rfl rfl ?_
       refine sy_assign rfl rfl rfl ?_
       refine sy_assign rfl rfl rfl ?_
       refine sy_nil rfl ?_
       refine ny_next ?_
       refine cy_ret ?_
       refine ny_thenR ?_
       refine ny_blockR ?_
       refine ny_thenR ?_
       refine ny_blockR ?_
       refine ny_finR (res3 rfl rfl rfl rfl) (fun w hs2 => ?_)
       have hres : scanA s.data.toList = .bad (i + skipN (s.data.toList.drop i)) x9.1 x9.2 := by { unfold scanA; rw [if_neg hnb]; show scanF s.data.toList (s.size + 1) 0 [] = _; rw [← hpre, hk]; exact scan_bad hne herr }
       exact ⟨(none, 0), _, by { rw [hres, hx9]; rfl }, by { rw [hres]; trivial }, hs2.toGrow⟩
end Go.Proofs.YtanhhihechakhaaGreatDoor
set_option linter.unusedVariables false
set_option linter.unusedSimpArgs false
namespace Go.Proofs.YtanhhihechakhaaGreatDoor.E
open Go.RowKit
def keysOf (H : List Res) : List Nat := H.filterMap Res.key
theorem mem_keys {H : List Res} {r : Res} {k : Nat} (hr : r ∈ H) (hk : r.key = some k) : k ∈ keysOf H := List.mem_filterMap.2 ⟨r, hr, hk⟩
structure Own (h : Hp) (H : List Res) (w : World) : Prop where
 ok : ∀ r ∈ H, r.Ok w
 out : ∀ r ∈ H, ∀ k, r.key = some k → h k = none
 dis : H.Pairwise (fun r s => ∀ k, r.key = some k → s.key ≠ some k)
theorem St.startN {w : World} {h : Hp} {H : List Res} (hs : h.Sub w) (ho : Own h H w) : St w (keysOf H) h h H w :=
 ⟨Frm.refl w _, hs, Hp.Le.refl h, fun _ _ => rfl, ho.ok, fun r hr k hk => ⟨ho.out r hr k hk, .inr (mem_keys hr hk)⟩, ho.dis⟩
theorem Own.lt {h : Hp} {H : List Res} {w : World} (ho : Own h H w) : ∀ k ∈ keysOf H, k < w.heap.size := fun k hk => by
 obtain ⟨r, hr, hk⟩ := List.mem_filterMap.1 hk
 exact Res.Ok.lt (ho.ok r hr) hk
def CR {X : Type} (P : Program) (F : Nat) (vs : List Value) (h : Hp) (H : List Res) (rv : X → Ending) (Φ : X → Hp → List Res → Prop) : Prop :=
 ∀ w, h.Sub w → Own h H w → Calls P F vs.toArray w fun e w' => ∃ x h' H', e = rv x ∧ Φ x h' H' ∧ St w (keysOf H) h h' H' w'
def pickRs : List Nat → List Res → Option (List Res × List Res)
 | [], H => some ([], H)
 | i :: is, H => match pickR i H with
  | some (r, t) => (match pickRs is t with | some (l, t') => some (r :: l, t') | none => none)
  | none => none
theorem pickRs_perm : ∀ {is : List Nat} {H L T : List Res}, pickRs is H = some (L, T) → H.Perm (L ++ T)
 | [], H, L, T, h => by
  simp only [pickRs, Option.some.injEq, Prod.mk.injEq] at h
  obtain ⟨rfl, rfl⟩ := h
  exact List.Perm.refl _
 | i :: is, H, L, T, h => by
  unfold pickRs at h
  split at h
  · rename_i r t hp
    split at h
    · rename_i l t' hl
      simp only [Option.some.injEq, Prod.mk.injEq] at h
      obtain ⟨rfl, rfl⟩ := h
      exact (pickR_perm hp).trans ((pickRs_perm hl).cons r)
    · cases h
  · cases h
section
variable {m : Md} {P : Program} {ops : Array Oper} {Q : Exit → Act → World → Prop} {n : Nat} {D : List Deferred} {w0 : World} {M : List Nat} {h0 : Hp}
variable {f : Tab} {h : Hp} {H : List Res} {rest : List Oper} {o : Oper}
theorem St.own' {w : World} {Hin H1 : List Res} (s : St w0 M h0 h (Hin ++ H1) w) : Own h Hin w :=
 ⟨fun r hr => s.ok r (List.mem_append_left _ hr), fun r hr k hk => (s.own r (List.mem_append_left _ hr) k hk).1, (List.pairwise_append.1 s.dis).1⟩
theorem St.after {w w' : World} {Hin H1 H' : List Res} {h' : Hp} (s : St w0 M h0 h (Hin ++ H1) w) (t : St w (keysOf Hin) h h' H' w') : St w0 M h0 h' (H' ++ H1) w' := by
 have hin : ∀ x, x ∈ keysOf Hin → w0.heap.size ≤ x ∨ x ∈ M := fun x hx => by
  obtain ⟨r, hr, hk⟩ := List.mem_filterMap.1 hx
  exact (s.own r (List.mem_append_left _ hr) x hk).2
 have hdis := List.pairwise_append.1 s.dis
 have hlt : ∀ r ∈ H1, ∀ k, r.key = some k → k < w.heap.size := fun r hr k hk => Res.Ok.lt (s.ok r (List.mem_append_right _ hr)) hk
 have hnk : ∀ r ∈ H1, ∀ k, r.key = some k → k ∉ keysOf Hin := fun r hr k hk hm => by
  obtain ⟨r0, hr0, hk0⟩ := List.mem_filterMap.1 hm
  exact hdis.2.2 r0 hr0 r hr k hk0 hk
 refine { frm := s.frm.transM t.frm hin, sub := t.sub, le := s.le.trans t.le, old := fun k hk => (t.old k (Nat.lt_of_lt_of_le hk s.frm.size)).trans (s.old k hk), ok := ?_, own := ?_, dis := ?_ }
 · intro r hr
   rcases List.mem_append.1 hr with hr | hr
   · exact t.ok r hr
   · exact Res.Ok.keep (s.ok r (List.mem_append_right _ hr)) fun k hk => t.frm.block k (hlt r hr k hk) (hnk r hr k hk)
 · intro r hr k hk
   rcases List.mem_append.1 hr with hr | hr
   · have h1 := t.own r hr k hk
     refine ⟨h1.1, ?_⟩
     rcases h1.2 with h2 | h2
     · exact .inl (Nat.le_trans s.frm.size h2)
     · exact hin k h2
   · have h1 := s.own r (List.mem_append_right _ hr) k hk
     exact ⟨(t.old k (hlt r hr k hk)).trans h1.1, h1.2⟩
 · refine List.pairwise_append.2 ⟨t.dis, hdis.2.1, fun r hr r1 hr1 k hk hk1 => ?_⟩
   rcases (t.own r hr k hk).2 with h2 | h2
   · have := hlt r1 hr1 k hk1
     omega
   · exact hnk r1 hr1 k hk1 h2
def Upon (P : Program) (ops : Array Oper) (Q : Exit → Act → World → Prop) (n : Nat) (D : List Deferred) (w0 : World) (M : List Nat) (h0 : Hp) (rest : List Oper) (d : Nat) (f : Tab) (h : Hp) (H : List Res) : Ending → Prop
 | .returned v => Sy .txt P ops Q n D w0 M h0 rest ((d, v) :: f) h H
 | .panicked ch => Ny Q (.panic ch) n D w0 M h0 f h H
 | .outgrown => False
section calls
variable {d t : Nat} {p : String} {af : Array Edge} {g : Option (Nat × Bool)} {F : Nat} {args : Array Operand} {tys : Array TypeId} {vs : List Value}
theorem sy_callR {X : Type} {rv : X → Ending} {Φ : X → Hp → List Res → Prop} {Hin H1 : List Res} (is : List Nat) (hF : callB P F = true) (hx : f.evs args.toList = some vs) (hp : pickRs is H = some (Hin, H1)) (hc : CR P F vs h Hin rv Φ) (hw : gok ops f g = some true) (hn : Nat.blt d n = true)
    (k : ∀ x h' H', Φ x h' H' → h.Le h' → Upon P ops Q n D w0 M h0 rest d f h' (H' ++ H1) (rv x)) : Sy .txt P ops Q n D w0 M h0 (⟨some d, .call ⟨.value (.func F), args, tys⟩, t, p, af, g⟩ :: rest) f h H :=
 sy_op hw fun a w ha hs => by
  have hs' := hs.swap (pickRs_perm hp)
  unfold Oper.wp
  rw [run_callF hF ha hx]
  refine (hc w hs.sub hs'.own').mono fun e w' ⟨x, h', H', he, hΦ, ht⟩ => ?_
  have hk := k x h' H' hΦ ht.le
  rw [← he] at hk
  cases e with
  | returned v => exact hk _ w' (ha.put d _ hn) (hs'.after ht)
  | panicked ch => exact hk a w' ha (hs'.after ht)
  | outgrown => exact hk.elim
theorem sy_callbR {X : Type} {rv : X → Ending} {fv : Operand} {fs caps : List Value} {Φ : X → Hp → List Res → Prop} {Hin H1 : List Res} (is : List Nat) (hF : callB P F = true) (hf : f.ev fv = some (.func (.func F) fs.toArray caps.toArray)) (hx : f.evs args.toList = some vs) (hp : pickRs is H = some (Hin, H1)) (hc : CR P F (fs ++ vs ++ caps) h Hin rv Φ) (hw : gok ops f g = some true) (hn : Nat.blt d n = true)
    (k : ∀ x h' H', Φ x h' H' → h.Le h' → Upon P ops Q n D w0 M h0 rest d f h' (H' ++ H1) (rv x)) : Sy .txt P ops Q n D w0 M h0 (⟨some d, .call ⟨.value fv, args, tys⟩, t, p, af, g⟩ :: rest) f h H :=
 sy_op hw fun a w ha hs => by
  have hs' := hs.swap (pickRs_perm hp)
  unfold Oper.wp
  rw [run_callB hF ha hf hx]
  refine (hc w hs.sub hs'.own').mono fun e w' ⟨x, h', H', he, hΦ, ht⟩ => ?_
  have hk := k x h' H' hΦ ht.le
  rw [← he] at hk
  cases e with
  | returned v => exact hk _ w' (ha.put d _ hn) (hs'.after ht)
  | panicked ch => exact hk a w' ha (hs'.after ht)
  | outgrown => exact hk.elim
theorem sy_callR1 {X : Type} {rv : X → Value} {Φ : X → Hp → List Res → Prop} {Hin H1 : List Res} (is : List Nat) (hF : callB P F = true) (hx : f.evs args.toList = some vs) (hp : pickRs is H = some (Hin, H1)) (hc : CR P F vs h Hin (fun x => .returned (rv x)) Φ) (hw : gok ops f g = some true) (hn : Nat.blt d n = true)
    (k : ∀ x h' H', Φ x h' H' → h.Le h' → Sy .txt P ops Q n D w0 M h0 rest ((d, rv x) :: f) h' (H' ++ H1)) : Sy .txt P ops Q n D w0 M h0 (⟨some d, .call ⟨.value (.func F), args, tys⟩, t, p, af, g⟩ :: rest) f h H :=
 sy_callR is hF hx hp hc hw hn fun x h' H' hΦ hle => k x h' H' hΦ hle
theorem sy_callbR1 {X : Type} {rv : X → Value} {fv : Operand} {fs caps : List Value} {Φ : X → Hp → List Res → Prop} {Hin H1 : List Res} (is : List Nat) (hF : callB P F = true) (hf : f.ev fv = some (.func (.func F) fs.toArray caps.toArray)) (hx : f.evs args.toList = some vs) (hp : pickRs is H = some (Hin, H1)) (hc : CR P F (fs ++ vs ++ caps) h Hin (fun x => .returned (rv x)) Φ) (hw : gok ops f g = some true) (hn : Nat.blt d n = true)
    (k : ∀ x h' H', Φ x h' H' → h.Le h' → Sy .txt P ops Q n D w0 M h0 rest ((d, rv x) :: f) h' (H' ++ H1)) : Sy .txt P ops Q n D w0 M h0 (⟨some d, .call ⟨.value fv, args, tys⟩, t, p, af, g⟩ :: rest) f h H :=
 sy_callbR is hF hf hx hp hc hw hn fun x h' H' hΦ hle => k x h' H' hΦ hle
end calls
variable {ch : List PanicEntry}
theorem ny_thenP {K : Act → World → Prop} (k : Ny Q (.panic ch) n D w0 M h0 f h H) : Ny (Exit.then K Q) (.panic ch) n D w0 M h0 f h H := k
theorem ny_blockP {i : Nat} (k : Ny Q (.panic ch) n D w0 M h0 f h H) : Ny (Exit.inBlock i Q) (.panic ch) n D w0 M h0 f h H := k
theorem ny_finP {fn : Func} {R : Ending → World → Prop} (k : ∀ w, St w0 M h0 h H w → R (.panicked ch) w) : Ny (bodyPost P fn R) (.panic ch) n [] w0 M h0 f h H := fun a w ha hs => ⟨ha.defers, k w hs⟩
/-! entry -/
theorem enterR {X : Type} {rv : X → Ending} {Φ : X → Hp → List Res → Prop} {F : Nat} {fn : Func} {c : Code} {vs : List Value} (hf : P.funcs[F]? = some fn) (hb : fn.body = some c) (hi : initO 0 vs = some f) (hn : Nat.ble vs.length fn.ntmps = true)
    (k : ∀ w, (∀ x ∈ keysOf H, x < w.heap.size) → Cy P c (bodyPost P fn fun e w' => ∃ x h' H', e = rv x ∧ Φ x h' H' ∧ St w (keysOf H) h h' H' w') fn.ntmps [] w (keysOf H) h f h H) : CR P F vs h H rv Φ :=
 fun w hs ho => enterM hf hb hi hn (St.startN hs ho) (k w ho.lt)
theorem enterRD {X : Type} {rv : X → Ending} {Φ : X → Hp → List Res → Prop} {F : Nat} {fn : Func} {c : Code} {vs : List Value} (hf : P.funcs[F]? = some fn) (hb : fn.body = some c) (hi : initO 0 vs = some f) (hn : Nat.ble vs.length fn.ntmps = true)
    (k : ∀ w, (∀ x ∈ keysOf H, x < w.heap.size) → Cy P c (bodyPostD P fn fun e w' => ∃ x h' H', e = rv x ∧ Φ x h' H' ∧ St w (keysOf H) h h' H' w') fn.ntmps [] w (keysOf H) h f h H) : CR P F vs h H rv Φ :=
 fun w hs ho => enterMD' hf hb hi hn (St.startN hs ho) (k w ho.lt)
/-! more and less -/
theorem CR.mono {X Y : Type} {F : Nat} {vs : List Value} {rv : X → Ending} {rv2 : Y → Ending} {Φ : X → Hp → List Res → Prop} {Ψ : Y → Hp → List Res → Prop} (hc : CR P F vs h H rv Φ) (hk : ∀ x h' H', Φ x h' H' → ∃ y, rv2 y = rv x ∧ Ψ y h' H') : CR P F vs h H rv2 Ψ :=
 fun w hs ho => (hc w hs ho).mono fun e w' ⟨x, h', H', he, hΦ, ht⟩ => by
  obtain ⟨y, h1, h2⟩ := hk x h' H' hΦ
  exact ⟨y, h', H', he.trans h1.symm, h2, ht⟩
end
end Go.Proofs.YtanhhihechakhaaGreatDoor.E
set_option linter.unusedVariables false
set_option linter.unusedSimpArgs false
namespace Go.Proofs.YtanhhihechakhaaGreatDoor.E
open Go.RowKit
theorem run_append_str {P : Program} (w : World) (t u ty e : TypeId) (i : TypeInfo) (ht : P.underlying t = some (.slice e)) (hu : P.underlying u = some .string) (hi : P.info? e = some i) (hz : i.zero = some (.int .u8 0)) (hsize : i.size = 1) (hby : i.bytes = 1)
    (v : Value) (n : Nat) (xs : List Value) (hown : w.ownsRow 0 e 1 v n xs) (s : ByteArray) (h63 : n + s.size ≤ maxLen) (hbytes : n + s.size ≤ 140737488355328) :
    ∃ v' w', (Builtin.append_ #[t, u] ty #[v, .string s]).run P w = .ok v' w' ∧ w'.ownsRow 0 e 1 v' (n + s.size) (xs ++ Lib.strCells s) ∧ w.grownBy w' v.ownBlock ∧ (v'.ownBlock = v.ownBlock ∨ (∃ b, v'.ownBlock = some b ∧ w.heap.size ≤ b) ∨ v'.ownBlock = none) := by
 obtain ⟨v', w', hr, h2, h3, _⟩ := Lib.run_append_own_string (P := P) w 0 t u ty e i ht hu hi hz hsize hby v n xs hown s h63 hbytes (Nat.zero_le _)
 refine ⟨v', w', hr, h2, h3, ?_⟩
 have hsmall : n + s.size ≤ 9223372036854775807 := by simp only [maxLen] at h63; omega
 rcases hown.2 with ⟨rfl, rfl⟩ | ⟨g, cap, cur, rfl, _, hg, hnc, hcm, hcs, htake⟩
 · obtain ⟨v2, w2, hr2, k2, _, _⟩ := Lib.run_append_own_string (P := P) w w.heap.size t u ty e i ht hu hi hz hsize hby (.slice none 0 0) 0 xs ⟨hown.1, .inl ⟨rfl, rfl⟩⟩ s h63 hbytes (Nat.le_refl _)
   rw [hr] at hr2
   injection hr2 with e1 e2
   subst e1 e2
   cases hb : v'.ownBlock with
   | none => exact .inr (.inr rfl)
   | some b => exact .inr (.inl ⟨b, rfl, (World.ownsRow.lt k2 b hb).1⟩)
 · have hxl : xs.length = n := by simpa using hown.1
   by_cases hroom : n + s.size ≤ cap
   · have hcs' : cur.size = cap := by simpa using hcs
     have hr2 := Lib.run_append_room_string (P := P) w t u ty e i ht hu hi hsize g n cap cur hg s hroom (by omega)
     rw [hr] at hr2
     injection hr2 with e1 e2
     subst e1
     exact .inl rfl
   · have holds : ∀ j u, xs[j]? = some u → w.cell? ((⟨g, 0, none⟩ : Addr).add j) = some u := hown.cells (g := g) rfl
     have hr2 := Lib.run_append_grow_string (P := P) w t u ty e i (.int .u8 0) ht hu hi hz ⟨g, 0, none⟩ n cap xs (by rw [hsize]; simpa using hxl) holds s (by omega) (by omega) (by rw [hby]; exact growslice_fits (by omega) (by omega))
     rw [hr] at hr2
     injection hr2 with e1 e2
     subst e1
     exact .inr (.inl ⟨_, rfl, Nat.le_refl _⟩)
section
variable {m : Md} {P : Program} {ops : Array Oper} {Q : Exit → Act → World → Prop} {n : Nat} {D : List Deferred} {w0 : World} {M : List Nat} {h0 : Hp}
variable {f : Tab} {h : Hp} {H : List Res} {rest : List Oper} {o : Oper}
variable {d t s : Nat} {p : String} {af : Array Edge} {g : Option (Nat × Bool)}
def bvs (l : List UInt8) : List Value := l.map fun u => Value.int .u8 (u.toNat : Int)
theorem bvs_append (a b : List UInt8) : bvs (a ++ b) = bvs a ++ bvs b := List.map_append
theorem sy_appendS {x y : Operand} {v : Value} {e l s2 : Nat} {bs : ByteArray} {xs : List Value} {H1 : List Res} (i : Nat) (hr : rowB P s e 1 1 = true) (hz : (P.info? e).map (fun i => i.zero) = some (some (.int .u8 0))) (hu : P.underlying s2 = some .string)
    (hx : f.ev x = some v) (hp : pickR i H = some (.row v e 1 l xs, H1)) (hy : f.ev y = some (.string bs)) (hb : l + bs.size ≤ 140737488355328) (hw : gok ops f g = some true) (hn : Nat.blt d n = true)
    (k : ∀ v', Sy .txt P ops Q n D w0 M h0 rest ((d, v') :: f) h (.row v' e 1 (l + bs.size) (xs ++ bvs bs.data.toList) :: H1)) :
    Sy .txt P ops Q n D w0 M h0 (⟨some d, .call ⟨.builtin .append, #[x, y], #[s, s2]⟩, t, p, af, g⟩ :: rest) f h H :=
 sy_op hw fun a w ha hs => by
  obtain ⟨h2, inf, z, h3, h4, h5, h6, h7⟩ := row_spec hr
  have hz0 : inf.zero = some (.int .u8 0) := by
   rw [h3] at hz
   simpa using hz
  have hs' := hs.swap (pickR_perm hp)
  have ho : w.ownsRow 0 e 1 v l xs := hs'.ok _ (List.mem_cons_self)
  obtain ⟨v', w', hrun, ho', hg, hat⟩ := run_append_str (P := P) w s s2 t e inf h2 hu h3 hz0 h5 h6 v l xs ho bs (by simp only [maxLen]; omega) hb
  have hrun' : (execOp a.eval ⟨some d, .call ⟨.builtin .append, #[x, y], #[s, s2]⟩, t, p, af, g⟩).run P w = .ok (.value v') w' := by
   simp only [execOp, resolve, invoke, builtin, Sem.run_bind, Sem.run_pure, Result.andThen_ok, List.map_toArray, List.map_cons, List.map_nil, ha.ev hx, ha.ev hy, hrun]
  unfold Oper.wp
  rw [hrun']
  exact k v' _ w' (ha.put d _ hn) (hs'.rowed hg ho' hat)
theorem sy_fromUns {x : Operand} {b e s2 u : Nat} {cs : List Value} {fr : Nat × Nat} {H1 : List Res} (i : Nat) (hs : P.underlying s = some .unsafePointer) (hd : P.underlying s2 = some (.pointer u)) (hinf : (P.info? u).isSome = true) (hl : liesAt P P.depth e (cs.length / P.cellsOf e) 0 u 1 = true)
    (hx : f.ev x = some (.pointer (some ⟨b, 0, none⟩))) (hp : pickR i H = some (.blk b (.cells cs.toArray e fr), H1)) (hw : gok ops f g = some true) (hn : Nat.blt d n = true)
    (k : Sy m P ops Q n D w0 M h0 rest ((d, .pointer (some ⟨b, 0, none⟩)) :: f) h H) : Sy m P ops Q n D w0 M h0 (⟨some d, .convert s s2 x, t, p, af, g⟩ :: rest) f h H :=
 sy_val hw rfl hn (fun a w ha hs' => by
  have hb : w.heap[b]? = some (.cells cs.toArray e fr) := (hs'.swap (pickR_perm hp)).ok _ (List.mem_cons_self)
  have hsh : w.shape? (⟨b, 0, none⟩ : Addr).block = some (e, cs.length) := by simp [World.shape?, hb]
  obtain ⟨j, hj⟩ := Option.isSome_iff_exists.1 hinf
  have h1 := Lib.run_from_unsafe (P := P) w ⟨b, 0, none⟩ hs hd hj hsh hl
  simp only [execOp, ha.ev hx, Sem.run_bind, h1, Result.andThen_ok, Sem.run_pure]) k
theorem sy_neSame {x y : Operand} {b te s2 : Nat} (hs : P.underlying s = some (.pointer te)) (hinf : (P.info? te).isSome = true) (hx : f.ev x = some (.pointer (some ⟨b, 0, none⟩))) (hy : f.ev y = some (.pointer (some ⟨b, 0, none⟩))) (hw : gok ops f g = some true) (hn : Nat.blt d n = true)
    (k : Sy m P ops Q n D w0 M h0 rest ((d, .bool false) :: f) h H) : Sy m P ops Q n D w0 M h0 (⟨some d, .binOp .neq s x y s2, t, p, af, g⟩ :: rest) f h H := by
 obtain ⟨j, hj⟩ := Option.isSome_iff_exists.1 hinf
 refine sy_val hw rfl hn (fun a w ha _ => ?_) k
 have h1 := Lib.run_neq_ptr_same (P := P) w ⟨b, 0, none⟩ hs hj
 simp [execOp, ha.ev hx, ha.ev hy, eqGuard_at_pointer, h1]
theorem cy_rowblk {c : Code} {v : Value} {e l : Nat} {xs : List Value} {H1 : List Res} (i : Nat) (hp : pickR i H = some (.row v e 1 l xs, H1)) (hl0 : l ≠ 0) (k : ∀ b c', v = .slice (some ⟨b, 0, none⟩) l c' → c' ≠ 0 → Cy P c Q n D w0 M h0 f h H) : Cy P c Q n D w0 M h0 f h H := fun a w ha hs => by
 have hs' := hs.swap (pickR_perm hp)
 have ho : w.ownsRow 0 e 1 v l xs := hs'.ok _ (List.mem_cons_self)
 rcases ho.2 with ⟨_, h1⟩ | ⟨gg, cap, cur, hv, _, _, hnc, _⟩
 · exact absurd h1 hl0
 · exact k gg cap hv (by omega) a w ha hs
theorem sy_sliceData {x : Operand} {A : Addr} {l c : Nat} (hx : f.ev x = some (.slice (some A) l c)) (hc : c ≠ 0) (hw : gok ops f g = some true) (hn : Nat.blt d n = true)
    (k : Sy m P ops Q n D w0 M h0 rest ((d, .pointer (some A)) :: f) h H) : Sy m P ops Q n D w0 M h0 (⟨some d, .call ⟨.builtin .unsafeSliceData, #[x], #[s]⟩, t, p, af, g⟩ :: rest) f h H :=
 sy_val hw rfl hn (fun a w ha _ => by
  have h1 := Lib.run_unsafeSliceData_row (P := P) w #[s] t A l c hc
  simp only [execOp, resolve, invoke, builtin, Sem.run_bind, Sem.run_pure, Result.andThen_ok, List.map_toArray, List.map_cons, List.map_nil, ha.ev hx, h1]) k
theorem St.letgo {w w' : World} {r : Res} {H1 : List Res} {b : Nat} (s : St w0 M h0 h (r :: H1) w) (hk : r.key = some b) (hf : Frm w [b] w') : St w0 M h0 h H1 w' := by
 have hown := s.own _ (List.mem_cons_self) b hk
 refine { frm := s.frm.transM hf (fun x hx => by simp only [List.mem_singleton] at hx; subst hx; exact hown.2), sub := ?_, le := s.le, old := s.old, ok := ?_, own := fun r hr => s.own r (List.mem_cons_of_mem _ hr), dis := (List.pairwise_cons.1 s.dis).2 }
 · intro k o1 hk1
   have : k ≠ b := by rintro rfl; rw [hown.1] at hk1; cases hk1
   exact (hf.block k (Array.getElem?_eq_some_iff.1 (s.sub k o1 hk1)).1 (by simpa using this)).trans (s.sub k o1 hk1)
 · intro r1 hr
   have h1 := s.ok r1 (List.mem_cons_of_mem _ hr)
   refine Res.Ok.keep h1 fun k hk1 => hf.block k (Res.Ok.lt h1 hk1) ?_
   have h2 := (List.pairwise_cons.1 s.dis).1 r1 hr b hk
   simp only [List.mem_singleton]
   rintro rfl
   exact h2 hk1
theorem frm_freeze (w : World) (b n : Nat) : Frm w [b] (w.freeze ⟨b, 0, none⟩ n) := by
 unfold World.freeze
 split
 · exact Frm.refl w _
 refine ⟨rfl, rfl, rfl, by simp, fun k hk hm => ?_⟩
 simp only [List.mem_singleton] at hm
 have hne : ¬ b = k := fun e => hm e.symm
 simp [Array.getElem?_modify, hne]
theorem sy_unsafeStr {x y : Operand} {b c e l s2 : Nat} {bs : List UInt8} {H1 : List Res} (i : Nat) (hs : P.underlying s = some (.pointer e)) (hce : P.cellsOf e = 1) (hx : f.ev x = some (.pointer (some ⟨b, 0, none⟩))) (hy : f.ev y = some (.int .i64 (l : Int))) (hp : pickR i H = some (.row (.slice (some ⟨b, 0, none⟩) l c) e 1 l (bvs bs), H1)) (h0' : l ≠ 0) (hl : bs.length = l)
    (hw : gok ops f g = some true) (hn : Nat.blt d n = true) (k : Sy .txt P ops Q n D w0 M h0 rest ((d, .string ⟨bs.toArray⟩) :: f) h H1) : Sy .txt P ops Q n D w0 M h0 (⟨some d, .call ⟨.builtin .unsafeString, #[x, y], #[s, s2]⟩, t, p, af, g⟩ :: rest) f h H :=
 sy_op hw fun a w ha hs' => by
  subst hl
  have hsw := hs'.swap (pickR_perm hp)
  have ho : w.ownsRow 0 e 1 (.slice (some ⟨b, 0, none⟩) bs.length c) bs.length (bvs bs) := hsw.ok _ (List.mem_cons_self)
  obtain ⟨cap, cur, hg, hnc, hcm, hcs⟩ : ∃ cap cur, w.heap[b]? = some (.cells cur e (0, 0)) ∧ bs.length ≤ cap ∧ cap ≤ maxLen ∧ cur.size = cap * 1 := by
   rcases ho.2 with ⟨h1, _⟩ | ⟨gg, cap, cur, hv, _, h3, h4, h5, h6, _⟩
   · cases h1
   · injection hv with e1 e2 e3
     injection e1 with e1
     injection e1 with e1
     subst e1
     exact ⟨cap, cur, h3, h4, h5, h6⟩
  have hrun := Lib.run_unsafeString_row (P := P) w s s2 t e hs hce b cur.size (by simp [World.shape?, hg]) bs (by intro h9; rw [h9] at h0'; exact h0' rfl) (by omega) (by simp only [maxLen] at hcm; omega) (fun j x hj => by
   have := ho.cells (g := b) rfl j (.int .u8 (x.toNat : Int)) (by unfold bvs; rw [List.getElem?_map, hj]; rfl)
   exact this)
  have hrun' : (execOp a.eval ⟨some d, .call ⟨.builtin .unsafeString, #[x, y], #[s, s2]⟩, t, p, af, g⟩).run P w = .ok (.value (.string ⟨bs.toArray⟩)) (w.freeze ⟨b, 0, none⟩ bs.length) := by
   simp only [execOp, resolve, invoke, builtin, Sem.run_bind, Sem.run_pure, Result.andThen_ok, List.map_toArray, List.map_cons, List.map_nil, ha.ev hx, ha.ev hy, hrun]
  unfold Oper.wp
  rw [hrun']
  exact k _ _ (ha.put d _ hn) (hsw.letgo rfl (frm_freeze w b _))
end
end Go.Proofs.YtanhhihechakhaaGreatDoor.E
set_option linter.unusedVariables false
set_option linter.unusedSimpArgs false
namespace Go.Proofs.YtanhhihechakhaaGreatDoor
open Go.RowKit Go.Proofs.YtanhhihechakhaaGreatDoor.E Go.Proofs.YtanhhihechakhaaGreatDoor.ReplP Go.Proofs.YtanhhihechakhaaGreatDoor.TokP
set_option maxRecDepth 100000 in
theorem copy_fresh (b : Nat) (v : Value) (h : Hp) : CM Tryz.prog 48 [.pointer (some ⟨b, 0, none⟩)] h b (.cells [.pointer none, v].toArray 53 (0, 0)) (.tuple #[]) (.cells [.pointer (some ⟨b, 0, none⟩), v].toArray 53 (0, 0)) := by
 refine enter1 Tryz.func48 rfl rfl rfl (fun w hb0 => ?_)
 refine cy_seq ?_
 refine cy_region ?_
 refine sy_move rfl rfl rfl ?_
 refine sy_nilCheck rfl rfl rfl ?_
 refine sy_field fld_53_0 rfl rfl rfl ?_
 first | refine sy_ldr 0 one_51 rfl rfl rfl rfl rfl ?_
 refine sy_eqp Tryz.underlying51 rfl rfl rfl rfl rfl ?_
 refine sy_setT (d := 6) rfl rfl rfl ?_
 refine sy_nil rfl ?_
 refine ny_next ?_
 refine cy_condT rfl ?_
 refine cy_region ?_
 refine sy_move rfl rfl rfl ?_
 refine sy_move rfl rfl rfl ?_
 refine sy_unsafe (v := .pointer none) Tryz.underlying51 Tryz.underlying97 (by kernel_rfl) rfl (fun w hs => St.cellR 0 rfl rfl hs) rfl rfl ?_
 refine sy_exq rfl (fun w hs => ext_run (e := Extern.AbiNoEscape.same) Tryz.func64 (by kernel_rfl) (by kernel_rfl) (by kernel_rfl) (by kernel_rfl) (Lib.run_noEscape w _)) rfl rfl ?_
 refine sy_fromUns 0 Tryz.underlying97 Tryz.underlying51 (by kernel_rfl) (show liesAt Tryz.prog Tryz.prog.depth 53 (2 / Tryz.prog.cellsOf 53) 0 53 1 = true by kernel_rfl) rfl rfl rfl rfl ?_
 refine sy_nilCheck rfl rfl rfl ?_
 refine sy_field fld_53_0 rfl rfl rfl ?_
 first | refine sy_stl 0 sz_51 rfl rfl rfl rfl rfl rfl rfl rfl ?_
 refine sy_nil rfl ?_
 exact ny_fin (res0 rfl) (fun w hs => ⟨rfl, hs.frm, hs.ok _ (List.mem_cons_self)⟩)
set_option maxRecDepth 100000 in
theorem copy_used (b : Nat) (v : Value) (h : Hp) : CM Tryz.prog 48 [.pointer (some ⟨b, 0, none⟩)] h b (.cells [.pointer (some ⟨b, 0, none⟩), v].toArray 53 (0, 0)) (.tuple #[]) (.cells [.pointer (some ⟨b, 0, none⟩), v].toArray 53 (0, 0)) := by
 refine enter1 Tryz.func48 rfl rfl rfl (fun w hb0 => ?_)
 refine cy_seq ?_
 refine cy_region ?_
 refine sy_move rfl rfl rfl ?_
 refine sy_nilCheck rfl rfl rfl ?_
 refine sy_field fld_53_0 rfl rfl rfl ?_
 first | refine sy_ldr 0 one_51 rfl rfl rfl rfl rfl ?_
 refine sy_eqp Tryz.underlying51 rfl rfl rfl rfl rfl ?_
 refine sy_setF (d := 6) rfl rfl rfl ?_
 refine sy_nil rfl ?_
 refine ny_next ?_
 refine cy_condF rfl ?_
 refine cy_seq ?_
 refine cy_region ?_
 refine sy_move rfl rfl rfl ?_
 refine sy_nilCheck rfl rfl rfl ?_
 refine sy_field fld_53_0 rfl rfl rfl ?_
 first | refine sy_ldr 0 one_51 rfl rfl rfl rfl rfl ?_
 refine sy_move rfl rfl rfl ?_
 refine sy_neSame Tryz.underlying51 (by kernel_rfl) rfl rfl rfl rfl ?_
 refine sy_setF (d := 19) rfl rfl rfl ?_
 refine sy_nil rfl ?_
 refine ny_next ?_
 refine cy_condF rfl ?_
 refine cy_skip ?_
 exact ny_fin (res0 rfl) (fun w hs => ⟨rfl, hs.frm, hs.ok _ (List.mem_cons_self)⟩)
def PSt (b : Nat) (p : Value) : Prop := p = .pointer none ∨ p = .pointer (some ⟨b, 0, none⟩)
theorem copy_c (b : Nat) (p v : Value) (h : Hp) (hp : PSt b p) : CM Tryz.prog 48 [.pointer (some ⟨b, 0, none⟩)] h b (.cells [p, v].toArray 53 (0, 0)) (.tuple #[]) (.cells [.pointer (some ⟨b, 0, none⟩), v].toArray 53 (0, 0)) := by
 rcases hp with rfl | rfl
 · exact copy_fresh b v h
 · exact copy_used b v h
set_option maxRecDepth 100000 in
theorem writeString_c (b : Nat) (p v : Value) (xs : List UInt8) (s : ByteArray) (h : Hp) (hp : PSt b p) (hz : xs.length + s.size ≤ 140737488355328) : CR Tryz.prog 31 [.pointer (some ⟨b, 0, none⟩), .string s] h [.blk b (.cells [p, v].toArray 53 (0, 0)), .row v 5 1 (xs).length (bvs (xs))] (fun _ : Value => .returned (.tuple #[.int .i64 (s.size : Int), .nilIface])) (fun v' h' H' => h = h' ∧ H' = [.blk b (.cells [.pointer (some ⟨b, 0, none⟩), v'].toArray 53 (0, 0)), .row v' 5 1 (xs ++ s.data.toList).length (bvs (xs ++ s.data.toList))]) := by
 refine enterR Tryz.func31 rfl rfl rfl (fun w hb0 => ?_)
 refine cy_seq ?_
 refine cy_region ?_
 refine sy_assign rfl rfl rfl ?_
 refine sy_assign rfl rfl rfl ?_
 refine sy_nil rfl ?_
 refine ny_next ?_
 refine cy_seq ?_
 refine cy_region ?_
 refine sy_move rfl rfl rfl ?_
 refine sy_callm 0 call_48 rfl rfl (copy_c b p v h hp) rfl rfl ?_
 refine sy_nil rfl ?_
 refine ny_next ?_
 refine cy_seq ?_
 refine cy_region ?_
 refine sy_move rfl rfl rfl ?_
 refine sy_move rfl rfl rfl ?_
 refine sy_nilCheck rfl rfl rfl ?_
 refine sy_field fld_53_1 rfl rfl rfl ?_
 refine sy_ldr 0 one_40 rfl rfl rfl rfl rfl ?_
 refine sy_move rfl rfl rfl ?_
 refine sy_appendS 1 row_40 (by kernel_rfl) Tryz.underlying9 rfl rfl rfl hz rfl rfl (fun v14 => ?_)
 refine sy_rowform 0 rfl (fun A14 c14 hv14 => ?_)
 subst hv14
 refine sy_nilCheck rfl rfl rfl ?_
 refine sy_field fld_53_1 rfl rfl rfl ?_
 refine sy_stl 1 sz_40 rfl rfl rfl rfl rfl rfl rfl rfl ?_
 refine sy_nil rfl ?_
 refine ny_next ?_
 refine cy_seq ?_
 refine cy_region ?_
 refine sy_move rfl rfl rfl ?_
 refine sy_len rfl (len_string Tryz.underlying9 _) rfl rfl ?_
 refine sy_assign rfl rfl rfl ?_
 refine sy_assign rfl rfl rfl ?_
 refine sy_nil rfl ?_
 refine ny_next ?_
 refine cy_ret ?_
 refine ny_finR (res2 rfl rfl rfl) (fun w hs => ⟨.slice A14 (xs.length + s.size) c14, h, _, rfl, ⟨rfl, ?_⟩, hs⟩)
 rw [bvs_append, List.length_append]
 rfl
set_option maxRecDepth 100000 in
theorem string_c (b : Nat) (p v : Value) (xs : List UInt8) (h : Hp) (hb : h b = some (.cells [p, v].toArray 53 (0, 0))) (hx : xs ≠ []) : CR Tryz.prog 32 [.pointer (some ⟨b, 0, none⟩)] h [.row v 5 1 (xs).length (bvs (xs))] (fun _ : Unit => .returned (.string ⟨xs.toArray⟩)) (fun _ h' H' => h = h' ∧ H' = []) := by
 refine enterR Tryz.func32 rfl rfl rfl (fun w hb0 => ?_)
 refine cy_seq ?_
 refine cy_region ?_
 refine sy_assign rfl rfl rfl ?_
 refine sy_nil rfl ?_
 refine ny_next ?_
 refine cy_seq ?_
 have hx0 : xs.length ≠ 0 := by simpa using hx
 refine cy_rowblk 0 rfl hx0 (fun g c hv hc => ?_)
 subst hv
 refine cy_regionA mixed ?_
 refine zy_q 0 rfl (by kernel_rfl) (fun hB1_0 => ?_)
 refine sy_move rfl rfl rfl ?_
 refine sy_nil1 (ny_zq hB1_0 ?_)
 refine zy_q 1 rfl (by kernel_rfl) (fun hB1_1 => ?_)
 refine sy_nilCheck rfl rfl rfl ?_
 refine sy_nil1 (ny_zq hB1_1 ?_)
 refine zy_q 2 rfl (by kernel_rfl) (fun hB1_2 => ?_)
 refine sy_field fld_53_1 rfl rfl rfl ?_
 refine sy_nil1 (ny_zq hB1_2 ?_)
 refine zy_q 3 rfl (by kernel_rfl) (fun hB1_3 => ?_)
 refine sy_ldh one_40 rfl (Hp.blk hb 1 _ rfl) rfl rfl ?_
 refine sy_nil1 (ny_zq hB1_3 ?_)
 refine zy_q 5 rfl (by kernel_rfl) (fun hB1_5 => ?_)
 refine sy_move rfl rfl rfl ?_
 refine sy_nil1 (ny_zq hB1_5 ?_)
 refine zy_q 6 rfl (by kernel_rfl) (fun hB1_6 => ?_)
 refine sy_nilCheck rfl rfl rfl ?_
 refine sy_nil1 (ny_zq hB1_6 ?_)
 refine zy_q 7 rfl (by kernel_rfl) (fun hB1_7 => ?_)
 refine sy_field fld_53_1 rfl rfl rfl ?_
 refine sy_nil1 (ny_zq hB1_7 ?_)
 refine zy_q 8 rfl (by kernel_rfl) (fun hB1_8 => ?_)
 refine sy_ldh one_40 rfl (Hp.blk hb 1 _ rfl) rfl rfl ?_
 refine sy_nil1 (ny_zq hB1_8 ?_)
 refine zy_q 9 rfl (by kernel_rfl) (fun hB1_9 => ?_)
 refine sy_len rfl (len_slice Tryz.underlying40 _ _ _) rfl rfl ?_
 refine sy_nil1 (ny_zq hB1_9 ?_)
 refine zy_1 4 (by kernel_rfl) ?_
 refine zop_run rfl rfl (fun hB1_4 => ?_)
 refine sy_sliceData rfl hc rfl rfl ?_
 refine sy_nil rfl (ny_zy hB1_4 (Hp.Le.refl _) ?_)
 refine zy_1 10 (by kernel_rfl) ?_
 refine zop_run rfl rfl (fun hB1_10 => ?_)
 refine sy_unsafeStr 0 Tryz.underlying75 (by kernel_rfl) rfl rfl rfl hx0 rfl rfl rfl ?_
 refine sy_nil rfl (ny_zy hB1_10 (Hp.Le.refl _) ?_)
 refine zy_q 11 rfl (by kernel_rfl) (fun hB1_11 => ?_)
 refine sy_assign rfl rfl rfl ?_
 refine sy_nil1 (ny_zq hB1_11 ?_)
 refine zy_done (by kernel_rfl) ?_
 refine ny_next ?_
 refine cy_ret ?_
 exact ny_finR (res1 rfl rfl) (fun w hs => ⟨(), h, _, rfl, ⟨rfl, rfl⟩, hs⟩)
end Go.Proofs.YtanhhihechakhaaGreatDoor

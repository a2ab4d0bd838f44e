/- The engine, the plain laws and the walks of this seat, part 2: what the functions answer. Conditions: as each says; printed by programs of this session. -/
import Derived.Lib.AppendStr
import Derived.Lib.UnsafeStr
import Derived.Lib.Builder
import Derived.Shelf.Strings.Builder1
import Derived.Shelf.Strings.Builder2
import Derived.Shelf.Strings.OnBuilder
import Derived.Shelf.Small.Strs
import Derived.Shelf.Strconv.Itoa0
import Derived.Shelf.Strconv.Itoa1
import Derived.Shelf.LaysM
import Derived.Shelf.Strconv.Itoa2
import Derived.Shelf.Strconv.Itoa3
import Derived.Shelf.Strconv.Itoa4
import Derived.Shelf.Strings.Search1
import Derived.Shelf.Strings.Search2
import Derived.Shelf.Strings.Search3
import Derived.Shelf.Strings.Count
import Derived.Shelf.Strings.Shaped
import Derived.Shelf.Slices.Turned
import Derived.Test.YtanhhihechakhaaGreatDoorProg
import Derived.Lib.AppendIntMem
import Derived.Lib.ItoaNum
import Derived.Stop.Asserts
import Derived.Laws.Externs
import Derived.Lib.Join
import Derived.Test.YtanhhihechakhaaGreatDoorRows
import Derived.LaidMore
import Derived.LaidSub
import Derived.LaidHandle
import Derived.Stop.Joined
import Derived.Deep.Slices
import Derived.Test.YtanhhihechakhaaGreatDoorMa
set_option linter.unusedVariables false
set_option linter.unusedSimpArgs false
namespace Go.Proofs.YtanhhihechakhaaGreatDoor
open Go.RowKit Go.Proofs.YtanhhihechakhaaGreatDoor.E Go.Proofs.YtanhhihechakhaaGreatDoor.ReplP
theorem cntX (s : ByteArray) (c : UInt8) (w : World) : (callFunc 208 #[.string s, .int .u8 (c.toNat : Int)]).run Tryz.prog w = .ok (.value (.int .i64 ((s.data.toList.count c : Nat) : Int))) w := by
 have h1 := Lib.run_countString (P := Tryz.prog) s (c.toNat : Int) w
 have e : (c.toNat : Int).toNat.toUInt8 = c := by simp
 rw [e] at h1
 exact ext_run (e := Extern.BytealgCount.count) Tryz.func208 (by kernel_rfl) (by kernel_rfl) (by kernel_rfl) (by kernel_rfl) h1
set_option maxRecDepth 100000 in
theorem count_c (s : ByteArray) (c : UInt8) (h : Hp) : C0 Tryz.prog 206 [.string s, .string ⟨#[c]⟩] h (.int .i64 ((s.data.toList.count c : Nat) : Int)) := by
 refine enter0 Tryz.func206 rfl rfl rfl (fun w => ?_)
 refine cy_seq ?_
 refine cy_region ?_
 refine sy_assign rfl rfl rfl ?_
 refine sy_nil rfl ?_
 refine ny_next ?_
 refine cy_seq ?_
 refine cy_seq ?_
 refine cy_region ?_
 refine sy_move rfl rfl rfl ?_
 refine sy_len rfl (len_string Tryz.underlying9 _) rfl rfl ?_
 refine sy_cmp rfl rfl rfl rfl rfl ?_
 refine sy_setF (d := 9) rfl rfl rfl ?_
 refine sy_nil rfl ?_
 refine ny_next ?_
 refine cy_condF rfl ?_
 refine cy_skip ?_
 refine ny_next ?_
 refine cy_seq ?_
 refine cy_seq ?_
 refine cy_region ?_
 refine sy_move rfl rfl rfl ?_
 refine sy_len rfl (len_string Tryz.underlying9 _) rfl rfl ?_
 refine sy_cmp rfl rfl rfl rfl rfl ?_
 refine sy_setT (d := 15) rfl rfl rfl ?_
 refine sy_nil rfl ?_
 refine ny_next ?_
 refine cy_condT rfl ?_
 refine cy_seq ?_
 refine cy_region ?_
 refine sy_move rfl rfl rfl ?_
 refine sy_move rfl rfl rfl ?_
 refine sy_idxs (u := c) Tryz.underlying9 rfl rfl (by decide) rfl rfl rfl ?_
 refine sy_exq rfl (fun w hs => cntX s c w) rfl rfl ?_
 refine sy_assign rfl rfl rfl ?_
 refine sy_nil rfl ?_
 refine ny_next ?_
 refine cy_ret ?_
 refine ny_thenR ?_
 refine ny_finR (res1 rfl rfl) (fun w hs => ⟨?_, hs.frm⟩)
 rfl
set_option maxRecDepth 100000 in
theorem bsr_c (x : Nat) (s : ByteArray) (h : Hp) (hR : ReplT h 205 x) (hs : s.size ≤ 140737488355328) : C0 Tryz.prog 204 [.pointer (some ⟨x, 0, none⟩), .string s] h (.string ⟨(repl s.data.toList).toArray⟩) := by
 obtain ⟨rA, rk, A3, k3, hX, hN, hS, h3⟩ := hR
 refine enter0 Tryz.func204 rfl rfl rfl (fun w => ?_)
 refine cy_seq ?_
 refine cy_region ?_
 refine sy_assign rfl rfl rfl ?_
 refine sy_nil rfl ?_
 refine ny_next ?_
 refine cy_seq ?_
 refine cy_region ?_
 refine sy_move rfl rfl rfl ?_
 refine sy_len rfl (len_string Tryz.underlying9 _) rfl rfl ?_
 refine sy_assign rfl rfl rfl ?_
 refine sy_nil rfl ?_
 refine ny_next ?_
 refine cy_seq ?_
 refine cy_region ?_
 refine sy_assign rfl rfl rfl ?_
 refine sy_nil rfl ?_
 refine ny_next ?_
 refine cy_seq ?_
 refine cy_seq ?_
 refine cy_region ?_
 refine sy_move rfl rfl rfl ?_
 refine sy_nilCheck rfl rfl rfl ?_
 refine sy_field fld_205_1 rfl rfl rfl ?_
 refine sy_ldh one_37 rfl (Hp.blk hX 256 _ (rT_last _ _)) rfl rfl ?_
 refine sy_len rfl (len_slice Tryz.underlying37 _ _ _) rfl rfl ?_
 refine sy_muli (z := 24) rfl rfl rfl (by decide) (by decide) rfl rfl ?_
 refine sy_move rfl rfl rfl ?_
 refine sy_len rfl (len_string Tryz.underlying9 _) rfl rfl ?_
 refine sy_cmp rfl rfl rfl rfl rfl ?_
 refine sy_nil rfl ?_
 refine ny_next ?_
 refine cy_cond rfl (fun hc26 => ?_) (fun hc26 => ?_)
 · refine cy_seq ?_
   refine cy_region ?_
   refine sy_move rfl rfl rfl ?_
   refine sy_nilCheck rfl rfl rfl ?_
   refine sy_field fld_205_1 rfl rfl rfl ?_
   refine sy_ldh one_37 rfl (Hp.blk hX 256 _ (rT_last _ _)) rfl rfl ?_
   refine sy_len rfl (len_slice Tryz.underlying37 _ _ _) rfl rfl ?_
   refine sy_move rfl rfl rfl ?_
   refine sy_nil rfl ?_
   refine ny_next ?_
   refine cy_block ?_
   refine cy_loopK (ι := Nat) [0, 1, 30, 31] rfl (fun i => i ≤ 3) (fun i => 3 - i) (fun i => [(5, .int .i64 ((s.size + cntS s.data.toList i : Nat) : Int)), (6, .bool (anyS s.data.toList i)), (32, .int .i64 (i : Int))]) (fun i => h) (fun i => []) 0 [] (Nat.zero_le _) ⟨rfl, rfl, rfl, trivial⟩ rfl rfl ?_
   rintro i hI
   have hcs := cntS_le s.data.toList i
   refine cy_seq ?_
   refine cy_region ?_
   refine sy_cmp rfl rfl rfl rfl rfl ?_
   refine sy_nil rfl ?_
   refine ny_next ?_
   refine cy_seq ?_
   refine cy_cond rfl (fun hc33 => ?_) (fun hc33 => ?_)
   · have hlti : i < 3 := by have := of_decide_eq_true hc33; omega
     refine cy_skip ?_
     refine ny_next ?_
     refine cy_seq ?_
     refine cy_block ?_
     refine cy_seq ?_
     refine cy_region ?_
     refine sy_idxR (fc := (fun c => [Value.string ⟨#[c]⟩])) (es := sps) els_37 rfl rfl h3 rfl (by omega) rfl rfl (fun e34 b34 o34 he34 hA34 hc34 => ?_)
     refine sy_ldh one_9 rfl (hc34 0 _ rfl) rfl rfl ?_
     refine sy_assign rfl rfl rfl ?_
     refine sy_nil rfl ?_
     refine ny_next ?_
     refine cy_seq ?_
     refine cy_region ?_
     refine sy_move rfl rfl rfl ?_
     refine sy_move rfl rfl rfl ?_
     refine sy_call rfl call_206 rfl (count_c s e34 _) rfl rfl ?_
     have hcl := count_len s.data.toList e34
     have hsz : s.data.toList.length = s.size := rfl
     have hsp := sps_sp he34
     have hr2 := rep_len hsp
     refine sy_assign rfl rfl rfl ?_
     refine sy_nil rfl ?_
     refine ny_next ?_
     refine cy_seq ?_
     refine cy_region ?_
     refine sy_move rfl rfl rfl ?_
     refine sy_cmp rfl rfl rfl rfl rfl ?_
     refine sy_nil rfl ?_
     refine ny_next ?_
     refine cy_cond rfl (fun hc40 => ?_) (fun hc40 => ?_)
     · have hne : s.data.toList.count e34 ≠ 0 := by intro h9; rw [h9] at hc40; simp at hc40
       refine cy_seq ?_
       refine cy_regionQ mixed (by kernel_rfl) ?_
       refine sy_move rfl rfl rfl ?_
       refine sy_move rfl rfl rfl ?_
       refine sy_move rfl rfl rfl ?_
       refine sy_move rfl rfl rfl ?_
       refine sy_idxs (u := e34) Tryz.underlying9 rfl rfl (by decide) rfl rfl rfl ?_
       refine sy_nilCheck rfl rfl rfl ?_
       refine sy_field fld_205_0 rfl rfl rfl ?_
       refine sy_idxU (u := e34) arr_203 rfl rfl (by have := e34.toNat_lt; omega) rfl rfl ?_
       refine sy_ldh one_40 rfl (Hp.blk0 hX e34.toNat (rT_get _ _ e34)) rfl rfl ?_
       refine sy_len rfl (len_slice Tryz.underlying40 _ _ _) rfl rfl ?_
       refine sy_subi (z := 1) rfl rfl (by omega) (by omega) (by omega) rfl rfl ?_
       refine sy_muli (z := ((s.data.toList.count e34 : Nat) : Int)) rfl rfl (by omega) (by omega) (by omega) rfl rfl ?_
       refine sy_addi (z := ((s.size + cntS s.data.toList i + s.data.toList.count e34 : Nat) : Int)) rfl rfl (by omega) (by omega) (by omega) rfl rfl ?_
       refine sy_assign rfl rfl rfl ?_
       refine sy_nil rfl ?_
       refine ny_next ?_
       refine cy_region ?_
       refine sy_assign rfl rfl rfl ?_
       refine sy_nil rfl ?_
       refine ny_blockN ?_
       refine ny_next ?_
       refine cy_region ?_
       refine sy_addi (z := ((i + 1 : Nat) : Int)) rfl rfl (by omega) (by omega) (by omega) rfl rfl ?_
       refine sy_move rfl rfl rfl ?_
       refine sy_nil rfl ?_
       refine ny_roundK [0, 1, 30, 31] (i + 1) [] (show i + 1 ≤ 3 by omega) (show 3 - (i + 1) < 3 - i by omega) rfl ⟨congrArg (fun z : Nat => some (Value.int .i64 (z : Int))) (by rw [cntS_succ he34]; omega), congrArg (fun b => some (Value.bool b)) (by rw [anyS_succ he34, decide_eq_true hne, Bool.or_true]), rfl, trivial⟩ rfl rfl
     · have heq : s.data.toList.count e34 = 0 := by simpa using hc40
       refine cy_skip ?_
       refine ny_blockN ?_
       refine ny_next ?_
       refine cy_region ?_
       refine sy_addi (z := ((i + 1 : Nat) : Int)) rfl rfl (by omega) (by omega) (by omega) rfl rfl ?_
       refine sy_move rfl rfl rfl ?_
       refine sy_nil rfl ?_
       refine ny_roundK [0, 1, 30, 31] (i + 1) [] (show i + 1 ≤ 3 by omega) (show 3 - (i + 1) < 3 - i by omega) rfl ⟨congrArg (fun z : Nat => some (Value.int .i64 (z : Int))) (by rw [cntS_succ he34, heq]; rfl), congrArg (fun b => some (Value.bool b)) (by rw [anyS_succ he34, heq]; simp), rfl, trivial⟩ rfl rfl
   · have hie : i = 3 := by have := of_decide_eq_false hc33; omega
     subst hie
     rw [show s.size + cntS s.data.toList 3 = (repl s.data.toList).length from cntS_all s.data.toList, anyS_all]
     refine cy_exit ?_
     refine ny_thenE ?_
     refine ny_thenE ?_
     refine ny_blockX ?_
     refine ny_next ?_
     refine cy_seq ?_
     refine cy_seq ?_
     refine cy_region ?_
     refine sy_move rfl rfl rfl ?_
     refine sy_not rfl rfl rfl ?_
     refine sy_nil rfl ?_
     refine ny_next ?_
     refine cy_cond rfl (fun hc82 => ?_) (fun hc82 => ?_)
     · refine cy_seq ?_
       refine cy_region ?_
       refine sy_move rfl rfl rfl ?_
       refine sy_assign rfl rfl rfl ?_
       refine sy_nil rfl ?_
       refine ny_next ?_
       refine cy_ret ?_
       refine ny_thenR ?_
       refine ny_finR (res1 rfl rfl) (fun w hs2 => ⟨?_, hs2.frm⟩)
       have hno : s.data.toList.any isSp = false := by simpa using hc82
       rw [repl_no hno, ba_eta]
     · refine cy_skip ?_
       refine ny_next ?_
       refine cy_seq ?_
       have hN2 := repl_le s.data.toList
       have hsz : s.data.toList.length = s.size := rfl
       refine cy_region ?_
       refine sy_move rfl rfl rfl ?_
       refine sy_makeB row_40 zer_5 rfl rfl (by omega) rfl rfl (fun b85 hb85 hM85 => ?_) (by simp)
       refine sy_assign rfl rfl rfl ?_
       refine sy_nil rfl ?_
       refine ny_next ?_
       refine cy_seq ?_
       refine cy_region ?_
       refine sy_assign rfl rfl rfl ?_
       refine sy_nil rfl ?_
       refine ny_next ?_
       refine cy_seq ?_
       refine cy_seq ?_
       refine cy_region ?_
       refine sy_assign rfl rfl rfl ?_
       refine sy_nil rfl ?_
       refine ny_next ?_
       refine cy_block ?_
       refine cy_loopK (ι := Nat) [0, 1, 12] rfl (fun i => i ≤ s.size) (fun i => s.size - i) (fun i => [(13, .int .i64 (((repl (s.data.toList.take i)).length : Nat) : Int)), (14, .int .i64 (i : Int))]) (fun i => h) (fun i => [.blk b85 (.cells ((repl (s.data.toList.take i)).map bv ++ List.replicate ((repl s.data.toList).length - (repl (s.data.toList.take i)).length) (Value.int .u8 0)).toArray 5 (0, 0))]) 0 [0] (Nat.zero_le _) ⟨rfl, rfl, trivial⟩ rfl rfl ?_
       rintro i hI
       have hrt := repl_take_le s.data.toList i
       refine cy_seq ?_
       refine cy_seq ?_
       refine cy_region ?_
       refine sy_move rfl rfl rfl ?_
       refine sy_move rfl rfl rfl ?_
       refine sy_len rfl (len_string Tryz.underlying9 _) rfl rfl ?_
       refine sy_cmp rfl rfl rfl rfl rfl ?_
       refine sy_nil rfl ?_
       refine ny_next ?_
       refine cy_cond rfl (fun hc89 => ?_) (fun hc89 => ?_)
       · have hlti : i < s.size := by have := of_decide_eq_true hc89; omega
         obtain ⟨e0, he0⟩ : ∃ e0, s.data.toList[i]? = some e0 := ⟨_, List.getElem?_eq_getElem (by show i < s.size; omega)⟩
         have hroom := repl_room he0
         refine cy_skip ?_
         refine ny_next ?_
         refine cy_seq ?_
         refine cy_block ?_
         refine cy_seq ?_
         refine cy_region ?_
         refine sy_move rfl rfl rfl ?_
         refine sy_move rfl rfl rfl ?_
         refine sy_idxs (u := e0) Tryz.underlying9 rfl rfl (by omega) (ba_at he0) rfl rfl ?_
         refine sy_assign rfl rfl rfl ?_
         refine sy_nil rfl ?_
         refine ny_next ?_
         refine cy_seq ?_
         refine cy_region ?_
         refine sy_move rfl rfl rfl ?_
         refine sy_move rfl rfl rfl ?_
         refine sy_nilCheck rfl rfl rfl ?_
         refine sy_field fld_205_0 rfl rfl rfl ?_
         refine sy_idxU (u := e0) arr_203 rfl rfl (by have := e0.toNat_lt; omega) rfl rfl ?_
         refine sy_ldh one_40 rfl (Hp.blk0 hX e0.toNat (rT_get _ _ e0)) rfl rfl ?_
         refine sy_eqsl (b := isSp e0) Tryz.underlying40 rfl (by simp [hN]) rfl rfl ?_
         refine sy_nil rfl ?_
         refine ny_next ?_
         refine cy_cond rfl (fun hc101 => ?_) (fun hc101 => ?_)
         · have hr2 := rep_len hc101
           rw [one_sp hc101, hr2] at hroom
           have hrr := hS e0 hc101
           refine cy_regionA mixed ?_
           refine zy_q 0 rfl (by kernel_rfl) (fun hB28_0 => ?_)
           refine sy_move rfl rfl rfl ?_
           refine sy_nil1 (ny_zq hB28_0 ?_)
           refine zy_q 1 rfl (by kernel_rfl) (fun hB28_1 => ?_)
           refine sy_move rfl rfl rfl ?_
           refine sy_nil1 (ny_zq hB28_1 ?_)
           refine zy_q 2 rfl (by kernel_rfl) (fun hB28_2 => ?_)
           refine sy_move rfl rfl rfl ?_
           refine sy_nil1 (ny_zq hB28_2 ?_)
           refine zy_q 3 rfl (by kernel_rfl) (fun hB28_3 => ?_)
           refine sy_cutB els_40 rfl rfl (by omega) (by omega) rfl rfl ?_
           refine sy_nil1 (ny_zq hB28_3 ?_)
           refine zy_q 4 rfl (by kernel_rfl) (fun hB28_4 => ?_)
           refine sy_move rfl rfl rfl ?_
           refine sy_nil1 (ny_zq hB28_4 ?_)
           refine zy_q 5 rfl (by kernel_rfl) (fun hB28_5 => ?_)
           refine sy_move rfl rfl rfl ?_
           refine sy_nil1 (ny_zq hB28_5 ?_)
           refine zy_q 6 rfl (by kernel_rfl) (fun hB28_6 => ?_)
           refine sy_nilCheck rfl rfl rfl ?_
           refine sy_nil1 (ny_zq hB28_6 ?_)
           refine zy_q 7 rfl (by kernel_rfl) (fun hB28_7 => ?_)
           refine sy_field fld_205_0 rfl rfl rfl ?_
           refine sy_nil1 (ny_zq hB28_7 ?_)
           refine zy_q 8 rfl (by kernel_rfl) (fun hB28_8 => ?_)
           refine sy_idxU (u := e0) arr_203 rfl rfl (by have := e0.toNat_lt; omega) rfl rfl ?_
           refine sy_nil1 (ny_zq hB28_8 ?_)
           refine zy_q 9 rfl (by kernel_rfl) (fun hB28_9 => ?_)
           refine sy_ldh one_40 rfl (Hp.blk0 hX e0.toNat (rT_get _ _ e0)) rfl rfl ?_
           refine sy_nil1 (ny_zq hB28_9 ?_)
           refine zy_1 10 (by kernel_rfl) ?_
           refine zop_run rfl rfl (fun hB28_10 => ?_)
           refine sy_copy (news := (rep e0).map bv) 0 row_40 rfl rfl rfl (by simp) (by omega) (by omega) (by have h9 := hrr.cells (by decide) (byteC_len _); rw [byteC_flat] at h9; exact h9) (fun u hu => by obtain ⟨x9, _, rfl⟩ := List.mem_map.1 hu; rfl) (by rw [List.length_append, List.length_map, List.length_replicate]; omega) (st_bytes (by omega)) rfl rfl ?_
           refine sy_nil rfl (ny_zy hB28_10 (Hp.Le.refl _) ?_)
           refine zy_q 11 rfl (by kernel_rfl) (fun hB28_11 => ?_)
           refine sy_addi (z := (((repl (s.data.toList.take i)).length + 2 : Nat) : Int)) rfl rfl (by omega) (by omega) (by omega) rfl rfl ?_
           refine sy_nil1 (ny_zq hB28_11 ?_)
           refine zy_q 12 rfl (by kernel_rfl) (fun hB28_12 => ?_)
           refine sy_assign rfl rfl rfl ?_
           refine sy_nil1 (ny_zq hB28_12 ?_)
           refine zy_done (by kernel_rfl) ?_
           refine ny_blockN ?_
           refine ny_next ?_
           refine cy_region ?_
           refine sy_move rfl rfl rfl ?_
           refine sy_addi (z := ((i + 1 : Nat) : Int)) rfl rfl (by omega) (by omega) (by omega) rfl rfl ?_
           refine sy_assign rfl rfl rfl ?_
           refine sy_nil rfl ?_
           refine ny_roundK [0, 1, 12] (i + 1) [0] (show i + 1 ≤ s.size by omega) (show s.size - (i + 1) < s.size - i by omega) rfl ⟨congrArg (fun z : Nat => some (Value.int .i64 (z : Int))) (by rw [repl_snoc he0, List.length_append, one_sp hc101, hr2]), rfl, trivial⟩ rfl (by rw [repl_snoc he0, one_sp hc101]; rfl)
         · rw [one_no hc101] at hroom
           simp only [List.length_cons, List.length_nil] at hroom
           refine cy_seq ?_
           refine cy_region ?_
           refine sy_move rfl rfl rfl ?_
           refine sy_move rfl rfl rfl ?_
           refine sy_move rfl rfl rfl ?_
           refine sy_idxB els_40 rfl rfl (by omega) rfl rfl ?_
           refine sy_st (vs := [bv e0]) 0 rfl rfl rfl rfl (fun w => sz_spec sz_5 w) rfl (by simp; omega) (st_byte (by omega)) rfl ?_
           refine sy_nil rfl ?_
           refine ny_next ?_
           refine cy_region ?_
           refine sy_move rfl rfl rfl ?_
           refine sy_addi (z := (((repl (s.data.toList.take i)).length + 1 : Nat) : Int)) rfl rfl (by omega) (by omega) (by omega) rfl rfl ?_
           refine sy_assign rfl rfl rfl ?_
           refine sy_nil rfl ?_
           refine ny_blockN ?_
           refine ny_next ?_
           refine cy_region ?_
           refine sy_move rfl rfl rfl ?_
           refine sy_addi (z := ((i + 1 : Nat) : Int)) rfl rfl (by omega) (by omega) (by omega) rfl rfl ?_
           refine sy_assign rfl rfl rfl ?_
           refine sy_nil rfl ?_
           refine ny_roundK [0, 1, 12] (i + 1) [0] (show i + 1 ≤ s.size by omega) (show s.size - (i + 1) < s.size - i by omega) rfl ⟨congrArg (fun z : Nat => some (Value.int .i64 (z : Int))) (by rw [repl_snoc he0, List.length_append, one_no hc101]; rfl), rfl, trivial⟩ rfl (by rw [repl_snoc he0, one_no hc101]; rfl)
       · have hie : i = s.size := by have := of_decide_eq_false hc89; omega
         subst hie
         have htk : s.data.toList.take s.size = s.data.toList := List.take_of_length_le (Nat.le_refl _)
         rw [htk, Nat.sub_self, List.replicate_zero, List.append_nil]
         refine cy_exit ?_
         refine ny_thenE ?_
         refine ny_thenE ?_
         refine ny_blockX ?_
         refine ny_next ?_
         refine cy_seq ?_
         refine cy_region ?_
         refine sy_move rfl rfl rfl ?_
         refine sy_bytesr 0 Tryz.underlying40 Tryz.underlying5 Tryz.underlying9 rfl rfl rfl rfl rfl rfl ?_
         refine sy_assign rfl rfl rfl ?_
         refine sy_nil rfl ?_
         refine ny_next ?_
         refine cy_ret ?_
         refine ny_finR (res1 rfl rfl) (fun w hs2 => ⟨?_, hs2.frm⟩)
         rfl
 · refine cy_seq ?_
   refine cy_region ?_
   refine sy_assign rfl rfl rfl ?_
   refine sy_nil rfl ?_
   refine ny_next ?_
   refine cy_block ?_
   refine cy_loopK (ι := Nat) [0, 1] rfl (fun i => i ≤ s.size) (fun i => s.size - i) (fun i => [(5, .int .i64 (((repl (s.data.toList.take i)).length + (s.size - i) : Nat) : Int)), (6, .bool ((s.data.toList.take i).any isSp)), (10, .int .i64 (i : Int))]) (fun i => h) (fun i => []) 0 [] (Nat.zero_le _) ⟨congrArg (fun z : Nat => some (Value.int .i64 (z : Int))) (by simp [repl]), rfl, rfl, trivial⟩ rfl rfl ?_
   rintro i hI
   have hrt := repl_take_le s.data.toList i
   have hsz : s.data.toList.length = s.size := rfl
   refine cy_seq ?_
   refine cy_seq ?_
   refine cy_region ?_
   refine sy_move rfl rfl rfl ?_
   refine sy_move rfl rfl rfl ?_
   refine sy_len rfl (len_string Tryz.underlying9 _) rfl rfl ?_
   refine sy_cmp rfl rfl rfl rfl rfl ?_
   refine sy_nil rfl ?_
   refine ny_next ?_
   refine cy_cond rfl (fun hc58 => ?_) (fun hc58 => ?_)
   · have hlti : i < s.size := by have := of_decide_eq_true hc58; omega
     obtain ⟨e0, he0⟩ : ∃ e0, s.data.toList[i]? = some e0 := ⟨_, List.getElem?_eq_getElem (by show i < s.size; omega)⟩
     refine cy_skip ?_
     refine ny_next ?_
     refine cy_seq ?_
     refine cy_block ?_
     refine cy_seq ?_
     refine cy_region ?_
     refine sy_move rfl rfl rfl ?_
     refine sy_move rfl rfl rfl ?_
     refine sy_idxs (u := e0) Tryz.underlying9 rfl rfl (by omega) (ba_at he0) rfl rfl ?_
     refine sy_assign rfl rfl rfl ?_
     refine sy_nil rfl ?_
     refine ny_next ?_
     refine cy_seq ?_
     refine cy_region ?_
     refine sy_move rfl rfl rfl ?_
     refine sy_move rfl rfl rfl ?_
     refine sy_nilCheck rfl rfl rfl ?_
     refine sy_field fld_205_0 rfl rfl rfl ?_
     refine sy_idxU (u := e0) arr_203 rfl rfl (by have := e0.toNat_lt; omega) rfl rfl ?_
     refine sy_ldh one_40 rfl (Hp.blk0 hX e0.toNat (rT_get _ _ e0)) rfl rfl ?_
     refine sy_eqsl (b := isSp e0) Tryz.underlying40 rfl (by simp [hN]) rfl rfl ?_
     refine sy_nil rfl ?_
     refine ny_next ?_
     refine cy_cond rfl (fun hc70 => ?_) (fun hc70 => ?_)
     · have hr2 := rep_len hc70
       refine cy_seq ?_
       refine cy_region ?_
       refine sy_move rfl rfl rfl ?_
       refine sy_move rfl rfl rfl ?_
       refine sy_move rfl rfl rfl ?_
       refine sy_nilCheck rfl rfl rfl ?_
       refine sy_field fld_205_0 rfl rfl rfl ?_
       refine sy_idxU (u := e0) arr_203 rfl rfl (by have := e0.toNat_lt; omega) rfl rfl ?_
       refine sy_ldh one_40 rfl (Hp.blk0 hX e0.toNat (rT_get _ _ e0)) rfl rfl ?_
       refine sy_len rfl (len_slice Tryz.underlying40 _ _ _) rfl rfl ?_
       refine sy_subi (z := 1) rfl rfl (by omega) (by omega) (by omega) rfl rfl ?_
       refine sy_addi (z := (((repl (s.data.toList.take i)).length + (s.size - i) + 1 : Nat) : Int)) rfl rfl (by omega) (by omega) (by omega) rfl rfl ?_
       refine sy_assign rfl rfl rfl ?_
       refine sy_nil rfl ?_
       refine ny_next ?_
       refine cy_region ?_
       refine sy_assign rfl rfl rfl ?_
       refine sy_nil rfl ?_
       refine ny_blockN ?_
       refine ny_next ?_
       refine cy_region ?_
       refine sy_move rfl rfl rfl ?_
       refine sy_addi (z := ((i + 1 : Nat) : Int)) rfl rfl (by omega) (by omega) (by omega) rfl rfl ?_
       refine sy_assign rfl rfl rfl ?_
       refine sy_nil rfl ?_
       refine ny_roundK [0, 1] (i + 1) [] (show i + 1 ≤ s.size by omega) (show s.size - (i + 1) < s.size - i by omega) rfl ⟨congrArg (fun z : Nat => some (Value.int .i64 (z : Int))) (by rw [repl_snoc he0, List.length_append, one_sp hc70, hr2]; omega), congrArg (fun b => some (Value.bool b)) (by rw [any_snoc he0, hc70, Bool.or_true]), rfl, trivial⟩ rfl rfl
     · refine cy_skip ?_
       refine ny_blockN ?_
       refine ny_next ?_
       refine cy_region ?_
       refine sy_move rfl rfl rfl ?_
       refine sy_addi (z := ((i + 1 : Nat) : Int)) rfl rfl (by omega) (by omega) (by omega) rfl rfl ?_
       refine sy_assign rfl rfl rfl ?_
       refine sy_nil rfl ?_
       refine ny_roundK [0, 1] (i + 1) [] (show i + 1 ≤ s.size by omega) (show s.size - (i + 1) < s.size - i by omega) rfl ⟨congrArg (fun z : Nat => some (Value.int .i64 (z : Int))) (by rw [repl_snoc he0, List.length_append, one_no hc70]; simp; omega), congrArg (fun b => some (Value.bool b)) (by rw [any_snoc he0, hc70, Bool.or_false]), rfl, trivial⟩ rfl rfl
   · have hie : i = s.size := by have := of_decide_eq_false hc58; omega
     subst hie
     have htk : s.data.toList.take s.size = s.data.toList := List.take_of_length_le (Nat.le_refl _)
     rw [htk, Nat.sub_self, Nat.add_zero]
     refine cy_exit ?_
     refine ny_thenE ?_
     refine ny_thenE ?_
     refine ny_blockX ?_
     refine ny_next ?_
     refine cy_seq ?_
     refine cy_seq ?_
     refine cy_region ?_
     refine sy_move rfl rfl rfl ?_
     refine sy_not rfl rfl rfl ?_
     refine sy_nil rfl ?_
     refine ny_next ?_
     refine cy_cond rfl (fun hc82 => ?_) (fun hc82 => ?_)
     · refine cy_seq ?_
       refine cy_region ?_
       refine sy_move rfl rfl rfl ?_
       refine sy_assign rfl rfl rfl ?_
       refine sy_nil rfl ?_
       refine ny_next ?_
       refine cy_ret ?_
       refine ny_thenR ?_
       refine ny_finR (res1 rfl rfl) (fun w hs2 => ⟨?_, hs2.frm⟩)
       have hno : s.data.toList.any isSp = false := by simpa using hc82
       rw [repl_no hno, ba_eta]
     · refine cy_skip ?_
       refine ny_next ?_
       refine cy_seq ?_
       have hN2 := repl_le s.data.toList
       have hsz : s.data.toList.length = s.size := rfl
       refine cy_region ?_
       refine sy_move rfl rfl rfl ?_
       refine sy_makeB row_40 zer_5 rfl rfl (by omega) rfl rfl (fun b85 hb85 hM85 => ?_) (by simp)
       refine sy_assign rfl rfl rfl ?_
       refine sy_nil rfl ?_
       refine ny_next ?_
       refine cy_seq ?_
       refine cy_region ?_
       refine sy_assign rfl rfl rfl ?_
       refine sy_nil rfl ?_
       refine ny_next ?_
       refine cy_seq ?_
       refine cy_seq ?_
       refine cy_region ?_
       refine sy_assign rfl rfl rfl ?_
       refine sy_nil rfl ?_
       refine ny_next ?_
       refine cy_block ?_
       refine cy_loopK (ι := Nat) [0, 1, 12] rfl (fun i => i ≤ s.size) (fun i => s.size - i) (fun i => [(13, .int .i64 (((repl (s.data.toList.take i)).length : Nat) : Int)), (14, .int .i64 (i : Int))]) (fun i => h) (fun i => [.blk b85 (.cells ((repl (s.data.toList.take i)).map bv ++ List.replicate ((repl s.data.toList).length - (repl (s.data.toList.take i)).length) (Value.int .u8 0)).toArray 5 (0, 0))]) 0 [0] (Nat.zero_le _) ⟨rfl, rfl, trivial⟩ rfl rfl ?_
       rintro i hI
       have hrt := repl_take_le s.data.toList i
       refine cy_seq ?_
       refine cy_seq ?_
       refine cy_region ?_
       refine sy_move rfl rfl rfl ?_
       refine sy_move rfl rfl rfl ?_
       refine sy_len rfl (len_string Tryz.underlying9 _) rfl rfl ?_
       refine sy_cmp rfl rfl rfl rfl rfl ?_
       refine sy_nil rfl ?_
       refine ny_next ?_
       refine cy_cond rfl (fun hc89 => ?_) (fun hc89 => ?_)
       · have hlti : i < s.size := by have := of_decide_eq_true hc89; omega
         obtain ⟨e0, he0⟩ : ∃ e0, s.data.toList[i]? = some e0 := ⟨_, List.getElem?_eq_getElem (by show i < s.size; omega)⟩
         have hroom := repl_room he0
         refine cy_skip ?_
         refine ny_next ?_
         refine cy_seq ?_
         refine cy_block ?_
         refine cy_seq ?_
         refine cy_region ?_
         refine sy_move rfl rfl rfl ?_
         refine sy_move rfl rfl rfl ?_
         refine sy_idxs (u := e0) Tryz.underlying9 rfl rfl (by omega) (ba_at he0) rfl rfl ?_
         refine sy_assign rfl rfl rfl ?_
         refine sy_nil rfl ?_
         refine ny_next ?_
         refine cy_seq ?_
         refine cy_region ?_
         refine sy_move rfl rfl rfl ?_
         refine sy_move rfl rfl rfl ?_
         refine sy_nilCheck rfl rfl rfl ?_
         refine sy_field fld_205_0 rfl rfl rfl ?_
         refine sy_idxU (u := e0) arr_203 rfl rfl (by have := e0.toNat_lt; omega) rfl rfl ?_
         refine sy_ldh one_40 rfl (Hp.blk0 hX e0.toNat (rT_get _ _ e0)) rfl rfl ?_
         refine sy_eqsl (b := isSp e0) Tryz.underlying40 rfl (by simp [hN]) rfl rfl ?_
         refine sy_nil rfl ?_
         refine ny_next ?_
         refine cy_cond rfl (fun hc101 => ?_) (fun hc101 => ?_)
         · have hr2 := rep_len hc101
           rw [one_sp hc101, hr2] at hroom
           have hrr := hS e0 hc101
           refine cy_regionA mixed ?_
           refine zy_q 0 rfl (by kernel_rfl) (fun hB28_0 => ?_)
           refine sy_move rfl rfl rfl ?_
           refine sy_nil1 (ny_zq hB28_0 ?_)
           refine zy_q 1 rfl (by kernel_rfl) (fun hB28_1 => ?_)
           refine sy_move rfl rfl rfl ?_
           refine sy_nil1 (ny_zq hB28_1 ?_)
           refine zy_q 2 rfl (by kernel_rfl) (fun hB28_2 => ?_)
           refine sy_move rfl rfl rfl ?_
           refine sy_nil1 (ny_zq hB28_2 ?_)
           refine zy_q 3 rfl (by kernel_rfl) (fun hB28_3 => ?_)
           refine sy_cutB els_40 rfl rfl (by omega) (by omega) rfl rfl ?_
           refine sy_nil1 (ny_zq hB28_3 ?_)
           refine zy_q 4 rfl (by kernel_rfl) (fun hB28_4 => ?_)
           refine sy_move rfl rfl rfl ?_
           refine sy_nil1 (ny_zq hB28_4 ?_)
           refine zy_q 5 rfl (by kernel_rfl) (fun hB28_5 => ?_)
           refine sy_move rfl rfl rfl ?_
           refine sy_nil1 (ny_zq hB28_5 ?_)
           refine zy_q 6 rfl (by kernel_rfl) (fun hB28_6 => ?_)
           refine sy_nilCheck rfl rfl rfl ?_
           refine sy_nil1 (ny_zq hB28_6 ?_)
           refine zy_q 7 rfl (by kernel_rfl) (fun hB28_7 => ?_)
           refine sy_field fld_205_0 rfl rfl rfl ?_
           refine sy_nil1 (ny_zq hB28_7 ?_)
           refine zy_q 8 rfl (by kernel_rfl) (fun hB28_8 => ?_)
           refine sy_idxU (u := e0) arr_203 rfl rfl (by have := e0.toNat_lt; omega) rfl rfl ?_
           refine sy_nil1 (ny_zq hB28_8 ?_)
           refine zy_q 9 rfl (by kernel_rfl) (fun hB28_9 => ?_)
           refine sy_ldh one_40 rfl (Hp.blk0 hX e0.toNat (rT_get _ _ e0)) rfl rfl ?_
           refine sy_nil1 (ny_zq hB28_9 ?_)
           refine zy_1 10 (by kernel_rfl) ?_
           refine zop_run rfl rfl (fun hB28_10 => ?_)
           refine sy_copy (news := (rep e0).map bv) 0 row_40 rfl rfl rfl (by simp) (by omega) (by omega) (by have h9 := hrr.cells (by decide) (byteC_len _); rw [byteC_flat] at h9; exact h9) (fun u hu => by obtain ⟨x9, _, rfl⟩ := List.mem_map.1 hu; rfl) (by rw [List.length_append, List.length_map, List.length_replicate]; omega) (st_bytes (by omega)) rfl rfl ?_
           refine sy_nil rfl (ny_zy hB28_10 (Hp.Le.refl _) ?_)
           refine zy_q 11 rfl (by kernel_rfl) (fun hB28_11 => ?_)
           refine sy_addi (z := (((repl (s.data.toList.take i)).length + 2 : Nat) : Int)) rfl rfl (by omega) (by omega) (by omega) rfl rfl ?_
           refine sy_nil1 (ny_zq hB28_11 ?_)
           refine zy_q 12 rfl (by kernel_rfl) (fun hB28_12 => ?_)
           refine sy_assign rfl rfl rfl ?_
           refine sy_nil1 (ny_zq hB28_12 ?_)
           refine zy_done (by kernel_rfl) ?_
           refine ny_blockN ?_
           refine ny_next ?_
           refine cy_region ?_
           refine sy_move rfl rfl rfl ?_
           refine sy_addi (z := ((i + 1 : Nat) : Int)) rfl rfl (by omega) (by omega) (by omega) rfl rfl ?_
           refine sy_assign rfl rfl rfl ?_
           refine sy_nil rfl ?_
           refine ny_roundK [0, 1, 12] (i + 1) [0] (show i + 1 ≤ s.size by omega) (show s.size - (i + 1) < s.size - i by omega) rfl ⟨congrArg (fun z : Nat => some (Value.int .i64 (z : Int))) (by rw [repl_snoc he0, List.length_append, one_sp hc101, hr2]), rfl, trivial⟩ rfl (by rw [repl_snoc he0, one_sp hc101]; rfl)
         · rw [one_no hc101] at hroom
           simp only [List.length_cons, List.length_nil] at hroom
           refine cy_seq ?_
           refine cy_region ?_
           refine sy_move rfl rfl rfl ?_
           refine sy_move rfl rfl rfl ?_
           refine sy_move rfl rfl rfl ?_
           refine sy_idxB els_40 rfl rfl (by omega) rfl rfl ?_
           refine sy_st (vs := [bv e0]) 0 rfl rfl rfl rfl (fun w => sz_spec sz_5 w) rfl (by simp; omega) (st_byte (by omega)) rfl ?_
           refine sy_nil rfl ?_
           refine ny_next ?_
           refine cy_region ?_
           refine sy_move rfl rfl rfl ?_
           refine sy_addi (z := (((repl (s.data.toList.take i)).length + 1 : Nat) : Int)) rfl rfl (by omega) (by omega) (by omega) rfl rfl ?_
           refine sy_assign rfl rfl rfl ?_
           refine sy_nil rfl ?_
           refine ny_blockN ?_
           refine ny_next ?_
           refine cy_region ?_
           refine sy_move rfl rfl rfl ?_
           refine sy_addi (z := ((i + 1 : Nat) : Int)) rfl rfl (by omega) (by omega) (by omega) rfl rfl ?_
           refine sy_assign rfl rfl rfl ?_
           refine sy_nil rfl ?_
           refine ny_roundK [0, 1, 12] (i + 1) [0] (show i + 1 ≤ s.size by omega) (show s.size - (i + 1) < s.size - i by omega) rfl ⟨congrArg (fun z : Nat => some (Value.int .i64 (z : Int))) (by rw [repl_snoc he0, List.length_append, one_no hc101]; rfl), rfl, trivial⟩ rfl (by rw [repl_snoc he0, one_no hc101]; rfl)
       · have hie : i = s.size := by have := of_decide_eq_false hc89; omega
         subst hie
         have htk : s.data.toList.take s.size = s.data.toList := List.take_of_length_le (Nat.le_refl _)
         rw [htk, Nat.sub_self, List.replicate_zero, List.append_nil]
         refine cy_exit ?_
         refine ny_thenE ?_
         refine ny_thenE ?_
         refine ny_blockX ?_
         refine ny_next ?_
         refine cy_seq ?_
         refine cy_region ?_
         refine sy_move rfl rfl rfl ?_
         refine sy_bytesr 0 Tryz.underlying40 Tryz.underlying5 Tryz.underlying9 rfl rfl rfl rfl rfl rfl ?_
         refine sy_assign rfl rfl rfl ?_
         refine sy_nil rfl ?_
         refine ny_next ?_
         refine cy_ret ?_
         refine ny_finR (res1 rfl rfl) (fun w hs2 => ⟨?_, hs2.frm⟩)
         rfl
theorem metR (x : Nat) (s : ByteArray) (w : World) : (callMethod (.iface 206 (.pointer (some ⟨x, 0, none⟩))) "Replace" #[.string s]).run Tryz.prog w = .ok (.enter 204 #[.pointer (some ⟨x, 0, none⟩), .string s]) w := by kernel_rfl
set_option maxRecDepth 100000 in
theorem replace_c (b : Nat) (s : ByteArray) (h : Hp) (hs : s.size ≤ 140737488355328) (A : Option Addr) (cO : Nat) (hO : RowsAt h A 1 (olds.map fun s => [Value.string s])) : CXM Tryz.prog 91 [.pointer (some ⟨b, 0, none⟩), .string s] h b (.cells [.int .u32 0, .int .i32 0, .int .u32 0, .nilIface, .slice A 6 cO].toArray 165 (0, 0)) (fun _ : Unit => .string ⟨(repl s.data.toList).toArray⟩) (fun _ _ _ => True) := by
 refine enterXM Tryz.func91 rfl rfl rfl (fun w hb0 => ?_)
 refine cy_seq ?_
 refine cy_region ?_
 refine sy_assign rfl rfl rfl ?_
 refine sy_nil rfl ?_
 refine ny_next ?_
 refine cy_seq ?_
 refine cy_region ?_
 refine sy_move rfl rfl rfl ?_
 refine sy_nilCheck rfl rfl rfl ?_
 refine sy_field fld_165_0 rfl rfl rfl ?_
 refine sy_move rfl rfl rfl ?_
 refine sy_bind (s := 0) rfl rfl rfl rfl ?_
 refine sy_callxm 0 call_108 rfl rfl (do_c b h (.int .u32 0) A cO hO) rfl rfl (fun x10 h10 o10 hx10 hle10 => ?_)
 obtain ⟨rfl, hR10⟩ := hx10
 refine sy_nil rfl ?_
 refine ny_next ?_
 refine cy_seq ?_
 refine cy_region ?_
 refine sy_move rfl rfl rfl ?_
 refine sy_nilCheck rfl rfl rfl ?_
 refine sy_field fld_165_1 rfl rfl rfl ?_
 first | refine sy_ldr 0 one_163 rfl rfl rfl rfl rfl ?_ | refine sy_ldr 1 one_163 rfl rfl rfl rfl rfl ?_
 refine sy_move rfl rfl rfl ?_
 refine sy_invoke rfl rfl rfl (fun w => metR x10 s w) (bsr_c x10 s _ hR10 hs) rfl rfl ?_
 refine sy_assign rfl rfl rfl ?_
 refine sy_nil rfl ?_
 refine ny_next ?_
 refine cy_ret ?_
 exact ny_finR (res1 rfl rfl) (fun w hs2 => ⟨(), h10, _, rfl, trivial, hs2.toTurn⟩)
def quoteB (s : ByteArray) (p : Bool) : ByteArray := if p = true then s else ⟨#[39]⟩ ++ ⟨(repl s.data.toList).toArray⟩ ++ ⟨#[39]⟩
set_option maxRecDepth 100000 in
theorem quote_c (s : ByteArray) (h : Hp) (p : Bool) (hs : s.size ≤ 140737488355328) (hp : ∀ h, C0 Tryz.prog 89 [.string s] h (.bool p)) : C0 Tryz.prog 63 [.string s] h (.string (quoteB s p)) := by
 refine enter0 Tryz.func63 rfl rfl rfl (fun w => ?_)
 refine cy_seq ?_
 refine cy_region ?_
 refine sy_assign rfl rfl rfl ?_
 refine sy_nil rfl ?_
 refine ny_next ?_
 refine cy_seq ?_
 refine cy_seq ?_
 refine cy_region ?_
 refine sy_move rfl rfl rfl ?_
 refine sy_call rfl call_89 rfl (hp _) rfl rfl ?_
 refine sy_nil rfl ?_
 refine ny_next ?_
 refine cy_cond rfl (fun hc4 => ?_) (fun hc4 => ?_)
 · refine cy_seq ?_
   refine cy_region ?_
   refine sy_move rfl rfl rfl ?_
   refine sy_assign rfl rfl rfl ?_
   refine sy_nil rfl ?_
   refine ny_next ?_
   refine cy_ret ?_
   refine ny_thenR ?_
   refine ny_finR (res1 rfl rfl) (fun w hs2 => ⟨?_, hs2.frm⟩)
   rw [hc4]
   rfl
 · refine cy_skip ?_
   refine ny_next ?_
   refine cy_seq ?_
   refine cy_region ?_
   refine sy_buildSlice rfl (fun w => bsl_37_6_0x1x2x3x4x5 w) rfl rfl (fun b6 hb6 hM6 => ?_) (by simp)
   refine sy_frz 0 rfl (by simp) (fun h6 hle6 hb6 => ?_)
   have hO6 : RowsAt h6 (some ⟨b6, 0, none⟩) 1 (olds.map fun s => [Value.string s]) := rows_blk (by decide) (fun c hc => by obtain ⟨x, _, rfl⟩ := List.mem_map.1 hc; rfl) hb6
   refine sy_callxn call_90 rfl (newRepl_c h6 (some ⟨b6, 0, none⟩) 6 hO6) rfl rfl (fun x7 b7 h7 o7 hx7 hle7 hb7 hM7 => ?_) (by simp)
   obtain ⟨A7, c7⟩ := x7
   obtain ⟨rfl, hO7⟩ := hx7
   refine sy_move rfl rfl rfl ?_
   refine sy_callxm 0 call_91 rfl rfl (replace_c b7 s h7 hs A7 c7 hO7) rfl rfl (fun x9 h9 o9 hx9 hle9 => ?_)
   refine sy_cat rfl rfl (by have h1 := repl_le s.data.toList; have h2 : s.data.toList.length = s.size := rfl; have h3 : (⟨(repl s.data.toList).toArray⟩ : ByteArray).size = (repl s.data.toList).length := rfl; have h4 : (⟨#[39]⟩ : ByteArray).size = 1 := rfl; first | omega | (simp only [ByteArray.size_append]; omega)) rfl rfl ?_
   refine sy_cat rfl rfl (by have h1 := repl_le s.data.toList; have h2 : s.data.toList.length = s.size := rfl; have h3 : (⟨(repl s.data.toList).toArray⟩ : ByteArray).size = (repl s.data.toList).length := rfl; have h4 : (⟨#[39]⟩ : ByteArray).size = 1 := rfl; first | omega | (simp only [ByteArray.size_append]; omega)) rfl rfl ?_
   refine sy_assign rfl rfl rfl ?_
   refine sy_nil rfl ?_
   refine ny_next ?_
   refine cy_ret ?_
   refine ny_finR (res1 rfl rfl) (fun w hs2 => ⟨?_, hs2.frm⟩)
   rw [hc4]
   rfl
end Go.Proofs.YtanhhihechakhaaGreatDoor
set_option linter.unusedVariables false
set_option linter.unusedSimpArgs false
namespace Go.Proofs.YtanhhihechakhaaGreatDoor.E
open Go.RowKit
end Go.Proofs.YtanhhihechakhaaGreatDoor.E
namespace Go.Proofs.YtanhhihechakhaaGreatDoor.TokP
open Go.RowKit Go.Proofs.YtanhhihechakhaaGreatDoor.E Go.Proofs.YtanhhihechakhaaGreatDoor.ReplP
def smallB (c : UInt8) : Bool := decide ((97 : Int) ≤ (c.toNat : Int)) && decide ((c.toNat : Int) ≤ 122)
def bigB (c : UInt8) : Bool := (decide ((65 : Int) ≤ (c.toNat : Int)) && decide ((c.toNat : Int) ≤ 90)) || ((c.toNat : Int) == 95)
def digitB (c : UInt8) : Bool := decide ((48 : Int) ≤ (c.toNat : Int)) && decide ((c.toNat : Int) ≤ 57)
def letterB (c : UInt8) : Bool := smallB c || bigB c || digitB c
def signL : List UInt8 := [43, 45, 42, 47, 92, 94, 60, 62, 61, 126, 58, 46, 63, 64, 35, 38, 36]
def signB (c : UInt8) : Bool := signL.contains c
def blankB (c : UInt8) : Bool := (((c.toNat : Int) == 9) || ((c.toNat : Int) == 10)) || ((c.toNat : Int) == 13) || ((c.toNat : Int) == 32)
def lineB (c : UInt8) : Bool := !((c.toNat : Int) == 10)
theorem idx_has : ∀ (l : List UInt8) (c : UInt8), decide (0 ≤ Lib.indexByte l c) = l.contains c
 | [], c => rfl
 | b :: l, c => by
  have h1 := idx_has l c
  have h2 := Lib.indexByte_ge l c
  have e : Lib.indexByte (b :: l) c = if (b == c) = true then 0 else if (Lib.indexByte l c == -1) = true then -1 else Lib.indexByte l c + 1 := by rw [Lib.indexByte]
  rw [List.contains_cons, ← h1, e]
  clear e
  by_cases hb : (b == c) = true
  · rw [if_pos hb]
    have : (c == b) = true := beq_iff_eq.2 (beq_iff_eq.1 hb).symm
    rw [this]
    rfl
  · rw [if_neg hb]
    have : (c == b) = false := by
     have hb' : (b == c) = false := by simpa using hb
     rw [beq_eq_false_iff_ne] at hb' ⊢
     exact fun h => hb' h.symm
    rw [this, Bool.false_or]
    by_cases h3 : (Lib.indexByte l c == -1) = true
    · rw [if_pos h3]
      have h4 : Lib.indexByte l c = -1 := by simpa using h3
      rw [h4]
    · rw [if_neg h3]
      have h4 : ¬ Lib.indexByte l c = -1 := by simpa using h3
      exact decide_eq_decide.2 (by omega)
/-! how many bytes of one kind a text begins with -/
def runB (p : UInt8 → Bool) (l : List UInt8) : Nat := (l.takeWhile p).length
theorem runB_yes {p : UInt8 → Bool} {c : UInt8} {l : List UInt8} (h : p c = true) : runB p (c :: l) = runB p l + 1 := by simp [runB, h]
theorem runB_no {p : UInt8 → Bool} {c : UInt8} {l : List UInt8} (h : p c = false) : runB p (c :: l) = 0 := by simp [runB, h]
theorem run_end {p : UInt8 → Bool} : ∀ {l : List UInt8} {i : Nat}, (l.take i).all p = true → l.length ≤ i → runB p l = l.length
 | [], _, _, _ => rfl
 | c :: l, 0, _, hl => by simp at hl
 | c :: l, i + 1, h, hl => by
  rw [List.take_succ_cons, List.all_cons, Bool.and_eq_true] at h
  rw [runB_yes h.1, run_end h.2 (by simpa using hl)]
  rfl
theorem run_at {p : UInt8 → Bool} : ∀ {l : List UInt8} {i : Nat} {e : UInt8}, (l.take i).all p = true → l[i]? = some e → p e = false → runB p l = i
 | [], i, e, _, he, _ => by simp at he
 | c :: l, 0, e, _, he, hp => by
  simp only [List.getElem?_cons_zero, Option.some.injEq] at he
  subst he
  exact runB_no hp
 | c :: l, i + 1, e, h, he, hp => by
  rw [List.take_succ_cons, List.all_cons, Bool.and_eq_true] at h
  rw [runB_yes h.1, run_at h.2 (by simpa using he) hp]
theorem all_snoc {p : UInt8 → Bool} {l : List UInt8} {i : Nat} {x : UInt8} (h : l[i]? = some x) : (l.take (i + 1)).all p = ((l.take i).all p && p x) := by
 rw [List.take_add_one, h, List.all_append]
 simp
theorem run_eq_all (p : UInt8 → Bool) : ∀ l : List UInt8, decide (runB p l = l.length) = l.all p
 | [] => rfl
 | c :: l => by
  have ih := run_eq_all p l
  rw [List.all_cons, ← ih]
  cases h : p c with
  | true =>
   rw [runB_yes h, Bool.true_and]
   exact decide_eq_decide.2 (by simp)
  | false =>
   rw [runB_no h, Bool.false_and]
   simp
theorem run_all (p : UInt8 → Bool) (l : List UInt8) : (((runB p l : Nat) : Int) == ((l.length : Nat) : Int)) = l.all p := by
 rw [← run_eq_all, Bool.eq_iff_iff]
 simp
 omega
/-! plain names -/
def firstB (p : UInt8 → Bool) : List UInt8 → Bool
 | [] => false
 | c :: _ => p c
def plainB (l : List UInt8) : Bool := if (l == [] || l == [46]) = true then false else if ((l == [91, 93] || l == [33]) || l == [59]) = true then true else (firstB smallB l && l.all letterB) || l.all signB
theorem plain_end {l : List UInt8} (h1 : (l == []) = false) (h2 : (l == [46]) = false) (h3 : (l == [91, 93]) = false) (h4 : (l == [33]) = false) (h5 : (l == [59]) = false) : plainB l = ((firstB smallB l && l.all letterB) || l.all signB) := by
 unfold plainB
 rw [h1, h2, h3, h4, h5]
 rfl
/-! what is passed over -/
def skipN : List UInt8 → Nat
 | [] => 0
 | c :: l => if c = 37 then (if runB lineB l = l.length then l.length + 1 else runB lineB l + 2 + skipN (l.drop (runB lineB l + 1))) else if blankB c = true then 1 + skipN l else 0
termination_by l => l.length
decreasing_by
 · simp
   omega
 · simp
end Go.Proofs.YtanhhihechakhaaGreatDoor.TokP
set_option linter.unusedVariables false
set_option linter.unusedSimpArgs false
namespace Go.Proofs.YtanhhihechakhaaGreatDoor
open Go.RowKit Go.Proofs.YtanhhihechakhaaGreatDoor.E Go.Proofs.YtanhhihechakhaaGreatDoor.ReplP Go.Proofs.YtanhhihechakhaaGreatDoor.TokP
set_option maxRecDepth 100000 in
theorem small_c (c : UInt8) (h : Hp) : C0 Tryz.prog 68 [.int .u8 (c.toNat : Int)] h (.bool (smallB c)) := by
 refine enter0 Tryz.func68 rfl rfl rfl (fun w => ?_)
 refine cy_seq ?_
 refine cy_region ?_
 refine sy_assign rfl rfl rfl ?_
 refine sy_nil rfl ?_
 refine ny_next ?_
 refine cy_seq ?_
 refine cy_region ?_
 refine sy_move rfl rfl rfl ?_
 refine sy_cmp rfl rfl rfl rfl rfl ?_
 refine sy_move rfl rfl rfl ?_
 refine sy_cond (d := 5) _ rfl rfl (fun hg5 => ?_) (fun hg5 => ?_)
 · refine sy_move rfl rfl rfl ?_
   refine sy_cmp rfl rfl rfl rfl rfl ?_
   refine sy_pickT rfl rfl rfl rfl ?_
   refine sy_assign rfl rfl rfl ?_
   refine sy_nil rfl ?_
   refine ny_next ?_
   refine cy_ret ?_
   refine ny_finR (res1 rfl rfl) (fun w hs => ⟨?_, hs.frm⟩)
   refine congrArg (fun b => Ending.returned (Value.bool b)) ?_
   unfold smallB
   first | rfl | (simp_all; done) | (simp_all; omega)
 · refine sy_skip rfl rfl rfl ?_
   refine sy_skip rfl rfl rfl ?_
   refine sy_pickF rfl rfl rfl rfl ?_
   refine sy_assign rfl rfl rfl ?_
   refine sy_nil rfl ?_
   refine ny_next ?_
   refine cy_ret ?_
   refine ny_finR (res1 rfl rfl) (fun w hs => ⟨?_, hs.frm⟩)
   refine congrArg (fun b => Ending.returned (Value.bool b)) ?_
   unfold smallB
   first | rfl | (simp_all; done) | (simp_all; omega)
set_option maxRecDepth 100000 in
theorem big_c (c : UInt8) (h : Hp) : C0 Tryz.prog 70 [.int .u8 (c.toNat : Int)] h (.bool (bigB c)) := by
 refine enter0 Tryz.func70 rfl rfl rfl (fun w => ?_)
 refine cy_seq ?_
 refine cy_region ?_
 refine sy_assign rfl rfl rfl ?_
 refine sy_nil rfl ?_
 refine ny_next ?_
 refine cy_seq ?_
 refine cy_region ?_
 refine sy_move rfl rfl rfl ?_
 refine sy_cmp rfl rfl rfl rfl rfl ?_
 refine sy_move rfl rfl rfl ?_
 refine sy_cond (d := 5) _ rfl rfl (fun hg5 => ?_) (fun hg5 => ?_)
 · refine sy_move rfl rfl rfl ?_
   refine sy_cmp rfl rfl rfl rfl rfl ?_
   refine sy_pickT rfl rfl rfl rfl ?_
   refine sy_move rfl rfl rfl ?_
   refine sy_cond (d := 9) _ rfl rfl (fun hg9 => ?_) (fun hg9 => ?_)
   · refine sy_skip rfl rfl rfl ?_
     refine sy_skip rfl rfl rfl ?_
     refine sy_pickT rfl rfl rfl rfl ?_
     refine sy_assign rfl rfl rfl ?_
     refine sy_nil rfl ?_
     refine ny_next ?_
     refine cy_ret ?_
     refine ny_finR (res1 rfl rfl) (fun w hs => ⟨?_, hs.frm⟩)
     refine congrArg (fun b => Ending.returned (Value.bool b)) ?_
     unfold bigB
     first | rfl | (simp_all; done) | (simp_all; omega)
   · refine sy_move rfl rfl rfl ?_
     refine sy_cmp rfl rfl rfl rfl rfl ?_
     refine sy_pickF rfl rfl rfl rfl ?_
     refine sy_assign rfl rfl rfl ?_
     refine sy_nil rfl ?_
     refine ny_next ?_
     refine cy_ret ?_
     refine ny_finR (res1 rfl rfl) (fun w hs => ⟨?_, hs.frm⟩)
     refine congrArg (fun b => Ending.returned (Value.bool b)) ?_
     unfold bigB
     first | rfl | (simp_all; done) | (simp_all; omega)
 · refine sy_skip rfl rfl rfl ?_
   refine sy_skip rfl rfl rfl ?_
   refine sy_pickF rfl rfl rfl rfl ?_
   refine sy_move rfl rfl rfl ?_
   refine sy_move rfl rfl rfl ?_
   refine sy_cmp rfl rfl rfl rfl rfl ?_
   refine sy_pickF rfl rfl rfl rfl ?_
   refine sy_assign rfl rfl rfl ?_
   refine sy_nil rfl ?_
   refine ny_next ?_
   refine cy_ret ?_
   refine ny_finR (res1 rfl rfl) (fun w hs => ⟨?_, hs.frm⟩)
   refine congrArg (fun b => Ending.returned (Value.bool b)) ?_
   unfold bigB
   first | rfl | (simp_all; done) | (simp_all; omega)
set_option maxRecDepth 100000 in
theorem digit_c (c : UInt8) (h : Hp) : C0 Tryz.prog 71 [.int .u8 (c.toNat : Int)] h (.bool (digitB c)) := by
 refine enter0 Tryz.func71 rfl rfl rfl (fun w => ?_)
 refine cy_seq ?_
 refine cy_region ?_
 refine sy_assign rfl rfl rfl ?_
 refine sy_nil rfl ?_
 refine ny_next ?_
 refine cy_seq ?_
 refine cy_region ?_
 refine sy_move rfl rfl rfl ?_
 refine sy_cmp rfl rfl rfl rfl rfl ?_
 refine sy_move rfl rfl rfl ?_
 refine sy_cond (d := 5) _ rfl rfl (fun hg5 => ?_) (fun hg5 => ?_)
 · refine sy_move rfl rfl rfl ?_
   refine sy_cmp rfl rfl rfl rfl rfl ?_
   refine sy_pickT rfl rfl rfl rfl ?_
   refine sy_assign rfl rfl rfl ?_
   refine sy_nil rfl ?_
   refine ny_next ?_
   refine cy_ret ?_
   refine ny_finR (res1 rfl rfl) (fun w hs => ⟨?_, hs.frm⟩)
   refine congrArg (fun b => Ending.returned (Value.bool b)) ?_
   unfold digitB
   first | rfl | (simp_all; done) | (simp_all; omega)
 · refine sy_skip rfl rfl rfl ?_
   refine sy_skip rfl rfl rfl ?_
   refine sy_pickF rfl rfl rfl rfl ?_
   refine sy_assign rfl rfl rfl ?_
   refine sy_nil rfl ?_
   refine ny_next ?_
   refine cy_ret ?_
   refine ny_finR (res1 rfl rfl) (fun w hs => ⟨?_, hs.frm⟩)
   refine congrArg (fun b => Ending.returned (Value.bool b)) ?_
   unfold digitB
   first | rfl | (simp_all; done) | (simp_all; omega)
set_option maxRecDepth 100000 in
theorem letter_c (c : UInt8) (h : Hp) : C0 Tryz.prog 69 [.int .u8 (c.toNat : Int)] h (.bool (letterB c)) := by
 refine enter0 Tryz.func69 rfl rfl rfl (fun w => ?_)
 refine cy_seq ?_
 refine cy_region ?_
 refine sy_assign rfl rfl rfl ?_
 refine sy_nil rfl ?_
 refine ny_next ?_
 refine cy_seq ?_
 refine cy_region ?_
 refine sy_move rfl rfl rfl ?_
 refine sy_call rfl call_68 rfl (small_c c _) rfl rfl ?_
 refine sy_move rfl rfl rfl ?_
 refine sy_cond (d := 5) _ rfl rfl (fun hg5 => ?_) (fun hg5 => ?_)
 · refine sy_skip rfl rfl rfl ?_
   refine sy_skip rfl rfl rfl ?_
   refine sy_pickT rfl rfl rfl rfl ?_
   refine sy_move rfl rfl rfl ?_
   refine sy_skip rfl rfl rfl ?_
   refine sy_skip rfl rfl rfl ?_
   refine sy_pickT rfl rfl rfl rfl ?_
   refine sy_assign rfl rfl rfl ?_
   refine sy_nil rfl ?_
   refine ny_next ?_
   refine cy_ret ?_
   refine ny_finR (res1 rfl rfl) (fun w hs => ⟨?_, hs.frm⟩)
   refine congrArg (fun b => Ending.returned (Value.bool b)) ?_
   unfold letterB
   first | rfl | (simp_all; done) | (simp_all; omega)
 · refine sy_move rfl rfl rfl ?_
   refine sy_call rfl call_70 rfl (big_c c _) rfl rfl ?_
   refine sy_pickF rfl rfl rfl rfl ?_
   refine sy_move rfl rfl rfl ?_
   refine sy_cond (d := 9) _ rfl rfl (fun hg9 => ?_) (fun hg9 => ?_)
   · refine sy_skip rfl rfl rfl ?_
     refine sy_skip rfl rfl rfl ?_
     refine sy_pickT rfl rfl rfl rfl ?_
     refine sy_assign rfl rfl rfl ?_
     refine sy_nil rfl ?_
     refine ny_next ?_
     refine cy_ret ?_
     refine ny_finR (res1 rfl rfl) (fun w hs => ⟨?_, hs.frm⟩)
     refine congrArg (fun b => Ending.returned (Value.bool b)) ?_
     unfold letterB
     first | rfl | (simp_all; done) | (simp_all; omega)
   · refine sy_move rfl rfl rfl ?_
     refine sy_call rfl call_71 rfl (digit_c c _) rfl rfl ?_
     refine sy_pickF rfl rfl rfl rfl ?_
     refine sy_assign rfl rfl rfl ?_
     refine sy_nil rfl ?_
     refine ny_next ?_
     refine cy_ret ?_
     refine ny_finR (res1 rfl rfl) (fun w hs => ⟨?_, hs.frm⟩)
     refine congrArg (fun b => Ending.returned (Value.bool b)) ?_
     unfold letterB
     first | rfl | (simp_all; done) | (simp_all; omega)
theorem ibX (s : ByteArray) (c : UInt8) (w : World) : (callFunc 110 #[.string s, .int .u8 (c.toNat : Int)]).run Tryz.prog w = .ok (.value (.int .i64 (Lib.indexByte s.data.toList c))) w := by
 have h1 := Lib.run_indexByteString (P := Tryz.prog) s (c.toNat : Int) w
 have e : (c.toNat : Int).toNat.toUInt8 = c := by simp
 rw [e] at h1
 exact ext_run Tryz.func110 (by kernel_rfl) (by kernel_rfl) (by kernel_rfl) (by kernel_rfl) h1
set_option maxRecDepth 100000 in
theorem ib2_c (s : ByteArray) (c : UInt8) (h : Hp) : C0 Tryz.prog 93 [.string s, .int .u8 (c.toNat : Int)] h (.int .i64 (Lib.indexByte s.data.toList c)) := by
 refine enter0 Tryz.func93 rfl rfl rfl (fun w => ?_)
 refine cy_seq ?_
 refine cy_region ?_
 refine sy_assign rfl rfl rfl ?_
 refine sy_nil rfl ?_
 refine ny_next ?_
 refine cy_seq ?_
 refine cy_region ?_
 refine sy_move rfl rfl rfl ?_
 refine sy_move rfl rfl rfl ?_
 refine sy_exq rfl (fun w hs => ibX s c w) rfl rfl ?_
 refine sy_assign rfl rfl rfl ?_
 refine sy_nil rfl ?_
 refine ny_next ?_
 refine cy_ret ?_
 refine ny_finR (res1 rfl rfl) (fun w hs => ⟨?_, hs.frm⟩)
 rfl
set_option maxRecDepth 100000 in
theorem ib_c (s : ByteArray) (c : UInt8) (h : Hp) : C0 Tryz.prog 74 [.string s, .int .u8 (c.toNat : Int)] h (.int .i64 (Lib.indexByte s.data.toList c)) := by
 refine enter0 Tryz.func74 rfl rfl rfl (fun w => ?_)
 refine cy_seq ?_
 refine cy_region ?_
 refine sy_assign rfl rfl rfl ?_
 refine sy_nil rfl ?_
 refine ny_next ?_
 refine cy_seq ?_
 refine cy_region ?_
 refine sy_move rfl rfl rfl ?_
 refine sy_move rfl rfl rfl ?_
 refine sy_call rfl call_93 rfl (ib2_c s c _) rfl rfl ?_
 refine sy_assign rfl rfl rfl ?_
 refine sy_nil rfl ?_
 refine ny_next ?_
 refine cy_ret ?_
 refine ny_finR (res1 rfl rfl) (fun w hs => ⟨?_, hs.frm⟩)
 rfl
set_option maxRecDepth 100000 in
theorem sign_c (c : UInt8) (h : Hp) : C0 Tryz.prog 76 [.int .u8 (c.toNat : Int)] h (.bool (signB c)) := by
 refine enter0 Tryz.func76 rfl rfl rfl (fun w => ?_)
 refine cy_seq ?_
 refine cy_region ?_
 refine sy_assign rfl rfl rfl ?_
 refine sy_nil rfl ?_
 refine ny_next ?_
 refine cy_seq ?_
 refine cy_region ?_
 refine sy_move rfl rfl rfl ?_
 refine sy_call rfl call_74 rfl (ib_c _ c _) rfl rfl ?_
 refine sy_cmp rfl rfl rfl rfl rfl ?_
 refine sy_assign rfl rfl rfl ?_
 refine sy_nil rfl ?_
 refine ny_next ?_
 refine cy_ret ?_
 refine ny_finR (res1 rfl rfl) (fun w hs => ⟨?_, hs.frm⟩)
 exact congrArg (fun b => Ending.returned (Value.bool b)) (idx_has signL c)
set_option maxRecDepth 100000 in
theorem row_c (s : ByteArray) (F : Nat) (p : UInt8 → Bool) (h : Hp) (hs : s.size ≤ 140737488355328) (hFB : callB Tryz.prog F = true) (hF : ∀ c h, C0 Tryz.prog F [.int .u8 (c.toNat : Int)] h (.bool (p c))) : C0 Tryz.prog 65 [.string s, .func (.func F) #[] #[]] h (.int .i64 ((runB p s.data.toList : Nat) : Int)) := by
 refine enter0 Tryz.func65 rfl rfl rfl (fun w => ?_)
 refine cy_seq ?_
 refine cy_region ?_
 refine sy_assign rfl rfl rfl ?_
 refine sy_nil rfl ?_
 refine ny_next ?_
 refine cy_seq ?_
 refine cy_region ?_
 refine sy_assign rfl rfl rfl ?_
 refine sy_nil rfl ?_
 refine ny_next ?_
 refine cy_seq ?_
 refine cy_block ?_
 refine cy_loopK (ι := Nat) [0, 1] rfl (fun i => i ≤ s.size ∧ (s.data.toList.take i).all p = true) (fun i => s.size - i) (fun i => [(5, .int .i64 (i : Int))]) (fun i => h) (fun i => []) 0 [] ⟨Nat.zero_le _, by simp⟩ ⟨rfl, trivial⟩ rfl rfl ?_
 rintro i ⟨hI, hpre⟩
 refine cy_seq ?_
 refine cy_seq ?_
 refine cy_region ?_
 refine sy_move rfl rfl rfl ?_
 refine sy_move rfl rfl rfl ?_
 refine sy_len rfl (len_string Tryz.underlying9 _) rfl rfl ?_
 refine sy_cmp rfl rfl rfl rfl rfl ?_
 refine sy_move rfl rfl rfl ?_
 refine sy_cond (d := 10) _ rfl rfl (fun hg10 => ?_) (fun hg10 => ?_)
 · have hlti : i < s.size := by have := of_decide_eq_true hg10; omega
   obtain ⟨e0, he0⟩ : ∃ e0, s.data.toList[i]? = some e0 := ⟨_, List.getElem?_eq_getElem (by show i < s.size; omega)⟩
   refine sy_move rfl rfl rfl ?_
   refine sy_move rfl rfl rfl ?_
   refine sy_move rfl rfl rfl ?_
   refine sy_idxs (u := e0) Tryz.underlying9 rfl rfl (by omega) (ba_at he0) rfl rfl ?_
   refine sy_callv rfl hFB (caps := []) rfl rfl (hF e0 _) rfl rfl ?_
   refine sy_pickT rfl rfl rfl rfl ?_
   refine sy_nil rfl ?_
   refine ny_next ?_
   refine cy_cond rfl (fun hc16 => ?_) (fun hc16 => ?_)
   · refine cy_skip ?_
     refine ny_next ?_
     refine cy_block ?_
     refine cy_region ?_
     refine sy_move rfl rfl rfl ?_
     refine sy_addi (z := ((i + 1 : Nat) : Int)) rfl rfl (by omega) (by omega) (by omega) rfl rfl ?_
     refine sy_assign rfl rfl rfl ?_
     refine sy_nil rfl ?_
     refine ny_blockN ?_
     refine ny_roundK [0, 1] (i + 1) [] ⟨by omega, by rw [all_snoc he0, hpre, hc16]; rfl⟩ (show s.size - (i + 1) < s.size - i by omega) rfl ⟨rfl, trivial⟩ rfl rfl
   · refine cy_exit ?_
     refine ny_thenE ?_
     refine ny_thenE ?_
     refine ny_blockX ?_
     refine ny_next ?_
     refine cy_seq ?_
     refine cy_region ?_
     refine sy_move rfl rfl rfl ?_
     refine sy_assign rfl rfl rfl ?_
     refine sy_nil rfl ?_
     refine ny_next ?_
     refine cy_ret ?_
     refine ny_finR (res1 rfl rfl) (fun w hs2 => ⟨?_, hs2.frm⟩)
     first | (rw [run_at hpre he0 hc16]) | (rw [run_end hpre (by show s.size ≤ i; exact hge)]; refine congrArg (fun z : Nat => Ending.returned (Value.int .i64 (z : Int))) ?_; show i = s.size; omega)
 · have hge : s.size ≤ i := by have := of_decide_eq_false hg10; omega
   refine sy_skip rfl rfl rfl ?_
   refine sy_skip rfl rfl rfl ?_
   refine sy_skip rfl rfl rfl ?_
   refine sy_skip rfl rfl rfl ?_
   refine sy_skip rfl rfl rfl ?_
   refine sy_pickF rfl rfl rfl rfl ?_
   refine sy_nil rfl ?_
   refine ny_next ?_
   refine cy_condF rfl ?_
   refine cy_exit ?_
   refine ny_thenE ?_
   refine ny_thenE ?_
   refine ny_blockX ?_
   refine ny_next ?_
   refine cy_seq ?_
   refine cy_region ?_
   refine sy_move rfl rfl rfl ?_
   refine sy_assign rfl rfl rfl ?_
   refine sy_nil rfl ?_
   refine ny_next ?_
   refine cy_ret ?_
   refine ny_finR (res1 rfl rfl) (fun w hs2 => ⟨?_, hs2.frm⟩)
   first | (rw [run_at hpre he0 hc16]) | (rw [run_end hpre (by show s.size ≤ i; exact hge)]; refine congrArg (fun z : Nat => Ending.returned (Value.int .i64 (z : Int))) ?_; show i = s.size; omega)
set_option maxRecDepth 100000 in
theorem plain_c (s : ByteArray) (h : Hp) (hs : s.size ≤ 140737488355328) : C0 Tryz.prog 89 [.string s] h (.bool (plainB s.data.toList)) := by
 refine enter0 Tryz.func89 rfl rfl rfl (fun w => ?_)
 refine cy_seq ?_
 refine cy_region ?_
 refine sy_assign rfl rfl rfl ?_
 refine sy_nil rfl ?_
 refine ny_next ?_
 refine cy_seq ?_
 refine cy_block ?_
 refine cy_seq ?_
 refine cy_region ?_
 refine sy_move rfl rfl rfl ?_
 refine sy_eqs rfl rfl rfl rfl ?_
 refine sy_move rfl rfl rfl ?_
 refine sy_cond (d := 6) _ rfl rfl (fun hg6 => ?_) (fun hg6 => ?_)
 · refine sy_skip rfl rfl rfl ?_
   refine sy_skip rfl rfl rfl ?_
   refine sy_pickT rfl rfl rfl rfl ?_
   refine sy_assign rfl rfl rfl ?_
   refine sy_nil rfl ?_
   refine ny_next ?_
   refine cy_condT rfl ?_
   refine cy_seq ?_
   refine cy_region ?_
   refine sy_assign rfl rfl rfl ?_
   refine sy_nil rfl ?_
   refine ny_next ?_
   refine cy_ret ?_
   refine ny_blockR ?_
   refine ny_thenR ?_
   refine ny_finR (res1 rfl rfl) (fun w hs2 => ⟨?_, hs2.frm⟩)
   refine congrArg (fun b => Ending.returned (Value.bool b)) ?_
   unfold plainB
   simp_all
 · refine sy_move rfl rfl rfl ?_
   refine sy_eqs rfl rfl rfl rfl ?_
   refine sy_pickF rfl rfl rfl rfl ?_
   refine sy_assign rfl rfl rfl ?_
   refine sy_nil rfl ?_
   refine ny_next ?_
   refine cy_cond rfl (fun hc3 => ?_) (fun hc3 => ?_)
   · refine cy_seq ?_
     refine cy_region ?_
     refine sy_assign rfl rfl rfl ?_
     refine sy_nil rfl ?_
     refine ny_next ?_
     refine cy_ret ?_
     refine ny_blockR ?_
     refine ny_thenR ?_
     refine ny_finR (res1 rfl rfl) (fun w hs2 => ⟨?_, hs2.frm⟩)
     refine congrArg (fun b => Ending.returned (Value.bool b)) ?_
     unfold plainB
     simp_all
   · refine cy_seq ?_
     refine cy_region ?_
     refine sy_move rfl rfl rfl ?_
     refine sy_eqs rfl rfl rfl rfl ?_
     refine sy_move rfl rfl rfl ?_
     refine sy_cond (d := 13) _ rfl rfl (fun hg13 => ?_) (fun hg13 => ?_)
     · refine sy_skip rfl rfl rfl ?_
       refine sy_skip rfl rfl rfl ?_
       refine sy_pickT rfl rfl rfl rfl ?_
       refine sy_move rfl rfl rfl ?_
       refine sy_skip rfl rfl rfl ?_
       refine sy_skip rfl rfl rfl ?_
       refine sy_pickT rfl rfl rfl rfl ?_
       refine sy_assign rfl rfl rfl ?_
       refine sy_nil rfl ?_
       refine ny_next ?_
       refine cy_condT rfl ?_
       refine cy_seq ?_
       refine cy_region ?_
       refine sy_assign rfl rfl rfl ?_
       refine sy_nil rfl ?_
       refine ny_next ?_
       refine cy_ret ?_
       refine ny_blockR ?_
       refine ny_thenR ?_
       refine ny_finR (res1 rfl rfl) (fun w hs2 => ⟨?_, hs2.frm⟩)
       refine congrArg (fun b => Ending.returned (Value.bool b)) ?_
       unfold plainB
       simp_all
     · refine sy_move rfl rfl rfl ?_
       refine sy_eqs rfl rfl rfl rfl ?_
       refine sy_pickF rfl rfl rfl rfl ?_
       refine sy_move rfl rfl rfl ?_
       refine sy_cond (d := 17) _ rfl rfl (fun hg17 => ?_) (fun hg17 => ?_)
       · refine sy_skip rfl rfl rfl ?_
         refine sy_skip rfl rfl rfl ?_
         refine sy_pickT rfl rfl rfl rfl ?_
         refine sy_assign rfl rfl rfl ?_
         refine sy_nil rfl ?_
         refine ny_next ?_
         refine cy_condT rfl ?_
         refine cy_seq ?_
         refine cy_region ?_
         refine sy_assign rfl rfl rfl ?_
         refine sy_nil rfl ?_
         refine ny_next ?_
         refine cy_ret ?_
         refine ny_blockR ?_
         refine ny_thenR ?_
         refine ny_finR (res1 rfl rfl) (fun w hs2 => ⟨?_, hs2.frm⟩)
         refine congrArg (fun b => Ending.returned (Value.bool b)) ?_
         unfold plainB
         simp_all
       · refine sy_move rfl rfl rfl ?_
         refine sy_eqs rfl rfl rfl rfl ?_
         refine sy_pickF rfl rfl rfl rfl ?_
         refine sy_assign rfl rfl rfl ?_
         refine sy_nil rfl ?_
         refine ny_next ?_
         refine cy_cond rfl (fun hc10 => ?_) (fun hc10 => ?_)
         · refine cy_seq ?_
           refine cy_region ?_
           refine sy_assign rfl rfl rfl ?_
           refine sy_nil rfl ?_
           refine ny_next ?_
           refine cy_ret ?_
           refine ny_blockR ?_
           refine ny_thenR ?_
           refine ny_finR (res1 rfl rfl) (fun w hs2 => ⟨?_, hs2.frm⟩)
           refine congrArg (fun b => Ending.returned (Value.bool b)) ?_
           unfold plainB
           simp_all
         · refine cy_skip ?_
           refine ny_blockN ?_
           refine ny_next ?_
           refine cy_seq ?_
           have hne : s.data.toList ≠ [] := by
            intro h9
            simp_all
           obtain ⟨e0, r0, hl0⟩ : ∃ e0 r0, s.data.toList = e0 :: r0 := List.exists_cons_of_ne_nil hne
           have he0 : s.data.toList[0]? = some e0 := by rw [hl0]; rfl
           refine cy_region ?_
           refine sy_move rfl rfl rfl ?_
           refine sy_idxs (u := e0) Tryz.underlying9 rfl rfl (by omega) (ba_at (i := 0) he0) rfl rfl ?_
           refine sy_call rfl call_68 rfl (small_c e0 _) rfl rfl ?_
           refine sy_move rfl rfl rfl ?_
           refine sy_cond (d := 24) _ rfl rfl (fun hg24 => ?_) (fun hg24 => ?_)
           · refine sy_move rfl rfl rfl ?_
             refine sy_call rfl call_65 rfl (row_c s 69 letterB _ hs call_69 (fun c h => letter_c c h)) rfl rfl ?_
             refine sy_move rfl rfl rfl ?_
             refine sy_len rfl (len_string Tryz.underlying9 _) rfl rfl ?_
             refine sy_cmp rfl rfl rfl rfl rfl ?_
             refine sy_pickT rfl rfl rfl rfl ?_
             refine sy_move rfl rfl rfl ?_
             refine sy_cond (d := 31) _ rfl rfl (fun hg31 => ?_) (fun hg31 => ?_)
             · refine sy_skip rfl rfl rfl ?_
               refine sy_skip rfl rfl rfl ?_
               refine sy_skip rfl rfl rfl ?_
               refine sy_skip rfl rfl rfl ?_
               refine sy_skip rfl rfl rfl ?_
               refine sy_pickT rfl rfl rfl rfl ?_
               refine sy_assign rfl rfl rfl ?_
               refine sy_nil rfl ?_
               refine ny_next ?_
               refine cy_ret ?_
               refine ny_finR (res1 rfl rfl) (fun w hs2 => ⟨?_, hs2.frm⟩)
               refine congrArg (fun b => Ending.returned (Value.bool b)) ?_
               have q1 := run_all letterB s.data.toList
               have q2 := run_all signB s.data.toList
               have q3 : firstB smallB s.data.toList = smallB e0 := by rw [hl0]; rfl
               have q4 : s.data.toList.length = s.size := rfl
               rw [q4] at q1 q2
               show _ = plainB s.data.toList
               rw [plain_end hg6 hc3 hg13 hg17 hc10, q3, ← q1, ← q2]
               first | (rw [hg24, hg31]; rfl) | (rw [hg24]; rfl)
             · refine sy_move rfl rfl rfl ?_
               refine sy_call rfl call_65 rfl (row_c s 76 signB _ hs call_76 (fun c h => sign_c c h)) rfl rfl ?_
               refine sy_move rfl rfl rfl ?_
               refine sy_len rfl (len_string Tryz.underlying9 _) rfl rfl ?_
               refine sy_cmp rfl rfl rfl rfl rfl ?_
               refine sy_pickF rfl rfl rfl rfl ?_
               refine sy_assign rfl rfl rfl ?_
               refine sy_nil rfl ?_
               refine ny_next ?_
               refine cy_ret ?_
               refine ny_finR (res1 rfl rfl) (fun w hs2 => ⟨?_, hs2.frm⟩)
               refine congrArg (fun b => Ending.returned (Value.bool b)) ?_
               have q1 := run_all letterB s.data.toList
               have q2 := run_all signB s.data.toList
               have q3 : firstB smallB s.data.toList = smallB e0 := by rw [hl0]; rfl
               have q4 : s.data.toList.length = s.size := rfl
               rw [q4] at q1 q2
               show _ = plainB s.data.toList
               rw [plain_end hg6 hc3 hg13 hg17 hc10, q3, ← q1, ← q2]
               first | (rw [hg24, hg31]; rfl) | (rw [hg24]; rfl)
           · refine sy_skip rfl rfl rfl ?_
             refine sy_skip rfl rfl rfl ?_
             refine sy_skip rfl rfl rfl ?_
             refine sy_skip rfl rfl rfl ?_
             refine sy_skip rfl rfl rfl ?_
             refine sy_pickF rfl rfl rfl rfl ?_
             refine sy_move rfl rfl rfl ?_
             refine sy_move rfl rfl rfl ?_
             refine sy_call rfl call_65 rfl (row_c s 76 signB _ hs call_76 (fun c h => sign_c c h)) rfl rfl ?_
             refine sy_move rfl rfl rfl ?_
             refine sy_len rfl (len_string Tryz.underlying9 _) rfl rfl ?_
             refine sy_cmp rfl rfl rfl rfl rfl ?_
             refine sy_pickF rfl rfl rfl rfl ?_
             refine sy_assign rfl rfl rfl ?_
             refine sy_nil rfl ?_
             refine ny_next ?_
             refine cy_ret ?_
             refine ny_finR (res1 rfl rfl) (fun w hs2 => ⟨?_, hs2.frm⟩)
             refine congrArg (fun b => Ending.returned (Value.bool b)) ?_
             have q1 := run_all letterB s.data.toList
             have q2 := run_all signB s.data.toList
             have q3 : firstB smallB s.data.toList = smallB e0 := by rw [hl0]; rfl
             have q4 : s.data.toList.length = s.size := rfl
             rw [q4] at q1 q2
             show _ = plainB s.data.toList
             rw [plain_end hg6 hc3 hg13 hg17 hc10, q3, ← q1, ← q2]
             first | (rw [hg24, hg31]; rfl) | (rw [hg24]; rfl)
end Go.Proofs.YtanhhihechakhaaGreatDoor
set_option linter.unusedVariables false
set_option linter.unusedSimpArgs false
namespace Go.Proofs.YtanhhihechakhaaGreatDoor.TokP
open Go.RowKit Go.Proofs.YtanhhihechakhaaGreatDoor.E Go.Proofs.YtanhhihechakhaaGreatDoor.ReplP
theorem ext_to (s : ByteArray) (i : Nat) : (s.extract 0 i).data.toList = s.data.toList.take i := by
 obtain ⟨⟨l⟩⟩ := s
 simp
end Go.Proofs.YtanhhihechakhaaGreatDoor.TokP
set_option linter.unusedVariables false
set_option linter.unusedSimpArgs false
namespace Go.Proofs.YtanhhihechakhaaGreatDoor.E
open Go.RowKit
end Go.Proofs.YtanhhihechakhaaGreatDoor.E
namespace Go.Proofs.YtanhhihechakhaaGreatDoor.TokP
open Go.RowKit Go.Proofs.YtanhhihechakhaaGreatDoor.E Go.Proofs.YtanhhihechakhaaGreatDoor.ReplP
structure Ans where
 kind : Int
 str : ByteArray
 num : Int
 quo : Bool
 used : Nat
 err : Option (ByteArray × Int)
def valN (l : List UInt8) : Nat := l.foldl (fun a c => 10 * a + (c.toNat - 48)) 0
theorem valN_snoc (l : List UInt8) (c : UInt8) : valN (l ++ [c]) = 10 * valN l + (c.toNat - 48) := by simp [valN]
def w1 : ByteArray := ⟨#[97, 32, 110, 117, 109, 98, 101, 114, 32, 119, 105, 116, 104, 32, 97, 32, 112, 111, 105, 110, 116]⟩
def w2 : ByteArray := ⟨#[97, 32, 110, 117, 109, 98, 101, 114]⟩
end Go.Proofs.YtanhhihechakhaaGreatDoor.TokP
set_option linter.unusedVariables false
set_option linter.unusedSimpArgs false
namespace Go.Proofs.YtanhhihechakhaaGreatDoor.TokP
open Go.RowKit Go.Proofs.YtanhhihechakhaaGreatDoor.E Go.Proofs.YtanhhihechakhaaGreatDoor.ReplP
def q1 : ByteArray := ⟨#[97, 32, 98, 97, 99, 107, 115, 108, 97, 115, 104]⟩
def q2 : ByteArray := ⟨#[97, 32, 98, 121, 116, 101, 32, 111, 102, 32, 97, 32, 110, 97, 109, 101]⟩
def q3 : ByteArray := ⟨#[97, 32, 110, 97, 109, 101, 32, 119, 105, 116, 104, 111, 117, 116, 32, 97, 110, 32, 101, 110, 100]⟩
end Go.Proofs.YtanhhihechakhaaGreatDoor.TokP
set_option linter.unusedVariables false
set_option linter.unusedSimpArgs false
namespace Go.Proofs.YtanhhihechakhaaGreatDoor.TokP
open Go.RowKit Go.Proofs.YtanhhihechakhaaGreatDoor.E Go.Proofs.YtanhhihechakhaaGreatDoor.ReplP
def punctL : List UInt8 := [40, 41, 91, 93, 44, 124]
def b1 : ByteArray := ⟨#[97, 32, 98, 121, 116, 101]⟩
end Go.Proofs.YtanhhihechakhaaGreatDoor.TokP
set_option linter.unusedVariables false
set_option linter.unusedSimpArgs false
namespace Go.Proofs.YtanhhihechakhaaGreatDoor.TokP
open Go.RowKit Go.Proofs.YtanhhihechakhaaGreatDoor.E Go.Proofs.YtanhhihechakhaaGreatDoor.ReplP
structure Tk where
 a : Ans
 tight : Bool
end Go.Proofs.YtanhhihechakhaaGreatDoor.TokP
set_option linter.unusedVariables false
set_option linter.unusedSimpArgs false
namespace Go.Proofs.YtanhhihechakhaaGreatDoor.E
open Go.RowKit
def keysOf (H : List Res) : List Nat := H.filterMap Res.key
theorem mem_keys {H : List Res} {r : Res} {k : Nat} (hr : r ∈ H) (hk : r.key = some k) : k ∈ keysOf H := List.mem_filterMap.2 ⟨r, hr, hk⟩
structure Own (h : Hp) (H : List Res) (w : World) : Prop where
 ok : ∀ r ∈ H, r.Ok w
 out : ∀ r ∈ H, ∀ k, r.key = some k → h k = none
 dis : H.Pairwise (fun r s => ∀ k, r.key = some k → s.key ≠ some k)
theorem St.startN {w : World} {h : Hp} {H : List Res} (hs : h.Sub w) (ho : Own h H w) : St w (keysOf H) h h H w :=
 ⟨Frm.refl w _, hs, Hp.Le.refl h, fun _ _ => rfl, ho.ok, fun r hr k hk => ⟨ho.out r hr k hk, .inr (mem_keys hr hk)⟩, ho.dis⟩
theorem Own.lt {h : Hp} {H : List Res} {w : World} (ho : Own h H w) : ∀ k ∈ keysOf H, k < w.heap.size := fun k hk => by
 obtain ⟨r, hr, hk⟩ := List.mem_filterMap.1 hk
 exact Res.Ok.lt (ho.ok r hr) hk
def CR {X : Type} (P : Program) (F : Nat) (vs : List Value) (h : Hp) (H : List Res) (rv : X → Ending) (Φ : X → Hp → List Res → Prop) : Prop :=
 ∀ w, h.Sub w → Own h H w → Calls P F vs.toArray w fun e w' => ∃ x h' H', e = rv x ∧ Φ x h' H' ∧ St w (keysOf H) h h' H' w'
def pickRs : List Nat → List Res → Option (List Res × List Res)
 | [], H => some ([], H)
 | i :: is, H => match pickR i H with
  | some (r, t) => (match pickRs is t with | some (l, t') => some (r :: l, t') | none => none)
  | none => none
theorem pickRs_perm : ∀ {is : List Nat} {H L T : List Res}, pickRs is H = some (L, T) → H.Perm (L ++ T)
 | [], H, L, T, h => by
  simp only [pickRs, Option.some.injEq, Prod.mk.injEq] at h
  obtain ⟨rfl, rfl⟩ := h
  exact List.Perm.refl _
 | i :: is, H, L, T, h => by
  unfold pickRs at h
  split at h
  · rename_i r t hp
    split at h
    · rename_i l t' hl
      simp only [Option.some.injEq, Prod.mk.injEq] at h
      obtain ⟨rfl, rfl⟩ := h
      exact (pickR_perm hp).trans ((pickRs_perm hl).cons r)
    · cases h
  · cases h
section
variable {m : Md} {P : Program} {ops : Array Oper} {Q : Exit → Act → World → Prop} {n : Nat} {D : List Deferred} {w0 : World} {M : List Nat} {h0 : Hp}
variable {f : Tab} {h : Hp} {H : List Res} {rest : List Oper} {o : Oper}
theorem St.own' {w : World} {Hin H1 : List Res} (s : St w0 M h0 h (Hin ++ H1) w) : Own h Hin w :=
 ⟨fun r hr => s.ok r (List.mem_append_left _ hr), fun r hr k hk => (s.own r (List.mem_append_left _ hr) k hk).1, (List.pairwise_append.1 s.dis).1⟩
theorem St.after {w w' : World} {Hin H1 H' : List Res} {h' : Hp} (s : St w0 M h0 h (Hin ++ H1) w) (t : St w (keysOf Hin) h h' H' w') : St w0 M h0 h' (H' ++ H1) w' := by
 have hin : ∀ x, x ∈ keysOf Hin → w0.heap.size ≤ x ∨ x ∈ M := fun x hx => by
  obtain ⟨r, hr, hk⟩ := List.mem_filterMap.1 hx
  exact (s.own r (List.mem_append_left _ hr) x hk).2
 have hdis := List.pairwise_append.1 s.dis
 have hlt : ∀ r ∈ H1, ∀ k, r.key = some k → k < w.heap.size := fun r hr k hk => Res.Ok.lt (s.ok r (List.mem_append_right _ hr)) hk
 have hnk : ∀ r ∈ H1, ∀ k, r.key = some k → k ∉ keysOf Hin := fun r hr k hk hm => by
  obtain ⟨r0, hr0, hk0⟩ := List.mem_filterMap.1 hm
  exact hdis.2.2 r0 hr0 r hr k hk0 hk
 refine { frm := s.frm.transM t.frm hin, sub := t.sub, le := s.le.trans t.le, old := fun k hk => (t.old k (Nat.lt_of_lt_of_le hk s.frm.size)).trans (s.old k hk), ok := ?_, own := ?_, dis := ?_ }
 · intro r hr
   rcases List.mem_append.1 hr with hr | hr
   · exact t.ok r hr
   · exact Res.Ok.keep (s.ok r (List.mem_append_right _ hr)) fun k hk => t.frm.block k (hlt r hr k hk) (hnk r hr k hk)
 · intro r hr k hk
   rcases List.mem_append.1 hr with hr | hr
   · have h1 := t.own r hr k hk
     refine ⟨h1.1, ?_⟩
     rcases h1.2 with h2 | h2
     · exact .inl (Nat.le_trans s.frm.size h2)
     · exact hin k h2
   · have h1 := s.own r (List.mem_append_right _ hr) k hk
     exact ⟨(t.old k (hlt r hr k hk)).trans h1.1, h1.2⟩
 · refine List.pairwise_append.2 ⟨t.dis, hdis.2.1, fun r hr r1 hr1 k hk hk1 => ?_⟩
   rcases (t.own r hr k hk).2 with h2 | h2
   · have := hlt r1 hr1 k hk1
     omega
   · exact hnk r1 hr1 k hk1 h2
def Upon (P : Program) (ops : Array Oper) (Q : Exit → Act → World → Prop) (n : Nat) (D : List Deferred) (w0 : World) (M : List Nat) (h0 : Hp) (rest : List Oper) (d : Nat) (f : Tab) (h : Hp) (H : List Res) : Ending → Prop
 | .returned v => Sy .txt P ops Q n D w0 M h0 rest ((d, v) :: f) h H
 | .panicked ch => Ny Q (.panic ch) n D w0 M h0 f h H
 | .outgrown => False
section calls
variable {d t : Nat} {p : String} {af : Array Edge} {g : Option (Nat × Bool)} {F : Nat} {args : Array Operand} {tys : Array TypeId} {vs : List Value}
theorem sy_callR {X : Type} {rv : X → Ending} {Φ : X → Hp → List Res → Prop} {Hin H1 : List Res} (is : List Nat) (hF : callB P F = true) (hx : f.evs args.toList = some vs) (hp : pickRs is H = some (Hin, H1)) (hc : CR P F vs h Hin rv Φ) (hw : gok ops f g = some true) (hn : Nat.blt d n = true)
    (k : ∀ x h' H', Φ x h' H' → h.Le h' → Upon P ops Q n D w0 M h0 rest d f h' (H' ++ H1) (rv x)) : Sy .txt P ops Q n D w0 M h0 (⟨some d, .call ⟨.value (.func F), args, tys⟩, t, p, af, g⟩ :: rest) f h H :=
 sy_op hw fun a w ha hs => by
  have hs' := hs.swap (pickRs_perm hp)
  unfold Oper.wp
  rw [run_callF hF ha hx]
  refine (hc w hs.sub hs'.own').mono fun e w' ⟨x, h', H', he, hΦ, ht⟩ => ?_
  have hk := k x h' H' hΦ ht.le
  rw [← he] at hk
  cases e with
  | returned v => exact hk _ w' (ha.put d _ hn) (hs'.after ht)
  | panicked ch => exact hk a w' ha (hs'.after ht)
  | outgrown => exact hk.elim
theorem sy_callbR {X : Type} {rv : X → Ending} {fv : Operand} {fs caps : List Value} {Φ : X → Hp → List Res → Prop} {Hin H1 : List Res} (is : List Nat) (hF : callB P F = true) (hf : f.ev fv = some (.func (.func F) fs.toArray caps.toArray)) (hx : f.evs args.toList = some vs) (hp : pickRs is H = some (Hin, H1)) (hc : CR P F (fs ++ vs ++ caps) h Hin rv Φ) (hw : gok ops f g = some true) (hn : Nat.blt d n = true)
    (k : ∀ x h' H', Φ x h' H' → h.Le h' → Upon P ops Q n D w0 M h0 rest d f h' (H' ++ H1) (rv x)) : Sy .txt P ops Q n D w0 M h0 (⟨some d, .call ⟨.value fv, args, tys⟩, t, p, af, g⟩ :: rest) f h H :=
 sy_op hw fun a w ha hs => by
  have hs' := hs.swap (pickRs_perm hp)
  unfold Oper.wp
  rw [run_callB hF ha hf hx]
  refine (hc w hs.sub hs'.own').mono fun e w' ⟨x, h', H', he, hΦ, ht⟩ => ?_
  have hk := k x h' H' hΦ ht.le
  rw [← he] at hk
  cases e with
  | returned v => exact hk _ w' (ha.put d _ hn) (hs'.after ht)
  | panicked ch => exact hk a w' ha (hs'.after ht)
  | outgrown => exact hk.elim
theorem sy_callR1 {X : Type} {rv : X → Value} {Φ : X → Hp → List Res → Prop} {Hin H1 : List Res} (is : List Nat) (hF : callB P F = true) (hx : f.evs args.toList = some vs) (hp : pickRs is H = some (Hin, H1)) (hc : CR P F vs h Hin (fun x => .returned (rv x)) Φ) (hw : gok ops f g = some true) (hn : Nat.blt d n = true)
    (k : ∀ x h' H', Φ x h' H' → h.Le h' → Sy .txt P ops Q n D w0 M h0 rest ((d, rv x) :: f) h' (H' ++ H1)) : Sy .txt P ops Q n D w0 M h0 (⟨some d, .call ⟨.value (.func F), args, tys⟩, t, p, af, g⟩ :: rest) f h H :=
 sy_callR is hF hx hp hc hw hn fun x h' H' hΦ hle => k x h' H' hΦ hle
theorem sy_callbR1 {X : Type} {rv : X → Value} {fv : Operand} {fs caps : List Value} {Φ : X → Hp → List Res → Prop} {Hin H1 : List Res} (is : List Nat) (hF : callB P F = true) (hf : f.ev fv = some (.func (.func F) fs.toArray caps.toArray)) (hx : f.evs args.toList = some vs) (hp : pickRs is H = some (Hin, H1)) (hc : CR P F (fs ++ vs ++ caps) h Hin (fun x => .returned (rv x)) Φ) (hw : gok ops f g = some true) (hn : Nat.blt d n = true)
    (k : ∀ x h' H', Φ x h' H' → h.Le h' → Sy .txt P ops Q n D w0 M h0 rest ((d, rv x) :: f) h' (H' ++ H1)) : Sy .txt P ops Q n D w0 M h0 (⟨some d, .call ⟨.value fv, args, tys⟩, t, p, af, g⟩ :: rest) f h H :=
 sy_callbR is hF hf hx hp hc hw hn fun x h' H' hΦ hle => k x h' H' hΦ hle
end calls
variable {ch : List PanicEntry}
/-! entry -/
theorem enterR {X : Type} {rv : X → Ending} {Φ : X → Hp → List Res → Prop} {F : Nat} {fn : Func} {c : Code} {vs : List Value} (hf : P.funcs[F]? = some fn) (hb : fn.body = some c) (hi : initO 0 vs = some f) (hn : Nat.ble vs.length fn.ntmps = true)
    (k : ∀ w, (∀ x ∈ keysOf H, x < w.heap.size) → Cy P c (bodyPost P fn fun e w' => ∃ x h' H', e = rv x ∧ Φ x h' H' ∧ St w (keysOf H) h h' H' w') fn.ntmps [] w (keysOf H) h f h H) : CR P F vs h H rv Φ :=
 fun w hs ho => enterM hf hb hi hn (St.startN hs ho) (k w ho.lt)
/-! more and less -/
theorem CR.mono {X Y : Type} {F : Nat} {vs : List Value} {rv : X → Ending} {rv2 : Y → Ending} {Φ : X → Hp → List Res → Prop} {Ψ : Y → Hp → List Res → Prop} (hc : CR P F vs h H rv Φ) (hk : ∀ x h' H', Φ x h' H' → ∃ y, rv2 y = rv x ∧ Ψ y h' H') : CR P F vs h H rv2 Ψ :=
 fun w hs ho => (hc w hs ho).mono fun e w' ⟨x, h', H', he, hΦ, ht⟩ => by
  obtain ⟨y, h1, h2⟩ := hk x h' H' hΦ
  exact ⟨y, h', H', he.trans h1.symm, h2, ht⟩
end
end Go.Proofs.YtanhhihechakhaaGreatDoor.E
set_option linter.unusedVariables false
set_option linter.unusedSimpArgs false
namespace Go.Proofs.YtanhhihechakhaaGreatDoor.E
open Go.RowKit
theorem run_append_str {P : Program} (w : World) (t u ty e : TypeId) (i : TypeInfo) (ht : P.underlying t = some (.slice e)) (hu : P.underlying u = some .string) (hi : P.info? e = some i) (hz : i.zero = some (.int .u8 0)) (hsize : i.size = 1) (hby : i.bytes = 1)
    (v : Value) (n : Nat) (xs : List Value) (hown : w.ownsRow 0 e 1 v n xs) (s : ByteArray) (h63 : n + s.size ≤ maxLen) (hbytes : n + s.size ≤ 140737488355328) :
    ∃ v' w', (Builtin.append_ #[t, u] ty #[v, .string s]).run P w = .ok v' w' ∧ w'.ownsRow 0 e 1 v' (n + s.size) (xs ++ Lib.strCells s) ∧ w.grownBy w' v.ownBlock ∧ (v'.ownBlock = v.ownBlock ∨ (∃ b, v'.ownBlock = some b ∧ w.heap.size ≤ b) ∨ v'.ownBlock = none) := by
 obtain ⟨v', w', hr, h2, h3, _⟩ := Lib.run_append_own_string (P := P) w 0 t u ty e i ht hu hi hz hsize hby v n xs hown s h63 hbytes (Nat.zero_le _)
 refine ⟨v', w', hr, h2, h3, ?_⟩
 have hsmall : n + s.size ≤ 9223372036854775807 := by simp only [maxLen] at h63; omega
 rcases hown.2 with ⟨rfl, rfl⟩ | ⟨g, cap, cur, rfl, _, hg, hnc, hcm, hcs, htake⟩
 · obtain ⟨v2, w2, hr2, k2, _, _⟩ := Lib.run_append_own_string (P := P) w w.heap.size t u ty e i ht hu hi hz hsize hby (.slice none 0 0) 0 xs ⟨hown.1, .inl ⟨rfl, rfl⟩⟩ s h63 hbytes (Nat.le_refl _)
   rw [hr] at hr2
   injection hr2 with e1 e2
   subst e1 e2
   cases hb : v'.ownBlock with
   | none => exact .inr (.inr rfl)
   | some b => exact .inr (.inl ⟨b, rfl, (World.ownsRow.lt k2 b hb).1⟩)
 · have hxl : xs.length = n := by simpa using hown.1
   by_cases hroom : n + s.size ≤ cap
   · have hcs' : cur.size = cap := by simpa using hcs
     have hr2 := Lib.run_append_room_string (P := P) w t u ty e i ht hu hi hsize g n cap cur hg s hroom (by omega)
     rw [hr] at hr2
     injection hr2 with e1 e2
     subst e1
     exact .inl rfl
   · have holds : ∀ j u, xs[j]? = some u → w.cell? ((⟨g, 0, none⟩ : Addr).add j) = some u := hown.cells (g := g) rfl
     have hr2 := Lib.run_append_grow_string (P := P) w t u ty e i (.int .u8 0) ht hu hi hz ⟨g, 0, none⟩ n cap xs (by rw [hsize]; simpa using hxl) holds s (by omega) (by omega) (by rw [hby]; exact growslice_fits (by omega) (by omega))
     rw [hr] at hr2
     injection hr2 with e1 e2
     subst e1
     exact .inr (.inl ⟨_, rfl, Nat.le_refl _⟩)
section
variable {m : Md} {P : Program} {ops : Array Oper} {Q : Exit → Act → World → Prop} {n : Nat} {D : List Deferred} {w0 : World} {M : List Nat} {h0 : Hp}
variable {f : Tab} {h : Hp} {H : List Res} {rest : List Oper} {o : Oper}
variable {d t s : Nat} {p : String} {af : Array Edge} {g : Option (Nat × Bool)}
def bvs (l : List UInt8) : List Value := l.map fun u => Value.int .u8 (u.toNat : Int)
theorem bvs_append (a b : List UInt8) : bvs (a ++ b) = bvs a ++ bvs b := List.map_append
theorem sy_appendS {x y : Operand} {v : Value} {e l s2 : Nat} {bs : ByteArray} {xs : List Value} {H1 : List Res} (i : Nat) (hr : rowB P s e 1 1 = true) (hz : (P.info? e).map (fun i => i.zero) = some (some (.int .u8 0))) (hu : P.underlying s2 = some .string)
    (hx : f.ev x = some v) (hp : pickR i H = some (.row v e 1 l xs, H1)) (hy : f.ev y = some (.string bs)) (hb : l + bs.size ≤ 140737488355328) (hw : gok ops f g = some true) (hn : Nat.blt d n = true)
    (k : ∀ v', Sy .txt P ops Q n D w0 M h0 rest ((d, v') :: f) h (.row v' e 1 (l + bs.size) (xs ++ bvs bs.data.toList) :: H1)) :
    Sy .txt P ops Q n D w0 M h0 (⟨some d, .call ⟨.builtin .append, #[x, y], #[s, s2]⟩, t, p, af, g⟩ :: rest) f h H :=
 sy_op hw fun a w ha hs => by
  obtain ⟨h2, inf, z, h3, h4, h5, h6, h7⟩ := row_spec hr
  have hz0 : inf.zero = some (.int .u8 0) := by
   rw [h3] at hz
   simpa using hz
  have hs' := hs.swap (pickR_perm hp)
  have ho : w.ownsRow 0 e 1 v l xs := hs'.ok _ (List.mem_cons_self)
  obtain ⟨v', w', hrun, ho', hg, hat⟩ := run_append_str (P := P) w s s2 t e inf h2 hu h3 hz0 h5 h6 v l xs ho bs (by simp only [maxLen]; omega) hb
  have hrun' : (execOp a.eval ⟨some d, .call ⟨.builtin .append, #[x, y], #[s, s2]⟩, t, p, af, g⟩).run P w = .ok (.value v') w' := by
   simp only [execOp, resolve, invoke, builtin, Sem.run_bind, Sem.run_pure, Result.andThen_ok, List.map_toArray, List.map_cons, List.map_nil, ha.ev hx, ha.ev hy, hrun]
  unfold Oper.wp
  rw [hrun']
  exact k v' _ w' (ha.put d _ hn) (hs'.rowed hg ho' hat)
theorem sy_fromUns {x : Operand} {b e s2 u : Nat} {cs : List Value} {fr : Nat × Nat} {H1 : List Res} (i : Nat) (hs : P.underlying s = some .unsafePointer) (hd : P.underlying s2 = some (.pointer u)) (hinf : (P.info? u).isSome = true) (hl : liesAt P P.depth e (cs.length / P.cellsOf e) 0 u 1 = true)
    (hx : f.ev x = some (.pointer (some ⟨b, 0, none⟩))) (hp : pickR i H = some (.blk b (.cells cs.toArray e fr), H1)) (hw : gok ops f g = some true) (hn : Nat.blt d n = true)
    (k : Sy m P ops Q n D w0 M h0 rest ((d, .pointer (some ⟨b, 0, none⟩)) :: f) h H) : Sy m P ops Q n D w0 M h0 (⟨some d, .convert s s2 x, t, p, af, g⟩ :: rest) f h H :=
 sy_val hw rfl hn (fun a w ha hs' => by
  have hb : w.heap[b]? = some (.cells cs.toArray e fr) := (hs'.swap (pickR_perm hp)).ok _ (List.mem_cons_self)
  have hsh : w.shape? (⟨b, 0, none⟩ : Addr).block = some (e, cs.length) := by simp [World.shape?, hb]
  obtain ⟨j, hj⟩ := Option.isSome_iff_exists.1 hinf
  have h1 := Lib.run_from_unsafe (P := P) w ⟨b, 0, none⟩ hs hd hj hsh hl
  simp only [execOp, ha.ev hx, Sem.run_bind, h1, Result.andThen_ok, Sem.run_pure]) k
theorem sy_neSame {x y : Operand} {b te s2 : Nat} (hs : P.underlying s = some (.pointer te)) (hinf : (P.info? te).isSome = true) (hx : f.ev x = some (.pointer (some ⟨b, 0, none⟩))) (hy : f.ev y = some (.pointer (some ⟨b, 0, none⟩))) (hw : gok ops f g = some true) (hn : Nat.blt d n = true)
    (k : Sy m P ops Q n D w0 M h0 rest ((d, .bool false) :: f) h H) : Sy m P ops Q n D w0 M h0 (⟨some d, .binOp .neq s x y s2, t, p, af, g⟩ :: rest) f h H := by
 obtain ⟨j, hj⟩ := Option.isSome_iff_exists.1 hinf
 refine sy_val hw rfl hn (fun a w ha _ => ?_) k
 have h1 := Lib.run_neq_ptr_same (P := P) w ⟨b, 0, none⟩ hs hj
 simp [execOp, ha.ev hx, ha.ev hy, eqGuard_at_pointer, h1]
theorem cy_rowblk {c : Code} {v : Value} {e l : Nat} {xs : List Value} {H1 : List Res} (i : Nat) (hp : pickR i H = some (.row v e 1 l xs, H1)) (hl0 : l ≠ 0) (k : ∀ b c', v = .slice (some ⟨b, 0, none⟩) l c' → c' ≠ 0 → Cy P c Q n D w0 M h0 f h H) : Cy P c Q n D w0 M h0 f h H := fun a w ha hs => by
 have hs' := hs.swap (pickR_perm hp)
 have ho : w.ownsRow 0 e 1 v l xs := hs'.ok _ (List.mem_cons_self)
 rcases ho.2 with ⟨_, h1⟩ | ⟨gg, cap, cur, hv, _, _, hnc, _⟩
 · exact absurd h1 hl0
 · exact k gg cap hv (by omega) a w ha hs
theorem sy_sliceData {x : Operand} {A : Addr} {l c : Nat} (hx : f.ev x = some (.slice (some A) l c)) (hc : c ≠ 0) (hw : gok ops f g = some true) (hn : Nat.blt d n = true)
    (k : Sy m P ops Q n D w0 M h0 rest ((d, .pointer (some A)) :: f) h H) : Sy m P ops Q n D w0 M h0 (⟨some d, .call ⟨.builtin .unsafeSliceData, #[x], #[s]⟩, t, p, af, g⟩ :: rest) f h H :=
 sy_val hw rfl hn (fun a w ha _ => by
  have h1 := Lib.run_unsafeSliceData_row (P := P) w #[s] t A l c hc
  simp only [execOp, resolve, invoke, builtin, Sem.run_bind, Sem.run_pure, Result.andThen_ok, List.map_toArray, List.map_cons, List.map_nil, ha.ev hx, h1]) k
theorem St.letgo {w w' : World} {r : Res} {H1 : List Res} {b : Nat} (s : St w0 M h0 h (r :: H1) w) (hk : r.key = some b) (hf : Frm w [b] w') : St w0 M h0 h H1 w' := by
 have hown := s.own _ (List.mem_cons_self) b hk
 refine { frm := s.frm.transM hf (fun x hx => by simp only [List.mem_singleton] at hx; subst hx; exact hown.2), sub := ?_, le := s.le, old := s.old, ok := ?_, own := fun r hr => s.own r (List.mem_cons_of_mem _ hr), dis := (List.pairwise_cons.1 s.dis).2 }
 · intro k o1 hk1
   have : k ≠ b := by rintro rfl; rw [hown.1] at hk1; cases hk1
   exact (hf.block k (Array.getElem?_eq_some_iff.1 (s.sub k o1 hk1)).1 (by simpa using this)).trans (s.sub k o1 hk1)
 · intro r1 hr
   have h1 := s.ok r1 (List.mem_cons_of_mem _ hr)
   refine Res.Ok.keep h1 fun k hk1 => hf.block k (Res.Ok.lt h1 hk1) ?_
   have h2 := (List.pairwise_cons.1 s.dis).1 r1 hr b hk
   simp only [List.mem_singleton]
   rintro rfl
   exact h2 hk1
theorem frm_freeze (w : World) (b n : Nat) : Frm w [b] (w.freeze ⟨b, 0, none⟩ n) := by
 unfold World.freeze
 split
 · exact Frm.refl w _
 refine ⟨rfl, rfl, rfl, by simp, fun k hk hm => ?_⟩
 simp only [List.mem_singleton] at hm
 have hne : ¬ b = k := fun e => hm e.symm
 simp [Array.getElem?_modify, hne]
theorem sy_unsafeStr {x y : Operand} {b c e l s2 : Nat} {bs : List UInt8} {H1 : List Res} (i : Nat) (hs : P.underlying s = some (.pointer e)) (hce : P.cellsOf e = 1) (hx : f.ev x = some (.pointer (some ⟨b, 0, none⟩))) (hy : f.ev y = some (.int .i64 (l : Int))) (hp : pickR i H = some (.row (.slice (some ⟨b, 0, none⟩) l c) e 1 l (bvs bs), H1)) (h0' : l ≠ 0) (hl : bs.length = l)
    (hw : gok ops f g = some true) (hn : Nat.blt d n = true) (k : Sy .txt P ops Q n D w0 M h0 rest ((d, .string ⟨bs.toArray⟩) :: f) h H1) : Sy .txt P ops Q n D w0 M h0 (⟨some d, .call ⟨.builtin .unsafeString, #[x, y], #[s, s2]⟩, t, p, af, g⟩ :: rest) f h H :=
 sy_op hw fun a w ha hs' => by
  subst hl
  have hsw := hs'.swap (pickR_perm hp)
  have ho : w.ownsRow 0 e 1 (.slice (some ⟨b, 0, none⟩) bs.length c) bs.length (bvs bs) := hsw.ok _ (List.mem_cons_self)
  obtain ⟨cap, cur, hg, hnc, hcm, hcs⟩ : ∃ cap cur, w.heap[b]? = some (.cells cur e (0, 0)) ∧ bs.length ≤ cap ∧ cap ≤ maxLen ∧ cur.size = cap * 1 := by
   rcases ho.2 with ⟨h1, _⟩ | ⟨gg, cap, cur, hv, _, h3, h4, h5, h6, _⟩
   · cases h1
   · injection hv with e1 e2 e3
     injection e1 with e1
     injection e1 with e1
     subst e1
     exact ⟨cap, cur, h3, h4, h5, h6⟩
  have hrun := Lib.run_unsafeString_row (P := P) w s s2 t e hs hce b cur.size (by simp [World.shape?, hg]) bs (by intro h9; rw [h9] at h0'; exact h0' rfl) (by omega) (by simp only [maxLen] at hcm; omega) (fun j x hj => by
   have := ho.cells (g := b) rfl j (.int .u8 (x.toNat : Int)) (by unfold bvs; rw [List.getElem?_map, hj]; rfl)
   exact this)
  have hrun' : (execOp a.eval ⟨some d, .call ⟨.builtin .unsafeString, #[x, y], #[s, s2]⟩, t, p, af, g⟩).run P w = .ok (.value (.string ⟨bs.toArray⟩)) (w.freeze ⟨b, 0, none⟩ bs.length) := by
   simp only [execOp, resolve, invoke, builtin, Sem.run_bind, Sem.run_pure, Result.andThen_ok, List.map_toArray, List.map_cons, List.map_nil, ha.ev hx, ha.ev hy, hrun]
  unfold Oper.wp
  rw [hrun']
  exact k _ _ (ha.put d _ hn) (hsw.letgo rfl (frm_freeze w b _))
end
end Go.Proofs.YtanhhihechakhaaGreatDoor.E
set_option linter.unusedVariables false
set_option linter.unusedSimpArgs false
namespace Go.Proofs.YtanhhihechakhaaGreatDoor
open Go.RowKit Go.Proofs.YtanhhihechakhaaGreatDoor.E Go.Proofs.YtanhhihechakhaaGreatDoor.ReplP Go.Proofs.YtanhhihechakhaaGreatDoor.TokP
set_option maxRecDepth 100000 in
theorem copy_fresh (b : Nat) (v : Value) (h : Hp) : CM Tryz.prog 48 [.pointer (some ⟨b, 0, none⟩)] h b (.cells [.pointer none, v].toArray 53 (0, 0)) (.tuple #[]) (.cells [.pointer (some ⟨b, 0, none⟩), v].toArray 53 (0, 0)) := by
 refine enter1 Tryz.func48 rfl rfl rfl (fun w hb0 => ?_)
 refine cy_seq ?_
 refine cy_region ?_
 refine sy_move rfl rfl rfl ?_
 refine sy_nilCheck rfl rfl rfl ?_
 refine sy_field fld_53_0 rfl rfl rfl ?_
 first | refine sy_ldr 0 one_51 rfl rfl rfl rfl rfl ?_
 refine sy_eqp Tryz.underlying51 rfl rfl rfl rfl rfl ?_
 refine sy_setT (d := 6) rfl rfl rfl ?_
 refine sy_nil rfl ?_
 refine ny_next ?_
 refine cy_condT rfl ?_
 refine cy_region ?_
 refine sy_move rfl rfl rfl ?_
 refine sy_move rfl rfl rfl ?_
 refine sy_unsafe (v := .pointer none) Tryz.underlying51 Tryz.underlying97 (by kernel_rfl) rfl (fun w hs => St.cellR 0 rfl rfl hs) rfl rfl ?_
 refine sy_exq rfl (fun w hs => ext_run (e := Extern.AbiNoEscape.same) Tryz.func64 (by kernel_rfl) (by kernel_rfl) (by kernel_rfl) (by kernel_rfl) (Lib.run_noEscape w _)) rfl rfl ?_
 refine sy_fromUns 0 Tryz.underlying97 Tryz.underlying51 (by kernel_rfl) (show liesAt Tryz.prog Tryz.prog.depth 53 (2 / Tryz.prog.cellsOf 53) 0 53 1 = true by kernel_rfl) rfl rfl rfl rfl ?_
 refine sy_nilCheck rfl rfl rfl ?_
 refine sy_field fld_53_0 rfl rfl rfl ?_
 first | refine sy_stl 0 sz_51 rfl rfl rfl rfl rfl rfl rfl rfl ?_
 refine sy_nil rfl ?_
 exact ny_fin (res0 rfl) (fun w hs => ⟨rfl, hs.frm, hs.ok _ (List.mem_cons_self)⟩)
set_option maxRecDepth 100000 in
theorem copy_used (b : Nat) (v : Value) (h : Hp) : CM Tryz.prog 48 [.pointer (some ⟨b, 0, none⟩)] h b (.cells [.pointer (some ⟨b, 0, none⟩), v].toArray 53 (0, 0)) (.tuple #[]) (.cells [.pointer (some ⟨b, 0, none⟩), v].toArray 53 (0, 0)) := by
 refine enter1 Tryz.func48 rfl rfl rfl (fun w hb0 => ?_)
 refine cy_seq ?_
 refine cy_region ?_
 refine sy_move rfl rfl rfl ?_
 refine sy_nilCheck rfl rfl rfl ?_
 refine sy_field fld_53_0 rfl rfl rfl ?_
 first | refine sy_ldr 0 one_51 rfl rfl rfl rfl rfl ?_
 refine sy_eqp Tryz.underlying51 rfl rfl rfl rfl rfl ?_
 refine sy_setF (d := 6) rfl rfl rfl ?_
 refine sy_nil rfl ?_
 refine ny_next ?_
 refine cy_condF rfl ?_
 refine cy_seq ?_
 refine cy_region ?_
 refine sy_move rfl rfl rfl ?_
 refine sy_nilCheck rfl rfl rfl ?_
 refine sy_field fld_53_0 rfl rfl rfl ?_
 first | refine sy_ldr 0 one_51 rfl rfl rfl rfl rfl ?_
 refine sy_move rfl rfl rfl ?_
 refine sy_neSame Tryz.underlying51 (by kernel_rfl) rfl rfl rfl rfl ?_
 refine sy_setF (d := 19) rfl rfl rfl ?_
 refine sy_nil rfl ?_
 refine ny_next ?_
 refine cy_condF rfl ?_
 refine cy_skip ?_
 exact ny_fin (res0 rfl) (fun w hs => ⟨rfl, hs.frm, hs.ok _ (List.mem_cons_self)⟩)
def PSt (b : Nat) (p : Value) : Prop := p = .pointer none ∨ p = .pointer (some ⟨b, 0, none⟩)
theorem copy_c (b : Nat) (p v : Value) (h : Hp) (hp : PSt b p) : CM Tryz.prog 48 [.pointer (some ⟨b, 0, none⟩)] h b (.cells [p, v].toArray 53 (0, 0)) (.tuple #[]) (.cells [.pointer (some ⟨b, 0, none⟩), v].toArray 53 (0, 0)) := by
 rcases hp with rfl | rfl
 · exact copy_fresh b v h
 · exact copy_used b v h
set_option maxRecDepth 100000 in
theorem writeString_c (b : Nat) (p v : Value) (xs : List UInt8) (s : ByteArray) (h : Hp) (hp : PSt b p) (hz : xs.length + s.size ≤ 140737488355328) : CR Tryz.prog 31 [.pointer (some ⟨b, 0, none⟩), .string s] h [.blk b (.cells [p, v].toArray 53 (0, 0)), .row v 5 1 (xs).length (bvs (xs))] (fun _ : Value => .returned (.tuple #[.int .i64 (s.size : Int), .nilIface])) (fun v' h' H' => h = h' ∧ H' = [.blk b (.cells [.pointer (some ⟨b, 0, none⟩), v'].toArray 53 (0, 0)), .row v' 5 1 (xs ++ s.data.toList).length (bvs (xs ++ s.data.toList))]) := by
 refine enterR Tryz.func31 rfl rfl rfl (fun w hb0 => ?_)
 refine cy_seq ?_
 refine cy_region ?_
 refine sy_assign rfl rfl rfl ?_
 refine sy_assign rfl rfl rfl ?_
 refine sy_nil rfl ?_
 refine ny_next ?_
 refine cy_seq ?_
 refine cy_region ?_
 refine sy_move rfl rfl rfl ?_
 refine sy_callm 0 call_48 rfl rfl (copy_c b p v h hp) rfl rfl ?_
 refine sy_nil rfl ?_
 refine ny_next ?_
 refine cy_seq ?_
 refine cy_region ?_
 refine sy_move rfl rfl rfl ?_
 refine sy_move rfl rfl rfl ?_
 refine sy_nilCheck rfl rfl rfl ?_
 refine sy_field fld_53_1 rfl rfl rfl ?_
 first | refine sy_ldr 0 one_40 rfl rfl rfl rfl rfl ?_ | refine sy_ldr 1 one_40 rfl rfl rfl rfl rfl ?_
 refine sy_move rfl rfl rfl ?_
 refine sy_appendS 1 row_40 (by kernel_rfl) Tryz.underlying9 rfl rfl rfl hz rfl rfl (fun v14 => ?_)
 refine sy_rowform 0 rfl (fun A14 c14 hv14 => ?_)
 subst hv14
 refine sy_nilCheck rfl rfl rfl ?_
 refine sy_field fld_53_1 rfl rfl rfl ?_
 first | refine sy_stl 0 sz_40 rfl rfl rfl rfl rfl rfl rfl rfl ?_ | refine sy_stl 1 sz_40 rfl rfl rfl rfl rfl rfl rfl rfl ?_
 refine sy_nil rfl ?_
 refine ny_next ?_
 refine cy_seq ?_
 refine cy_region ?_
 refine sy_move rfl rfl rfl ?_
 refine sy_len rfl (len_string Tryz.underlying9 _) rfl rfl ?_
 refine sy_assign rfl rfl rfl ?_
 refine sy_assign rfl rfl rfl ?_
 refine sy_nil rfl ?_
 refine ny_next ?_
 refine cy_ret ?_
 refine ny_finR (res2 rfl rfl rfl) (fun w hs => ⟨.slice A14 (xs.length + s.size) c14, h, _, rfl, ⟨rfl, ?_⟩, hs⟩)
 rw [bvs_append, List.length_append]
 rfl
set_option maxRecDepth 100000 in
theorem string_c (b : Nat) (p v : Value) (xs : List UInt8) (h : Hp) (hb : h b = some (.cells [p, v].toArray 53 (0, 0))) (hx : xs ≠ []) : CR Tryz.prog 32 [.pointer (some ⟨b, 0, none⟩)] h [.row v 5 1 (xs).length (bvs (xs))] (fun _ : Unit => .returned (.string ⟨xs.toArray⟩)) (fun _ h' H' => h = h' ∧ H' = []) := by
 refine enterR Tryz.func32 rfl rfl rfl (fun w hb0 => ?_)
 refine cy_seq ?_
 refine cy_region ?_
 refine sy_assign rfl rfl rfl ?_
 refine sy_nil rfl ?_
 refine ny_next ?_
 refine cy_seq ?_
 have hx0 : xs.length ≠ 0 := by simpa using hx
 refine cy_rowblk 0 rfl hx0 (fun g c hv hc => ?_)
 subst hv
 refine cy_regionA mixed ?_
 refine zy_q 0 rfl (by kernel_rfl) (fun hB1_0 => ?_)
 refine sy_move rfl rfl rfl ?_
 refine sy_nil1 (ny_zq hB1_0 ?_)
 refine zy_q 1 rfl (by kernel_rfl) (fun hB1_1 => ?_)
 refine sy_nilCheck rfl rfl rfl ?_
 refine sy_nil1 (ny_zq hB1_1 ?_)
 refine zy_q 2 rfl (by kernel_rfl) (fun hB1_2 => ?_)
 refine sy_field fld_53_1 rfl rfl rfl ?_
 refine sy_nil1 (ny_zq hB1_2 ?_)
 refine zy_q 3 rfl (by kernel_rfl) (fun hB1_3 => ?_)
 refine sy_ldh one_40 rfl (Hp.blk hb 1 _ rfl) rfl rfl ?_
 refine sy_nil1 (ny_zq hB1_3 ?_)
 refine zy_q 5 rfl (by kernel_rfl) (fun hB1_5 => ?_)
 refine sy_move rfl rfl rfl ?_
 refine sy_nil1 (ny_zq hB1_5 ?_)
 refine zy_q 6 rfl (by kernel_rfl) (fun hB1_6 => ?_)
 refine sy_nilCheck rfl rfl rfl ?_
 refine sy_nil1 (ny_zq hB1_6 ?_)
 refine zy_q 7 rfl (by kernel_rfl) (fun hB1_7 => ?_)
 refine sy_field fld_53_1 rfl rfl rfl ?_
 refine sy_nil1 (ny_zq hB1_7 ?_)
 refine zy_q 8 rfl (by kernel_rfl) (fun hB1_8 => ?_)
 refine sy_ldh one_40 rfl (Hp.blk hb 1 _ rfl) rfl rfl ?_
 refine sy_nil1 (ny_zq hB1_8 ?_)
 refine zy_q 9 rfl (by kernel_rfl) (fun hB1_9 => ?_)
 refine sy_len rfl (len_slice Tryz.underlying40 _ _ _) rfl rfl ?_
 refine sy_nil1 (ny_zq hB1_9 ?_)
 refine zy_1 4 (by kernel_rfl) ?_
 refine zop_run rfl rfl (fun hB1_4 => ?_)
 refine sy_sliceData rfl hc rfl rfl ?_
 refine sy_nil rfl (ny_zy hB1_4 (Hp.Le.refl _) ?_)
 refine zy_1 10 (by kernel_rfl) ?_
 refine zop_run rfl rfl (fun hB1_10 => ?_)
 refine sy_unsafeStr 0 Tryz.underlying75 (by kernel_rfl) rfl rfl rfl hx0 rfl rfl rfl ?_
 refine sy_nil rfl (ny_zy hB1_10 (Hp.Le.refl _) ?_)
 refine zy_q 11 rfl (by kernel_rfl) (fun hB1_11 => ?_)
 refine sy_assign rfl rfl rfl ?_
 refine sy_nil1 (ny_zq hB1_11 ?_)
 refine zy_done (by kernel_rfl) ?_
 refine ny_next ?_
 refine cy_ret ?_
 exact ny_finR (res1 rfl rfl) (fun w hs => ⟨(), h, _, rfl, ⟨rfl, rfl⟩, hs⟩)
end Go.Proofs.YtanhhihechakhaaGreatDoor
namespace Go.Proofs
open Go.Shelf
def Tryz.lays156_ren : Go.Shelf.Ren := ⟨fun | 156 => 42 | 165 => 61 | 166 => 31 | 169 => 32 | 240 => 48 | 241 => 87 | 276 => 64 | 277 => 103 | n => n, fun | 31 => 37 | 9 => 9 | 3 => 3 | 4 => 4 | 0 => 0 | 20 => 20 | 72 => 53 | 76 => 74 | 70 => 51 | 37 => 40 | 75 => 60 | 127 => 75 | 164 => 97 | 5 => 5 | 80 => 56 | n => n, fun | n => n⟩
theorem Tryz.lays156 : Go.Proofs.Lays.n156 Tryz.prog Tryz.lays156_ren := {
 mixed := by kernel_rfl
 f156 := Tryz.func42.trans (congrArg some (by kernel_rfl))
 f165 := Tryz.func61.trans (congrArg some (by kernel_rfl))
 f166 := Tryz.func31.trans (congrArg some (by kernel_rfl))
 f169 := Tryz.func32.trans (congrArg some (by kernel_rfl))
 f240 := Tryz.func48.trans (congrArg some (by kernel_rfl))
 f241 := Tryz.func87.trans (congrArg some (by kernel_rfl))
 f276 := Tryz.func64.trans (congrArg some (by kernel_rfl))
 f277 := Tryz.func103.trans (congrArg some (by kernel_rfl))
 t0 := Tryz.underlying0
 a0 := Tryz.isAgg0
 z0 := Tryz.sizeOf0
 v0 := Tryz.zeroValue0
 t3 := Tryz.underlying3
 a3 := Tryz.isAgg3
 z3 := Tryz.sizeOf3
 v3 := Tryz.zeroValue3
 t4 := Tryz.underlying4
 a4 := Tryz.isAgg4
 z4 := Tryz.sizeOf4
 v4 := Tryz.zeroValue4
 t9 := Tryz.underlying9
 a9 := Tryz.isAgg9
 z9 := Tryz.sizeOf9
 v9 := Tryz.zeroValue9
 t20 := Tryz.underlying20
 a20 := Tryz.isAgg20
 z20 := Tryz.sizeOf20
 v20 := Tryz.zeroValue20
 t31 := Tryz.underlying37
 a31 := Tryz.isAgg37
 z31 := Tryz.sizeOf37
 v31 := Tryz.zeroValue37
 t37 := Tryz.underlying40
 a37 := Tryz.isAgg40
 z37 := Tryz.sizeOf40
 v37 := Tryz.zeroValue40
 t70 := Tryz.underlying51
 a70 := Tryz.isAgg51
 z70 := Tryz.sizeOf51
 v70 := Tryz.zeroValue51
 t72 := Tryz.underlying53
 a72 := Tryz.isAgg53
 z72 := Tryz.sizeOf53
 v72 := Tryz.zeroValue53
 t75 := Tryz.underlying60
 a75 := Tryz.isAgg60
 z75 := Tryz.sizeOf60
 v75 := Tryz.zeroValue60
 t76 := Tryz.underlying74
 a76 := Tryz.isAgg74
 z76 := Tryz.sizeOf74
 v76 := Tryz.zeroValue74
 t127 := Tryz.underlying75
 a127 := Tryz.isAgg75
 z127 := Tryz.sizeOf75
 v127 := Tryz.zeroValue75
 t164 := Tryz.underlying97
 a164 := Tryz.isAgg97
 z164 := Tryz.sizeOf97
 v164 := Tryz.zeroValue97 }
theorem Tryz.Builder_Extra_156 : Builder.Extra Tryz.prog Tryz.lays156_ren := {
 sizeBuilder := by kernel_rfl
 liesBuilder := by kernel_rfl
 t5 := Tryz.underlying5
 a5 := Tryz.isAgg5
 z5 := Tryz.sizeOf5
 v5 := Tryz.zeroValue5
 infoByte := by kernel_rfl
 cellsByte := by kernel_rfl
 sizeByte := by kernel_rfl
 neB5 := by decide }
open Go.RowKit in
theorem Tryz.strings_Join_none (a : Option Addr) (c : Nat) (sep : ByteArray) (w : World) :
    Calls Tryz.prog 42 #[.slice a 0 c, .string sep] w fun e w' => e = .returned (.string ⟨#[]⟩) ∧ w' = w := Any.strings_Join_none Tryz.lays156 Tryz.Builder_Extra_156 a c sep w
open Go.RowKit in
theorem Tryz.strings_Join (bk o c : Nat) (xs : List ByteArray) (sep : ByteArray) (w : World) (hcells : ∀ (j : Nat) x, xs[j]? = some x → w.cell? ⟨bk, o + j, none⟩ = some (.string x)) (hbk : bk < w.heap.size) (hN : xs.length ≤ 140737488355328) (hcap : xs.length ≤ c) (hlen : (Lib.join (xs.map (·.data.toList)) sep.data.toList).length ≤ 140737488355328) :
    Calls Tryz.prog 42 #[.slice (some ⟨bk, o, none⟩) xs.length c, .string sep] w fun e w' => e = .returned (.string ⟨(Lib.join (xs.map (·.data.toList)) sep.data.toList).toArray⟩) ∧ Below w.heap.size w w' := Any.strings_Join Tryz.lays156 Tryz.Builder_Extra_156 bk o c xs sep w hcells hbk hN hcap hlen
def Tryz.laysM173_ren : Go.Shelf.Ren := ⟨fun | 173 => 62 | 246 => 88 | 283 => 104 | 284 => 105 | 285 => 106 | 286 => 107 | 129 => 119 | 317 => 118 | 318 => 120 | 319 => 121 | 320 => 122 | 337 => 130 | 338 => 131 | n => n, fun | 2 => 2 | 3 => 3 | 9 => 9 | 4 => 4 | 171 => 145 | 0 => 0 | 53 => 121 | 37 => 40 | 5 => 5 | 173 => 148 | 212 => 177 | 51 => 153 | 20 => 20 | 213 => 178 | 46 => 180 | 232 => 209 | 233 => 210 | n => n, fun | 17 => 2 | 18 => 3 | 19 => 4 | n => n⟩
theorem Tryz.laysM173 : Go.Proofs.LaysM.n173 Tryz.prog Tryz.laysM173_ren := {
 mixed := by kernel_rfl
 f129 := Tryz.func119.trans (congrArg some (by kernel_rfl))
 f173 := Tryz.func62.trans (congrArg some (by kernel_rfl))
 f246 := Tryz.func88.trans (congrArg some (by kernel_rfl))
 f283 := Tryz.func104.trans (congrArg some (by kernel_rfl))
 f284 := Tryz.func105.trans (congrArg some (by kernel_rfl))
 f285 := Tryz.func106.trans (congrArg some (by kernel_rfl))
 f286 := Tryz.func107.trans (congrArg some (by kernel_rfl))
 f317 := Tryz.func118.trans (congrArg some (by kernel_rfl))
 f318 := Tryz.func120.trans (congrArg some (by kernel_rfl))
 f319 := Tryz.func121.trans (congrArg some (by kernel_rfl))
 f320 := Tryz.func122.trans (congrArg some (by kernel_rfl))
 f337 := Tryz.func130.trans (congrArg some (by kernel_rfl))
 f338 := Tryz.func131.trans (congrArg some (by kernel_rfl))
 t0 := Tryz.underlying0
 a0 := Tryz.isAgg0
 z0 := Tryz.sizeOf0
 v0 := Tryz.zeroValue0
 t2 := Tryz.underlying2
 a2 := Tryz.isAgg2
 z2 := Tryz.sizeOf2
 v2 := Tryz.zeroValue2
 t3 := Tryz.underlying3
 a3 := Tryz.isAgg3
 z3 := Tryz.sizeOf3
 v3 := Tryz.zeroValue3
 t4 := Tryz.underlying4
 a4 := Tryz.isAgg4
 z4 := Tryz.sizeOf4
 v4 := Tryz.zeroValue4
 t5 := Tryz.underlying5
 a5 := Tryz.isAgg5
 z5 := Tryz.sizeOf5
 v5 := Tryz.zeroValue5
 t9 := Tryz.underlying9
 a9 := Tryz.isAgg9
 z9 := Tryz.sizeOf9
 v9 := Tryz.zeroValue9
 t20 := Tryz.underlying20
 a20 := Tryz.isAgg20
 z20 := Tryz.sizeOf20
 v20 := Tryz.zeroValue20
 t37 := Tryz.underlying40
 a37 := Tryz.isAgg40
 z37 := Tryz.sizeOf40
 v37 := Tryz.zeroValue40
 t46 := Tryz.underlying180
 a46 := Tryz.isAgg180
 z46 := Tryz.sizeOf180
 v46 := Tryz.zeroValue180
 t51 := Tryz.underlying153
 a51 := Tryz.isAgg153
 z51 := Tryz.sizeOf153
 v51 := Tryz.zeroValue153
 t53 := Tryz.underlying121
 a53 := Tryz.isAgg121
 z53 := Tryz.sizeOf121
 v53 := Tryz.zeroValue121
 t171 := Tryz.underlying145
 a171 := Tryz.isAgg145
 z171 := Tryz.sizeOf145
 v171 := Tryz.zeroValue145
 t173 := Tryz.underlying148
 a173 := Tryz.isAgg148
 z173 := Tryz.sizeOf148
 v173 := Tryz.zeroValue148
 t212 := Tryz.underlying177
 a212 := Tryz.isAgg177
 z212 := Tryz.sizeOf177
 v212 := Tryz.zeroValue177
 t213 := Tryz.underlying178
 a213 := Tryz.isAgg178
 z213 := Tryz.sizeOf178
 t232 := Tryz.underlying209
 a232 := Tryz.isAgg209
 z232 := Tryz.sizeOf209
 v232 := Tryz.zeroValue209
 t233 := Tryz.underlying210
 a233 := Tryz.isAgg210
 z233 := Tryz.sizeOf210
 v233 := Tryz.zeroValue210
 g17 := by kernel_rfl
 g18 := by kernel_rfl
 g19 := by kernel_rfl
 i0 := by kernel_rfl
 i2 := by kernel_rfl
 i3 := by kernel_rfl
 i4 := by kernel_rfl
 i5 := by kernel_rfl
 i9 := by kernel_rfl
 i20 := by kernel_rfl
 i37 := by kernel_rfl
 i46 := by kernel_rfl
 i51 := by kernel_rfl
 i53 := by kernel_rfl
 i171 := by kernel_rfl
 i173 := by kernel_rfl
 i212 := by kernel_rfl
 i232 := by kernel_rfl
 i233 := by kernel_rfl
 m17 := by kernel_rfl
 m18 := by kernel_rfl
 m19 := by kernel_rfl }
open Go.RowKit Go.Sort Go.Lib in
theorem Tryz.strconv_FormatInt_10 (n : Int) (h0 : -9223372036854775808 ≤ n) (h1 : n ≤ 9223372036854775807) (w : World) (htab : Lib.TabIs Tryz.prog w "internal/strconv.uint64pow10" .u64 Lib.pow10Tab) :
    Calls Tryz.prog 62 #[.int .i64 n, .int .i64 10] w fun e w' => e = .returned (.string ⟨(Lib.itoa n).toArray⟩) ∧ ∃ k os, w' = grow (w.drewN k) os := Any.strconv_FormatInt_10 Tryz.laysM173 n h0 h1 w htab
end Go.Proofs
set_option linter.unusedVariables false
namespace Go.Proofs.YtanhhihechakhaaGreatDoor
open Go.RowKit Go.Proofs.YtanhhihechakhaaGreatDoor.E
def Tab10 (h : Hp) : Prop := ∀ w, h.Sub w → Lib.TabIs Tryz.prog w "internal/strconv.uint64pow10" .u64 Lib.pow10Tab
theorem Tab10.le {h h' : Hp} (ht : Tab10 h) (hl : h.Le h') : Tab10 h' := fun w hw => ht w fun k o hk => hw k o (hl k o hk)
theorem tab10_hp {W : World} (ht : Lib.TabIs Tryz.prog W "internal/strconv.uint64pow10" .u64 Lib.pow10Tab) : Tab10 (hpOf W) := fun w hw => by
 unfold Lib.TabIs World.var? at ht ⊢
 cases hg : Tryz.prog.globalNamed "internal/strconv.uint64pow10" with
 | none => rw [hg] at ht; cases ht
 | some g =>
  rw [hg] at ht
  simp only [Option.bind_some] at ht ⊢
  split at ht
  · rename_i cs e fr hb
    rw [hw g _ hb]
    exact ht
  · cases ht
theorem fmt_c (n : Int) (h : Hp) (h0 : -9223372036854775808 ≤ n) (h1 : n ≤ 9223372036854775807) (ht : Tab10 h) : C0 Tryz.prog 62 [.int .i64 n, .int .i64 10] h (.string ⟨(Lib.itoa n).toArray⟩) := fun w hw => by
 refine (Tryz.strconv_FormatInt_10 n h0 h1 w (ht w hw)).mono fun e w' ⟨he, k, os, hg⟩ => ⟨he, Frm.of_below ?_⟩
 rw [hg]
 exact Lib.below_grow _ w (Nat.le_refl _) k os
theorem join_c (A : Option Addr) (c : Nat) (xs : List ByteArray) (sep : ByteArray) (h : Hp) (hr : RowsAt h A 1 (xs.map fun s => [Value.string s])) (hcap : xs.length ≤ c) (hN : xs.length ≤ 140737488355328) (hlen : (Lib.join (xs.map (·.data.toList)) sep.data.toList).length ≤ 140737488355328) :
    C0 Tryz.prog 42 [.slice A xs.length c, .string sep] h (.string ⟨(Lib.join (xs.map (·.data.toList)) sep.data.toList).toArray⟩) := fun w hw => by
 cases xs with
 | nil =>
  refine (Tryz.strings_Join_none A c sep w).mono fun e w' ⟨he, hg⟩ => ⟨he, ?_⟩
  subst hg
  exact Frm.refl _ _
 | cons x r =>
  obtain ⟨b, off, rfl⟩ : ∃ b off, A = some ⟨b, off, none⟩ := by
   obtain ⟨b, off, hb, _⟩ := hr 0 _ rfl
   exact ⟨b, off, hb⟩
  have hc : ∀ (j : Nat) y, (x :: r)[j]? = some y → w.cell? ⟨b, off + j, none⟩ = some (.string y) := fun j y hj => by
   have h1 := hr.get (j := j) (c := [Value.string y]) (by rw [List.getElem?_map, hj]; rfl)
   have h2 := h1 0 _ rfl
   simp only [Nat.mul_one, Nat.add_zero] at h2
   exact hw.cell h2
  have hb : b < w.heap.size := by
   have h1 := hc 0 x rfl
   unfold World.cell? at h1
   split at h1
   · rename_i cs e fr hh
     exact (Array.getElem?_eq_some_iff.1 hh).1
   · cases h1
  exact (Tryz.strings_Join b off c (x :: r) sep w hc hb hN hcap hlen).mono fun e w' ⟨he, hg⟩ => ⟨he, Frm.of_below hg⟩
end Go.Proofs.YtanhhihechakhaaGreatDoor
set_option linter.unusedVariables false
set_option linter.unusedSimpArgs false
namespace Go.Proofs.YtanhhihechakhaaGreatDoor.TokP
open Go.RowKit Go.Proofs.YtanhhihechakhaaGreatDoor.E Go.Proofs.YtanhhihechakhaaGreatDoor.ReplP
/-! blanks ahead -/
def padB (p : List UInt8) : Prop := ∀ x, skipN (p ++ x) = p.length + skipN x
end Go.Proofs.YtanhhihechakhaaGreatDoor.TokP
set_option linter.unusedVariables false
set_option linter.unusedSimpArgs false
namespace Go.Proofs.YtanhhihechakhaaGreatDoor.TokP
open Go.RowKit Go.Proofs.YtanhhihechakhaaGreatDoor.E Go.Proofs.YtanhhihechakhaaGreatDoor.ReplP
def quoteL (l : List UInt8) (p : Bool) : List UInt8 := if p = true then l else [39] ++ repl l ++ [39]
theorem sign_kind : ∀ c : UInt8, signB c = true → smallB c = false ∧ bigB c = false ∧ digitB c = false ∧ ((c.toNat : Int) == 39) = false ∧ punctL.contains c = false ∧ (((c.toNat : Int) == 33) || ((c.toNat : Int) == 59)) = false ∧ blankB c = false ∧ ((c.toNat : Int) == 37) = false := by
 have h : ∀ c ∈ signL, smallB c = false ∧ bigB c = false ∧ digitB c = false ∧ ((c.toNat : Int) == 39) = false ∧ punctL.contains c = false ∧ (((c.toNat : Int) == 33) || ((c.toNat : Int) == 59)) = false ∧ blankB c = false ∧ ((c.toNat : Int) == 37) = false := by decide
 intro c hc
 unfold signB at hc
 rw [List.contains_eq_mem, decide_eq_true_iff] at hc
 exact h c hc
theorem digit_kind {c : UInt8} (h : digitB c = true) : ¬ c = 37 ∧ blankB c = false ∧ smallB c = false ∧ bigB c = false := by
 unfold digitB at h
 rw [Bool.and_eq_true, decide_eq_true_iff, decide_eq_true_iff] at h
 have ne : ∀ k : Int, k < 48 → ((c.toNat : Int) == k) = false := fun k hk => by rw [beq_eq_false_iff_ne]; omega
 refine ⟨fun h9 => ?_, ?_, ?_, ?_⟩
 · rw [h9] at h
   exact absurd h.1 (by decide)
 · unfold blankB
   rw [ne 9 (by omega), ne 10 (by omega), ne 13 (by omega), ne 32 (by omega)]
   rfl
 · unfold smallB
   rw [decide_eq_false (by omega)]
   rfl
 · unfold bigB
   rw [decide_eq_false (by omega), Bool.false_and, Bool.false_or, beq_eq_false_iff_ne]
   omega
/-! numbers -/
def figL (n : Nat) : List UInt8 := if n < 10 then [UInt8.ofNat (48 + n)] else figL (n / 10) ++ [UInt8.ofNat (48 + n % 10)]
termination_by n
decreasing_by omega
theorem fig_lt {n : Nat} (h : n < 10) : figL n = [UInt8.ofNat (48 + n)] := by rw [figL, if_pos h]
theorem fig_ge {n : Nat} (h : ¬ n < 10) : figL n = figL (n / 10) ++ [UInt8.ofNat (48 + n % 10)] := by rw [figL, if_neg h]
theorem fig_byte {n : Nat} (h : n < 10) : (UInt8.ofNat (48 + n)).toNat = 48 + n := by
 rw [UInt8.toNat_ofNat']
 omega
theorem fig_digit {n : Nat} (h : n < 10) : digitB (UInt8.ofNat (48 + n)) = true := by
 unfold digitB
 rw [fig_byte h, decide_eq_true (by omega), decide_eq_true (by omega)]
 rfl
theorem fig_all : ∀ (k n : Nat), n ≤ k → (figL n).all digitB = true ∧ valN (figL n) = n ∧ 1 ≤ (figL n).length
 | k, n, h => by
  by_cases hn : n < 10
  · rw [fig_lt hn]
    refine ⟨by rw [List.all_cons, fig_digit hn]; rfl, ?_, Nat.le_refl _⟩
    have := valN_snoc [] (UInt8.ofNat (48 + n))
    rw [List.nil_append, fig_byte hn] at this
    rw [this]
    show 10 * 0 + _ = n
    omega
  · match k, h with
    | 0, h => omega
    | k + 1, h =>
     have ih := fig_all k (n / 10) (by omega)
     rw [fig_ge hn]
     refine ⟨by rw [List.all_append, ih.1, List.all_cons, fig_digit (by omega)]; rfl, ?_, by rw [List.length_append]; simp⟩
     rw [valN_snoc, ih.2.1, fig_byte (by omega)]
     omega
theorem fig_len : ∀ (k n : Nat), n < 10 ^ (k + 1) → (figL n).length ≤ k + 1
 | k, n, h => by
  by_cases hn : n < 10
  · rw [fig_lt hn]; simp
  · match k, h with
    | 0, h => omega
    | k + 1, h =>
     rw [fig_ge hn, List.length_append]
     have := fig_len k (n / 10) (by rw [Nat.pow_succ] at h; omega)
     simp only [List.length_cons, List.length_nil]
     omega
theorem fig_cons (n : Nat) : ∃ c t, figL n = c :: t ∧ digitB c = true := by
 have h := fig_all n n (Nat.le_refl _)
 cases hf : figL n with
 | nil => rw [hf] at h; exact absurd h.2.2 (by decide)
 | cons c t =>
  rw [hf] at h
  rw [List.all_cons, Bool.and_eq_true] at h
  exact ⟨c, t, rfl, h.1.1⟩
end Go.Proofs.YtanhhihechakhaaGreatDoor.TokP
set_option linter.unusedVariables false
set_option linter.unusedSimpArgs false
namespace Go.Proofs.YtanhhihechakhaaGreatDoor.TokP
open Go.RowKit Go.Proofs.YtanhhihechakhaaGreatDoor.E Go.Proofs.YtanhhihechakhaaGreatDoor.ReplP
theorem ba_cat (a b : ByteArray) : (a ++ b).data.toList = a.data.toList ++ b.data.toList := by simp
end Go.Proofs.YtanhhihechakhaaGreatDoor.TokP
set_option linter.unusedVariables false
set_option linter.unusedSimpArgs false
namespace Go.Proofs.YtanhhihechakhaaGreatDoor.TermP
open Go.RowKit Go.Proofs.YtanhhihechakhaaGreatDoor.E
inductive Tm where
 | mk (k n : Int) (s : ByteArray) (kids : List Tm)
inductive GT where
 | mk (k n : Int) (s : ByteArray) (A : Option Addr) (c : Nat) (kids : List GT)
namespace Tm
def k : Tm → Int | mk k _ _ _ => k
def n : Tm → Int | mk _ n _ _ => n
def s : Tm → ByteArray | mk _ _ s _ => s
def kids : Tm → List Tm | mk _ _ _ l => l
theorem ind {P : Tm → Prop} (h : ∀ k n s kids, (∀ t, t ∈ kids → P t) → P (.mk k n s kids)) : ∀ t, P t := fun t =>
 Tm.rec (motive_1 := P) (motive_2 := fun l => ∀ t, t ∈ l → P t) (fun k n s l ih => h k n s l ih) (fun _ ht => (List.not_mem_nil ht).elim)
  (fun x l hx hl t ht => by
   rcases List.mem_cons.1 ht with rfl | ht
   · exact hx
   · exact hl t ht) t
end Tm
namespace GT
def k : GT → Int | mk k _ _ _ _ _ => k
def n : GT → Int | mk _ n _ _ _ _ => n
def s : GT → ByteArray | mk _ _ s _ _ _ => s
def A : GT → Option Addr | mk _ _ _ A _ _ => A
def c : GT → Nat | mk _ _ _ _ c _ => c
def kids : GT → List GT | mk _ _ _ _ _ l => l
theorem ind {P : GT → Prop} (h : ∀ k n s A c kids, (∀ t, t ∈ kids → P t) → P (.mk k n s A c kids)) : ∀ t, P t := fun t =>
 GT.rec (motive_1 := P) (motive_2 := fun l => ∀ t, t ∈ l → P t) (fun k n s A c l ih => h k n s A c l ih) (fun _ ht => (List.not_mem_nil ht).elim)
  (fun x l hx hl t ht => by
   rcases List.mem_cons.1 ht with rfl | ht
   · exact hx
   · exact hl t ht) t
def cells (t : GT) : List Value := [.int .i64 t.k, .int .i64 t.n, .string t.s, .slice t.A t.kids.length t.c]
mutual
/-- what is meant -/
def tm : GT → Tm | mk k n s _ _ kids => .mk k n s (tms kids)
def tms : List GT → List Tm | [] => [] | t :: l => tm t :: tms l
end
theorem tms_map : ∀ l : List GT, tms l = l.map tm
 | [] => by simp [tms]
 | t :: l => by simp [tms, tms_map l]
theorem tm_mk (k n : Int) (s : ByteArray) (A : Option Addr) (c : Nat) (kids : List GT) : (GT.mk k n s A c kids).tm = .mk k n s (kids.map tm) := by rw [tm, tms_map]
theorem cells_len : ∀ l : List GT, ∀ c ∈ l.map cells, c.length = 4 := fun l c hc => by
 obtain ⟨t, _, rfl⟩ := List.mem_map.1 hc
 rfl
theorem cells_ones (l : List GT) : ∀ u ∈ (l.map cells).flatten, u.oneCell' = true := fun u hu => by
 obtain ⟨c, hc, hu⟩ := List.mem_flatten.1 hu
 obtain ⟨e, _, rfl⟩ := List.mem_map.1 hc
 simp only [cells, List.mem_cons, List.not_mem_nil, or_false] at hu
 rcases hu with rfl | rfl | rfl | rfl <;> rfl
end GT
inductive Lies (h : Hp) : GT → Prop
 | intro (k n : Int) (s : ByteArray) (A : Option Addr) (c : Nat) (kids : List GT) (hc : kids.length ≤ c) (hr : RowsAt h A 4 (kids.map GT.cells)) (hk : ∀ t, t ∈ kids → Lies h t) : Lies h (.mk k n s A c kids)
theorem Lies.rows {h : Hp} {k n : Int} {s : ByteArray} {A : Option Addr} {c : Nat} {kids : List GT} (hl : Lies h (.mk k n s A c kids)) : RowsAt h A 4 (kids.map GT.cells) := by cases hl; assumption
theorem Lies.cap {h : Hp} {k n : Int} {s : ByteArray} {A : Option Addr} {c : Nat} {kids : List GT} (hl : Lies h (.mk k n s A c kids)) : kids.length ≤ c := by cases hl; assumption
theorem Lies.kid {h : Hp} {k n : Int} {s : ByteArray} {A : Option Addr} {c : Nat} {kids : List GT} (hl : Lies h (.mk k n s A c kids)) {t : GT} (ht : t ∈ kids) : Lies h t := by
 cases hl with
 | intro _ _ _ _ _ _ _ _ hk => exact hk t ht
theorem Lies.at {h : Hp} {k n : Int} {s : ByteArray} {A : Option Addr} {c : Nat} {kids : List GT} (hl : Lies h (.mk k n s A c kids)) {i : Nat} {t : GT} (ht : kids[i]? = some t) : Lies h t := hl.kid (List.mem_of_getElem? ht)
theorem Lies.le {h h' : Hp} (hh : h.Le h') : ∀ {t : GT}, Lies h t → Lies h' t := fun {t} => by
 induction t using GT.ind with
 | h k n s A c kids ih =>
  intro hl
  exact .intro k n s A c kids hl.cap (hl.rows.le hh) (fun t ht => ih t ht (hl.kid ht))
inductive Fits : GT → Prop
 | intro (k n : Int) (s : ByteArray) (A : Option Addr) (c : Nat) (kids : List GT) (hk0 : -9223372036854775808 ≤ k) (hk1 : k ≤ 9223372036854775807) (hn0 : -9223372036854775808 ≤ n) (hn1 : n ≤ 9223372036854775807)
     (hs : s.size ≤ 140737488355328) (hb : kids.length * 56 ≤ 140737488355328) (hkid : ∀ t, t ∈ kids → Fits t) : Fits (.mk k n s A c kids)
theorem Fits.kid {k n : Int} {s : ByteArray} {A : Option Addr} {c : Nat} {kids : List GT} (hl : Fits (.mk k n s A c kids)) {t : GT} (ht : t ∈ kids) : Fits t := by
 cases hl with
 | intro _ _ _ _ _ _ _ _ _ _ _ _ hk => exact hk t ht
theorem Fits.at {k n : Int} {s : ByteArray} {A : Option Addr} {c : Nat} {kids : List GT} (hl : Fits (.mk k n s A c kids)) {i : Nat} {t : GT} (ht : kids[i]? = some t) : Fits t := hl.kid (List.mem_of_getElem? ht)
theorem Fits.room {k n : Int} {s : ByteArray} {A : Option Addr} {c : Nat} {kids : List GT} (hl : Fits (.mk k n s A c kids)) : kids.length * 56 ≤ 140737488355328 := by cases hl; assumption
theorem Fits.nums {k n : Int} {s : ByteArray} {A : Option Addr} {c : Nat} {kids : List GT} (hl : Fits (.mk k n s A c kids)) : (-9223372036854775808 ≤ k ∧ k ≤ 9223372036854775807) ∧ (-9223372036854775808 ≤ n ∧ n ≤ 9223372036854775807) ∧ s.size ≤ 140737488355328 := by
 cases hl; exact ⟨⟨by assumption, by assumption⟩, ⟨by assumption, by assumption⟩, by assumption⟩
/-! how many parts -/
mutual
def size : Tm → Nat | .mk _ _ _ kids => 1 + sizes kids
def sizes : List Tm → Nat | [] => 0 | t :: l => size t + sizes l
end
theorem take_snoc {α : Type} {l : List α} {i : Nat} {x : α} (h : l[i]? = some x) : l.take (i + 1) = l.take i ++ [x] := by rw [List.take_add_one, h]; rfl
end Go.Proofs.YtanhhihechakhaaGreatDoor.TermP
set_option linter.unusedVariables false
set_option linter.unusedSimpArgs false
namespace Go.Proofs.YtanhhihechakhaaGreatDoor.WrP
open Go.RowKit Go.Proofs.YtanhhihechakhaaGreatDoor.E Go.Proofs.YtanhhihechakhaaGreatDoor.ReplP Go.Proofs.YtanhhihechakhaaGreatDoor.TokP Go.Proofs.YtanhhihechakhaaGreatDoor.TermP
def qL (s : ByteArray) : List UInt8 := quoteL s.data.toList (plainB s.data.toList)
def brL : ByteArray := ⟨#[91, 93]⟩
def nmL (s : ByteArray) (k : Nat) : List UInt8 := if s = brL ∧ 0 < k then [39, 91, 93, 39] else qL s
mutual
def txt : Tm → List UInt8
 | .mk k n s kids => if k = 1 then 95 :: Lib.itoa n else if k = 2 then Lib.itoa n else if k = 3 then (if kids.length = 0 then qL s else nmL s kids.length ++ [40] ++ txts kids ++ [41]) else if k = 4 ∧ kids.length = 1 then [64, 40] ++ txts kids ++ [44] ++ Lib.itoa n ++ [41] else [63]
def txts : List Tm → List UInt8
 | [] => []
 | t :: r => txt t ++ txtsC r
def txtsC : List Tm → List UInt8
 | [] => []
 | t :: r => [44] ++ txt t ++ txtsC r
end
theorem txts_cons (t : Tm) (r : List Tm) : txts (t :: r) = txt t ++ txtsC r := by rw [txts]
theorem txtsC_cons (t : Tm) (r : List Tm) : txtsC (t :: r) = [44] ++ txt t ++ txtsC r := by rw [txtsC]
theorem txtsC_nil : txtsC [] = [] := by rw [txtsC]
theorem txtsC_snoc : ∀ (r : List Tm) (t : Tm), txtsC (r ++ [t]) = txtsC r ++ [44] ++ txt t
 | [], t => by rw [List.nil_append, txtsC_cons, txtsC_nil, List.nil_append, List.append_nil]
 | x :: r, t => by
  rw [List.cons_append, txtsC_cons, txtsC_cons, txtsC_snoc r t]
  simp only [List.append_assoc]
theorem txts_one (t : Tm) : txts [t] = txt t := by rw [txts_cons, txtsC_nil, List.append_nil]
theorem txts_nil : txts [] = [] := by rw [txts]
theorem txts_snoc {r : List Tm} (h : r ≠ []) (t : Tm) : txts (r ++ [t]) = txts r ++ [44] ++ txt t := by
 cases r with
 | nil => exact absurd rfl h
 | cons x r =>
  rw [List.cons_append, txts_cons, txts_cons, txtsC_snoc]
  simp only [List.append_assoc]
theorem txts_succ {l : List GT} {i : Nat} {t : GT} (h : l[i]? = some t) : txts ((l.take (i + 1)).map GT.tm) = txts ((l.take i).map GT.tm) ++ (if i = 0 then [] else [44]) ++ txt t.tm := by
 have hlt := (List.getElem?_eq_some_iff.1 h).1
 rw [take_snoc h, List.map_append]
 by_cases h0 : i = 0
 · subst h0
   rw [if_pos rfl, List.take_zero, List.map_nil, List.nil_append, List.map_cons, List.map_nil, txts_one, txts_nil, List.nil_append, List.nil_append]
 · rw [if_neg h0]
   exact txts_snoc (by intro h9; have := congrArg List.length h9; rw [List.length_map, List.length_take, List.length_nil] at this; omega) _
theorem txt_var {t : Tm} (h : t.k = 1) : txt t = 95 :: Lib.itoa t.n := by cases t; rw [txt]; exact if_pos h
theorem txt_int {t : Tm} (h : t.k = 2) : txt t = Lib.itoa t.n := by
 cases t with
 | mk k n s kids =>
  have h : k = 2 := h
  rw [txt, h]
  rfl
theorem txt_fun {k n : Int} {s : ByteArray} {kids : List Tm} (h : k = 3) : txt (.mk k n s kids) = if kids.length = 0 then qL s else nmL s kids.length ++ [40] ++ txts kids ++ [41] := by
 rw [txt, h]
 rfl
theorem txt_seal {k n : Int} {s : ByteArray} {kids : List Tm} (h : k = 4) (hk : kids.length = 1) : txt (.mk k n s kids) = [64, 40] ++ txts kids ++ [44] ++ Lib.itoa n ++ [41] := by
 rw [txt, if_neg (by omega), if_neg (by omega), if_neg (by omega), if_pos ⟨h, hk⟩]
theorem txt_else {k n : Int} {s : ByteArray} {kids : List Tm} (h1 : ¬ k = 1) (h2 : ¬ k = 2) (h3 : ¬ k = 3) (h4 : ¬ (k = 4 ∧ kids.length = 1)) : txt (.mk k n s kids) = [63] := by
 rw [txt, if_neg h1, if_neg h2, if_neg h3, if_neg h4]
/-! figures -/
theorem dec_fig : ∀ (k n : Nat), n ≤ k → Lib.decDigits n = figL n
 | k, n, h => by
  by_cases hn : n < 10
  · rw [Lib.decDigits, dif_pos hn, fig_lt hn]
  · match k, h with
    | 0, h => omega
    | k + 1, h => rw [Lib.decDigits, dif_neg hn, fig_ge hn, dec_fig k (n / 10) (by omega)]
theorem itoa_neg {n : Int} (h : n < 0) : Lib.itoa n = 45 :: figL n.natAbs := by
 unfold Lib.itoa
 rw [if_pos h, dec_fig _ _ (Nat.le_refl _)]
theorem itoa_pos {n : Int} (h : ¬ n < 0) : Lib.itoa n = figL n.toNat := by
 unfold Lib.itoa
 rw [if_neg h, dec_fig _ _ (Nat.le_refl _)]
def Dl (x : List UInt8) : Prop := x = [] ∨ ∃ r, x = 44 :: r ∨ x = 41 :: r
theorem run_plus {p : UInt8 → Bool} : ∀ (u x : List UInt8), u.all p = true → runB p x = 0 → runB p (u ++ x) = u.length
 | [], x, _, h => h
 | c :: u, x, hu, h => by
  rw [List.all_cons, Bool.and_eq_true] at hu
  rw [List.cons_append, runB_yes hu.1, run_plus u x hu.2 h]
  rfl
theorem run_cut {p : UInt8 → Bool} {u v x y : List UInt8} (hu : u.all p = true) (hv : v.all p = true) (hx : runB p x = 0) (hy : runB p y = 0) (h : u ++ x = v ++ y) : u = v ∧ x = y := by
 have h1 := run_plus u x hu hx
 have h2 := run_plus v y hv hy
 rw [h, h2] at h1
 exact List.append_inj h h1.symm
theorem figc {n : Nat} {x : List UInt8} : ∃ c t, figL n ++ x = c :: t ∧ digitB c = true := by
 obtain ⟨c, t, h, hd⟩ := fig_cons n
 exact ⟨c, t ++ x, by rw [h]; rfl, hd⟩
theorem itoa_head (n : Int) (x : List UInt8) : (∃ c t, Lib.itoa n ++ x = c :: t ∧ digitB c = true) ∨ (∃ c t, Lib.itoa n ++ x = 45 :: c :: t ∧ digitB c = true) := by
 by_cases hn : n < 0
 · rw [itoa_neg hn, List.cons_append]
   obtain ⟨c, t, hc, hd⟩ := figc (n := n.natAbs) (x := x)
   exact .inr ⟨c, t, by rw [hc], hd⟩
 · rw [itoa_pos hn]
   obtain ⟨c, t, hc, hd⟩ := figc (n := n.toNat) (x := x)
   exact .inl ⟨c, t, hc, hd⟩
theorem repl_cons (c : UInt8) (l : List UInt8) : repl (c :: l) = one c ++ repl l := by simp [repl]
theorem repl_cut : ∀ (l m x y : List UInt8), (∀ r, x ≠ 39 :: r) → (∀ r, y ≠ 39 :: r) → repl l ++ 39 :: x = repl m ++ 39 :: y → l = m ∧ x = y
 | [], [], x, y, _, _, h => by
  have h : 39 :: x = 39 :: y := h
  exact ⟨rfl, (List.cons.inj h).2⟩
 | [], c :: m, x, y, hx, _, h => by
  have h : 39 :: x = repl (c :: m) ++ 39 :: y := h
  rw [repl_cons] at h
  exfalso
  by_cases h39 : c = 39
  · subst h39
    have h : 39 :: x = 39 :: (39 :: (repl m ++ 39 :: y)) := h
    exact hx _ (List.cons.inj h).2
  · by_cases hs : isSp c = true
    · unfold isSp at hs
      simp [h39] at hs
      rcases hs with rfl | rfl
      · have h : (39 :: x : List UInt8) = 92 :: (110 :: (repl m ++ 39 :: y)) := h
        exact absurd (List.cons.inj h).1 (by decide)
      · have h : (39 :: x : List UInt8) = 92 :: (92 :: (repl m ++ 39 :: y)) := h
        exact absurd (List.cons.inj h).1 (by decide)
    · rw [one_no (by simpa using hs)] at h
      have h : 39 :: x = c :: (repl m ++ 39 :: y) := h
      exact h39 (List.cons.inj h).1.symm
 | c :: l, [], x, y, hx, hy, h => by
  have h1 := repl_cut [] (c :: l) y x hy hx h.symm
  exact absurd h1.1 (by simp)
 | c :: l, d :: m, x, y, hx, hy, h => by
  rw [repl_cons, repl_cons, List.append_assoc, List.append_assoc] at h
  have key : c = d ∧ repl l ++ 39 :: x = repl m ++ 39 :: y := by
   have sp : ∀ c : UInt8, c = 10 ∨ c = 92 ∨ c = 39 ∨ (one c = [c] ∧ ¬ c = 10 ∧ ¬ c = 92 ∧ ¬ c = 39) := fun c => by
    by_cases h10 : c = 10
    · exact .inl h10
    by_cases h92 : c = 92
    · exact .inr (.inl h92)
    by_cases h39 : c = 39
    · exact .inr (.inr (.inl h39))
    exact .inr (.inr (.inr ⟨one_no (by unfold isSp; simp [h10, h92, h39]), h10, h92, h39⟩))
   have o10 : one 10 = [92, 110] := rfl
   have o92 : one 92 = [92, 92] := rfl
   have o39 : one 39 = [39, 39] := rfl
   clear hx hy
   rcases sp c with rfl | rfl | rfl | ⟨hc, c1, c2, c3⟩ <;> rcases sp d with rfl | rfl | rfl | ⟨hd, d1, d2, d3⟩ <;> simp_all
  have ih := repl_cut l m x y hx hy key.2
  exact ⟨by rw [key.1, ih.1], ih.2⟩
theorem q_not {x : List UInt8} (h : Dl x ∨ ∃ r, x = 40 :: r) : ∀ r, x ≠ 39 :: r := fun r hr => by
 subst hr
 rcases h with (h | ⟨s, h | h⟩) | ⟨s, h⟩
 · cases h
 · exact absurd (List.cons.inj h).1 (by decide)
 · exact absurd (List.cons.inj h).1 (by decide)
 · exact absurd (List.cons.inj h).1 (by decide)
inductive Pn : List UInt8 → Prop
 | br : Pn [91, 93]
 | ex : Pn [33]
 | se : Pn [59]
 | lo (c : UInt8) (t : List UInt8) (h : smallB c = true) (ha : (c :: t).all letterB = true) : Pn (c :: t)
 | si (c : UInt8) (t : List UInt8) (ha : (c :: t).all signB = true) (h46 : ¬ (c :: t) = [46]) : Pn (c :: t)
theorem plain_pn {l : List UInt8} (h : plainB l = true) : Pn l := by
 have h1 : (l == [] || l == [46]) = false := by
  cases h1 : (l == [] || l == [46]) with
  | false => rfl
  | true => unfold plainB at h; rw [if_pos h1] at h; cases h
 rw [Bool.or_eq_false_iff, beq_eq_false_iff_ne, beq_eq_false_iff_ne] at h1
 obtain ⟨c, t, rfl⟩ := List.exists_cons_of_ne_nil h1.1
 by_cases h91 : c :: t = [91, 93]
 · rw [h91]; exact .br
 by_cases h33 : c :: t = [33]
 · rw [h33]; exact .ex
 by_cases h59 : c :: t = [59]
 · rw [h59]; exact .se
 rw [plain_end (l := c :: t) (by simp) (by rw [beq_eq_false_iff_ne]; exact h1.2) (by rw [beq_eq_false_iff_ne]; exact h91) (by rw [beq_eq_false_iff_ne]; exact h33) (by rw [beq_eq_false_iff_ne]; exact h59)] at h
 rcases (Bool.or_eq_true _ _).mp h with h | h
 · rw [Bool.and_eq_true] at h
   exact .lo c t h.1 h.2
 · exact .si c t h h1.2
theorem small_sign {c : UInt8} (h : smallB c = true) : signB c = false := by
 cases hs : signB c with
 | false => rfl
 | true => rw [(sign_kind c hs).1] at h; cases h
theorem dl_run {p : UInt8 → Bool} (h40 : p 40 = false) (h41 : p 41 = false) (h44 : p 44 = false) {x : List UInt8} (h : Dl x ∨ ∃ r, x = 40 :: r) : runB p x = 0 := by
 rcases h with (rfl | ⟨s, rfl | rfl⟩) | ⟨s, rfl⟩
 · rfl
 · exact runB_no h44
 · exact runB_no h41
 · exact runB_no h40
theorem pn_cut {l m x y : List UInt8} (hl : Pn l) (hm : Pn m) (hx : Dl x ∨ ∃ r, x = 40 :: r) (hy : Dl y ∨ ∃ r, y = 40 :: r) (h : l ++ x = m ++ y) : l = m ∧ x = y := by
 have hlet := @run_cut letterB l m x y
 have hsig := @run_cut signB l m x y
 have lx := dl_run (p := letterB) (by decide) (by decide) (by decide) hx
 have ly := dl_run (p := letterB) (by decide) (by decide) (by decide) hy
 have sx := dl_run (p := signB) (by decide) (by decide) (by decide) hx
 have sy := dl_run (p := signB) (by decide) (by decide) (by decide) hy
 have hd : ∀ (c : UInt8) (t : List UInt8), (c :: t).all signB = true → signB c = true := fun c t ha => by
  rw [List.all_cons, Bool.and_eq_true] at ha
  exact ha.1
 cases hl with
 | br =>
  cases hm with
  | br => exact ⟨rfl, (List.append_inj h rfl).2⟩
  | ex => exact absurd (List.cons.inj h).1 (by decide)
  | se => exact absurd (List.cons.inj h).1 (by decide)
  | lo c t hc ha => have := (List.cons.inj h).1; rw [← this] at hc; exact absurd hc (by decide)
  | si c t ha h46 => have := (List.cons.inj h).1; have hc := hd c t ha; rw [← this] at hc; exact absurd hc (by decide)
 | ex =>
  cases hm with
  | br => exact absurd (List.cons.inj h).1 (by decide)
  | ex => exact ⟨rfl, (List.append_inj h rfl).2⟩
  | se => exact absurd (List.cons.inj h).1 (by decide)
  | lo c t hc ha => have := (List.cons.inj h).1; rw [← this] at hc; exact absurd hc (by decide)
  | si c t ha h46 => have := (List.cons.inj h).1; have hc := hd c t ha; rw [← this] at hc; exact absurd hc (by decide)
 | se =>
  cases hm with
  | br => exact absurd (List.cons.inj h).1 (by decide)
  | ex => exact absurd (List.cons.inj h).1 (by decide)
  | se => exact ⟨rfl, (List.append_inj h rfl).2⟩
  | lo c t hc ha => have := (List.cons.inj h).1; rw [← this] at hc; exact absurd hc (by decide)
  | si c t ha h46 => have := (List.cons.inj h).1; have hc := hd c t ha; rw [← this] at hc; exact absurd hc (by decide)
 | lo c t hc ha =>
  cases hm with
  | br => have := (List.cons.inj h).1; rw [this] at hc; exact absurd hc (by decide)
  | ex => have := (List.cons.inj h).1; rw [this] at hc; exact absurd hc (by decide)
  | se => have := (List.cons.inj h).1; rw [this] at hc; exact absurd hc (by decide)
  | lo c2 t2 hc2 ha2 => exact hlet ha ha2 lx ly h
  | si c2 t2 ha2 h46 =>
   have := (List.cons.inj h).1
   have h2 := hd c2 t2 ha2
   rw [← this, small_sign hc] at h2
   cases h2
 | si c t ha h46 =>
  cases hm with
  | br => have := (List.cons.inj h).1; have hc := hd c t ha; rw [this] at hc; exact absurd hc (by decide)
  | ex => have := (List.cons.inj h).1; have hc := hd c t ha; rw [this] at hc; exact absurd hc (by decide)
  | se => have := (List.cons.inj h).1; have hc := hd c t ha; rw [this] at hc; exact absurd hc (by decide)
  | lo c2 t2 hc2 ha2 =>
   have := (List.cons.inj h).1
   have h2 := hd c t ha
   rw [this, small_sign hc2] at h2
   cases h2
  | si c2 t2 ha2 h462 => exact hsig ha ha2 sx sy h
theorem pn_mark {l x r : List UInt8} (h : Pn l) : l ++ x ≠ 39 :: r := fun he => by
 cases h with
 | br => exact absurd (List.cons.inj he).1 (by decide)
 | ex => exact absurd (List.cons.inj he).1 (by decide)
 | se => exact absurd (List.cons.inj he).1 (by decide)
 | lo c t hc ha =>
  have := (List.cons.inj he).1
  rw [this] at hc
  exact absurd hc (by decide)
 | si c t ha h46 =>
  have := (List.cons.inj he).1
  rw [List.all_cons, Bool.and_eq_true, this] at ha
  exact absurd ha.1 (by decide)
theorem q_plain {s : ByteArray} (h : plainB s.data.toList = true) : qL s = s.data.toList := by unfold qL quoteL; rw [if_pos h]
theorem q_mark {s : ByteArray} (h : ¬ plainB s.data.toList = true) : qL s = 39 :: (repl s.data.toList ++ [39]) := by unfold qL quoteL; rw [if_neg h]; rfl
theorem ba_inj {s t : ByteArray} (h : s.data.toList = t.data.toList) : s = t := by rw [← ba_eta s, ← ba_eta t, h]
theorem q_cut {s t : ByteArray} {x y : List UInt8} (hx : Dl x ∨ ∃ r, x = 40 :: r) (hy : Dl y ∨ ∃ r, y = 40 :: r) (h : qL s ++ x = qL t ++ y) : s = t ∧ x = y := by
 by_cases hs : plainB s.data.toList = true
 · by_cases ht : plainB t.data.toList = true
   · rw [q_plain hs, q_plain ht] at h
     have h1 := pn_cut (plain_pn hs) (plain_pn ht) hx hy h
     exact ⟨ba_inj h1.1, h1.2⟩
   · rw [q_plain hs, q_mark ht] at h
     exact absurd h (pn_mark (plain_pn hs))
 · by_cases ht : plainB t.data.toList = true
   · rw [q_mark hs, q_plain ht] at h
     exact absurd h.symm (pn_mark (plain_pn ht))
   · rw [q_mark hs, q_mark ht, List.cons_append, List.cons_append, List.cons.injEq, List.append_assoc, List.append_assoc] at h
     have h1 := repl_cut _ _ x y (q_not hx) (q_not hy) h.2
     exact ⟨ba_inj h1.1, h1.2⟩
theorem q_inj {s t : ByteArray} (h : qL s = qL t) : s = t := by
 have h1 : qL s ++ [] = qL t ++ [] := by rw [h]
 exact (q_cut (.inl (.inl rfl)) (.inl (.inl rfl)) h1).1
theorem q_itoa (s : ByteArray) (n : Int) (x y : List UInt8) : qL s ++ x ≠ Lib.itoa n ++ y ∨ ∃ r, x = r ∧ s = ⟨#[45]⟩ := by
 by_cases h45 : s = ⟨#[45]⟩
 · exact .inr ⟨x, rfl, h45⟩
 refine .inl fun h => ?_
 have nd : ∀ (c : UInt8) (t : List UInt8), qL s ++ x = c :: t → digitB c = true → False := fun c t hc hd => by
  by_cases hs : plainB s.data.toList = true
  · rw [q_plain hs] at hc
    have hp := plain_pn hs
    cases hp' : s.data.toList with
    | nil => rw [hp'] at hp; cases hp
    | cons d r =>
     rw [hp'] at hc hp
     have e := (List.cons.inj hc).1
     subst e
     cases hp with
     | br => exact absurd hd (by decide)
     | ex => exact absurd hd (by decide)
     | se => exact absurd hd (by decide)
     | lo _ _ hc2 ha => rw [(digit_kind hd).2.2.1] at hc2; cases hc2
     | si _ _ ha h46 =>
      rw [List.all_cons, Bool.and_eq_true] at ha
      rw [(sign_kind _ ha.1).2.2.1] at hd
      cases hd
  · rw [q_mark hs, List.cons_append] at hc
    have e := (List.cons.inj hc).1
    rw [← e] at hd
    exact absurd hd (by decide)
 rcases itoa_head n y with ⟨c, t, hc, hd⟩ | ⟨c, t, hc, hd⟩
 · exact nd c t (h.trans hc) hd
 · rw [hc] at h
   by_cases hs : plainB s.data.toList = true
   · rw [q_plain hs] at h
     have hp := plain_pn hs
     match hp' : s.data.toList with
     | [] => rw [hp'] at hp; cases hp
     | [d] =>
      rw [hp'] at h
      have e := (List.cons.inj h).1
      exact h45 (ba_inj (by rw [hp', e]))
     | d :: d2 :: r =>
      rw [hp'] at h hp
      have e := List.cons.inj h
      have e2 := (List.cons.inj e.2).1
      rw [e.1, e2] at hp
      cases hp with
      | lo _ _ hc2 ha => exact absurd hc2 (by decide)
      | si _ _ ha h46 =>
       rw [List.all_cons, List.all_cons, Bool.and_eq_true, Bool.and_eq_true] at ha
       rw [(sign_kind _ ha.2.1).2.2.1] at hd
       cases hd
   · rw [q_mark hs, List.cons_append] at h
     exact absurd (List.cons.inj h).1 (by decide)
theorem q_no_int {s : ByteArray} {n : Int} {x y : List UInt8} (hx : Dl x ∨ ∃ r, x = 40 :: r) (h : qL s ++ x = Lib.itoa n ++ y) : False := by
 rcases q_itoa s n x y with h1 | ⟨_, _, rfl⟩
 · exact h1 h
 · have hp : plainB (⟨#[45]⟩ : ByteArray).data.toList = true := by decide
   rw [q_plain hp] at h
   have h : 45 :: x = Lib.itoa n ++ y := h
   rcases itoa_head n y with ⟨c, t, hc, hd⟩ | ⟨c, t, hc, hd⟩
   · rw [hc] at h
     have e := (List.cons.inj h).1
     rw [← e] at hd
     exact absurd hd (by decide)
   · rw [hc] at h
     have e := (List.cons.inj h).2
     have := dl_run (p := digitB) (by decide) (by decide) (by decide) hx
     rw [e, runB_yes hd] at this
     omega
end Go.Proofs.YtanhhihechakhaaGreatDoor.WrP
set_option linter.unusedVariables false
set_option linter.unusedSimpArgs false
namespace Go.Proofs.YtanhhihechakhaaGreatDoor.WrP
open Go.RowKit Go.Proofs.YtanhhihechakhaaGreatDoor.E Go.Proofs.YtanhhihechakhaaGreatDoor.ReplP Go.Proofs.YtanhhihechakhaaGreatDoor.TokP Go.Proofs.YtanhhihechakhaaGreatDoor.TermP
theorem itoa_no {n : Int} {c : UInt8} {x y : List UInt8} (hd : digitB c = false) (h45 : ¬ c = 45) (h : Lib.itoa n ++ x = c :: y) : False := by
 rcases itoa_head n x with ⟨d, t, hc, hd2⟩ | ⟨d, t, hc, hd2⟩
 · rw [hc] at h
   rw [(List.cons.inj h).1, hd] at hd2
   cases hd2
 · rw [hc] at h
   exact h45 (List.cons.inj h).1.symm
theorem nm0 (s : ByteArray) : nmL s 0 = qL s := by
 unfold nmL
 rw [if_neg (by omega)]
end Go.Proofs.YtanhhihechakhaaGreatDoor.WrP
set_option linter.unusedVariables false
set_option linter.unusedSimpArgs false
namespace Go.Proofs.YtanhhihechakhaaGreatDoor.WrP
open Go.RowKit Go.Proofs.YtanhhihechakhaaGreatDoor.E Go.Proofs.YtanhhihechakhaaGreatDoor.ReplP Go.Proofs.YtanhhihechakhaaGreatDoor.TokP Go.Proofs.YtanhhihechakhaaGreatDoor.TermP
theorem itoa_len {n : Int} (h0 : -9223372036854775808 ≤ n) (h1 : n ≤ 9223372036854775807) : (Lib.itoa n).length ≤ 20 := by
 by_cases hn : n < 0
 · rw [itoa_neg hn, List.length_cons]
   have := fig_len 18 n.natAbs (by omega)
   omega
 · rw [itoa_pos hn]
   have := fig_len 18 n.toNat (by omega)
   omega
theorem q_len (s : ByteArray) : (qL s).length ≤ 2 * s.size + 2 := by
 unfold qL quoteL
 have h1 := repl_le s.data.toList
 have h2 : s.data.toList.length = s.size := rfl
 split <;> (try simp only [List.length_append, List.length_cons, List.length_nil]) <;> omega
theorem txtsC_len : ∀ l : List GT, (txtsC (l.map GT.tm)).length = (l.map fun t => (txt t.tm).length + 1).sum
 | [] => by rw [List.map_nil, txtsC_nil]; rfl
 | t :: l => by
  rw [List.map_cons, txtsC_cons, List.map_cons, List.sum_cons, List.length_append, List.length_append, txtsC_len l]
  simp only [List.length_cons, List.length_nil]
  omega
theorem txts_mono : ∀ (l : List GT) (i : Nat), (txts ((l.take i).map GT.tm)).length ≤ (txts (l.map GT.tm)).length
 | [], i => by rw [List.take_nil]; exact Nat.le_refl _
 | t :: l, 0 => by rw [List.take_zero, List.map_nil, txts_nil]; exact Nat.zero_le _
 | t :: l, i + 1 => by
  rw [List.take_succ_cons, List.map_cons, List.map_cons, txts_cons, txts_cons, List.length_append, List.length_append, txtsC_len, txtsC_len]
  have : ((l.take i).map fun t => (txt t.tm).length + 1).sum ≤ (l.map fun t => (txt t.tm).length + 1).sum := by
   conv => rhs; rw [← List.take_append_drop i l, List.map_append, List.sum_append]
   omega
  omega
theorem q_ne (s : ByteArray) : qL s ≠ [] := fun h => by
 unfold qL quoteL at h
 split at h
 · rename_i hp
   rw [h] at hp
   exact absurd hp (by decide)
 · simp at h
theorem itoa_ne (n : Int) : Lib.itoa n ≠ [] := fun h => by
 rcases itoa_head n [] with ⟨c, t, hc, _⟩ | ⟨c, t, hc, _⟩ <;> · rw [h] at hc; cases hc
theorem txt_ne (t : Tm) : txt t ≠ [] := by
 cases t with
 | mk k n s kids =>
  rw [txt]
  split
  · simp
  split
  · exact itoa_ne n
  split
  · split
    · exact q_ne s
    · simp
  split
  · simp
  · simp
/-! names' texts -/
theorem pn_clean {l : List UInt8} (h : Pn l) : ∀ b ∈ l, ¬ b = 10 ∧ ¬ b = 32 := by
 have all : ∀ (p : UInt8 → Bool), p 10 = false → p 32 = false → ∀ l : List UInt8, l.all p = true → ∀ b ∈ l, ¬ b = 10 ∧ ¬ b = 32 := fun p h10 h32 l hl b hb => by
  have := List.all_eq_true.1 hl b hb
  refine ⟨fun h9 => ?_, fun h9 => ?_⟩
  · rw [h9, h10] at this; cases this
  · rw [h9, h32] at this; cases this
 cases h with
 | br => decide
 | ex => decide
 | se => decide
 | lo c t hc ha => exact all letterB (by decide) (by decide) _ ha
 | si c t ha h46 => exact all signB (by decide) (by decide) _ ha
theorem repl_clean : ∀ (l : List UInt8), ∀ b ∈ repl l, ¬ b = 10
 | [], b, hb => (List.not_mem_nil hb).elim
 | c :: l, b, hb => by
  rw [repl_cons] at hb
  rcases List.mem_append.1 hb with hb | hb
  · by_cases h10 : c = 10
    · subst h10
      have : b ∈ [92, 110] := hb
      simp at this
      rcases this with rfl | rfl <;> decide
    by_cases h92 : c = 92
    · subst h92
      have : b ∈ [92, 92] := hb
      simp at this
      subst this
      decide
    by_cases h39 : c = 39
    · subst h39
      have : b ∈ [39, 39] := hb
      simp at this
      subst this
      decide
    rw [one_no (by unfold isSp; simp [h10, h92, h39])] at hb
    simp at hb
    subst hb
    exact h10
  · exact repl_clean l b hb
theorem q_clean {s : ByteArray} {i : Nat} {b : UInt8} (h : (qL s)[i]? = some b) : ¬ b = 10 ∧ (b = 32 → (qL s)[0]? = some 39) := by
 have hb := List.mem_of_getElem? h
 by_cases hs : plainB s.data.toList = true
 · rw [q_plain hs] at hb
   have := pn_clean (plain_pn hs) b hb
   exact ⟨this.1, fun h9 => absurd h9 this.2⟩
 · rw [q_mark hs] at hb ⊢
   refine ⟨?_, fun _ => rfl⟩
   rcases List.mem_cons.1 hb with rfl | hb
   · decide
   rcases List.mem_append.1 hb with hb | hb
   · exact repl_clean _ b hb
   · simp at hb
     subst hb
     decide
theorem q_int (s : ByteArray) (n : Int) : qL s ≠ Lib.itoa n := fun h => q_no_int (x := []) (y := []) (.inl (.inl rfl)) (by rw [h])
theorem int_let (n m : Int) : Lib.itoa n ≠ 95 :: Lib.itoa m := fun h => itoa_no (c := 95) (n := n) (x := []) (y := Lib.itoa m) (by decide) (by decide) (by rw [List.append_nil]; exact h)
/-! answers -/
def hidB (s : ByteArray) : Bool := firstB (fun c => c == 95) s.data.toList
def rowsA : List ByteArray → List Tm → List (List UInt8)
 | n :: ns, v :: vs => if hidB n = true then rowsA ns vs else (n.data.toList ++ [32, 61, 32] ++ txt v) :: rowsA ns vs
 | _, _ => []
def joinL : List (List UInt8) → List UInt8
 | [] => []
 | x :: r => x ++ (r.flatMap fun y => [44, 32] ++ y)
def ansL (ns : List ByteArray) (vs : List Tm) : List UInt8 := if rowsA ns vs = [] then [121, 101, 115] else joinL (rowsA ns vs)
theorem rowsA_nil (ns : List ByteArray) : rowsA ns [] = [] := by cases ns <;> rfl
theorem rowsA_succ : ∀ (ns : List ByteArray) (vs : List Tm) (i : Nat) (n : ByteArray) (v : Tm), ns[i]? = some n → vs[i]? = some v → rowsA (ns.take (i + 1)) vs = rowsA (ns.take i) vs ++ (if hidB n = true then [] else [n.data.toList ++ [32, 61, 32] ++ txt v])
 | [], _, i, n, v, h, _ => by simp at h
 | _ :: _, [], i, n, v, _, h => by simp at h
 | x :: ns, y :: vs, 0, n, v, h1, h2 => by
  simp only [List.getElem?_cons_zero, Option.some.injEq] at h1 h2
  subst h1 h2
  rw [List.take_succ_cons, List.take_zero, List.take_zero]
  simp only [rowsA, List.nil_append]
 | x :: ns, y :: vs, i + 1, n, v, h1, h2 => by
  have ih := rowsA_succ ns vs i n v (by simpa using h1) (by simpa using h2)
  rw [List.take_succ_cons, List.take_succ_cons]
  simp only [rowsA]
  split
  · exact ih
  · rw [ih, List.cons_append]
theorem rowsA_more : ∀ (ns : List ByteArray) (vs : List Tm) (i : Nat), vs.length ≤ i → rowsA (ns.take i) vs = rowsA ns vs
 | [], vs, i, h => by rw [List.take_nil]
 | x :: ns, [], i, h => by rw [rowsA_nil, rowsA_nil]
 | x :: ns, y :: vs, 0, h => by simp at h
 | x :: ns, y :: vs, i + 1, h => by
  rw [List.take_succ_cons]
  simp only [rowsA]
  rw [rowsA_more ns vs i (by simpa using h)]
end Go.Proofs.YtanhhihechakhaaGreatDoor.WrP
set_option linter.unusedVariables false
set_option linter.unusedSimpArgs false
namespace Go.Proofs.YtanhhihechakhaaGreatDoor
open Go.RowKit Go.Proofs.YtanhhihechakhaaGreatDoor.E Go.Proofs.YtanhhihechakhaaGreatDoor.ReplP Go.Proofs.YtanhhihechakhaaGreatDoor.TokP Go.Proofs.YtanhhihechakhaaGreatDoor.TermP Go.Proofs.YtanhhihechakhaaGreatDoor.WrP
theorem bsz (l : List UInt8) : (⟨l.toArray⟩ : ByteArray).size = l.length := rfl
theorem bdl (l : List UInt8) : (⟨l.toArray⟩ : ByteArray).data.toList = l := rfl
theorem quoteB_q (s : ByteArray) : quoteB s (plainB s.data.toList) = ⟨(qL s).toArray⟩ := by
 unfold quoteB qL quoteL
 split
 · exact (ba_eta s).symm
 · apply ByteArray.ext
   simp
set_option maxRecDepth 100000 in
theorem fig_c (n : Int) (h : Hp) (h0 : -9223372036854775808 ≤ n) (h1 : n ≤ 9223372036854775807) (ht : Tab10 h) : C0 Tryz.prog 46 [.int .i64 n] h (.string ⟨(Lib.itoa n).toArray⟩) := by
 refine enter0 Tryz.func46 rfl rfl rfl (fun w => ?_)
 refine cy_seq ?_
 refine cy_region ?_
 refine sy_assign rfl rfl rfl ?_
 refine sy_nil rfl ?_
 refine ny_next ?_
 refine cy_seq ?_
 refine cy_region ?_
 refine sy_move rfl rfl rfl ?_
 refine sy_call rfl call_62 rfl (fmt_c n _ h0 h1 ht) rfl rfl ?_
 refine sy_assign rfl rfl rfl ?_
 refine sy_nil rfl ?_
 refine ny_next ?_
 refine cy_ret ?_
 refine ny_finR (res1 rfl rfl) (fun w hs => ⟨?_, hs.frm⟩)
 rfl
set_option maxRecDepth 100000 in
theorem name_c (t : GT) (h : Hp) (hs : t.s.size ≤ 140737488355328) (hk : t.kids.length ≤ 9223372036854775807) : C0 Tryz.prog 47 [.agg (GT.cells t).toArray] h (.string ⟨(nmL t.s t.kids.length).toArray⟩) := by
 show C0 Tryz.prog 47 [.agg #[.int .i64 t.k, .int .i64 t.n, .string t.s, .slice t.A t.kids.length t.c]] h _
 refine enter0 Tryz.func47 rfl rfl rfl (fun w => ?_)
 refine cy_seq ?_
 refine cy_region ?_
 refine sy_box rfl rfl rfl rfl (fun b1 hb1 hM1 => ?_) (by simp)
 refine sy_assign rfl rfl rfl ?_
 refine sy_nil rfl ?_
 refine ny_next ?_
 refine cy_seq ?_
 refine cy_seq ?_
 refine cy_region ?_
 refine sy_field fld_24_2 rfl rfl rfl ?_
 first | refine sy_ldr 0 one_9 rfl rfl rfl rfl rfl ?_ | refine sy_ldr 1 one_9 rfl rfl rfl rfl rfl ?_
 refine sy_eqs rfl rfl rfl rfl ?_
 refine sy_move rfl rfl rfl ?_
 refine sy_cond (d := 6) _ rfl rfl (fun hg6 => ?_) (fun hg6 => ?_)
 · refine sy_field fld_24_3 rfl rfl rfl ?_
   first | refine sy_ldr 0 one_22 rfl rfl rfl rfl rfl ?_ | refine sy_ldr 1 one_22 rfl rfl rfl rfl rfl ?_
   refine sy_len rfl (len_slice Tryz.underlying22 _ _ _) rfl rfl ?_
   refine sy_cmp rfl rfl rfl rfl rfl ?_
   refine sy_pickT rfl rfl rfl rfl ?_
   refine sy_nil rfl ?_
   refine ny_next ?_
   refine cy_cond rfl (fun hc11 => ?_) (fun hc11 => ?_)
   · refine cy_seq ?_
     refine cy_region ?_
     refine sy_assign rfl rfl rfl ?_
     refine sy_nil rfl ?_
     refine ny_next ?_
     refine cy_ret ?_
     refine ny_thenR ?_
     refine ny_finR (res1 rfl rfl) (fun w hs2 => ⟨?_, hs2.frm⟩)
     refine congrArg (fun l : List UInt8 => Ending.returned (Value.string ⟨l.toArray⟩)) ?_
     unfold nmL
     have h6 : t.s = brL := ba_inj (eq_of_beq hg6)
     have h11 : 0 < t.kids.length := by have := of_decide_eq_true hc11; omega
     rw [if_pos ⟨h6, h11⟩]
   · refine cy_skip ?_
     refine ny_next ?_
     refine cy_seq ?_
     refine cy_region ?_
     refine sy_field fld_24_2 rfl rfl rfl ?_
     first | refine sy_ldr 0 one_9 rfl rfl rfl rfl rfl ?_ | refine sy_ldr 1 one_9 rfl rfl rfl rfl rfl ?_
     refine sy_call rfl call_63 rfl (quote_c t.s _ _ hs (fun h => plain_c t.s h hs)) rfl rfl ?_
     rw [quoteB_q]
     refine sy_assign rfl rfl rfl ?_
     refine sy_nil rfl ?_
     refine ny_next ?_
     refine cy_ret ?_
     refine ny_finR (res1 rfl rfl) (fun w hs2 => ⟨?_, hs2.frm⟩)
     refine congrArg (fun l : List UInt8 => Ending.returned (Value.string ⟨l.toArray⟩)) ?_
     unfold nmL
     rw [if_neg]
     rintro ⟨h6, h11⟩
     first | (rw [h6] at hg6; exact absurd hg6 (by decide)) | (have := of_decide_eq_false hc11; omega)
 · refine sy_skip rfl rfl rfl ?_
   refine sy_skip rfl rfl rfl ?_
   refine sy_skip rfl rfl rfl ?_
   refine sy_skip rfl rfl rfl ?_
   refine sy_pickF rfl rfl rfl rfl ?_
   refine sy_nil rfl ?_
   refine ny_next ?_
   refine cy_condF rfl ?_
   refine cy_skip ?_
   refine ny_next ?_
   refine cy_seq ?_
   refine cy_region ?_
   refine sy_field fld_24_2 rfl rfl rfl ?_
   first | refine sy_ldr 0 one_9 rfl rfl rfl rfl rfl ?_ | refine sy_ldr 1 one_9 rfl rfl rfl rfl rfl ?_
   refine sy_call rfl call_63 rfl (quote_c t.s _ _ hs (fun h => plain_c t.s h hs)) rfl rfl ?_
   rw [quoteB_q]
   refine sy_assign rfl rfl rfl ?_
   refine sy_nil rfl ?_
   refine ny_next ?_
   refine cy_ret ?_
   refine ny_finR (res1 rfl rfl) (fun w hs2 => ⟨?_, hs2.frm⟩)
   refine congrArg (fun l : List UInt8 => Ending.returned (Value.string ⟨l.toArray⟩)) ?_
   unfold nmL
   rw [if_neg]
   rintro ⟨h6, h11⟩
   first | (rw [h6] at hg6; exact absurd hg6 (by decide)) | (have := of_decide_eq_false hc11; omega)
set_option maxRecDepth 100000 in
theorem write_c (b : Nat) (t : GT) : ∀ (h : Hp) (p v : Value) (xs : List UInt8), Lies h t → Fits t → Tab10 h → PSt b p → xs.length + (txt t.tm).length ≤ 70368744177600 → CR Tryz.prog 30 [.agg (GT.cells t).toArray, .func (.func 31) #[.pointer (some ⟨b, 0, none⟩)] #[]] h [.blk b (.cells [p, v].toArray 53 (0, 0)), .row v 5 1 (xs).length (bvs (xs))] (fun _ : Value => .returned (.tuple #[])) (fun v' h' H' => H' = [.blk b (.cells [.pointer (some ⟨b, 0, none⟩), v'].toArray 53 (0, 0)), .row v' 5 1 (xs ++ txt t.tm).length (bvs (xs ++ txt t.tm))]) := by
 induction t using GT.ind
 rename_i tk tn ts tA tc kids ih
 intro h p v xs hl hf ht hp hz
 have hroom := hf.room
 have sz1 : ∀ a : UInt8, (⟨#[a]⟩ : ByteArray).size = 1 := fun _ => rfl
 have sz2 : ∀ a c : UInt8, (⟨#[a, c]⟩ : ByteArray).size = 2 := fun _ _ => rfl
 have dl1 : ∀ a : UInt8, (⟨#[a]⟩ : ByteArray).data.toList = [a] := fun _ => rfl
 show CR Tryz.prog 30 [.agg #[.int .i64 tk, .int .i64 tn, .string ts, .slice tA kids.length tc], .func (.func 31) #[.pointer (some ⟨b, 0, none⟩)] #[]] h _ _ _
 refine enterR Tryz.func30 rfl rfl rfl (fun w hb0 => ?_)
 refine cy_seq ?_
 refine cy_region ?_
 refine sy_box rfl rfl rfl rfl (fun b2 hb2 hM2 => ?_) hb0
 refine sy_nil rfl ?_
 refine ny_next ?_
 refine cy_block ?_
 refine cy_seq ?_
 refine cy_frz 0 rfl hM2 (fun h1 hle1 hbx => ?_)
 replace hl := hl.le hle1
 replace ht := ht.le hle1
 have hr := hl.rows
 have hil := itoa_len hf.nums.2.1.1 hf.nums.2.1.2
 have hns := hf.nums.2.2
 refine cy_region ?_
 refine sy_field fld_24_0 rfl rfl rfl ?_
 refine sy_ldh one_3 rfl (Hp.blk hbx 0 _ rfl) rfl rfl ?_
 refine sy_cmp rfl rfl rfl rfl rfl ?_
 refine sy_assign rfl rfl rfl ?_
 refine sy_nil rfl ?_
 refine ny_next ?_
 refine cy_cond rfl (fun hc8 => ?_) (fun hc8 => ?_)
 · have hk1 : tk = 1 := by simpa using hc8
   have htx : txt (GT.mk tk tn ts tA tc kids).tm = 95 :: Lib.itoa tn := by rw [GT.tm_mk]; exact txt_var (t := .mk _ _ _ _) hk1
   rw [htx] at hz
   rw [List.length_cons] at hz
   refine cy_region ?_
   refine sy_move rfl rfl rfl ?_
   refine sy_field fld_24_1 rfl rfl rfl ?_
   refine sy_ldh one_2 rfl (Hp.blk hbx 1 _ rfl) rfl rfl ?_
   refine sy_call rfl call_46 rfl (fig_c tn _ hf.nums.2.1.1 hf.nums.2.1.2 ht) rfl rfl ?_
   refine sy_cat rfl rfl (by first | omega | (simp only [ByteArray.size_append, bsz, ba_cat, bdl, dl1, List.length_append, List.length_cons, List.length_nil, sz1, sz2]; omega) | (simp [ByteArray.size_append, bsz, sz1, sz2]; done)) rfl rfl ?_
   refine sy_callbR1 [0, 0] call_31 rfl rfl rfl (writeString_c b _ _ _ _ _ hp (by first | omega | (simp only [ByteArray.size_append, bsz, ba_cat, bdl, dl1, List.length_append, List.length_cons, List.length_nil, sz1, sz2]; omega) | (simp [ByteArray.size_append, bsz, sz1, sz2]; done))) rfl rfl (fun v17 h17 H17 hx17 hle17 => ?_)
   obtain ⟨rfl, rfl⟩ := hx17
   refine sy_nil rfl ?_
   refine ny_blockN ?_
   have hE : xs ++ ((⟨#[95]⟩ : ByteArray) ++ ⟨(Lib.itoa tn).toArray⟩).data.toList = xs ++ txt (GT.mk tk tn ts tA tc kids).tm := by first | (rw [htx]; done) | (rw [htx]; simp; done)
   refine ny_fin (res0 rfl) (fun w hs => ⟨v17, _, _, rfl, ?_, hs⟩)
   rw [← hE]
   rfl
 · have hk1 : ¬ tk = 1 := by simpa using hc8
   refine cy_seq ?_
   refine cy_region ?_
   refine sy_field fld_24_0 rfl rfl rfl ?_
   refine sy_ldh one_3 rfl (Hp.blk hbx 0 _ rfl) rfl rfl ?_
   refine sy_cmp rfl rfl rfl rfl rfl ?_
   refine sy_assign rfl rfl rfl ?_
   refine sy_nil rfl ?_
   refine ny_next ?_
   refine cy_cond rfl (fun hc18 => ?_) (fun hc18 => ?_)
   · have hk2 : tk = 2 := by simpa using hc18
     have htx : txt (GT.mk tk tn ts tA tc kids).tm = Lib.itoa tn := by rw [GT.tm_mk]; exact txt_int (t := .mk _ _ _ _) hk2
     rw [htx] at hz
     refine cy_region ?_
     refine sy_move rfl rfl rfl ?_
     refine sy_field fld_24_1 rfl rfl rfl ?_
     refine sy_ldh one_2 rfl (Hp.blk hbx 1 _ rfl) rfl rfl ?_
     refine sy_call rfl call_46 rfl (fig_c tn _ hf.nums.2.1.1 hf.nums.2.1.2 ht) rfl rfl ?_
     refine sy_callbR1 [0, 0] call_31 rfl rfl rfl (writeString_c b _ _ _ _ _ hp (by first | omega | (simp only [ByteArray.size_append, bsz, ba_cat, bdl, dl1, List.length_append, List.length_cons, List.length_nil, sz1, sz2]; omega) | (simp [ByteArray.size_append, bsz, sz1, sz2]; done))) rfl rfl (fun v26 h26 H26 hx26 hle26 => ?_)
     obtain ⟨rfl, rfl⟩ := hx26
     refine sy_nil rfl ?_
     refine ny_blockN ?_
     have hE : xs ++ (⟨(Lib.itoa tn).toArray⟩ : ByteArray).data.toList = xs ++ txt (GT.mk tk tn ts tA tc kids).tm := by first | (rw [htx]; done) | (rw [htx]; simp; done)
     refine ny_fin (res0 rfl) (fun w hs => ⟨v26, _, _, rfl, ?_, hs⟩)
     rw [← hE]
     rfl
   · have hk2 : ¬ tk = 2 := by simpa using hc18
     refine cy_seq ?_
     refine cy_region ?_
     refine sy_field fld_24_0 rfl rfl rfl ?_
     refine sy_ldh one_3 rfl (Hp.blk hbx 0 _ rfl) rfl rfl ?_
     refine sy_cmp rfl rfl rfl rfl rfl ?_
     refine sy_move rfl rfl rfl ?_
     refine sy_cond (d := 31) _ rfl rfl (fun hg31 => ?_) (fun hg31 => ?_)
     · have hk3 : tk = 3 := by simpa using hg31
       refine sy_field fld_24_3 rfl rfl rfl ?_
       refine sy_ldh one_22 rfl (Hp.blk hbx 3 _ rfl) rfl rfl ?_
       refine sy_len rfl (len_slice Tryz.underlying22 _ _ _) rfl rfl ?_
       refine sy_cmp rfl rfl rfl rfl rfl ?_
       refine sy_pickT rfl rfl rfl rfl ?_
       refine sy_assign rfl rfl rfl ?_
       refine sy_nil rfl ?_
       refine ny_next ?_
       refine cy_cond rfl (fun hc27 => ?_) (fun hc27 => ?_)
       · have hk0 : kids.length = 0 := by have := eq_of_beq hc27; omega
         have htx : txt (GT.mk tk tn ts tA tc kids).tm = nmL ts kids.length := by rw [GT.tm_mk]; rw [txt_fun hk3, if_pos (by rw [List.length_map]; exact hk0), hk0, nm0]
         rw [htx] at hz
         refine cy_region ?_
         refine sy_move rfl rfl rfl ?_
         refine sy_ldah (vs := [.int .i64 tk, .int .i64 tn, .string ts, .slice tA kids.length tc]) agg_24 rfl rfl (Hp.blk hbx) rfl rfl ?_
         refine sy_call rfl call_47 rfl ((show C0 Tryz.prog 47 _ _ (.string ⟨(nmL ts kids.length).toArray⟩) from name_c (GT.mk tk tn ts tA tc kids) _ hns (by show kids.length ≤ _; omega))) rfl rfl ?_
         refine sy_callbR1 [0, 0] call_31 rfl rfl rfl (writeString_c b _ _ _ _ _ hp (by first | omega | (simp only [ByteArray.size_append, bsz, ba_cat, bdl, dl1, List.length_append, List.length_cons, List.length_nil, sz1, sz2]; omega) | (simp [ByteArray.size_append, bsz, sz1, sz2]; done))) rfl rfl (fun v40 h40 H40 hx40 hle40 => ?_)
         obtain ⟨rfl, rfl⟩ := hx40
         refine sy_nil rfl ?_
         refine ny_blockN ?_
         have hE : xs ++ (⟨(nmL ts kids.length).toArray⟩ : ByteArray).data.toList = xs ++ txt (GT.mk tk tn ts tA tc kids).tm := by first | (rw [htx]; done) | (rw [htx]; simp; done)
         refine ny_fin (res0 rfl) (fun w hs => ⟨v40, _, _, rfl, ?_, hs⟩)
         rw [← hE]
         rfl
       · have hk0 : ¬ kids.length = 0 := by
          intro h9
          rw [h9] at hc27
          simp at hc27
         have htx : txt (GT.mk tk tn ts tA tc kids).tm = nmL ts kids.length ++ [40] ++ txts (kids.map GT.tm) ++ [41] := by rw [GT.tm_mk]; rw [txt_fun hk3, if_neg (by rw [List.length_map]; exact hk0), List.length_map]
         rw [htx] at hz
         simp only [List.length_append, List.length_cons, List.length_nil] at hz
         refine cy_seq ?_
         refine cy_region ?_
         refine sy_field fld_24_0 rfl rfl rfl ?_
         refine sy_ldh one_3 rfl (Hp.blk hbx 0 _ rfl) rfl rfl ?_
         refine sy_cmp rfl rfl rfl rfl rfl ?_
         refine sy_assign rfl rfl rfl ?_
         refine sy_setT (d := 41) rfl rfl hg31 ?_
         refine sy_nil rfl ?_
         refine ny_next ?_
         refine cy_condT rfl ?_
         refine cy_seq ?_
         refine cy_region ?_
         refine sy_move rfl rfl rfl ?_
         refine sy_ldah (vs := [.int .i64 tk, .int .i64 tn, .string ts, .slice tA kids.length tc]) agg_24 rfl rfl (Hp.blk hbx) rfl rfl ?_
         refine sy_call rfl call_47 rfl ((show C0 Tryz.prog 47 _ _ (.string ⟨(nmL ts kids.length).toArray⟩) from name_c (GT.mk tk tn ts tA tc kids) _ hns (by show kids.length ≤ _; omega))) rfl rfl ?_
         refine sy_cat rfl rfl (by first | omega | (simp only [ByteArray.size_append, bsz, ba_cat, bdl, dl1, List.length_append, List.length_cons, List.length_nil, sz1, sz2]; omega) | (simp [ByteArray.size_append, bsz, sz1, sz2]; done)) rfl rfl ?_
         refine sy_callbR1 [0, 0] call_31 rfl rfl rfl (writeString_c b _ _ _ _ _ hp (by first | omega | (simp only [ByteArray.size_append, bsz, ba_cat, bdl, dl1, List.length_append, List.length_cons, List.length_nil, sz1, sz2]; omega) | (simp [ByteArray.size_append, bsz, sz1, sz2]; done))) rfl rfl (fun v49 h49 H49 hx49 hle49 => ?_)
         obtain ⟨rfl, rfl⟩ := hx49
         refine sy_nil rfl ?_
         refine ny_next ?_
         refine cy_seq ?_
         refine cy_seq ?_
         refine cy_region ?_
         refine sy_field fld_24_3 rfl rfl rfl ?_
         refine sy_ldh one_22 rfl (Hp.blk hbx 3 _ rfl) rfl rfl ?_
         refine sy_len rfl (len_slice Tryz.underlying22 _ _ _) rfl rfl ?_
         refine sy_move rfl rfl rfl ?_
         refine sy_nil rfl ?_
         refine ny_next ?_
         refine cy_block ?_
         refine cy_loopK (ι := Nat × Value × Hp) [1, 51, 52] rfl (fun z => z.1 ≤ kids.length ∧ h1.Le z.2.2) (fun z => kids.length - z.1) (fun z => [(53, .int .i64 (z.1 : Int))]) (fun z => z.2.2) (fun z => [.blk b (.cells [.pointer (some ⟨b, 0, none⟩), z.2.1].toArray 53 (0, 0)), .row z.2.1 5 1 (xs ++ (⟨(nmL ts kids.length).toArray⟩ ++ ⟨#[40]⟩ : ByteArray).data.toList ++ (txts ((kids.take z.1).map GT.tm))).length (bvs (xs ++ (⟨(nmL ts kids.length).toArray⟩ ++ ⟨#[40]⟩ : ByteArray).data.toList ++ (txts ((kids.take z.1).map GT.tm))))]) (0, v49, h1) [0, 0] ⟨Nat.zero_le _, Hp.Le.refl _⟩ ⟨rfl, trivial⟩ rfl (by rw [show xs ++ (⟨(nmL ts kids.length).toArray⟩ ++ ⟨#[40]⟩ : ByteArray).data.toList ++ (txts ((kids.take (0, v49, h1).1).map GT.tm)) = xs ++ (⟨(nmL ts kids.length).toArray⟩ ++ ⟨#[40]⟩ : ByteArray).data.toList from by rw [List.take_zero, List.map_nil, txts_nil, List.append_nil]]; rfl) ?_
         rintro ⟨i, vz, hzz⟩ ⟨hI, hlez⟩
         simp only at hI hlez ⊢
         have hlz := hl.le hlez
         have hrz := hlz.rows
         have htz := ht.le hlez
         have hm0 := txts_mono kids i
         refine cy_seq ?_
         refine cy_region ?_
         refine sy_cmp rfl rfl rfl rfl rfl ?_
         refine sy_nil rfl ?_
         refine ny_next ?_
         refine cy_seq ?_
         refine cy_cond rfl (fun hc54 => ?_) (fun hc54 => ?_)
         · have hlti : i < kids.length := by have := of_decide_eq_true hc54; omega
           refine cy_skip ?_
           refine ny_next ?_
           refine cy_seq ?_
           refine cy_block ?_
           refine cy_seq ?_
           refine cy_region ?_
           refine sy_move rfl rfl rfl ?_
           refine sy_idxR (fc := GT.cells) (es := kids) els_22 rfl rfl hrz rfl (by omega) rfl rfl (fun e56 b56 o56 he56 hA56 hc56 => ?_)
           have hsu := txts_succ he56
           have hm1 := txts_mono kids (i + 1)
           have hm2 := congrArg List.length hsu
           simp only [List.length_append] at hm2
           refine sy_ldah (vs := GT.cells e56) agg_24 rfl rfl hc56 rfl rfl ?_
           refine sy_alloc zer_24 rfl rfl (fun b5 hb5 hM5 => ?_) hb0
           refine sy_assign rfl rfl rfl ?_
           first | refine sy_stl 0 sz_24 rfl rfl rfl rfl rfl rfl rfl rfl ?_ | refine sy_stl 1 sz_24 rfl rfl rfl rfl rfl rfl rfl rfl ?_ | refine sy_stl 2 sz_24 rfl rfl rfl rfl rfl rfl rfl rfl ?_ | refine sy_stl 3 sz_24 rfl rfl rfl rfl rfl rfl rfl rfl ?_
           refine sy_nil rfl ?_
           refine ny_next ?_
           refine cy_seq ?_
           refine cy_seq ?_
           refine cy_region ?_
           refine sy_move rfl rfl rfl ?_
           refine sy_cmp rfl rfl rfl rfl rfl ?_
           refine sy_nil rfl ?_
           refine ny_next ?_
           refine cy_cond rfl (fun hc59 => ?_) (fun hc59 => ?_)
           · have hi0 : ¬ i = 0 := by have := of_decide_eq_true hc59; omega
             rw [if_neg hi0, List.length_cons, List.length_nil] at hm2
             refine cy_region ?_
             refine sy_move rfl rfl rfl ?_
             refine sy_callbR1 [1, 1] call_31 rfl rfl rfl (writeString_c b _ _ _ _ _ (.inr rfl) (by first | omega | (simp only [ByteArray.size_append, bsz, ba_cat, bdl, dl1, List.length_append, List.length_cons, List.length_nil, sz1, sz2]; omega) | (simp [ByteArray.size_append, bsz, sz1, sz2]; done))) rfl rfl (fun v61 h61 H61 hx61 hle61 => ?_)
             obtain ⟨rfl, rfl⟩ := hx61
             refine sy_nil rfl ?_
             refine ny_next ?_
             refine cy_region ?_
             first | refine sy_ldar 0 agg_24 rfl rfl rfl rfl rfl ?_ | refine sy_ldar 1 agg_24 rfl rfl rfl rfl rfl ?_ | refine sy_ldar 2 agg_24 rfl rfl rfl rfl rfl ?_ | refine sy_ldar 3 agg_24 rfl rfl rfl rfl rfl ?_
             refine sy_move rfl rfl rfl ?_
             refine sy_callR1 [0, 0] call_30 rfl rfl (ih e56 (List.mem_of_getElem? he56) _ _ _ _ (hlz.at he56) (hf.at he56) htz (.inr rfl) (by first | omega | (simp only [ByteArray.size_append, bsz, ba_cat, bdl, dl1, List.length_append, List.length_cons, List.length_nil, sz1, sz2]; omega) | (simp [ByteArray.size_append, bsz, sz1, sz2]; done))) rfl rfl (fun v64 h64 H64 hx64 hle64 => ?_)
             subst hx64
             refine sy_nil rfl ?_
             refine ny_blockN ?_
             refine ny_next ?_
             refine cy_region ?_
             refine sy_addi (z := ((i + 1 : Nat) : Int)) rfl rfl (by omega) (by omega) (by omega) rfl rfl ?_
             refine sy_move rfl rfl rfl ?_
             refine sy_nil rfl ?_
             refine ny_roundK [1, 51, 52] (i + 1, v64, h64) [0, 0] ⟨(show i + 1 ≤ kids.length by omega), hlez.trans hle64⟩ (show kids.length - (i + 1) < kids.length - i by omega) rfl ⟨rfl, trivial⟩ rfl (by rw [show xs ++ (⟨(nmL ts kids.length).toArray⟩ ++ ⟨#[40]⟩ : ByteArray).data.toList ++ (txts ((kids.take (i + 1)).map GT.tm)) = xs ++ (⟨(nmL ts kids.length).toArray⟩ ++ ⟨#[40]⟩ : ByteArray).data.toList ++ (txts ((kids.take i).map GT.tm)) ++ (⟨#[44]⟩ : ByteArray).data.toList ++ txt e56.tm from by rw [hsu]; (first | (rw [if_neg (by omega)]; simp; done) | (rw [if_pos (by omega)]; simp; done))]; rfl)
           · have hi0 : i = 0 := by have := of_decide_eq_false hc59; omega
             rw [if_pos hi0, List.length_nil] at hm2
             refine cy_skip ?_
             refine ny_next ?_
             refine cy_region ?_
             first | refine sy_ldar 0 agg_24 rfl rfl rfl rfl rfl ?_ | refine sy_ldar 1 agg_24 rfl rfl rfl rfl rfl ?_ | refine sy_ldar 2 agg_24 rfl rfl rfl rfl rfl ?_ | refine sy_ldar 3 agg_24 rfl rfl rfl rfl rfl ?_
             refine sy_move rfl rfl rfl ?_
             refine sy_callR1 [1, 1] call_30 rfl rfl (ih e56 (List.mem_of_getElem? he56) _ _ _ _ (hlz.at he56) (hf.at he56) htz (.inr rfl) (by first | omega | (simp only [ByteArray.size_append, bsz, ba_cat, bdl, dl1, List.length_append, List.length_cons, List.length_nil, sz1, sz2]; omega) | (simp [ByteArray.size_append, bsz, sz1, sz2]; done))) rfl rfl (fun v64 h64 H64 hx64 hle64 => ?_)
             subst hx64
             refine sy_nil rfl ?_
             refine ny_blockN ?_
             refine ny_next ?_
             refine cy_region ?_
             refine sy_addi (z := ((i + 1 : Nat) : Int)) rfl rfl (by omega) (by omega) (by omega) rfl rfl ?_
             refine sy_move rfl rfl rfl ?_
             refine sy_nil rfl ?_
             refine ny_roundK [1, 51, 52] (i + 1, v64, h64) [0, 0] ⟨(show i + 1 ≤ kids.length by omega), hlez.trans hle64⟩ (show kids.length - (i + 1) < kids.length - i by omega) rfl ⟨rfl, trivial⟩ rfl (by rw [show xs ++ (⟨(nmL ts kids.length).toArray⟩ ++ ⟨#[40]⟩ : ByteArray).data.toList ++ (txts ((kids.take (i + 1)).map GT.tm)) = xs ++ (⟨(nmL ts kids.length).toArray⟩ ++ ⟨#[40]⟩ : ByteArray).data.toList ++ (txts ((kids.take i).map GT.tm)) ++ txt e56.tm from by rw [hsu]; (first | (rw [if_neg (by omega)]; simp; done) | (rw [if_pos (by omega)]; simp; done))]; rfl)
         · have hie : i = kids.length := by have := of_decide_eq_false hc54; omega
           subst hie
           refine cy_exit ?_
           refine ny_thenE ?_
           refine ny_thenE ?_
           refine ny_blockX ?_
           refine ny_next ?_
           have htk : kids.take kids.length = kids := List.take_length
           rw [htk] at hm0 ⊢
           refine cy_region ?_
           refine sy_move rfl rfl rfl ?_
           refine sy_callbR1 [0, 0] call_31 rfl rfl rfl (writeString_c b _ _ _ _ _ (.inr rfl) (by first | omega | (simp only [ByteArray.size_append, bsz, ba_cat, bdl, dl1, List.length_append, List.length_cons, List.length_nil, sz1, sz2]; omega) | (simp [ByteArray.size_append, bsz, sz1, sz2]; done))) rfl rfl (fun v67 h67 H67 hx67 hle67 => ?_)
           obtain ⟨rfl, rfl⟩ := hx67
           refine sy_nil rfl ?_
           refine ny_blockN ?_
           have hE : xs ++ (⟨(nmL ts kids.length).toArray⟩ ++ ⟨#[40]⟩ : ByteArray).data.toList ++ txts (kids.map GT.tm) ++ (⟨#[41]⟩ : ByteArray).data.toList = xs ++ txt (GT.mk tk tn ts tA tc kids).tm := by first | (rw [htx]; done) | (rw [htx]; simp; done)
           refine ny_fin (res0 rfl) (fun w hs => ⟨v67, _, _, rfl, ?_, hs⟩)
           rw [← hE]
           rfl
     · have hk3 : ¬ tk = 3 := by simpa using hg31
       refine sy_skip rfl rfl rfl ?_
       refine sy_skip rfl rfl rfl ?_
       refine sy_skip rfl rfl rfl ?_
       refine sy_skip rfl rfl rfl ?_
       refine sy_pickF rfl rfl rfl rfl ?_
       refine sy_assign rfl rfl rfl ?_
       refine sy_nil rfl ?_
       refine ny_next ?_
       refine cy_condF rfl ?_
       refine cy_seq ?_
       refine cy_region ?_
       refine sy_field fld_24_0 rfl rfl rfl ?_
       refine sy_ldh one_3 rfl (Hp.blk hbx 0 _ rfl) rfl rfl ?_
       refine sy_cmp rfl rfl rfl rfl rfl ?_
       refine sy_assign rfl rfl rfl ?_
       refine sy_setF (d := 41) rfl rfl hg31 ?_
       refine sy_nil rfl ?_
       refine ny_next ?_
       refine cy_condF rfl ?_
       refine cy_seq ?_
       refine cy_region ?_
       refine sy_field fld_24_0 rfl rfl rfl ?_
       refine sy_ldh one_3 rfl (Hp.blk hbx 0 _ rfl) rfl rfl ?_
       refine sy_cmp rfl rfl rfl rfl rfl ?_
       refine sy_move rfl rfl rfl ?_
       refine sy_cond (d := 72) _ rfl rfl (fun hg72 => ?_) (fun hg72 => ?_)
       · have hk4 : tk = 4 := by simpa using hg72
         refine sy_field fld_24_3 rfl rfl rfl ?_
         refine sy_ldh one_22 rfl (Hp.blk hbx 3 _ rfl) rfl rfl ?_
         refine sy_len rfl (len_slice Tryz.underlying22 _ _ _) rfl rfl ?_
         refine sy_cmp rfl rfl rfl rfl rfl ?_
         refine sy_pickT rfl rfl rfl rfl ?_
         refine sy_assign rfl rfl rfl ?_
         refine sy_nil rfl ?_
         refine ny_next ?_
         refine cy_cond rfl (fun hc68 => ?_) (fun hc68 => ?_)
         · have hk0 : kids.length = 1 := by have := eq_of_beq hc68; omega
           have htx : txt (GT.mk tk tn ts tA tc kids).tm = [64, 40] ++ txts (kids.map GT.tm) ++ [44] ++ Lib.itoa tn ++ [41] := by rw [GT.tm_mk]; exact txt_seal hk4 (by rw [List.length_map]; exact hk0)
           rw [htx] at hz
           simp only [List.length_append, List.length_cons, List.length_nil] at hz
           refine cy_seq ?_
           refine cy_region ?_
           refine sy_move rfl rfl rfl ?_
           refine sy_callbR1 [0, 0] call_31 rfl rfl rfl (writeString_c b _ _ _ _ _ hp (by first | omega | (simp only [ByteArray.size_append, bsz, ba_cat, bdl, dl1, List.length_append, List.length_cons, List.length_nil, sz1, sz2]; omega) | (simp [ByteArray.size_append, bsz, sz1, sz2]; done))) rfl rfl (fun v79 h79 H79 hx79 hle79 => ?_)
           obtain ⟨rfl, rfl⟩ := hx79
           refine sy_nil rfl ?_
           refine ny_next ?_
           refine cy_seq ?_
           refine cy_region ?_
           refine sy_field fld_24_3 rfl rfl rfl ?_
           refine sy_ldh one_22 rfl (Hp.blk hbx 3 _ rfl) rfl rfl ?_
           refine sy_idxR (i := 0) (fc := GT.cells) (es := kids) els_22 rfl rfl hr rfl (by omega) rfl rfl (fun e82 b82 o82 he82 hA82 hc82 => ?_)
           have hke : kids.map GT.tm = [e82.tm] := by
            match kids, hk0, he82 with
            | [x], _, he => have := Option.some.inj he; rw [this]; rfl
           rw [hke, txts_one] at htx hz
           refine sy_ldah (vs := GT.cells e82) agg_24 rfl rfl hc82 rfl rfl ?_
           refine sy_move rfl rfl rfl ?_
           refine sy_callR1 [0, 0] call_30 rfl rfl (ih e82 (List.mem_of_getElem? he82) _ _ _ _ (hl.at he82) (hf.at he82) ht (.inr rfl) (by first | omega | (simp only [ByteArray.size_append, bsz, ba_cat, bdl, dl1, List.length_append, List.length_cons, List.length_nil, sz1, sz2]; omega) | (simp [ByteArray.size_append, bsz, sz1, sz2]; done))) rfl rfl (fun v85 h85 H85 hx85 hle85 => ?_)
           subst hx85
           replace hbx := hle85 _ _ hbx
           replace ht := ht.le hle85
           refine sy_nil rfl ?_
           refine ny_next ?_
           refine cy_region ?_
           refine sy_move rfl rfl rfl ?_
           refine sy_field fld_24_1 rfl rfl rfl ?_
           refine sy_ldh one_2 rfl (Hp.blk hbx 1 _ rfl) rfl rfl ?_
           refine sy_call rfl call_46 rfl (fig_c tn _ hf.nums.2.1.1 hf.nums.2.1.2 ht) rfl rfl ?_
           refine sy_cat rfl rfl (by first | omega | (simp only [ByteArray.size_append, bsz, ba_cat, bdl, dl1, List.length_append, List.length_cons, List.length_nil, sz1, sz2]; omega) | (simp [ByteArray.size_append, bsz, sz1, sz2]; done)) rfl rfl ?_
           refine sy_cat rfl rfl (by first | omega | (simp only [ByteArray.size_append, bsz, ba_cat, bdl, dl1, List.length_append, List.length_cons, List.length_nil, sz1, sz2]; omega) | (simp [ByteArray.size_append, bsz, sz1, sz2]; done)) rfl rfl ?_
           refine sy_callbR1 [0, 0] call_31 rfl rfl rfl (writeString_c b _ _ _ _ _ (.inr rfl) (by first | omega | (simp only [ByteArray.size_append, bsz, ba_cat, bdl, dl1, List.length_append, List.length_cons, List.length_nil, sz1, sz2]; omega) | (simp [ByteArray.size_append, bsz, sz1, sz2]; done))) rfl rfl (fun v92 h92 H92 hx92 hle92 => ?_)
           obtain ⟨rfl, rfl⟩ := hx92
           refine sy_nil rfl ?_
           refine ny_blockN ?_
           have hE : xs ++ (⟨#[64, 40]⟩ : ByteArray).data.toList ++ txt e82.tm ++ ((⟨#[44]⟩ : ByteArray) ++ ⟨(Lib.itoa tn).toArray⟩ ++ ⟨#[41]⟩).data.toList = xs ++ txt (GT.mk tk tn ts tA tc kids).tm := by first | (rw [htx]; done) | (rw [htx]; simp; done)
           refine ny_fin (res0 rfl) (fun w hs => ⟨v92, _, _, rfl, ?_, hs⟩)
           rw [← hE]
           rfl
         · have hk0 : ¬ kids.length = 1 := by
            intro h9
            rw [h9] at hc68
            simp at hc68
           have htx : txt (GT.mk tk tn ts tA tc kids).tm = [63] := by rw [GT.tm_mk]; exact txt_else hk1 hk2 hk3 (fun h9 => hk0 (by have := h9.2; rwa [List.length_map] at this))
           rw [htx] at hz
           refine cy_region ?_
           refine sy_move rfl rfl rfl ?_
           refine sy_callbR1 [0, 0] call_31 rfl rfl rfl (writeString_c b _ _ _ _ _ hp (by first | omega | (simp only [ByteArray.size_append, bsz, ba_cat, bdl, dl1, List.length_append, List.length_cons, List.length_nil, sz1, sz2]; omega) | (simp [ByteArray.size_append, bsz, sz1, sz2]; done))) rfl rfl (fun v7 h7 H7 hx7 hle7 => ?_)
           obtain ⟨rfl, rfl⟩ := hx7
           refine sy_nil rfl ?_
           refine ny_blockN ?_
           have hE : xs ++ (⟨#[63]⟩ : ByteArray).data.toList = xs ++ txt (GT.mk tk tn ts tA tc kids).tm := by first | (rw [htx]; done) | (rw [htx]; simp; done)
           refine ny_fin (res0 rfl) (fun w hs => ⟨v7, _, _, rfl, ?_, hs⟩)
           rw [← hE]
           rfl
       · have hk4 : ¬ tk = 4 := by simpa using hg72
         have htx : txt (GT.mk tk tn ts tA tc kids).tm = [63] := by rw [GT.tm_mk]; exact txt_else hk1 hk2 hk3 (fun h9 => hk4 h9.1)
         rw [htx] at hz
         refine sy_skip rfl rfl rfl ?_
         refine sy_skip rfl rfl rfl ?_
         refine sy_skip rfl rfl rfl ?_
         refine sy_skip rfl rfl rfl ?_
         refine sy_pickF rfl rfl rfl rfl ?_
         refine sy_assign rfl rfl rfl ?_
         refine sy_nil rfl ?_
         refine ny_next ?_
         refine cy_condF rfl ?_
         refine cy_region ?_
         refine sy_move rfl rfl rfl ?_
         refine sy_callbR1 [0, 0] call_31 rfl rfl rfl (writeString_c b _ _ _ _ _ hp (by first | omega | (simp only [ByteArray.size_append, bsz, ba_cat, bdl, dl1, List.length_append, List.length_cons, List.length_nil, sz1, sz2]; omega) | (simp [ByteArray.size_append, bsz, sz1, sz2]; done))) rfl rfl (fun v7 h7 H7 hx7 hle7 => ?_)
         obtain ⟨rfl, rfl⟩ := hx7
         refine sy_nil rfl ?_
         refine ny_blockN ?_
         have hE : xs ++ (⟨#[63]⟩ : ByteArray).data.toList = xs ++ txt (GT.mk tk tn ts tA tc kids).tm := by first | (rw [htx]; done) | (rw [htx]; simp; done)
         refine ny_fin (res0 rfl) (fun w hs => ⟨v7, _, _, rfl, ?_, hs⟩)
         rw [← hE]
         rfl
end Go.Proofs.YtanhhihechakhaaGreatDoor
set_option linter.unusedVariables false
set_option linter.unusedSimpArgs false
namespace Go.Proofs.YtanhhihechakhaaGreatDoor.E
open Go.RowKit
section
variable {m : Md} {P : Program} {ops : Array Oper} {Q : Exit → Act → World → Prop} {n : Nat} {D : List Deferred} {w0 : World} {M : List Nat} {h0 : Hp}
variable {f : Tab} {h : Hp} {H : List Res} {rest : List Oper} {o : Oper}
theorem rescS {fn : Func} {t ty e l : Nat} {fr : Nat × Nat} {b : Nat} {cs vs : List Value} {H1 : List Res} (i : Nat) (hr : fn.results = #[.cell t ty]) (hty : aggB P ty l = true) (hv : f.get t = some (.pointer (some ⟨b, 0, none⟩)))
    (hp : pickR i H = some (.blk b (.cells cs.toArray e fr), H1)) (hc : sliceO 0 l cs = some vs) :
    ∀ a w, Holds n [] f a → St w0 M h0 h H w → (results fn a.tmps).run P w = .ok (.agg vs.toArray) w := fun a w ha hs => by
 have h1 := ha.get t _ hv
 have hb : w.heap[b]? = some (.cells cs.toArray e fr) := (hs.swap (pickR_perm hp)).ok _ (List.mem_cons_self)
 obtain ⟨h5, h6⟩ := agg_spec hty w
 obtain ⟨h7, h8⟩ := sliceO_spec hc
 subst h7
 have h3 := run_loadCells_list (P := P) w ⟨b, 0, none⟩ vs (fun j u hj => by
  rw [Addr.add_at]
  have := h8 j u hj
  simp only [Nat.zero_add] at this ⊢
  simp [World.cell?, hb, this])
 simp [results, hr, h1, asAddr, loadVar, h5, h6, h3]
end
end Go.Proofs.YtanhhihechakhaaGreatDoor.E
set_option linter.unusedVariables false
set_option linter.unusedSimpArgs false
namespace Go.Proofs.YtanhhihechakhaaGreatDoor
open Go.RowKit Go.Proofs.YtanhhihechakhaaGreatDoor.E Go.Proofs.YtanhhihechakhaaGreatDoor.ReplP Go.Proofs.YtanhhihechakhaaGreatDoor.TokP Go.Proofs.YtanhhihechakhaaGreatDoor.TermP Go.Proofs.YtanhhihechakhaaGreatDoor.WrP
set_option maxRecDepth 100000 in
theorem text_c (t : GT) (h : Hp) (hl : Lies h t) (hf : Fits t) (ht : Tab10 h) (hz : (txt t.tm).length ≤ 70368744177600) : C0 Tryz.prog 13 [.agg (GT.cells t).toArray] h (.string ⟨(txt t.tm).toArray⟩) := by
 show C0 Tryz.prog 13 [.agg #[.int .i64 t.k, .int .i64 t.n, .string t.s, .slice t.A t.kids.length t.c]] h _
 refine enter0 Tryz.func13 rfl rfl rfl (fun w => ?_)
 refine cy_seq ?_
 refine cy_region ?_
 refine sy_box rfl rfl rfl rfl (fun b1 hb1 hM1 => ?_) (by simp)
 refine sy_assign rfl rfl rfl ?_
 refine sy_nil rfl ?_
 refine ny_next ?_
 refine cy_seq ?_
 refine cy_region ?_
 refine sy_alloc zer_53 rfl rfl (fun b3 hb3 hM3 => ?_) (by simp)
 refine sy_nil rfl ?_
 refine ny_next ?_
 refine cy_seq ?_
 refine cy_nilRow 5 1 ?_
 refine cy_region ?_
 first | refine sy_ldar 0 agg_24 rfl rfl rfl rfl rfl ?_ | refine sy_ldar 1 agg_24 rfl rfl rfl rfl rfl ?_ | refine sy_ldar 2 agg_24 rfl rfl rfl rfl rfl ?_
 refine sy_bind (s := 0) rfl rfl rfl rfl ?_
 refine sy_callR1 [1, 0] call_30 rfl rfl (write_c b3 t _ _ _ [] hl hf ht (.inl rfl) (by rw [List.length_nil, Nat.zero_add]; exact hz)) rfl rfl (fun v6 h6 H6 hx6 hle6 => ?_)
 subst hx6
 refine sy_frz 0 rfl (by simp) (fun h7 hle7 hb7 => ?_)
 refine sy_nil rfl ?_
 refine ny_next ?_
 refine cy_seq ?_
 refine cy_region ?_
 have hne : txt t.tm ≠ [] := txt_ne t.tm
 refine sy_callR1 [0] call_32 rfl rfl (string_c b3 _ _ _ _ hb7 (by rw [List.nil_append]; exact hne)) rfl rfl (fun v8 h8 H8 hx8 hle8 => ?_)
 obtain ⟨rfl, rfl⟩ := hx8
 refine sy_assign rfl rfl rfl ?_
 refine sy_nil rfl ?_
 refine ny_next ?_
 refine cy_ret ?_
 refine ny_finR (res1 rfl rfl) (fun w hs => ⟨?_, hs.frm⟩)
 rw [List.nil_append]
set_option maxRecDepth 100000 in
theorem num_c (n : Int) (h : Hp) : C0 Tryz.prog 24 [.int .i64 n] h (.agg (GT.cells (GT.mk 2 n ⟨#[]⟩ none 0 [])).toArray) := by
 refine enter0 Tryz.func24 rfl rfl rfl (fun w => ?_)
 refine cy_seq ?_
 refine cy_region ?_
 refine sy_alloc zer_24 rfl rfl (fun b2 hb2 hM2 => ?_) (by simp)
 refine sy_nil rfl ?_
 refine ny_next ?_
 refine cy_seq ?_
 refine cy_region ?_
 refine sy_move rfl rfl rfl ?_
 refine sy_build rfl (fun w => bld_24_0x1 w) rfl rfl ?_
 first | refine sy_stl 0 sz_24 rfl rfl rfl rfl rfl rfl rfl rfl ?_
 refine sy_nil rfl ?_
 refine ny_next ?_
 refine cy_ret ?_
 refine ny_finR (rescS 0 rfl agg_24 rfl rfl rfl) (fun w hs => ⟨rfl, hs.frm⟩)
set_option maxRecDepth 100000 in
theorem let_c (n : Int) (h : Hp) : C0 Tryz.prog 25 [.int .i64 n] h (.agg (GT.cells (GT.mk 1 n ⟨#[]⟩ none 0 [])).toArray) := by
 refine enter0 Tryz.func25 rfl rfl rfl (fun w => ?_)
 refine cy_seq ?_
 refine cy_region ?_
 refine sy_alloc zer_24 rfl rfl (fun b2 hb2 hM2 => ?_) (by simp)
 refine sy_nil rfl ?_
 refine ny_next ?_
 refine cy_seq ?_
 refine cy_region ?_
 refine sy_move rfl rfl rfl ?_
 refine sy_build rfl (fun w => bld_24_0x1 w) rfl rfl ?_
 first | refine sy_stl 0 sz_24 rfl rfl rfl rfl rfl rfl rfl rfl ?_
 refine sy_nil rfl ?_
 refine ny_next ?_
 refine cy_ret ?_
 refine ny_finR (rescS 0 rfl agg_24 rfl rfl rfl) (fun w hs => ⟨rfl, hs.frm⟩)
set_option maxRecDepth 100000 in
theorem clone0_c (h : Hp) : C0 Tryz.prog 43 [.slice none 0 0] h (.slice none 0 0) := by
 refine enter0 Tryz.func43 rfl rfl rfl (fun w => ?_)
 refine cy_seq ?_
 refine cy_region ?_
 refine sy_assign rfl rfl rfl ?_
 refine sy_nil rfl ?_
 refine ny_next ?_
 refine cy_seq ?_
 refine cy_seq ?_
 refine cy_region ?_
 refine sy_move rfl rfl rfl ?_
 refine sy_eqsl (b := true) Tryz.underlying22 rfl rfl rfl rfl ?_
 refine sy_setT (d := 4) rfl rfl rfl ?_
 refine sy_nil rfl ?_
 refine ny_next ?_
 refine cy_condT rfl ?_
 refine cy_seq ?_
 refine cy_region ?_
 refine sy_assign rfl rfl rfl ?_
 refine sy_nil rfl ?_
 refine ny_next ?_
 refine cy_ret ?_
 refine ny_thenR ?_
 refine ny_finR (res1 rfl rfl) (fun w hs => ⟨?_, hs.frm⟩)
 rfl
set_option maxRecDepth 100000 in
theorem make0_c (s : ByteArray) (h : Hp) : C0 Tryz.prog 22 [.string s, .slice none 0 0] h (.agg (GT.cells (GT.mk 3 0 s none 0 [])).toArray) := by
 refine enter0 Tryz.func22 rfl rfl rfl (fun w => ?_)
 refine cy_seq ?_
 refine cy_region ?_
 refine sy_alloc zer_24 rfl rfl (fun b4 hb4 hM4 => ?_) (by simp)
 refine sy_nil rfl ?_
 refine ny_next ?_
 refine cy_seq ?_
 refine cy_region ?_
 refine sy_move rfl rfl rfl ?_
 refine sy_move rfl rfl rfl ?_
 refine sy_call rfl call_43 rfl (clone0_c _) rfl rfl ?_
 refine sy_build rfl (fun w => bld_24_0x2x3 w) rfl rfl ?_
 first | refine sy_stl 0 sz_24 rfl rfl rfl rfl rfl rfl rfl rfl ?_
 refine sy_nil rfl ?_
 refine ny_next ?_
 refine cy_ret ?_
 refine ny_finR (rescS 0 rfl agg_24 rfl rfl rfl) (fun w hs => ⟨rfl, hs.frm⟩)
set_option maxRecDepth 100000 in
theorem atom_c (s : ByteArray) (h : Hp) : C0 Tryz.prog 23 [.string s] h (.agg (GT.cells (GT.mk 3 0 s none 0 [])).toArray) := by
 refine enter0 Tryz.func23 rfl rfl rfl (fun w => ?_)
 refine cy_seq ?_
 refine cy_region ?_
 refine sy_alloc zer_24 rfl rfl (fun b2 hb2 hM2 => ?_) (by simp)
 refine sy_nil rfl ?_
 refine ny_next ?_
 refine cy_seq ?_
 refine cy_region ?_
 refine sy_move rfl rfl rfl ?_
 refine sy_call rfl call_22 rfl (make0_c s _) rfl rfl ?_
 first | refine sy_stl 0 sz_24 rfl rfl rfl rfl rfl rfl rfl rfl ?_
 refine sy_nil rfl ?_
 refine ny_next ?_
 refine cy_ret ?_
 refine ny_finR (rescS 0 rfl agg_24 rfl rfl rfl) (fun w hs => ⟨rfl, hs.frm⟩)
set_option maxRecDepth 100000 in
theorem clone_c (A : Option Addr) (c : Nat) (kids : List GT) (h : Hp) (hA : A.isNone = false) (hr : RowsAt h A 4 (kids.map GT.cells)) (hb : kids.length ≤ 1048576) : CX Tryz.prog 43 [.slice A kids.length c] h (fun x : Option Addr × Nat => .slice x.1 kids.length x.2) (fun x h' => RowsAt h' x.1 4 (kids.map GT.cells) ∧ kids.length ≤ x.2) := by
 refine enterX Tryz.func43 rfl rfl rfl (fun w => ?_)
 refine cy_seq ?_
 refine cy_region ?_
 refine sy_assign rfl rfl rfl ?_
 refine sy_nil rfl ?_
 refine ny_next ?_
 refine cy_seq ?_
 refine cy_seq ?_
 refine cy_region ?_
 refine sy_move rfl rfl rfl ?_
 refine sy_eqsl (b := false) Tryz.underlying22 rfl (by rw [hA]) rfl rfl ?_
 refine sy_setF (d := 4) rfl rfl rfl ?_
 refine sy_nil rfl ?_
 refine ny_next ?_
 refine cy_condF rfl ?_
 refine cy_skip ?_
 refine ny_next ?_
 refine cy_seq ?_
 refine cy_region ?_
 refine sy_buildSlice (cs := []) rfl (fun w => bsl_22_0_ w) rfl rfl (fun b5 hb5 hM5 => ?_) (by simp)
 refine sy_asRow (l := 0) (sz := 4) (cs := []) 0 rfl rfl (Nat.zero_le _) ?_
 refine sy_move rfl rfl rfl ?_
 refine sy_appendh (news := (kids.map GT.cells).flatten) 0 row_22 (by decide) rfl rfl rfl (fun h9 => by rw [h9] at hA; cases hA) (by rw [flat_len (GT.cells_len _), List.length_map]) (hr.cells (by decide) (GT.cells_len _)) (GT.cells_ones _) (by omega) (by simp only [maxLen]; omega) rfl rfl (fun v7 => ?_)
 refine sy_frzRow 0 rfl (fun _ _ => by simp) (fun A7 c7 h7 hv7 hlc7 hcm7 _ hle7 hcell7 => ?_)
 rw [Nat.zero_add] at hv7 hlc7
 subst hv7
 rw [List.nil_append] at hcell7
 have hr7 : RowsAt h7 A7 4 (kids.map GT.cells) := rows_row (by decide) (GT.cells_len _) hcell7
 refine sy_assign rfl rfl rfl ?_
 refine sy_nil rfl ?_
 refine ny_next ?_
 refine cy_ret ?_
 exact ny_finR (res1 rfl rfl) (fun w hs => ⟨(A7, c7), h7, rfl, ⟨hr7, hlc7⟩, hs.toGrow⟩)
set_option maxRecDepth 100000 in
theorem make_c (s : ByteArray) (A : Option Addr) (c : Nat) (kids : List GT) (h : Hp) (hA : A.isNone = false) (hr : RowsAt h A 4 (kids.map GT.cells)) (hb : kids.length ≤ 1048576) : CX Tryz.prog 22 [.string s, .slice A kids.length c] h (fun x : Option Addr × Nat => .agg (GT.cells (GT.mk 3 0 s x.1 x.2 kids)).toArray) (fun x h' => RowsAt h' x.1 4 (kids.map GT.cells) ∧ kids.length ≤ x.2) := by
 refine enterX Tryz.func22 rfl rfl rfl (fun w => ?_)
 refine cy_seq ?_
 refine cy_region ?_
 refine sy_alloc zer_24 rfl rfl (fun b4 hb4 hM4 => ?_) (by simp)
 refine sy_nil rfl ?_
 refine ny_next ?_
 refine cy_seq ?_
 refine cy_region ?_
 refine sy_move rfl rfl rfl ?_
 refine sy_move rfl rfl rfl ?_
 refine sy_callx call_43 rfl (clone_c A c kids _ hA hr hb) rfl rfl (fun x7 h7 hx7 hle7 => ?_)
 obtain ⟨A7, c7⟩ := x7
 refine sy_build rfl (fun w => bld_24_0x2x3 w) rfl rfl ?_
 first | refine sy_stl 0 sz_24 rfl rfl rfl rfl rfl rfl rfl rfl ?_
 refine sy_nil rfl ?_
 refine ny_next ?_
 refine cy_ret ?_
 refine ny_finR (rescS 0 rfl agg_24 rfl rfl rfl) (fun w hs => ⟨(A7, c7), h7, rfl, hx7, hs.toGrow⟩)
end Go.Proofs.YtanhhihechakhaaGreatDoor
set_option linter.unusedVariables false
set_option linter.unusedSimpArgs false
namespace Go.Proofs.YtanhhihechakhaaGreatDoor.WrP
open Go.RowKit Go.Proofs.YtanhhihechakhaaGreatDoor.E Go.Proofs.YtanhhihechakhaaGreatDoor.ReplP Go.Proofs.YtanhhihechakhaaGreatDoor.TokP Go.Proofs.YtanhhihechakhaaGreatDoor.TermP
def RB (ns : List ByteArray) (vs : List Tm) : List ByteArray := (rowsA ns vs).map fun r => ⟨r.toArray⟩
def strC (s : ByteArray) : List Value := [.string s]
theorem strC_len (l : List ByteArray) : ∀ c ∈ l.map strC, c.length = 1 := fun c hc => by
 obtain ⟨t, _, rfl⟩ := List.mem_map.1 hc
 rfl
theorem strC_snoc (l : List ByteArray) (s : ByteArray) : ((l ++ [s]).map strC).flatten = (l.map strC).flatten ++ [.string s] := by
 rw [List.map_append, List.flatten_append]
 simp [strC]
def lenA (ns : List ByteArray) : Nat := (ns.map fun s => s.size + 5).sum
def lenV (vs : List GT) : Nat := (vs.map fun t => (txt t.tm).length).sum
theorem sum_mem {α : Type} {f : α → Nat} : ∀ {l : List α} {i : Nat} {x : α}, l[i]? = some x → f x ≤ (l.map f).sum
 | [], i, x, h => by simp at h
 | y :: l, 0, x, h => by
  simp only [List.getElem?_cons_zero, Option.some.injEq] at h
  subst h
  rw [List.map_cons, List.sum_cons]
  omega
 | y :: l, i + 1, x, h => by
  rw [List.map_cons, List.sum_cons]
  have := sum_mem (f := f) (l := l) (i := i) (by simpa using h)
  omega
theorem lenA_at {ns : List ByteArray} {i : Nat} {n : ByteArray} (h : ns[i]? = some n) : n.size + 5 ≤ lenA ns := sum_mem (f := fun s : ByteArray => s.size + 5) h
theorem lenV_at {vs : List GT} {i : Nat} {t : GT} (h : vs[i]? = some t) : (txt t.tm).length ≤ lenV vs := sum_mem (f := fun t : GT => (txt t.tm).length) h
theorem joinL_len : ∀ r : List (List UInt8), (joinL r).length ≤ (r.map fun x => x.length + 2).sum
 | [] => Nat.zero_le _
 | x :: r => by
  unfold joinL
  rw [List.map_cons, List.sum_cons, List.length_append]
  have : (r.flatMap fun y => [44, 32] ++ y).length = (r.map fun x => x.length + 2).sum := by
   induction r with
   | nil => rfl
   | cons y r ih =>
    rw [List.flatMap_cons, List.length_append, ih, List.map_cons, List.sum_cons]
    simp only [List.length_append, List.length_cons, List.length_nil]
    omega
  omega
theorem rowsA_sum : ∀ (ns : List ByteArray) (vs : List GT), ((rowsA ns (vs.map GT.tm)).map fun x => x.length + 2).sum ≤ lenA ns + lenV vs
 | [], vs => by simp [rowsA]
 | n :: ns, [] => by simp [rowsA]
 | n :: ns, v :: vs => by
  have ih := rowsA_sum ns vs
  have e1 : lenA (n :: ns) = n.size + 5 + lenA ns := by unfold lenA; rw [List.map_cons, List.sum_cons]
  have e2 : lenV (v :: vs) = (txt v.tm).length + lenV vs := by unfold lenV; rw [List.map_cons, List.sum_cons]
  have e3 : n.data.toList.length = n.size := rfl
  rw [List.map_cons]
  simp only [rowsA]
  split
  · omega
  · rw [List.map_cons, List.sum_cons]
    simp only [List.length_append, List.length_cons, List.length_nil]
    omega
theorem joinA_len (ns : List ByteArray) (vs : List GT) : (joinL (rowsA ns (vs.map GT.tm))).length ≤ lenA ns + lenV vs := Nat.le_trans (joinL_len _) (rowsA_sum ns vs)
theorem join_eq (r : List (List UInt8)) : Lib.join r [44, 32] = joinL r := by
 cases r with
 | nil => rfl
 | cons x r =>
  rw [Lib.join_cons]
  show x ++ Lib.joinTail [44, 32] r = x ++ (r.flatMap fun y => [44, 32] ++ y)
  unfold Lib.joinTail
  rw [List.flatMap_def]
theorem RB_join (ns : List ByteArray) (vs : List Tm) : Lib.join ((RB ns vs).map (·.data.toList)) [44, 32] = joinL (rowsA ns vs) := by
 unfold RB
 rw [List.map_map, join_eq]
 congr 1
 induction rowsA ns vs with
 | nil => rfl
 | cons x r ih => rw [List.map_cons, ih]; rfl
theorem RB_succ {ns : List ByteArray} {vs : List GT} {i : Nat} {n : ByteArray} {v : GT} (h1 : ns[i]? = some n) (h2 : vs[i]? = some v) (hh : hidB n = false) : RB (ns.take (i + 1)) (vs.map GT.tm) = RB (ns.take i) (vs.map GT.tm) ++ [⟨(n.data.toList ++ [32, 61, 32] ++ txt v.tm).toArray⟩] := by
 unfold RB
 rw [rowsA_succ ns (vs.map GT.tm) i n v.tm h1 (by rw [List.getElem?_map, h2]; rfl), hh, List.map_append]
 rfl
theorem rowsA_hid {ns : List ByteArray} {vs : List GT} {i : Nat} {n : ByteArray} (h1 : ns[i]? = some n) (hh : hidB n = true ∨ vs.length ≤ i) : rowsA (ns.take (i + 1)) (vs.map GT.tm) = rowsA (ns.take i) (vs.map GT.tm) := by
 by_cases hl : vs.length ≤ i
 · rw [rowsA_more ns _ (i + 1) (by rw [List.length_map]; omega), rowsA_more ns _ i (by rw [List.length_map]; omega)]
 · have hv : vs[i]? = some (vs[i]'(by omega)) := List.getElem?_eq_getElem _
   rcases hh with hh | hh
   · rw [rowsA_succ ns (vs.map GT.tm) i n _ h1 (by rw [List.getElem?_map, hv]; rfl), hh, if_pos rfl, List.append_nil]
   · exact absurd hh hl
theorem RB_hid {ns : List ByteArray} {vs : List GT} {i : Nat} {n : ByteArray} (h1 : ns[i]? = some n) (hh : hidB n = true ∨ vs.length ≤ i) : RB (ns.take (i + 1)) (vs.map GT.tm) = RB (ns.take i) (vs.map GT.tm) := by unfold RB; rw [rowsA_hid h1 hh]
theorem rowsA_le : ∀ (ns : List ByteArray) (vs : List Tm), (rowsA ns vs).length ≤ ns.length
 | [], vs => by simp [rowsA]
 | n :: ns, [] => by simp [rowsA]
 | n :: ns, v :: vs => by
  have ih := rowsA_le ns vs
  simp only [rowsA]
  split
  · rw [List.length_cons]; omega
  · rw [List.length_cons, List.length_cons]; omega
theorem RB_le {ns : List ByteArray} {vs : List Tm} {i : Nat} : (RB (ns.take i) vs).length ≤ i := by
 unfold RB
 rw [List.length_map]
 have := rowsA_le (ns.take i) vs
 rw [List.length_take] at this
 omega
theorem hid_take (l : List UInt8) : (l.take 1 == [95]) = firstB (fun c => c == 95) l := by
 cases l with
 | nil => rfl
 | cons c t => simp [firstB]
theorem hid_nil {l : List UInt8} (h : ¬ 1 ≤ l.length) : firstB (fun c => c == 95) l = false := by
 cases l with
 | nil => rfl
 | cons c t => simp at h
theorem ansL_ne {ns : List ByteArray} {vs : List Tm} (h : ¬ (RB ns vs).length = 0) : ansL ns vs = joinL (rowsA ns vs) := by
 unfold ansL
 rw [if_neg]
 intro h9
 unfold RB at h
 rw [h9] at h
 exact h rfl
theorem ansL_no {ns : List ByteArray} {vs : List Tm} (h : (RB ns vs).length = 0) : ansL ns vs = [121, 101, 115] := by
 unfold ansL
 rw [if_pos]
 unfold RB at h
 rw [List.length_map] at h
 exact List.eq_nil_of_length_eq_zero h
end Go.Proofs.YtanhhihechakhaaGreatDoor.WrP
set_option linter.unusedVariables false
set_option linter.unusedSimpArgs false
namespace Go.Proofs.YtanhhihechakhaaGreatDoor
open Go.RowKit Go.Proofs.YtanhhihechakhaaGreatDoor.E Go.Proofs.YtanhhihechakhaaGreatDoor.ReplP Go.Proofs.YtanhhihechakhaaGreatDoor.TokP Go.Proofs.YtanhhihechakhaaGreatDoor.TermP Go.Proofs.YtanhhihechakhaaGreatDoor.WrP
set_option maxRecDepth 100000 in
theorem hq2_c (s : ByteArray) (h : Hp) (hs : s.size ≤ 140737488355328) : C0 Tryz.prog 60 [.string s, .string ⟨#[95]⟩] h (.bool (hidB s)) := by
 refine enter0 Tryz.func60 rfl rfl rfl (fun w => ?_)
 refine cy_seq ?_
 refine cy_region ?_
 refine sy_assign rfl rfl rfl ?_
 refine sy_nil rfl ?_
 refine ny_next ?_
 refine cy_seq ?_
 refine cy_region ?_
 refine sy_move rfl rfl rfl ?_
 refine sy_len rfl (len_string Tryz.underlying9 _) rfl rfl ?_
 refine sy_move rfl rfl rfl ?_
 refine sy_len rfl (len_string Tryz.underlying9 _) rfl rfl ?_
 refine sy_cmp rfl rfl rfl rfl rfl ?_
 refine sy_move rfl rfl rfl ?_
 refine sy_cond (d := 10) _ rfl rfl (fun hg10 => ?_) (fun hg10 => ?_)
 · refine sy_move rfl rfl rfl ?_
   refine sy_move rfl rfl rfl ?_
   refine sy_len rfl (len_string Tryz.underlying9 _) rfl rfl ?_
   refine sy_strto (hi := 1) Tryz.underlying9 rfl rfl (by have := of_decide_eq_true hg10; have h8 : (⟨#[95]⟩ : ByteArray).size = 1 := rfl; omega) rfl rfl ?_
   refine sy_move rfl rfl rfl ?_
   refine sy_eqs rfl rfl rfl rfl ?_
   refine sy_pickT rfl rfl rfl rfl ?_
   refine sy_assign rfl rfl rfl ?_
   refine sy_nil rfl ?_
   refine ny_next ?_
   refine cy_ret ?_
   refine ny_finR (res1 rfl rfl) (fun w hs2 => ⟨?_, hs2.frm⟩)
   refine congrArg (fun b => Ending.returned (Value.bool b)) ?_
   first | (rw [ext_to]; exact hid_take _) | exact (hid_nil (by have h9 := of_decide_eq_false hg10; have h8 : (⟨#[95]⟩ : ByteArray).size = 1 := rfl; have h7 : s.data.toList.length = s.size := rfl; omega)).symm
 · refine sy_skip rfl rfl rfl ?_
   refine sy_skip rfl rfl rfl ?_
   refine sy_skip rfl rfl rfl ?_
   refine sy_skip rfl rfl rfl ?_
   refine sy_skip rfl rfl rfl ?_
   refine sy_skip rfl rfl rfl ?_
   refine sy_pickF rfl rfl rfl rfl ?_
   refine sy_assign rfl rfl rfl ?_
   refine sy_nil rfl ?_
   refine ny_next ?_
   refine cy_ret ?_
   refine ny_finR (res1 rfl rfl) (fun w hs2 => ⟨?_, hs2.frm⟩)
   refine congrArg (fun b => Ending.returned (Value.bool b)) ?_
   first | (rw [ext_to]; exact hid_take _) | exact (hid_nil (by have h9 := of_decide_eq_false hg10; have h8 : (⟨#[95]⟩ : ByteArray).size = 1 := rfl; have h7 : s.data.toList.length = s.size := rfl; omega)).symm
set_option maxRecDepth 100000 in
theorem hq_c (s : ByteArray) (h : Hp) (hs : s.size ≤ 140737488355328) : C0 Tryz.prog 41 [.string s, .string ⟨#[95]⟩] h (.bool (hidB s)) := by
 refine enter0 Tryz.func41 rfl rfl rfl (fun w => ?_)
 refine cy_seq ?_
 refine cy_region ?_
 refine sy_assign rfl rfl rfl ?_
 refine sy_nil rfl ?_
 refine ny_next ?_
 refine cy_seq ?_
 refine cy_region ?_
 refine sy_move rfl rfl rfl ?_
 refine sy_move rfl rfl rfl ?_
 refine sy_call rfl call_60 rfl (hq2_c s _ hs) rfl rfl ?_
 refine sy_assign rfl rfl rfl ?_
 refine sy_nil rfl ?_
 refine ny_next ?_
 refine cy_ret ?_
 refine ny_finR (res1 rfl rfl) (fun w hs => ⟨?_, hs.frm⟩)
 rfl
set_option maxRecDepth 100000 in
theorem answer_c (ns : List ByteArray) (A : Option Addr) (cA : Nat) (vs : List GT) (B : Option Addr) (cB : Nat) (h : Hp) (hN : RowsAt h A 1 (ns.map strC)) (hV : RowsAt h B 4 (vs.map GT.cells)) (hL : ∀ t ∈ vs, Lies h t ∧ Fits t) (ht : Tab10 h) (hn : ns.length ≤ 1048576) (hv : vs.length ≤ 1048576) (hz : lenA ns + lenV vs ≤ 1099511627776) : C0 Tryz.prog 20 [.slice A ns.length cA, .slice B vs.length cB] h (.string ⟨(ansL ns (vs.map GT.tm)).toArray⟩) := by
 have sz1 : ∀ a : UInt8, (⟨#[a]⟩ : ByteArray).size = 1 := fun _ => rfl
 have sz2 : ∀ a c : UInt8, (⟨#[a, c]⟩ : ByteArray).size = 2 := fun _ _ => rfl
 have sz3 : ∀ a c e : UInt8, (⟨#[a, c, e]⟩ : ByteArray).size = 3 := fun _ _ _ => rfl
 refine enter0 Tryz.func20 rfl rfl rfl (fun w => ?_)
 refine cy_seq ?_
 refine cy_region ?_
 refine sy_assign rfl rfl rfl ?_
 refine sy_nil rfl ?_
 refine ny_next ?_
 refine cy_seq ?_
 refine cy_region ?_
 refine sy_assign rfl rfl rfl ?_
 refine sy_nil rfl ?_
 refine ny_next ?_
 refine cy_seq ?_
 refine cy_seq ?_
 refine cy_region ?_
 refine sy_move rfl rfl rfl ?_
 refine sy_len rfl (len_slice Tryz.underlying37 _ _ _) rfl rfl ?_
 refine sy_move rfl rfl rfl ?_
 refine sy_nil rfl ?_
 refine ny_next ?_
 refine cy_block ?_
 refine cy_nilRow 9 1 ?_
 refine cy_loopK (ι := Nat × Value) [1, 8, 9] rfl (fun z => z.1 ≤ ns.length) (fun z => ns.length - z.1) (fun z => [(5, z.2), (10, .int .i64 (z.1 : Int))]) (fun z => h) (fun z => [Res.row z.2 9 1 (RB (ns.take z.1) (vs.map GT.tm)).length (((RB (ns.take z.1) (vs.map GT.tm)).map strC).flatten)]) (0, .slice none 0 0) [0] (Nat.zero_le _) ⟨rfl, rfl, trivial⟩ rfl rfl ?_
 rintro ⟨i, v5⟩ hI
 simp only at hI ⊢
 refine cy_seq ?_
 refine cy_region ?_
 refine sy_cmp rfl rfl rfl rfl rfl ?_
 refine sy_nil rfl ?_
 refine ny_next ?_
 refine cy_seq ?_
 refine cy_cond rfl (fun hc11 => ?_) (fun hc11 => ?_)
 · have hlti : i < ns.length := by have := of_decide_eq_true hc11; omega
   refine cy_skip ?_
   refine ny_next ?_
   refine cy_seq ?_
   refine cy_block ?_
   refine cy_seq ?_
   refine cy_region ?_
   refine sy_move rfl rfl rfl ?_
   refine sy_idxR (fc := strC) (es := ns) els_37 rfl rfl hN rfl (by omega) rfl rfl (fun e13 b13 o13 he13 hA13 hc13 => ?_)
   have hsa := lenA_at he13
   refine sy_ldh one_9 rfl (hc13 0 _ rfl) rfl rfl ?_
   refine sy_assign rfl rfl rfl ?_
   refine sy_assign rfl rfl rfl ?_
   refine sy_nil rfl ?_
   refine ny_next ?_
   refine cy_seq ?_
   refine cy_region ?_
   refine sy_move rfl rfl rfl ?_
   refine sy_move rfl rfl rfl ?_
   refine sy_len rfl (len_slice Tryz.underlying22 _ _ _) rfl rfl ?_
   refine sy_cmp rfl rfl rfl rfl rfl ?_
   refine sy_move rfl rfl rfl ?_
   refine sy_cond (d := 19) _ rfl rfl (fun hg19 => ?_) (fun hg19 => ?_)
   · have hnl : i < vs.length := by have := of_decide_eq_true hg19; omega
     refine sy_move rfl rfl rfl ?_
     refine sy_call rfl call_41 rfl (hq_c e13 _ (by omega)) rfl rfl ?_
     refine sy_not rfl rfl rfl ?_
     refine sy_pickT rfl rfl rfl rfl ?_
     refine sy_nil rfl ?_
     refine ny_next ?_
     refine cy_cond rfl (fun hc23 => ?_) (fun hc23 => ?_)
     · have hnh : hidB e13 = false := by simpa using hc23
       refine cy_region ?_
       refine sy_move rfl rfl rfl ?_
       refine sy_move rfl rfl rfl ?_
       refine sy_cat rfl rfl (by first | omega | (simp only [ByteArray.size_append, bsz, List.length_append, List.length_cons, List.length_nil, sz1, sz2, sz3]; omega) | (simp [ByteArray.size_append, bsz, sz1, sz2, sz3]; done)) rfl rfl ?_
       refine sy_move rfl rfl rfl ?_
       refine sy_move rfl rfl rfl ?_
       refine sy_idxR (fc := GT.cells) (es := vs) els_22 rfl rfl hV rfl (by omega) rfl rfl (fun e29 b29 o29 he29 hA29 hc29 => ?_)
       have hsv := lenV_at he29
       have hlf := hL e29 (List.mem_of_getElem? he29)
       refine sy_ldah (vs := GT.cells e29) agg_24 rfl rfl hc29 rfl rfl ?_
       refine sy_call rfl call_13 rfl (text_c e29 _ hlf.1 hlf.2 ht (by omega)) rfl rfl ?_
       refine sy_cat rfl rfl (by first | omega | (simp only [ByteArray.size_append, bsz, List.length_append, List.length_cons, List.length_nil, sz1, sz2, sz3]; omega) | (simp [ByteArray.size_append, bsz, sz1, sz2, sz3]; done)) rfl rfl ?_
       have hBA : e13 ++ ⟨#[32, 61, 32]⟩ ++ ⟨(txt e29.tm).toArray⟩ = (⟨(e13.data.toList ++ [32, 61, 32] ++ txt e29.tm).toArray⟩ : ByteArray) := by
        apply ByteArray.ext
        simp
       refine sy_buildSlice rfl (fun w => bsl_37_1_0 w) rfl rfl (fun b33 hb33 hM33 => ?_) (by simp)
       refine sy_append 1 0 row_37 (by decide) rfl rfl rfl rfl rfl rfl (by have h9 : (RB (ns.take i) (vs.map GT.tm)).length ≤ i := RB_le; omega) (by have h9 : (RB (ns.take i) (vs.map GT.tm)).length ≤ i := RB_le; simp only [maxLen]; omega) rfl rfl (fun v34 => ?_)
       refine sy_assign rfl rfl rfl ?_
       refine sy_nil rfl ?_
       refine ny_blockN ?_
       refine ny_next ?_
       refine cy_region ?_
       refine sy_addi (z := ((i + 1 : Nat) : Int)) rfl rfl (by omega) (by omega) (by omega) rfl rfl ?_
       refine sy_move rfl rfl rfl ?_
       refine sy_nil rfl ?_
       refine ny_roundK [1, 8, 9] (i + 1, v34) [0] (show i + 1 ≤ ns.length by omega) (show ns.length - (i + 1) < ns.length - i by omega) rfl ⟨rfl, rfl, trivial⟩ rfl (by show _ = some [Res.row v34 9 1 (RB (ns.take (i + 1)) (vs.map GT.tm)).length (((RB (ns.take (i + 1)) (vs.map GT.tm)).map strC).flatten)]; rw [RB_succ he13 he29 hnh, strC_snoc, List.length_append, ← hBA]; rfl)
     · have hnh : hidB e13 = true := by simpa using hc23
       refine cy_skip ?_
       refine ny_blockN ?_
       refine ny_next ?_
       refine cy_region ?_
       refine sy_addi (z := ((i + 1 : Nat) : Int)) rfl rfl (by omega) (by omega) (by omega) rfl rfl ?_
       refine sy_move rfl rfl rfl ?_
       refine sy_nil rfl ?_
       refine ny_roundK [1, 8, 9] (i + 1, v5) [0] (show i + 1 ≤ ns.length by omega) (show ns.length - (i + 1) < ns.length - i by omega) rfl ⟨rfl, rfl, trivial⟩ rfl (by show _ = some [Res.row v5 9 1 (RB (ns.take (i + 1)) (vs.map GT.tm)).length (((RB (ns.take (i + 1)) (vs.map GT.tm)).map strC).flatten)]; rw [RB_hid he13 (.inl hnh)]; rfl)
   · have hnl : vs.length ≤ i := by have := of_decide_eq_false hg19; omega
     refine sy_skip rfl rfl rfl ?_
     refine sy_skip rfl rfl rfl ?_
     refine sy_skip rfl rfl rfl ?_
     refine sy_pickF rfl rfl rfl rfl ?_
     refine sy_nil rfl ?_
     refine ny_next ?_
     refine cy_condF rfl ?_
     refine cy_skip ?_
     refine ny_blockN ?_
     refine ny_next ?_
     refine cy_region ?_
     refine sy_addi (z := ((i + 1 : Nat) : Int)) rfl rfl (by omega) (by omega) (by omega) rfl rfl ?_
     refine sy_move rfl rfl rfl ?_
     refine sy_nil rfl ?_
     refine ny_roundK [1, 8, 9] (i + 1, v5) [0] (show i + 1 ≤ ns.length by omega) (show ns.length - (i + 1) < ns.length - i by omega) rfl ⟨rfl, rfl, trivial⟩ rfl (by show _ = some [Res.row v5 9 1 (RB (ns.take (i + 1)) (vs.map GT.tm)).length (((RB (ns.take (i + 1)) (vs.map GT.tm)).map strC).flatten)]; rw [RB_hid he13 (.inr hnl)]; rfl)
 · have hie : i = ns.length := by have := of_decide_eq_false hc11; omega
   subst hie
   rw [List.take_length]
   refine cy_exit ?_
   refine ny_thenE ?_
   refine ny_thenE ?_
   refine ny_blockX ?_
   refine ny_next ?_
   refine cy_seq ?_
   refine cy_seq ?_
   refine cy_frzRow 0 rfl (fun _ _ => by simp) (fun A5 c5 h5 hv5 hlc5 hcm5 _ hle5 hcell5 => ?_)
   subst hv5
   have hr5 : RowsAt h5 A5 1 ((RB ns (vs.map GT.tm)).map strC) := rows_row (by decide) (strC_len _) hcell5
   replace ht := ht.le hle5
   have hrl : (RB ns (vs.map GT.tm)).length ≤ ns.length := by have h9 := RB_le (ns := ns) (vs := vs.map GT.tm) (i := ns.length); rwa [List.take_length] at h9
   have hjl := joinA_len ns vs
   refine cy_region ?_
   refine sy_move rfl rfl rfl ?_
   refine sy_len rfl (len_slice Tryz.underlying37 _ _ _) rfl rfl ?_
   refine sy_cmp rfl rfl rfl rfl rfl ?_
   refine sy_nil rfl ?_
   refine ny_next ?_
   refine cy_cond rfl (fun hc38 => ?_) (fun hc38 => ?_)
   · have hk0 : (RB ns (vs.map GT.tm)).length = 0 := by have := eq_of_beq hc38; omega
     refine cy_seq ?_
     refine cy_region ?_
     refine sy_assign rfl rfl rfl ?_
     refine sy_nil rfl ?_
     refine ny_next ?_
     refine cy_ret ?_
     refine ny_thenR ?_
     refine ny_finR (res1 rfl rfl) (fun w hs => ⟨?_, hs.frm⟩)
     refine congrArg (fun l : List UInt8 => Ending.returned (Value.string ⟨l.toArray⟩)) ?_
     exact (ansL_no hk0).symm
   · have hk0 : ¬ (RB ns (vs.map GT.tm)).length = 0 := by
      intro h9
      rw [h9] at hc38
      simp at hc38
     refine cy_skip ?_
     refine ny_next ?_
     refine cy_seq ?_
     refine cy_region ?_
     refine sy_move rfl rfl rfl ?_
     refine sy_call rfl call_42 rfl (join_c A5 c5 (RB ns (vs.map GT.tm)) ⟨#[44, 32]⟩ _ hr5 hlc5 (by omega) (by show (Lib.join ((RB ns (vs.map GT.tm)).map (·.data.toList)) [44, 32]).length ≤ _; rw [RB_join]; omega)) rfl rfl ?_
     refine sy_assign rfl rfl rfl ?_
     refine sy_nil rfl ?_
     refine ny_next ?_
     refine cy_ret ?_
     refine ny_finR (res1 rfl rfl) (fun w hs => ⟨?_, hs.frm⟩)
     refine congrArg (fun l : List UInt8 => Ending.returned (Value.string ⟨l.toArray⟩)) ?_
     first | (rw [ansL_ne hk0, ← RB_join]; done) | (rw [ansL_ne hk0, ← RB_join]; rfl)
end Go.Proofs.YtanhhihechakhaaGreatDoor
set_option linter.unusedVariables false
set_option linter.unusedSimpArgs false
namespace Go.Proofs.YtanhhihechakhaaGreatDoor
open Go.RowKit Go.Proofs.YtanhhihechakhaaGreatDoor.E Go.Proofs.YtanhhihechakhaaGreatDoor.ReplP Go.Proofs.YtanhhihechakhaaGreatDoor.TokP Go.Proofs.YtanhhihechakhaaGreatDoor.TermP Go.Proofs.YtanhhihechakhaaGreatDoor.WrP
theorem lies_leaf (h : Hp) (k n : Int) (s : ByteArray) : Lies h (GT.mk k n s none 0 []) := .intro _ _ _ _ _ _ (Nat.le_refl _) (fun j c hj => by simp at hj) (fun t ht => (List.not_mem_nil ht).elim)
theorem fits_leaf {k n : Int} {s : ByteArray} (hk0 : -9223372036854775808 ≤ k) (hk1 : k ≤ 9223372036854775807) (hn0 : -9223372036854775808 ≤ n) (hn1 : n ≤ 9223372036854775807) (hs : s.size ≤ 140737488355328) : Fits (GT.mk k n s none 0 []) := .intro _ _ _ _ _ _ hk0 hk1 hn0 hn1 hs (by simp) (fun t ht => (List.not_mem_nil ht).elim)
theorem fits_kids {k n : Int} {s : ByteArray} {A : Option Addr} {c : Nat} {kids : List GT} (hk0 : -9223372036854775808 ≤ k) (hk1 : k ≤ 9223372036854775807) (hn0 : -9223372036854775808 ≤ n) (hn1 : n ≤ 9223372036854775807) (hs : s.size ≤ 140737488355328) (hl : kids.length ≤ 1048576) (hk : ∀ t ∈ kids, Fits t) : Fits (GT.mk k n s A c kids) := .intro _ _ _ _ _ _ hk0 hk1 hn0 hn1 hs (by omega) hk
set_option maxRecDepth 100000 in
theorem shown08_c (h : Hp) (ht : Tab10 h) : C0 Tryz.prog 9 [] h (.bool true) := by
 refine enter0 Tryz.func9 rfl rfl rfl (fun w => ?_)
 refine cy_seq ?_
 refine cy_region ?_
 refine sy_assign rfl rfl rfl ?_
 refine sy_nil rfl ?_
 refine ny_next ?_
 refine cy_seq ?_
 refine cy_region ?_
 refine sy_call rfl call_25 rfl (let_c 1 _) rfl rfl ?_
 refine sy_call rfl call_23 rfl (atom_c ⟨#[65]⟩ _) rfl rfl ?_
 refine sy_buildSlice (cs := [(GT.mk 1 1 ⟨#[]⟩ none 0 []), (GT.mk 3 0 ⟨#[65]⟩ none 0 [])].flatMap GT.cells) rfl (fun w => bsl_22_2_0x1 w) rfl rfl (fun b3 hb3 hM3 => ?_) (by simp)
 refine sy_frz 0 rfl (by simp) (fun h3 hle3 hbx3 => ?_)
 have hr3 : RowsAt h3 (some ⟨b3, 0, none⟩) 4 ([(GT.mk 1 1 ⟨#[]⟩ none 0 []), (GT.mk 3 0 ⟨#[65]⟩ none 0 [])].map GT.cells) := rows_blk (by decide) (GT.cells_len _) hbx3
 replace ht := ht.le hle3
 refine sy_callx call_22 rfl (make_c ⟨#[102]⟩ (some ⟨b3, 0, none⟩) 2 [(GT.mk 1 1 ⟨#[]⟩ none 0 []), (GT.mk 3 0 ⟨#[65]⟩ none 0 [])] _ rfl hr3 (by decide)) rfl rfl (fun x4 h4 hx4 hle4 => ?_)
 obtain ⟨A4, c4⟩ := x4
 obtain ⟨hr4, hc4⟩ := hx4
 replace ht := ht.le hle4
 have hl4 : ∀ t ∈ [(GT.mk 1 1 ⟨#[]⟩ none 0 []), (GT.mk 3 0 ⟨#[65]⟩ none 0 [])], Lies h4 t ∧ Fits t := (fun t ht => by simp only [List.mem_cons, List.not_mem_nil, or_false] at ht; rcases ht with rfl | rfl <;> exact ⟨lies_leaf _ _ _ _, fits_leaf (by decide) (by decide) (by decide) (by decide) (by decide)⟩)
 have hT : txt (GT.mk 3 0 ⟨#[102]⟩ A4 c4 [(GT.mk 1 1 ⟨#[]⟩ none 0 []), (GT.mk 3 0 ⟨#[65]⟩ none 0 [])]).tm = [102, 40, 95, 49, 44, 39, 65, 39, 41] := by kernel_rfl
 refine sy_call rfl call_13 rfl (text_c (GT.mk 3 0 ⟨#[102]⟩ A4 c4 [(GT.mk 1 1 ⟨#[]⟩ none 0 []), (GT.mk 3 0 ⟨#[65]⟩ none 0 [])]) _ (.intro _ _ _ _ _ _ hc4 hr4 (fun t h9 => (hl4 t h9).1)) (fits_kids (by decide) (by decide) (by decide) (by decide) (by decide) (by decide) (fun t h9 => (hl4 t h9).2)) ht (by rw [hT]; decide)) rfl rfl ?_
 rw [hT]
 refine sy_eqs rfl rfl rfl rfl ?_
 refine sy_move rfl rfl rfl ?_
 refine sy_setT (d := 7) rfl rfl (by first | rfl | decide | kernel_rfl | (simp; done) | (simp_all; done)) ?_
 refine sy_buildSlice (cs := [.string ⟨#[88]⟩, .string ⟨#[95, 121]⟩]) rfl (fun w => bsl_37_2_0x1 w) rfl rfl (fun b8 hb8 hM8 => ?_) (by simp)
 refine sy_frz 0 rfl (by simp) (fun h8 hle8 hbx8 => ?_)
 have hr8 : RowsAt h8 (some ⟨b8, 0, none⟩) 1 ([(⟨#[88]⟩ : ByteArray), ⟨#[95, 121]⟩].map strC) := rows_blk (by decide) (strC_len _) hbx8
 replace ht := ht.le hle8
 refine sy_call rfl call_24 rfl (num_c (-3) _) rfl rfl ?_
 refine sy_call rfl call_24 rfl (num_c 4 _) rfl rfl ?_
 refine sy_buildSlice (cs := [(GT.mk 2 (-3) ⟨#[]⟩ none 0 []), (GT.mk 2 4 ⟨#[]⟩ none 0 [])].flatMap GT.cells) rfl (fun w => bsl_22_2_0x1 w) rfl rfl (fun b11 hb11 hM11 => ?_) (by simp)
 refine sy_frz 0 rfl (by simp) (fun h11 hle11 hbx11 => ?_)
 have hr11 : RowsAt h11 (some ⟨b11, 0, none⟩) 4 ([(GT.mk 2 (-3) ⟨#[]⟩ none 0 []), (GT.mk 2 4 ⟨#[]⟩ none 0 [])].map GT.cells) := rows_blk (by decide) (GT.cells_len _) hbx11
 replace ht := ht.le hle11
 replace hr8 := hr8.le hle11
 have hl11 : ∀ t ∈ [(GT.mk 2 (-3) ⟨#[]⟩ none 0 []), (GT.mk 2 4 ⟨#[]⟩ none 0 [])], Lies h11 t ∧ Fits t := (fun t ht => by simp only [List.mem_cons, List.not_mem_nil, or_false] at ht; rcases ht with rfl | rfl <;> exact ⟨lies_leaf _ _ _ _, fits_leaf (by decide) (by decide) (by decide) (by decide) (by decide)⟩)
 have hA : ansL [(⟨#[88]⟩ : ByteArray), ⟨#[95, 121]⟩] ([(GT.mk 2 (-3) ⟨#[]⟩ none 0 []), (GT.mk 2 4 ⟨#[]⟩ none 0 [])].map GT.tm) = [88, 32, 61, 32, 45, 51] := by kernel_rfl
 refine sy_call rfl call_20 rfl (answer_c [(⟨#[88]⟩ : ByteArray), ⟨#[95, 121]⟩] _ 2 [(GT.mk 2 (-3) ⟨#[]⟩ none 0 []), (GT.mk 2 4 ⟨#[]⟩ none 0 [])] _ 2 _ hr8 hr11 hl11 ht (by decide) (by decide) (Nat.le_of_ble_eq_true (by kernel_rfl))) rfl rfl ?_
 rw [hA]
 refine sy_eqs rfl rfl rfl rfl ?_
 refine sy_pickT rfl rfl rfl rfl ?_
 refine sy_move rfl rfl rfl ?_
 refine sy_setT (d := 15) rfl rfl (by first | rfl | decide | kernel_rfl | (simp; done) | (simp_all; done)) ?_
 refine sy_call rfl call_20 rfl (answer_c [] none 0 [] none 0 _ (fun j c hj => by simp at hj) (fun j c hj => by simp at hj) (fun t h9 => (List.not_mem_nil h9).elim) ht (by decide) (by decide) (by decide)) rfl rfl ?_
 rw [show ansL [] ([].map GT.tm) = [121, 101, 115] by kernel_rfl]
 refine sy_eqs rfl rfl rfl rfl ?_
 refine sy_pickT rfl rfl rfl rfl ?_
 refine sy_assign rfl rfl rfl ?_
 refine sy_nil rfl ?_
 refine ny_next ?_
 refine cy_ret ?_
 refine ny_finR (res1 rfl rfl) (fun w hs => ⟨?_, hs.frm⟩)
 first | rfl | kernel_rfl | (simp; done)
end Go.Proofs.YtanhhihechakhaaGreatDoor
set_option linter.unusedVariables false
set_option linter.unusedSimpArgs false
namespace Go.Proofs.YtanhhihechakhaaGreatDoor
open Go.RowKit Go.Proofs.YtanhhihechakhaaGreatDoor.E Go.Proofs.YtanhhihechakhaaGreatDoor.ReplP Go.Proofs.YtanhhihechakhaaGreatDoor.TokP Go.Proofs.YtanhhihechakhaaGreatDoor.TermP Go.Proofs.YtanhhihechakhaaGreatDoor.WrP
theorem txt_atom (s : ByteArray) (A : Option Addr) (c : Nat) : txt (GT.mk 3 0 s A c []).tm = qL s := by rw [GT.tm_mk, List.map_nil, txt_fun rfl, List.length_nil, if_pos rfl]
theorem txt_num (n : Int) (s : ByteArray) (A : Option Addr) (c : Nat) : txt (GT.mk 2 n s A c []).tm = Lib.itoa n := by rw [GT.tm_mk]; exact txt_int (t := .mk _ _ _ _) rfl
theorem txt_let (n : Int) (s : ByteArray) (A : Option Addr) (c : Nat) : txt (GT.mk 1 n s A c []).tm = 95 :: Lib.itoa n := by rw [GT.tm_mk]; exact txt_var (t := .mk _ _ _ _) rfl
theorem q_same (a b : ByteArray) : ((qL a == qL b) == (a.data.toList == b.data.toList)) = true := by
 by_cases h : a = b
 · rw [h, beq_self_eq_true, beq_self_eq_true]; rfl
 · rw [beq_false_of_ne (fun h9 => h (ba_inj h9)), beq_false_of_ne (fun h9 => h (q_inj h9))]; rfl
theorem q_nint (a : ByteArray) (n : Int) : (!(qL a == Lib.itoa n)) = true := by rw [beq_false_of_ne (q_int a n)]; rfl
theorem int_nlet (n m : Int) : (!(Lib.itoa n == 95 :: Lib.itoa m)) = true := by rw [beq_false_of_ne (int_let n m)]; rfl
theorem u8_no {b : UInt8} {k : Nat} (hk : k < 256) (h : ¬ b = UInt8.ofNat k) : ((b.toNat : Int) == (k : Int)) = false := by
 rw [beq_eq_false_iff_ne]
 intro h9
 exact h (UInt8.toNat_inj.1 (by rw [UInt8.toNat_ofNat']; have : b.toNat < 256 := b.toNat_lt; omega))
theorem q_end {s : ByteArray} {e : UInt8} (h : (qL s)[0]? = some 39) (he : (qL s)[0]? = some e) : ((e.toNat : Int) != 39) = false := by
 rw [h] at he
 rw [← Option.some.inj he]
 rfl
end Go.Proofs.YtanhhihechakhaaGreatDoor
set_option linter.unusedVariables false
namespace Go.Proofs.YtanhhihechakhaaGreatDoor
open Go.ChangeShapes Go.WideShapes Go.ChangeAt Go.RowKit Go.Proofs.YtanhhihechakhaaGreatDoor.E
theorem own : ownKnob Tryz.prog.godebug = none := by kernel_rfl
theorem tab_of {W : World} (h : laidMetH Tryz.prog [("math/bits.deBruijn32tab", Rows.laid_math_bits_deBruijn32tab), ("math/bits.deBruijn64tab", Rows.laid_math_bits_deBruijn64tab), ("internal/strconv.uint64pow10", Rows.laid_internal_strconv_uint64pow10)] W) : Tab10 (hpOf W) := by
 refine tab10_hp ?_
 have h2 := ((laidMetH_iff.1 h).1).filter (fun x => x.1 == "internal/strconv.uint64pow10")
 have e : (([("math/bits.deBruijn32tab", Rows.laid_math_bits_deBruijn32tab), ("math/bits.deBruijn64tab", Rows.laid_math_bits_deBruijn64tab), ("internal/strconv.uint64pow10", Rows.laid_internal_strconv_uint64pow10)] : List (String × DataW Unit)).filter fun x => x.2.handleName?.isNone).filter (fun x => x.1 == "internal/strconv.uint64pow10") = [("internal/strconv.uint64pow10", Lib.tabData .u64 Lib.pow10Tab)] := by kernel_rfl
 rw [e] at h2
 exact Lib.tabIs_of_head (g := 2) (t := 177) (e := 121) (n := 20) (by kernel_rfl) (by kernel_rfl) Tryz.underlying177 Tryz.underlying121 (by kernel_rfl) (by kernel_rfl) h2
theorem door_met (os : Os) (args : Array Value) : laidMetH Tryz.prog [("math/bits.deBruijn32tab", Rows.laid_math_bits_deBruijn32tab), ("math/bits.deBruijn64tab", Rows.laid_math_bits_deBruijn64tab), ("internal/strconv.uint64pow10", Rows.laid_internal_strconv_uint64pow10)] ((World.doorLaid Tryz.prog 400 os).forCall (fun _ _ => 0) ⟨#[], args, []⟩).memory :=
 laidMetH_of_parts3 (fuel := 8) (laidMet_of_run' 8 (by kernel_rfl) (by kernel_rfl)) (by kernel_rfl) (by kernel_rfl)
end Go.Proofs.YtanhhihechakhaaGreatDoor
set_option linter.unusedVariables false
set_option linter.unusedSimpArgs false
namespace Go.Proofs.YtanhhihechakhaaGreatDoor.E
open Go.RowKit
theorem run_append_str0 {P : Program} (w : World) (t u ty e : TypeId) (i : TypeInfo) (ht : P.underlying t = some (.slice e)) (hu : P.underlying u = some .string) (hi : P.info? e = some i) (hz : i.zero = some (.int .u8 0)) (hsize : i.size = 1) (hby : i.bytes = 1)
    (s : ByteArray) (hb : s.size ≤ 281474976710656) :
    ∃ v' w', (Builtin.append_ #[t, u] ty #[.slice none 0 0, .string s]).run P w = .ok v' w' ∧ w'.ownsRow 0 e 1 v' s.size (Lib.strCells s) ∧ w.grownBy w' (Value.ownBlock (.slice none 0 0)) ∧ ((∃ b, v'.ownBlock = some b ∧ w.heap.size ≤ b) ∨ v'.ownBlock = none) := by
 by_cases hm : s.size = 0
 · have hn : Lib.strCells s = [] := List.eq_nil_of_length_eq_zero (by rw [Lib.strCells_length]; exact hm)
   refine ⟨.slice none 0 0, w, ?_, by rw [hm, hn]; exact World.ownsRow_nil w 0 e 1, ⟨rfl, rfl, rfl, Nat.le_refl _, fun _ _ _ => rfl⟩, .inr rfl⟩
   have hf := Lib.run_firstCells_string (P := P) w 1 s
   rw [hm] at hf
   simp [Builtin.append_, run_underlying ht, run_underlying hu, sizeOf, typeInfo, hi, hsize, Builtin.lenOf, hm, hf]
 · have hr := run_append_nil_string (P := P) w t u ty e i (.int .u8 0) ht hu hi hz s (by omega) (by omega) (by rw [hby]; omega)
   have hge := grownCap_ge w s.size 0 e
   have hcm : grownCap w s.size 0 e ≤ maxLen := grownCap_le_maxLen w s.size 0 e (by simp only [maxLen]; omega)
   have e1 : (s.data.map fun b => Value.int .u8 b.toNat) = (Lib.strCells s).toArray := by
    apply Array.ext'
    simp [Lib.strCells]
   rw [e1] at hr
   have hl : (Lib.strCells s).length = s.size * 1 := by rw [Lib.strCells_length, Nat.mul_one]
   refine ⟨_, _, hr, ⟨hl, .inr ⟨w.heap.size, _, _, rfl, Nat.zero_le _, heap_alloc_new w.drew _, hge, hcm, ?_, ?_⟩⟩, ⟨rfl, rfl, rfl, by simp, fun k hk _ => heap_alloc_old w.drew _ hk⟩, .inl ⟨_, rfl, Nat.le_refl _⟩⟩
   · have hz1 : (Value.int IntKind.u8 0).cells.size = 1 := rfl
     simp only [Array.size_append, List.size_toArray, size_zeroCells, hz1, Lib.strCells_length]
     omega
   · simp only [Array.toList_append]
     rw [← hl]
     exact List.take_left
section
variable {P : Program} {ops : Array Oper} {Q : Exit → Act → World → Prop} {n : Nat} {D : List Deferred} {w0 : World} {M : List Nat} {h0 : Hp}
variable {f : Tab} {h : Hp} {H : List Res} {rest : List Oper}
variable {d t s : Nat} {p : String} {af : Array Edge} {g : Option (Nat × Bool)}
theorem sy_appendS0 {x y : Operand} {e s2 : Nat} {bs : ByteArray} {H1 : List Res} (i : Nat) (hr : rowB P s e 1 1 = true) (hz : (P.info? e).map (fun i => i.zero) = some (some (.int .u8 0))) (hu : P.underlying s2 = some .string)
    (hx : f.ev x = some (.slice none 0 0)) (hp : pickR i H = some (.row (.slice none 0 0) e 1 0 [], H1)) (hy : f.ev y = some (.string bs)) (hb : bs.size ≤ 281474976710656) (hw : gok ops f g = some true) (hn : Nat.blt d n = true)
    (k : ∀ v', Sy .txt P ops Q n D w0 M h0 rest ((d, v') :: f) h (.row v' e 1 bs.size (bvs bs.data.toList) :: H1)) :
    Sy .txt P ops Q n D w0 M h0 (⟨some d, .call ⟨.builtin .append, #[x, y], #[s, s2]⟩, t, p, af, g⟩ :: rest) f h H :=
 sy_op hw fun a w ha hs => by
  obtain ⟨h2, inf, z, h3, h4, h5, h6, h7⟩ := row_spec hr
  have hz0 : inf.zero = some (.int .u8 0) := by
   rw [h3] at hz
   simpa using hz
  have hs' := hs.swap (pickR_perm hp)
  obtain ⟨v', w', hrun, ho', hg, hat⟩ := run_append_str0 (P := P) w s s2 t e inf h2 hu h3 hz0 h5 h6 bs hb
  have hrun' : (execOp a.eval ⟨some d, .call ⟨.builtin .append, #[x, y], #[s, s2]⟩, t, p, af, g⟩).run P w = .ok (.value v') w' := by
   simp only [execOp, resolve, invoke, builtin, Sem.run_bind, Sem.run_pure, Result.andThen_ok, List.map_toArray, List.map_cons, List.map_nil, ha.ev hx, ha.ev hy, hrun]
  unfold Oper.wp
  rw [hrun']
  exact k v' _ w' (ha.put d _ hn) (hs'.rowed hg ho' (.inr hat))
end
end Go.Proofs.YtanhhihechakhaaGreatDoor.E
set_option linter.unusedVariables false
set_option linter.unusedSimpArgs false
namespace Go.Proofs.YtanhhihechakhaaGreatDoor
open Go.RowKit Go.Proofs.YtanhhihechakhaaGreatDoor.E Go.Proofs.YtanhhihechakhaaGreatDoor.ReplP Go.Proofs.YtanhhihechakhaaGreatDoor.TokP Go.Proofs.YtanhhihechakhaaGreatDoor.TermP Go.Proofs.YtanhhihechakhaaGreatDoor.WrP
set_option maxRecDepth 100000 in
theorem writeStr0_c (b : Nat) (s : ByteArray) (h : Hp) (hz : s.size ≤ 281474976710656) : CR Tryz.prog 31 [.pointer (some ⟨b, 0, none⟩), .string s] h [.blk b (.cells [.pointer none, (.slice none 0 0)].toArray 53 (0, 0)), .row (.slice none 0 0) 5 1 0 []] (fun _ : Value => .returned (.tuple #[.int .i64 (s.size : Int), .nilIface])) (fun v' h' H' => h = h' ∧ H' = [.blk b (.cells [.pointer (some ⟨b, 0, none⟩), v'].toArray 53 (0, 0)), .row v' 5 1 (s.data.toList).length (bvs (s.data.toList))]) := by
 refine enterR Tryz.func31 rfl rfl rfl (fun w hb0 => ?_)
 refine cy_seq ?_
 refine cy_region ?_
 refine sy_assign rfl rfl rfl ?_
 refine sy_assign rfl rfl rfl ?_
 refine sy_nil rfl ?_
 refine ny_next ?_
 refine cy_seq ?_
 refine cy_region ?_
 refine sy_move rfl rfl rfl ?_
 refine sy_callm 0 call_48 rfl rfl (copy_c b (.pointer none) (.slice none 0 0) h (.inl rfl)) rfl rfl ?_
 refine sy_nil rfl ?_
 refine ny_next ?_
 refine cy_seq ?_
 refine cy_region ?_
 refine sy_move rfl rfl rfl ?_
 refine sy_move rfl rfl rfl ?_
 refine sy_nilCheck rfl rfl rfl ?_
 refine sy_field fld_53_1 rfl rfl rfl ?_
 first | refine sy_ldr 0 one_40 rfl rfl rfl rfl rfl ?_ | refine sy_ldr 1 one_40 rfl rfl rfl rfl rfl ?_
 refine sy_move rfl rfl rfl ?_
 refine sy_appendS0 1 row_40 (by kernel_rfl) Tryz.underlying9 rfl rfl rfl hz rfl rfl (fun v14 => ?_)
 refine sy_rowform 0 rfl (fun A14 c14 hv14 => ?_)
 subst hv14
 refine sy_nilCheck rfl rfl rfl ?_
 refine sy_field fld_53_1 rfl rfl rfl ?_
 first | refine sy_stl 0 sz_40 rfl rfl rfl rfl rfl rfl rfl rfl ?_ | refine sy_stl 1 sz_40 rfl rfl rfl rfl rfl rfl rfl rfl ?_
 refine sy_nil rfl ?_
 refine ny_next ?_
 refine cy_seq ?_
 refine cy_region ?_
 refine sy_move rfl rfl rfl ?_
 refine sy_len rfl (len_string Tryz.underlying9 _) rfl rfl ?_
 refine sy_assign rfl rfl rfl ?_
 refine sy_assign rfl rfl rfl ?_
 refine sy_nil rfl ?_
 refine ny_next ?_
 refine cy_ret ?_
 refine ny_finR (res2 rfl rfl rfl) (fun w hs => ⟨.slice A14 s.size c14, h, _, rfl, ⟨rfl, rfl⟩, hs⟩)
theorem nameA_c (ts : ByteArray) (h : Hp) (hs : ts.size ≤ 140737488351232) : C0 Tryz.prog 47 [.agg (GT.cells (GT.mk 3 0 ts none 0 [])).toArray] h (.string ⟨(qL ts).toArray⟩) := by
 have h9 := name_c (GT.mk 3 0 ts none 0 []) h (by show ts.size ≤ _; omega) (by show (0 : Nat) ≤ _; decide)
 have e : nmL ((GT.mk 3 0 ts none 0 []) : GT).s ((GT.mk 3 0 ts none 0 []) : GT).kids.length = qL ts := nm0 ts
 rw [e] at h9
 exact h9
set_option maxRecDepth 100000 in
theorem writeA_c (b : Nat) (ts : ByteArray) (h : Hp) (hs : ts.size ≤ 140737488351232) : CR Tryz.prog 30 [.agg (GT.cells (GT.mk 3 0 ts none 0 [])).toArray, .func (.func 31) #[.pointer (some ⟨b, 0, none⟩)] #[]] h [.blk b (.cells [.pointer none, (.slice none 0 0)].toArray 53 (0, 0)), .row (.slice none 0 0) 5 1 0 []] (fun _ : Value => .returned (.tuple #[])) (fun v' h' H' => H' = [.blk b (.cells [.pointer (some ⟨b, 0, none⟩), v'].toArray 53 (0, 0)), .row v' 5 1 (qL ts).length (bvs (qL ts))]) := by
 show CR Tryz.prog 30 [.agg #[.int .i64 3, .int .i64 0, .string ts, .slice none 0 0], .func (.func 31) #[.pointer (some ⟨b, 0, none⟩)] #[]] h _ _ _
 refine enterR Tryz.func30 rfl rfl rfl (fun w hb0 => ?_)
 refine cy_seq ?_
 refine cy_region ?_
 refine sy_box rfl rfl rfl rfl (fun b2 hb2 hM2 => ?_) hb0
 refine sy_nil rfl ?_
 refine ny_next ?_
 refine cy_block ?_
 refine cy_seq ?_
 refine cy_frz 0 rfl hM2 (fun h1 hle1 hbx => ?_)
 refine cy_region ?_
 refine sy_field fld_24_0 rfl rfl rfl ?_
 refine sy_ldh one_3 rfl (Hp.blk hbx 0 _ rfl) rfl rfl ?_
 refine sy_cmp rfl rfl rfl rfl rfl ?_
 refine sy_assign rfl rfl rfl ?_
 refine sy_setF (d := 8) rfl rfl rfl ?_
 refine sy_nil rfl ?_
 refine ny_next ?_
 refine cy_condF rfl ?_
 refine cy_seq ?_
 refine cy_region ?_
 refine sy_field fld_24_0 rfl rfl rfl ?_
 refine sy_ldh one_3 rfl (Hp.blk hbx 0 _ rfl) rfl rfl ?_
 refine sy_cmp rfl rfl rfl rfl rfl ?_
 refine sy_assign rfl rfl rfl ?_
 refine sy_setF (d := 18) rfl rfl rfl ?_
 refine sy_nil rfl ?_
 refine ny_next ?_
 refine cy_condF rfl ?_
 refine cy_seq ?_
 refine cy_region ?_
 refine sy_field fld_24_0 rfl rfl rfl ?_
 refine sy_ldh one_3 rfl (Hp.blk hbx 0 _ rfl) rfl rfl ?_
 refine sy_cmp rfl rfl rfl rfl rfl ?_
 refine sy_move rfl rfl rfl ?_
 refine sy_setT (d := 31) rfl rfl rfl ?_
 refine sy_field fld_24_3 rfl rfl rfl ?_
 refine sy_ldh one_22 rfl (Hp.blk hbx 3 _ rfl) rfl rfl ?_
 refine sy_len rfl (len_slice Tryz.underlying22 _ _ _) rfl rfl ?_
 refine sy_cmp rfl rfl rfl rfl rfl ?_
 refine sy_pickT rfl rfl rfl rfl ?_
 refine sy_assign rfl rfl rfl ?_
 refine sy_setT (d := 27) rfl rfl rfl ?_
 refine sy_nil rfl ?_
 refine ny_next ?_
 refine cy_condT rfl ?_
 refine cy_region ?_
 refine sy_move rfl rfl rfl ?_
 refine sy_ldah (vs := GT.cells (GT.mk 3 0 ts none 0 [])) agg_24 rfl rfl (Hp.blk hbx) rfl rfl ?_
 refine sy_call rfl call_47 rfl (nameA_c ts _ hs) rfl rfl ?_
 refine sy_callbR1 [0, 0] call_31 rfl rfl rfl (writeStr0_c b _ _ (by have := q_len ts; rw [bsz]; omega)) rfl rfl (fun v40 h40 H40 hx40 hle40 => ?_)
 obtain ⟨rfl, rfl⟩ := hx40
 refine sy_nil rfl ?_
 refine ny_blockN ?_
 refine ny_fin (res0 rfl) (fun w hs => ⟨v40, _, _, rfl, rfl, hs⟩)
set_option maxRecDepth 100000 in
theorem textA_c (ts : ByteArray) (h : Hp) (hs : ts.size ≤ 140737488351232) : C0 Tryz.prog 13 [.agg (GT.cells (GT.mk 3 0 ts none 0 [])).toArray] h (.string ⟨(qL ts).toArray⟩) := by
 show C0 Tryz.prog 13 [.agg #[.int .i64 3, .int .i64 0, .string ts, .slice none 0 0]] h _
 refine enter0 Tryz.func13 rfl rfl rfl (fun w => ?_)
 refine cy_seq ?_
 refine cy_region ?_
 refine sy_box rfl rfl rfl rfl (fun b1 hb1 hM1 => ?_) (by simp)
 refine sy_assign rfl rfl rfl ?_
 refine sy_nil rfl ?_
 refine ny_next ?_
 refine cy_seq ?_
 refine cy_region ?_
 refine sy_alloc zer_53 rfl rfl (fun b3 hb3 hM3 => ?_) (by simp)
 refine sy_nil rfl ?_
 refine ny_next ?_
 refine cy_seq ?_
 refine cy_nilRow 5 1 ?_
 refine cy_region ?_
 first | refine sy_ldar 0 agg_24 rfl rfl rfl rfl rfl ?_ | refine sy_ldar 1 agg_24 rfl rfl rfl rfl rfl ?_ | refine sy_ldar 2 agg_24 rfl rfl rfl rfl rfl ?_
 refine sy_bind (s := 0) rfl rfl rfl rfl ?_
 refine sy_callR1 [1, 0] call_30 rfl rfl (writeA_c b3 ts _ hs) rfl rfl (fun v6 h6 H6 hx6 hle6 => ?_)
 subst hx6
 refine sy_frz 0 rfl (by simp) (fun h7 hle7 hb7 => ?_)
 refine sy_nil rfl ?_
 refine ny_next ?_
 refine cy_seq ?_
 refine cy_region ?_
 have hne : qL ts ≠ [] := by
  have h9 := txt_ne (GT.mk 3 0 ts none 0 []).tm
  rwa [txt_atom] at h9
 refine sy_callR1 [0] call_32 rfl rfl (string_c b3 _ _ _ _ hb7 hne) rfl rfl (fun v8 h8 H8 hx8 hle8 => ?_)
 obtain ⟨rfl, rfl⟩ := hx8
 refine sy_assign rfl rfl rfl ?_
 refine sy_nil rfl ?_
 refine ny_next ?_
 refine cy_ret ?_
 refine ny_finR (res1 rfl rfl) (fun w hs => ⟨?_, hs.frm⟩)
 rfl
set_option maxRecDepth 100000 in
theorem names08F_c (a b : ByteArray) (n : Int) (h : Hp) (ha : a.size ≤ 140737488351232) (hb : b.size ≤ 140737488351232) (hn0 : -9223372036854775808 ≤ n) (hn1 : n ≤ 9223372036854775807) (ht : Tab10 h) : C0 Tryz.prog 7 [.string a, .string b, .int .i64 n] h (.bool true) := by
 have hqa := q_len a
 have hqb := q_len b
 have hil := itoa_len hn0 hn1
 refine enter0 Tryz.func7 rfl rfl rfl (fun w => ?_)
 refine cy_seq ?_
 refine cy_region ?_
 refine sy_assign rfl rfl rfl ?_
 refine sy_nil rfl ?_
 refine ny_next ?_
 refine cy_seq ?_
 refine cy_region ?_
 refine sy_call rfl call_9 rfl (shown08_c _ ht) rfl rfl ?_
 refine sy_assign rfl rfl rfl ?_
 refine sy_nil rfl ?_
 refine ny_next ?_
 refine cy_seq ?_
 refine cy_region ?_
 refine sy_move rfl rfl rfl ?_
 refine sy_call rfl call_23 rfl (atom_c a _) rfl rfl ?_
 refine sy_call rfl call_13 rfl (textA_c a _ ha) rfl rfl ?_
 refine sy_assign rfl rfl rfl ?_
 refine sy_nil rfl ?_
 refine ny_next ?_
 refine cy_seq ?_
 refine cy_region ?_
 refine sy_move rfl rfl rfl ?_
 refine sy_call rfl call_23 rfl (atom_c b _) rfl rfl ?_
 refine sy_call rfl call_13 rfl (textA_c b _ hb) rfl rfl ?_
 refine sy_assign rfl rfl rfl ?_
 refine sy_nil rfl ?_
 refine ny_next ?_
 refine cy_seq ?_
 refine cy_seq ?_
 refine cy_region ?_
 refine sy_assign rfl rfl rfl ?_
 refine sy_nil rfl ?_
 refine ny_next ?_
 refine cy_block ?_
 refine cy_loopK (ι := Nat) [0, 1, 2, 7, 8, 9] rfl (fun i => i ≤ (qL a).length) (fun i => (qL a).length - i) (fun i => [(10, .int .i64 (i : Int))]) (fun i => h) (fun i => []) 0 [] (Nat.zero_le _) ⟨rfl, trivial⟩ rfl rfl ?_
 rintro i hI
 refine cy_seq ?_
 refine cy_seq ?_
 refine cy_region ?_
 refine sy_move rfl rfl rfl ?_
 refine sy_move rfl rfl rfl ?_
 refine sy_len rfl (len_string Tryz.underlying9 _) rfl rfl ?_
 refine sy_cmp rfl rfl rfl rfl rfl ?_
 refine sy_nil rfl ?_
 refine ny_next ?_
 refine cy_cond rfl (fun hc21 => ?_) (fun hc21 => ?_)
 · have hlt : i < (qL a).length := by have h9 := of_decide_eq_true hc21; simp only [bsz] at h9; omega
   obtain ⟨ei, hei⟩ : ∃ e, (qL a)[i]? = some e := ⟨_, List.getElem?_eq_getElem hlt⟩
   obtain ⟨e0, he0⟩ : ∃ e, (qL a)[0]? = some e := ⟨_, List.getElem?_eq_getElem (by omega)⟩
   have hcl := q_clean hei
   refine cy_skip ?_
   refine ny_next ?_
   refine cy_seq ?_
   refine cy_block ?_
   refine cy_seq ?_
   refine cy_region ?_
   refine sy_move rfl rfl rfl ?_
   refine sy_move rfl rfl rfl ?_
   refine sy_idxs (u := ei) Tryz.underlying9 rfl rfl (by omega) (ba_at (i := i) hei) rfl rfl ?_
   refine sy_cmp rfl rfl rfl rfl rfl ?_
   refine sy_setF (d := 27) rfl rfl (u8_no (k := 10) (by decide) hcl.1) ?_
   refine sy_move rfl rfl rfl ?_
   refine sy_move rfl rfl rfl ?_
   refine sy_move rfl rfl rfl ?_
   refine sy_idxs (u := ei) Tryz.underlying9 rfl rfl (by omega) (ba_at (i := i) hei) rfl rfl ?_
   refine sy_cmp rfl rfl rfl rfl rfl ?_
   refine sy_move rfl rfl rfl ?_
   refine sy_cond (d := 33) _ rfl rfl (fun hg33 => ?_) (fun hg33 => ?_)
   · have h39 : (qL a)[0]? = some 39 := hcl.2 (UInt8.toNat_inj.1 (by have := eq_of_beq hg33; show ei.toNat = 32; omega))
     refine sy_move rfl rfl rfl ?_
     refine sy_idxs (u := e0) Tryz.underlying9 rfl rfl (by omega) (ba_at (i := 0) he0) rfl rfl ?_
     refine sy_cmp rfl rfl rfl rfl rfl ?_
     refine sy_setF (d := 36) rfl rfl (q_end h39 he0) ?_
     refine sy_pickT rfl rfl rfl rfl ?_
     refine sy_pickF rfl rfl rfl rfl ?_
     refine sy_nil rfl ?_
     refine ny_next ?_
     refine cy_condF rfl ?_
     refine cy_skip ?_
     refine ny_blockN ?_
     refine ny_next ?_
     refine cy_region ?_
     refine sy_move rfl rfl rfl ?_
     refine sy_addi (z := ((i + 1 : Nat) : Int)) rfl rfl (by omega) (by omega) (by omega) rfl rfl ?_
     refine sy_assign rfl rfl rfl ?_
     refine sy_nil rfl ?_
     refine ny_roundK [0, 1, 2, 7, 8, 9] (i + 1) [] (show i + 1 ≤ (qL a).length by omega) (show (qL a).length - (i + 1) < (qL a).length - i by omega) rfl ⟨rfl, trivial⟩ rfl rfl
   · refine sy_skip rfl rfl rfl ?_
     refine sy_skip rfl rfl rfl ?_
     refine sy_skip rfl rfl rfl ?_
     refine sy_pickF rfl rfl rfl rfl ?_
     refine sy_pickF rfl rfl rfl rfl ?_
     refine sy_nil rfl ?_
     refine ny_next ?_
     refine cy_condF rfl ?_
     refine cy_skip ?_
     refine ny_blockN ?_
     refine ny_next ?_
     refine cy_region ?_
     refine sy_move rfl rfl rfl ?_
     refine sy_addi (z := ((i + 1 : Nat) : Int)) rfl rfl (by omega) (by omega) (by omega) rfl rfl ?_
     refine sy_assign rfl rfl rfl ?_
     refine sy_nil rfl ?_
     refine ny_roundK [0, 1, 2, 7, 8, 9] (i + 1) [] (show i + 1 ≤ (qL a).length by omega) (show (qL a).length - (i + 1) < (qL a).length - i by omega) rfl ⟨rfl, trivial⟩ rfl rfl
 · refine cy_exit ?_
   refine ny_thenE ?_
   refine ny_thenE ?_
   refine ny_blockX ?_
   refine ny_next ?_
   refine cy_seq ?_
   refine cy_region ?_
   refine sy_move rfl rfl rfl ?_
   refine sy_move rfl rfl rfl ?_
   refine sy_setT (d := 40) rfl rfl (by first | rfl | (simp; done)) ?_
   refine sy_move rfl rfl rfl ?_
   refine sy_move rfl rfl rfl ?_
   refine sy_eqs rfl rfl rfl rfl ?_
   refine sy_move rfl rfl rfl ?_
   refine sy_move rfl rfl rfl ?_
   refine sy_eqs rfl rfl rfl rfl ?_
   refine sy_eqb Tryz.underlying4 rfl rfl rfl rfl ?_
   refine sy_setT (d := 47) rfl rfl (q_same a b) ?_
   refine sy_pickT rfl rfl rfl rfl ?_
   refine sy_move rfl rfl rfl ?_
   refine sy_move rfl rfl rfl ?_
   refine sy_move rfl rfl rfl ?_
   refine sy_call rfl call_24 rfl (num_c n _) rfl rfl ?_
   refine sy_call rfl call_13 rfl (text_c (GT.mk 2 n ⟨#[]⟩ none 0 []) _ (lies_leaf _ _ _ _) (fits_leaf (by decide) (by decide) hn0 hn1 (by decide)) ht (by rw [txt_num]; omega)) rfl rfl ?_
   rw [txt_num]
   refine sy_nes rfl rfl rfl rfl ?_
   refine sy_setT (d := 54) rfl rfl (q_nint a n) ?_
   refine sy_pickT rfl rfl rfl rfl ?_
   refine sy_move rfl rfl rfl ?_
   refine sy_move rfl rfl rfl ?_
   refine sy_call rfl call_24 rfl (num_c n _) rfl rfl ?_
   refine sy_call rfl call_13 rfl (text_c (GT.mk 2 n ⟨#[]⟩ none 0 []) _ (lies_leaf _ _ _ _) (fits_leaf (by decide) (by decide) hn0 hn1 (by decide)) ht (by rw [txt_num]; omega)) rfl rfl ?_
   rw [txt_num]
   refine sy_move rfl rfl rfl ?_
   refine sy_call rfl call_25 rfl (let_c n _) rfl rfl ?_
   refine sy_call rfl call_13 rfl (text_c (GT.mk 1 n ⟨#[]⟩ none 0 []) _ (lies_leaf _ _ _ _) (fits_leaf (by decide) (by decide) hn0 hn1 (by decide)) ht (by rw [txt_let, List.length_cons]; omega)) rfl rfl ?_
   rw [txt_let]
   refine sy_nes rfl rfl rfl rfl ?_
   refine sy_setT (d := 63) rfl rfl (int_nlet n n) ?_
   refine sy_pickT rfl rfl rfl rfl ?_
   refine sy_assign rfl rfl rfl ?_
   refine sy_nil rfl ?_
   refine ny_next ?_
   refine cy_ret ?_
   refine ny_finR (res1 rfl rfl) (fun w hs2 => ⟨?_, hs2.frm⟩)
   first | rfl | (simp; done)
end Go.Proofs.YtanhhihechakhaaGreatDoor
set_option linter.unusedVariables false
set_option linter.unusedSimpArgs false
namespace Go.Proofs.YtanhhihechakhaaGreatDoor.E
open Go.ChangeShapes Go.WideShapes Go.ChangeAt Go.RowKit
def Wt {H : Type} (P : Program) (t : TypeId) (d : DataW H) : Prop := ∀ x ∈ d.weights P t, x ≤ reachBytes
theorem wt_each {H : Type} {P : Program} : ∀ {ts : List TypeId} {ds : List (DataW H)}, (∀ x ∈ DataW.weightsEach P ts ds, x ≤ reachBytes) → ∀ (j : Nat) (t : TypeId) (d : DataW H), ts[j]? = some t → ds[j]? = some d → Wt P t d
 | [], _, _, j, t, d, ht, _ => by simp at ht
 | _ :: _, [], _, j, t, d, _, hd => by simp at hd
 | t0 :: ts, d0 :: ds, h, j, t, d, ht, hd => by
  unfold DataW.weightsEach at h
  cases j with
  | zero =>
   simp only [List.getElem?_cons_zero, Option.some.injEq] at ht hd
   subst ht hd
   exact fun x hx => h x (List.mem_append_left _ hx)
  | succ j => exact wt_each (fun x hx => h x (List.mem_append_right _ hx)) j t d (by simpa using ht) (by simpa using hd)
theorem wt_string {H : Type} {P : Program} {t : TypeId} {bs : List UInt8} (h : Wt (H := H) P t (.lit (.string bs))) : bs.length ≤ reachBytes := h _ (by simp [DataW.weights])
theorem wt_of {H : Type} {P : Program} {ts : List TypeId} {ds : List (DataW H)} (h : (DataW.weightsEach P ts ds).all (· ≤ reachBytes) = true) : ∀ x ∈ DataW.weightsEach P ts ds, x ≤ reachBytes := fun x hx => by
 have := List.all_eq_true.1 h x hx
 simpa using this
end Go.Proofs.YtanhhihechakhaaGreatDoor.E

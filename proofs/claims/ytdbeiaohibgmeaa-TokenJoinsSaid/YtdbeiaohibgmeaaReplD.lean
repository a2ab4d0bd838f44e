/- strings.Replacer's Replace: the walk. Conditions: as each says. Printed by a program of this session. -/
import Derived.Test.YtdbeiaohibgmeaaFactsD
import Derived.Test.YtdbeiaohibgmeaaReplC
import Derived.Test.YtdbeiaohibgmeaaEngByte
set_option linter.unusedVariables false
set_option linter.unusedSimpArgs false
namespace Go.Proofs.Ytdbeiaohibgmeaa
open Go.RowKit Go.Proofs.Ytdbeiaohibgmeaa.E Go.Proofs.Ytdbeiaohibgmeaa.ReplP
theorem cntX (s : ByteArray) (c : UInt8) (w : World) : (callFunc 105 #[.string s, .int .u8 (c.toNat : Int)]).run Try.prog w = .ok (.value (.int .i64 ((s.data.toList.count c : Nat) : Int))) w := by
  have h1 := Lib.run_countString (P := Try.prog) s (c.toNat : Int) w
  have e : (c.toNat : Int).toNat.toUInt8 = c := by simp
  rw [e] at h1
  exact ext_run (e := Extern.BytealgCount.count) Try.func105 (by kernel_rfl) (by kernel_rfl) (by kernel_rfl) (by kernel_rfl) h1
set_option maxRecDepth 100000 in
theorem count_c (s : ByteArray) (c : UInt8) (h : Hp) : C0 Try.prog 103 [.string s, .string ⟨#[c]⟩] h (.int .i64 ((s.data.toList.count c : Nat) : Int)) := by
  refine enter0 Try.func103 rfl rfl rfl (fun w => ?_)
  refine cy_seq ?_
  refine cy_region ?_
  refine sy_assign rfl rfl rfl ?_
  refine sy_nil rfl ?_
  refine ny_next ?_
  refine cy_seq ?_
  refine cy_seq ?_
  refine cy_region ?_
  refine sy_move rfl rfl rfl ?_
  refine sy_len rfl (len_string Try.underlying9 _) rfl rfl ?_
  refine sy_cmp rfl rfl rfl rfl rfl ?_
  refine sy_setF (d := 9) rfl rfl rfl ?_
  refine sy_nil rfl ?_
  refine ny_next ?_
  refine cy_condF rfl ?_
  refine cy_skip ?_
  refine ny_next ?_
  refine cy_seq ?_
  refine cy_seq ?_
  refine cy_region ?_
  refine sy_move rfl rfl rfl ?_
  refine sy_len rfl (len_string Try.underlying9 _) rfl rfl ?_
  refine sy_cmp rfl rfl rfl rfl rfl ?_
  refine sy_setT (d := 15) rfl rfl rfl ?_
  refine sy_nil rfl ?_
  refine ny_next ?_
  refine cy_condT rfl ?_
  refine cy_seq ?_
  refine cy_region ?_
  refine sy_move rfl rfl rfl ?_
  refine sy_move rfl rfl rfl ?_
  refine sy_idxs (u := c) Try.underlying9 rfl rfl (by decide) rfl rfl rfl ?_
  refine sy_exq rfl (fun w hs => cntX s c w) rfl rfl ?_
  refine sy_assign rfl rfl rfl ?_
  refine sy_nil rfl ?_
  refine ny_next ?_
  refine cy_ret ?_
  refine ny_thenR ?_
  refine ny_finR (res1 rfl rfl) (fun w hs => ⟨?_, hs.frm⟩)
  rfl
set_option maxRecDepth 100000 in
theorem bsr_c (x : Nat) (s : ByteArray) (h : Hp) (hR : ReplT h 83 x) (hs : s.size ≤ 140737488355328) : C0 Try.prog 101 [.pointer (some ⟨x, 0, none⟩), .string s] h (.string ⟨(repl s.data.toList).toArray⟩) := by
  obtain ⟨rA, rk, A3, k3, hX, hN, hS, h3⟩ := hR
  refine enter0 Try.func101 rfl rfl rfl (fun w => ?_)
  refine cy_seq ?_
  refine cy_region ?_
  refine sy_assign rfl rfl rfl ?_
  refine sy_nil rfl ?_
  refine ny_next ?_
  refine cy_seq ?_
  refine cy_region ?_
  refine sy_move rfl rfl rfl ?_
  refine sy_len rfl (len_string Try.underlying9 _) rfl rfl ?_
  refine sy_assign rfl rfl rfl ?_
  refine sy_nil rfl ?_
  refine ny_next ?_
  refine cy_seq ?_
  refine cy_region ?_
  refine sy_assign rfl rfl rfl ?_
  refine sy_nil rfl ?_
  refine ny_next ?_
  refine cy_seq ?_
  refine cy_seq ?_
  refine cy_region ?_
  refine sy_move rfl rfl rfl ?_
  refine sy_nilCheck rfl rfl rfl ?_
  refine sy_field fld_83_1 rfl rfl rfl ?_
  refine sy_ldh one_46 rfl (Hp.blk hX 256 _ (rT_last _ _)) rfl rfl ?_
  refine sy_len rfl (len_slice Try.underlying46 _ _ _) rfl rfl ?_
  refine sy_muli (z := 24) rfl rfl rfl (by decide) (by decide) rfl rfl ?_
  refine sy_move rfl rfl rfl ?_
  refine sy_len rfl (len_string Try.underlying9 _) rfl rfl ?_
  refine sy_cmp rfl rfl rfl rfl rfl ?_
  refine sy_nil rfl ?_
  refine ny_next ?_
  refine cy_cond rfl (fun hc26 => ?_) (fun hc26 => ?_)
  · refine cy_seq ?_
    refine cy_region ?_
    refine sy_move rfl rfl rfl ?_
    refine sy_nilCheck rfl rfl rfl ?_
    refine sy_field fld_83_1 rfl rfl rfl ?_
    refine sy_ldh one_46 rfl (Hp.blk hX 256 _ (rT_last _ _)) rfl rfl ?_
    refine sy_len rfl (len_slice Try.underlying46 _ _ _) rfl rfl ?_
    refine sy_move rfl rfl rfl ?_
    refine sy_nil rfl ?_
    refine ny_next ?_
    refine cy_block ?_
    refine cy_loopK (ι := Nat) [0, 1, 30, 31] rfl (fun i => i ≤ 3) (fun i => 3 - i) (fun i => [(5, .int .i64 ((s.size + cntS s.data.toList i : Nat) : Int)), (6, .bool (anyS s.data.toList i)), (32, .int .i64 (i : Int))]) (fun i => h) (fun i => []) 0 [] (Nat.zero_le _) ⟨rfl, rfl, rfl, trivial⟩ rfl rfl ?_
    rintro i hI
    have hcs := cntS_le s.data.toList i
    refine cy_seq ?_
    refine cy_region ?_
    refine sy_cmp rfl rfl rfl rfl rfl ?_
    refine sy_nil rfl ?_
    refine ny_next ?_
    refine cy_seq ?_
    refine cy_cond rfl (fun hc33 => ?_) (fun hc33 => ?_)
    · have hlti : i < 3 := by have := of_decide_eq_true hc33; omega
      refine cy_skip ?_
      refine ny_next ?_
      refine cy_seq ?_
      refine cy_block ?_
      refine cy_seq ?_
      refine cy_region ?_
      refine sy_idxR (fc := (fun c => [Value.string ⟨#[c]⟩])) (es := sps) els_46 rfl rfl h3 rfl (by omega) rfl rfl (fun e34 b34 o34 he34 hA34 hc34 => ?_)
      refine sy_ldh one_9 rfl (hc34 0 _ rfl) rfl rfl ?_
      refine sy_assign rfl rfl rfl ?_
      refine sy_nil rfl ?_
      refine ny_next ?_
      refine cy_seq ?_
      refine cy_region ?_
      refine sy_move rfl rfl rfl ?_
      refine sy_move rfl rfl rfl ?_
      refine sy_call rfl call_103 rfl (count_c s e34 _) rfl rfl ?_
      have hcl := count_len s.data.toList e34
      have hsz : s.data.toList.length = s.size := rfl
      have hsp := sps_sp he34
      have hr2 := rep_len hsp
      refine sy_assign rfl rfl rfl ?_
      refine sy_nil rfl ?_
      refine ny_next ?_
      refine cy_seq ?_
      refine cy_region ?_
      refine sy_move rfl rfl rfl ?_
      refine sy_cmp rfl rfl rfl rfl rfl ?_
      refine sy_nil rfl ?_
      refine ny_next ?_
      refine cy_cond rfl (fun hc40 => ?_) (fun hc40 => ?_)
      · have hne : s.data.toList.count e34 ≠ 0 := by intro h9; rw [h9] at hc40; simp at hc40
        refine cy_seq ?_
        refine cy_regionQ mixed (by kernel_rfl) ?_
        refine sy_move rfl rfl rfl ?_
        refine sy_move rfl rfl rfl ?_
        refine sy_move rfl rfl rfl ?_
        refine sy_move rfl rfl rfl ?_
        refine sy_idxs (u := e34) Try.underlying9 rfl rfl (by decide) rfl rfl rfl ?_
        refine sy_nilCheck rfl rfl rfl ?_
        refine sy_field fld_83_0 rfl rfl rfl ?_
        refine sy_idxU (u := e34) arr_81 rfl rfl (by have := e34.toNat_lt; omega) rfl rfl ?_
        refine sy_ldh one_65 rfl (Hp.blk0 hX e34.toNat (rT_get _ _ e34)) rfl rfl ?_
        refine sy_len rfl (len_slice Try.underlying65 _ _ _) rfl rfl ?_
        refine sy_subi (z := 1) rfl rfl (by omega) (by omega) (by omega) rfl rfl ?_
        refine sy_muli (z := ((s.data.toList.count e34 : Nat) : Int)) rfl rfl (by omega) (by omega) (by omega) rfl rfl ?_
        refine sy_addi (z := ((s.size + cntS s.data.toList i + s.data.toList.count e34 : Nat) : Int)) rfl rfl (by omega) (by omega) (by omega) rfl rfl ?_
        refine sy_assign rfl rfl rfl ?_
        refine sy_nil rfl ?_
        refine ny_next ?_
        refine cy_region ?_
        refine sy_assign rfl rfl rfl ?_
        refine sy_nil rfl ?_
        refine ny_blockN ?_
        refine ny_next ?_
        refine cy_region ?_
        refine sy_addi (z := ((i + 1 : Nat) : Int)) rfl rfl (by omega) (by omega) (by omega) rfl rfl ?_
        refine sy_move rfl rfl rfl ?_
        refine sy_nil rfl ?_
        refine ny_roundK [0, 1, 30, 31] (i + 1) [] (show i + 1 ≤ 3 by omega) (show 3 - (i + 1) < 3 - i by omega) rfl ⟨congrArg (fun z : Nat => some (Value.int .i64 (z : Int))) (by rw [cntS_succ he34]; omega), congrArg (fun b => some (Value.bool b)) (by rw [anyS_succ he34, decide_eq_true hne, Bool.or_true]), rfl, trivial⟩ rfl rfl
      · have heq : s.data.toList.count e34 = 0 := by simpa using hc40
        refine cy_skip ?_
        refine ny_blockN ?_
        refine ny_next ?_
        refine cy_region ?_
        refine sy_addi (z := ((i + 1 : Nat) : Int)) rfl rfl (by omega) (by omega) (by omega) rfl rfl ?_
        refine sy_move rfl rfl rfl ?_
        refine sy_nil rfl ?_
        refine ny_roundK [0, 1, 30, 31] (i + 1) [] (show i + 1 ≤ 3 by omega) (show 3 - (i + 1) < 3 - i by omega) rfl ⟨congrArg (fun z : Nat => some (Value.int .i64 (z : Int))) (by rw [cntS_succ he34, heq]; rfl), congrArg (fun b => some (Value.bool b)) (by rw [anyS_succ he34, heq]; simp), rfl, trivial⟩ rfl rfl
    · have hie : i = 3 := by have := of_decide_eq_false hc33; omega
      subst hie
      rw [show s.size + cntS s.data.toList 3 = (repl s.data.toList).length from cntS_all s.data.toList, anyS_all]
      refine cy_exit ?_
      refine ny_thenE ?_
      refine ny_thenE ?_
      refine ny_blockX ?_
      refine ny_next ?_
      refine cy_seq ?_
      refine cy_seq ?_
      refine cy_region ?_
      refine sy_move rfl rfl rfl ?_
      refine sy_not rfl rfl rfl ?_
      refine sy_nil rfl ?_
      refine ny_next ?_
      refine cy_cond rfl (fun hc82 => ?_) (fun hc82 => ?_)
      · refine cy_seq ?_
        refine cy_region ?_
        refine sy_move rfl rfl rfl ?_
        refine sy_assign rfl rfl rfl ?_
        refine sy_nil rfl ?_
        refine ny_next ?_
        refine cy_ret ?_
        refine ny_thenR ?_
        refine ny_finR (res1 rfl rfl) (fun w hs2 => ⟨?_, hs2.frm⟩)
        have hno : s.data.toList.any isSp = false := by simpa using hc82
        rw [repl_no hno, ba_eta]
      · refine cy_skip ?_
        refine ny_next ?_
        refine cy_seq ?_
        have hN2 := repl_le s.data.toList
        have hsz : s.data.toList.length = s.size := rfl
        refine cy_region ?_
        refine sy_move rfl rfl rfl ?_
        refine sy_makeB row_65 zer_5 rfl rfl (by omega) rfl rfl (fun b85 hb85 hM85 => ?_) (by simp)
        refine sy_assign rfl rfl rfl ?_
        refine sy_nil rfl ?_
        refine ny_next ?_
        refine cy_seq ?_
        refine cy_region ?_
        refine sy_assign rfl rfl rfl ?_
        refine sy_nil rfl ?_
        refine ny_next ?_
        refine cy_seq ?_
        refine cy_seq ?_
        refine cy_region ?_
        refine sy_assign rfl rfl rfl ?_
        refine sy_nil rfl ?_
        refine ny_next ?_
        refine cy_block ?_
        refine cy_loopK (ι := Nat) [0, 1, 12] rfl (fun i => i ≤ s.size) (fun i => s.size - i) (fun i => [(13, .int .i64 (((repl (s.data.toList.take i)).length : Nat) : Int)), (14, .int .i64 (i : Int))]) (fun i => h) (fun i => [.blk b85 (.cells ((repl (s.data.toList.take i)).map bv ++ List.replicate ((repl s.data.toList).length - (repl (s.data.toList.take i)).length) (Value.int .u8 0)).toArray 5 (0, 0))]) 0 [0] (Nat.zero_le _) ⟨rfl, rfl, trivial⟩ rfl rfl ?_
        rintro i hI
        have hrt := repl_take_le s.data.toList i
        refine cy_seq ?_
        refine cy_seq ?_
        refine cy_region ?_
        refine sy_move rfl rfl rfl ?_
        refine sy_move rfl rfl rfl ?_
        refine sy_len rfl (len_string Try.underlying9 _) rfl rfl ?_
        refine sy_cmp rfl rfl rfl rfl rfl ?_
        refine sy_nil rfl ?_
        refine ny_next ?_
        refine cy_cond rfl (fun hc89 => ?_) (fun hc89 => ?_)
        · have hlti : i < s.size := by have := of_decide_eq_true hc89; omega
          obtain ⟨e0, he0⟩ : ∃ e0, s.data.toList[i]? = some e0 := ⟨_, List.getElem?_eq_getElem (by show i < s.size; omega)⟩
          have hroom := repl_room he0
          refine cy_skip ?_
          refine ny_next ?_
          refine cy_seq ?_
          refine cy_block ?_
          refine cy_seq ?_
          refine cy_region ?_
          refine sy_move rfl rfl rfl ?_
          refine sy_move rfl rfl rfl ?_
          refine sy_idxs (u := e0) Try.underlying9 rfl rfl (by omega) (ba_at he0) rfl rfl ?_
          refine sy_assign rfl rfl rfl ?_
          refine sy_nil rfl ?_
          refine ny_next ?_
          refine cy_seq ?_
          refine cy_region ?_
          refine sy_move rfl rfl rfl ?_
          refine sy_move rfl rfl rfl ?_
          refine sy_nilCheck rfl rfl rfl ?_
          refine sy_field fld_83_0 rfl rfl rfl ?_
          refine sy_idxU (u := e0) arr_81 rfl rfl (by have := e0.toNat_lt; omega) rfl rfl ?_
          refine sy_ldh one_65 rfl (Hp.blk0 hX e0.toNat (rT_get _ _ e0)) rfl rfl ?_
          refine sy_eqsl (b := isSp e0) Try.underlying65 rfl (by simp [hN]) rfl rfl ?_
          refine sy_nil rfl ?_
          refine ny_next ?_
          refine cy_cond rfl (fun hc101 => ?_) (fun hc101 => ?_)
          · have hr2 := rep_len hc101
            rw [one_sp hc101, hr2] at hroom
            have hrr := hS e0 hc101
            refine cy_regionA mixed ?_
            refine zy_q 0 rfl (by kernel_rfl) (fun hB28_0 => ?_)
            refine sy_move rfl rfl rfl ?_
            refine sy_nil1 (ny_zq hB28_0 ?_)
            refine zy_q 1 rfl (by kernel_rfl) (fun hB28_1 => ?_)
            refine sy_move rfl rfl rfl ?_
            refine sy_nil1 (ny_zq hB28_1 ?_)
            refine zy_q 2 rfl (by kernel_rfl) (fun hB28_2 => ?_)
            refine sy_move rfl rfl rfl ?_
            refine sy_nil1 (ny_zq hB28_2 ?_)
            refine zy_q 3 rfl (by kernel_rfl) (fun hB28_3 => ?_)
            refine sy_cutB els_65 rfl rfl (by omega) (by omega) rfl rfl ?_
            refine sy_nil1 (ny_zq hB28_3 ?_)
            refine zy_q 4 rfl (by kernel_rfl) (fun hB28_4 => ?_)
            refine sy_move rfl rfl rfl ?_
            refine sy_nil1 (ny_zq hB28_4 ?_)
            refine zy_q 5 rfl (by kernel_rfl) (fun hB28_5 => ?_)
            refine sy_move rfl rfl rfl ?_
            refine sy_nil1 (ny_zq hB28_5 ?_)
            refine zy_q 6 rfl (by kernel_rfl) (fun hB28_6 => ?_)
            refine sy_nilCheck rfl rfl rfl ?_
            refine sy_nil1 (ny_zq hB28_6 ?_)
            refine zy_q 7 rfl (by kernel_rfl) (fun hB28_7 => ?_)
            refine sy_field fld_83_0 rfl rfl rfl ?_
            refine sy_nil1 (ny_zq hB28_7 ?_)
            refine zy_q 8 rfl (by kernel_rfl) (fun hB28_8 => ?_)
            refine sy_idxU (u := e0) arr_81 rfl rfl (by have := e0.toNat_lt; omega) rfl rfl ?_
            refine sy_nil1 (ny_zq hB28_8 ?_)
            refine zy_q 9 rfl (by kernel_rfl) (fun hB28_9 => ?_)
            refine sy_ldh one_65 rfl (Hp.blk0 hX e0.toNat (rT_get _ _ e0)) rfl rfl ?_
            refine sy_nil1 (ny_zq hB28_9 ?_)
            refine zy_1 10 (by kernel_rfl) ?_
            refine zop_run rfl rfl (fun hB28_10 => ?_)
            refine sy_copy (news := (rep e0).map bv) 0 row_65 rfl rfl rfl (by simp) (by omega) (by omega) (by have h9 := hrr.cells (by decide) (byteC_len _); rw [byteC_flat] at h9; exact h9) (fun u hu => by obtain ⟨x9, _, rfl⟩ := List.mem_map.1 hu; rfl) (by rw [List.length_append, List.length_map, List.length_replicate]; omega) (st_bytes (by omega)) rfl rfl ?_
            refine sy_nil rfl (ny_zy hB28_10 (Hp.Le.refl _) ?_)
            refine zy_q 11 rfl (by kernel_rfl) (fun hB28_11 => ?_)
            refine sy_addi (z := (((repl (s.data.toList.take i)).length + 2 : Nat) : Int)) rfl rfl (by omega) (by omega) (by omega) rfl rfl ?_
            refine sy_nil1 (ny_zq hB28_11 ?_)
            refine zy_q 12 rfl (by kernel_rfl) (fun hB28_12 => ?_)
            refine sy_assign rfl rfl rfl ?_
            refine sy_nil1 (ny_zq hB28_12 ?_)
            refine zy_done (by kernel_rfl) ?_
            refine ny_blockN ?_
            refine ny_next ?_
            refine cy_region ?_
            refine sy_move rfl rfl rfl ?_
            refine sy_addi (z := ((i + 1 : Nat) : Int)) rfl rfl (by omega) (by omega) (by omega) rfl rfl ?_
            refine sy_assign rfl rfl rfl ?_
            refine sy_nil rfl ?_
            refine ny_roundK [0, 1, 12] (i + 1) [0] (show i + 1 ≤ s.size by omega) (show s.size - (i + 1) < s.size - i by omega) rfl ⟨congrArg (fun z : Nat => some (Value.int .i64 (z : Int))) (by rw [repl_snoc he0, List.length_append, one_sp hc101, hr2]), rfl, trivial⟩ rfl (by rw [repl_snoc he0, one_sp hc101]; rfl)
          · rw [one_no hc101] at hroom
            simp only [List.length_cons, List.length_nil] at hroom
            refine cy_seq ?_
            refine cy_region ?_
            refine sy_move rfl rfl rfl ?_
            refine sy_move rfl rfl rfl ?_
            refine sy_move rfl rfl rfl ?_
            refine sy_idxB els_65 rfl rfl (by omega) rfl rfl ?_
            refine sy_st (vs := [bv e0]) 0 rfl rfl rfl rfl (fun w => sz_spec sz_5 w) rfl (by simp; omega) (st_byte (by omega)) rfl ?_
            refine sy_nil rfl ?_
            refine ny_next ?_
            refine cy_region ?_
            refine sy_move rfl rfl rfl ?_
            refine sy_addi (z := (((repl (s.data.toList.take i)).length + 1 : Nat) : Int)) rfl rfl (by omega) (by omega) (by omega) rfl rfl ?_
            refine sy_assign rfl rfl rfl ?_
            refine sy_nil rfl ?_
            refine ny_blockN ?_
            refine ny_next ?_
            refine cy_region ?_
            refine sy_move rfl rfl rfl ?_
            refine sy_addi (z := ((i + 1 : Nat) : Int)) rfl rfl (by omega) (by omega) (by omega) rfl rfl ?_
            refine sy_assign rfl rfl rfl ?_
            refine sy_nil rfl ?_
            refine ny_roundK [0, 1, 12] (i + 1) [0] (show i + 1 ≤ s.size by omega) (show s.size - (i + 1) < s.size - i by omega) rfl ⟨congrArg (fun z : Nat => some (Value.int .i64 (z : Int))) (by rw [repl_snoc he0, List.length_append, one_no hc101]; rfl), rfl, trivial⟩ rfl (by rw [repl_snoc he0, one_no hc101]; rfl)
        · have hie : i = s.size := by have := of_decide_eq_false hc89; omega
          subst hie
          have htk : s.data.toList.take s.size = s.data.toList := List.take_of_length_le (Nat.le_refl _)
          rw [htk, Nat.sub_self, List.replicate_zero, List.append_nil]
          refine cy_exit ?_
          refine ny_thenE ?_
          refine ny_thenE ?_
          refine ny_blockX ?_
          refine ny_next ?_
          refine cy_seq ?_
          refine cy_region ?_
          refine sy_move rfl rfl rfl ?_
          refine sy_bytesr 0 Try.underlying65 Try.underlying5 Try.underlying9 rfl rfl rfl rfl rfl rfl ?_
          refine sy_assign rfl rfl rfl ?_
          refine sy_nil rfl ?_
          refine ny_next ?_
          refine cy_ret ?_
          refine ny_finR (res1 rfl rfl) (fun w hs2 => ⟨?_, hs2.frm⟩)
          rfl
  · refine cy_seq ?_
    refine cy_region ?_
    refine sy_assign rfl rfl rfl ?_
    refine sy_nil rfl ?_
    refine ny_next ?_
    refine cy_block ?_
    refine cy_loopK (ι := Nat) [0, 1] rfl (fun i => i ≤ s.size) (fun i => s.size - i) (fun i => [(5, .int .i64 (((repl (s.data.toList.take i)).length + (s.size - i) : Nat) : Int)), (6, .bool ((s.data.toList.take i).any isSp)), (10, .int .i64 (i : Int))]) (fun i => h) (fun i => []) 0 [] (Nat.zero_le _) ⟨congrArg (fun z : Nat => some (Value.int .i64 (z : Int))) (by simp [repl]), rfl, rfl, trivial⟩ rfl rfl ?_
    rintro i hI
    have hrt := repl_take_le s.data.toList i
    have hsz : s.data.toList.length = s.size := rfl
    refine cy_seq ?_
    refine cy_seq ?_
    refine cy_region ?_
    refine sy_move rfl rfl rfl ?_
    refine sy_move rfl rfl rfl ?_
    refine sy_len rfl (len_string Try.underlying9 _) rfl rfl ?_
    refine sy_cmp rfl rfl rfl rfl rfl ?_
    refine sy_nil rfl ?_
    refine ny_next ?_
    refine cy_cond rfl (fun hc58 => ?_) (fun hc58 => ?_)
    · have hlti : i < s.size := by have := of_decide_eq_true hc58; omega
      obtain ⟨e0, he0⟩ : ∃ e0, s.data.toList[i]? = some e0 := ⟨_, List.getElem?_eq_getElem (by show i < s.size; omega)⟩
      refine cy_skip ?_
      refine ny_next ?_
      refine cy_seq ?_
      refine cy_block ?_
      refine cy_seq ?_
      refine cy_region ?_
      refine sy_move rfl rfl rfl ?_
      refine sy_move rfl rfl rfl ?_
      refine sy_idxs (u := e0) Try.underlying9 rfl rfl (by omega) (ba_at he0) rfl rfl ?_
      refine sy_assign rfl rfl rfl ?_
      refine sy_nil rfl ?_
      refine ny_next ?_
      refine cy_seq ?_
      refine cy_region ?_
      refine sy_move rfl rfl rfl ?_
      refine sy_move rfl rfl rfl ?_
      refine sy_nilCheck rfl rfl rfl ?_
      refine sy_field fld_83_0 rfl rfl rfl ?_
      refine sy_idxU (u := e0) arr_81 rfl rfl (by have := e0.toNat_lt; omega) rfl rfl ?_
      refine sy_ldh one_65 rfl (Hp.blk0 hX e0.toNat (rT_get _ _ e0)) rfl rfl ?_
      refine sy_eqsl (b := isSp e0) Try.underlying65 rfl (by simp [hN]) rfl rfl ?_
      refine sy_nil rfl ?_
      refine ny_next ?_
      refine cy_cond rfl (fun hc70 => ?_) (fun hc70 => ?_)
      · have hr2 := rep_len hc70
        refine cy_seq ?_
        refine cy_region ?_
        refine sy_move rfl rfl rfl ?_
        refine sy_move rfl rfl rfl ?_
        refine sy_move rfl rfl rfl ?_
        refine sy_nilCheck rfl rfl rfl ?_
        refine sy_field fld_83_0 rfl rfl rfl ?_
        refine sy_idxU (u := e0) arr_81 rfl rfl (by have := e0.toNat_lt; omega) rfl rfl ?_
        refine sy_ldh one_65 rfl (Hp.blk0 hX e0.toNat (rT_get _ _ e0)) rfl rfl ?_
        refine sy_len rfl (len_slice Try.underlying65 _ _ _) rfl rfl ?_
        refine sy_subi (z := 1) rfl rfl (by omega) (by omega) (by omega) rfl rfl ?_
        refine sy_addi (z := (((repl (s.data.toList.take i)).length + (s.size - i) + 1 : Nat) : Int)) rfl rfl (by omega) (by omega) (by omega) rfl rfl ?_
        refine sy_assign rfl rfl rfl ?_
        refine sy_nil rfl ?_
        refine ny_next ?_
        refine cy_region ?_
        refine sy_assign rfl rfl rfl ?_
        refine sy_nil rfl ?_
        refine ny_blockN ?_
        refine ny_next ?_
        refine cy_region ?_
        refine sy_move rfl rfl rfl ?_
        refine sy_addi (z := ((i + 1 : Nat) : Int)) rfl rfl (by omega) (by omega) (by omega) rfl rfl ?_
        refine sy_assign rfl rfl rfl ?_
        refine sy_nil rfl ?_
        refine ny_roundK [0, 1] (i + 1) [] (show i + 1 ≤ s.size by omega) (show s.size - (i + 1) < s.size - i by omega) rfl ⟨congrArg (fun z : Nat => some (Value.int .i64 (z : Int))) (by rw [repl_snoc he0, List.length_append, one_sp hc70, hr2]; omega), congrArg (fun b => some (Value.bool b)) (by rw [any_snoc he0, hc70, Bool.or_true]), rfl, trivial⟩ rfl rfl
      · refine cy_skip ?_
        refine ny_blockN ?_
        refine ny_next ?_
        refine cy_region ?_
        refine sy_move rfl rfl rfl ?_
        refine sy_addi (z := ((i + 1 : Nat) : Int)) rfl rfl (by omega) (by omega) (by omega) rfl rfl ?_
        refine sy_assign rfl rfl rfl ?_
        refine sy_nil rfl ?_
        refine ny_roundK [0, 1] (i + 1) [] (show i + 1 ≤ s.size by omega) (show s.size - (i + 1) < s.size - i by omega) rfl ⟨congrArg (fun z : Nat => some (Value.int .i64 (z : Int))) (by rw [repl_snoc he0, List.length_append, one_no hc70]; simp; omega), congrArg (fun b => some (Value.bool b)) (by rw [any_snoc he0, hc70, Bool.or_false]), rfl, trivial⟩ rfl rfl
    · have hie : i = s.size := by have := of_decide_eq_false hc58; omega
      subst hie
      have htk : s.data.toList.take s.size = s.data.toList := List.take_of_length_le (Nat.le_refl _)
      rw [htk, Nat.sub_self, Nat.add_zero]
      refine cy_exit ?_
      refine ny_thenE ?_
      refine ny_thenE ?_
      refine ny_blockX ?_
      refine ny_next ?_
      refine cy_seq ?_
      refine cy_seq ?_
      refine cy_region ?_
      refine sy_move rfl rfl rfl ?_
      refine sy_not rfl rfl rfl ?_
      refine sy_nil rfl ?_
      refine ny_next ?_
      refine cy_cond rfl (fun hc82 => ?_) (fun hc82 => ?_)
      · refine cy_seq ?_
        refine cy_region ?_
        refine sy_move rfl rfl rfl ?_
        refine sy_assign rfl rfl rfl ?_
        refine sy_nil rfl ?_
        refine ny_next ?_
        refine cy_ret ?_
        refine ny_thenR ?_
        refine ny_finR (res1 rfl rfl) (fun w hs2 => ⟨?_, hs2.frm⟩)
        have hno : s.data.toList.any isSp = false := by simpa using hc82
        rw [repl_no hno, ba_eta]
      · refine cy_skip ?_
        refine ny_next ?_
        refine cy_seq ?_
        have hN2 := repl_le s.data.toList
        have hsz : s.data.toList.length = s.size := rfl
        refine cy_region ?_
        refine sy_move rfl rfl rfl ?_
        refine sy_makeB row_65 zer_5 rfl rfl (by omega) rfl rfl (fun b85 hb85 hM85 => ?_) (by simp)
        refine sy_assign rfl rfl rfl ?_
        refine sy_nil rfl ?_
        refine ny_next ?_
        refine cy_seq ?_
        refine cy_region ?_
        refine sy_assign rfl rfl rfl ?_
        refine sy_nil rfl ?_
        refine ny_next ?_
        refine cy_seq ?_
        refine cy_seq ?_
        refine cy_region ?_
        refine sy_assign rfl rfl rfl ?_
        refine sy_nil rfl ?_
        refine ny_next ?_
        refine cy_block ?_
        refine cy_loopK (ι := Nat) [0, 1, 12] rfl (fun i => i ≤ s.size) (fun i => s.size - i) (fun i => [(13, .int .i64 (((repl (s.data.toList.take i)).length : Nat) : Int)), (14, .int .i64 (i : Int))]) (fun i => h) (fun i => [.blk b85 (.cells ((repl (s.data.toList.take i)).map bv ++ List.replicate ((repl s.data.toList).length - (repl (s.data.toList.take i)).length) (Value.int .u8 0)).toArray 5 (0, 0))]) 0 [0] (Nat.zero_le _) ⟨rfl, rfl, trivial⟩ rfl rfl ?_
        rintro i hI
        have hrt := repl_take_le s.data.toList i
        refine cy_seq ?_
        refine cy_seq ?_
        refine cy_region ?_
        refine sy_move rfl rfl rfl ?_
        refine sy_move rfl rfl rfl ?_
        refine sy_len rfl (len_string Try.underlying9 _) rfl rfl ?_
        refine sy_cmp rfl rfl rfl rfl rfl ?_
        refine sy_nil rfl ?_
        refine ny_next ?_
        refine cy_cond rfl (fun hc89 => ?_) (fun hc89 => ?_)
        · have hlti : i < s.size := by have := of_decide_eq_true hc89; omega
          obtain ⟨e0, he0⟩ : ∃ e0, s.data.toList[i]? = some e0 := ⟨_, List.getElem?_eq_getElem (by show i < s.size; omega)⟩
          have hroom := repl_room he0
          refine cy_skip ?_
          refine ny_next ?_
          refine cy_seq ?_
          refine cy_block ?_
          refine cy_seq ?_
          refine cy_region ?_
          refine sy_move rfl rfl rfl ?_
          refine sy_move rfl rfl rfl ?_
          refine sy_idxs (u := e0) Try.underlying9 rfl rfl (by omega) (ba_at he0) rfl rfl ?_
          refine sy_assign rfl rfl rfl ?_
          refine sy_nil rfl ?_
          refine ny_next ?_
          refine cy_seq ?_
          refine cy_region ?_
          refine sy_move rfl rfl rfl ?_
          refine sy_move rfl rfl rfl ?_
          refine sy_nilCheck rfl rfl rfl ?_
          refine sy_field fld_83_0 rfl rfl rfl ?_
          refine sy_idxU (u := e0) arr_81 rfl rfl (by have := e0.toNat_lt; omega) rfl rfl ?_
          refine sy_ldh one_65 rfl (Hp.blk0 hX e0.toNat (rT_get _ _ e0)) rfl rfl ?_
          refine sy_eqsl (b := isSp e0) Try.underlying65 rfl (by simp [hN]) rfl rfl ?_
          refine sy_nil rfl ?_
          refine ny_next ?_
          refine cy_cond rfl (fun hc101 => ?_) (fun hc101 => ?_)
          · have hr2 := rep_len hc101
            rw [one_sp hc101, hr2] at hroom
            have hrr := hS e0 hc101
            refine cy_regionA mixed ?_
            refine zy_q 0 rfl (by kernel_rfl) (fun hB28_0 => ?_)
            refine sy_move rfl rfl rfl ?_
            refine sy_nil1 (ny_zq hB28_0 ?_)
            refine zy_q 1 rfl (by kernel_rfl) (fun hB28_1 => ?_)
            refine sy_move rfl rfl rfl ?_
            refine sy_nil1 (ny_zq hB28_1 ?_)
            refine zy_q 2 rfl (by kernel_rfl) (fun hB28_2 => ?_)
            refine sy_move rfl rfl rfl ?_
            refine sy_nil1 (ny_zq hB28_2 ?_)
            refine zy_q 3 rfl (by kernel_rfl) (fun hB28_3 => ?_)
            refine sy_cutB els_65 rfl rfl (by omega) (by omega) rfl rfl ?_
            refine sy_nil1 (ny_zq hB28_3 ?_)
            refine zy_q 4 rfl (by kernel_rfl) (fun hB28_4 => ?_)
            refine sy_move rfl rfl rfl ?_
            refine sy_nil1 (ny_zq hB28_4 ?_)
            refine zy_q 5 rfl (by kernel_rfl) (fun hB28_5 => ?_)
            refine sy_move rfl rfl rfl ?_
            refine sy_nil1 (ny_zq hB28_5 ?_)
            refine zy_q 6 rfl (by kernel_rfl) (fun hB28_6 => ?_)
            refine sy_nilCheck rfl rfl rfl ?_
            refine sy_nil1 (ny_zq hB28_6 ?_)
            refine zy_q 7 rfl (by kernel_rfl) (fun hB28_7 => ?_)
            refine sy_field fld_83_0 rfl rfl rfl ?_
            refine sy_nil1 (ny_zq hB28_7 ?_)
            refine zy_q 8 rfl (by kernel_rfl) (fun hB28_8 => ?_)
            refine sy_idxU (u := e0) arr_81 rfl rfl (by have := e0.toNat_lt; omega) rfl rfl ?_
            refine sy_nil1 (ny_zq hB28_8 ?_)
            refine zy_q 9 rfl (by kernel_rfl) (fun hB28_9 => ?_)
            refine sy_ldh one_65 rfl (Hp.blk0 hX e0.toNat (rT_get _ _ e0)) rfl rfl ?_
            refine sy_nil1 (ny_zq hB28_9 ?_)
            refine zy_1 10 (by kernel_rfl) ?_
            refine zop_run rfl rfl (fun hB28_10 => ?_)
            refine sy_copy (news := (rep e0).map bv) 0 row_65 rfl rfl rfl (by simp) (by omega) (by omega) (by have h9 := hrr.cells (by decide) (byteC_len _); rw [byteC_flat] at h9; exact h9) (fun u hu => by obtain ⟨x9, _, rfl⟩ := List.mem_map.1 hu; rfl) (by rw [List.length_append, List.length_map, List.length_replicate]; omega) (st_bytes (by omega)) rfl rfl ?_
            refine sy_nil rfl (ny_zy hB28_10 (Hp.Le.refl _) ?_)
            refine zy_q 11 rfl (by kernel_rfl) (fun hB28_11 => ?_)
            refine sy_addi (z := (((repl (s.data.toList.take i)).length + 2 : Nat) : Int)) rfl rfl (by omega) (by omega) (by omega) rfl rfl ?_
            refine sy_nil1 (ny_zq hB28_11 ?_)
            refine zy_q 12 rfl (by kernel_rfl) (fun hB28_12 => ?_)
            refine sy_assign rfl rfl rfl ?_
            refine sy_nil1 (ny_zq hB28_12 ?_)
            refine zy_done (by kernel_rfl) ?_
            refine ny_blockN ?_
            refine ny_next ?_
            refine cy_region ?_
            refine sy_move rfl rfl rfl ?_
            refine sy_addi (z := ((i + 1 : Nat) : Int)) rfl rfl (by omega) (by omega) (by omega) rfl rfl ?_
            refine sy_assign rfl rfl rfl ?_
            refine sy_nil rfl ?_
            refine ny_roundK [0, 1, 12] (i + 1) [0] (show i + 1 ≤ s.size by omega) (show s.size - (i + 1) < s.size - i by omega) rfl ⟨congrArg (fun z : Nat => some (Value.int .i64 (z : Int))) (by rw [repl_snoc he0, List.length_append, one_sp hc101, hr2]), rfl, trivial⟩ rfl (by rw [repl_snoc he0, one_sp hc101]; rfl)
          · rw [one_no hc101] at hroom
            simp only [List.length_cons, List.length_nil] at hroom
            refine cy_seq ?_
            refine cy_region ?_
            refine sy_move rfl rfl rfl ?_
            refine sy_move rfl rfl rfl ?_
            refine sy_move rfl rfl rfl ?_
            refine sy_idxB els_65 rfl rfl (by omega) rfl rfl ?_
            refine sy_st (vs := [bv e0]) 0 rfl rfl rfl rfl (fun w => sz_spec sz_5 w) rfl (by simp; omega) (st_byte (by omega)) rfl ?_
            refine sy_nil rfl ?_
            refine ny_next ?_
            refine cy_region ?_
            refine sy_move rfl rfl rfl ?_
            refine sy_addi (z := (((repl (s.data.toList.take i)).length + 1 : Nat) : Int)) rfl rfl (by omega) (by omega) (by omega) rfl rfl ?_
            refine sy_assign rfl rfl rfl ?_
            refine sy_nil rfl ?_
            refine ny_blockN ?_
            refine ny_next ?_
            refine cy_region ?_
            refine sy_move rfl rfl rfl ?_
            refine sy_addi (z := ((i + 1 : Nat) : Int)) rfl rfl (by omega) (by omega) (by omega) rfl rfl ?_
            refine sy_assign rfl rfl rfl ?_
            refine sy_nil rfl ?_
            refine ny_roundK [0, 1, 12] (i + 1) [0] (show i + 1 ≤ s.size by omega) (show s.size - (i + 1) < s.size - i by omega) rfl ⟨congrArg (fun z : Nat => some (Value.int .i64 (z : Int))) (by rw [repl_snoc he0, List.length_append, one_no hc101]; rfl), rfl, trivial⟩ rfl (by rw [repl_snoc he0, one_no hc101]; rfl)
        · have hie : i = s.size := by have := of_decide_eq_false hc89; omega
          subst hie
          have htk : s.data.toList.take s.size = s.data.toList := List.take_of_length_le (Nat.le_refl _)
          rw [htk, Nat.sub_self, List.replicate_zero, List.append_nil]
          refine cy_exit ?_
          refine ny_thenE ?_
          refine ny_thenE ?_
          refine ny_blockX ?_
          refine ny_next ?_
          refine cy_seq ?_
          refine cy_region ?_
          refine sy_move rfl rfl rfl ?_
          refine sy_bytesr 0 Try.underlying65 Try.underlying5 Try.underlying9 rfl rfl rfl rfl rfl rfl ?_
          refine sy_assign rfl rfl rfl ?_
          refine sy_nil rfl ?_
          refine ny_next ?_
          refine cy_ret ?_
          refine ny_finR (res1 rfl rfl) (fun w hs2 => ⟨?_, hs2.frm⟩)
          rfl
theorem metR (x : Nat) (s : ByteArray) (w : World) : (callMethod (.iface 84 (.pointer (some ⟨x, 0, none⟩))) "Replace" #[.string s]).run Try.prog w = .ok (.enter 101 #[.pointer (some ⟨x, 0, none⟩), .string s]) w := by kernel_rfl
set_option maxRecDepth 100000 in
theorem replace_c (b : Nat) (s : ByteArray) (h : Hp) (hs : s.size ≤ 140737488355328) (A : Option Addr) (cO : Nat) (hO : RowsAt h A 1 (olds.map fun s => [Value.string s])) : CXM Try.prog 17 [.pointer (some ⟨b, 0, none⟩), .string s] h b (.cells [.int .u32 0, .int .i32 0, .int .u32 0, .nilIface, .slice A 6 cO].toArray 62 (0, 0)) (fun _ : Unit => .string ⟨(repl s.data.toList).toArray⟩) (fun _ _ _ => True) := by
  refine enterXM Try.func17 rfl rfl rfl (fun w hb0 => ?_)
  refine cy_seq ?_
  refine cy_region ?_
  refine sy_assign rfl rfl rfl ?_
  refine sy_nil rfl ?_
  refine ny_next ?_
  refine cy_seq ?_
  refine cy_region ?_
  refine sy_move rfl rfl rfl ?_
  refine sy_nilCheck rfl rfl rfl ?_
  refine sy_field fld_62_0 rfl rfl rfl ?_
  refine sy_move rfl rfl rfl ?_
  refine sy_bind (s := 0) rfl rfl rfl rfl ?_
  refine sy_callxm 0 call_30 rfl rfl (do_c b h (.int .u32 0) A cO hO) rfl rfl (fun x10 h10 o10 hx10 hle10 => ?_)
  obtain ⟨rfl, hR10⟩ := hx10
  refine sy_nil rfl ?_
  refine ny_next ?_
  refine cy_seq ?_
  refine cy_region ?_
  refine sy_move rfl rfl rfl ?_
  refine sy_nilCheck rfl rfl rfl ?_
  refine sy_field fld_62_1 rfl rfl rfl ?_
  first | refine sy_ldr 0 one_60 rfl rfl rfl rfl rfl ?_ | refine sy_ldr 1 one_60 rfl rfl rfl rfl rfl ?_
  refine sy_move rfl rfl rfl ?_
  refine sy_invoke rfl rfl rfl (fun w => metR x10 s w) (bsr_c x10 s _ hR10 hs) rfl rfl ?_
  refine sy_assign rfl rfl rfl ?_
  refine sy_nil rfl ?_
  refine ny_next ?_
  refine cy_ret ?_
  exact ny_finR (res1 rfl rfl) (fun w hs2 => ⟨(), h10, _, rfl, trivial, hs2.toTurn⟩)
def quoteB (s : ByteArray) (p : Bool) : ByteArray := if p = true then s else ⟨#[39]⟩ ++ ⟨(repl s.data.toList).toArray⟩ ++ ⟨#[39]⟩
set_option maxRecDepth 100000 in
theorem quote_c (s : ByteArray) (h : Hp) (p : Bool) (hs : s.size ≤ 140737488355328) (hp : ∀ h, C0 Try.prog 11 [.string s] h (.bool p)) : C0 Try.prog 10 [.string s] h (.string (quoteB s p)) := by
  refine enter0 Try.func10 rfl rfl rfl (fun w => ?_)
  refine cy_seq ?_
  refine cy_region ?_
  refine sy_assign rfl rfl rfl ?_
  refine sy_nil rfl ?_
  refine ny_next ?_
  refine cy_seq ?_
  refine cy_seq ?_
  refine cy_region ?_
  refine sy_move rfl rfl rfl ?_
  refine sy_call rfl call_11 rfl (hp _) rfl rfl ?_
  refine sy_nil rfl ?_
  refine ny_next ?_
  refine cy_cond rfl (fun hc4 => ?_) (fun hc4 => ?_)
  · refine cy_seq ?_
    refine cy_region ?_
    refine sy_move rfl rfl rfl ?_
    refine sy_assign rfl rfl rfl ?_
    refine sy_nil rfl ?_
    refine ny_next ?_
    refine cy_ret ?_
    refine ny_thenR ?_
    refine ny_finR (res1 rfl rfl) (fun w hs2 => ⟨?_, hs2.frm⟩)
    rw [hc4]
    rfl
  · refine cy_skip ?_
    refine ny_next ?_
    refine cy_seq ?_
    refine cy_region ?_
    refine sy_buildSlice rfl (fun w => bsl_46_6_0x1x2x3x4x5 w) rfl rfl (fun b6 hb6 hM6 => ?_) (by simp)
    refine sy_frz 0 rfl (by simp) (fun h6 hle6 hb6 => ?_)
    have hO6 : RowsAt h6 (some ⟨b6, 0, none⟩) 1 (olds.map fun s => [Value.string s]) := rows_blk (by decide) (fun c hc => by obtain ⟨x, _, rfl⟩ := List.mem_map.1 hc; rfl) hb6
    refine sy_callxn call_16 rfl (newRepl_c h6 (some ⟨b6, 0, none⟩) 6 hO6) rfl rfl (fun x7 b7 h7 o7 hx7 hle7 hb7 hM7 => ?_) (by simp)
    obtain ⟨A7, c7⟩ := x7
    obtain ⟨rfl, hO7⟩ := hx7
    refine sy_move rfl rfl rfl ?_
    refine sy_callxm 0 call_17 rfl rfl (replace_c b7 s h7 hs A7 c7 hO7) rfl rfl (fun x9 h9 o9 hx9 hle9 => ?_)
    refine sy_cat rfl rfl (by have h1 := repl_le s.data.toList; have h2 : s.data.toList.length = s.size := rfl; have h3 : (⟨(repl s.data.toList).toArray⟩ : ByteArray).size = (repl s.data.toList).length := rfl; have h4 : (⟨#[39]⟩ : ByteArray).size = 1 := rfl; first | omega | (simp only [ByteArray.size_append]; omega)) rfl rfl ?_
    refine sy_cat rfl rfl (by have h1 := repl_le s.data.toList; have h2 : s.data.toList.length = s.size := rfl; have h3 : (⟨(repl s.data.toList).toArray⟩ : ByteArray).size = (repl s.data.toList).length := rfl; have h4 : (⟨#[39]⟩ : ByteArray).size = 1 := rfl; first | omega | (simp only [ByteArray.size_append]; omega)) rfl rfl ?_
    refine sy_assign rfl rfl rfl ?_
    refine sy_nil rfl ?_
    refine ny_next ?_
    refine cy_ret ?_
    refine ny_finR (res1 rfl rfl) (fun w hs2 => ⟨?_, hs2.frm⟩)
    rw [hc4]
    rfl
end Go.Proofs.Ytdbeiaohibgmeaa

/- The scanner: names in marks: the walk. Conditions: as each says. Printed by a program of this session. -/
import Derived.Test.YtdbeiaohibgmeaaFactsJ
import Derived.Test.YtdbeiaohibgmeaaTokD
import Derived.Test.YtdbeiaohibgmeaaQuoPure
set_option linter.unusedVariables false
set_option linter.unusedSimpArgs false
namespace Go.Proofs.Ytdbeiaohibgmeaa
open Go.RowKit Go.Proofs.Ytdbeiaohibgmeaa.E Go.Proofs.Ytdbeiaohibgmeaa.ReplP Go.Proofs.Ytdbeiaohibgmeaa.TokP
set_option maxRecDepth 100000 in
theorem quoted_c (s : ByteArray) (h : Hp) (hs : s.size ≤ 70368744177600) (h0 : 1 ≤ s.size) : C0 Try.prog 27 [.string s] h (ansV 44 (quoA s.data.toList)) := by
  refine enter0 Try.func27 rfl rfl rfl (fun w => ?_)
  refine cy_seq ?_
  refine cy_region ?_
  refine sy_alloc zer_31 rfl rfl (fun b2 hb2 hM2 => ?_) (by simp)
  refine sy_assign rfl rfl rfl ?_
  refine sy_assign rfl rfl rfl ?_
  refine sy_nil rfl ?_
  refine ny_next ?_
  refine cy_seq ?_
  refine cy_region ?_
  refine sy_assign rfl rfl rfl ?_
  refine sy_nil rfl ?_
  refine ny_next ?_
  refine cy_seq ?_
  refine cy_seq ?_
  refine cy_region ?_
  refine sy_assign rfl rfl rfl ?_
  refine sy_nil rfl ?_
  refine ny_next ?_
  refine cy_block ?_
  refine cy_nilRow 5 1 ?_
  refine cy_loopK (ι := Nat × List UInt8 × Value) [0, 2] rfl (fun z => z.1 ≤ s.size ∧ z.2.1.length ≤ z.1 ∧ quoL (s.data.toList.drop z.1) z.2.1 z.1 = quoA s.data.toList) (fun z => s.size - z.1) (fun z => [(5, z.2.2), (6, .int .i64 (z.1 : Int))]) (fun z => h) (fun z => [Res.row z.2.2 5 1 (z.2.1).length ((z.2.1).map bv), .blk b2 (.cells [.int .i64 0, .string ⟨#[]⟩, .int .i64 0, .bool false, .bool false].toArray 31 (0, 0))]) (1, [], .slice none 0 0) [0, 0] ⟨h0, Nat.zero_le _, rfl⟩ ⟨rfl, rfl, trivial⟩ rfl rfl ?_
  rintro ⟨i, out, v5⟩ ⟨hI, hol, hpre⟩
  simp only at hI hol hpre ⊢
  refine cy_seq ?_
  refine cy_seq ?_
  refine cy_region ?_
  refine sy_move rfl rfl rfl ?_
  refine sy_move rfl rfl rfl ?_
  refine sy_len rfl (len_string Try.underlying9 _) rfl rfl ?_
  refine sy_cmp rfl rfl rfl rfl rfl ?_
  refine sy_nil rfl ?_
  refine ny_next ?_
  refine cy_cond rfl (fun hc14 => ?_) (fun hc14 => ?_)
  · have hlti : i < s.size := by have := of_decide_eq_true hc14; omega
    obtain ⟨e0, he0⟩ : ∃ e0, s.data.toList[i]? = some e0 := ⟨_, List.getElem?_eq_getElem (by show i < s.size; omega)⟩
    refine cy_skip ?_
    refine ny_next ?_
    refine cy_seq ?_
    refine cy_block ?_
    refine cy_seq ?_
    refine cy_region ?_
    refine sy_move rfl rfl rfl ?_
    refine sy_move rfl rfl rfl ?_
    refine sy_idxs (u := e0) Try.underlying9 rfl rfl (by omega) (ba_at he0) rfl rfl ?_
    refine sy_assign rfl rfl rfl ?_
    refine sy_nil rfl ?_
    refine ny_next ?_
    refine cy_seq ?_
    refine cy_region ?_
    refine sy_move rfl rfl rfl ?_
    refine sy_addi (z := ((i + 1 : Nat) : Int)) rfl rfl (by omega) (by omega) (by omega) rfl rfl ?_
    refine sy_move rfl rfl rfl ?_
    refine sy_len rfl (len_string Try.underlying9 _) rfl rfl ?_
    refine sy_cmp rfl rfl rfl rfl rfl ?_
    refine sy_assign rfl rfl rfl ?_
    refine sy_nil rfl ?_
    refine ny_next ?_
    refine cy_seq ?_
    refine cy_block ?_
    refine cy_seq ?_
    refine cy_region ?_
    refine sy_move rfl rfl rfl ?_
    refine sy_cmp rfl rfl rfl rfl rfl ?_
    refine sy_move rfl rfl rfl ?_
    refine sy_cond (d := 28) _ rfl rfl (fun hg28 => ?_) (fun hg28 => ?_)
    · have h39 : e0 = 39 := UInt8.toNat_inj.1 (by have h9 : (e0.toNat : Int) = 39 := (by simpa using hg28); show e0.toNat = 39; omega)
      refine sy_move rfl rfl rfl ?_
      refine sy_pickT rfl rfl rfl rfl ?_
      refine sy_move rfl rfl rfl ?_
      refine sy_cond (d := 31) _ rfl rfl (fun hg31 => ?_) (fun hg31 => ?_)
      · have hmo : i + 1 < s.size := by have := of_decide_eq_true hg31; omega
        obtain ⟨e1, he1⟩ : ∃ e1, s.data.toList[i + 1]? = some e1 := ⟨_, List.getElem?_eq_getElem (by show i + 1 < s.size; omega)⟩
        refine sy_move rfl rfl rfl ?_
        refine sy_move rfl rfl rfl ?_
        refine sy_addi (z := ((i + 1 : Nat) : Int)) rfl rfl (by omega) (by omega) (by omega) rfl rfl ?_
        refine sy_idxs (u := e1) Try.underlying9 rfl rfl (by omega) (ba_at he1) rfl rfl ?_
        refine sy_cmp rfl rfl rfl rfl rfl ?_
        refine sy_pickT rfl rfl rfl rfl ?_
        refine sy_assign rfl rfl rfl ?_
        refine sy_nil rfl ?_
        refine ny_next ?_
        refine cy_cond rfl (fun hc25 => ?_) (fun hc25 => ?_)
        · have h39b : e1 = 39 := UInt8.toNat_inj.1 (by have h9 : (e1.toNat : Int) = 39 := (by simpa using hc25); show e1.toNat = 39; omega)
          refine cy_region ?_
          refine sy_move rfl rfl rfl ?_
          refine sy_addi (z := ((i + 1 : Nat) : Int)) rfl rfl (by omega) (by omega) (by omega) rfl rfl ?_
          refine sy_assign rfl rfl rfl ?_
          refine sy_nil rfl ?_
          refine ny_blockN ?_
          refine ny_next ?_
          refine cy_region ?_
          refine sy_move rfl rfl rfl ?_
          refine sy_move rfl rfl rfl ?_
          refine sy_buildSlice rfl (fun w => bsl_65_1_0 w) rfl rfl (fun b80 hb80 hM80 => ?_) (by simp)
          refine sy_append 1 0 row_65 (by decide) rfl rfl rfl rfl rfl rfl (by omega) (by simp only [maxLen]; omega) rfl rfl (fun v81 => ?_)
          refine sy_assign rfl rfl rfl ?_
          refine sy_nil rfl ?_
          refine ny_blockN ?_
          refine ny_next ?_
          refine cy_region ?_
          refine sy_move rfl rfl rfl ?_
          refine sy_addi (z := ((i + 1 + 1 : Nat) : Int)) rfl rfl (by omega) (by omega) (by omega) rfl rfl ?_
          refine sy_assign rfl rfl rfl ?_
          refine sy_nil rfl ?_
          refine ny_roundK [0, 2] (i + 2, out ++ [e0], v81) [0, 1] ⟨by omega, by show (out ++ [e0]).length ≤ i + 2; rw [List.length_append]; simp; omega, (quo_markC he0 h39 he1 h39b).trans hpre⟩ (show s.size - (i + 2) < s.size - i by omega) rfl ⟨rfl, rfl, trivial⟩ rfl (by show _ = some [Res.row v81 5 1 (out ++ [e0]).length ((out ++ [e0]).map bv), .blk b2 (.cells [.int .i64 0, .string ⟨#[]⟩, .int .i64 0, .bool false, .bool false].toArray 31 (0, 0))]; rw [List.length_append, List.map_append]; rfl)
        · refine cy_seq ?_
          refine cy_region ?_
          refine sy_move rfl rfl rfl ?_
          refine sy_cmp rfl rfl rfl rfl rfl ?_
          refine sy_setT (d := 42) rfl rfl hg28 ?_
          refine sy_assign rfl rfl rfl ?_
          refine sy_nil rfl ?_
          refine ny_next ?_
          refine cy_condT rfl ?_
          refine cy_seq ?_
          refine cy_region ?_
          refine sy_move rfl rfl rfl ?_
          refine sy_frzRow 0 rfl (fun _ _ => by simp) (fun A9 c9 h9 hv9 hlc9 hcm9 _ hle9 hcell9 => ?_)
          subst hv9
          have hr9 : RowsAt h9 A9 1 (out.map byteC) := rows_row (by decide) (byteC_len _) (by rw [byteC_flat]; exact hcell9)
          refine sy_bytesh Try.underlying65 Try.underlying5 Try.underlying9 rfl hr9 rfl rfl rfl ?_
          refine sy_build rfl (fun w => bld_31_0x1x3 w) rfl rfl ?_
          refine sy_move rfl rfl rfl ?_
          refine sy_addi (z := ((i + 1 : Nat) : Int)) rfl rfl (by omega) (by omega) (by omega) rfl rfl ?_
          first | refine sy_stl 0 sz_31 rfl rfl rfl rfl rfl rfl rfl rfl ?_ | refine sy_stl 1 sz_31 rfl rfl rfl rfl rfl rfl rfl rfl ?_ | refine sy_stl 2 sz_31 rfl rfl rfl rfl rfl rfl rfl rfl ?_ | refine sy_stl 3 sz_31 rfl rfl rfl rfl rfl rfl rfl rfl ?_
          refine sy_assign rfl rfl rfl ?_
          refine sy_assign rfl rfl rfl ?_
          refine sy_nil rfl ?_
          refine ny_next ?_
          refine cy_ret ?_
          refine ny_blockR ?_
          refine ny_thenR ?_
          refine ny_blockR ?_
          refine ny_thenR ?_
          refine ny_thenR ?_
          refine ny_blockR ?_
          refine ny_thenR ?_
          first | refine ny_finR (rescT 0 rfl agg_31 rfl rfl rfl rfl rfl) (fun w hs2 => ⟨?_, hs2.frm⟩) | refine ny_finR (rescT 1 rfl agg_31 rfl rfl rfl rfl rfl) (fun w hs2 => ⟨?_, hs2.frm⟩) | refine ny_finR (rescT 2 rfl agg_31 rfl rfl rfl rfl rfl) (fun w hs2 => ⟨?_, hs2.frm⟩) | refine ny_finR (rescT 3 rfl agg_31 rfl rfl rfl rfl rfl) (fun w hs2 => ⟨?_, hs2.frm⟩)
          rw [← hpre, quo_endC he0 h39 (by first | (intro d9 hd9; rw [he1] at hd9; injection hd9 with hd9; subst hd9; intro h9; rw [h9] at hc25; simp at hc25; done) | (intro d9 hd9; have h8 := (List.getElem?_eq_some_iff.1 hd9).1; have h9 := of_decide_eq_false hg31; have h7 : s.data.toList.length = s.size := rfl; omega))]
          rfl
      · refine sy_skip rfl rfl rfl ?_
        refine sy_skip rfl rfl rfl ?_
        refine sy_skip rfl rfl rfl ?_
        refine sy_skip rfl rfl rfl ?_
        refine sy_skip rfl rfl rfl ?_
        refine sy_pickF rfl rfl rfl rfl ?_
        refine sy_assign rfl rfl rfl ?_
        refine sy_nil rfl ?_
        refine ny_next ?_
        refine cy_condF rfl ?_
        refine cy_seq ?_
        refine cy_region ?_
        refine sy_move rfl rfl rfl ?_
        refine sy_cmp rfl rfl rfl rfl rfl ?_
        refine sy_setT (d := 42) rfl rfl hg28 ?_
        refine sy_assign rfl rfl rfl ?_
        refine sy_nil rfl ?_
        refine ny_next ?_
        refine cy_condT rfl ?_
        refine cy_seq ?_
        refine cy_region ?_
        refine sy_move rfl rfl rfl ?_
        refine sy_frzRow 0 rfl (fun _ _ => by simp) (fun A9 c9 h9 hv9 hlc9 hcm9 _ hle9 hcell9 => ?_)
        subst hv9
        have hr9 : RowsAt h9 A9 1 (out.map byteC) := rows_row (by decide) (byteC_len _) (by rw [byteC_flat]; exact hcell9)
        refine sy_bytesh Try.underlying65 Try.underlying5 Try.underlying9 rfl hr9 rfl rfl rfl ?_
        refine sy_build rfl (fun w => bld_31_0x1x3 w) rfl rfl ?_
        refine sy_move rfl rfl rfl ?_
        refine sy_addi (z := ((i + 1 : Nat) : Int)) rfl rfl (by omega) (by omega) (by omega) rfl rfl ?_
        first | refine sy_stl 0 sz_31 rfl rfl rfl rfl rfl rfl rfl rfl ?_ | refine sy_stl 1 sz_31 rfl rfl rfl rfl rfl rfl rfl rfl ?_ | refine sy_stl 2 sz_31 rfl rfl rfl rfl rfl rfl rfl rfl ?_ | refine sy_stl 3 sz_31 rfl rfl rfl rfl rfl rfl rfl rfl ?_
        refine sy_assign rfl rfl rfl ?_
        refine sy_assign rfl rfl rfl ?_
        refine sy_nil rfl ?_
        refine ny_next ?_
        refine cy_ret ?_
        refine ny_blockR ?_
        refine ny_thenR ?_
        refine ny_blockR ?_
        refine ny_thenR ?_
        refine ny_thenR ?_
        refine ny_blockR ?_
        refine ny_thenR ?_
        first | refine ny_finR (rescT 0 rfl agg_31 rfl rfl rfl rfl rfl) (fun w hs2 => ⟨?_, hs2.frm⟩) | refine ny_finR (rescT 1 rfl agg_31 rfl rfl rfl rfl rfl) (fun w hs2 => ⟨?_, hs2.frm⟩) | refine ny_finR (rescT 2 rfl agg_31 rfl rfl rfl rfl rfl) (fun w hs2 => ⟨?_, hs2.frm⟩) | refine ny_finR (rescT 3 rfl agg_31 rfl rfl rfl rfl rfl) (fun w hs2 => ⟨?_, hs2.frm⟩)
        rw [← hpre, quo_endC he0 h39 (by first | (intro d9 hd9; rw [he1] at hd9; injection hd9 with hd9; subst hd9; intro h9; rw [h9] at hc25; simp at hc25; done) | (intro d9 hd9; have h8 := (List.getElem?_eq_some_iff.1 hd9).1; have h9 := of_decide_eq_false hg31; have h7 : s.data.toList.length = s.size := rfl; omega))]
        rfl
    · have h39n : ¬ e0 = 39 := by
        intro h9
        rw [h9] at hg28
        simp at hg28
      refine sy_skip rfl rfl rfl ?_
      refine sy_pickF rfl rfl rfl rfl ?_
      refine sy_move rfl rfl rfl ?_
      refine sy_skip rfl rfl rfl ?_
      refine sy_skip rfl rfl rfl ?_
      refine sy_skip rfl rfl rfl ?_
      refine sy_skip rfl rfl rfl ?_
      refine sy_skip rfl rfl rfl ?_
      refine sy_pickF rfl rfl rfl rfl ?_
      refine sy_assign rfl rfl rfl ?_
      refine sy_nil rfl ?_
      refine ny_next ?_
      refine cy_condF rfl ?_
      refine cy_seq ?_
      refine cy_region ?_
      refine sy_move rfl rfl rfl ?_
      refine sy_cmp rfl rfl rfl rfl rfl ?_
      refine sy_setF (d := 42) rfl rfl hg28 ?_
      refine sy_assign rfl rfl rfl ?_
      refine sy_nil rfl ?_
      refine ny_next ?_
      refine cy_condF rfl ?_
      refine cy_seq ?_
      refine cy_region ?_
      refine sy_move rfl rfl rfl ?_
      refine sy_cmp rfl rfl rfl rfl rfl ?_
      refine sy_move rfl rfl rfl ?_
      refine sy_cond (d := 51) _ rfl rfl (fun hg51 => ?_) (fun hg51 => ?_)
      · have h92 : e0 = 92 := UInt8.toNat_inj.1 (by have h9 : (e0.toNat : Int) = 92 := (by simpa using hg51); show e0.toNat = 92; omega)
        refine sy_move rfl rfl rfl ?_
        refine sy_pickT rfl rfl rfl rfl ?_
        refine sy_assign rfl rfl rfl ?_
        refine sy_nil rfl ?_
        refine ny_next ?_
        refine cy_cond rfl (fun hc48 => ?_) (fun hc48 => ?_)
        · have hmo : i + 1 < s.size := by have := of_decide_eq_true hc48; omega
          obtain ⟨e1, he1⟩ : ∃ e1, s.data.toList[i + 1]? = some e1 := ⟨_, List.getElem?_eq_getElem (by show i + 1 < s.size; omega)⟩
          refine cy_seq ?_
          refine cy_region ?_
          refine sy_move rfl rfl rfl ?_
          refine sy_move rfl rfl rfl ?_
          refine sy_addi (z := ((i + 1 : Nat) : Int)) rfl rfl (by omega) (by omega) (by omega) rfl rfl ?_
          refine sy_idxs (u := e1) Try.underlying9 rfl rfl (by omega) (ba_at he1) rfl rfl ?_
          refine sy_call rfl call_32 rfl (esc_c e1 _) rfl rfl ?_
          refine sy_move rfl rfl rfl ?_
          refine sy_extract rfl rfl rfl rfl ?_
          refine sy_extract rfl rfl rfl rfl ?_
          refine sy_assign rfl rfl rfl ?_
          refine sy_assign rfl rfl rfl ?_
          refine sy_nil rfl ?_
          refine ny_next ?_
          refine cy_seq ?_
          refine cy_seq ?_
          refine cy_region ?_
          refine sy_move rfl rfl rfl ?_
          refine sy_not rfl rfl rfl ?_
          refine sy_nil rfl ?_
          refine ny_next ?_
          refine cy_cond rfl (fun hc63 => ?_) (fun hc63 => ?_)
          · refine cy_seq ?_
            refine cy_region ?_
            refine sy_build rfl (fun w => bld_31_ w) rfl rfl ?_
            refine sy_call rfl call_13 rfl (bad_c _ _ _) rfl rfl ?_
            first | refine sy_stl 0 sz_31 rfl rfl rfl rfl rfl rfl rfl rfl ?_ | refine sy_stl 1 sz_31 rfl rfl rfl rfl rfl rfl rfl rfl ?_ | refine sy_stl 2 sz_31 rfl rfl rfl rfl rfl rfl rfl rfl ?_ | refine sy_stl 3 sz_31 rfl rfl rfl rfl rfl rfl rfl rfl ?_
            refine sy_assign rfl rfl rfl ?_
            refine sy_assign rfl rfl rfl ?_
            refine sy_nil rfl ?_
            refine ny_next ?_
            refine cy_ret ?_
            refine ny_thenR ?_
            refine ny_blockR ?_
            refine ny_thenR ?_
            refine ny_blockR ?_
            refine ny_thenR ?_
            refine ny_thenR ?_
            refine ny_blockR ?_
            refine ny_thenR ?_
            first | refine ny_finR (rescT 0 rfl agg_31 rfl rfl rfl rfl rfl) (fun w hs2 => ⟨?_, hs2.frm⟩) | refine ny_finR (rescT 1 rfl agg_31 rfl rfl rfl rfl rfl) (fun w hs2 => ⟨?_, hs2.frm⟩) | refine ny_finR (rescT 2 rfl agg_31 rfl rfl rfl rfl rfl) (fun w hs2 => ⟨?_, hs2.frm⟩) | refine ny_finR (rescT 3 rfl agg_31 rfl rfl rfl rfl rfl) (fun w hs2 => ⟨?_, hs2.frm⟩)
            rw [← hpre, quo_badC he0 h92 he1 (Option.not_isSome_iff_eq_none.1 (by simpa using hc63))]
            rfl
          · obtain ⟨x1, hx1⟩ : ∃ x1, esc e1 = some x1 := Option.isSome_iff_exists.1 (by simpa using hc63)
            rw [show (esc e1).getD 0 = x1 by rw [hx1]; rfl]
            refine cy_skip ?_
            refine ny_next ?_
            refine cy_seq ?_
            refine cy_region ?_
            refine sy_move rfl rfl rfl ?_
            refine sy_assign rfl rfl rfl ?_
            refine sy_nil rfl ?_
            refine ny_next ?_
            refine cy_region ?_
            refine sy_move rfl rfl rfl ?_
            refine sy_addi (z := ((i + 1 : Nat) : Int)) rfl rfl (by omega) (by omega) (by omega) rfl rfl ?_
            refine sy_assign rfl rfl rfl ?_
            refine sy_nil rfl ?_
            refine ny_blockN ?_
            refine ny_next ?_
            refine cy_region ?_
            refine sy_move rfl rfl rfl ?_
            refine sy_move rfl rfl rfl ?_
            refine sy_buildSlice rfl (fun w => bsl_65_1_0 w) rfl rfl (fun b80 hb80 hM80 => ?_) (by simp)
            refine sy_append 1 0 row_65 (by decide) rfl rfl rfl rfl rfl rfl (by omega) (by simp only [maxLen]; omega) rfl rfl (fun v81 => ?_)
            refine sy_assign rfl rfl rfl ?_
            refine sy_nil rfl ?_
            refine ny_blockN ?_
            refine ny_next ?_
            refine cy_region ?_
            refine sy_move rfl rfl rfl ?_
            refine sy_addi (z := ((i + 1 + 1 : Nat) : Int)) rfl rfl (by omega) (by omega) (by omega) rfl rfl ?_
            refine sy_assign rfl rfl rfl ?_
            refine sy_nil rfl ?_
            refine ny_roundK [0, 2] (i + 2, out ++ [x1], v81) [0, 1] ⟨by omega, by show (out ++ [x1]).length ≤ i + 2; rw [List.length_append]; simp; omega, (quo_escC he0 h92 he1 hx1).trans hpre⟩ (show s.size - (i + 2) < s.size - i by omega) rfl ⟨rfl, rfl, trivial⟩ rfl (by show _ = some [Res.row v81 5 1 (out ++ [x1]).length ((out ++ [x1]).map bv), .blk b2 (.cells [.int .i64 0, .string ⟨#[]⟩, .int .i64 0, .bool false, .bool false].toArray 31 (0, 0))]; rw [List.length_append, List.map_append]; rfl)
        · refine cy_seq ?_
          refine cy_region ?_
          refine sy_move rfl rfl rfl ?_
          refine sy_cmp rfl rfl rfl rfl rfl ?_
          refine sy_setT (d := 71) rfl rfl hg51 ?_
          refine sy_move rfl rfl rfl ?_
          refine sy_skip rfl rfl rfl ?_
          refine sy_skip rfl rfl rfl ?_
          refine sy_pickT rfl rfl rfl rfl ?_
          refine sy_assign rfl rfl rfl ?_
          refine sy_nil rfl ?_
          refine ny_next ?_
          refine cy_condT rfl ?_
          refine cy_seq ?_
          refine cy_region ?_
          refine sy_build rfl (fun w => bld_31_ w) rfl rfl ?_
          refine sy_call rfl call_13 rfl (bad_c _ _ _) rfl rfl ?_
          first | refine sy_stl 0 sz_31 rfl rfl rfl rfl rfl rfl rfl rfl ?_ | refine sy_stl 1 sz_31 rfl rfl rfl rfl rfl rfl rfl rfl ?_ | refine sy_stl 2 sz_31 rfl rfl rfl rfl rfl rfl rfl rfl ?_ | refine sy_stl 3 sz_31 rfl rfl rfl rfl rfl rfl rfl rfl ?_
          refine sy_assign rfl rfl rfl ?_
          refine sy_assign rfl rfl rfl ?_
          refine sy_nil rfl ?_
          refine ny_next ?_
          refine cy_ret ?_
          refine ny_blockR ?_
          refine ny_thenR ?_
          refine ny_blockR ?_
          refine ny_thenR ?_
          refine ny_thenR ?_
          refine ny_blockR ?_
          refine ny_thenR ?_
          first | refine ny_finR (rescT 0 rfl agg_31 rfl rfl rfl rfl rfl) (fun w hs2 => ⟨?_, hs2.frm⟩) | refine ny_finR (rescT 1 rfl agg_31 rfl rfl rfl rfl rfl) (fun w hs2 => ⟨?_, hs2.frm⟩) | refine ny_finR (rescT 2 rfl agg_31 rfl rfl rfl rfl rfl) (fun w hs2 => ⟨?_, hs2.frm⟩) | refine ny_finR (rescT 3 rfl agg_31 rfl rfl rfl rfl rfl) (fun w hs2 => ⟨?_, hs2.frm⟩)
          first | (rw [← hpre, quo_slashC he0 h92 (by have h9 := of_decide_eq_false hc48; have h7 : s.data.toList.length = s.size := rfl; omega)]; rfl) | (rw [← hpre, quo_low he0 h39n h92n (of_decide_eq_true hc69)]; rfl)
      · have h92n : ¬ e0 = 92 := by
          intro h9
          rw [h9] at hg51
          simp at hg51
        refine sy_skip rfl rfl rfl ?_
        refine sy_pickF rfl rfl rfl rfl ?_
        refine sy_assign rfl rfl rfl ?_
        refine sy_nil rfl ?_
        refine ny_next ?_
        refine cy_condF rfl ?_
        refine cy_seq ?_
        refine cy_region ?_
        refine sy_move rfl rfl rfl ?_
        refine sy_cmp rfl rfl rfl rfl rfl ?_
        refine sy_setF (d := 71) rfl rfl hg51 ?_
        refine sy_move rfl rfl rfl ?_
        refine sy_move rfl rfl rfl ?_
        refine sy_cmp rfl rfl rfl rfl rfl ?_
        refine sy_pickF rfl rfl rfl rfl ?_
        refine sy_assign rfl rfl rfl ?_
        refine sy_nil rfl ?_
        refine ny_next ?_
        refine cy_cond rfl (fun hc69 => ?_) (fun hc69 => ?_)
        · refine cy_seq ?_
          refine cy_region ?_
          refine sy_build rfl (fun w => bld_31_ w) rfl rfl ?_
          refine sy_call rfl call_13 rfl (bad_c _ _ _) rfl rfl ?_
          first | refine sy_stl 0 sz_31 rfl rfl rfl rfl rfl rfl rfl rfl ?_ | refine sy_stl 1 sz_31 rfl rfl rfl rfl rfl rfl rfl rfl ?_ | refine sy_stl 2 sz_31 rfl rfl rfl rfl rfl rfl rfl rfl ?_ | refine sy_stl 3 sz_31 rfl rfl rfl rfl rfl rfl rfl rfl ?_
          refine sy_assign rfl rfl rfl ?_
          refine sy_assign rfl rfl rfl ?_
          refine sy_nil rfl ?_
          refine ny_next ?_
          refine cy_ret ?_
          refine ny_blockR ?_
          refine ny_thenR ?_
          refine ny_blockR ?_
          refine ny_thenR ?_
          refine ny_thenR ?_
          refine ny_blockR ?_
          refine ny_thenR ?_
          first | refine ny_finR (rescT 0 rfl agg_31 rfl rfl rfl rfl rfl) (fun w hs2 => ⟨?_, hs2.frm⟩) | refine ny_finR (rescT 1 rfl agg_31 rfl rfl rfl rfl rfl) (fun w hs2 => ⟨?_, hs2.frm⟩) | refine ny_finR (rescT 2 rfl agg_31 rfl rfl rfl rfl rfl) (fun w hs2 => ⟨?_, hs2.frm⟩) | refine ny_finR (rescT 3 rfl agg_31 rfl rfl rfl rfl rfl) (fun w hs2 => ⟨?_, hs2.frm⟩)
          first | (rw [← hpre, quo_slashC he0 h92 (by have h9 := of_decide_eq_false hc48; have h7 : s.data.toList.length = s.size := rfl; omega)]; rfl) | (rw [← hpre, quo_low he0 h39n h92n (of_decide_eq_true hc69)]; rfl)
        · refine cy_skip ?_
          refine ny_blockN ?_
          refine ny_next ?_
          refine cy_region ?_
          refine sy_move rfl rfl rfl ?_
          refine sy_move rfl rfl rfl ?_
          refine sy_buildSlice rfl (fun w => bsl_65_1_0 w) rfl rfl (fun b80 hb80 hM80 => ?_) (by simp)
          refine sy_append 1 0 row_65 (by decide) rfl rfl rfl rfl rfl rfl (by omega) (by simp only [maxLen]; omega) rfl rfl (fun v81 => ?_)
          refine sy_assign rfl rfl rfl ?_
          refine sy_nil rfl ?_
          refine ny_blockN ?_
          refine ny_next ?_
          refine cy_region ?_
          refine sy_move rfl rfl rfl ?_
          refine sy_addi (z := ((i + 1 : Nat) : Int)) rfl rfl (by omega) (by omega) (by omega) rfl rfl ?_
          refine sy_assign rfl rfl rfl ?_
          refine sy_nil rfl ?_
          refine ny_roundK [0, 2] (i + 1, out ++ [e0], v81) [0, 1] ⟨by omega, by show (out ++ [e0]).length ≤ i + 1; rw [List.length_append]; simp; omega, (quo_byte he0 h39n h92n (by have h9 := of_decide_eq_false hc69; exact h9)).trans hpre⟩ (show s.size - (i + 1) < s.size - i by omega) rfl ⟨rfl, rfl, trivial⟩ rfl (by show _ = some [Res.row v81 5 1 (out ++ [e0]).length ((out ++ [e0]).map bv), .blk b2 (.cells [.int .i64 0, .string ⟨#[]⟩, .int .i64 0, .bool false, .bool false].toArray 31 (0, 0))]; rw [List.length_append, List.map_append]; rfl)
  · have hge : s.size ≤ i := by have := of_decide_eq_false hc14; omega
    refine cy_exit ?_
    refine ny_thenE ?_
    refine ny_thenE ?_
    refine ny_blockX ?_
    refine ny_next ?_
    refine cy_seq ?_
    refine cy_region ?_
    refine sy_build rfl (fun w => bld_31_ w) rfl rfl ?_
    refine sy_call rfl call_13 rfl (bad_c _ _ _) rfl rfl ?_
    first | refine sy_stl 0 sz_31 rfl rfl rfl rfl rfl rfl rfl rfl ?_ | refine sy_stl 1 sz_31 rfl rfl rfl rfl rfl rfl rfl rfl ?_ | refine sy_stl 2 sz_31 rfl rfl rfl rfl rfl rfl rfl rfl ?_ | refine sy_stl 3 sz_31 rfl rfl rfl rfl rfl rfl rfl rfl ?_
    refine sy_assign rfl rfl rfl ?_
    refine sy_assign rfl rfl rfl ?_
    refine sy_nil rfl ?_
    refine ny_next ?_
    refine cy_ret ?_
    first | refine ny_finR (rescT 0 rfl agg_31 rfl rfl rfl rfl rfl) (fun w hs2 => ⟨?_, hs2.frm⟩) | refine ny_finR (rescT 1 rfl agg_31 rfl rfl rfl rfl rfl) (fun w hs2 => ⟨?_, hs2.frm⟩) | refine ny_finR (rescT 2 rfl agg_31 rfl rfl rfl rfl rfl) (fun w hs2 => ⟨?_, hs2.frm⟩) | refine ny_finR (rescT 3 rfl agg_31 rfl rfl rfl rfl rfl) (fun w hs2 => ⟨?_, hs2.frm⟩)
    rw [← hpre, quo_none (by show s.size ≤ i; exact hge)]
    rfl
end Go.Proofs.Ytdbeiaohibgmeaa

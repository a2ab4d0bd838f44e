/- The scanner: one token: the walk. Conditions: as each says. Printed by a program of this session. -/
import Derived.Test.YtdbeiaohibgmeaaFactsK
import Derived.Test.YtdbeiaohibgmeaaTokE
import Derived.Test.YtdbeiaohibgmeaaOnePure
set_option linter.unusedVariables false
set_option linter.unusedSimpArgs false
namespace Go.Proofs.Ytdbeiaohibgmeaa
open Go.RowKit Go.Proofs.Ytdbeiaohibgmeaa.E Go.Proofs.Ytdbeiaohibgmeaa.ReplP Go.Proofs.Ytdbeiaohibgmeaa.TokP
set_option maxRecDepth 100000 in
theorem one_c (s : ByteArray) (c : UInt8) (h : Hp) (hs : s.size ≤ 70368744177600) (h0 : 1 ≤ s.size) (hc0 : s.data.toList[0]? = some c) : C0 Try.prog 15 [.string s] h (ansV 44 (oneC c s.data.toList)) := by
  refine enter0 Try.func15 rfl rfl rfl (fun w => ?_)
  refine cy_seq ?_
  refine cy_region ?_
  refine sy_alloc zer_31 rfl rfl (fun b2 hb2 hM2 => ?_) (by simp)
  refine sy_assign rfl rfl rfl ?_
  refine sy_assign rfl rfl rfl ?_
  refine sy_nil rfl ?_
  refine ny_next ?_
  refine cy_seq ?_
  refine cy_region ?_
  refine sy_move rfl rfl rfl ?_
  refine sy_idxs (u := c) Try.underlying9 rfl rfl (by decide) (ba_at (i := 0) hc0) rfl rfl ?_
  refine sy_assign rfl rfl rfl ?_
  refine sy_nil rfl ?_
  refine ny_next ?_
  refine cy_seq ?_
  refine cy_region ?_
  refine sy_build rfl (fun w => bld_31_0 w) rfl rfl ?_
  refine sy_alloc zer_31 rfl rfl (fun b6 hb6 hM6 => ?_) (by simp)
  first | refine sy_stl 0 sz_31 rfl rfl rfl rfl rfl rfl rfl rfl ?_ | refine sy_stl 1 sz_31 rfl rfl rfl rfl rfl rfl rfl rfl ?_ | refine sy_stl 2 sz_31 rfl rfl rfl rfl rfl rfl rfl rfl ?_ | refine sy_stl 3 sz_31 rfl rfl rfl rfl rfl rfl rfl rfl ?_
  refine sy_nil rfl ?_
  refine ny_next ?_
  refine cy_seq ?_
  refine cy_region ?_
  refine sy_assign rfl rfl rfl ?_
  refine sy_nil rfl ?_
  refine ny_next ?_
  refine cy_seq ?_
  refine cy_block ?_
  refine cy_seq ?_
  refine cy_region ?_
  refine sy_move rfl rfl rfl ?_
  refine sy_call rfl call_18 rfl (small_c c _) rfl rfl ?_
  refine sy_assign rfl rfl rfl ?_
  refine sy_nil rfl ?_
  refine ny_next ?_
  refine cy_cond rfl (fun hc13 => ?_) (fun hc13 => ?_)
  · refine cy_region ?_
    refine sy_move rfl rfl rfl ?_
    refine sy_call rfl call_19 rfl (row_c s 20 letterB _ (by omega) call_20 (fun c h => letter_c c h)) rfl rfl ?_
    have hrl := runB_le letterB s.data.toList
    have hsz0 : s.data.toList.length = s.size := rfl
    refine sy_assign rfl rfl rfl ?_
    refine sy_nil rfl ?_
    refine ny_blockN ?_
    refine ny_next ?_
    refine cy_seq ?_
    refine cy_region ?_
    refine sy_move rfl rfl rfl ?_
    refine sy_move rfl rfl rfl ?_
    refine sy_strto Try.underlying9 rfl rfl (by omega) rfl rfl ?_
    refine sy_field fld_31_1 rfl rfl rfl ?_
    first | refine sy_stl 0 sz_9 rfl rfl rfl rfl rfl rfl rfl rfl ?_ | refine sy_stl 1 sz_9 rfl rfl rfl rfl rfl rfl rfl rfl ?_ | refine sy_stl 2 sz_9 rfl rfl rfl rfl rfl rfl rfl rfl ?_ | refine sy_stl 3 sz_9 rfl rfl rfl rfl rfl rfl rfl rfl ?_
    refine sy_nil rfl ?_
    refine ny_next ?_
    refine cy_seq ?_
    refine cy_region ?_
    first | refine sy_ldar 0 agg_31 rfl rfl rfl rfl rfl ?_ | refine sy_ldar 1 agg_31 rfl rfl rfl rfl rfl ?_ | refine sy_ldar 2 agg_31 rfl rfl rfl rfl rfl ?_ | refine sy_ldar 3 agg_31 rfl rfl rfl rfl rfl ?_
    refine sy_move rfl rfl rfl ?_
    first | refine sy_stl 0 sz_31 rfl rfl rfl rfl rfl rfl rfl rfl ?_ | refine sy_stl 1 sz_31 rfl rfl rfl rfl rfl rfl rfl rfl ?_ | refine sy_stl 2 sz_31 rfl rfl rfl rfl rfl rfl rfl rfl ?_ | refine sy_stl 3 sz_31 rfl rfl rfl rfl rfl rfl rfl rfl ?_
    refine sy_assign rfl rfl rfl ?_
    refine sy_assign rfl rfl rfl ?_
    refine sy_nil rfl ?_
    refine ny_next ?_
    refine cy_ret ?_
    first | refine ny_finR (rescT 0 rfl agg_31 rfl rfl rfl rfl rfl) (fun w hs2 => ⟨?_, hs2.frm⟩) | refine ny_finR (rescT 1 rfl agg_31 rfl rfl rfl rfl rfl) (fun w hs2 => ⟨?_, hs2.frm⟩) | refine ny_finR (rescT 2 rfl agg_31 rfl rfl rfl rfl rfl) (fun w hs2 => ⟨?_, hs2.frm⟩) | refine ny_finR (rescT 3 rfl agg_31 rfl rfl rfl rfl rfl) (fun w hs2 => ⟨?_, hs2.frm⟩)
    unfold oneC
    simp only [*, if_true, if_false, Bool.false_eq_true, Bool.true_eq_false, Bool.or_true, Bool.true_or, Bool.or_false, Bool.false_or, ext_take]
    rfl
  · refine cy_seq ?_
    refine cy_region ?_
    refine sy_move rfl rfl rfl ?_
    refine sy_call rfl call_24 rfl (big_c c _) rfl rfl ?_
    refine sy_assign rfl rfl rfl ?_
    refine sy_nil rfl ?_
    refine ny_next ?_
    refine cy_cond rfl (fun hc18 => ?_) (fun hc18 => ?_)
    · refine cy_seq ?_
      refine cy_region ?_
      refine sy_field fld_31_0 rfl rfl rfl ?_
      first | refine sy_stl 0 sz_3 rfl rfl rfl rfl rfl rfl rfl rfl ?_ | refine sy_stl 1 sz_3 rfl rfl rfl rfl rfl rfl rfl rfl ?_ | refine sy_stl 2 sz_3 rfl rfl rfl rfl rfl rfl rfl rfl ?_ | refine sy_stl 3 sz_3 rfl rfl rfl rfl rfl rfl rfl rfl ?_
      refine sy_nil rfl ?_
      refine ny_next ?_
      refine cy_region ?_
      refine sy_move rfl rfl rfl ?_
      refine sy_call rfl call_19 rfl (row_c s 20 letterB _ (by omega) call_20 (fun c h => letter_c c h)) rfl rfl ?_
      have hrl := runB_le letterB s.data.toList
      have hsz0 : s.data.toList.length = s.size := rfl
      refine sy_assign rfl rfl rfl ?_
      refine sy_nil rfl ?_
      refine ny_blockN ?_
      refine ny_next ?_
      refine cy_seq ?_
      refine cy_region ?_
      refine sy_move rfl rfl rfl ?_
      refine sy_move rfl rfl rfl ?_
      refine sy_strto Try.underlying9 rfl rfl (by omega) rfl rfl ?_
      refine sy_field fld_31_1 rfl rfl rfl ?_
      first | refine sy_stl 0 sz_9 rfl rfl rfl rfl rfl rfl rfl rfl ?_ | refine sy_stl 1 sz_9 rfl rfl rfl rfl rfl rfl rfl rfl ?_ | refine sy_stl 2 sz_9 rfl rfl rfl rfl rfl rfl rfl rfl ?_ | refine sy_stl 3 sz_9 rfl rfl rfl rfl rfl rfl rfl rfl ?_
      refine sy_nil rfl ?_
      refine ny_next ?_
      refine cy_seq ?_
      refine cy_region ?_
      first | refine sy_ldar 0 agg_31 rfl rfl rfl rfl rfl ?_ | refine sy_ldar 1 agg_31 rfl rfl rfl rfl rfl ?_ | refine sy_ldar 2 agg_31 rfl rfl rfl rfl rfl ?_ | refine sy_ldar 3 agg_31 rfl rfl rfl rfl rfl ?_
      refine sy_move rfl rfl rfl ?_
      first | refine sy_stl 0 sz_31 rfl rfl rfl rfl rfl rfl rfl rfl ?_ | refine sy_stl 1 sz_31 rfl rfl rfl rfl rfl rfl rfl rfl ?_ | refine sy_stl 2 sz_31 rfl rfl rfl rfl rfl rfl rfl rfl ?_ | refine sy_stl 3 sz_31 rfl rfl rfl rfl rfl rfl rfl rfl ?_
      refine sy_assign rfl rfl rfl ?_
      refine sy_assign rfl rfl rfl ?_
      refine sy_nil rfl ?_
      refine ny_next ?_
      refine cy_ret ?_
      first | refine ny_finR (rescT 0 rfl agg_31 rfl rfl rfl rfl rfl) (fun w hs2 => ⟨?_, hs2.frm⟩) | refine ny_finR (rescT 1 rfl agg_31 rfl rfl rfl rfl rfl) (fun w hs2 => ⟨?_, hs2.frm⟩) | refine ny_finR (rescT 2 rfl agg_31 rfl rfl rfl rfl rfl) (fun w hs2 => ⟨?_, hs2.frm⟩) | refine ny_finR (rescT 3 rfl agg_31 rfl rfl rfl rfl rfl) (fun w hs2 => ⟨?_, hs2.frm⟩)
      unfold oneC
      simp only [*, if_true, if_false, Bool.false_eq_true, Bool.true_eq_false, Bool.or_true, Bool.true_or, Bool.or_false, Bool.false_or, ext_take]
      rfl
    · refine cy_seq ?_
      refine cy_region ?_
      refine sy_move rfl rfl rfl ?_
      refine sy_call rfl call_25 rfl (digit_c c _) rfl rfl ?_
      refine sy_assign rfl rfl rfl ?_
      refine sy_nil rfl ?_
      refine ny_next ?_
      refine cy_cond rfl (fun hc24 => ?_) (fun hc24 => ?_)
      · refine cy_seq ?_
        refine cy_region ?_
        refine sy_move rfl rfl rfl ?_
        refine sy_call rfl call_26 rfl (number_c s _ hs) rfl rfl ?_
        refine sy_extract rfl rfl rfl rfl ?_
        refine sy_extract rfl rfl rfl rfl ?_
        refine sy_extract rfl rfl rfl rfl ?_
        first | refine sy_stl 0 sz_31 rfl rfl rfl rfl rfl rfl rfl rfl ?_ | refine sy_stl 1 sz_31 rfl rfl rfl rfl rfl rfl rfl rfl ?_ | refine sy_stl 2 sz_31 rfl rfl rfl rfl rfl rfl rfl rfl ?_ | refine sy_stl 3 sz_31 rfl rfl rfl rfl rfl rfl rfl rfl ?_
        refine sy_assign rfl rfl rfl ?_
        refine sy_assign rfl rfl rfl ?_
        refine sy_nil rfl ?_
        refine ny_next ?_
        refine cy_ret ?_
        refine ny_blockR ?_
        refine ny_thenR ?_
        first | refine ny_finR (rescT 0 rfl agg_31 rfl rfl rfl rfl rfl) (fun w hs2 => ⟨?_, hs2.frm⟩) | refine ny_finR (rescT 1 rfl agg_31 rfl rfl rfl rfl rfl) (fun w hs2 => ⟨?_, hs2.frm⟩) | refine ny_finR (rescT 2 rfl agg_31 rfl rfl rfl rfl rfl) (fun w hs2 => ⟨?_, hs2.frm⟩) | refine ny_finR (rescT 3 rfl agg_31 rfl rfl rfl rfl rfl) (fun w hs2 => ⟨?_, hs2.frm⟩)
        unfold oneC
        simp only [*, if_true, if_false, Bool.false_eq_true, Bool.true_eq_false, Bool.or_true, Bool.true_or, Bool.or_false, Bool.false_or, ext_take]
        rfl
      · refine cy_seq ?_
        refine cy_region ?_
        refine sy_move rfl rfl rfl ?_
        refine sy_cmp rfl rfl rfl rfl rfl ?_
        refine sy_assign rfl rfl rfl ?_
        refine sy_nil rfl ?_
        refine ny_next ?_
        refine cy_cond rfl (fun hc32 => ?_) (fun hc32 => ?_)
        · refine cy_seq ?_
          refine cy_region ?_
          refine sy_move rfl rfl rfl ?_
          refine sy_call rfl call_27 rfl (quoted_c s _ hs h0) rfl rfl ?_
          refine sy_extract rfl rfl rfl rfl ?_
          refine sy_extract rfl rfl rfl rfl ?_
          refine sy_extract rfl rfl rfl rfl ?_
          first | refine sy_stl 0 sz_31 rfl rfl rfl rfl rfl rfl rfl rfl ?_ | refine sy_stl 1 sz_31 rfl rfl rfl rfl rfl rfl rfl rfl ?_ | refine sy_stl 2 sz_31 rfl rfl rfl rfl rfl rfl rfl rfl ?_ | refine sy_stl 3 sz_31 rfl rfl rfl rfl rfl rfl rfl rfl ?_
          refine sy_assign rfl rfl rfl ?_
          refine sy_assign rfl rfl rfl ?_
          refine sy_nil rfl ?_
          refine ny_next ?_
          refine cy_ret ?_
          refine ny_blockR ?_
          refine ny_thenR ?_
          first | refine ny_finR (rescT 0 rfl agg_31 rfl rfl rfl rfl rfl) (fun w hs2 => ⟨?_, hs2.frm⟩) | refine ny_finR (rescT 1 rfl agg_31 rfl rfl rfl rfl rfl) (fun w hs2 => ⟨?_, hs2.frm⟩) | refine ny_finR (rescT 2 rfl agg_31 rfl rfl rfl rfl rfl) (fun w hs2 => ⟨?_, hs2.frm⟩) | refine ny_finR (rescT 3 rfl agg_31 rfl rfl rfl rfl rfl) (fun w hs2 => ⟨?_, hs2.frm⟩)
          unfold oneC
          simp only [*, if_true, if_false, Bool.false_eq_true, Bool.true_eq_false, Bool.or_true, Bool.true_or, Bool.or_false, Bool.false_or, ext_take]
          rfl
        · refine cy_seq ?_
          refine cy_region ?_
          refine sy_move rfl rfl rfl ?_
          refine sy_call rfl call_28 rfl (ib_c _ c _) rfl rfl ?_
          refine sy_cmp rfl rfl rfl rfl rfl ?_
          refine sy_assign rfl rfl rfl ?_
          refine sy_nil rfl ?_
          refine ny_next ?_
          refine cy_cond rfl (fun hc40 => ?_) (fun hc40 => ?_)
          · have hpu : punctL.contains c = true := (idx_has punctL c).symm.trans hc40
            refine cy_region ?_
            refine sy_field fld_31_0 rfl rfl rfl ?_
            first | refine sy_stl 0 sz_3 rfl rfl rfl rfl rfl rfl rfl rfl ?_ | refine sy_stl 1 sz_3 rfl rfl rfl rfl rfl rfl rfl rfl ?_ | refine sy_stl 2 sz_3 rfl rfl rfl rfl rfl rfl rfl rfl ?_ | refine sy_stl 3 sz_3 rfl rfl rfl rfl rfl rfl rfl rfl ?_
            refine sy_nil rfl ?_
            refine ny_blockN ?_
            refine ny_next ?_
            refine cy_seq ?_
            refine cy_region ?_
            refine sy_move rfl rfl rfl ?_
            refine sy_move rfl rfl rfl ?_
            refine sy_strto Try.underlying9 rfl rfl (by omega) rfl rfl ?_
            refine sy_field fld_31_1 rfl rfl rfl ?_
            first | refine sy_stl 0 sz_9 rfl rfl rfl rfl rfl rfl rfl rfl ?_ | refine sy_stl 1 sz_9 rfl rfl rfl rfl rfl rfl rfl rfl ?_ | refine sy_stl 2 sz_9 rfl rfl rfl rfl rfl rfl rfl rfl ?_ | refine sy_stl 3 sz_9 rfl rfl rfl rfl rfl rfl rfl rfl ?_
            refine sy_nil rfl ?_
            refine ny_next ?_
            refine cy_seq ?_
            refine cy_region ?_
            first | refine sy_ldar 0 agg_31 rfl rfl rfl rfl rfl ?_ | refine sy_ldar 1 agg_31 rfl rfl rfl rfl rfl ?_ | refine sy_ldar 2 agg_31 rfl rfl rfl rfl rfl ?_ | refine sy_ldar 3 agg_31 rfl rfl rfl rfl rfl ?_
            refine sy_move rfl rfl rfl ?_
            first | refine sy_stl 0 sz_31 rfl rfl rfl rfl rfl rfl rfl rfl ?_ | refine sy_stl 1 sz_31 rfl rfl rfl rfl rfl rfl rfl rfl ?_ | refine sy_stl 2 sz_31 rfl rfl rfl rfl rfl rfl rfl rfl ?_ | refine sy_stl 3 sz_31 rfl rfl rfl rfl rfl rfl rfl rfl ?_
            refine sy_assign rfl rfl rfl ?_
            refine sy_assign rfl rfl rfl ?_
            refine sy_nil rfl ?_
            refine ny_next ?_
            refine cy_ret ?_
            first | refine ny_finR (rescT 0 rfl agg_31 rfl rfl rfl rfl rfl) (fun w hs2 => ⟨?_, hs2.frm⟩) | refine ny_finR (rescT 1 rfl agg_31 rfl rfl rfl rfl rfl) (fun w hs2 => ⟨?_, hs2.frm⟩) | refine ny_finR (rescT 2 rfl agg_31 rfl rfl rfl rfl rfl) (fun w hs2 => ⟨?_, hs2.frm⟩) | refine ny_finR (rescT 3 rfl agg_31 rfl rfl rfl rfl rfl) (fun w hs2 => ⟨?_, hs2.frm⟩)
            unfold oneC
            simp only [*, if_true, if_false, Bool.false_eq_true, Bool.true_eq_false, Bool.or_true, Bool.true_or, Bool.or_false, Bool.false_or, ext_take]
            rfl
          · have hpu : punctL.contains c = false := (idx_has punctL c).symm.trans hc40
            refine cy_seq ?_
            refine cy_region ?_
            refine sy_move rfl rfl rfl ?_
            refine sy_cmp rfl rfl rfl rfl rfl ?_
            refine sy_move rfl rfl rfl ?_
            refine sy_cond (d := 48) _ rfl rfl (fun hg48 => ?_) (fun hg48 => ?_)
            · refine sy_skip rfl rfl rfl ?_
              refine sy_skip rfl rfl rfl ?_
              refine sy_pickT rfl rfl rfl rfl ?_
              refine sy_assign rfl rfl rfl ?_
              refine sy_nil rfl ?_
              refine ny_next ?_
              refine cy_condT rfl ?_
              refine cy_skip ?_
              refine ny_blockN ?_
              refine ny_next ?_
              refine cy_seq ?_
              refine cy_region ?_
              refine sy_move rfl rfl rfl ?_
              refine sy_move rfl rfl rfl ?_
              refine sy_strto Try.underlying9 rfl rfl (by omega) rfl rfl ?_
              refine sy_field fld_31_1 rfl rfl rfl ?_
              first | refine sy_stl 0 sz_9 rfl rfl rfl rfl rfl rfl rfl rfl ?_ | refine sy_stl 1 sz_9 rfl rfl rfl rfl rfl rfl rfl rfl ?_ | refine sy_stl 2 sz_9 rfl rfl rfl rfl rfl rfl rfl rfl ?_ | refine sy_stl 3 sz_9 rfl rfl rfl rfl rfl rfl rfl rfl ?_
              refine sy_nil rfl ?_
              refine ny_next ?_
              refine cy_seq ?_
              refine cy_region ?_
              first | refine sy_ldar 0 agg_31 rfl rfl rfl rfl rfl ?_ | refine sy_ldar 1 agg_31 rfl rfl rfl rfl rfl ?_ | refine sy_ldar 2 agg_31 rfl rfl rfl rfl rfl ?_ | refine sy_ldar 3 agg_31 rfl rfl rfl rfl rfl ?_
              refine sy_move rfl rfl rfl ?_
              first | refine sy_stl 0 sz_31 rfl rfl rfl rfl rfl rfl rfl rfl ?_ | refine sy_stl 1 sz_31 rfl rfl rfl rfl rfl rfl rfl rfl ?_ | refine sy_stl 2 sz_31 rfl rfl rfl rfl rfl rfl rfl rfl ?_ | refine sy_stl 3 sz_31 rfl rfl rfl rfl rfl rfl rfl rfl ?_
              refine sy_assign rfl rfl rfl ?_
              refine sy_assign rfl rfl rfl ?_
              refine sy_nil rfl ?_
              refine ny_next ?_
              refine cy_ret ?_
              first | refine ny_finR (rescT 0 rfl agg_31 rfl rfl rfl rfl rfl) (fun w hs2 => ⟨?_, hs2.frm⟩) | refine ny_finR (rescT 1 rfl agg_31 rfl rfl rfl rfl rfl) (fun w hs2 => ⟨?_, hs2.frm⟩) | refine ny_finR (rescT 2 rfl agg_31 rfl rfl rfl rfl rfl) (fun w hs2 => ⟨?_, hs2.frm⟩) | refine ny_finR (rescT 3 rfl agg_31 rfl rfl rfl rfl rfl) (fun w hs2 => ⟨?_, hs2.frm⟩)
              unfold oneC
              simp only [*, if_true, if_false, Bool.false_eq_true, Bool.true_eq_false, Bool.or_true, Bool.true_or, Bool.or_false, Bool.false_or, ext_take]
              rfl
            · refine sy_move rfl rfl rfl ?_
              refine sy_cmp rfl rfl rfl rfl rfl ?_
              refine sy_pickF rfl rfl rfl rfl ?_
              refine sy_assign rfl rfl rfl ?_
              refine sy_nil rfl ?_
              refine ny_next ?_
              refine cy_cond rfl (fun hc45 => ?_) (fun hc45 => ?_)
              · refine cy_skip ?_
                refine ny_blockN ?_
                refine ny_next ?_
                refine cy_seq ?_
                refine cy_region ?_
                refine sy_move rfl rfl rfl ?_
                refine sy_move rfl rfl rfl ?_
                refine sy_strto Try.underlying9 rfl rfl (by omega) rfl rfl ?_
                refine sy_field fld_31_1 rfl rfl rfl ?_
                first | refine sy_stl 0 sz_9 rfl rfl rfl rfl rfl rfl rfl rfl ?_ | refine sy_stl 1 sz_9 rfl rfl rfl rfl rfl rfl rfl rfl ?_ | refine sy_stl 2 sz_9 rfl rfl rfl rfl rfl rfl rfl rfl ?_ | refine sy_stl 3 sz_9 rfl rfl rfl rfl rfl rfl rfl rfl ?_
                refine sy_nil rfl ?_
                refine ny_next ?_
                refine cy_seq ?_
                refine cy_region ?_
                first | refine sy_ldar 0 agg_31 rfl rfl rfl rfl rfl ?_ | refine sy_ldar 1 agg_31 rfl rfl rfl rfl rfl ?_ | refine sy_ldar 2 agg_31 rfl rfl rfl rfl rfl ?_ | refine sy_ldar 3 agg_31 rfl rfl rfl rfl rfl ?_
                refine sy_move rfl rfl rfl ?_
                first | refine sy_stl 0 sz_31 rfl rfl rfl rfl rfl rfl rfl rfl ?_ | refine sy_stl 1 sz_31 rfl rfl rfl rfl rfl rfl rfl rfl ?_ | refine sy_stl 2 sz_31 rfl rfl rfl rfl rfl rfl rfl rfl ?_ | refine sy_stl 3 sz_31 rfl rfl rfl rfl rfl rfl rfl rfl ?_
                refine sy_assign rfl rfl rfl ?_
                refine sy_assign rfl rfl rfl ?_
                refine sy_nil rfl ?_
                refine ny_next ?_
                refine cy_ret ?_
                first | refine ny_finR (rescT 0 rfl agg_31 rfl rfl rfl rfl rfl) (fun w hs2 => ⟨?_, hs2.frm⟩) | refine ny_finR (rescT 1 rfl agg_31 rfl rfl rfl rfl rfl) (fun w hs2 => ⟨?_, hs2.frm⟩) | refine ny_finR (rescT 2 rfl agg_31 rfl rfl rfl rfl rfl) (fun w hs2 => ⟨?_, hs2.frm⟩) | refine ny_finR (rescT 3 rfl agg_31 rfl rfl rfl rfl rfl) (fun w hs2 => ⟨?_, hs2.frm⟩)
                unfold oneC
                simp only [*, if_true, if_false, Bool.false_eq_true, Bool.true_eq_false, Bool.or_true, Bool.true_or, Bool.or_false, Bool.false_or, ext_take]
                rfl
              · refine cy_seq ?_
                refine cy_region ?_
                refine sy_move rfl rfl rfl ?_
                refine sy_call rfl call_29 rfl (ends_c s _ hs) rfl rfl ?_
                refine sy_assign rfl rfl rfl ?_
                refine sy_nil rfl ?_
                refine ny_next ?_
                refine cy_cond rfl (fun hc52 => ?_) (fun hc52 => ?_)
                · refine cy_region ?_
                  refine sy_field fld_31_0 rfl rfl rfl ?_
                  first | refine sy_stl 0 sz_3 rfl rfl rfl rfl rfl rfl rfl rfl ?_ | refine sy_stl 1 sz_3 rfl rfl rfl rfl rfl rfl rfl rfl ?_ | refine sy_stl 2 sz_3 rfl rfl rfl rfl rfl rfl rfl rfl ?_ | refine sy_stl 3 sz_3 rfl rfl rfl rfl rfl rfl rfl rfl ?_
                  refine sy_nil rfl ?_
                  refine ny_blockN ?_
                  refine ny_next ?_
                  refine cy_seq ?_
                  refine cy_region ?_
                  refine sy_move rfl rfl rfl ?_
                  refine sy_move rfl rfl rfl ?_
                  refine sy_strto Try.underlying9 rfl rfl (by omega) rfl rfl ?_
                  refine sy_field fld_31_1 rfl rfl rfl ?_
                  first | refine sy_stl 0 sz_9 rfl rfl rfl rfl rfl rfl rfl rfl ?_ | refine sy_stl 1 sz_9 rfl rfl rfl rfl rfl rfl rfl rfl ?_ | refine sy_stl 2 sz_9 rfl rfl rfl rfl rfl rfl rfl rfl ?_ | refine sy_stl 3 sz_9 rfl rfl rfl rfl rfl rfl rfl rfl ?_
                  refine sy_nil rfl ?_
                  refine ny_next ?_
                  refine cy_seq ?_
                  refine cy_region ?_
                  first | refine sy_ldar 0 agg_31 rfl rfl rfl rfl rfl ?_ | refine sy_ldar 1 agg_31 rfl rfl rfl rfl rfl ?_ | refine sy_ldar 2 agg_31 rfl rfl rfl rfl rfl ?_ | refine sy_ldar 3 agg_31 rfl rfl rfl rfl rfl ?_
                  refine sy_move rfl rfl rfl ?_
                  first | refine sy_stl 0 sz_31 rfl rfl rfl rfl rfl rfl rfl rfl ?_ | refine sy_stl 1 sz_31 rfl rfl rfl rfl rfl rfl rfl rfl ?_ | refine sy_stl 2 sz_31 rfl rfl rfl rfl rfl rfl rfl rfl ?_ | refine sy_stl 3 sz_31 rfl rfl rfl rfl rfl rfl rfl rfl ?_
                  refine sy_assign rfl rfl rfl ?_
                  refine sy_assign rfl rfl rfl ?_
                  refine sy_nil rfl ?_
                  refine ny_next ?_
                  refine cy_ret ?_
                  first | refine ny_finR (rescT 0 rfl agg_31 rfl rfl rfl rfl rfl) (fun w hs2 => ⟨?_, hs2.frm⟩) | refine ny_finR (rescT 1 rfl agg_31 rfl rfl rfl rfl rfl) (fun w hs2 => ⟨?_, hs2.frm⟩) | refine ny_finR (rescT 2 rfl agg_31 rfl rfl rfl rfl rfl) (fun w hs2 => ⟨?_, hs2.frm⟩) | refine ny_finR (rescT 3 rfl agg_31 rfl rfl rfl rfl rfl) (fun w hs2 => ⟨?_, hs2.frm⟩)
                  unfold oneC
                  simp only [*, if_true, if_false, Bool.false_eq_true, Bool.true_eq_false, Bool.or_true, Bool.true_or, Bool.or_false, Bool.false_or, ext_take]
                  rfl
                · refine cy_seq ?_
                  refine cy_region ?_
                  refine sy_move rfl rfl rfl ?_
                  refine sy_call rfl call_21 rfl (sign_c c _) rfl rfl ?_
                  refine sy_assign rfl rfl rfl ?_
                  refine sy_nil rfl ?_
                  refine ny_next ?_
                  refine cy_cond rfl (fun hc56 => ?_) (fun hc56 => ?_)
                  · refine cy_region ?_
                    refine sy_move rfl rfl rfl ?_
                    refine sy_call rfl call_19 rfl (row_c s 21 signB _ (by omega) call_21 (fun c h => sign_c c h)) rfl rfl ?_
                    have hrl := runB_le signB s.data.toList
                    have hsz0 : s.data.toList.length = s.size := rfl
                    refine sy_assign rfl rfl rfl ?_
                    refine sy_nil rfl ?_
                    refine ny_blockN ?_
                    refine ny_next ?_
                    refine cy_seq ?_
                    refine cy_region ?_
                    refine sy_move rfl rfl rfl ?_
                    refine sy_move rfl rfl rfl ?_
                    refine sy_strto Try.underlying9 rfl rfl (by omega) rfl rfl ?_
                    refine sy_field fld_31_1 rfl rfl rfl ?_
                    first | refine sy_stl 0 sz_9 rfl rfl rfl rfl rfl rfl rfl rfl ?_ | refine sy_stl 1 sz_9 rfl rfl rfl rfl rfl rfl rfl rfl ?_ | refine sy_stl 2 sz_9 rfl rfl rfl rfl rfl rfl rfl rfl ?_ | refine sy_stl 3 sz_9 rfl rfl rfl rfl rfl rfl rfl rfl ?_
                    refine sy_nil rfl ?_
                    refine ny_next ?_
                    refine cy_seq ?_
                    refine cy_region ?_
                    first | refine sy_ldar 0 agg_31 rfl rfl rfl rfl rfl ?_ | refine sy_ldar 1 agg_31 rfl rfl rfl rfl rfl ?_ | refine sy_ldar 2 agg_31 rfl rfl rfl rfl rfl ?_ | refine sy_ldar 3 agg_31 rfl rfl rfl rfl rfl ?_
                    refine sy_move rfl rfl rfl ?_
                    first | refine sy_stl 0 sz_31 rfl rfl rfl rfl rfl rfl rfl rfl ?_ | refine sy_stl 1 sz_31 rfl rfl rfl rfl rfl rfl rfl rfl ?_ | refine sy_stl 2 sz_31 rfl rfl rfl rfl rfl rfl rfl rfl ?_ | refine sy_stl 3 sz_31 rfl rfl rfl rfl rfl rfl rfl rfl ?_
                    refine sy_assign rfl rfl rfl ?_
                    refine sy_assign rfl rfl rfl ?_
                    refine sy_nil rfl ?_
                    refine ny_next ?_
                    refine cy_ret ?_
                    first | refine ny_finR (rescT 0 rfl agg_31 rfl rfl rfl rfl rfl) (fun w hs2 => ⟨?_, hs2.frm⟩) | refine ny_finR (rescT 1 rfl agg_31 rfl rfl rfl rfl rfl) (fun w hs2 => ⟨?_, hs2.frm⟩) | refine ny_finR (rescT 2 rfl agg_31 rfl rfl rfl rfl rfl) (fun w hs2 => ⟨?_, hs2.frm⟩) | refine ny_finR (rescT 3 rfl agg_31 rfl rfl rfl rfl rfl) (fun w hs2 => ⟨?_, hs2.frm⟩)
                    unfold oneC
                    simp only [*, if_true, if_false, Bool.false_eq_true, Bool.true_eq_false, Bool.or_true, Bool.true_or, Bool.or_false, Bool.false_or, ext_take]
                    rfl
                  · refine cy_seq ?_
                    refine cy_region ?_
                    refine sy_build rfl (fun w => bld_31_ w) rfl rfl ?_
                    refine sy_call rfl call_13 rfl (bad_c _ _ _) rfl rfl ?_
                    first | refine sy_stl 0 sz_31 rfl rfl rfl rfl rfl rfl rfl rfl ?_ | refine sy_stl 1 sz_31 rfl rfl rfl rfl rfl rfl rfl rfl ?_ | refine sy_stl 2 sz_31 rfl rfl rfl rfl rfl rfl rfl rfl ?_ | refine sy_stl 3 sz_31 rfl rfl rfl rfl rfl rfl rfl rfl ?_
                    refine sy_assign rfl rfl rfl ?_
                    refine sy_assign rfl rfl rfl ?_
                    refine sy_nil rfl ?_
                    refine ny_next ?_
                    refine cy_ret ?_
                    refine ny_blockR ?_
                    refine ny_thenR ?_
                    first | refine ny_finR (rescT 0 rfl agg_31 rfl rfl rfl rfl rfl) (fun w hs2 => ⟨?_, hs2.frm⟩) | refine ny_finR (rescT 1 rfl agg_31 rfl rfl rfl rfl rfl) (fun w hs2 => ⟨?_, hs2.frm⟩) | refine ny_finR (rescT 2 rfl agg_31 rfl rfl rfl rfl rfl) (fun w hs2 => ⟨?_, hs2.frm⟩) | refine ny_finR (rescT 3 rfl agg_31 rfl rfl rfl rfl rfl) (fun w hs2 => ⟨?_, hs2.frm⟩)
                    unfold oneC
                    simp only [*, if_true, if_false, Bool.false_eq_true, Bool.true_eq_false, Bool.or_true, Bool.true_or, Bool.or_false, Bool.false_or, ext_take]
                    rfl
end Go.Proofs.Ytdbeiaohibgmeaa

/- The engine, the plain laws and the walks of this seat, part 3: what the functions answer. Conditions: as each says; printed by programs of this session. -/
import Derived.Test.YtdbeiaohibgmeaaGreatMb
set_option linter.unusedVariables false
set_option linter.unusedSimpArgs false
namespace Go.Proofs.YtdbeiaohibgmeaaGreat.TokP
open Go.RowKit Go.Proofs.YtdbeiaohibgmeaaGreat.E Go.Proofs.YtdbeiaohibgmeaaGreat.ReplP
def punctL : List UInt8 := [40, 41, 91, 93, 44, 124]
def b1 : ByteArray := ⟨#[97, 32, 98, 121, 116, 101]⟩
def firstT (k : Int) (l : List UInt8) (n : Nat) : Ans := .tok k ⟨(l.take n).toArray⟩ 0 false n
def oneC (c : UInt8) (l : List UInt8) : Ans :=
  if smallB c = true then firstT 1 l (runB letterB l) else if bigB c = true then firstT 2 l (runB letterB l) else if digitB c = true then numA l else if ((c.toNat : Int) == 39) = true then quoA l
  else if punctL.contains c = true then firstT 4 l 1 else if (((c.toNat : Int) == 33) || ((c.toNat : Int) == 59)) = true then firstT 1 l 1 else if endsB l = true then firstT 5 l 1 else if signB c = true then firstT 1 l (runB signB l) else .bad b1 4
theorem ext_take (s : ByteArray) (i : Nat) : s.extract 0 i = ⟨(s.data.toList.take i).toArray⟩ := by
  rw [← ext_to, ba_eta]
end Go.Proofs.YtdbeiaohibgmeaaGreat.TokP
set_option linter.unusedVariables false
set_option linter.unusedSimpArgs false
namespace Go.Proofs.YtdbeiaohibgmeaaGreat
open Go.RowKit Go.Proofs.YtdbeiaohibgmeaaGreat.E Go.Proofs.YtdbeiaohibgmeaaGreat.ReplP Go.Proofs.YtdbeiaohibgmeaaGreat.TokP
set_option maxRecDepth 100000 in
theorem one_c (s : ByteArray) (c : UInt8) (h : Hp) (hs : s.size ≤ 70368744177600) (h0 : 1 ≤ s.size) (hc0 : s.data.toList[0]? = some c) : C0 Tryz.prog 21 [.string s] h (ansV 63 (oneC c s.data.toList)) := by
  refine enter0 Tryz.func21 rfl rfl rfl (fun w => ?_)
  refine cy_seq ?_
  refine cy_region ?_
  refine sy_alloc zer_31 rfl rfl (fun b2 hb2 hM2 => ?_) (by simp)
  refine sy_assign rfl rfl rfl ?_
  refine sy_assign rfl rfl rfl ?_
  refine sy_nil rfl ?_
  refine ny_next ?_
  refine cy_seq ?_
  refine cy_region ?_
  refine sy_move rfl rfl rfl ?_
  refine sy_idxs (u := c) Tryz.underlying9 rfl rfl (by decide) (ba_at (i := 0) hc0) rfl rfl ?_
  refine sy_assign rfl rfl rfl ?_
  refine sy_nil rfl ?_
  refine ny_next ?_
  refine cy_seq ?_
  refine cy_region ?_
  refine sy_build rfl (fun w => bld_31_0 w) rfl rfl ?_
  refine sy_alloc zer_31 rfl rfl (fun b6 hb6 hM6 => ?_) (by simp)
  first | refine sy_stl 0 sz_31 rfl rfl rfl rfl rfl rfl rfl rfl ?_ | refine sy_stl 1 sz_31 rfl rfl rfl rfl rfl rfl rfl rfl ?_ | refine sy_stl 2 sz_31 rfl rfl rfl rfl rfl rfl rfl rfl ?_ | refine sy_stl 3 sz_31 rfl rfl rfl rfl rfl rfl rfl rfl ?_
  refine sy_nil rfl ?_
  refine ny_next ?_
  refine cy_seq ?_
  refine cy_region ?_
  refine sy_assign rfl rfl rfl ?_
  refine sy_nil rfl ?_
  refine ny_next ?_
  refine cy_seq ?_
  refine cy_block ?_
  refine cy_seq ?_
  refine cy_region ?_
  refine sy_move rfl rfl rfl ?_
  refine sy_call rfl call_10 rfl (small_c c _) rfl rfl ?_
  refine sy_assign rfl rfl rfl ?_
  refine sy_nil rfl ?_
  refine ny_next ?_
  refine cy_cond rfl (fun hc13 => ?_) (fun hc13 => ?_)
  · refine cy_region ?_
    refine sy_move rfl rfl rfl ?_
    refine sy_call rfl call_11 rfl (row_c s 12 letterB _ (by omega) call_12 (fun c h => letter_c c h)) rfl rfl ?_
    have hrl := runB_le letterB s.data.toList
    have hsz0 : s.data.toList.length = s.size := rfl
    refine sy_assign rfl rfl rfl ?_
    refine sy_nil rfl ?_
    refine ny_blockN ?_
    refine ny_next ?_
    refine cy_seq ?_
    refine cy_region ?_
    refine sy_move rfl rfl rfl ?_
    refine sy_move rfl rfl rfl ?_
    refine sy_strto Tryz.underlying9 rfl rfl (by omega) rfl rfl ?_
    refine sy_field fld_31_1 rfl rfl rfl ?_
    first | refine sy_stl 0 sz_9 rfl rfl rfl rfl rfl rfl rfl rfl ?_ | refine sy_stl 1 sz_9 rfl rfl rfl rfl rfl rfl rfl rfl ?_ | refine sy_stl 2 sz_9 rfl rfl rfl rfl rfl rfl rfl rfl ?_ | refine sy_stl 3 sz_9 rfl rfl rfl rfl rfl rfl rfl rfl ?_
    refine sy_nil rfl ?_
    refine ny_next ?_
    refine cy_seq ?_
    refine cy_region ?_
    first | refine sy_ldar 0 agg_31 rfl rfl rfl rfl rfl ?_ | refine sy_ldar 1 agg_31 rfl rfl rfl rfl rfl ?_ | refine sy_ldar 2 agg_31 rfl rfl rfl rfl rfl ?_ | refine sy_ldar 3 agg_31 rfl rfl rfl rfl rfl ?_
    refine sy_move rfl rfl rfl ?_
    first | refine sy_stl 0 sz_31 rfl rfl rfl rfl rfl rfl rfl rfl ?_ | refine sy_stl 1 sz_31 rfl rfl rfl rfl rfl rfl rfl rfl ?_ | refine sy_stl 2 sz_31 rfl rfl rfl rfl rfl rfl rfl rfl ?_ | refine sy_stl 3 sz_31 rfl rfl rfl rfl rfl rfl rfl rfl ?_
    refine sy_assign rfl rfl rfl ?_
    refine sy_assign rfl rfl rfl ?_
    refine sy_nil rfl ?_
    refine ny_next ?_
    refine cy_ret ?_
    first | refine ny_finR (rescT 0 rfl agg_31 rfl rfl rfl rfl rfl) (fun w hs2 => ⟨?_, hs2.frm⟩) | refine ny_finR (rescT 1 rfl agg_31 rfl rfl rfl rfl rfl) (fun w hs2 => ⟨?_, hs2.frm⟩) | refine ny_finR (rescT 2 rfl agg_31 rfl rfl rfl rfl rfl) (fun w hs2 => ⟨?_, hs2.frm⟩) | refine ny_finR (rescT 3 rfl agg_31 rfl rfl rfl rfl rfl) (fun w hs2 => ⟨?_, hs2.frm⟩)
    unfold oneC
    simp only [*, if_true, if_false, Bool.false_eq_true, Bool.true_eq_false, Bool.or_true, Bool.true_or, Bool.or_false, Bool.false_or, ext_take]
    rfl
  · refine cy_seq ?_
    refine cy_region ?_
    refine sy_move rfl rfl rfl ?_
    refine sy_call rfl call_22 rfl (big_c c _) rfl rfl ?_
    refine sy_assign rfl rfl rfl ?_
    refine sy_nil rfl ?_
    refine ny_next ?_
    refine cy_cond rfl (fun hc18 => ?_) (fun hc18 => ?_)
    · refine cy_seq ?_
      refine cy_region ?_
      refine sy_field fld_31_0 rfl rfl rfl ?_
      first | refine sy_stl 0 sz_3 rfl rfl rfl rfl rfl rfl rfl rfl ?_ | refine sy_stl 1 sz_3 rfl rfl rfl rfl rfl rfl rfl rfl ?_ | refine sy_stl 2 sz_3 rfl rfl rfl rfl rfl rfl rfl rfl ?_ | refine sy_stl 3 sz_3 rfl rfl rfl rfl rfl rfl rfl rfl ?_
      refine sy_nil rfl ?_
      refine ny_next ?_
      refine cy_region ?_
      refine sy_move rfl rfl rfl ?_
      refine sy_call rfl call_11 rfl (row_c s 12 letterB _ (by omega) call_12 (fun c h => letter_c c h)) rfl rfl ?_
      have hrl := runB_le letterB s.data.toList
      have hsz0 : s.data.toList.length = s.size := rfl
      refine sy_assign rfl rfl rfl ?_
      refine sy_nil rfl ?_
      refine ny_blockN ?_
      refine ny_next ?_
      refine cy_seq ?_
      refine cy_region ?_
      refine sy_move rfl rfl rfl ?_
      refine sy_move rfl rfl rfl ?_
      refine sy_strto Tryz.underlying9 rfl rfl (by omega) rfl rfl ?_
      refine sy_field fld_31_1 rfl rfl rfl ?_
      first | refine sy_stl 0 sz_9 rfl rfl rfl rfl rfl rfl rfl rfl ?_ | refine sy_stl 1 sz_9 rfl rfl rfl rfl rfl rfl rfl rfl ?_ | refine sy_stl 2 sz_9 rfl rfl rfl rfl rfl rfl rfl rfl ?_ | refine sy_stl 3 sz_9 rfl rfl rfl rfl rfl rfl rfl rfl ?_
      refine sy_nil rfl ?_
      refine ny_next ?_
      refine cy_seq ?_
      refine cy_region ?_
      first | refine sy_ldar 0 agg_31 rfl rfl rfl rfl rfl ?_ | refine sy_ldar 1 agg_31 rfl rfl rfl rfl rfl ?_ | refine sy_ldar 2 agg_31 rfl rfl rfl rfl rfl ?_ | refine sy_ldar 3 agg_31 rfl rfl rfl rfl rfl ?_
      refine sy_move rfl rfl rfl ?_
      first | refine sy_stl 0 sz_31 rfl rfl rfl rfl rfl rfl rfl rfl ?_ | refine sy_stl 1 sz_31 rfl rfl rfl rfl rfl rfl rfl rfl ?_ | refine sy_stl 2 sz_31 rfl rfl rfl rfl rfl rfl rfl rfl ?_ | refine sy_stl 3 sz_31 rfl rfl rfl rfl rfl rfl rfl rfl ?_
      refine sy_assign rfl rfl rfl ?_
      refine sy_assign rfl rfl rfl ?_
      refine sy_nil rfl ?_
      refine ny_next ?_
      refine cy_ret ?_
      first | refine ny_finR (rescT 0 rfl agg_31 rfl rfl rfl rfl rfl) (fun w hs2 => ⟨?_, hs2.frm⟩) | refine ny_finR (rescT 1 rfl agg_31 rfl rfl rfl rfl rfl) (fun w hs2 => ⟨?_, hs2.frm⟩) | refine ny_finR (rescT 2 rfl agg_31 rfl rfl rfl rfl rfl) (fun w hs2 => ⟨?_, hs2.frm⟩) | refine ny_finR (rescT 3 rfl agg_31 rfl rfl rfl rfl rfl) (fun w hs2 => ⟨?_, hs2.frm⟩)
      unfold oneC
      simp only [*, if_true, if_false, Bool.false_eq_true, Bool.true_eq_false, Bool.or_true, Bool.true_or, Bool.or_false, Bool.false_or, ext_take]
      rfl
    · refine cy_seq ?_
      refine cy_region ?_
      refine sy_move rfl rfl rfl ?_
      refine sy_call rfl call_23 rfl (digit_c c _) rfl rfl ?_
      refine sy_assign rfl rfl rfl ?_
      refine sy_nil rfl ?_
      refine ny_next ?_
      refine cy_cond rfl (fun hc24 => ?_) (fun hc24 => ?_)
      · refine cy_seq ?_
        refine cy_region ?_
        refine sy_move rfl rfl rfl ?_
        refine sy_call rfl call_31 rfl (number_c s _ hs) rfl rfl ?_
        refine sy_extract rfl rfl rfl rfl ?_
        refine sy_extract rfl rfl rfl rfl ?_
        refine sy_extract rfl rfl rfl rfl ?_
        first | refine sy_stl 0 sz_31 rfl rfl rfl rfl rfl rfl rfl rfl ?_ | refine sy_stl 1 sz_31 rfl rfl rfl rfl rfl rfl rfl rfl ?_ | refine sy_stl 2 sz_31 rfl rfl rfl rfl rfl rfl rfl rfl ?_ | refine sy_stl 3 sz_31 rfl rfl rfl rfl rfl rfl rfl rfl ?_
        refine sy_assign rfl rfl rfl ?_
        refine sy_assign rfl rfl rfl ?_
        refine sy_nil rfl ?_
        refine ny_next ?_
        refine cy_ret ?_
        refine ny_blockR ?_
        refine ny_thenR ?_
        first | refine ny_finR (rescT 0 rfl agg_31 rfl rfl rfl rfl rfl) (fun w hs2 => ⟨?_, hs2.frm⟩) | refine ny_finR (rescT 1 rfl agg_31 rfl rfl rfl rfl rfl) (fun w hs2 => ⟨?_, hs2.frm⟩) | refine ny_finR (rescT 2 rfl agg_31 rfl rfl rfl rfl rfl) (fun w hs2 => ⟨?_, hs2.frm⟩) | refine ny_finR (rescT 3 rfl agg_31 rfl rfl rfl rfl rfl) (fun w hs2 => ⟨?_, hs2.frm⟩)
        unfold oneC
        simp only [*, if_true, if_false, Bool.false_eq_true, Bool.true_eq_false, Bool.or_true, Bool.true_or, Bool.or_false, Bool.false_or, ext_take]
        rfl
      · refine cy_seq ?_
        refine cy_region ?_
        refine sy_move rfl rfl rfl ?_
        refine sy_cmp rfl rfl rfl rfl rfl ?_
        refine sy_assign rfl rfl rfl ?_
        refine sy_nil rfl ?_
        refine ny_next ?_
        refine cy_cond rfl (fun hc32 => ?_) (fun hc32 => ?_)
        · refine cy_seq ?_
          refine cy_region ?_
          refine sy_move rfl rfl rfl ?_
          refine sy_call rfl call_32 rfl (quoted_c s _ hs h0) rfl rfl ?_
          refine sy_extract rfl rfl rfl rfl ?_
          refine sy_extract rfl rfl rfl rfl ?_
          refine sy_extract rfl rfl rfl rfl ?_
          first | refine sy_stl 0 sz_31 rfl rfl rfl rfl rfl rfl rfl rfl ?_ | refine sy_stl 1 sz_31 rfl rfl rfl rfl rfl rfl rfl rfl ?_ | refine sy_stl 2 sz_31 rfl rfl rfl rfl rfl rfl rfl rfl ?_ | refine sy_stl 3 sz_31 rfl rfl rfl rfl rfl rfl rfl rfl ?_
          refine sy_assign rfl rfl rfl ?_
          refine sy_assign rfl rfl rfl ?_
          refine sy_nil rfl ?_
          refine ny_next ?_
          refine cy_ret ?_
          refine ny_blockR ?_
          refine ny_thenR ?_
          first | refine ny_finR (rescT 0 rfl agg_31 rfl rfl rfl rfl rfl) (fun w hs2 => ⟨?_, hs2.frm⟩) | refine ny_finR (rescT 1 rfl agg_31 rfl rfl rfl rfl rfl) (fun w hs2 => ⟨?_, hs2.frm⟩) | refine ny_finR (rescT 2 rfl agg_31 rfl rfl rfl rfl rfl) (fun w hs2 => ⟨?_, hs2.frm⟩) | refine ny_finR (rescT 3 rfl agg_31 rfl rfl rfl rfl rfl) (fun w hs2 => ⟨?_, hs2.frm⟩)
          unfold oneC
          simp only [*, if_true, if_false, Bool.false_eq_true, Bool.true_eq_false, Bool.or_true, Bool.true_or, Bool.or_false, Bool.false_or, ext_take]
          rfl
        · refine cy_seq ?_
          refine cy_region ?_
          refine sy_move rfl rfl rfl ?_
          refine sy_call rfl call_24 rfl (ib_c _ c _) rfl rfl ?_
          refine sy_cmp rfl rfl rfl rfl rfl ?_
          refine sy_assign rfl rfl rfl ?_
          refine sy_nil rfl ?_
          refine ny_next ?_
          refine cy_cond rfl (fun hc40 => ?_) (fun hc40 => ?_)
          · have hpu : punctL.contains c = true := (idx_has punctL c).symm.trans hc40
            refine cy_region ?_
            refine sy_field fld_31_0 rfl rfl rfl ?_
            first | refine sy_stl 0 sz_3 rfl rfl rfl rfl rfl rfl rfl rfl ?_ | refine sy_stl 1 sz_3 rfl rfl rfl rfl rfl rfl rfl rfl ?_ | refine sy_stl 2 sz_3 rfl rfl rfl rfl rfl rfl rfl rfl ?_ | refine sy_stl 3 sz_3 rfl rfl rfl rfl rfl rfl rfl rfl ?_
            refine sy_nil rfl ?_
            refine ny_blockN ?_
            refine ny_next ?_
            refine cy_seq ?_
            refine cy_region ?_
            refine sy_move rfl rfl rfl ?_
            refine sy_move rfl rfl rfl ?_
            refine sy_strto Tryz.underlying9 rfl rfl (by omega) rfl rfl ?_
            refine sy_field fld_31_1 rfl rfl rfl ?_
            first | refine sy_stl 0 sz_9 rfl rfl rfl rfl rfl rfl rfl rfl ?_ | refine sy_stl 1 sz_9 rfl rfl rfl rfl rfl rfl rfl rfl ?_ | refine sy_stl 2 sz_9 rfl rfl rfl rfl rfl rfl rfl rfl ?_ | refine sy_stl 3 sz_9 rfl rfl rfl rfl rfl rfl rfl rfl ?_
            refine sy_nil rfl ?_
            refine ny_next ?_
            refine cy_seq ?_
            refine cy_region ?_
            first | refine sy_ldar 0 agg_31 rfl rfl rfl rfl rfl ?_ | refine sy_ldar 1 agg_31 rfl rfl rfl rfl rfl ?_ | refine sy_ldar 2 agg_31 rfl rfl rfl rfl rfl ?_ | refine sy_ldar 3 agg_31 rfl rfl rfl rfl rfl ?_
            refine sy_move rfl rfl rfl ?_
            first | refine sy_stl 0 sz_31 rfl rfl rfl rfl rfl rfl rfl rfl ?_ | refine sy_stl 1 sz_31 rfl rfl rfl rfl rfl rfl rfl rfl ?_ | refine sy_stl 2 sz_31 rfl rfl rfl rfl rfl rfl rfl rfl ?_ | refine sy_stl 3 sz_31 rfl rfl rfl rfl rfl rfl rfl rfl ?_
            refine sy_assign rfl rfl rfl ?_
            refine sy_assign rfl rfl rfl ?_
            refine sy_nil rfl ?_
            refine ny_next ?_
            refine cy_ret ?_
            first | refine ny_finR (rescT 0 rfl agg_31 rfl rfl rfl rfl rfl) (fun w hs2 => ⟨?_, hs2.frm⟩) | refine ny_finR (rescT 1 rfl agg_31 rfl rfl rfl rfl rfl) (fun w hs2 => ⟨?_, hs2.frm⟩) | refine ny_finR (rescT 2 rfl agg_31 rfl rfl rfl rfl rfl) (fun w hs2 => ⟨?_, hs2.frm⟩) | refine ny_finR (rescT 3 rfl agg_31 rfl rfl rfl rfl rfl) (fun w hs2 => ⟨?_, hs2.frm⟩)
            unfold oneC
            simp only [*, if_true, if_false, Bool.false_eq_true, Bool.true_eq_false, Bool.or_true, Bool.true_or, Bool.or_false, Bool.false_or, ext_take]
            rfl
          · have hpu : punctL.contains c = false := (idx_has punctL c).symm.trans hc40
            refine cy_seq ?_
            refine cy_region ?_
            refine sy_move rfl rfl rfl ?_
            refine sy_cmp rfl rfl rfl rfl rfl ?_
            refine sy_move rfl rfl rfl ?_
            refine sy_cond (d := 48) _ rfl rfl (fun hg48 => ?_) (fun hg48 => ?_)
            · refine sy_skip rfl rfl rfl ?_
              refine sy_skip rfl rfl rfl ?_
              refine sy_pickT rfl rfl rfl rfl ?_
              refine sy_assign rfl rfl rfl ?_
              refine sy_nil rfl ?_
              refine ny_next ?_
              refine cy_condT rfl ?_
              refine cy_skip ?_
              refine ny_blockN ?_
              refine ny_next ?_
              refine cy_seq ?_
              refine cy_region ?_
              refine sy_move rfl rfl rfl ?_
              refine sy_move rfl rfl rfl ?_
              refine sy_strto Tryz.underlying9 rfl rfl (by omega) rfl rfl ?_
              refine sy_field fld_31_1 rfl rfl rfl ?_
              first | refine sy_stl 0 sz_9 rfl rfl rfl rfl rfl rfl rfl rfl ?_ | refine sy_stl 1 sz_9 rfl rfl rfl rfl rfl rfl rfl rfl ?_ | refine sy_stl 2 sz_9 rfl rfl rfl rfl rfl rfl rfl rfl ?_ | refine sy_stl 3 sz_9 rfl rfl rfl rfl rfl rfl rfl rfl ?_
              refine sy_nil rfl ?_
              refine ny_next ?_
              refine cy_seq ?_
              refine cy_region ?_
              first | refine sy_ldar 0 agg_31 rfl rfl rfl rfl rfl ?_ | refine sy_ldar 1 agg_31 rfl rfl rfl rfl rfl ?_ | refine sy_ldar 2 agg_31 rfl rfl rfl rfl rfl ?_ | refine sy_ldar 3 agg_31 rfl rfl rfl rfl rfl ?_
              refine sy_move rfl rfl rfl ?_
              first | refine sy_stl 0 sz_31 rfl rfl rfl rfl rfl rfl rfl rfl ?_ | refine sy_stl 1 sz_31 rfl rfl rfl rfl rfl rfl rfl rfl ?_ | refine sy_stl 2 sz_31 rfl rfl rfl rfl rfl rfl rfl rfl ?_ | refine sy_stl 3 sz_31 rfl rfl rfl rfl rfl rfl rfl rfl ?_
              refine sy_assign rfl rfl rfl ?_
              refine sy_assign rfl rfl rfl ?_
              refine sy_nil rfl ?_
              refine ny_next ?_
              refine cy_ret ?_
              first | refine ny_finR (rescT 0 rfl agg_31 rfl rfl rfl rfl rfl) (fun w hs2 => ⟨?_, hs2.frm⟩) | refine ny_finR (rescT 1 rfl agg_31 rfl rfl rfl rfl rfl) (fun w hs2 => ⟨?_, hs2.frm⟩) | refine ny_finR (rescT 2 rfl agg_31 rfl rfl rfl rfl rfl) (fun w hs2 => ⟨?_, hs2.frm⟩) | refine ny_finR (rescT 3 rfl agg_31 rfl rfl rfl rfl rfl) (fun w hs2 => ⟨?_, hs2.frm⟩)
              unfold oneC
              simp only [*, if_true, if_false, Bool.false_eq_true, Bool.true_eq_false, Bool.or_true, Bool.true_or, Bool.or_false, Bool.false_or, ext_take]
              rfl
            · refine sy_move rfl rfl rfl ?_
              refine sy_cmp rfl rfl rfl rfl rfl ?_
              refine sy_pickF rfl rfl rfl rfl ?_
              refine sy_assign rfl rfl rfl ?_
              refine sy_nil rfl ?_
              refine ny_next ?_
              refine cy_cond rfl (fun hc45 => ?_) (fun hc45 => ?_)
              · refine cy_skip ?_
                refine ny_blockN ?_
                refine ny_next ?_
                refine cy_seq ?_
                refine cy_region ?_
                refine sy_move rfl rfl rfl ?_
                refine sy_move rfl rfl rfl ?_
                refine sy_strto Tryz.underlying9 rfl rfl (by omega) rfl rfl ?_
                refine sy_field fld_31_1 rfl rfl rfl ?_
                first | refine sy_stl 0 sz_9 rfl rfl rfl rfl rfl rfl rfl rfl ?_ | refine sy_stl 1 sz_9 rfl rfl rfl rfl rfl rfl rfl rfl ?_ | refine sy_stl 2 sz_9 rfl rfl rfl rfl rfl rfl rfl rfl ?_ | refine sy_stl 3 sz_9 rfl rfl rfl rfl rfl rfl rfl rfl ?_
                refine sy_nil rfl ?_
                refine ny_next ?_
                refine cy_seq ?_
                refine cy_region ?_
                first | refine sy_ldar 0 agg_31 rfl rfl rfl rfl rfl ?_ | refine sy_ldar 1 agg_31 rfl rfl rfl rfl rfl ?_ | refine sy_ldar 2 agg_31 rfl rfl rfl rfl rfl ?_ | refine sy_ldar 3 agg_31 rfl rfl rfl rfl rfl ?_
                refine sy_move rfl rfl rfl ?_
                first | refine sy_stl 0 sz_31 rfl rfl rfl rfl rfl rfl rfl rfl ?_ | refine sy_stl 1 sz_31 rfl rfl rfl rfl rfl rfl rfl rfl ?_ | refine sy_stl 2 sz_31 rfl rfl rfl rfl rfl rfl rfl rfl ?_ | refine sy_stl 3 sz_31 rfl rfl rfl rfl rfl rfl rfl rfl ?_
                refine sy_assign rfl rfl rfl ?_
                refine sy_assign rfl rfl rfl ?_
                refine sy_nil rfl ?_
                refine ny_next ?_
                refine cy_ret ?_
                first | refine ny_finR (rescT 0 rfl agg_31 rfl rfl rfl rfl rfl) (fun w hs2 => ⟨?_, hs2.frm⟩) | refine ny_finR (rescT 1 rfl agg_31 rfl rfl rfl rfl rfl) (fun w hs2 => ⟨?_, hs2.frm⟩) | refine ny_finR (rescT 2 rfl agg_31 rfl rfl rfl rfl rfl) (fun w hs2 => ⟨?_, hs2.frm⟩) | refine ny_finR (rescT 3 rfl agg_31 rfl rfl rfl rfl rfl) (fun w hs2 => ⟨?_, hs2.frm⟩)
                unfold oneC
                simp only [*, if_true, if_false, Bool.false_eq_true, Bool.true_eq_false, Bool.or_true, Bool.true_or, Bool.or_false, Bool.false_or, ext_take]
                rfl
              · refine cy_seq ?_
                refine cy_region ?_
                refine sy_move rfl rfl rfl ?_
                refine sy_call rfl call_33 rfl (ends_c s _ hs) rfl rfl ?_
                refine sy_assign rfl rfl rfl ?_
                refine sy_nil rfl ?_
                refine ny_next ?_
                refine cy_cond rfl (fun hc52 => ?_) (fun hc52 => ?_)
                · refine cy_region ?_
                  refine sy_field fld_31_0 rfl rfl rfl ?_
                  first | refine sy_stl 0 sz_3 rfl rfl rfl rfl rfl rfl rfl rfl ?_ | refine sy_stl 1 sz_3 rfl rfl rfl rfl rfl rfl rfl rfl ?_ | refine sy_stl 2 sz_3 rfl rfl rfl rfl rfl rfl rfl rfl ?_ | refine sy_stl 3 sz_3 rfl rfl rfl rfl rfl rfl rfl rfl ?_
                  refine sy_nil rfl ?_
                  refine ny_blockN ?_
                  refine ny_next ?_
                  refine cy_seq ?_
                  refine cy_region ?_
                  refine sy_move rfl rfl rfl ?_
                  refine sy_move rfl rfl rfl ?_
                  refine sy_strto Tryz.underlying9 rfl rfl (by omega) rfl rfl ?_
                  refine sy_field fld_31_1 rfl rfl rfl ?_
                  first | refine sy_stl 0 sz_9 rfl rfl rfl rfl rfl rfl rfl rfl ?_ | refine sy_stl 1 sz_9 rfl rfl rfl rfl rfl rfl rfl rfl ?_ | refine sy_stl 2 sz_9 rfl rfl rfl rfl rfl rfl rfl rfl ?_ | refine sy_stl 3 sz_9 rfl rfl rfl rfl rfl rfl rfl rfl ?_
                  refine sy_nil rfl ?_
                  refine ny_next ?_
                  refine cy_seq ?_
                  refine cy_region ?_
                  first | refine sy_ldar 0 agg_31 rfl rfl rfl rfl rfl ?_ | refine sy_ldar 1 agg_31 rfl rfl rfl rfl rfl ?_ | refine sy_ldar 2 agg_31 rfl rfl rfl rfl rfl ?_ | refine sy_ldar 3 agg_31 rfl rfl rfl rfl rfl ?_
                  refine sy_move rfl rfl rfl ?_
                  first | refine sy_stl 0 sz_31 rfl rfl rfl rfl rfl rfl rfl rfl ?_ | refine sy_stl 1 sz_31 rfl rfl rfl rfl rfl rfl rfl rfl ?_ | refine sy_stl 2 sz_31 rfl rfl rfl rfl rfl rfl rfl rfl ?_ | refine sy_stl 3 sz_31 rfl rfl rfl rfl rfl rfl rfl rfl ?_
                  refine sy_assign rfl rfl rfl ?_
                  refine sy_assign rfl rfl rfl ?_
                  refine sy_nil rfl ?_
                  refine ny_next ?_
                  refine cy_ret ?_
                  first | refine ny_finR (rescT 0 rfl agg_31 rfl rfl rfl rfl rfl) (fun w hs2 => ⟨?_, hs2.frm⟩) | refine ny_finR (rescT 1 rfl agg_31 rfl rfl rfl rfl rfl) (fun w hs2 => ⟨?_, hs2.frm⟩) | refine ny_finR (rescT 2 rfl agg_31 rfl rfl rfl rfl rfl) (fun w hs2 => ⟨?_, hs2.frm⟩) | refine ny_finR (rescT 3 rfl agg_31 rfl rfl rfl rfl rfl) (fun w hs2 => ⟨?_, hs2.frm⟩)
                  unfold oneC
                  simp only [*, if_true, if_false, Bool.false_eq_true, Bool.true_eq_false, Bool.or_true, Bool.true_or, Bool.or_false, Bool.false_or, ext_take]
                  rfl
                · refine cy_seq ?_
                  refine cy_region ?_
                  refine sy_move rfl rfl rfl ?_
                  refine sy_call rfl call_13 rfl (sign_c c _) rfl rfl ?_
                  refine sy_assign rfl rfl rfl ?_
                  refine sy_nil rfl ?_
                  refine ny_next ?_
                  refine cy_cond rfl (fun hc56 => ?_) (fun hc56 => ?_)
                  · refine cy_region ?_
                    refine sy_move rfl rfl rfl ?_
                    refine sy_call rfl call_11 rfl (row_c s 13 signB _ (by omega) call_13 (fun c h => sign_c c h)) rfl rfl ?_
                    have hrl := runB_le signB s.data.toList
                    have hsz0 : s.data.toList.length = s.size := rfl
                    refine sy_assign rfl rfl rfl ?_
                    refine sy_nil rfl ?_
                    refine ny_blockN ?_
                    refine ny_next ?_
                    refine cy_seq ?_
                    refine cy_region ?_
                    refine sy_move rfl rfl rfl ?_
                    refine sy_move rfl rfl rfl ?_
                    refine sy_strto Tryz.underlying9 rfl rfl (by omega) rfl rfl ?_
                    refine sy_field fld_31_1 rfl rfl rfl ?_
                    first | refine sy_stl 0 sz_9 rfl rfl rfl rfl rfl rfl rfl rfl ?_ | refine sy_stl 1 sz_9 rfl rfl rfl rfl rfl rfl rfl rfl ?_ | refine sy_stl 2 sz_9 rfl rfl rfl rfl rfl rfl rfl rfl ?_ | refine sy_stl 3 sz_9 rfl rfl rfl rfl rfl rfl rfl rfl ?_
                    refine sy_nil rfl ?_
                    refine ny_next ?_
                    refine cy_seq ?_
                    refine cy_region ?_
                    first | refine sy_ldar 0 agg_31 rfl rfl rfl rfl rfl ?_ | refine sy_ldar 1 agg_31 rfl rfl rfl rfl rfl ?_ | refine sy_ldar 2 agg_31 rfl rfl rfl rfl rfl ?_ | refine sy_ldar 3 agg_31 rfl rfl rfl rfl rfl ?_
                    refine sy_move rfl rfl rfl ?_
                    first | refine sy_stl 0 sz_31 rfl rfl rfl rfl rfl rfl rfl rfl ?_ | refine sy_stl 1 sz_31 rfl rfl rfl rfl rfl rfl rfl rfl ?_ | refine sy_stl 2 sz_31 rfl rfl rfl rfl rfl rfl rfl rfl ?_ | refine sy_stl 3 sz_31 rfl rfl rfl rfl rfl rfl rfl rfl ?_
                    refine sy_assign rfl rfl rfl ?_
                    refine sy_assign rfl rfl rfl ?_
                    refine sy_nil rfl ?_
                    refine ny_next ?_
                    refine cy_ret ?_
                    first | refine ny_finR (rescT 0 rfl agg_31 rfl rfl rfl rfl rfl) (fun w hs2 => ⟨?_, hs2.frm⟩) | refine ny_finR (rescT 1 rfl agg_31 rfl rfl rfl rfl rfl) (fun w hs2 => ⟨?_, hs2.frm⟩) | refine ny_finR (rescT 2 rfl agg_31 rfl rfl rfl rfl rfl) (fun w hs2 => ⟨?_, hs2.frm⟩) | refine ny_finR (rescT 3 rfl agg_31 rfl rfl rfl rfl rfl) (fun w hs2 => ⟨?_, hs2.frm⟩)
                    unfold oneC
                    simp only [*, if_true, if_false, Bool.false_eq_true, Bool.true_eq_false, Bool.or_true, Bool.true_or, Bool.or_false, Bool.false_or, ext_take]
                    rfl
                  · refine cy_seq ?_
                    refine cy_region ?_
                    refine sy_build rfl (fun w => bld_31_ w) rfl rfl ?_
                    refine sy_call rfl call_19 rfl (bad_c _ _ _) rfl rfl ?_
                    first | refine sy_stl 0 sz_31 rfl rfl rfl rfl rfl rfl rfl rfl ?_ | refine sy_stl 1 sz_31 rfl rfl rfl rfl rfl rfl rfl rfl ?_ | refine sy_stl 2 sz_31 rfl rfl rfl rfl rfl rfl rfl rfl ?_ | refine sy_stl 3 sz_31 rfl rfl rfl rfl rfl rfl rfl rfl ?_
                    refine sy_assign rfl rfl rfl ?_
                    refine sy_assign rfl rfl rfl ?_
                    refine sy_nil rfl ?_
                    refine ny_next ?_
                    refine cy_ret ?_
                    refine ny_blockR ?_
                    refine ny_thenR ?_
                    first | refine ny_finR (rescT 0 rfl agg_31 rfl rfl rfl rfl rfl) (fun w hs2 => ⟨?_, hs2.frm⟩) | refine ny_finR (rescT 1 rfl agg_31 rfl rfl rfl rfl rfl) (fun w hs2 => ⟨?_, hs2.frm⟩) | refine ny_finR (rescT 2 rfl agg_31 rfl rfl rfl rfl rfl) (fun w hs2 => ⟨?_, hs2.frm⟩) | refine ny_finR (rescT 3 rfl agg_31 rfl rfl rfl rfl rfl) (fun w hs2 => ⟨?_, hs2.frm⟩)
                    unfold oneC
                    simp only [*, if_true, if_false, Bool.false_eq_true, Bool.true_eq_false, Bool.or_true, Bool.true_or, Bool.or_false, Bool.false_or, ext_take]
                    rfl
end Go.Proofs.YtdbeiaohibgmeaaGreat
set_option linter.unusedVariables false
set_option linter.unusedSimpArgs false
namespace Go.Proofs.YtdbeiaohibgmeaaGreat.TokP
open Go.RowKit Go.Proofs.YtdbeiaohibgmeaaGreat.E Go.Proofs.YtdbeiaohibgmeaaGreat.ReplP
structure Tk where
  a : Ans
  tight : Bool
def tkC (t : Tk) : List Value := [.int .i64 t.a.kind, .string t.a.str, .int .i64 t.a.num, .bool t.a.quo, .bool t.tight]
inductive Sc where
  | ok (ts : List Tk)
  | bad (at_ : Nat) (what : ByteArray) (e : Int)
def n1 : ByteArray := ⟨#[97, 32, 110, 97, 109, 101]⟩
/-- what is wrong with what was read -/
def errA (a : Ans) : Option (ByteArray × Int) := if a.err = none ∧ 64 < a.str.size then some (n1, 3) else a.err
def firstC : List UInt8 → UInt8
  | [] => 0
  | c :: _ => c
def scanF (l : List UInt8) : Nat → Nat → List Tk → Sc
  | 0, _, acc => .ok acc
  | k + 1, i, acc =>
    if i + skipN (l.drop i) = l.length then .ok acc
    else match errA (oneC (firstC (l.drop (i + skipN (l.drop i)))) (l.drop (i + skipN (l.drop i)))) with
      | some x => .bad (i + skipN (l.drop i)) x.1 x.2
      | none => scanF l k (i + skipN (l.drop i) + (oneC (firstC (l.drop (i + skipN (l.drop i)))) (l.drop (i + skipN (l.drop i)))).used) (acc ++ [⟨oneC (firstC (l.drop (i + skipN (l.drop i)))) (l.drop (i + skipN (l.drop i))), decide (skipN (l.drop i) = 0) && decide (0 < acc.length)⟩])
theorem run_first {p : UInt8 → Bool} {c : UInt8} {l : List UInt8} (h : p c = true) : 1 ≤ runB p (c :: l) := by rw [runB_yes h]; omega
theorem num_used {c : UInt8} {l : List UInt8} (h : digitB c = true) (he : (numA (c :: l)).err = none) : 1 ≤ (numA (c :: l)).used ∧ (numA (c :: l)).used ≤ (c :: l).length := by
  unfold numA at he ⊢
  split at he
  · cases he
  · rename_i h1
    rw [if_neg h1]
    split at he
    · cases he
    · rename_i h2
      rw [if_neg h2]
      exact ⟨run_first h, runB_le _ _⟩
theorem quo_used (l : List UInt8) : ∀ (m : Nat) (r out : List UInt8) (k : Nat), r.length ≤ m → k + r.length = l.length → (quoL r out k).err = none → 1 ≤ (quoL r out k).used ∧ (quoL r out k).used ≤ l.length := by
  intro m
  induction m with
  | zero =>
    intro r out k hr hk he
    have : r = [] := List.eq_nil_of_length_eq_zero (by omega)
    subst this
    rw [quoL] at he
    cases he
  | succ m ih =>
    intro r out k hr hk he
    match r, hr, hk, he with
    | [], _, _, he => rw [quoL] at he; cases he
    | [c], _, hk, he =>
      rw [quoL] at he ⊢
      simp only [List.length_cons, List.length_nil] at hk
      split at he
      · rename_i h1
        rw [if_pos h1]
        exact ⟨by show 1 ≤ k + 1; omega, by show k + 1 ≤ _; omega⟩
      · split at he
        · cases he
        · split at he <;> cases he
    | c :: d :: t, hr, hk, he =>
      rw [quoL] at he ⊢
      simp only [List.length_cons] at hk hr
      by_cases h39 : c = 39
      · rw [if_pos h39] at he ⊢
        by_cases hd : d = 39
        · rw [if_pos hd] at he ⊢
          exact ih t _ (k + 2) (by omega) (by omega) he
        · rw [if_neg hd] at he ⊢
          exact ⟨by show 1 ≤ k + 1; omega, by show k + 1 ≤ _; omega⟩
      · rw [if_neg h39] at he ⊢
        by_cases h92 : c = 92
        · rw [if_pos h92] at he ⊢
          cases hx : esc d with
          | none => rw [hx] at he; cases he
          | some x =>
            rw [hx] at he
            exact ih t _ (k + 2) (by omega) (by omega) he
        · rw [if_neg h92] at he ⊢
          by_cases hlow : (c.toNat : Int) < 32
          · rw [if_pos hlow] at he; cases he
          · rw [if_neg hlow] at he ⊢
            exact ih (d :: t) _ (k + 1) (by simp only [List.length_cons]; omega) (by simp only [List.length_cons]; omega) he
theorem one_used {c : UInt8} {l : List UInt8} (he : (oneC c (c :: l)).err = none) : 1 ≤ (oneC c (c :: l)).used ∧ (oneC c (c :: l)).used ≤ (c :: l).length := by
  have h1 : 1 ≤ (c :: l).length := by simp
  unfold oneC at he ⊢
  split at he
  · rename_i h; rw [if_pos h]; exact ⟨run_first (by unfold letterB; rw [h]; rfl), runB_le _ _⟩
  rename_i h
  rw [if_neg h]
  split at he
  · rename_i h; rw [if_pos h]; exact ⟨run_first (by unfold letterB; rw [h]; simp), runB_le _ _⟩
  rename_i h
  rw [if_neg h]
  split at he
  · rename_i h; rw [if_pos h]; exact num_used h he
  rename_i h
  rw [if_neg h]
  split at he
  · rename_i h; rw [if_pos h]; exact quo_used (c :: l) l.length l [] 1 (Nat.le_refl _) (by simp; omega) he
  rename_i h
  rw [if_neg h]
  split at he
  · rename_i h; rw [if_pos h]; exact ⟨Nat.le_refl _, h1⟩
  rename_i h
  rw [if_neg h]
  split at he
  · rename_i h; rw [if_pos h]; exact ⟨Nat.le_refl _, h1⟩
  rename_i h
  rw [if_neg h]
  split at he
  · rename_i h; rw [if_pos h]; exact ⟨Nat.le_refl _, h1⟩
  rename_i h
  rw [if_neg h]
  split at he
  · rename_i h; rw [if_pos h]; exact ⟨run_first h, runB_le _ _⟩
  · cases he
/-! step by step -/
section
variable {l : List UInt8} {i k : Nat} {acc : List Tk}
theorem skip_room (hi : i ≤ l.length) : i + skipN (l.drop i) ≤ l.length := by
  have := skip_le (l.drop i).length (l.drop i) (Nat.le_refl _)
  rw [List.length_drop] at this
  omega
theorem scan_done (h : i + skipN (l.drop i) = l.length) : scanF l (k + 1) i acc = .ok acc := by rw [scanF, if_pos h]
theorem scan_bad {x : ByteArray × Int} (h : ¬ i + skipN (l.drop i) = l.length) (he : errA (oneC (firstC (l.drop (i + skipN (l.drop i)))) (l.drop (i + skipN (l.drop i)))) = some x) : scanF l (k + 1) i acc = .bad (i + skipN (l.drop i)) x.1 x.2 := by rw [scanF, if_neg h, he]
theorem scan_more (h : ¬ i + skipN (l.drop i) = l.length) (he : errA (oneC (firstC (l.drop (i + skipN (l.drop i)))) (l.drop (i + skipN (l.drop i)))) = none) : scanF l (k + 1) i acc = scanF l k (i + skipN (l.drop i) + (oneC (firstC (l.drop (i + skipN (l.drop i)))) (l.drop (i + skipN (l.drop i)))).used) (acc ++ [⟨oneC (firstC (l.drop (i + skipN (l.drop i)))) (l.drop (i + skipN (l.drop i))), decide (skipN (l.drop i) = 0) && decide (0 < acc.length)⟩]) := by rw [scanF, if_neg h, he]
theorem err_none {a : Ans} (h : errA a = none) : a.err = none := by
  unfold errA at h
  split at h
  · cases h
  · exact h
theorem scan_used (hi : i ≤ l.length) (h : ¬ i + skipN (l.drop i) = l.length) (he : errA (oneC (firstC (l.drop (i + skipN (l.drop i)))) (l.drop (i + skipN (l.drop i)))) = none) : i + 1 ≤ i + skipN (l.drop i) + (oneC (firstC (l.drop (i + skipN (l.drop i)))) (l.drop (i + skipN (l.drop i)))).used ∧ i + skipN (l.drop i) + (oneC (firstC (l.drop (i + skipN (l.drop i)))) (l.drop (i + skipN (l.drop i)))).used ≤ l.length := by
  have h1 := skip_room hi
  have hlt : i + skipN (l.drop i) < l.length := by omega
  have h2 := drop_at (List.getElem?_eq_getElem hlt)
  have h3 := err_none he
  rw [h2] at h3 ⊢
  have h4 := one_used h3
  simp only [firstC]
  have h5 : (l[i + skipN (l.drop i)] :: l.drop (i + skipN (l.drop i) + 1)).length = l.length - (i + skipN (l.drop i)) := by rw [← h2, List.length_drop]
  have h6 : (oneC l[i + skipN (l.drop i)] (l[i + skipN (l.drop i)] :: l.drop (i + skipN (l.drop i) + 1))).used ≤ l.length - (i + skipN (l.drop i)) := Nat.le_trans h4.2 (Nat.le_of_eq h5)
  have h7 : 1 ≤ (oneC l[i + skipN (l.drop i)] (l[i + skipN (l.drop i)] :: l.drop (i + skipN (l.drop i) + 1))).used := h4.1
  omega
theorem scan_fuel : ∀ (k1 k2 i : Nat) (acc : List Tk), i ≤ l.length → l.length + 1 ≤ i + k1 → l.length + 1 ≤ i + k2 → scanF l k1 i acc = scanF l k2 i acc
  | 0, _, i, acc, hi, h1, _ => by omega
  | _, 0, i, acc, hi, _, h2 => by omega
  | k1 + 1, k2 + 1, i, acc, hi, h1, h2 => by
    by_cases h : i + skipN (l.drop i) = l.length
    · rw [scan_done h, scan_done h]
    · cases he : errA (oneC (firstC (l.drop (i + skipN (l.drop i)))) (l.drop (i + skipN (l.drop i)))) with
      | some x => rw [scan_bad h he, scan_bad h he]
      | none =>
        rw [scan_more h he, scan_more h he]
        have hu := scan_used hi h he
        exact scan_fuel k1 k2 _ _ hu.2 (by omega) (by omega)
end
def scanA (l : List UInt8) : Sc := if 4096 < l.length then .bad 0 ⟨#[97, 32, 116, 101, 120, 116]⟩ 3 else scanF l (l.length + 1) 0 []
end Go.Proofs.YtdbeiaohibgmeaaGreat.TokP
set_option linter.unusedVariables false
set_option linter.unusedSimpArgs false
namespace Go.Proofs.YtdbeiaohibgmeaaGreat
open Go.RowKit Go.Proofs.YtdbeiaohibgmeaaGreat.E Go.Proofs.YtdbeiaohibgmeaaGreat.ReplP Go.Proofs.YtdbeiaohibgmeaaGreat.TokP
theorem nilB_err (T : Nat) (e : Option (ByteArray × Int)) : nilB (errV T e) = some e.isNone := by cases e <;> rfl
def scV (T : Nat) (r : Sc) (x : Option Addr × Nat) : Value := match r with
  | .ok ts => .tuple #[.slice x.1 ts.length x.2, .int .i64 0, .nilIface]
  | .bad i w e => .tuple #[.slice none 0 0, .int .i64 (i : Int), .iface T (.agg #[.string w, .int .i64 e])]
def scR (r : Sc) (x : Option Addr × Nat) (h : Hp) : Prop := match r with
  | .ok ts => RowsAt h x.1 5 (ts.map tkC) ∧ ts.length ≤ x.2
  | .bad _ _ _ => True
theorem tkC_len (l : List Tk) : ∀ c ∈ l.map tkC, c.length = 5 := fun c hc => by
  obtain ⟨t, _, rfl⟩ := List.mem_map.1 hc
  rfl
theorem tkC_snoc (l : List Tk) (t : Tk) : ((l ++ [t]).map tkC).flatten = (l.map tkC).flatten ++ [.int .i64 t.a.kind, .string t.a.str, .int .i64 t.a.num, .bool t.a.quo, .bool t.tight] := by
  rw [List.map_append, List.flatten_append]
  simp [tkC]
set_option maxRecDepth 100000 in
theorem scan_c (s : ByteArray) (h : Hp) : CX Tryz.prog 9 [.string s] h (scV 63 (scanA s.data.toList)) (scR (scanA s.data.toList)) := by
  refine enterX Tryz.func9 rfl rfl rfl (fun w => ?_)
  refine cy_seq ?_
  refine cy_region ?_
  refine sy_assign rfl rfl rfl ?_
  refine sy_assign rfl rfl rfl ?_
  refine sy_assign rfl rfl rfl ?_
  refine sy_nil rfl ?_
  refine ny_next ?_
  refine cy_seq ?_
  refine cy_seq ?_
  refine cy_region ?_
  refine sy_move rfl rfl rfl ?_
  refine sy_len rfl (len_string Tryz.underlying9 _) rfl rfl ?_
  refine sy_cmp rfl rfl rfl rfl rfl ?_
  refine sy_nil rfl ?_
  refine ny_next ?_
  refine cy_cond rfl (fun hc13 => ?_) (fun hc13 => ?_)
  · refine cy_seq ?_
    refine cy_region ?_
    refine sy_call rfl call_19 rfl (bad_c _ _ _) rfl rfl ?_
    refine sy_assign rfl rfl rfl ?_
    refine sy_assign rfl rfl rfl ?_
    refine sy_assign rfl rfl rfl ?_
    refine sy_nil rfl ?_
    refine ny_next ?_
    refine cy_ret ?_
    refine ny_thenR ?_
    have hbig : 4096 < s.data.toList.length := by have h9 := of_decide_eq_true hc13; have h8 : s.data.toList.length = s.size := rfl; omega
    refine ny_finR (res3 rfl rfl rfl rfl) (fun w hs2 => ⟨(none, 0), _, ?_, ?_, hs2.toGrow⟩)
    · unfold scanA; rw [if_pos hbig]; rfl
    · unfold scanA; rw [if_pos hbig]; trivial
  · have hnb : ¬ 4096 < s.data.toList.length := by have h9 := of_decide_eq_false hc13; have h8 : s.data.toList.length = s.size := rfl; omega
    have hs : s.size ≤ 70368744177600 := by have h8 : s.data.toList.length = s.size := rfl; omega
    refine cy_skip ?_
    refine ny_next ?_
    refine cy_seq ?_
    refine cy_region ?_
    refine sy_assign rfl rfl rfl ?_
    refine sy_nil rfl ?_
    refine ny_next ?_
    refine cy_seq ?_
    refine cy_region ?_
    refine sy_assign rfl rfl rfl ?_
    refine sy_nil rfl ?_
    refine ny_next ?_
    refine cy_block ?_
    refine cy_nilRow 31 5 ?_
    refine cy_loopK (ι := Nat × List Tk × Value) [0] rfl (fun z => z.1 ≤ s.size ∧ z.2.1.length ≤ z.1 ∧ scanF s.data.toList (s.size + 1 - z.1) z.1 z.2.1 = scanF s.data.toList (s.size + 1) 0 []) (fun z => s.size - z.1) (fun z => [(5, z.2.2), (6, .int .i64 (z.1 : Int))]) (fun z => h) (fun z => [Res.row z.2.2 31 5 (z.2.1).length (((z.2.1).map tkC).flatten)]) (0, [], .slice none 0 0) [0] ⟨Nat.zero_le _, Nat.zero_le _, rfl⟩ ⟨rfl, rfl, trivial⟩ rfl rfl ?_
    rintro ⟨i, acc, v5⟩ ⟨hI, hol, hpre⟩
    simp only at hI hol hpre ⊢
    have hsz : s.data.toList.length = s.size := rfl
    obtain ⟨k, hk⟩ : ∃ k, s.size + 1 - i = k + 1 := ⟨s.size - i, by omega⟩
    have hcap : acc.length ≤ 4096 := by omega
    have hroom := skip_room (l := s.data.toList) hI
    refine cy_block ?_
    refine cy_seq ?_
    refine cy_region ?_
    refine sy_move rfl rfl rfl ?_
    refine sy_move rfl rfl rfl ?_
    refine sy_strfrom Tryz.underlying9 rfl rfl (by omega) rfl rfl ?_
    have hx18 : (s.extract i s.size).size ≤ 70368744177600 := by
      have h9 : (s.extract i s.size).size = (s.extract i s.size).data.toList.length := rfl
      rw [h9, ext_from, List.length_drop]
      omega
    refine sy_call rfl call_20 rfl (skip_c (s.extract i s.size) _ hx18) rfl rfl ?_
    rw [ext_from]
    refine sy_assign rfl rfl rfl ?_
    refine sy_nil rfl ?_
    refine ny_next ?_
    refine cy_seq ?_
    refine cy_region ?_
    refine sy_move rfl rfl rfl ?_
    refine sy_move rfl rfl rfl ?_
    refine sy_addi (z := (((i + skipN (s.data.toList.drop i)) : Nat) : Int)) rfl rfl (by omega) (by omega) (by omega) rfl rfl ?_
    refine sy_assign rfl rfl rfl ?_
    refine sy_nil rfl ?_
    refine ny_next ?_
    refine cy_seq ?_
    refine cy_seq ?_
    refine cy_region ?_
    refine sy_move rfl rfl rfl ?_
    refine sy_move rfl rfl rfl ?_
    refine sy_len rfl (len_string Tryz.underlying9 _) rfl rfl ?_
    refine sy_cmp rfl rfl rfl rfl rfl ?_
    refine sy_nil rfl ?_
    refine ny_next ?_
    refine cy_cond rfl (fun hc25 => ?_) (fun hc25 => ?_)
    · have hend : (i + skipN (s.data.toList.drop i)) = s.data.toList.length := by have h9 : (((i + skipN (s.data.toList.drop i)) : Nat) : Int) = (s.size : Int) := (by simpa using hc25); omega
      refine cy_frzRow 0 rfl (fun _ _ => by simp) (fun A9 c9 h9 hv9 hlc9 hcm9 _ hle9 hcell9 => ?_)
      subst hv9
      have hr9 : RowsAt h9 A9 5 (acc.map tkC) := rows_row (by decide) (tkC_len _) hcell9
      refine cy_seq ?_
      refine cy_region ?_
      refine sy_move rfl rfl rfl ?_
      refine sy_assign rfl rfl rfl ?_
      refine sy_assign rfl rfl rfl ?_
      refine sy_assign rfl rfl rfl ?_
      refine sy_nil rfl ?_
      refine ny_next ?_
      refine cy_ret ?_
      refine ny_thenR ?_
      refine ny_blockR ?_
      refine ny_thenR ?_
      refine ny_blockR ?_
      have hres : scanA s.data.toList = .ok acc := by unfold scanA; rw [if_neg hnb]; show scanF s.data.toList (s.size + 1) 0 [] = _; rw [← hpre, hk]; exact scan_done hend
      refine ny_finR (res3 rfl rfl rfl rfl) (fun w hs2 => ⟨(A9, c9), h9, ?_, ?_, hs2.toGrow⟩)
      · rw [hres]; rfl
      · rw [hres]; exact ⟨hr9, hlc9⟩
    · have hne : ¬ (i + skipN (s.data.toList.drop i)) = s.data.toList.length := by
        intro h9
        rw [hsz] at h9
        rw [h9] at hc25
        simp at hc25
      refine cy_skip ?_
      refine ny_next ?_
      refine cy_seq ?_
      refine cy_region ?_
      refine sy_move rfl rfl rfl ?_
      refine sy_move rfl rfl rfl ?_
      refine sy_strfrom Tryz.underlying9 rfl rfl (by omega) rfl rfl ?_
      have hx31 : (s.extract (i + skipN (s.data.toList.drop i)) s.size).size ≤ 70368744177600 := by
        have h9 : (s.extract (i + skipN (s.data.toList.drop i)) s.size).size = (s.extract (i + skipN (s.data.toList.drop i)) s.size).data.toList.length := rfl
        rw [h9, ext_from, List.length_drop]
        omega
      have hlt : (i + skipN (s.data.toList.drop i)) < s.data.toList.length := by omega
      have hdr := drop_at (List.getElem?_eq_getElem hlt)
      have hc31 : (s.extract (i + skipN (s.data.toList.drop i)) s.size).data.toList[0]? = some (firstC (s.data.toList.drop (i + skipN (s.data.toList.drop i)))) := by rw [ext_from, hdr]; rfl
      have hz31 : 1 ≤ (s.extract (i + skipN (s.data.toList.drop i)) s.size).size := by
        have h9 : (s.extract (i + skipN (s.data.toList.drop i)) s.size).size = (s.extract (i + skipN (s.data.toList.drop i)) s.size).data.toList.length := rfl
        rw [h9, ext_from, List.length_drop]
        omega
      refine sy_call rfl call_21 rfl (one_c (s.extract (i + skipN (s.data.toList.drop i)) s.size) _ _ hx31 hz31 hc31) rfl rfl ?_
      rw [ext_from]
      refine sy_move rfl rfl rfl ?_
      refine sy_extract rfl rfl rfl rfl ?_
      refine sy_extract rfl rfl rfl rfl ?_
      refine sy_extract rfl rfl rfl rfl ?_
      refine sy_alloc zer_31 rfl rfl (fun b8 hb8 hM8 => ?_) (by simp)
      first | refine sy_stl 0 sz_31 rfl rfl rfl rfl rfl rfl rfl rfl ?_ | refine sy_stl 1 sz_31 rfl rfl rfl rfl rfl rfl rfl rfl ?_ | refine sy_stl 2 sz_31 rfl rfl rfl rfl rfl rfl rfl rfl ?_ | refine sy_stl 3 sz_31 rfl rfl rfl rfl rfl rfl rfl rfl ?_
      refine sy_assign rfl rfl rfl ?_
      refine sy_assign rfl rfl rfl ?_
      refine sy_nil rfl ?_
      refine ny_next ?_
      refine cy_seq ?_
      refine cy_seq ?_
      refine cy_region ?_
      refine sy_move rfl rfl rfl ?_
      refine sy_eqn (e := (oneC (firstC (s.data.toList.drop (i + skipN (s.data.toList.drop i)))) (s.data.toList.drop (i + skipN (s.data.toList.drop i)))).err.isNone) Tryz.underlying27 rfl (nilB_err _ _) rfl rfl rfl ?_
      refine sy_move rfl rfl rfl ?_
      refine sy_cond (d := 37) _ rfl rfl (fun hg37 => ?_) (fun hg37 => ?_)
      · refine sy_field fld_31_1 rfl rfl rfl ?_
        first | refine sy_ldr 0 one_9 rfl rfl rfl rfl rfl ?_ | refine sy_ldr 1 one_9 rfl rfl rfl rfl rfl ?_ | refine sy_ldr 2 one_9 rfl rfl rfl rfl rfl ?_ | refine sy_ldr 3 one_9 rfl rfl rfl rfl rfl ?_
        refine sy_len rfl (len_string Tryz.underlying9 _) rfl rfl ?_
        refine sy_cmp rfl rfl rfl rfl rfl ?_
        refine sy_pickT rfl rfl rfl rfl ?_
        refine sy_nil rfl ?_
        refine ny_next ?_
        refine cy_cond rfl (fun hc42 => ?_) (fun hc42 => ?_)
        · have herr : errA (oneC (firstC (s.data.toList.drop (i + skipN (s.data.toList.drop i)))) (s.data.toList.drop (i + skipN (s.data.toList.drop i)))) = some (n1, 3) := by
            unfold errA
            rw [if_pos ⟨Option.isNone_iff_eq_none.1 hg37, by have h9 := of_decide_eq_true hc42; omega⟩]
          refine cy_region ?_
          refine sy_call rfl call_19 rfl (bad_c _ _ _) rfl rfl ?_
          refine sy_assign rfl rfl rfl ?_
          refine sy_nil rfl ?_
          refine ny_next ?_
          refine cy_seq ?_
          refine cy_seq ?_
          refine cy_region ?_
          refine sy_move rfl rfl rfl ?_
          refine sy_eqn Tryz.underlying27 rfl rfl rfl rfl rfl ?_
          refine sy_setT (d := 45) rfl rfl rfl ?_
          refine sy_nil rfl ?_
          refine ny_next ?_
          refine cy_condT rfl ?_
          refine cy_seq ?_
          refine cy_region ?_
          refine sy_move rfl rfl rfl ?_
          refine sy_move rfl rfl rfl ?_
          refine sy_assign rfl rfl rfl ?_
          refine sy_assign rfl rfl rfl ?_
          refine sy_assign rfl rfl rfl ?_
          refine sy_nil rfl ?_
          refine ny_next ?_
          refine cy_ret ?_
          refine ny_thenR ?_
          refine ny_blockR ?_
          refine ny_thenR ?_
          refine ny_blockR ?_
          refine ny_finR (res3 rfl rfl rfl rfl) (fun w hs2 => ?_)
          have hres : scanA s.data.toList = .bad (i + skipN (s.data.toList.drop i)) n1 3 := by { unfold scanA; rw [if_neg hnb]; show scanF s.data.toList (s.size + 1) 0 [] = _; rw [← hpre, hk]; exact scan_bad hne herr }
          exact ⟨(none, 0), _, by { rw [hres]; rfl }, by { rw [hres]; trivial }, hs2.toGrow⟩
        · have herr : errA (oneC (firstC (s.data.toList.drop (i + skipN (s.data.toList.drop i)))) (s.data.toList.drop (i + skipN (s.data.toList.drop i)))) = none := by
            unfold errA
            rw [if_neg (by rintro ⟨_, h9⟩; have h8 := of_decide_eq_false hc42; omega)]
            exact Option.isNone_iff_eq_none.1 hg37
          have hus := scan_used hI hne herr
          refine cy_skip ?_
          refine ny_next ?_
          refine cy_seq ?_
          refine cy_seq ?_
          refine cy_region ?_
          refine sy_move rfl rfl rfl ?_
          refine sy_eqn (e := (oneC (firstC (s.data.toList.drop (i + skipN (s.data.toList.drop i)))) (s.data.toList.drop (i + skipN (s.data.toList.drop i)))).err.isNone) Tryz.underlying27 rfl (nilB_err _ _) rfl rfl rfl ?_
          refine sy_setF (d := 45) rfl rfl (by rw [hg37]; rfl) ?_
          refine sy_nil rfl ?_
          refine ny_next ?_
          refine cy_condF rfl ?_
          refine cy_skip ?_
          refine ny_next ?_
          refine cy_seq ?_
          refine cy_region ?_
          refine sy_move rfl rfl rfl ?_
          refine sy_cmp rfl rfl rfl rfl rfl ?_
          refine sy_move rfl rfl rfl ?_
          refine sy_cond (d := 50) _ rfl rfl (fun hg50 => ?_) (fun hg50 => ?_)
          · refine sy_move rfl rfl rfl ?_
            refine sy_rowform 1 rfl (fun A5 c5 hv5 => ?_)
            subst hv5
            refine sy_len rfl (len_slice Tryz.underlying25 _ _ _) rfl rfl ?_
            refine sy_cmp rfl rfl rfl rfl rfl ?_
            refine sy_pickT rfl rfl rfl rfl ?_
            refine sy_field fld_31_4 rfl rfl rfl ?_
            first | refine sy_stl 0 sz_4 rfl rfl rfl rfl rfl rfl rfl rfl ?_ | refine sy_stl 1 sz_4 rfl rfl rfl rfl rfl rfl rfl rfl ?_ | refine sy_stl 2 sz_4 rfl rfl rfl rfl rfl rfl rfl rfl ?_ | refine sy_stl 3 sz_4 rfl rfl rfl rfl rfl rfl rfl rfl ?_
            refine sy_nil rfl ?_
            refine ny_next ?_
            refine cy_seq ?_
            refine cy_region ?_
            refine sy_move rfl rfl rfl ?_
            first | refine sy_ldar 0 agg_31 rfl rfl rfl rfl rfl ?_ | refine sy_ldar 1 agg_31 rfl rfl rfl rfl rfl ?_ | refine sy_ldar 2 agg_31 rfl rfl rfl rfl rfl ?_ | refine sy_ldar 3 agg_31 rfl rfl rfl rfl rfl ?_
            refine sy_buildSlice rfl (fun w => bsl_25_1_0 w) rfl rfl (fun b58 hb58 hM58 => ?_) (by simp)
            refine sy_append 2 0 row_25 (by decide) rfl rfl rfl rfl rfl rfl (by omega) (by simp only [maxLen]; omega) rfl rfl (fun v59 => ?_)
            refine sy_assign rfl rfl rfl ?_
            refine sy_nil rfl ?_
            refine ny_next ?_
            refine cy_region ?_
            refine sy_move rfl rfl rfl ?_
            refine sy_move rfl rfl rfl ?_
            refine sy_addi (z := (((i + skipN (s.data.toList.drop i)) + (oneC (firstC (s.data.toList.drop (i + skipN (s.data.toList.drop i)))) (s.data.toList.drop (i + skipN (s.data.toList.drop i)))).used : Nat) : Int)) rfl rfl (by omega) (by omega) (by omega) rfl rfl ?_
            refine sy_assign rfl rfl rfl ?_
            refine sy_nil rfl ?_
            refine ny_blockN ?_
            refine ny_roundK [0] ((i + skipN (s.data.toList.drop i)) + (oneC (firstC (s.data.toList.drop (i + skipN (s.data.toList.drop i)))) (s.data.toList.drop (i + skipN (s.data.toList.drop i)))).used, acc ++ [Tk.mk (oneC (firstC (s.data.toList.drop (i + skipN (s.data.toList.drop i)))) (s.data.toList.drop (i + skipN (s.data.toList.drop i)))) (decide (skipN (s.data.toList.drop i) = 0) && decide (0 < acc.length))], v59) [0] ⟨hus.2, by show (acc ++ [_]).length ≤ _; rw [List.length_append]; simp only [List.length_cons, List.length_nil]; omega, by rw [← hpre, hk, scan_more hne herr]; exact scan_fuel _ _ _ _ hus.2 (by omega) (by omega)⟩ (show s.size - ((i + skipN (s.data.toList.drop i)) + (oneC (firstC (s.data.toList.drop (i + skipN (s.data.toList.drop i)))) (s.data.toList.drop (i + skipN (s.data.toList.drop i)))).used) < s.size - i by omega) rfl ⟨rfl, rfl, trivial⟩ rfl (by have htg : (decide (skipN (s.data.toList.drop i) = 0) && decide (0 < acc.length)) = decide ((0 : Int) < ((acc.length : Nat) : Int)) := by { rw [decide_eq_true (show skipN (s.data.toList.drop i) = 0 by simpa using hg50), Bool.true_and]; exact decide_eq_decide.2 (by omega) }; show _ = some [Res.row v59 31 5 (acc ++ [Tk.mk (oneC (firstC (s.data.toList.drop (i + skipN (s.data.toList.drop i)))) (s.data.toList.drop (i + skipN (s.data.toList.drop i)))) (decide (skipN (s.data.toList.drop i) = 0) && decide (0 < acc.length))]).length (((acc ++ [Tk.mk (oneC (firstC (s.data.toList.drop (i + skipN (s.data.toList.drop i)))) (s.data.toList.drop (i + skipN (s.data.toList.drop i)))) (decide (skipN (s.data.toList.drop i) = 0) && decide (0 < acc.length))]).map tkC).flatten)]; rw [htg, tkC_snoc, List.length_append]; rfl)
          · refine sy_skip rfl rfl rfl ?_
            refine sy_skip rfl rfl rfl ?_
            refine sy_skip rfl rfl rfl ?_
            refine sy_pickF rfl rfl rfl rfl ?_
            refine sy_field fld_31_4 rfl rfl rfl ?_
            first | refine sy_stl 0 sz_4 rfl rfl rfl rfl rfl rfl rfl rfl ?_ | refine sy_stl 1 sz_4 rfl rfl rfl rfl rfl rfl rfl rfl ?_ | refine sy_stl 2 sz_4 rfl rfl rfl rfl rfl rfl rfl rfl ?_ | refine sy_stl 3 sz_4 rfl rfl rfl rfl rfl rfl rfl rfl ?_
            refine sy_nil rfl ?_
            refine ny_next ?_
            refine cy_seq ?_
            refine cy_region ?_
            refine sy_move rfl rfl rfl ?_
            first | refine sy_ldar 0 agg_31 rfl rfl rfl rfl rfl ?_ | refine sy_ldar 1 agg_31 rfl rfl rfl rfl rfl ?_ | refine sy_ldar 2 agg_31 rfl rfl rfl rfl rfl ?_ | refine sy_ldar 3 agg_31 rfl rfl rfl rfl rfl ?_
            refine sy_buildSlice rfl (fun w => bsl_25_1_0 w) rfl rfl (fun b58 hb58 hM58 => ?_) (by simp)
            refine sy_append 2 0 row_25 (by decide) rfl rfl rfl rfl rfl rfl (by omega) (by simp only [maxLen]; omega) rfl rfl (fun v59 => ?_)
            refine sy_assign rfl rfl rfl ?_
            refine sy_nil rfl ?_
            refine ny_next ?_
            refine cy_region ?_
            refine sy_move rfl rfl rfl ?_
            refine sy_move rfl rfl rfl ?_
            refine sy_addi (z := (((i + skipN (s.data.toList.drop i)) + (oneC (firstC (s.data.toList.drop (i + skipN (s.data.toList.drop i)))) (s.data.toList.drop (i + skipN (s.data.toList.drop i)))).used : Nat) : Int)) rfl rfl (by omega) (by omega) (by omega) rfl rfl ?_
            refine sy_assign rfl rfl rfl ?_
            refine sy_nil rfl ?_
            refine ny_blockN ?_
            refine ny_roundK [0] ((i + skipN (s.data.toList.drop i)) + (oneC (firstC (s.data.toList.drop (i + skipN (s.data.toList.drop i)))) (s.data.toList.drop (i + skipN (s.data.toList.drop i)))).used, acc ++ [Tk.mk (oneC (firstC (s.data.toList.drop (i + skipN (s.data.toList.drop i)))) (s.data.toList.drop (i + skipN (s.data.toList.drop i)))) (decide (skipN (s.data.toList.drop i) = 0) && decide (0 < acc.length))], v59) [0] ⟨hus.2, by show (acc ++ [_]).length ≤ _; rw [List.length_append]; simp only [List.length_cons, List.length_nil]; omega, by rw [← hpre, hk, scan_more hne herr]; exact scan_fuel _ _ _ _ hus.2 (by omega) (by omega)⟩ (show s.size - ((i + skipN (s.data.toList.drop i)) + (oneC (firstC (s.data.toList.drop (i + skipN (s.data.toList.drop i)))) (s.data.toList.drop (i + skipN (s.data.toList.drop i)))).used) < s.size - i by omega) rfl ⟨rfl, rfl, trivial⟩ rfl (by have htg : (decide (skipN (s.data.toList.drop i) = 0) && decide (0 < acc.length)) = false := by { rw [decide_eq_false (show ¬ skipN (s.data.toList.drop i) = 0 by simpa using hg50), Bool.false_and] }; show _ = some [Res.row v59 31 5 (acc ++ [Tk.mk (oneC (firstC (s.data.toList.drop (i + skipN (s.data.toList.drop i)))) (s.data.toList.drop (i + skipN (s.data.toList.drop i)))) (decide (skipN (s.data.toList.drop i) = 0) && decide (0 < acc.length))]).length (((acc ++ [Tk.mk (oneC (firstC (s.data.toList.drop (i + skipN (s.data.toList.drop i)))) (s.data.toList.drop (i + skipN (s.data.toList.drop i)))) (decide (skipN (s.data.toList.drop i) = 0) && decide (0 < acc.length))]).map tkC).flatten)]; rw [htg, tkC_snoc, List.length_append]; rfl)
      · obtain ⟨x9, hx9⟩ : ∃ x9, (oneC (firstC (s.data.toList.drop (i + skipN (s.data.toList.drop i)))) (s.data.toList.drop (i + skipN (s.data.toList.drop i)))).err = some x9 := Option.ne_none_iff_exists'.1 (fun h9 => by rw [h9] at hg37; simp at hg37)
        have herr : errA (oneC (firstC (s.data.toList.drop (i + skipN (s.data.toList.drop i)))) (s.data.toList.drop (i + skipN (s.data.toList.drop i)))) = some x9 := by
          unfold errA
          rw [if_neg (by rintro ⟨h9, _⟩; rw [hx9] at h9; cases h9), hx9]
        refine sy_skip rfl rfl rfl ?_
        refine sy_skip rfl rfl rfl ?_
        refine sy_skip rfl rfl rfl ?_
        refine sy_skip rfl rfl rfl ?_
        refine sy_pickF rfl rfl rfl rfl ?_
        refine sy_nil rfl ?_
        refine ny_next ?_
        refine cy_condF rfl ?_
        refine cy_skip ?_
        refine ny_next ?_
        refine cy_seq ?_
        refine cy_seq ?_
        refine cy_region ?_
        refine sy_move rfl rfl rfl ?_
        refine sy_eqn (e := (oneC (firstC (s.data.toList.drop (i + skipN (s.data.toList.drop i)))) (s.data.toList.drop (i + skipN (s.data.toList.drop i)))).err.isNone) Tryz.underlying27 rfl (nilB_err _ _) rfl rfl rfl ?_
        refine sy_setT (d := 45) rfl rfl (by rw [hg37]; rfl) ?_
        refine sy_nil rfl ?_
        refine ny_next ?_
        refine cy_condT rfl ?_
        refine cy_seq ?_
        refine cy_region ?_
        refine sy_move rfl rfl rfl ?_
        refine sy_move rfl rfl rfl ?_
        refine sy_assign rfl rfl rfl ?_
        refine sy_assign rfl rfl rfl ?_
        refine sy_assign rfl rfl rfl ?_
        refine sy_nil rfl ?_
        refine ny_next ?_
        refine cy_ret ?_
        refine ny_thenR ?_
        refine ny_blockR ?_
        refine ny_thenR ?_
        refine ny_blockR ?_
        refine ny_finR (res3 rfl rfl rfl rfl) (fun w hs2 => ?_)
        have hres : scanA s.data.toList = .bad (i + skipN (s.data.toList.drop i)) x9.1 x9.2 := by { unfold scanA; rw [if_neg hnb]; show scanF s.data.toList (s.size + 1) 0 [] = _; rw [← hpre, hk]; exact scan_bad hne herr }
        exact ⟨(none, 0), _, by { rw [hres, hx9]; rfl }, by { rw [hres]; trivial }, hs2.toGrow⟩
end Go.Proofs.YtdbeiaohibgmeaaGreat
set_option linter.unusedVariables false
set_option linter.unusedSimpArgs false
namespace Go.Proofs.YtdbeiaohibgmeaaGreat.TokP
open Go.RowKit Go.Proofs.YtdbeiaohibgmeaaGreat.E Go.Proofs.YtdbeiaohibgmeaaGreat.ReplP
def shT : List UInt8 := [102, 111, 111, 40, 88, 44, 49, 50, 41, 46, 32, 37, 32, 120]
def shL : List Tk := [⟨.tok 1 ⟨#[102, 111, 111]⟩ 0 false 3, false⟩, ⟨.tok 4 ⟨#[40]⟩ 0 false 1, true⟩, ⟨.tok 2 ⟨#[88]⟩ 0 false 1, true⟩, ⟨.tok 4 ⟨#[44]⟩ 0 false 1, true⟩, ⟨.tok 3 ⟨#[]⟩ 12 false 2, true⟩, ⟨.tok 4 ⟨#[41]⟩ 0 false 1, true⟩, ⟨.tok 5 ⟨#[46]⟩ 0 false 1, true⟩]
theorem sh_scan : scanA shT = .ok shL := by kernel_rfl
end Go.Proofs.YtdbeiaohibgmeaaGreat.TokP
set_option linter.unusedVariables false
set_option linter.unusedSimpArgs false
namespace Go.Proofs.YtdbeiaohibgmeaaGreat
open Go.RowKit Go.Proofs.YtdbeiaohibgmeaaGreat.E Go.Proofs.YtdbeiaohibgmeaaGreat.ReplP Go.Proofs.YtdbeiaohibgmeaaGreat.TokP
set_option maxRecDepth 100000 in
theorem shown05_c (h : Hp) : C0 Tryz.prog 4 [] h (.bool true) := by
  refine enter0 Tryz.func4 rfl rfl rfl (fun w => ?_)
  refine cy_seq ?_
  refine cy_region ?_
  refine sy_assign rfl rfl rfl ?_
  refine sy_nil rfl ?_
  refine ny_next ?_
  refine cy_seq ?_
  refine cy_region ?_
  refine sy_callx call_9 rfl (scan_c (⟨#[102, 111, 111, 40, 88, 44, 49, 50, 41, 46, 32, 37, 32, 120]⟩ : ByteArray) _) rfl rfl (fun x5 h5 hx5 hle5 => ?_)
  rw [show scanA (⟨#[102, 111, 111, 40, 88, 44, 49, 50, 41, 46, 32, 37, 32, 120]⟩ : ByteArray).data.toList = .ok shL from sh_scan] at hx5 ⊢
  obtain ⟨A5, c5⟩ := x5
  obtain ⟨hr5, _⟩ := hx5
  refine sy_move rfl rfl rfl ?_
  refine sy_extract rfl rfl rfl rfl ?_
  refine sy_extract rfl rfl rfl rfl ?_
  refine sy_extract rfl rfl rfl rfl ?_
  refine sy_assign rfl rfl rfl ?_
  refine sy_assign rfl rfl rfl ?_
  refine sy_assign rfl rfl rfl ?_
  refine sy_nil rfl ?_
  refine ny_next ?_
  refine cy_seq ?_
  refine cy_region ?_
  refine sy_move rfl rfl rfl ?_
  refine sy_eqn Tryz.underlying27 rfl rfl rfl rfl rfl ?_
  refine sy_move rfl rfl rfl ?_
  refine sy_setT (d := 11) rfl rfl (by first | rfl | decide | kernel_rfl) ?_
  refine sy_move rfl rfl rfl ?_
  refine sy_len rfl (len_slice Tryz.underlying25 A5 shL.length c5) rfl rfl ?_
  refine sy_cmp rfl rfl rfl rfl rfl ?_
  refine sy_pickT rfl rfl rfl rfl ?_
  refine sy_move rfl rfl rfl ?_
  refine sy_setT (d := 16) rfl rfl (by first | rfl | decide | kernel_rfl) ?_
  refine sy_move rfl rfl rfl ?_
  refine sy_idxR (i := 0) (fc := tkC) (es := shL) els_25 rfl rfl hr5 rfl (by decide) rfl rfl (fun e18 b18 o18 he18 hA18 hc18 => ?_)
  obtain rfl := Option.some.inj (show some (shL[0]) = some e18 from he18)
  refine sy_field fld_31_1 rfl rfl rfl ?_
  refine sy_ldh one_9 rfl (hc18 1 _ rfl) rfl rfl ?_
  refine sy_eqs rfl rfl rfl rfl ?_
  refine sy_pickT rfl rfl rfl rfl ?_
  refine sy_move rfl rfl rfl ?_
  refine sy_setT (d := 23) rfl rfl (by first | rfl | decide | kernel_rfl) ?_
  refine sy_move rfl rfl rfl ?_
  refine sy_idxR (i := 1) (fc := tkC) (es := shL) els_25 rfl rfl hr5 rfl (by decide) rfl rfl (fun e25 b25 o25 he25 hA25 hc25 => ?_)
  obtain rfl := Option.some.inj (show some (shL[1]) = some e25 from he25)
  refine sy_field fld_31_4 rfl rfl rfl ?_
  refine sy_ldh one_4 rfl (hc25 4 _ rfl) rfl rfl ?_
  refine sy_pickT rfl rfl rfl rfl ?_
  refine sy_move rfl rfl rfl ?_
  refine sy_setT (d := 29) rfl rfl (by first | rfl | decide | kernel_rfl) ?_
  refine sy_move rfl rfl rfl ?_
  refine sy_idxR (i := 4) (fc := tkC) (es := shL) els_25 rfl rfl hr5 rfl (by decide) rfl rfl (fun e31 b31 o31 he31 hA31 hc31 => ?_)
  obtain rfl := Option.some.inj (show some (shL[4]) = some e31 from he31)
  refine sy_field fld_31_2 rfl rfl rfl ?_
  refine sy_ldh one_2 rfl (hc31 2 _ rfl) rfl rfl ?_
  refine sy_cmp rfl rfl rfl rfl rfl ?_
  refine sy_pickT rfl rfl rfl rfl ?_
  refine sy_move rfl rfl rfl ?_
  refine sy_setT (d := 36) rfl rfl (by first | rfl | decide | kernel_rfl) ?_
  refine sy_move rfl rfl rfl ?_
  refine sy_idxR (i := 6) (fc := tkC) (es := shL) els_25 rfl rfl hr5 rfl (by decide) rfl rfl (fun e38 b38 o38 he38 hA38 hc38 => ?_)
  obtain rfl := Option.some.inj (show some (shL[6]) = some e38 from he38)
  refine sy_field fld_31_0 rfl rfl rfl ?_
  refine sy_ldh one_3 rfl (hc38 0 _ rfl) rfl rfl ?_
  refine sy_cmp rfl rfl rfl rfl rfl ?_
  refine sy_pickT rfl rfl rfl rfl ?_
  refine sy_move rfl rfl rfl ?_
  refine sy_setT (d := 43) rfl rfl (by first | rfl | decide | kernel_rfl) ?_
  refine sy_call rfl call_7 rfl (quote_c ⟨#[65, 39]⟩ _ _ (by decide) (fun h => plain_c _ h (by decide))) rfl rfl ?_
  refine sy_eqs rfl rfl rfl rfl ?_
  refine sy_setT (d := 45) rfl rfl (by kernel_rfl) ?_
  refine sy_pickT rfl rfl rfl rfl ?_
  refine sy_assign rfl rfl rfl ?_
  refine sy_nil rfl ?_
  refine ny_next ?_
  refine cy_ret ?_
  exact ny_finR (res1 rfl rfl) (fun w hs => ⟨rfl, hs.frm⟩)
set_option maxRecDepth 100000 in
theorem quotes_c (s : ByteArray) (h : Hp) (hs : s.size ≤ 70368744177600) : C0 Tryz.prog 3 [.string s] h (.bool true) := by
  refine enter0 Tryz.func3 rfl rfl rfl (fun w => ?_)
  refine cy_seq ?_
  refine cy_region ?_
  refine sy_assign rfl rfl rfl ?_
  refine sy_nil rfl ?_
  refine ny_next ?_
  refine cy_seq ?_
  refine cy_region ?_
  refine sy_call rfl call_4 rfl (shown05_c _) rfl rfl ?_
  refine sy_assign rfl rfl rfl ?_
  refine sy_nil rfl ?_
  refine ny_next ?_
  refine cy_seq ?_
  refine cy_region ?_
  refine sy_move rfl rfl rfl ?_
  refine sy_move rfl rfl rfl ?_
  refine sy_setT (d := 6) rfl rfl (by first | rfl | decide | kernel_rfl) ?_
  refine sy_move rfl rfl rfl ?_
  refine sy_call rfl call_5 rfl (plain_c s _ (by omega)) rfl rfl ?_
  refine sy_move rfl rfl rfl ?_
  refine sy_call rfl call_6 rfl (rplain_c s _ (by omega)) rfl rfl ?_
  refine sy_eqb Tryz.underlying4 rfl rfl rfl rfl ?_
  refine sy_setT (d := 11) rfl rfl (by simp) ?_
  refine sy_pickT rfl rfl rfl rfl ?_
  refine sy_move rfl rfl rfl ?_
  refine sy_move rfl rfl rfl ?_
  refine sy_call rfl call_7 rfl (quote_c s _ _ (by omega) (fun h => plain_c s h (by omega))) rfl rfl ?_
  refine sy_move rfl rfl rfl ?_
  refine sy_call rfl call_8 rfl (rquote_c s _ hs) rfl rfl ?_
  refine sy_eqs rfl rfl rfl rfl ?_
  refine sy_setT (d := 18) rfl rfl (by simp) ?_
  refine sy_pickT rfl rfl rfl rfl ?_
  refine sy_assign rfl rfl rfl ?_
  refine sy_nil rfl ?_
  refine ny_next ?_
  refine cy_ret ?_
  exact ny_finR (res1 rfl rfl) (fun w hs => ⟨rfl, hs.frm⟩)
end Go.Proofs.YtdbeiaohibgmeaaGreat

/- The engine, the plain laws and the walks of this seat, part 3: what the functions answer. Conditions: as each says; printed by programs of this session. -/
import Derived.Lib.AppendStr
import Derived.Lib.UnsafeStr
import Derived.Lib.Builder
import Derived.Shelf.Strings.Builder1
import Derived.Shelf.Strings.Builder2
import Derived.Shelf.Strings.OnBuilder
import Derived.Shelf.Small.Strs
import Derived.Shelf.Utf8.RuneCount
import Derived.Shelf.Strconv.Itoa0
import Derived.Shelf.Strconv.Itoa1
import Derived.Shelf.LaysM
import Derived.Shelf.Strconv.Itoa2
import Derived.Shelf.Strconv.Itoa3
import Derived.Shelf.Strconv.Itoa4
import Derived.Shelf.Strings.Search1
import Derived.Shelf.Strings.Search2
import Derived.Shelf.Strings.Search3
import Derived.Shelf.Strings.Count
import Derived.Shelf.Strings.Shaped
import Derived.Shelf.Strings.Split
import Derived.Shelf.Strings.RuneCount
import Derived.Shelf.Slices.Turned
import Derived.Test.YtanhhihechakhaaGreatDoorProg
import Derived.Lib.AppendIntMem
import Derived.Lib.ItoaNum
import Derived.Test.YtanhhihechakhaaGreatDoorMb
set_option linter.unusedVariables false
set_option linter.unusedSimpArgs false
namespace Go.Proofs.YtanhhihechakhaaGreatDoor
open Go.RowKit Go.Proofs.YtanhhihechakhaaGreatDoor.E Go.Proofs.YtanhhihechakhaaGreatDoor.ReplP Go.Proofs.YtanhhihechakhaaGreatDoor.TokP
set_option maxRecDepth 100000 in
theorem one_c (s : ByteArray) (c : UInt8) (h : Hp) (hs : s.size ≤ 70368744177600) (h0 : 1 ≤ s.size) (hc0 : s.data.toList[0]? = some c) : C0 Tryz.prog 51 [.string s] h (ansV 100 (oneC c s.data.toList)) := by
  refine enter0 Tryz.func51 rfl rfl rfl (fun w => ?_)
  refine cy_seq ?_
  refine cy_region ?_
  refine sy_alloc zer_79 rfl rfl (fun b2 hb2 hM2 => ?_) (by simp)
  refine sy_assign rfl rfl rfl ?_
  refine sy_assign rfl rfl rfl ?_
  refine sy_nil rfl ?_
  refine ny_next ?_
  refine cy_seq ?_
  refine cy_region ?_
  refine sy_move rfl rfl rfl ?_
  refine sy_idxs (u := c) Tryz.underlying9 rfl rfl (by decide) (ba_at (i := 0) hc0) rfl rfl ?_
  refine sy_assign rfl rfl rfl ?_
  refine sy_nil rfl ?_
  refine ny_next ?_
  refine cy_seq ?_
  refine cy_region ?_
  refine sy_build rfl (fun w => bld_79_0 w) rfl rfl ?_
  refine sy_alloc zer_79 rfl rfl (fun b6 hb6 hM6 => ?_) (by simp)
  first | refine sy_stl 0 sz_79 rfl rfl rfl rfl rfl rfl rfl rfl ?_ | refine sy_stl 1 sz_79 rfl rfl rfl rfl rfl rfl rfl rfl ?_ | refine sy_stl 2 sz_79 rfl rfl rfl rfl rfl rfl rfl rfl ?_ | refine sy_stl 3 sz_79 rfl rfl rfl rfl rfl rfl rfl rfl ?_
  refine sy_nil rfl ?_
  refine ny_next ?_
  refine cy_seq ?_
  refine cy_region ?_
  refine sy_assign rfl rfl rfl ?_
  refine sy_nil rfl ?_
  refine ny_next ?_
  refine cy_seq ?_
  refine cy_block ?_
  refine cy_seq ?_
  refine cy_region ?_
  refine sy_move rfl rfl rfl ?_
  refine sy_call rfl call_68 rfl (small_c c _) rfl rfl ?_
  refine sy_assign rfl rfl rfl ?_
  refine sy_nil rfl ?_
  refine ny_next ?_
  refine cy_cond rfl (fun hc13 => ?_) (fun hc13 => ?_)
  · refine cy_region ?_
    refine sy_move rfl rfl rfl ?_
    refine sy_call rfl call_65 rfl (row_c s 69 letterB _ (by omega) call_69 (fun c h => letter_c c h)) rfl rfl ?_
    have hrl := runB_le letterB s.data.toList
    have hsz0 : s.data.toList.length = s.size := rfl
    refine sy_assign rfl rfl rfl ?_
    refine sy_nil rfl ?_
    refine ny_blockN ?_
    refine ny_next ?_
    refine cy_seq ?_
    refine cy_region ?_
    refine sy_move rfl rfl rfl ?_
    refine sy_move rfl rfl rfl ?_
    refine sy_strto Tryz.underlying9 rfl rfl (by omega) rfl rfl ?_
    refine sy_field fld_79_1 rfl rfl rfl ?_
    first | refine sy_stl 0 sz_9 rfl rfl rfl rfl rfl rfl rfl rfl ?_ | refine sy_stl 1 sz_9 rfl rfl rfl rfl rfl rfl rfl rfl ?_ | refine sy_stl 2 sz_9 rfl rfl rfl rfl rfl rfl rfl rfl ?_ | refine sy_stl 3 sz_9 rfl rfl rfl rfl rfl rfl rfl rfl ?_
    refine sy_nil rfl ?_
    refine ny_next ?_
    refine cy_seq ?_
    refine cy_region ?_
    first | refine sy_ldar 0 agg_79 rfl rfl rfl rfl rfl ?_ | refine sy_ldar 1 agg_79 rfl rfl rfl rfl rfl ?_ | refine sy_ldar 2 agg_79 rfl rfl rfl rfl rfl ?_ | refine sy_ldar 3 agg_79 rfl rfl rfl rfl rfl ?_
    refine sy_move rfl rfl rfl ?_
    first | refine sy_stl 0 sz_79 rfl rfl rfl rfl rfl rfl rfl rfl ?_ | refine sy_stl 1 sz_79 rfl rfl rfl rfl rfl rfl rfl rfl ?_ | refine sy_stl 2 sz_79 rfl rfl rfl rfl rfl rfl rfl rfl ?_ | refine sy_stl 3 sz_79 rfl rfl rfl rfl rfl rfl rfl rfl ?_
    refine sy_assign rfl rfl rfl ?_
    refine sy_assign rfl rfl rfl ?_
    refine sy_nil rfl ?_
    refine ny_next ?_
    refine cy_ret ?_
    first | refine ny_finR (rescT 0 rfl agg_79 rfl rfl rfl rfl rfl) (fun w hs2 => ⟨?_, hs2.frm⟩) | refine ny_finR (rescT 1 rfl agg_79 rfl rfl rfl rfl rfl) (fun w hs2 => ⟨?_, hs2.frm⟩) | refine ny_finR (rescT 2 rfl agg_79 rfl rfl rfl rfl rfl) (fun w hs2 => ⟨?_, hs2.frm⟩) | refine ny_finR (rescT 3 rfl agg_79 rfl rfl rfl rfl rfl) (fun w hs2 => ⟨?_, hs2.frm⟩)
    unfold oneC
    simp only [*, if_true, if_false, Bool.false_eq_true, Bool.true_eq_false, Bool.or_true, Bool.true_or, Bool.or_false, Bool.false_or, ext_take]
    rfl
  · refine cy_seq ?_
    refine cy_region ?_
    refine sy_move rfl rfl rfl ?_
    refine sy_call rfl call_70 rfl (big_c c _) rfl rfl ?_
    refine sy_assign rfl rfl rfl ?_
    refine sy_nil rfl ?_
    refine ny_next ?_
    refine cy_cond rfl (fun hc18 => ?_) (fun hc18 => ?_)
    · refine cy_seq ?_
      refine cy_region ?_
      refine sy_field fld_79_0 rfl rfl rfl ?_
      first | refine sy_stl 0 sz_3 rfl rfl rfl rfl rfl rfl rfl rfl ?_ | refine sy_stl 1 sz_3 rfl rfl rfl rfl rfl rfl rfl rfl ?_ | refine sy_stl 2 sz_3 rfl rfl rfl rfl rfl rfl rfl rfl ?_ | refine sy_stl 3 sz_3 rfl rfl rfl rfl rfl rfl rfl rfl ?_
      refine sy_nil rfl ?_
      refine ny_next ?_
      refine cy_region ?_
      refine sy_move rfl rfl rfl ?_
      refine sy_call rfl call_65 rfl (row_c s 69 letterB _ (by omega) call_69 (fun c h => letter_c c h)) rfl rfl ?_
      have hrl := runB_le letterB s.data.toList
      have hsz0 : s.data.toList.length = s.size := rfl
      refine sy_assign rfl rfl rfl ?_
      refine sy_nil rfl ?_
      refine ny_blockN ?_
      refine ny_next ?_
      refine cy_seq ?_
      refine cy_region ?_
      refine sy_move rfl rfl rfl ?_
      refine sy_move rfl rfl rfl ?_
      refine sy_strto Tryz.underlying9 rfl rfl (by omega) rfl rfl ?_
      refine sy_field fld_79_1 rfl rfl rfl ?_
      first | refine sy_stl 0 sz_9 rfl rfl rfl rfl rfl rfl rfl rfl ?_ | refine sy_stl 1 sz_9 rfl rfl rfl rfl rfl rfl rfl rfl ?_ | refine sy_stl 2 sz_9 rfl rfl rfl rfl rfl rfl rfl rfl ?_ | refine sy_stl 3 sz_9 rfl rfl rfl rfl rfl rfl rfl rfl ?_
      refine sy_nil rfl ?_
      refine ny_next ?_
      refine cy_seq ?_
      refine cy_region ?_
      first | refine sy_ldar 0 agg_79 rfl rfl rfl rfl rfl ?_ | refine sy_ldar 1 agg_79 rfl rfl rfl rfl rfl ?_ | refine sy_ldar 2 agg_79 rfl rfl rfl rfl rfl ?_ | refine sy_ldar 3 agg_79 rfl rfl rfl rfl rfl ?_
      refine sy_move rfl rfl rfl ?_
      first | refine sy_stl 0 sz_79 rfl rfl rfl rfl rfl rfl rfl rfl ?_ | refine sy_stl 1 sz_79 rfl rfl rfl rfl rfl rfl rfl rfl ?_ | refine sy_stl 2 sz_79 rfl rfl rfl rfl rfl rfl rfl rfl ?_ | refine sy_stl 3 sz_79 rfl rfl rfl rfl rfl rfl rfl rfl ?_
      refine sy_assign rfl rfl rfl ?_
      refine sy_assign rfl rfl rfl ?_
      refine sy_nil rfl ?_
      refine ny_next ?_
      refine cy_ret ?_
      first | refine ny_finR (rescT 0 rfl agg_79 rfl rfl rfl rfl rfl) (fun w hs2 => ⟨?_, hs2.frm⟩) | refine ny_finR (rescT 1 rfl agg_79 rfl rfl rfl rfl rfl) (fun w hs2 => ⟨?_, hs2.frm⟩) | refine ny_finR (rescT 2 rfl agg_79 rfl rfl rfl rfl rfl) (fun w hs2 => ⟨?_, hs2.frm⟩) | refine ny_finR (rescT 3 rfl agg_79 rfl rfl rfl rfl rfl) (fun w hs2 => ⟨?_, hs2.frm⟩)
      unfold oneC
      simp only [*, if_true, if_false, Bool.false_eq_true, Bool.true_eq_false, Bool.or_true, Bool.true_or, Bool.or_false, Bool.false_or, ext_take]
      rfl
    · refine cy_seq ?_
      refine cy_region ?_
      refine sy_move rfl rfl rfl ?_
      refine sy_call rfl call_71 rfl (digit_c c _) rfl rfl ?_
      refine sy_assign rfl rfl rfl ?_
      refine sy_nil rfl ?_
      refine ny_next ?_
      refine cy_cond rfl (fun hc24 => ?_) (fun hc24 => ?_)
      · refine cy_seq ?_
        refine cy_region ?_
        refine sy_move rfl rfl rfl ?_
        refine sy_call rfl call_72 rfl (number_c s _ hs) rfl rfl ?_
        refine sy_extract rfl rfl rfl rfl ?_
        refine sy_extract rfl rfl rfl rfl ?_
        refine sy_extract rfl rfl rfl rfl ?_
        first | refine sy_stl 0 sz_79 rfl rfl rfl rfl rfl rfl rfl rfl ?_ | refine sy_stl 1 sz_79 rfl rfl rfl rfl rfl rfl rfl rfl ?_ | refine sy_stl 2 sz_79 rfl rfl rfl rfl rfl rfl rfl rfl ?_ | refine sy_stl 3 sz_79 rfl rfl rfl rfl rfl rfl rfl rfl ?_
        refine sy_assign rfl rfl rfl ?_
        refine sy_assign rfl rfl rfl ?_
        refine sy_nil rfl ?_
        refine ny_next ?_
        refine cy_ret ?_
        refine ny_blockR ?_
        refine ny_thenR ?_
        first | refine ny_finR (rescT 0 rfl agg_79 rfl rfl rfl rfl rfl) (fun w hs2 => ⟨?_, hs2.frm⟩) | refine ny_finR (rescT 1 rfl agg_79 rfl rfl rfl rfl rfl) (fun w hs2 => ⟨?_, hs2.frm⟩) | refine ny_finR (rescT 2 rfl agg_79 rfl rfl rfl rfl rfl) (fun w hs2 => ⟨?_, hs2.frm⟩) | refine ny_finR (rescT 3 rfl agg_79 rfl rfl rfl rfl rfl) (fun w hs2 => ⟨?_, hs2.frm⟩)
        unfold oneC
        simp only [*, if_true, if_false, Bool.false_eq_true, Bool.true_eq_false, Bool.or_true, Bool.true_or, Bool.or_false, Bool.false_or, ext_take]
        rfl
      · refine cy_seq ?_
        refine cy_region ?_
        refine sy_move rfl rfl rfl ?_
        refine sy_cmp rfl rfl rfl rfl rfl ?_
        refine sy_assign rfl rfl rfl ?_
        refine sy_nil rfl ?_
        refine ny_next ?_
        refine cy_cond rfl (fun hc32 => ?_) (fun hc32 => ?_)
        · refine cy_seq ?_
          refine cy_region ?_
          refine sy_move rfl rfl rfl ?_
          refine sy_call rfl call_73 rfl (quoted_c s _ hs h0) rfl rfl ?_
          refine sy_extract rfl rfl rfl rfl ?_
          refine sy_extract rfl rfl rfl rfl ?_
          refine sy_extract rfl rfl rfl rfl ?_
          first | refine sy_stl 0 sz_79 rfl rfl rfl rfl rfl rfl rfl rfl ?_ | refine sy_stl 1 sz_79 rfl rfl rfl rfl rfl rfl rfl rfl ?_ | refine sy_stl 2 sz_79 rfl rfl rfl rfl rfl rfl rfl rfl ?_ | refine sy_stl 3 sz_79 rfl rfl rfl rfl rfl rfl rfl rfl ?_
          refine sy_assign rfl rfl rfl ?_
          refine sy_assign rfl rfl rfl ?_
          refine sy_nil rfl ?_
          refine ny_next ?_
          refine cy_ret ?_
          refine ny_blockR ?_
          refine ny_thenR ?_
          first | refine ny_finR (rescT 0 rfl agg_79 rfl rfl rfl rfl rfl) (fun w hs2 => ⟨?_, hs2.frm⟩) | refine ny_finR (rescT 1 rfl agg_79 rfl rfl rfl rfl rfl) (fun w hs2 => ⟨?_, hs2.frm⟩) | refine ny_finR (rescT 2 rfl agg_79 rfl rfl rfl rfl rfl) (fun w hs2 => ⟨?_, hs2.frm⟩) | refine ny_finR (rescT 3 rfl agg_79 rfl rfl rfl rfl rfl) (fun w hs2 => ⟨?_, hs2.frm⟩)
          unfold oneC
          simp only [*, if_true, if_false, Bool.false_eq_true, Bool.true_eq_false, Bool.or_true, Bool.true_or, Bool.or_false, Bool.false_or, ext_take]
          rfl
        · refine cy_seq ?_
          refine cy_region ?_
          refine sy_move rfl rfl rfl ?_
          refine sy_call rfl call_74 rfl (ib_c _ c _) rfl rfl ?_
          refine sy_cmp rfl rfl rfl rfl rfl ?_
          refine sy_assign rfl rfl rfl ?_
          refine sy_nil rfl ?_
          refine ny_next ?_
          refine cy_cond rfl (fun hc40 => ?_) (fun hc40 => ?_)
          · have hpu : punctL.contains c = true := (idx_has punctL c).symm.trans hc40
            refine cy_region ?_
            refine sy_field fld_79_0 rfl rfl rfl ?_
            first | refine sy_stl 0 sz_3 rfl rfl rfl rfl rfl rfl rfl rfl ?_ | refine sy_stl 1 sz_3 rfl rfl rfl rfl rfl rfl rfl rfl ?_ | refine sy_stl 2 sz_3 rfl rfl rfl rfl rfl rfl rfl rfl ?_ | refine sy_stl 3 sz_3 rfl rfl rfl rfl rfl rfl rfl rfl ?_
            refine sy_nil rfl ?_
            refine ny_blockN ?_
            refine ny_next ?_
            refine cy_seq ?_
            refine cy_region ?_
            refine sy_move rfl rfl rfl ?_
            refine sy_move rfl rfl rfl ?_
            refine sy_strto Tryz.underlying9 rfl rfl (by omega) rfl rfl ?_
            refine sy_field fld_79_1 rfl rfl rfl ?_
            first | refine sy_stl 0 sz_9 rfl rfl rfl rfl rfl rfl rfl rfl ?_ | refine sy_stl 1 sz_9 rfl rfl rfl rfl rfl rfl rfl rfl ?_ | refine sy_stl 2 sz_9 rfl rfl rfl rfl rfl rfl rfl rfl ?_ | refine sy_stl 3 sz_9 rfl rfl rfl rfl rfl rfl rfl rfl ?_
            refine sy_nil rfl ?_
            refine ny_next ?_
            refine cy_seq ?_
            refine cy_region ?_
            first | refine sy_ldar 0 agg_79 rfl rfl rfl rfl rfl ?_ | refine sy_ldar 1 agg_79 rfl rfl rfl rfl rfl ?_ | refine sy_ldar 2 agg_79 rfl rfl rfl rfl rfl ?_ | refine sy_ldar 3 agg_79 rfl rfl rfl rfl rfl ?_
            refine sy_move rfl rfl rfl ?_
            first | refine sy_stl 0 sz_79 rfl rfl rfl rfl rfl rfl rfl rfl ?_ | refine sy_stl 1 sz_79 rfl rfl rfl rfl rfl rfl rfl rfl ?_ | refine sy_stl 2 sz_79 rfl rfl rfl rfl rfl rfl rfl rfl ?_ | refine sy_stl 3 sz_79 rfl rfl rfl rfl rfl rfl rfl rfl ?_
            refine sy_assign rfl rfl rfl ?_
            refine sy_assign rfl rfl rfl ?_
            refine sy_nil rfl ?_
            refine ny_next ?_
            refine cy_ret ?_
            first | refine ny_finR (rescT 0 rfl agg_79 rfl rfl rfl rfl rfl) (fun w hs2 => ⟨?_, hs2.frm⟩) | refine ny_finR (rescT 1 rfl agg_79 rfl rfl rfl rfl rfl) (fun w hs2 => ⟨?_, hs2.frm⟩) | refine ny_finR (rescT 2 rfl agg_79 rfl rfl rfl rfl rfl) (fun w hs2 => ⟨?_, hs2.frm⟩) | refine ny_finR (rescT 3 rfl agg_79 rfl rfl rfl rfl rfl) (fun w hs2 => ⟨?_, hs2.frm⟩)
            unfold oneC
            simp only [*, if_true, if_false, Bool.false_eq_true, Bool.true_eq_false, Bool.or_true, Bool.true_or, Bool.or_false, Bool.false_or, ext_take]
            rfl
          · have hpu : punctL.contains c = false := (idx_has punctL c).symm.trans hc40
            refine cy_seq ?_
            refine cy_region ?_
            refine sy_move rfl rfl rfl ?_
            refine sy_cmp rfl rfl rfl rfl rfl ?_
            refine sy_move rfl rfl rfl ?_
            refine sy_cond (d := 48) _ rfl rfl (fun hg48 => ?_) (fun hg48 => ?_)
            · refine sy_skip rfl rfl rfl ?_
              refine sy_skip rfl rfl rfl ?_
              refine sy_pickT rfl rfl rfl rfl ?_
              refine sy_assign rfl rfl rfl ?_
              refine sy_nil rfl ?_
              refine ny_next ?_
              refine cy_condT rfl ?_
              refine cy_skip ?_
              refine ny_blockN ?_
              refine ny_next ?_
              refine cy_seq ?_
              refine cy_region ?_
              refine sy_move rfl rfl rfl ?_
              refine sy_move rfl rfl rfl ?_
              refine sy_strto Tryz.underlying9 rfl rfl (by omega) rfl rfl ?_
              refine sy_field fld_79_1 rfl rfl rfl ?_
              first | refine sy_stl 0 sz_9 rfl rfl rfl rfl rfl rfl rfl rfl ?_ | refine sy_stl 1 sz_9 rfl rfl rfl rfl rfl rfl rfl rfl ?_ | refine sy_stl 2 sz_9 rfl rfl rfl rfl rfl rfl rfl rfl ?_ | refine sy_stl 3 sz_9 rfl rfl rfl rfl rfl rfl rfl rfl ?_
              refine sy_nil rfl ?_
              refine ny_next ?_
              refine cy_seq ?_
              refine cy_region ?_
              first | refine sy_ldar 0 agg_79 rfl rfl rfl rfl rfl ?_ | refine sy_ldar 1 agg_79 rfl rfl rfl rfl rfl ?_ | refine sy_ldar 2 agg_79 rfl rfl rfl rfl rfl ?_ | refine sy_ldar 3 agg_79 rfl rfl rfl rfl rfl ?_
              refine sy_move rfl rfl rfl ?_
              first | refine sy_stl 0 sz_79 rfl rfl rfl rfl rfl rfl rfl rfl ?_ | refine sy_stl 1 sz_79 rfl rfl rfl rfl rfl rfl rfl rfl ?_ | refine sy_stl 2 sz_79 rfl rfl rfl rfl rfl rfl rfl rfl ?_ | refine sy_stl 3 sz_79 rfl rfl rfl rfl rfl rfl rfl rfl ?_
              refine sy_assign rfl rfl rfl ?_
              refine sy_assign rfl rfl rfl ?_
              refine sy_nil rfl ?_
              refine ny_next ?_
              refine cy_ret ?_
              first | refine ny_finR (rescT 0 rfl agg_79 rfl rfl rfl rfl rfl) (fun w hs2 => ⟨?_, hs2.frm⟩) | refine ny_finR (rescT 1 rfl agg_79 rfl rfl rfl rfl rfl) (fun w hs2 => ⟨?_, hs2.frm⟩) | refine ny_finR (rescT 2 rfl agg_79 rfl rfl rfl rfl rfl) (fun w hs2 => ⟨?_, hs2.frm⟩) | refine ny_finR (rescT 3 rfl agg_79 rfl rfl rfl rfl rfl) (fun w hs2 => ⟨?_, hs2.frm⟩)
              unfold oneC
              simp only [*, if_true, if_false, Bool.false_eq_true, Bool.true_eq_false, Bool.or_true, Bool.true_or, Bool.or_false, Bool.false_or, ext_take]
              rfl
            · refine sy_move rfl rfl rfl ?_
              refine sy_cmp rfl rfl rfl rfl rfl ?_
              refine sy_pickF rfl rfl rfl rfl ?_
              refine sy_assign rfl rfl rfl ?_
              refine sy_nil rfl ?_
              refine ny_next ?_
              refine cy_cond rfl (fun hc45 => ?_) (fun hc45 => ?_)
              · refine cy_skip ?_
                refine ny_blockN ?_
                refine ny_next ?_
                refine cy_seq ?_
                refine cy_region ?_
                refine sy_move rfl rfl rfl ?_
                refine sy_move rfl rfl rfl ?_
                refine sy_strto Tryz.underlying9 rfl rfl (by omega) rfl rfl ?_
                refine sy_field fld_79_1 rfl rfl rfl ?_
                first | refine sy_stl 0 sz_9 rfl rfl rfl rfl rfl rfl rfl rfl ?_ | refine sy_stl 1 sz_9 rfl rfl rfl rfl rfl rfl rfl rfl ?_ | refine sy_stl 2 sz_9 rfl rfl rfl rfl rfl rfl rfl rfl ?_ | refine sy_stl 3 sz_9 rfl rfl rfl rfl rfl rfl rfl rfl ?_
                refine sy_nil rfl ?_
                refine ny_next ?_
                refine cy_seq ?_
                refine cy_region ?_
                first | refine sy_ldar 0 agg_79 rfl rfl rfl rfl rfl ?_ | refine sy_ldar 1 agg_79 rfl rfl rfl rfl rfl ?_ | refine sy_ldar 2 agg_79 rfl rfl rfl rfl rfl ?_ | refine sy_ldar 3 agg_79 rfl rfl rfl rfl rfl ?_
                refine sy_move rfl rfl rfl ?_
                first | refine sy_stl 0 sz_79 rfl rfl rfl rfl rfl rfl rfl rfl ?_ | refine sy_stl 1 sz_79 rfl rfl rfl rfl rfl rfl rfl rfl ?_ | refine sy_stl 2 sz_79 rfl rfl rfl rfl rfl rfl rfl rfl ?_ | refine sy_stl 3 sz_79 rfl rfl rfl rfl rfl rfl rfl rfl ?_
                refine sy_assign rfl rfl rfl ?_
                refine sy_assign rfl rfl rfl ?_
                refine sy_nil rfl ?_
                refine ny_next ?_
                refine cy_ret ?_
                first | refine ny_finR (rescT 0 rfl agg_79 rfl rfl rfl rfl rfl) (fun w hs2 => ⟨?_, hs2.frm⟩) | refine ny_finR (rescT 1 rfl agg_79 rfl rfl rfl rfl rfl) (fun w hs2 => ⟨?_, hs2.frm⟩) | refine ny_finR (rescT 2 rfl agg_79 rfl rfl rfl rfl rfl) (fun w hs2 => ⟨?_, hs2.frm⟩) | refine ny_finR (rescT 3 rfl agg_79 rfl rfl rfl rfl rfl) (fun w hs2 => ⟨?_, hs2.frm⟩)
                unfold oneC
                simp only [*, if_true, if_false, Bool.false_eq_true, Bool.true_eq_false, Bool.or_true, Bool.true_or, Bool.or_false, Bool.false_or, ext_take]
                rfl
              · refine cy_seq ?_
                refine cy_region ?_
                refine sy_move rfl rfl rfl ?_
                refine sy_call rfl call_75 rfl (ends_c s _ hs) rfl rfl ?_
                refine sy_assign rfl rfl rfl ?_
                refine sy_nil rfl ?_
                refine ny_next ?_
                refine cy_cond rfl (fun hc52 => ?_) (fun hc52 => ?_)
                · refine cy_region ?_
                  refine sy_field fld_79_0 rfl rfl rfl ?_
                  first | refine sy_stl 0 sz_3 rfl rfl rfl rfl rfl rfl rfl rfl ?_ | refine sy_stl 1 sz_3 rfl rfl rfl rfl rfl rfl rfl rfl ?_ | refine sy_stl 2 sz_3 rfl rfl rfl rfl rfl rfl rfl rfl ?_ | refine sy_stl 3 sz_3 rfl rfl rfl rfl rfl rfl rfl rfl ?_
                  refine sy_nil rfl ?_
                  refine ny_blockN ?_
                  refine ny_next ?_
                  refine cy_seq ?_
                  refine cy_region ?_
                  refine sy_move rfl rfl rfl ?_
                  refine sy_move rfl rfl rfl ?_
                  refine sy_strto Tryz.underlying9 rfl rfl (by omega) rfl rfl ?_
                  refine sy_field fld_79_1 rfl rfl rfl ?_
                  first | refine sy_stl 0 sz_9 rfl rfl rfl rfl rfl rfl rfl rfl ?_ | refine sy_stl 1 sz_9 rfl rfl rfl rfl rfl rfl rfl rfl ?_ | refine sy_stl 2 sz_9 rfl rfl rfl rfl rfl rfl rfl rfl ?_ | refine sy_stl 3 sz_9 rfl rfl rfl rfl rfl rfl rfl rfl ?_
                  refine sy_nil rfl ?_
                  refine ny_next ?_
                  refine cy_seq ?_
                  refine cy_region ?_
                  first | refine sy_ldar 0 agg_79 rfl rfl rfl rfl rfl ?_ | refine sy_ldar 1 agg_79 rfl rfl rfl rfl rfl ?_ | refine sy_ldar 2 agg_79 rfl rfl rfl rfl rfl ?_ | refine sy_ldar 3 agg_79 rfl rfl rfl rfl rfl ?_
                  refine sy_move rfl rfl rfl ?_
                  first | refine sy_stl 0 sz_79 rfl rfl rfl rfl rfl rfl rfl rfl ?_ | refine sy_stl 1 sz_79 rfl rfl rfl rfl rfl rfl rfl rfl ?_ | refine sy_stl 2 sz_79 rfl rfl rfl rfl rfl rfl rfl rfl ?_ | refine sy_stl 3 sz_79 rfl rfl rfl rfl rfl rfl rfl rfl ?_
                  refine sy_assign rfl rfl rfl ?_
                  refine sy_assign rfl rfl rfl ?_
                  refine sy_nil rfl ?_
                  refine ny_next ?_
                  refine cy_ret ?_
                  first | refine ny_finR (rescT 0 rfl agg_79 rfl rfl rfl rfl rfl) (fun w hs2 => ⟨?_, hs2.frm⟩) | refine ny_finR (rescT 1 rfl agg_79 rfl rfl rfl rfl rfl) (fun w hs2 => ⟨?_, hs2.frm⟩) | refine ny_finR (rescT 2 rfl agg_79 rfl rfl rfl rfl rfl) (fun w hs2 => ⟨?_, hs2.frm⟩) | refine ny_finR (rescT 3 rfl agg_79 rfl rfl rfl rfl rfl) (fun w hs2 => ⟨?_, hs2.frm⟩)
                  unfold oneC
                  simp only [*, if_true, if_false, Bool.false_eq_true, Bool.true_eq_false, Bool.or_true, Bool.true_or, Bool.or_false, Bool.false_or, ext_take]
                  rfl
                · refine cy_seq ?_
                  refine cy_region ?_
                  refine sy_move rfl rfl rfl ?_
                  refine sy_call rfl call_76 rfl (sign_c c _) rfl rfl ?_
                  refine sy_assign rfl rfl rfl ?_
                  refine sy_nil rfl ?_
                  refine ny_next ?_
                  refine cy_cond rfl (fun hc56 => ?_) (fun hc56 => ?_)
                  · refine cy_region ?_
                    refine sy_move rfl rfl rfl ?_
                    refine sy_call rfl call_65 rfl (row_c s 76 signB _ (by omega) call_76 (fun c h => sign_c c h)) rfl rfl ?_
                    have hrl := runB_le signB s.data.toList
                    have hsz0 : s.data.toList.length = s.size := rfl
                    refine sy_assign rfl rfl rfl ?_
                    refine sy_nil rfl ?_
                    refine ny_blockN ?_
                    refine ny_next ?_
                    refine cy_seq ?_
                    refine cy_region ?_
                    refine sy_move rfl rfl rfl ?_
                    refine sy_move rfl rfl rfl ?_
                    refine sy_strto Tryz.underlying9 rfl rfl (by omega) rfl rfl ?_
                    refine sy_field fld_79_1 rfl rfl rfl ?_
                    first | refine sy_stl 0 sz_9 rfl rfl rfl rfl rfl rfl rfl rfl ?_ | refine sy_stl 1 sz_9 rfl rfl rfl rfl rfl rfl rfl rfl ?_ | refine sy_stl 2 sz_9 rfl rfl rfl rfl rfl rfl rfl rfl ?_ | refine sy_stl 3 sz_9 rfl rfl rfl rfl rfl rfl rfl rfl ?_
                    refine sy_nil rfl ?_
                    refine ny_next ?_
                    refine cy_seq ?_
                    refine cy_region ?_
                    first | refine sy_ldar 0 agg_79 rfl rfl rfl rfl rfl ?_ | refine sy_ldar 1 agg_79 rfl rfl rfl rfl rfl ?_ | refine sy_ldar 2 agg_79 rfl rfl rfl rfl rfl ?_ | refine sy_ldar 3 agg_79 rfl rfl rfl rfl rfl ?_
                    refine sy_move rfl rfl rfl ?_
                    first | refine sy_stl 0 sz_79 rfl rfl rfl rfl rfl rfl rfl rfl ?_ | refine sy_stl 1 sz_79 rfl rfl rfl rfl rfl rfl rfl rfl ?_ | refine sy_stl 2 sz_79 rfl rfl rfl rfl rfl rfl rfl rfl ?_ | refine sy_stl 3 sz_79 rfl rfl rfl rfl rfl rfl rfl rfl ?_
                    refine sy_assign rfl rfl rfl ?_
                    refine sy_assign rfl rfl rfl ?_
                    refine sy_nil rfl ?_
                    refine ny_next ?_
                    refine cy_ret ?_
                    first | refine ny_finR (rescT 0 rfl agg_79 rfl rfl rfl rfl rfl) (fun w hs2 => ⟨?_, hs2.frm⟩) | refine ny_finR (rescT 1 rfl agg_79 rfl rfl rfl rfl rfl) (fun w hs2 => ⟨?_, hs2.frm⟩) | refine ny_finR (rescT 2 rfl agg_79 rfl rfl rfl rfl rfl) (fun w hs2 => ⟨?_, hs2.frm⟩) | refine ny_finR (rescT 3 rfl agg_79 rfl rfl rfl rfl rfl) (fun w hs2 => ⟨?_, hs2.frm⟩)
                    unfold oneC
                    simp only [*, if_true, if_false, Bool.false_eq_true, Bool.true_eq_false, Bool.or_true, Bool.true_or, Bool.or_false, Bool.false_or, ext_take]
                    rfl
                  · refine cy_seq ?_
                    refine cy_region ?_
                    refine sy_build rfl (fun w => bld_79_ w) rfl rfl ?_
                    refine sy_call rfl call_49 rfl (bad_c _ _ _) rfl rfl ?_
                    first | refine sy_stl 0 sz_79 rfl rfl rfl rfl rfl rfl rfl rfl ?_ | refine sy_stl 1 sz_79 rfl rfl rfl rfl rfl rfl rfl rfl ?_ | refine sy_stl 2 sz_79 rfl rfl rfl rfl rfl rfl rfl rfl ?_ | refine sy_stl 3 sz_79 rfl rfl rfl rfl rfl rfl rfl rfl ?_
                    refine sy_assign rfl rfl rfl ?_
                    refine sy_assign rfl rfl rfl ?_
                    refine sy_nil rfl ?_
                    refine ny_next ?_
                    refine cy_ret ?_
                    refine ny_blockR ?_
                    refine ny_thenR ?_
                    first | refine ny_finR (rescT 0 rfl agg_79 rfl rfl rfl rfl rfl) (fun w hs2 => ⟨?_, hs2.frm⟩) | refine ny_finR (rescT 1 rfl agg_79 rfl rfl rfl rfl rfl) (fun w hs2 => ⟨?_, hs2.frm⟩) | refine ny_finR (rescT 2 rfl agg_79 rfl rfl rfl rfl rfl) (fun w hs2 => ⟨?_, hs2.frm⟩) | refine ny_finR (rescT 3 rfl agg_79 rfl rfl rfl rfl rfl) (fun w hs2 => ⟨?_, hs2.frm⟩)
                    unfold oneC
                    simp only [*, if_true, if_false, Bool.false_eq_true, Bool.true_eq_false, Bool.or_true, Bool.true_or, Bool.or_false, Bool.false_or, ext_take]
                    rfl
end Go.Proofs.YtanhhihechakhaaGreatDoor
set_option linter.unusedVariables false
set_option linter.unusedSimpArgs false
namespace Go.Proofs.YtanhhihechakhaaGreatDoor.TokP
open Go.RowKit Go.Proofs.YtanhhihechakhaaGreatDoor.E Go.Proofs.YtanhhihechakhaaGreatDoor.ReplP
structure Tk where
  a : Ans
  tight : Bool
def tkC (t : Tk) : List Value := [.int .i64 t.a.kind, .string t.a.str, .int .i64 t.a.num, .bool t.a.quo, .bool t.tight]
inductive Sc where
  | ok (ts : List Tk)
  | bad (at_ : Nat) (what : ByteArray) (e : Int)
def n1 : ByteArray := ⟨#[97, 32, 110, 97, 109, 101]⟩
/-- what is wrong with what was read -/
def errA (a : Ans) : Option (ByteArray × Int) := if a.err = none ∧ 64 < a.str.size then some (n1, 3) else a.err
def firstC : List UInt8 → UInt8
  | [] => 0
  | c :: _ => c
def scanF (l : List UInt8) : Nat → Nat → List Tk → Sc
  | 0, _, acc => .ok acc
  | k + 1, i, acc =>
    if i + skipN (l.drop i) = l.length then .ok acc
    else match errA (oneC (firstC (l.drop (i + skipN (l.drop i)))) (l.drop (i + skipN (l.drop i)))) with
      | some x => .bad (i + skipN (l.drop i)) x.1 x.2
      | none => scanF l k (i + skipN (l.drop i) + (oneC (firstC (l.drop (i + skipN (l.drop i)))) (l.drop (i + skipN (l.drop i)))).used) (acc ++ [⟨oneC (firstC (l.drop (i + skipN (l.drop i)))) (l.drop (i + skipN (l.drop i))), decide (skipN (l.drop i) = 0) && decide (0 < acc.length)⟩])
theorem run_first {p : UInt8 → Bool} {c : UInt8} {l : List UInt8} (h : p c = true) : 1 ≤ runB p (c :: l) := by rw [runB_yes h]; omega
theorem num_used {c : UInt8} {l : List UInt8} (h : digitB c = true) (he : (numA (c :: l)).err = none) : 1 ≤ (numA (c :: l)).used ∧ (numA (c :: l)).used ≤ (c :: l).length := by
  unfold numA at he ⊢
  split at he
  · cases he
  · rename_i h1
    rw [if_neg h1]
    split at he
    · cases he
    · rename_i h2
      rw [if_neg h2]
      exact ⟨run_first h, runB_le _ _⟩
theorem quo_used (l : List UInt8) : ∀ (m : Nat) (r out : List UInt8) (k : Nat), r.length ≤ m → k + r.length = l.length → (quoL r out k).err = none → 1 ≤ (quoL r out k).used ∧ (quoL r out k).used ≤ l.length := by
  intro m
  induction m with
  | zero =>
    intro r out k hr hk he
    have : r = [] := List.eq_nil_of_length_eq_zero (by omega)
    subst this
    rw [quoL] at he
    cases he
  | succ m ih =>
    intro r out k hr hk he
    match r, hr, hk, he with
    | [], _, _, he => rw [quoL] at he; cases he
    | [c], _, hk, he =>
      rw [quoL] at he ⊢
      simp only [List.length_cons, List.length_nil] at hk
      split at he
      · rename_i h1
        rw [if_pos h1]
        exact ⟨by show 1 ≤ k + 1; omega, by show k + 1 ≤ _; omega⟩
      · split at he
        · cases he
        · split at he <;> cases he
    | c :: d :: t, hr, hk, he =>
      rw [quoL] at he ⊢
      simp only [List.length_cons] at hk hr
      by_cases h39 : c = 39
      · rw [if_pos h39] at he ⊢
        by_cases hd : d = 39
        · rw [if_pos hd] at he ⊢
          exact ih t _ (k + 2) (by omega) (by omega) he
        · rw [if_neg hd] at he ⊢
          exact ⟨by show 1 ≤ k + 1; omega, by show k + 1 ≤ _; omega⟩
      · rw [if_neg h39] at he ⊢
        by_cases h92 : c = 92
        · rw [if_pos h92] at he ⊢
          cases hx : esc d with
          | none => rw [hx] at he; cases he
          | some x =>
            rw [hx] at he
            exact ih t _ (k + 2) (by omega) (by omega) he
        · rw [if_neg h92] at he ⊢
          by_cases hlow : (c.toNat : Int) < 32
          · rw [if_pos hlow] at he; cases he
          · rw [if_neg hlow] at he ⊢
            exact ih (d :: t) _ (k + 1) (by simp only [List.length_cons]; omega) (by simp only [List.length_cons]; omega) he
theorem one_used {c : UInt8} {l : List UInt8} (he : (oneC c (c :: l)).err = none) : 1 ≤ (oneC c (c :: l)).used ∧ (oneC c (c :: l)).used ≤ (c :: l).length := by
  have h1 : 1 ≤ (c :: l).length := by simp
  unfold oneC at he ⊢
  split at he
  · rename_i h; rw [if_pos h]; exact ⟨run_first (by unfold letterB; rw [h]; rfl), runB_le _ _⟩
  rename_i h
  rw [if_neg h]
  split at he
  · rename_i h; rw [if_pos h]; exact ⟨run_first (by unfold letterB; rw [h]; simp), runB_le _ _⟩
  rename_i h
  rw [if_neg h]
  split at he
  · rename_i h; rw [if_pos h]; exact num_used h he
  rename_i h
  rw [if_neg h]
  split at he
  · rename_i h; rw [if_pos h]; exact quo_used (c :: l) l.length l [] 1 (Nat.le_refl _) (by simp; omega) he
  rename_i h
  rw [if_neg h]
  split at he
  · rename_i h; rw [if_pos h]; exact ⟨Nat.le_refl _, h1⟩
  rename_i h
  rw [if_neg h]
  split at he
  · rename_i h; rw [if_pos h]; exact ⟨Nat.le_refl _, h1⟩
  rename_i h
  rw [if_neg h]
  split at he
  · rename_i h; rw [if_pos h]; exact ⟨Nat.le_refl _, h1⟩
  rename_i h
  rw [if_neg h]
  split at he
  · rename_i h; rw [if_pos h]; exact ⟨run_first h, runB_le _ _⟩
  · cases he
/-! step by step -/
section
variable {l : List UInt8} {i k : Nat} {acc : List Tk}
theorem skip_room (hi : i ≤ l.length) : i + skipN (l.drop i) ≤ l.length := by
  have := skip_le (l.drop i).length (l.drop i) (Nat.le_refl _)
  rw [List.length_drop] at this
  omega
theorem scan_done (h : i + skipN (l.drop i) = l.length) : scanF l (k + 1) i acc = .ok acc := by rw [scanF, if_pos h]
theorem scan_bad {x : ByteArray × Int} (h : ¬ i + skipN (l.drop i) = l.length) (he : errA (oneC (firstC (l.drop (i + skipN (l.drop i)))) (l.drop (i + skipN (l.drop i)))) = some x) : scanF l (k + 1) i acc = .bad (i + skipN (l.drop i)) x.1 x.2 := by rw [scanF, if_neg h, he]
theorem scan_more (h : ¬ i + skipN (l.drop i) = l.length) (he : errA (oneC (firstC (l.drop (i + skipN (l.drop i)))) (l.drop (i + skipN (l.drop i)))) = none) : scanF l (k + 1) i acc = scanF l k (i + skipN (l.drop i) + (oneC (firstC (l.drop (i + skipN (l.drop i)))) (l.drop (i + skipN (l.drop i)))).used) (acc ++ [⟨oneC (firstC (l.drop (i + skipN (l.drop i)))) (l.drop (i + skipN (l.drop i))), decide (skipN (l.drop i) = 0) && decide (0 < acc.length)⟩]) := by rw [scanF, if_neg h, he]
theorem err_none {a : Ans} (h : errA a = none) : a.err = none := by
  unfold errA at h
  split at h
  · cases h
  · exact h
theorem scan_used (hi : i ≤ l.length) (h : ¬ i + skipN (l.drop i) = l.length) (he : errA (oneC (firstC (l.drop (i + skipN (l.drop i)))) (l.drop (i + skipN (l.drop i)))) = none) : i + 1 ≤ i + skipN (l.drop i) + (oneC (firstC (l.drop (i + skipN (l.drop i)))) (l.drop (i + skipN (l.drop i)))).used ∧ i + skipN (l.drop i) + (oneC (firstC (l.drop (i + skipN (l.drop i)))) (l.drop (i + skipN (l.drop i)))).used ≤ l.length := by
  have h1 := skip_room hi
  have hlt : i + skipN (l.drop i) < l.length := by omega
  have h2 := drop_at (List.getElem?_eq_getElem hlt)
  have h3 := err_none he
  rw [h2] at h3 ⊢
  have h4 := one_used h3
  simp only [firstC]
  have h5 : (l[i + skipN (l.drop i)] :: l.drop (i + skipN (l.drop i) + 1)).length = l.length - (i + skipN (l.drop i)) := by rw [← h2, List.length_drop]
  have h6 : (oneC l[i + skipN (l.drop i)] (l[i + skipN (l.drop i)] :: l.drop (i + skipN (l.drop i) + 1))).used ≤ l.length - (i + skipN (l.drop i)) := Nat.le_trans h4.2 (Nat.le_of_eq h5)
  have h7 : 1 ≤ (oneC l[i + skipN (l.drop i)] (l[i + skipN (l.drop i)] :: l.drop (i + skipN (l.drop i) + 1))).used := h4.1
  omega
theorem scan_fuel : ∀ (k1 k2 i : Nat) (acc : List Tk), i ≤ l.length → l.length + 1 ≤ i + k1 → l.length + 1 ≤ i + k2 → scanF l k1 i acc = scanF l k2 i acc
  | 0, _, i, acc, hi, h1, _ => by omega
  | _, 0, i, acc, hi, _, h2 => by omega
  | k1 + 1, k2 + 1, i, acc, hi, h1, h2 => by
    by_cases h : i + skipN (l.drop i) = l.length
    · rw [scan_done h, scan_done h]
    · cases he : errA (oneC (firstC (l.drop (i + skipN (l.drop i)))) (l.drop (i + skipN (l.drop i)))) with
      | some x => rw [scan_bad h he, scan_bad h he]
      | none =>
        rw [scan_more h he, scan_more h he]
        have hu := scan_used hi h he
        exact scan_fuel k1 k2 _ _ hu.2 (by omega) (by omega)
end
def scanA (l : List UInt8) : Sc := if 4096 < l.length then .bad 0 ⟨#[97, 32, 116, 101, 120, 116]⟩ 3 else scanF l (l.length + 1) 0 []
end Go.Proofs.YtanhhihechakhaaGreatDoor.TokP
set_option linter.unusedVariables false
set_option linter.unusedSimpArgs false
namespace Go.Proofs.YtanhhihechakhaaGreatDoor
open Go.RowKit Go.Proofs.YtanhhihechakhaaGreatDoor.E Go.Proofs.YtanhhihechakhaaGreatDoor.ReplP Go.Proofs.YtanhhihechakhaaGreatDoor.TokP
theorem nilB_err (T : Nat) (e : Option (ByteArray × Int)) : nilB (errV T e) = some e.isNone := by cases e <;> rfl
def scV (T : Nat) (r : Sc) (x : Option Addr × Nat) : Value := match r with
  | .ok ts => .tuple #[.slice x.1 ts.length x.2, .int .i64 0, .nilIface]
  | .bad i w e => .tuple #[.slice none 0 0, .int .i64 (i : Int), .iface T (.agg #[.string w, .int .i64 e])]
def scR (r : Sc) (x : Option Addr × Nat) (h : Hp) : Prop := match r with
  | .ok ts => RowsAt h x.1 5 (ts.map tkC) ∧ ts.length ≤ x.2
  | .bad _ _ _ => True
theorem tkC_len (l : List Tk) : ∀ c ∈ l.map tkC, c.length = 5 := fun c hc => by
  obtain ⟨t, _, rfl⟩ := List.mem_map.1 hc
  rfl
theorem tkC_snoc (l : List Tk) (t : Tk) : ((l ++ [t]).map tkC).flatten = (l.map tkC).flatten ++ [.int .i64 t.a.kind, .string t.a.str, .int .i64 t.a.num, .bool t.a.quo, .bool t.tight] := by
  rw [List.map_append, List.flatten_append]
  simp [tkC]
set_option maxRecDepth 100000 in
theorem scan_c (s : ByteArray) (h : Hp) : CX Tryz.prog 34 [.string s] h (scV 100 (scanA s.data.toList)) (scR (scanA s.data.toList)) := by
  refine enterX Tryz.func34 rfl rfl rfl (fun w => ?_)
  refine cy_seq ?_
  refine cy_region ?_
  refine sy_assign rfl rfl rfl ?_
  refine sy_assign rfl rfl rfl ?_
  refine sy_assign rfl rfl rfl ?_
  refine sy_nil rfl ?_
  refine ny_next ?_
  refine cy_seq ?_
  refine cy_seq ?_
  refine cy_region ?_
  refine sy_move rfl rfl rfl ?_
  refine sy_len rfl (len_string Tryz.underlying9 _) rfl rfl ?_
  refine sy_cmp rfl rfl rfl rfl rfl ?_
  refine sy_nil rfl ?_
  refine ny_next ?_
  refine cy_cond rfl (fun hc13 => ?_) (fun hc13 => ?_)
  · refine cy_seq ?_
    refine cy_region ?_
    refine sy_call rfl call_49 rfl (bad_c _ _ _) rfl rfl ?_
    refine sy_assign rfl rfl rfl ?_
    refine sy_assign rfl rfl rfl ?_
    refine sy_assign rfl rfl rfl ?_
    refine sy_nil rfl ?_
    refine ny_next ?_
    refine cy_ret ?_
    refine ny_thenR ?_
    have hbig : 4096 < s.data.toList.length := by have h9 := of_decide_eq_true hc13; have h8 : s.data.toList.length = s.size := rfl; omega
    refine ny_finR (res3 rfl rfl rfl rfl) (fun w hs2 => ⟨(none, 0), _, ?_, ?_, hs2.toGrow⟩)
    · unfold scanA; rw [if_pos hbig]; rfl
    · unfold scanA; rw [if_pos hbig]; trivial
  · have hnb : ¬ 4096 < s.data.toList.length := by have h9 := of_decide_eq_false hc13; have h8 : s.data.toList.length = s.size := rfl; omega
    have hs : s.size ≤ 70368744177600 := by have h8 : s.data.toList.length = s.size := rfl; omega
    refine cy_skip ?_
    refine ny_next ?_
    refine cy_seq ?_
    refine cy_region ?_
    refine sy_assign rfl rfl rfl ?_
    refine sy_nil rfl ?_
    refine ny_next ?_
    refine cy_seq ?_
    refine cy_region ?_
    refine sy_assign rfl rfl rfl ?_
    refine sy_nil rfl ?_
    refine ny_next ?_
    refine cy_block ?_
    refine cy_nilRow 79 5 ?_
    refine cy_loopK (ι := Nat × List Tk × Value) [0] rfl (fun z => z.1 ≤ s.size ∧ z.2.1.length ≤ z.1 ∧ scanF s.data.toList (s.size + 1 - z.1) z.1 z.2.1 = scanF s.data.toList (s.size + 1) 0 []) (fun z => s.size - z.1) (fun z => [(5, z.2.2), (6, .int .i64 (z.1 : Int))]) (fun z => h) (fun z => [Res.row z.2.2 79 5 (z.2.1).length (((z.2.1).map tkC).flatten)]) (0, [], .slice none 0 0) [0] ⟨Nat.zero_le _, Nat.zero_le _, rfl⟩ ⟨rfl, rfl, trivial⟩ rfl rfl ?_
    rintro ⟨i, acc, v5⟩ ⟨hI, hol, hpre⟩
    simp only at hI hol hpre ⊢
    have hsz : s.data.toList.length = s.size := rfl
    obtain ⟨k, hk⟩ : ∃ k, s.size + 1 - i = k + 1 := ⟨s.size - i, by omega⟩
    have hcap : acc.length ≤ 4096 := by omega
    have hroom := skip_room (l := s.data.toList) hI
    refine cy_block ?_
    refine cy_seq ?_
    refine cy_region ?_
    refine sy_move rfl rfl rfl ?_
    refine sy_move rfl rfl rfl ?_
    refine sy_strfrom Tryz.underlying9 rfl rfl (by omega) rfl rfl ?_
    have hx18 : (s.extract i s.size).size ≤ 70368744177600 := by
      have h9 : (s.extract i s.size).size = (s.extract i s.size).data.toList.length := rfl
      rw [h9, ext_from, List.length_drop]
      omega
    refine sy_call rfl call_50 rfl (skip_c (s.extract i s.size) _ hx18) rfl rfl ?_
    rw [ext_from]
    refine sy_assign rfl rfl rfl ?_
    refine sy_nil rfl ?_
    refine ny_next ?_
    refine cy_seq ?_
    refine cy_region ?_
    refine sy_move rfl rfl rfl ?_
    refine sy_move rfl rfl rfl ?_
    refine sy_addi (z := (((i + skipN (s.data.toList.drop i)) : Nat) : Int)) rfl rfl (by omega) (by omega) (by omega) rfl rfl ?_
    refine sy_assign rfl rfl rfl ?_
    refine sy_nil rfl ?_
    refine ny_next ?_
    refine cy_seq ?_
    refine cy_seq ?_
    refine cy_region ?_
    refine sy_move rfl rfl rfl ?_
    refine sy_move rfl rfl rfl ?_
    refine sy_len rfl (len_string Tryz.underlying9 _) rfl rfl ?_
    refine sy_cmp rfl rfl rfl rfl rfl ?_
    refine sy_nil rfl ?_
    refine ny_next ?_
    refine cy_cond rfl (fun hc25 => ?_) (fun hc25 => ?_)
    · have hend : (i + skipN (s.data.toList.drop i)) = s.data.toList.length := by have h9 : (((i + skipN (s.data.toList.drop i)) : Nat) : Int) = (s.size : Int) := (by simpa using hc25); omega
      refine cy_frzRow 0 rfl (fun _ _ => by simp) (fun A9 c9 h9 hv9 hlc9 hcm9 _ hle9 hcell9 => ?_)
      subst hv9
      have hr9 : RowsAt h9 A9 5 (acc.map tkC) := rows_row (by decide) (tkC_len _) hcell9
      refine cy_seq ?_
      refine cy_region ?_
      refine sy_move rfl rfl rfl ?_
      refine sy_assign rfl rfl rfl ?_
      refine sy_assign rfl rfl rfl ?_
      refine sy_assign rfl rfl rfl ?_
      refine sy_nil rfl ?_
      refine ny_next ?_
      refine cy_ret ?_
      refine ny_thenR ?_
      refine ny_blockR ?_
      refine ny_thenR ?_
      refine ny_blockR ?_
      have hres : scanA s.data.toList = .ok acc := by unfold scanA; rw [if_neg hnb]; show scanF s.data.toList (s.size + 1) 0 [] = _; rw [← hpre, hk]; exact scan_done hend
      refine ny_finR (res3 rfl rfl rfl rfl) (fun w hs2 => ⟨(A9, c9), h9, ?_, ?_, hs2.toGrow⟩)
      · rw [hres]; rfl
      · rw [hres]; exact ⟨hr9, hlc9⟩
    · have hne : ¬ (i + skipN (s.data.toList.drop i)) = s.data.toList.length := by
        intro h9
        rw [hsz] at h9
        rw [h9] at hc25
        simp at hc25
      refine cy_skip ?_
      refine ny_next ?_
      refine cy_seq ?_
      refine cy_region ?_
      refine sy_move rfl rfl rfl ?_
      refine sy_move rfl rfl rfl ?_
      refine sy_strfrom Tryz.underlying9 rfl rfl (by omega) rfl rfl ?_
      have hx31 : (s.extract (i + skipN (s.data.toList.drop i)) s.size).size ≤ 70368744177600 := by
        have h9 : (s.extract (i + skipN (s.data.toList.drop i)) s.size).size = (s.extract (i + skipN (s.data.toList.drop i)) s.size).data.toList.length := rfl
        rw [h9, ext_from, List.length_drop]
        omega
      have hlt : (i + skipN (s.data.toList.drop i)) < s.data.toList.length := by omega
      have hdr := drop_at (List.getElem?_eq_getElem hlt)
      have hc31 : (s.extract (i + skipN (s.data.toList.drop i)) s.size).data.toList[0]? = some (firstC (s.data.toList.drop (i + skipN (s.data.toList.drop i)))) := by rw [ext_from, hdr]; rfl
      have hz31 : 1 ≤ (s.extract (i + skipN (s.data.toList.drop i)) s.size).size := by
        have h9 : (s.extract (i + skipN (s.data.toList.drop i)) s.size).size = (s.extract (i + skipN (s.data.toList.drop i)) s.size).data.toList.length := rfl
        rw [h9, ext_from, List.length_drop]
        omega
      refine sy_call rfl call_51 rfl (one_c (s.extract (i + skipN (s.data.toList.drop i)) s.size) _ _ hx31 hz31 hc31) rfl rfl ?_
      rw [ext_from]
      refine sy_move rfl rfl rfl ?_
      refine sy_extract rfl rfl rfl rfl ?_
      refine sy_extract rfl rfl rfl rfl ?_
      refine sy_extract rfl rfl rfl rfl ?_
      refine sy_alloc zer_79 rfl rfl (fun b8 hb8 hM8 => ?_) (by simp)
      first | refine sy_stl 0 sz_79 rfl rfl rfl rfl rfl rfl rfl rfl ?_ | refine sy_stl 1 sz_79 rfl rfl rfl rfl rfl rfl rfl rfl ?_ | refine sy_stl 2 sz_79 rfl rfl rfl rfl rfl rfl rfl rfl ?_ | refine sy_stl 3 sz_79 rfl rfl rfl rfl rfl rfl rfl rfl ?_
      refine sy_assign rfl rfl rfl ?_
      refine sy_assign rfl rfl rfl ?_
      refine sy_nil rfl ?_
      refine ny_next ?_
      refine cy_seq ?_
      refine cy_seq ?_
      refine cy_region ?_
      refine sy_move rfl rfl rfl ?_
      refine sy_eqn (e := (oneC (firstC (s.data.toList.drop (i + skipN (s.data.toList.drop i)))) (s.data.toList.drop (i + skipN (s.data.toList.drop i)))).err.isNone) Tryz.underlying60 rfl (nilB_err _ _) rfl rfl rfl ?_
      refine sy_move rfl rfl rfl ?_
      refine sy_cond (d := 37) _ rfl rfl (fun hg37 => ?_) (fun hg37 => ?_)
      · refine sy_field fld_79_1 rfl rfl rfl ?_
        first | refine sy_ldr 0 one_9 rfl rfl rfl rfl rfl ?_ | refine sy_ldr 1 one_9 rfl rfl rfl rfl rfl ?_ | refine sy_ldr 2 one_9 rfl rfl rfl rfl rfl ?_ | refine sy_ldr 3 one_9 rfl rfl rfl rfl rfl ?_
        refine sy_len rfl (len_string Tryz.underlying9 _) rfl rfl ?_
        refine sy_cmp rfl rfl rfl rfl rfl ?_
        refine sy_pickT rfl rfl rfl rfl ?_
        refine sy_nil rfl ?_
        refine ny_next ?_
        refine cy_cond rfl (fun hc42 => ?_) (fun hc42 => ?_)
        · have herr : errA (oneC (firstC (s.data.toList.drop (i + skipN (s.data.toList.drop i)))) (s.data.toList.drop (i + skipN (s.data.toList.drop i)))) = some (n1, 3) := by
            unfold errA
            rw [if_pos ⟨Option.isNone_iff_eq_none.1 hg37, by have h9 := of_decide_eq_true hc42; omega⟩]
          refine cy_region ?_
          refine sy_call rfl call_49 rfl (bad_c _ _ _) rfl rfl ?_
          refine sy_assign rfl rfl rfl ?_
          refine sy_nil rfl ?_
          refine ny_next ?_
          refine cy_seq ?_
          refine cy_seq ?_
          refine cy_region ?_
          refine sy_move rfl rfl rfl ?_
          refine sy_eqn Tryz.underlying60 rfl rfl rfl rfl rfl ?_
          refine sy_setT (d := 45) rfl rfl rfl ?_
          refine sy_nil rfl ?_
          refine ny_next ?_
          refine cy_condT rfl ?_
          refine cy_seq ?_
          refine cy_region ?_
          refine sy_move rfl rfl rfl ?_
          refine sy_move rfl rfl rfl ?_
          refine sy_assign rfl rfl rfl ?_
          refine sy_assign rfl rfl rfl ?_
          refine sy_assign rfl rfl rfl ?_
          refine sy_nil rfl ?_
          refine ny_next ?_
          refine cy_ret ?_
          refine ny_thenR ?_
          refine ny_blockR ?_
          refine ny_thenR ?_
          refine ny_blockR ?_
          refine ny_finR (res3 rfl rfl rfl rfl) (fun w hs2 => ?_)
          have hres : scanA s.data.toList = .bad (i + skipN (s.data.toList.drop i)) n1 3 := by { unfold scanA; rw [if_neg hnb]; show scanF s.data.toList (s.size + 1) 0 [] = _; rw [← hpre, hk]; exact scan_bad hne herr }
          exact ⟨(none, 0), _, by { rw [hres]; rfl }, by { rw [hres]; trivial }, hs2.toGrow⟩
        · have herr : errA (oneC (firstC (s.data.toList.drop (i + skipN (s.data.toList.drop i)))) (s.data.toList.drop (i + skipN (s.data.toList.drop i)))) = none := by
            unfold errA
            rw [if_neg (by rintro ⟨_, h9⟩; have h8 := of_decide_eq_false hc42; omega)]
            exact Option.isNone_iff_eq_none.1 hg37
          have hus := scan_used hI hne herr
          refine cy_skip ?_
          refine ny_next ?_
          refine cy_seq ?_
          refine cy_seq ?_
          refine cy_region ?_
          refine sy_move rfl rfl rfl ?_
          refine sy_eqn (e := (oneC (firstC (s.data.toList.drop (i + skipN (s.data.toList.drop i)))) (s.data.toList.drop (i + skipN (s.data.toList.drop i)))).err.isNone) Tryz.underlying60 rfl (nilB_err _ _) rfl rfl rfl ?_
          refine sy_setF (d := 45) rfl rfl (by rw [hg37]; rfl) ?_
          refine sy_nil rfl ?_
          refine ny_next ?_
          refine cy_condF rfl ?_
          refine cy_skip ?_
          refine ny_next ?_
          refine cy_seq ?_
          refine cy_region ?_
          refine sy_move rfl rfl rfl ?_
          refine sy_cmp rfl rfl rfl rfl rfl ?_
          refine sy_move rfl rfl rfl ?_
          refine sy_cond (d := 50) _ rfl rfl (fun hg50 => ?_) (fun hg50 => ?_)
          · refine sy_move rfl rfl rfl ?_
            refine sy_rowform 1 rfl (fun A5 c5 hv5 => ?_)
            subst hv5
            refine sy_len rfl (len_slice Tryz.underlying58 _ _ _) rfl rfl ?_
            refine sy_cmp rfl rfl rfl rfl rfl ?_
            refine sy_pickT rfl rfl rfl rfl ?_
            refine sy_field fld_79_4 rfl rfl rfl ?_
            first | refine sy_stl 0 sz_4 rfl rfl rfl rfl rfl rfl rfl rfl ?_ | refine sy_stl 1 sz_4 rfl rfl rfl rfl rfl rfl rfl rfl ?_ | refine sy_stl 2 sz_4 rfl rfl rfl rfl rfl rfl rfl rfl ?_ | refine sy_stl 3 sz_4 rfl rfl rfl rfl rfl rfl rfl rfl ?_
            refine sy_nil rfl ?_
            refine ny_next ?_
            refine cy_seq ?_
            refine cy_region ?_
            refine sy_move rfl rfl rfl ?_
            first | refine sy_ldar 0 agg_79 rfl rfl rfl rfl rfl ?_ | refine sy_ldar 1 agg_79 rfl rfl rfl rfl rfl ?_ | refine sy_ldar 2 agg_79 rfl rfl rfl rfl rfl ?_ | refine sy_ldar 3 agg_79 rfl rfl rfl rfl rfl ?_
            refine sy_buildSlice rfl (fun w => bsl_58_1_0 w) rfl rfl (fun b58 hb58 hM58 => ?_) (by simp)
            refine sy_append 2 0 row_58 (by decide) rfl rfl rfl rfl rfl rfl (by omega) (by simp only [maxLen]; omega) rfl rfl (fun v59 => ?_)
            refine sy_assign rfl rfl rfl ?_
            refine sy_nil rfl ?_
            refine ny_next ?_
            refine cy_region ?_
            refine sy_move rfl rfl rfl ?_
            refine sy_move rfl rfl rfl ?_
            refine sy_addi (z := (((i + skipN (s.data.toList.drop i)) + (oneC (firstC (s.data.toList.drop (i + skipN (s.data.toList.drop i)))) (s.data.toList.drop (i + skipN (s.data.toList.drop i)))).used : Nat) : Int)) rfl rfl (by omega) (by omega) (by omega) rfl rfl ?_
            refine sy_assign rfl rfl rfl ?_
            refine sy_nil rfl ?_
            refine ny_blockN ?_
            refine ny_roundK [0] ((i + skipN (s.data.toList.drop i)) + (oneC (firstC (s.data.toList.drop (i + skipN (s.data.toList.drop i)))) (s.data.toList.drop (i + skipN (s.data.toList.drop i)))).used, acc ++ [Tk.mk (oneC (firstC (s.data.toList.drop (i + skipN (s.data.toList.drop i)))) (s.data.toList.drop (i + skipN (s.data.toList.drop i)))) (decide (skipN (s.data.toList.drop i) = 0) && decide (0 < acc.length))], v59) [0] ⟨hus.2, by show (acc ++ [_]).length ≤ _; rw [List.length_append]; simp only [List.length_cons, List.length_nil]; omega, by rw [← hpre, hk, scan_more hne herr]; exact scan_fuel _ _ _ _ hus.2 (by omega) (by omega)⟩ (show s.size - ((i + skipN (s.data.toList.drop i)) + (oneC (firstC (s.data.toList.drop (i + skipN (s.data.toList.drop i)))) (s.data.toList.drop (i + skipN (s.data.toList.drop i)))).used) < s.size - i by omega) rfl ⟨rfl, rfl, trivial⟩ rfl (by have htg : (decide (skipN (s.data.toList.drop i) = 0) && decide (0 < acc.length)) = decide ((0 : Int) < ((acc.length : Nat) : Int)) := by { rw [decide_eq_true (show skipN (s.data.toList.drop i) = 0 by simpa using hg50), Bool.true_and]; exact decide_eq_decide.2 (by omega) }; show _ = some [Res.row v59 79 5 (acc ++ [Tk.mk (oneC (firstC (s.data.toList.drop (i + skipN (s.data.toList.drop i)))) (s.data.toList.drop (i + skipN (s.data.toList.drop i)))) (decide (skipN (s.data.toList.drop i) = 0) && decide (0 < acc.length))]).length (((acc ++ [Tk.mk (oneC (firstC (s.data.toList.drop (i + skipN (s.data.toList.drop i)))) (s.data.toList.drop (i + skipN (s.data.toList.drop i)))) (decide (skipN (s.data.toList.drop i) = 0) && decide (0 < acc.length))]).map tkC).flatten)]; rw [htg, tkC_snoc, List.length_append]; rfl)
          · refine sy_skip rfl rfl rfl ?_
            refine sy_skip rfl rfl rfl ?_
            refine sy_skip rfl rfl rfl ?_
            refine sy_pickF rfl rfl rfl rfl ?_
            refine sy_field fld_79_4 rfl rfl rfl ?_
            first | refine sy_stl 0 sz_4 rfl rfl rfl rfl rfl rfl rfl rfl ?_ | refine sy_stl 1 sz_4 rfl rfl rfl rfl rfl rfl rfl rfl ?_ | refine sy_stl 2 sz_4 rfl rfl rfl rfl rfl rfl rfl rfl ?_ | refine sy_stl 3 sz_4 rfl rfl rfl rfl rfl rfl rfl rfl ?_
            refine sy_nil rfl ?_
            refine ny_next ?_
            refine cy_seq ?_
            refine cy_region ?_
            refine sy_move rfl rfl rfl ?_
            first | refine sy_ldar 0 agg_79 rfl rfl rfl rfl rfl ?_ | refine sy_ldar 1 agg_79 rfl rfl rfl rfl rfl ?_ | refine sy_ldar 2 agg_79 rfl rfl rfl rfl rfl ?_ | refine sy_ldar 3 agg_79 rfl rfl rfl rfl rfl ?_
            refine sy_buildSlice rfl (fun w => bsl_58_1_0 w) rfl rfl (fun b58 hb58 hM58 => ?_) (by simp)
            refine sy_append 2 0 row_58 (by decide) rfl rfl rfl rfl rfl rfl (by omega) (by simp only [maxLen]; omega) rfl rfl (fun v59 => ?_)
            refine sy_assign rfl rfl rfl ?_
            refine sy_nil rfl ?_
            refine ny_next ?_
            refine cy_region ?_
            refine sy_move rfl rfl rfl ?_
            refine sy_move rfl rfl rfl ?_
            refine sy_addi (z := (((i + skipN (s.data.toList.drop i)) + (oneC (firstC (s.data.toList.drop (i + skipN (s.data.toList.drop i)))) (s.data.toList.drop (i + skipN (s.data.toList.drop i)))).used : Nat) : Int)) rfl rfl (by omega) (by omega) (by omega) rfl rfl ?_
            refine sy_assign rfl rfl rfl ?_
            refine sy_nil rfl ?_
            refine ny_blockN ?_
            refine ny_roundK [0] ((i + skipN (s.data.toList.drop i)) + (oneC (firstC (s.data.toList.drop (i + skipN (s.data.toList.drop i)))) (s.data.toList.drop (i + skipN (s.data.toList.drop i)))).used, acc ++ [Tk.mk (oneC (firstC (s.data.toList.drop (i + skipN (s.data.toList.drop i)))) (s.data.toList.drop (i + skipN (s.data.toList.drop i)))) (decide (skipN (s.data.toList.drop i) = 0) && decide (0 < acc.length))], v59) [0] ⟨hus.2, by show (acc ++ [_]).length ≤ _; rw [List.length_append]; simp only [List.length_cons, List.length_nil]; omega, by rw [← hpre, hk, scan_more hne herr]; exact scan_fuel _ _ _ _ hus.2 (by omega) (by omega)⟩ (show s.size - ((i + skipN (s.data.toList.drop i)) + (oneC (firstC (s.data.toList.drop (i + skipN (s.data.toList.drop i)))) (s.data.toList.drop (i + skipN (s.data.toList.drop i)))).used) < s.size - i by omega) rfl ⟨rfl, rfl, trivial⟩ rfl (by have htg : (decide (skipN (s.data.toList.drop i) = 0) && decide (0 < acc.length)) = false := by { rw [decide_eq_false (show ¬ skipN (s.data.toList.drop i) = 0 by simpa using hg50), Bool.false_and] }; show _ = some [Res.row v59 79 5 (acc ++ [Tk.mk (oneC (firstC (s.data.toList.drop (i + skipN (s.data.toList.drop i)))) (s.data.toList.drop (i + skipN (s.data.toList.drop i)))) (decide (skipN (s.data.toList.drop i) = 0) && decide (0 < acc.length))]).length (((acc ++ [Tk.mk (oneC (firstC (s.data.toList.drop (i + skipN (s.data.toList.drop i)))) (s.data.toList.drop (i + skipN (s.data.toList.drop i)))) (decide (skipN (s.data.toList.drop i) = 0) && decide (0 < acc.length))]).map tkC).flatten)]; rw [htg, tkC_snoc, List.length_append]; rfl)
      · obtain ⟨x9, hx9⟩ : ∃ x9, (oneC (firstC (s.data.toList.drop (i + skipN (s.data.toList.drop i)))) (s.data.toList.drop (i + skipN (s.data.toList.drop i)))).err = some x9 := Option.ne_none_iff_exists'.1 (fun h9 => by rw [h9] at hg37; simp at hg37)
        have herr : errA (oneC (firstC (s.data.toList.drop (i + skipN (s.data.toList.drop i)))) (s.data.toList.drop (i + skipN (s.data.toList.drop i)))) = some x9 := by
          unfold errA
          rw [if_neg (by rintro ⟨h9, _⟩; rw [hx9] at h9; cases h9), hx9]
        refine sy_skip rfl rfl rfl ?_
        refine sy_skip rfl rfl rfl ?_
        refine sy_skip rfl rfl rfl ?_
        refine sy_skip rfl rfl rfl ?_
        refine sy_pickF rfl rfl rfl rfl ?_
        refine sy_nil rfl ?_
        refine ny_next ?_
        refine cy_condF rfl ?_
        refine cy_skip ?_
        refine ny_next ?_
        refine cy_seq ?_
        refine cy_seq ?_
        refine cy_region ?_
        refine sy_move rfl rfl rfl ?_
        refine sy_eqn (e := (oneC (firstC (s.data.toList.drop (i + skipN (s.data.toList.drop i)))) (s.data.toList.drop (i + skipN (s.data.toList.drop i)))).err.isNone) Tryz.underlying60 rfl (nilB_err _ _) rfl rfl rfl ?_
        refine sy_setT (d := 45) rfl rfl (by rw [hg37]; rfl) ?_
        refine sy_nil rfl ?_
        refine ny_next ?_
        refine cy_condT rfl ?_
        refine cy_seq ?_
        refine cy_region ?_
        refine sy_move rfl rfl rfl ?_
        refine sy_move rfl rfl rfl ?_
        refine sy_assign rfl rfl rfl ?_
        refine sy_assign rfl rfl rfl ?_
        refine sy_assign rfl rfl rfl ?_
        refine sy_nil rfl ?_
        refine ny_next ?_
        refine cy_ret ?_
        refine ny_thenR ?_
        refine ny_blockR ?_
        refine ny_thenR ?_
        refine ny_blockR ?_
        refine ny_finR (res3 rfl rfl rfl rfl) (fun w hs2 => ?_)
        have hres : scanA s.data.toList = .bad (i + skipN (s.data.toList.drop i)) x9.1 x9.2 := by { unfold scanA; rw [if_neg hnb]; show scanF s.data.toList (s.size + 1) 0 [] = _; rw [← hpre, hk]; exact scan_bad hne herr }
        exact ⟨(none, 0), _, by { rw [hres, hx9]; rfl }, by { rw [hres]; trivial }, hs2.toGrow⟩
end Go.Proofs.YtanhhihechakhaaGreatDoor
set_option linter.unusedVariables false
set_option linter.unusedSimpArgs false
namespace Go.Proofs.YtanhhihechakhaaGreatDoor.E
open Go.RowKit
def keysOf (H : List Res) : List Nat := H.filterMap Res.key
theorem mem_keys {H : List Res} {r : Res} {k : Nat} (hr : r ∈ H) (hk : r.key = some k) : k ∈ keysOf H := List.mem_filterMap.2 ⟨r, hr, hk⟩
structure Own (h : Hp) (H : List Res) (w : World) : Prop where
  ok : ∀ r ∈ H, r.Ok w
  out : ∀ r ∈ H, ∀ k, r.key = some k → h k = none
  dis : H.Pairwise (fun r s => ∀ k, r.key = some k → s.key ≠ some k)
theorem St.startN {w : World} {h : Hp} {H : List Res} (hs : h.Sub w) (ho : Own h H w) : St w (keysOf H) h h H w :=
  ⟨Frm.refl w _, hs, Hp.Le.refl h, fun _ _ => rfl, ho.ok, fun r hr k hk => ⟨ho.out r hr k hk, .inr (mem_keys hr hk)⟩, ho.dis⟩
theorem Own.lt {h : Hp} {H : List Res} {w : World} (ho : Own h H w) : ∀ k ∈ keysOf H, k < w.heap.size := fun k hk => by
  obtain ⟨r, hr, hk⟩ := List.mem_filterMap.1 hk
  exact Res.Ok.lt (ho.ok r hr) hk
/-- it turns the resources H; how it ends is told of the outcome x -/
def CR {X : Type} (P : Program) (F : Nat) (vs : List Value) (h : Hp) (H : List Res) (rv : X → Ending) (Φ : X → Hp → List Res → Prop) : Prop :=
  ∀ w, h.Sub w → Own h H w → Calls P F vs.toArray w fun e w' => ∃ x h' H', e = rv x ∧ Φ x h' H' ∧ St w (keysOf H) h h' H' w'
def pickRs : List Nat → List Res → Option (List Res × List Res)
  | [], H => some ([], H)
  | i :: is, H => match pickR i H with
    | some (r, t) => (match pickRs is t with | some (l, t') => some (r :: l, t') | none => none)
    | none => none
theorem pickRs_perm : ∀ {is : List Nat} {H L T : List Res}, pickRs is H = some (L, T) → H.Perm (L ++ T)
  | [], H, L, T, h => by
    simp only [pickRs, Option.some.injEq, Prod.mk.injEq] at h
    obtain ⟨rfl, rfl⟩ := h
    exact List.Perm.refl _
  | i :: is, H, L, T, h => by
    unfold pickRs at h
    split at h
    · rename_i r t hp
      split at h
      · rename_i l t' hl
        simp only [Option.some.injEq, Prod.mk.injEq] at h
        obtain ⟨rfl, rfl⟩ := h
        exact (pickR_perm hp).trans ((pickRs_perm hl).cons r)
      · cases h
    · cases h
section
variable {m : Md} {P : Program} {ops : Array Oper} {Q : Exit → Act → World → Prop} {n : Nat} {D : List Deferred} {w0 : World} {M : List Nat} {h0 : Hp}
variable {f : Tab} {h : Hp} {H : List Res} {rest : List Oper} {o : Oper}
theorem St.own' {w : World} {Hin H1 : List Res} (s : St w0 M h0 h (Hin ++ H1) w) : Own h Hin w :=
  ⟨fun r hr => s.ok r (List.mem_append_left _ hr), fun r hr k hk => (s.own r (List.mem_append_left _ hr) k hk).1, (List.pairwise_append.1 s.dis).1⟩
/-- behind a call that turned the first of them -/
theorem St.after {w w' : World} {Hin H1 H' : List Res} {h' : Hp} (s : St w0 M h0 h (Hin ++ H1) w) (t : St w (keysOf Hin) h h' H' w') : St w0 M h0 h' (H' ++ H1) w' := by
  have hin : ∀ x, x ∈ keysOf Hin → w0.heap.size ≤ x ∨ x ∈ M := fun x hx => by
    obtain ⟨r, hr, hk⟩ := List.mem_filterMap.1 hx
    exact (s.own r (List.mem_append_left _ hr) x hk).2
  have hdis := List.pairwise_append.1 s.dis
  have hlt : ∀ r ∈ H1, ∀ k, r.key = some k → k < w.heap.size := fun r hr k hk => Res.Ok.lt (s.ok r (List.mem_append_right _ hr)) hk
  have hnk : ∀ r ∈ H1, ∀ k, r.key = some k → k ∉ keysOf Hin := fun r hr k hk hm => by
    obtain ⟨r0, hr0, hk0⟩ := List.mem_filterMap.1 hm
    exact hdis.2.2 r0 hr0 r hr k hk0 hk
  refine { frm := s.frm.transM t.frm hin, sub := t.sub, le := s.le.trans t.le, old := fun k hk => (t.old k (Nat.lt_of_lt_of_le hk s.frm.size)).trans (s.old k hk), ok := ?_, own := ?_, dis := ?_ }
  · intro r hr
    rcases List.mem_append.1 hr with hr | hr
    · exact t.ok r hr
    · exact Res.Ok.keep (s.ok r (List.mem_append_right _ hr)) fun k hk => t.frm.block k (hlt r hr k hk) (hnk r hr k hk)
  · intro r hr k hk
    rcases List.mem_append.1 hr with hr | hr
    · have h1 := t.own r hr k hk
      refine ⟨h1.1, ?_⟩
      rcases h1.2 with h2 | h2
      · exact .inl (Nat.le_trans s.frm.size h2)
      · exact hin k h2
    · have h1 := s.own r (List.mem_append_right _ hr) k hk
      exact ⟨(t.old k (hlt r hr k hk)).trans h1.1, h1.2⟩
  · refine List.pairwise_append.2 ⟨t.dis, hdis.2.1, fun r hr r1 hr1 k hk hk1 => ?_⟩
    rcases (t.own r hr k hk).2 with h2 | h2
    · have := hlt r1 hr1 k hk1
      omega
    · exact hnk r1 hr1 k hk1 h2
/-- what is to be shown behind a call that ends so -/
def Upon (P : Program) (ops : Array Oper) (Q : Exit → Act → World → Prop) (n : Nat) (D : List Deferred) (w0 : World) (M : List Nat) (h0 : Hp) (rest : List Oper) (d : Nat) (f : Tab) (h : Hp) (H : List Res) : Ending → Prop
  | .returned v => Sy .txt P ops Q n D w0 M h0 rest ((d, v) :: f) h H
  | .panicked ch => Ny Q (.panic ch) n D w0 M h0 f h H
  | .outgrown => False
section calls
variable {d t : Nat} {p : String} {af : Array Edge} {g : Option (Nat × Bool)} {F : Nat} {args : Array Operand} {tys : Array TypeId} {vs : List Value}
theorem sy_callR {X : Type} {rv : X → Ending} {Φ : X → Hp → List Res → Prop} {Hin H1 : List Res} (is : List Nat) (hF : callB P F = true) (hx : f.evs args.toList = some vs) (hp : pickRs is H = some (Hin, H1)) (hc : CR P F vs h Hin rv Φ) (hw : gok ops f g = some true) (hn : Nat.blt d n = true)
    (k : ∀ x h' H', Φ x h' H' → h.Le h' → Upon P ops Q n D w0 M h0 rest d f h' (H' ++ H1) (rv x)) : Sy .txt P ops Q n D w0 M h0 (⟨some d, .call ⟨.value (.func F), args, tys⟩, t, p, af, g⟩ :: rest) f h H :=
  sy_op hw fun a w ha hs => by
    have hs' := hs.swap (pickRs_perm hp)
    unfold Oper.wp
    rw [run_callF hF ha hx]
    refine (hc w hs.sub hs'.own').mono fun e w' ⟨x, h', H', he, hΦ, ht⟩ => ?_
    have hk := k x h' H' hΦ ht.le
    rw [← he] at hk
    cases e with
    | returned v => exact hk _ w' (ha.put d _ hn) (hs'.after ht)
    | panicked ch => exact hk a w' ha (hs'.after ht)
    | outgrown => exact hk.elim
/-- .. through a bound function -/
theorem sy_callbR {X : Type} {rv : X → Ending} {fv : Operand} {fs caps : List Value} {Φ : X → Hp → List Res → Prop} {Hin H1 : List Res} (is : List Nat) (hF : callB P F = true) (hf : f.ev fv = some (.func (.func F) fs.toArray caps.toArray)) (hx : f.evs args.toList = some vs) (hp : pickRs is H = some (Hin, H1)) (hc : CR P F (fs ++ vs ++ caps) h Hin rv Φ) (hw : gok ops f g = some true) (hn : Nat.blt d n = true)
    (k : ∀ x h' H', Φ x h' H' → h.Le h' → Upon P ops Q n D w0 M h0 rest d f h' (H' ++ H1) (rv x)) : Sy .txt P ops Q n D w0 M h0 (⟨some d, .call ⟨.value fv, args, tys⟩, t, p, af, g⟩ :: rest) f h H :=
  sy_op hw fun a w ha hs => by
    have hs' := hs.swap (pickRs_perm hp)
    unfold Oper.wp
    rw [run_callB hF ha hf hx]
    refine (hc w hs.sub hs'.own').mono fun e w' ⟨x, h', H', he, hΦ, ht⟩ => ?_
    have hk := k x h' H' hΦ ht.le
    rw [← he] at hk
    cases e with
    | returned v => exact hk _ w' (ha.put d _ hn) (hs'.after ht)
    | panicked ch => exact hk a w' ha (hs'.after ht)
    | outgrown => exact hk.elim
/-- .. that always returns -/
theorem sy_callR1 {X : Type} {rv : X → Value} {Φ : X → Hp → List Res → Prop} {Hin H1 : List Res} (is : List Nat) (hF : callB P F = true) (hx : f.evs args.toList = some vs) (hp : pickRs is H = some (Hin, H1)) (hc : CR P F vs h Hin (fun x => .returned (rv x)) Φ) (hw : gok ops f g = some true) (hn : Nat.blt d n = true)
    (k : ∀ x h' H', Φ x h' H' → h.Le h' → Sy .txt P ops Q n D w0 M h0 rest ((d, rv x) :: f) h' (H' ++ H1)) : Sy .txt P ops Q n D w0 M h0 (⟨some d, .call ⟨.value (.func F), args, tys⟩, t, p, af, g⟩ :: rest) f h H :=
  sy_callR is hF hx hp hc hw hn fun x h' H' hΦ hle => k x h' H' hΦ hle
theorem sy_callbR1 {X : Type} {rv : X → Value} {fv : Operand} {fs caps : List Value} {Φ : X → Hp → List Res → Prop} {Hin H1 : List Res} (is : List Nat) (hF : callB P F = true) (hf : f.ev fv = some (.func (.func F) fs.toArray caps.toArray)) (hx : f.evs args.toList = some vs) (hp : pickRs is H = some (Hin, H1)) (hc : CR P F (fs ++ vs ++ caps) h Hin (fun x => .returned (rv x)) Φ) (hw : gok ops f g = some true) (hn : Nat.blt d n = true)
    (k : ∀ x h' H', Φ x h' H' → h.Le h' → Sy .txt P ops Q n D w0 M h0 rest ((d, rv x) :: f) h' (H' ++ H1)) : Sy .txt P ops Q n D w0 M h0 (⟨some d, .call ⟨.value fv, args, tys⟩, t, p, af, g⟩ :: rest) f h H :=
  sy_callbR is hF hf hx hp hc hw hn fun x h' H' hΦ hle => k x h' H' hΦ hle
end calls
/-! panics leave all code -/
variable {ch : List PanicEntry}
theorem ny_thenP {K : Act → World → Prop} (k : Ny Q (.panic ch) n D w0 M h0 f h H) : Ny (Exit.then K Q) (.panic ch) n D w0 M h0 f h H := k
theorem ny_blockP {i : Nat} (k : Ny Q (.panic ch) n D w0 M h0 f h H) : Ny (Exit.inBlock i Q) (.panic ch) n D w0 M h0 f h H := k
theorem ny_scopeP (k : Ny Q (.panic ch) n D w0 M h0 f h H) : Ny (Exit.noGoto Q) (.panic ch) n D w0 M h0 f h H := k
theorem ny_jumpP {l : Nat} {K : Act → World → Prop} (k : Ny Q (.panic ch) n D w0 M h0 f h H) : Ny (Exit.jump l K Q) (.panic ch) n D w0 M h0 f h H := k
theorem ny_finP {fn : Func} {R : Ending → World → Prop} (k : ∀ w, St w0 M h0 h H w → R (.panicked ch) w) : Ny (bodyPost P fn R) (.panic ch) n [] w0 M h0 f h H := fun a w ha hs => ⟨ha.defers, k w hs⟩
/-! entry -/
theorem enterR {X : Type} {rv : X → Ending} {Φ : X → Hp → List Res → Prop} {F : Nat} {fn : Func} {c : Code} {vs : List Value} (hf : P.funcs[F]? = some fn) (hb : fn.body = some c) (hi : initO 0 vs = some f) (hn : Nat.ble vs.length fn.ntmps = true)
    (k : ∀ w, (∀ x ∈ keysOf H, x < w.heap.size) → Cy P c (bodyPost P fn fun e w' => ∃ x h' H', e = rv x ∧ Φ x h' H' ∧ St w (keysOf H) h h' H' w') fn.ntmps [] w (keysOf H) h f h H) : CR P F vs h H rv Φ :=
  fun w hs ho => enterM hf hb hi hn (St.startN hs ho) (k w ho.lt)
theorem enterRD {X : Type} {rv : X → Ending} {Φ : X → Hp → List Res → Prop} {F : Nat} {fn : Func} {c : Code} {vs : List Value} (hf : P.funcs[F]? = some fn) (hb : fn.body = some c) (hi : initO 0 vs = some f) (hn : Nat.ble vs.length fn.ntmps = true)
    (k : ∀ w, (∀ x ∈ keysOf H, x < w.heap.size) → Cy P c (bodyPostD P fn fun e w' => ∃ x h' H', e = rv x ∧ Φ x h' H' ∧ St w (keysOf H) h h' H' w') fn.ntmps [] w (keysOf H) h f h H) : CR P F vs h H rv Φ :=
  fun w hs ho => enterMD' hf hb hi hn (St.startN hs ho) (k w ho.lt)
/-! more and less -/
theorem CR.mono {X Y : Type} {F : Nat} {vs : List Value} {rv : X → Ending} {rv2 : Y → Ending} {Φ : X → Hp → List Res → Prop} {Ψ : Y → Hp → List Res → Prop} (hc : CR P F vs h H rv Φ) (hk : ∀ x h' H', Φ x h' H' → ∃ y, rv2 y = rv x ∧ Ψ y h' H') : CR P F vs h H rv2 Ψ :=
  fun w hs ho => (hc w hs ho).mono fun e w' ⟨x, h', H', he, hΦ, ht⟩ => by
    obtain ⟨y, h1, h2⟩ := hk x h' H' hΦ
    exact ⟨y, h', H', he.trans h1.symm, h2, ht⟩
end
end Go.Proofs.YtanhhihechakhaaGreatDoor.E
set_option linter.unusedVariables false
set_option linter.unusedSimpArgs false
namespace Go.Proofs.YtanhhihechakhaaGreatDoor.E
open Go.RowKit
theorem run_append_str {P : Program} (w : World) (t u ty e : TypeId) (i : TypeInfo) (ht : P.underlying t = some (.slice e)) (hu : P.underlying u = some .string) (hi : P.info? e = some i) (hz : i.zero = some (.int .u8 0)) (hsize : i.size = 1) (hby : i.bytes = 1)
    (v : Value) (n : Nat) (xs : List Value) (hown : w.ownsRow 0 e 1 v n xs) (s : ByteArray) (h63 : n + s.size ≤ maxLen) (hbytes : n + s.size ≤ 140737488355328) :
    ∃ v' w', (Builtin.append_ #[t, u] ty #[v, .string s]).run P w = .ok v' w' ∧ w'.ownsRow 0 e 1 v' (n + s.size) (xs ++ Lib.strCells s) ∧ w.grownBy w' v.ownBlock ∧ (v'.ownBlock = v.ownBlock ∨ (∃ b, v'.ownBlock = some b ∧ w.heap.size ≤ b) ∨ v'.ownBlock = none) := by
  obtain ⟨v', w', hr, h2, h3, _⟩ := Lib.run_append_own_string (P := P) w 0 t u ty e i ht hu hi hz hsize hby v n xs hown s h63 hbytes (Nat.zero_le _)
  refine ⟨v', w', hr, h2, h3, ?_⟩
  have hsmall : n + s.size ≤ 9223372036854775807 := by simp only [maxLen] at h63; omega
  rcases hown.2 with ⟨rfl, rfl⟩ | ⟨g, cap, cur, rfl, _, hg, hnc, hcm, hcs, htake⟩
  · obtain ⟨v2, w2, hr2, k2, _, _⟩ := Lib.run_append_own_string (P := P) w w.heap.size t u ty e i ht hu hi hz hsize hby (.slice none 0 0) 0 xs ⟨hown.1, .inl ⟨rfl, rfl⟩⟩ s h63 hbytes (Nat.le_refl _)
    rw [hr] at hr2
    injection hr2 with e1 e2
    subst e1 e2
    cases hb : v'.ownBlock with
    | none => exact .inr (.inr rfl)
    | some b => exact .inr (.inl ⟨b, rfl, (World.ownsRow.lt k2 b hb).1⟩)
  · have hxl : xs.length = n := by simpa using hown.1
    by_cases hroom : n + s.size ≤ cap
    · have hcs' : cur.size = cap := by simpa using hcs
      have hr2 := Lib.run_append_room_string (P := P) w t u ty e i ht hu hi hsize g n cap cur hg s hroom (by omega)
      rw [hr] at hr2
      injection hr2 with e1 e2
      subst e1
      exact .inl rfl
    · have holds : ∀ j u, xs[j]? = some u → w.cell? ((⟨g, 0, none⟩ : Addr).add j) = some u := hown.cells (g := g) rfl
      have hr2 := Lib.run_append_grow_string (P := P) w t u ty e i (.int .u8 0) ht hu hi hz ⟨g, 0, none⟩ n cap xs (by rw [hsize]; simpa using hxl) holds s (by omega) (by omega) (by rw [hby]; exact growslice_fits (by omega) (by omega))
      rw [hr] at hr2
      injection hr2 with e1 e2
      subst e1
      exact .inr (.inl ⟨_, rfl, Nat.le_refl _⟩)
section
variable {m : Md} {P : Program} {ops : Array Oper} {Q : Exit → Act → World → Prop} {n : Nat} {D : List Deferred} {w0 : World} {M : List Nat} {h0 : Hp}
variable {f : Tab} {h : Hp} {H : List Res} {rest : List Oper} {o : Oper}
variable {d t s : Nat} {p : String} {af : Array Edge} {g : Option (Nat × Bool)}
def bvs (l : List UInt8) : List Value := l.map fun u => Value.int .u8 (u.toNat : Int)
theorem bvs_str (s : ByteArray) : Lib.strCells s = bvs s.data.toList := rfl
theorem bvs_append (a b : List UInt8) : bvs (a ++ b) = bvs a ++ bvs b := List.map_append
theorem bvs_length (a : List UInt8) : (bvs a).length = a.length := List.length_map _
theorem sy_appendS {x y : Operand} {v : Value} {e l s2 : Nat} {bs : ByteArray} {xs : List Value} {H1 : List Res} (i : Nat) (hr : rowB P s e 1 1 = true) (hz : (P.info? e).map (fun i => i.zero) = some (some (.int .u8 0))) (hu : P.underlying s2 = some .string)
    (hx : f.ev x = some v) (hp : pickR i H = some (.row v e 1 l xs, H1)) (hy : f.ev y = some (.string bs)) (hb : l + bs.size ≤ 140737488355328) (hw : gok ops f g = some true) (hn : Nat.blt d n = true)
    (k : ∀ v', Sy .txt P ops Q n D w0 M h0 rest ((d, v') :: f) h (.row v' e 1 (l + bs.size) (xs ++ bvs bs.data.toList) :: H1)) :
    Sy .txt P ops Q n D w0 M h0 (⟨some d, .call ⟨.builtin .append, #[x, y], #[s, s2]⟩, t, p, af, g⟩ :: rest) f h H :=
  sy_op hw fun a w ha hs => by
    obtain ⟨h2, inf, z, h3, h4, h5, h6, h7⟩ := row_spec hr
    have hz0 : inf.zero = some (.int .u8 0) := by
      rw [h3] at hz
      simpa using hz
    have hs' := hs.swap (pickR_perm hp)
    have ho : w.ownsRow 0 e 1 v l xs := hs'.ok _ (List.mem_cons_self)
    obtain ⟨v', w', hrun, ho', hg, hat⟩ := run_append_str (P := P) w s s2 t e inf h2 hu h3 hz0 h5 h6 v l xs ho bs (by simp only [maxLen]; omega) hb
    have hrun' : (execOp a.eval ⟨some d, .call ⟨.builtin .append, #[x, y], #[s, s2]⟩, t, p, af, g⟩).run P w = .ok (.value v') w' := by
      simp only [execOp, resolve, invoke, builtin, Sem.run_bind, Sem.run_pure, Result.andThen_ok, List.map_toArray, List.map_cons, List.map_nil, ha.ev hx, ha.ev hy, hrun]
    unfold Oper.wp
    rw [hrun']
    exact k v' _ w' (ha.put d _ hn) (hs'.rowed hg ho' hat)
/-- an unsafe pointer turned back -/
theorem sy_fromUns {x : Operand} {b e s2 u : Nat} {cs : List Value} {fr : Nat × Nat} {H1 : List Res} (i : Nat) (hs : P.underlying s = some .unsafePointer) (hd : P.underlying s2 = some (.pointer u)) (hinf : (P.info? u).isSome = true) (hl : liesAt P P.depth e (cs.length / P.cellsOf e) 0 u 1 = true)
    (hx : f.ev x = some (.pointer (some ⟨b, 0, none⟩))) (hp : pickR i H = some (.blk b (.cells cs.toArray e fr), H1)) (hw : gok ops f g = some true) (hn : Nat.blt d n = true)
    (k : Sy m P ops Q n D w0 M h0 rest ((d, .pointer (some ⟨b, 0, none⟩)) :: f) h H) : Sy m P ops Q n D w0 M h0 (⟨some d, .convert s s2 x, t, p, af, g⟩ :: rest) f h H :=
  sy_val hw rfl hn (fun a w ha hs' => by
    have hb : w.heap[b]? = some (.cells cs.toArray e fr) := (hs'.swap (pickR_perm hp)).ok _ (List.mem_cons_self)
    have hsh : w.shape? (⟨b, 0, none⟩ : Addr).block = some (e, cs.length) := by simp [World.shape?, hb]
    obtain ⟨j, hj⟩ := Option.isSome_iff_exists.1 hinf
    have h1 := Lib.run_from_unsafe (P := P) w ⟨b, 0, none⟩ hs hd hj hsh hl
    simp only [execOp, ha.ev hx, Sem.run_bind, h1, Result.andThen_ok, Sem.run_pure]) k
/-- a pointer against itself -/
theorem sy_neSame {x y : Operand} {b te s2 : Nat} (hs : P.underlying s = some (.pointer te)) (hinf : (P.info? te).isSome = true) (hx : f.ev x = some (.pointer (some ⟨b, 0, none⟩))) (hy : f.ev y = some (.pointer (some ⟨b, 0, none⟩))) (hw : gok ops f g = some true) (hn : Nat.blt d n = true)
    (k : Sy m P ops Q n D w0 M h0 rest ((d, .bool false) :: f) h H) : Sy m P ops Q n D w0 M h0 (⟨some d, .binOp .neq s x y s2, t, p, af, g⟩ :: rest) f h H := by
  obtain ⟨j, hj⟩ := Option.isSome_iff_exists.1 hinf
  refine sy_val hw rfl hn (fun a w ha _ => ?_) k
  have h1 := Lib.run_neq_ptr_same (P := P) w ⟨b, 0, none⟩ hs hj
  simp [execOp, ha.ev hx, ha.ev hy, eqGuard_at_pointer, h1]
/-- where a row that isn't empty lies -/
theorem sy_rowblk {v : Value} {e l : Nat} {xs : List Value} {H1 : List Res} (i : Nat) (hp : pickR i H = some (.row v e 1 l xs, H1)) (hl0 : l ≠ 0) (k : ∀ b c, v = .slice (some ⟨b, 0, none⟩) l c → c ≠ 0 → Sy .txt P ops Q n D w0 M h0 rest f h H) : Sy .txt P ops Q n D w0 M h0 rest f h H := fun a w ha hs => by
  have hs' := hs.swap (pickR_perm hp)
  have ho : w.ownsRow 0 e 1 v l xs := hs'.ok _ (List.mem_cons_self)
  rcases ho.2 with ⟨_, h1⟩ | ⟨gg, cap, cur, hv, _, _, hnc, _⟩
  · exact absurd h1 hl0
  · exact k gg cap hv (by omega) a w ha hs
theorem cy_rowblk {c : Code} {v : Value} {e l : Nat} {xs : List Value} {H1 : List Res} (i : Nat) (hp : pickR i H = some (.row v e 1 l xs, H1)) (hl0 : l ≠ 0) (k : ∀ b c', v = .slice (some ⟨b, 0, none⟩) l c' → c' ≠ 0 → Cy P c Q n D w0 M h0 f h H) : Cy P c Q n D w0 M h0 f h H := fun a w ha hs => by
  have hs' := hs.swap (pickR_perm hp)
  have ho : w.ownsRow 0 e 1 v l xs := hs'.ok _ (List.mem_cons_self)
  rcases ho.2 with ⟨_, h1⟩ | ⟨gg, cap, cur, hv, _, _, hnc, _⟩
  · exact absurd h1 hl0
  · exact k gg cap hv (by omega) a w ha hs
theorem sy_sliceData {x : Operand} {A : Addr} {l c : Nat} (hx : f.ev x = some (.slice (some A) l c)) (hc : c ≠ 0) (hw : gok ops f g = some true) (hn : Nat.blt d n = true)
    (k : Sy m P ops Q n D w0 M h0 rest ((d, .pointer (some A)) :: f) h H) : Sy m P ops Q n D w0 M h0 (⟨some d, .call ⟨.builtin .unsafeSliceData, #[x], #[s]⟩, t, p, af, g⟩ :: rest) f h H :=
  sy_val hw rfl hn (fun a w ha _ => by
    have h1 := Lib.run_unsafeSliceData_row (P := P) w #[s] t A l c hc
    simp only [execOp, resolve, invoke, builtin, Sem.run_bind, Sem.run_pure, Result.andThen_ok, List.map_toArray, List.map_cons, List.map_nil, ha.ev hx, h1]) k
/-- something owned is turned, and let go -/
theorem St.letgo {w w' : World} {r : Res} {H1 : List Res} {b : Nat} (s : St w0 M h0 h (r :: H1) w) (hk : r.key = some b) (hf : Frm w [b] w') : St w0 M h0 h H1 w' := by
  have hown := s.own _ (List.mem_cons_self) b hk
  refine { frm := s.frm.transM hf (fun x hx => by simp only [List.mem_singleton] at hx; subst hx; exact hown.2), sub := ?_, le := s.le, old := s.old, ok := ?_, own := fun r hr => s.own r (List.mem_cons_of_mem _ hr), dis := (List.pairwise_cons.1 s.dis).2 }
  · intro k o1 hk1
    have : k ≠ b := by rintro rfl; rw [hown.1] at hk1; cases hk1
    exact (hf.block k (Array.getElem?_eq_some_iff.1 (s.sub k o1 hk1)).1 (by simpa using this)).trans (s.sub k o1 hk1)
  · intro r1 hr
    have h1 := s.ok r1 (List.mem_cons_of_mem _ hr)
    refine Res.Ok.keep h1 fun k hk1 => hf.block k (Res.Ok.lt h1 hk1) ?_
    have h2 := (List.pairwise_cons.1 s.dis).1 r1 hr b hk
    simp only [List.mem_singleton]
    rintro rfl
    exact h2 hk1
theorem frm_freeze (w : World) (b n : Nat) : Frm w [b] (w.freeze ⟨b, 0, none⟩ n) := by
  unfold World.freeze
  split
  · exact Frm.refl w _
  refine ⟨rfl, rfl, rfl, by simp, fun k hk hm => ?_⟩
  simp only [List.mem_singleton] at hm
  have hne : ¬ b = k := fun e => hm e.symm
  simp [Array.getElem?_modify, hne]
/-- a row of bytes as a text: the row is let go -/
theorem sy_unsafeStr {x y : Operand} {b c e l s2 : Nat} {bs : List UInt8} {H1 : List Res} (i : Nat) (hs : P.underlying s = some (.pointer e)) (hce : P.cellsOf e = 1) (hx : f.ev x = some (.pointer (some ⟨b, 0, none⟩))) (hy : f.ev y = some (.int .i64 (l : Int))) (hp : pickR i H = some (.row (.slice (some ⟨b, 0, none⟩) l c) e 1 l (bvs bs), H1)) (h0' : l ≠ 0) (hl : bs.length = l)
    (hw : gok ops f g = some true) (hn : Nat.blt d n = true) (k : Sy .txt P ops Q n D w0 M h0 rest ((d, .string ⟨bs.toArray⟩) :: f) h H1) : Sy .txt P ops Q n D w0 M h0 (⟨some d, .call ⟨.builtin .unsafeString, #[x, y], #[s, s2]⟩, t, p, af, g⟩ :: rest) f h H :=
  sy_op hw fun a w ha hs' => by
    subst hl
    have hsw := hs'.swap (pickR_perm hp)
    have ho : w.ownsRow 0 e 1 (.slice (some ⟨b, 0, none⟩) bs.length c) bs.length (bvs bs) := hsw.ok _ (List.mem_cons_self)
    obtain ⟨cap, cur, hg, hnc, hcm, hcs⟩ : ∃ cap cur, w.heap[b]? = some (.cells cur e (0, 0)) ∧ bs.length ≤ cap ∧ cap ≤ maxLen ∧ cur.size = cap * 1 := by
      rcases ho.2 with ⟨h1, _⟩ | ⟨gg, cap, cur, hv, _, h3, h4, h5, h6, _⟩
      · cases h1
      · injection hv with e1 e2 e3
        injection e1 with e1
        injection e1 with e1
        subst e1
        exact ⟨cap, cur, h3, h4, h5, h6⟩
    have hrun := Lib.run_unsafeString_row (P := P) w s s2 t e hs hce b cur.size (by simp [World.shape?, hg]) bs (by intro h9; rw [h9] at h0'; exact h0' rfl) (by omega) (by simp only [maxLen] at hcm; omega) (fun j x hj => by
      have := ho.cells (g := b) rfl j (.int .u8 (x.toNat : Int)) (by unfold bvs; rw [List.getElem?_map, hj]; rfl)
      exact this)
    have hrun' : (execOp a.eval ⟨some d, .call ⟨.builtin .unsafeString, #[x, y], #[s, s2]⟩, t, p, af, g⟩).run P w = .ok (.value (.string ⟨bs.toArray⟩)) (w.freeze ⟨b, 0, none⟩ bs.length) := by
      simp only [execOp, resolve, invoke, builtin, Sem.run_bind, Sem.run_pure, Result.andThen_ok, List.map_toArray, List.map_cons, List.map_nil, ha.ev hx, ha.ev hy, hrun]
    unfold Oper.wp
    rw [hrun']
    exact k _ _ (ha.put d _ hn) (hsw.letgo rfl (frm_freeze w b _))
theorem run_rem8 {a b : Nat} (h1 : 0 < b) (hb : b ≤ 255) (ha : a ≤ 255) (w : World) : (binOp .rem s (.int .u8 (a : Int)) (.int .u8 (b : Int))).run P w = .ok (.int .u8 ((a % b : Nat) : Int)) w := by
  have h5 : ¬ (b : Int) = 0 := by omega
  have h6 : ¬ (b : Int) = -1 := by omega
  have hz : Int.tmod (a : Int) (b : Int) = ((a % b : Nat) : Int) := rfl
  have hm : a % b < b := Nat.mod_lt _ h1
  have h7 := IntWalk.u8_in ((a % b : Nat) : Int) ⟨by omega, by omega⟩
  have h8 : ¬ b = 0 := by omega
  simp [binOp, Op.intDiv, h8, hz] at h7 ⊢
  try exact h7
theorem sy_rem8 {x y : Operand} {a b : Nat} {s2 : Nat} (hx : f.ev x = some (.int .u8 (a : Int))) (hy : f.ev y = some (.int .u8 (b : Int))) (h1 : 0 < b) (hb : b ≤ 255) (ha : a ≤ 255) (hw : gok ops f g = some true) (hn : Nat.blt d n = true)
    (k : Sy m P ops Q n D w0 M h0 rest ((d, .int .u8 ((a % b : Nat) : Int)) :: f) h H) : Sy m P ops Q n D w0 M h0 (⟨some d, .binOp .rem s x y s2, t, p, af, g⟩ :: rest) f h H :=
  sy_bin hx hy ⟨by simp, by simp⟩ (fun w => run_rem8 h1 hb ha w) hw hn k
end
end Go.Proofs.YtanhhihechakhaaGreatDoor.E
set_option linter.unusedVariables false
set_option linter.unusedSimpArgs false
namespace Go.Proofs.YtanhhihechakhaaGreatDoor
open Go.RowKit Go.Proofs.YtanhhihechakhaaGreatDoor.E Go.Proofs.YtanhhihechakhaaGreatDoor.ReplP Go.Proofs.YtanhhihechakhaaGreatDoor.TokP
set_option maxRecDepth 100000 in
theorem copy_fresh (b : Nat) (v : Value) (h : Hp) : CM Tryz.prog 48 [.pointer (some ⟨b, 0, none⟩)] h b (.cells [.pointer none, v].toArray 53 (0, 0)) (.tuple #[]) (.cells [.pointer (some ⟨b, 0, none⟩), v].toArray 53 (0, 0)) := by
  refine enter1 Tryz.func48 rfl rfl rfl (fun w hb0 => ?_)
  refine cy_seq ?_
  refine cy_region ?_
  refine sy_move rfl rfl rfl ?_
  refine sy_nilCheck rfl rfl rfl ?_
  refine sy_field fld_53_0 rfl rfl rfl ?_
  first | refine sy_ldr 0 one_51 rfl rfl rfl rfl rfl ?_
  refine sy_eqp Tryz.underlying51 rfl rfl rfl rfl rfl ?_
  refine sy_setT (d := 6) rfl rfl rfl ?_
  refine sy_nil rfl ?_
  refine ny_next ?_
  refine cy_condT rfl ?_
  refine cy_region ?_
  refine sy_move rfl rfl rfl ?_
  refine sy_move rfl rfl rfl ?_
  refine sy_unsafe (v := .pointer none) Tryz.underlying51 Tryz.underlying97 (by kernel_rfl) rfl (fun w hs => St.cellR 0 rfl rfl hs) rfl rfl ?_
  refine sy_exq rfl (fun w hs => ext_run (e := Extern.AbiNoEscape.same) Tryz.func64 (by kernel_rfl) (by kernel_rfl) (by kernel_rfl) (by kernel_rfl) (Lib.run_noEscape w _)) rfl rfl ?_
  refine sy_fromUns 0 Tryz.underlying97 Tryz.underlying51 (by kernel_rfl) (show liesAt Tryz.prog Tryz.prog.depth 53 (2 / Tryz.prog.cellsOf 53) 0 53 1 = true by kernel_rfl) rfl rfl rfl rfl ?_
  refine sy_nilCheck rfl rfl rfl ?_
  refine sy_field fld_53_0 rfl rfl rfl ?_
  first | refine sy_stl 0 sz_51 rfl rfl rfl rfl rfl rfl rfl rfl ?_
  refine sy_nil rfl ?_
  exact ny_fin (res0 rfl) (fun w hs => ⟨rfl, hs.frm, hs.ok _ (List.mem_cons_self)⟩)
set_option maxRecDepth 100000 in
theorem copy_used (b : Nat) (v : Value) (h : Hp) : CM Tryz.prog 48 [.pointer (some ⟨b, 0, none⟩)] h b (.cells [.pointer (some ⟨b, 0, none⟩), v].toArray 53 (0, 0)) (.tuple #[]) (.cells [.pointer (some ⟨b, 0, none⟩), v].toArray 53 (0, 0)) := by
  refine enter1 Tryz.func48 rfl rfl rfl (fun w hb0 => ?_)
  refine cy_seq ?_
  refine cy_region ?_
  refine sy_move rfl rfl rfl ?_
  refine sy_nilCheck rfl rfl rfl ?_
  refine sy_field fld_53_0 rfl rfl rfl ?_
  first | refine sy_ldr 0 one_51 rfl rfl rfl rfl rfl ?_
  refine sy_eqp Tryz.underlying51 rfl rfl rfl rfl rfl ?_
  refine sy_setF (d := 6) rfl rfl rfl ?_
  refine sy_nil rfl ?_
  refine ny_next ?_
  refine cy_condF rfl ?_
  refine cy_seq ?_
  refine cy_region ?_
  refine sy_move rfl rfl rfl ?_
  refine sy_nilCheck rfl rfl rfl ?_
  refine sy_field fld_53_0 rfl rfl rfl ?_
  first | refine sy_ldr 0 one_51 rfl rfl rfl rfl rfl ?_
  refine sy_move rfl rfl rfl ?_
  refine sy_neSame Tryz.underlying51 (by kernel_rfl) rfl rfl rfl rfl ?_
  refine sy_setF (d := 19) rfl rfl rfl ?_
  refine sy_nil rfl ?_
  refine ny_next ?_
  refine cy_condF rfl ?_
  refine cy_skip ?_
  exact ny_fin (res0 rfl) (fun w hs => ⟨rfl, hs.frm, hs.ok _ (List.mem_cons_self)⟩)
def PSt (b : Nat) (p : Value) : Prop := p = .pointer none ∨ p = .pointer (some ⟨b, 0, none⟩)
theorem copy_c (b : Nat) (p v : Value) (h : Hp) (hp : PSt b p) : CM Tryz.prog 48 [.pointer (some ⟨b, 0, none⟩)] h b (.cells [p, v].toArray 53 (0, 0)) (.tuple #[]) (.cells [.pointer (some ⟨b, 0, none⟩), v].toArray 53 (0, 0)) := by
  rcases hp with rfl | rfl
  · exact copy_fresh b v h
  · exact copy_used b v h
set_option maxRecDepth 100000 in
theorem writeString_c (b : Nat) (p v : Value) (xs : List UInt8) (s : ByteArray) (h : Hp) (hp : PSt b p) (hz : xs.length + s.size ≤ 140737488355328) : CR Tryz.prog 31 [.pointer (some ⟨b, 0, none⟩), .string s] h [.blk b (.cells [p, v].toArray 53 (0, 0)), .row v 5 1 (xs).length (bvs (xs))] (fun _ : Value => .returned (.tuple #[.int .i64 (s.size : Int), .nilIface])) (fun v' h' H' => h = h' ∧ H' = [.blk b (.cells [.pointer (some ⟨b, 0, none⟩), v'].toArray 53 (0, 0)), .row v' 5 1 (xs ++ s.data.toList).length (bvs (xs ++ s.data.toList))]) := by
  refine enterR Tryz.func31 rfl rfl rfl (fun w hb0 => ?_)
  refine cy_seq ?_
  refine cy_region ?_
  refine sy_assign rfl rfl rfl ?_
  refine sy_assign rfl rfl rfl ?_
  refine sy_nil rfl ?_
  refine ny_next ?_
  refine cy_seq ?_
  refine cy_region ?_
  refine sy_move rfl rfl rfl ?_
  refine sy_callm 0 call_48 rfl rfl (copy_c b p v h hp) rfl rfl ?_
  refine sy_nil rfl ?_
  refine ny_next ?_
  refine cy_seq ?_
  refine cy_region ?_
  refine sy_move rfl rfl rfl ?_
  refine sy_move rfl rfl rfl ?_
  refine sy_nilCheck rfl rfl rfl ?_
  refine sy_field fld_53_1 rfl rfl rfl ?_
  first | refine sy_ldr 0 one_40 rfl rfl rfl rfl rfl ?_ | refine sy_ldr 1 one_40 rfl rfl rfl rfl rfl ?_
  refine sy_move rfl rfl rfl ?_
  refine sy_appendS 1 row_40 (by kernel_rfl) Tryz.underlying9 rfl rfl rfl hz rfl rfl (fun v14 => ?_)
  refine sy_rowform 0 rfl (fun A14 c14 hv14 => ?_)
  subst hv14
  refine sy_nilCheck rfl rfl rfl ?_
  refine sy_field fld_53_1 rfl rfl rfl ?_
  first | refine sy_stl 0 sz_40 rfl rfl rfl rfl rfl rfl rfl rfl ?_ | refine sy_stl 1 sz_40 rfl rfl rfl rfl rfl rfl rfl rfl ?_
  refine sy_nil rfl ?_
  refine ny_next ?_
  refine cy_seq ?_
  refine cy_region ?_
  refine sy_move rfl rfl rfl ?_
  refine sy_len rfl (len_string Tryz.underlying9 _) rfl rfl ?_
  refine sy_assign rfl rfl rfl ?_
  refine sy_assign rfl rfl rfl ?_
  refine sy_nil rfl ?_
  refine ny_next ?_
  refine cy_ret ?_
  refine ny_finR (res2 rfl rfl rfl) (fun w hs => ⟨.slice A14 (xs.length + s.size) c14, h, _, rfl, ⟨rfl, ?_⟩, hs⟩)
  rw [bvs_append, List.length_append]
  rfl
set_option maxRecDepth 100000 in
theorem string_c (b : Nat) (p v : Value) (xs : List UInt8) (h : Hp) (hb : h b = some (.cells [p, v].toArray 53 (0, 0))) (hx : xs ≠ []) : CR Tryz.prog 32 [.pointer (some ⟨b, 0, none⟩)] h [.row v 5 1 (xs).length (bvs (xs))] (fun _ : Unit => .returned (.string ⟨xs.toArray⟩)) (fun _ h' H' => h = h' ∧ H' = []) := by
  refine enterR Tryz.func32 rfl rfl rfl (fun w hb0 => ?_)
  refine cy_seq ?_
  refine cy_region ?_
  refine sy_assign rfl rfl rfl ?_
  refine sy_nil rfl ?_
  refine ny_next ?_
  refine cy_seq ?_
  have hx0 : xs.length ≠ 0 := by simpa using hx
  refine cy_rowblk 0 rfl hx0 (fun g c hv hc => ?_)
  subst hv
  refine cy_regionA mixed ?_
  refine zy_q 0 rfl (by kernel_rfl) (fun hB1_0 => ?_)
  refine sy_move rfl rfl rfl ?_
  refine sy_nil1 (ny_zq hB1_0 ?_)
  refine zy_q 1 rfl (by kernel_rfl) (fun hB1_1 => ?_)
  refine sy_nilCheck rfl rfl rfl ?_
  refine sy_nil1 (ny_zq hB1_1 ?_)
  refine zy_q 2 rfl (by kernel_rfl) (fun hB1_2 => ?_)
  refine sy_field fld_53_1 rfl rfl rfl ?_
  refine sy_nil1 (ny_zq hB1_2 ?_)
  refine zy_q 3 rfl (by kernel_rfl) (fun hB1_3 => ?_)
  refine sy_ldh one_40 rfl (Hp.blk hb 1 _ rfl) rfl rfl ?_
  refine sy_nil1 (ny_zq hB1_3 ?_)
  refine zy_q 5 rfl (by kernel_rfl) (fun hB1_5 => ?_)
  refine sy_move rfl rfl rfl ?_
  refine sy_nil1 (ny_zq hB1_5 ?_)
  refine zy_q 6 rfl (by kernel_rfl) (fun hB1_6 => ?_)
  refine sy_nilCheck rfl rfl rfl ?_
  refine sy_nil1 (ny_zq hB1_6 ?_)
  refine zy_q 7 rfl (by kernel_rfl) (fun hB1_7 => ?_)
  refine sy_field fld_53_1 rfl rfl rfl ?_
  refine sy_nil1 (ny_zq hB1_7 ?_)
  refine zy_q 8 rfl (by kernel_rfl) (fun hB1_8 => ?_)
  refine sy_ldh one_40 rfl (Hp.blk hb 1 _ rfl) rfl rfl ?_
  refine sy_nil1 (ny_zq hB1_8 ?_)
  refine zy_q 9 rfl (by kernel_rfl) (fun hB1_9 => ?_)
  refine sy_len rfl (len_slice Tryz.underlying40 _ _ _) rfl rfl ?_
  refine sy_nil1 (ny_zq hB1_9 ?_)
  refine zy_1 4 (by kernel_rfl) ?_
  refine zop_run rfl rfl (fun hB1_4 => ?_)
  refine sy_sliceData rfl hc rfl rfl ?_
  refine sy_nil rfl (ny_zy hB1_4 (Hp.Le.refl _) ?_)
  refine zy_1 10 (by kernel_rfl) ?_
  refine zop_run rfl rfl (fun hB1_10 => ?_)
  refine sy_unsafeStr 0 Tryz.underlying75 (by kernel_rfl) rfl rfl rfl hx0 rfl rfl rfl ?_
  refine sy_nil rfl (ny_zy hB1_10 (Hp.Le.refl _) ?_)
  refine zy_q 11 rfl (by kernel_rfl) (fun hB1_11 => ?_)
  refine sy_assign rfl rfl rfl ?_
  refine sy_nil1 (ny_zq hB1_11 ?_)
  refine zy_done (by kernel_rfl) ?_
  refine ny_next ?_
  refine cy_ret ?_
  exact ny_finR (res1 rfl rfl) (fun w hs => ⟨(), h, _, rfl, ⟨rfl, rfl⟩, hs⟩)
end Go.Proofs.YtanhhihechakhaaGreatDoor
namespace Go.Proofs
open Go.Shelf
def Tryz.lays169_ren : Go.Shelf.Ren := ⟨fun | 169 => 32 | n => n, fun | 70 => 51 | 9 => 9 | 0 => 0 | 72 => 53 | 37 => 40 | 127 => 75 | 3 => 3 | 5 => 5 | n => n, fun | n => n⟩
theorem Tryz.lays169 : Go.Proofs.Lays.n169 Tryz.prog Tryz.lays169_ren := {
  mixed := by kernel_rfl
  f169 := Tryz.func32.trans (congrArg some (by kernel_rfl))
  t0 := Tryz.underlying0
  a0 := Tryz.isAgg0
  z0 := Tryz.sizeOf0
  v0 := Tryz.zeroValue0
  t3 := Tryz.underlying3
  a3 := Tryz.isAgg3
  z3 := Tryz.sizeOf3
  v3 := Tryz.zeroValue3
  t9 := Tryz.underlying9
  a9 := Tryz.isAgg9
  z9 := Tryz.sizeOf9
  v9 := Tryz.zeroValue9
  t37 := Tryz.underlying40
  a37 := Tryz.isAgg40
  z37 := Tryz.sizeOf40
  v37 := Tryz.zeroValue40
  t70 := Tryz.underlying51
  a70 := Tryz.isAgg51
  z70 := Tryz.sizeOf51
  v70 := Tryz.zeroValue51
  t72 := Tryz.underlying53
  a72 := Tryz.isAgg53
  z72 := Tryz.sizeOf53
  v72 := Tryz.zeroValue53
  t127 := Tryz.underlying75
  a127 := Tryz.isAgg75
  z127 := Tryz.sizeOf75
  v127 := Tryz.zeroValue75 }
theorem Tryz.Builder_Extra_169 : Builder.Extra Tryz.prog Tryz.lays169_ren := {
  sizeBuilder := by kernel_rfl
  liesBuilder := by kernel_rfl
  t5 := Tryz.underlying5
  a5 := Tryz.isAgg5
  z5 := Tryz.sizeOf5
  v5 := Tryz.zeroValue5
  infoByte := by kernel_rfl
  cellsByte := by kernel_rfl
  sizeByte := by kernel_rfl
  neB5 := by decide }
open Go.RowKit in
theorem Tryz.Builder_String (B b : Nat) (l : List UInt8) (w : World) (h : Lib.IsBuilder 53 5 B b (Lib.byteCells l) w) (h0 : l ≠ []) :
    Calls Tryz.prog 32 #[.pointer (some ⟨b, 0, none⟩)] w fun e w' => e = .returned (.string ⟨l.toArray⟩) ∧ Below B w w' := Any.Builder_String Tryz.lays169 Tryz.Builder_Extra_169 B b l w h h0
open Go.RowKit in
theorem Tryz.Builder_String_empty (B b : Nat) (w : World) (h : Lib.IsBuilder 53 5 B b [] w) (hBw : B ≤ w.heap.size) :
    Calls Tryz.prog 32 #[.pointer (some ⟨b, 0, none⟩)] w fun e w' => e = .returned (.string ⟨#[]⟩) ∧ Below B w w' := Any.Builder_String_empty Tryz.lays169 Tryz.Builder_Extra_169 B b w h hBw
open Go.RowKit in
theorem Tryz.Builder_String_any (B b : Nat) (l : List UInt8) (w : World) (h : Lib.IsBuilder 53 5 B b (Lib.byteCells l) w) (hBw : B ≤ w.heap.size) :
    Calls Tryz.prog 32 #[.pointer (some ⟨b, 0, none⟩)] w fun e w' => e = .returned (.string ⟨l.toArray⟩) ∧ Below B w w' := Any.Builder_String_any Tryz.lays169 Tryz.Builder_Extra_169 B b l w h hBw
def Tryz.lays241_ren : Go.Shelf.Ren := ⟨fun | 241 => 87 | 277 => 103 | n => n, fun | 70 => 51 | 3 => 3 | 0 => 0 | 72 => 53 | 37 => 40 | 5 => 5 | n => n, fun | n => n⟩
theorem Tryz.lays241 : Go.Proofs.Lays.n241 Tryz.prog Tryz.lays241_ren := {
  mixed := by kernel_rfl
  f241 := Tryz.func87.trans (congrArg some (by kernel_rfl))
  f277 := Tryz.func103.trans (congrArg some (by kernel_rfl))
  t0 := Tryz.underlying0
  a0 := Tryz.isAgg0
  z0 := Tryz.sizeOf0
  v0 := Tryz.zeroValue0
  t3 := Tryz.underlying3
  a3 := Tryz.isAgg3
  z3 := Tryz.sizeOf3
  v3 := Tryz.zeroValue3
  t37 := Tryz.underlying40
  a37 := Tryz.isAgg40
  z37 := Tryz.sizeOf40
  v37 := Tryz.zeroValue40
  t70 := Tryz.underlying51
  a70 := Tryz.isAgg51
  z70 := Tryz.sizeOf51
  v70 := Tryz.zeroValue51
  t72 := Tryz.underlying53
  a72 := Tryz.isAgg53
  z72 := Tryz.sizeOf53
  v72 := Tryz.zeroValue53 }
theorem Tryz.Builder_Extra_241 : Builder.Extra Tryz.prog Tryz.lays241_ren := {
  sizeBuilder := by kernel_rfl
  liesBuilder := by kernel_rfl
  t5 := Tryz.underlying5
  a5 := Tryz.isAgg5
  z5 := Tryz.sizeOf5
  v5 := Tryz.zeroValue5
  infoByte := by kernel_rfl
  cellsByte := by kernel_rfl
  sizeByte := by kernel_rfl
  neB5 := by decide }
open Go.RowKit in
theorem Tryz.Builder_grow_fresh (B b n : Nat) (w : World) (hB : B ≤ b) (hbk : w.heap[b]? = some (.cells #[.pointer (some ⟨b, 0, none⟩), .slice none 0 0] 53 (0, 0))) (hBw : B ≤ w.heap.size) (hn : n ≤ 281474976710656) :
    Calls Tryz.prog 87 #[.pointer (some ⟨b, 0, none⟩), .int .i64 n] w fun e w' => e = .returned (.tuple #[]) ∧ (Lib.BuilderAt 53 5 B b (.pointer (some ⟨b, 0, none⟩)) [] w' ∧ Below B w w') := Any.Builder_grow_fresh Tryz.lays241 Tryz.Builder_Extra_241 B b n w hB hbk hBw hn
def Tryz.lays165_ren : Go.Shelf.Ren := ⟨fun | 165 => 61 | 240 => 48 | 241 => 87 | 276 => 64 | 277 => 103 | n => n, fun | 70 => 51 | 3 => 3 | 0 => 0 | 4 => 4 | 9 => 9 | 20 => 20 | 72 => 53 | 37 => 40 | 164 => 97 | 5 => 5 | n => n, fun | n => n⟩
theorem Tryz.lays165 : Go.Proofs.Lays.n165 Tryz.prog Tryz.lays165_ren := {
  mixed := by kernel_rfl
  f165 := Tryz.func61.trans (congrArg some (by kernel_rfl))
  f240 := Tryz.func48.trans (congrArg some (by kernel_rfl))
  f241 := Tryz.func87.trans (congrArg some (by kernel_rfl))
  f276 := Tryz.func64.trans (congrArg some (by kernel_rfl))
  f277 := Tryz.func103.trans (congrArg some (by kernel_rfl))
  t0 := Tryz.underlying0
  a0 := Tryz.isAgg0
  z0 := Tryz.sizeOf0
  v0 := Tryz.zeroValue0
  t3 := Tryz.underlying3
  a3 := Tryz.isAgg3
  z3 := Tryz.sizeOf3
  v3 := Tryz.zeroValue3
  t4 := Tryz.underlying4
  a4 := Tryz.isAgg4
  z4 := Tryz.sizeOf4
  v4 := Tryz.zeroValue4
  t9 := Tryz.underlying9
  a9 := Tryz.isAgg9
  z9 := Tryz.sizeOf9
  v9 := Tryz.zeroValue9
  t20 := Tryz.underlying20
  a20 := Tryz.isAgg20
  z20 := Tryz.sizeOf20
  v20 := Tryz.zeroValue20
  t37 := Tryz.underlying40
  a37 := Tryz.isAgg40
  z37 := Tryz.sizeOf40
  v37 := Tryz.zeroValue40
  t70 := Tryz.underlying51
  a70 := Tryz.isAgg51
  z70 := Tryz.sizeOf51
  v70 := Tryz.zeroValue51
  t72 := Tryz.underlying53
  a72 := Tryz.isAgg53
  z72 := Tryz.sizeOf53
  v72 := Tryz.zeroValue53
  t164 := Tryz.underlying97
  a164 := Tryz.isAgg97
  z164 := Tryz.sizeOf97
  v164 := Tryz.zeroValue97 }
theorem Tryz.Builder_Extra_165 : Builder.Extra Tryz.prog Tryz.lays165_ren := {
  sizeBuilder := by kernel_rfl
  liesBuilder := by kernel_rfl
  t5 := Tryz.underlying5
  a5 := Tryz.isAgg5
  z5 := Tryz.sizeOf5
  v5 := Tryz.zeroValue5
  infoByte := by kernel_rfl
  cellsByte := by kernel_rfl
  sizeByte := by kernel_rfl
  neB5 := by decide }
open Go.RowKit in
theorem Tryz.Builder_Grow_fresh (B b n : Nat) (w : World) (hB : B ≤ b) (hbk : w.heap[b]? = some (.cells #[.pointer none, .slice none 0 0] 53 (0, 0))) (hBw : B ≤ w.heap.size) (hn : n ≤ 281474976710656) :
    Calls Tryz.prog 61 #[.pointer (some ⟨b, 0, none⟩), .int .i64 n] w fun e w' => e = .returned (.tuple #[]) ∧ (Lib.BuilderAt 53 5 B b (.pointer (some ⟨b, 0, none⟩)) [] w' ∧ Below B w w') := Any.Builder_Grow_fresh Tryz.lays165 Tryz.Builder_Extra_165 B b n w hB hbk hBw hn
def Tryz.lays156_ren : Go.Shelf.Ren := ⟨fun | 156 => 42 | 165 => 61 | 166 => 31 | 169 => 32 | 240 => 48 | 241 => 87 | 276 => 64 | 277 => 103 | n => n, fun | 31 => 37 | 9 => 9 | 3 => 3 | 4 => 4 | 0 => 0 | 20 => 20 | 72 => 53 | 76 => 74 | 70 => 51 | 37 => 40 | 75 => 60 | 127 => 75 | 164 => 97 | 5 => 5 | 80 => 56 | n => n, fun | n => n⟩
theorem Tryz.lays156 : Go.Proofs.Lays.n156 Tryz.prog Tryz.lays156_ren := {
  mixed := by kernel_rfl
  f156 := Tryz.func42.trans (congrArg some (by kernel_rfl))
  f165 := Tryz.func61.trans (congrArg some (by kernel_rfl))
  f166 := Tryz.func31.trans (congrArg some (by kernel_rfl))
  f169 := Tryz.func32.trans (congrArg some (by kernel_rfl))
  f240 := Tryz.func48.trans (congrArg some (by kernel_rfl))
  f241 := Tryz.func87.trans (congrArg some (by kernel_rfl))
  f276 := Tryz.func64.trans (congrArg some (by kernel_rfl))
  f277 := Tryz.func103.trans (congrArg some (by kernel_rfl))
  t0 := Tryz.underlying0
  a0 := Tryz.isAgg0
  z0 := Tryz.sizeOf0
  v0 := Tryz.zeroValue0
  t3 := Tryz.underlying3
  a3 := Tryz.isAgg3
  z3 := Tryz.sizeOf3
  v3 := Tryz.zeroValue3
  t4 := Tryz.underlying4
  a4 := Tryz.isAgg4
  z4 := Tryz.sizeOf4
  v4 := Tryz.zeroValue4
  t9 := Tryz.underlying9
  a9 := Tryz.isAgg9
  z9 := Tryz.sizeOf9
  v9 := Tryz.zeroValue9
  t20 := Tryz.underlying20
  a20 := Tryz.isAgg20
  z20 := Tryz.sizeOf20
  v20 := Tryz.zeroValue20
  t31 := Tryz.underlying37
  a31 := Tryz.isAgg37
  z31 := Tryz.sizeOf37
  v31 := Tryz.zeroValue37
  t37 := Tryz.underlying40
  a37 := Tryz.isAgg40
  z37 := Tryz.sizeOf40
  v37 := Tryz.zeroValue40
  t70 := Tryz.underlying51
  a70 := Tryz.isAgg51
  z70 := Tryz.sizeOf51
  v70 := Tryz.zeroValue51
  t72 := Tryz.underlying53
  a72 := Tryz.isAgg53
  z72 := Tryz.sizeOf53
  v72 := Tryz.zeroValue53
  t75 := Tryz.underlying60
  a75 := Tryz.isAgg60
  z75 := Tryz.sizeOf60
  v75 := Tryz.zeroValue60
  t76 := Tryz.underlying74
  a76 := Tryz.isAgg74
  z76 := Tryz.sizeOf74
  v76 := Tryz.zeroValue74
  t127 := Tryz.underlying75
  a127 := Tryz.isAgg75
  z127 := Tryz.sizeOf75
  v127 := Tryz.zeroValue75
  t164 := Tryz.underlying97
  a164 := Tryz.isAgg97
  z164 := Tryz.sizeOf97
  v164 := Tryz.zeroValue97 }
theorem Tryz.Builder_Extra_156 : Builder.Extra Tryz.prog Tryz.lays156_ren := {
  sizeBuilder := by kernel_rfl
  liesBuilder := by kernel_rfl
  t5 := Tryz.underlying5
  a5 := Tryz.isAgg5
  z5 := Tryz.sizeOf5
  v5 := Tryz.zeroValue5
  infoByte := by kernel_rfl
  cellsByte := by kernel_rfl
  sizeByte := by kernel_rfl
  neB5 := by decide }
open Go.RowKit in
theorem Tryz.strings_Join_none (a : Option Addr) (c : Nat) (sep : ByteArray) (w : World) :
    Calls Tryz.prog 42 #[.slice a 0 c, .string sep] w fun e w' => e = .returned (.string ⟨#[]⟩) ∧ w' = w := Any.strings_Join_none Tryz.lays156 Tryz.Builder_Extra_156 a c sep w
open Go.RowKit in
theorem Tryz.strings_Join (bk o c : Nat) (xs : List ByteArray) (sep : ByteArray) (w : World) (hcells : ∀ (j : Nat) x, xs[j]? = some x → w.cell? ⟨bk, o + j, none⟩ = some (.string x)) (hbk : bk < w.heap.size) (hN : xs.length ≤ 140737488355328) (hcap : xs.length ≤ c) (hlen : (Lib.join (xs.map (·.data.toList)) sep.data.toList).length ≤ 140737488355328) :
    Calls Tryz.prog 42 #[.slice (some ⟨bk, o, none⟩) xs.length c, .string sep] w fun e w' => e = .returned (.string ⟨(Lib.join (xs.map (·.data.toList)) sep.data.toList).toArray⟩) ∧ Below w.heap.size w w' := Any.strings_Join Tryz.lays156 Tryz.Builder_Extra_156 bk o c xs sep w hcells hbk hN hcap hlen
def Tryz.lays137_ren : Go.Shelf.Ren := ⟨fun | 137 => 74 | 217 => 93 | 266 => 110 | n => n, fun | 9 => 9 | 5 => 5 | 3 => 3 | n => n, fun | n => n⟩
theorem Tryz.lays137 : Go.Proofs.Lays.n137 Tryz.prog Tryz.lays137_ren := {
  mixed := by kernel_rfl
  f137 := Tryz.func74.trans (congrArg some (by kernel_rfl))
  f217 := Tryz.func93.trans (congrArg some (by kernel_rfl))
  f266 := Tryz.func110.trans (congrArg some (by kernel_rfl))
  t3 := Tryz.underlying3
  a3 := Tryz.isAgg3
  z3 := Tryz.sizeOf3
  v3 := Tryz.zeroValue3
  t5 := Tryz.underlying5
  a5 := Tryz.isAgg5
  z5 := Tryz.sizeOf5
  v5 := Tryz.zeroValue5
  t9 := Tryz.underlying9
  a9 := Tryz.isAgg9
  z9 := Tryz.sizeOf9
  v9 := Tryz.zeroValue9 }
open Go.RowKit in
theorem Tryz.strings_IndexByte (s : ByteArray) (c : Int) (w : World) :
    Calls Tryz.prog 74 #[.string s, .int .u8 c] w fun e w' => e = .returned (.int .i64 (Lib.indexByte s.data.toList c.toNat.toUInt8)) ∧ w' = w := Any.strings_IndexByte Tryz.lays137 s c w
def Tryz.lays195_ren : Go.Shelf.Ren := ⟨fun | 195 => 207 | n => n, fun | 9 => 9 | 3 => 3 | 0 => 0 | 4 => 4 | n => n, fun | n => n⟩
theorem Tryz.lays195 : Go.Proofs.Lays.n195 Tryz.prog Tryz.lays195_ren := {
  mixed := by kernel_rfl
  f195 := Tryz.func207.trans (congrArg some (by kernel_rfl))
  t0 := Tryz.underlying0
  a0 := Tryz.isAgg0
  z0 := Tryz.sizeOf0
  v0 := Tryz.zeroValue0
  t3 := Tryz.underlying3
  a3 := Tryz.isAgg3
  z3 := Tryz.sizeOf3
  v3 := Tryz.zeroValue3
  t4 := Tryz.underlying4
  a4 := Tryz.isAgg4
  z4 := Tryz.sizeOf4
  v4 := Tryz.zeroValue4
  t9 := Tryz.underlying9
  a9 := Tryz.isAgg9
  z9 := Tryz.sizeOf9
  v9 := Tryz.zeroValue9 }
open Go.RowKit in
theorem Tryz.utf8_RuneCountInString (s : ByteArray) (w : World) (hs : s.size < 9223372036854775807) :
    Calls Tryz.prog 207 #[.string s] w fun e w' => e = .returned (.int .i64 (Lib.runeCount s)) ∧ ∃ pos, w' = w.iter s pos := Any.utf8_RuneCountInString Tryz.lays195 s w hs
def Tryz.lays129_ren : Go.Shelf.Ren := ⟨fun | 129 => 119 | n => n, fun | 53 => 121 | 3 => 3 | 4 => 4 | 46 => 180 | 5 => 5 | 9 => 9 | n => n, fun | n => n⟩
theorem Tryz.lays129 : Go.Proofs.Lays.n129 Tryz.prog Tryz.lays129_ren := {
  mixed := by kernel_rfl
  f129 := Tryz.func119.trans (congrArg some (by kernel_rfl))
  t3 := Tryz.underlying3
  a3 := Tryz.isAgg3
  z3 := Tryz.sizeOf3
  v3 := Tryz.zeroValue3
  t4 := Tryz.underlying4
  a4 := Tryz.isAgg4
  z4 := Tryz.sizeOf4
  v4 := Tryz.zeroValue4
  t5 := Tryz.underlying5
  a5 := Tryz.isAgg5
  z5 := Tryz.sizeOf5
  v5 := Tryz.zeroValue5
  t9 := Tryz.underlying9
  a9 := Tryz.isAgg9
  z9 := Tryz.sizeOf9
  v9 := Tryz.zeroValue9
  t46 := Tryz.underlying180
  a46 := Tryz.isAgg180
  z46 := Tryz.sizeOf180
  v46 := Tryz.zeroValue180
  t53 := Tryz.underlying121
  a53 := Tryz.isAgg121
  z53 := Tryz.sizeOf121
  v53 := Tryz.zeroValue121 }
theorem Tryz.bits_Len64 (x : Int) (w : World) (h0 : 0 ≤ x) (h1 : x ≤ 18446744073709551615) :
    Calls Tryz.prog 119 #[.int .u64 x] w fun e w' => e = .returned (.int .i64 (Lib.bitLen x.toNat)) ∧ w' = w := Any.bits_Len64 Tryz.lays129 x w h0 h1
def Tryz.lays317_ren : Go.Shelf.Ren := ⟨fun | 317 => 118 | n => n, fun | 3 => 3 | 46 => 180 | n => n, fun | n => n⟩
theorem Tryz.lays317 : Go.Proofs.Lays.n317 Tryz.prog Tryz.lays317_ren := {
  mixed := by kernel_rfl
  f317 := Tryz.func118.trans (congrArg some (by kernel_rfl))
  t3 := Tryz.underlying3
  a3 := Tryz.isAgg3
  z3 := Tryz.sizeOf3
  v3 := Tryz.zeroValue3
  t46 := Tryz.underlying180
  a46 := Tryz.isAgg180
  z46 := Tryz.sizeOf180
  v46 := Tryz.zeroValue180 }
open Go.Lib in
theorem Tryz.internal_strconv_log10Pow2 (x : Nat) (h : x ≤ 64) (w : World) :
    Calls Tryz.prog 118 #[.int .i64 x] w fun e w' => e = .returned (.int .i64 (Lib.l10 x)) ∧ w' = w := Any.internal_strconv_log10Pow2 Tryz.lays317 x h w
def Tryz.lays318_ren : Go.Shelf.Ren := ⟨fun | 318 => 120 | n => n, fun | 3 => 3 | 4 => 4 | n => n, fun | n => n⟩
theorem Tryz.lays318 : Go.Proofs.Lays.n318 Tryz.prog Tryz.lays318_ren := {
  mixed := by kernel_rfl
  f318 := Tryz.func120.trans (congrArg some (by kernel_rfl))
  t3 := Tryz.underlying3
  a3 := Tryz.isAgg3
  z3 := Tryz.sizeOf3
  v3 := Tryz.zeroValue3
  t4 := Tryz.underlying4
  a4 := Tryz.isAgg4
  z4 := Tryz.sizeOf4
  v4 := Tryz.zeroValue4 }
open Go.Lib in
theorem Tryz.internal_strconv_bool2_int (b : Bool) (w : World) :
    Calls Tryz.prog 120 #[.bool b] w fun e w' => e = .returned (.int .i64 (if b then 1 else 0)) ∧ w' = w := Any.internal_strconv_bool2_int Tryz.lays318 b w
def Tryz.lays283_ren : Go.Shelf.Ren := ⟨fun | 283 => 104 | n => n, fun | 3 => 3 | 9 => 9 | 4 => 4 | n => n, fun | n => n⟩
theorem Tryz.lays283 : Go.Proofs.Lays.n283 Tryz.prog Tryz.lays283_ren := {
  mixed := by kernel_rfl
  f283 := Tryz.func104.trans (congrArg some (by kernel_rfl))
  t3 := Tryz.underlying3
  a3 := Tryz.isAgg3
  z3 := Tryz.sizeOf3
  v3 := Tryz.zeroValue3
  t4 := Tryz.underlying4
  a4 := Tryz.isAgg4
  z4 := Tryz.sizeOf4
  v4 := Tryz.zeroValue4
  t9 := Tryz.underlying9
  a9 := Tryz.isAgg9
  z9 := Tryz.sizeOf9
  v9 := Tryz.zeroValue9 }
open Go.Lib in
theorem Tryz.internal_strconv_small (i : Nat) (h : i < 100) (w : World) :
    Calls Tryz.prog 104 #[.int .i64 i] w fun e w' => e = .returned (.string ⟨(Lib.decDigits i).toArray⟩) ∧ w' = w := Any.internal_strconv_small Tryz.lays283 i h w
def Tryz.laysM284_ren : Go.Shelf.Ren := ⟨fun | 284 => 105 | 129 => 119 | 317 => 118 | 318 => 120 | n => n, fun | 53 => 121 | 3 => 3 | 212 => 177 | 0 => 0 | 4 => 4 | 46 => 180 | 5 => 5 | 9 => 9 | n => n, fun | 17 => 2 | n => n⟩
theorem Tryz.laysM284 : Go.Proofs.LaysM.n284 Tryz.prog Tryz.laysM284_ren := {
  mixed := by kernel_rfl
  f129 := Tryz.func119.trans (congrArg some (by kernel_rfl))
  f284 := Tryz.func105.trans (congrArg some (by kernel_rfl))
  f317 := Tryz.func118.trans (congrArg some (by kernel_rfl))
  f318 := Tryz.func120.trans (congrArg some (by kernel_rfl))
  t0 := Tryz.underlying0
  a0 := Tryz.isAgg0
  z0 := Tryz.sizeOf0
  v0 := Tryz.zeroValue0
  t3 := Tryz.underlying3
  a3 := Tryz.isAgg3
  z3 := Tryz.sizeOf3
  v3 := Tryz.zeroValue3
  t4 := Tryz.underlying4
  a4 := Tryz.isAgg4
  z4 := Tryz.sizeOf4
  v4 := Tryz.zeroValue4
  t5 := Tryz.underlying5
  a5 := Tryz.isAgg5
  z5 := Tryz.sizeOf5
  v5 := Tryz.zeroValue5
  t9 := Tryz.underlying9
  a9 := Tryz.isAgg9
  z9 := Tryz.sizeOf9
  v9 := Tryz.zeroValue9
  t46 := Tryz.underlying180
  a46 := Tryz.isAgg180
  z46 := Tryz.sizeOf180
  v46 := Tryz.zeroValue180
  t53 := Tryz.underlying121
  a53 := Tryz.isAgg121
  z53 := Tryz.sizeOf121
  v53 := Tryz.zeroValue121
  t212 := Tryz.underlying177
  a212 := Tryz.isAgg177
  z212 := Tryz.sizeOf177
  v212 := Tryz.zeroValue177
  g17 := by kernel_rfl
  i0 := by kernel_rfl
  i3 := by kernel_rfl
  i4 := by kernel_rfl
  i5 := by kernel_rfl
  i9 := by kernel_rfl
  i46 := by kernel_rfl
  i53 := by kernel_rfl
  i212 := by kernel_rfl
  m17 := by kernel_rfl }
open Go.Lib in
theorem Tryz.internal_strconv_numDigits (u : Nat) (h1 : 1 ≤ u) (h2 : u < 18446744073709551616) (w : World) (htab : Lib.TabIs Tryz.prog w "internal/strconv.uint64pow10" .u64 Lib.pow10Tab) :
    Calls Tryz.prog 105 #[.int .u64 u] w fun e w' => e = .returned (.int .i64 (Lib.nDigits u)) ∧ w' = w := Any.internal_strconv_numDigits Tryz.laysM284 u h1 h2 w htab
def Tryz.lays285_ren : Go.Shelf.Ren := ⟨fun | 285 => 106 | n => n, fun | 37 => 40 | 53 => 121 | 3 => 3 | 4 => 4 | 51 => 153 | 9 => 9 | 5 => 5 | 0 => 0 | n => n, fun | n => n⟩
theorem Tryz.lays285 : Go.Proofs.Lays.n285 Tryz.prog Tryz.lays285_ren := {
  mixed := by kernel_rfl
  f285 := Tryz.func106.trans (congrArg some (by kernel_rfl))
  t0 := Tryz.underlying0
  a0 := Tryz.isAgg0
  z0 := Tryz.sizeOf0
  v0 := Tryz.zeroValue0
  t3 := Tryz.underlying3
  a3 := Tryz.isAgg3
  z3 := Tryz.sizeOf3
  v3 := Tryz.zeroValue3
  t4 := Tryz.underlying4
  a4 := Tryz.isAgg4
  z4 := Tryz.sizeOf4
  v4 := Tryz.zeroValue4
  t5 := Tryz.underlying5
  a5 := Tryz.isAgg5
  z5 := Tryz.sizeOf5
  v5 := Tryz.zeroValue5
  t9 := Tryz.underlying9
  a9 := Tryz.isAgg9
  z9 := Tryz.sizeOf9
  v9 := Tryz.zeroValue9
  t37 := Tryz.underlying40
  a37 := Tryz.isAgg40
  z37 := Tryz.sizeOf40
  v37 := Tryz.zeroValue40
  t51 := Tryz.underlying153
  a51 := Tryz.isAgg153
  z51 := Tryz.sizeOf153
  v51 := Tryz.zeroValue153
  t53 := Tryz.underlying121
  a53 := Tryz.isAgg121
  z53 := Tryz.sizeOf121
  v53 := Tryz.zeroValue121 }
open Go.RowKit Go.Sort Go.Lib in
theorem Tryz.internal_strconv_formatBase10 (blk off cap : Nat) (u : Nat) (d : Array UInt8) (w : World) (hH : Holds (fun (b : UInt8) => Value.int .u8 (b.toNat : Int)) w blk off d) (hu : u < 10 ^ d.size) (hu64 : u < 18446744073709551616) (hsz : d.size < 4611686018427387904) :
    Calls Tryz.prog 106 #[.slice (some ⟨blk, off, none⟩) d.size cap, .int .u64 u] w fun e w' =>
      e = .returned (.tuple #[]) ∧ ∃ (n v' : Nat) (dk : Array UInt8), w' = (putRow (fun (b : UInt8) => Value.int .u8 (b.toNat : Int)) w blk off dk).drewN n ∧ FmtInv d.size u 0 v' dk := Any.internal_strconv_formatBase10 Tryz.lays285 blk off cap u d w hH hu hu64 hsz
def Tryz.laysM246_ren : Go.Shelf.Ren := ⟨fun | 246 => 88 | 283 => 104 | 284 => 105 | 285 => 106 | 286 => 107 | 129 => 119 | 317 => 118 | 318 => 120 | 319 => 121 | 320 => 122 | 337 => 130 | 338 => 131 | n => n, fun | 2 => 2 | 3 => 3 | 9 => 9 | 4 => 4 | 171 => 145 | 0 => 0 | 53 => 121 | 37 => 40 | 5 => 5 | 173 => 148 | 212 => 177 | 51 => 153 | 20 => 20 | 213 => 178 | 46 => 180 | 232 => 209 | 233 => 210 | n => n, fun | 17 => 2 | 18 => 3 | 19 => 4 | n => n⟩
theorem Tryz.laysM246 : Go.Proofs.LaysM.n246 Tryz.prog Tryz.laysM246_ren := {
  mixed := by kernel_rfl
  f129 := Tryz.func119.trans (congrArg some (by kernel_rfl))
  f246 := Tryz.func88.trans (congrArg some (by kernel_rfl))
  f283 := Tryz.func104.trans (congrArg some (by kernel_rfl))
  f284 := Tryz.func105.trans (congrArg some (by kernel_rfl))
  f285 := Tryz.func106.trans (congrArg some (by kernel_rfl))
  f286 := Tryz.func107.trans (congrArg some (by kernel_rfl))
  f317 := Tryz.func118.trans (congrArg some (by kernel_rfl))
  f318 := Tryz.func120.trans (congrArg some (by kernel_rfl))
  f319 := Tryz.func121.trans (congrArg some (by kernel_rfl))
  f320 := Tryz.func122.trans (congrArg some (by kernel_rfl))
  f337 := Tryz.func130.trans (congrArg some (by kernel_rfl))
  f338 := Tryz.func131.trans (congrArg some (by kernel_rfl))
  t0 := Tryz.underlying0
  a0 := Tryz.isAgg0
  z0 := Tryz.sizeOf0
  v0 := Tryz.zeroValue0
  t2 := Tryz.underlying2
  a2 := Tryz.isAgg2
  z2 := Tryz.sizeOf2
  v2 := Tryz.zeroValue2
  t3 := Tryz.underlying3
  a3 := Tryz.isAgg3
  z3 := Tryz.sizeOf3
  v3 := Tryz.zeroValue3
  t4 := Tryz.underlying4
  a4 := Tryz.isAgg4
  z4 := Tryz.sizeOf4
  v4 := Tryz.zeroValue4
  t5 := Tryz.underlying5
  a5 := Tryz.isAgg5
  z5 := Tryz.sizeOf5
  v5 := Tryz.zeroValue5
  t9 := Tryz.underlying9
  a9 := Tryz.isAgg9
  z9 := Tryz.sizeOf9
  v9 := Tryz.zeroValue9
  t20 := Tryz.underlying20
  a20 := Tryz.isAgg20
  z20 := Tryz.sizeOf20
  v20 := Tryz.zeroValue20
  t37 := Tryz.underlying40
  a37 := Tryz.isAgg40
  z37 := Tryz.sizeOf40
  v37 := Tryz.zeroValue40
  t46 := Tryz.underlying180
  a46 := Tryz.isAgg180
  z46 := Tryz.sizeOf180
  v46 := Tryz.zeroValue180
  t51 := Tryz.underlying153
  a51 := Tryz.isAgg153
  z51 := Tryz.sizeOf153
  v51 := Tryz.zeroValue153
  t53 := Tryz.underlying121
  a53 := Tryz.isAgg121
  z53 := Tryz.sizeOf121
  v53 := Tryz.zeroValue121
  t171 := Tryz.underlying145
  a171 := Tryz.isAgg145
  z171 := Tryz.sizeOf145
  v171 := Tryz.zeroValue145
  t173 := Tryz.underlying148
  a173 := Tryz.isAgg148
  z173 := Tryz.sizeOf148
  v173 := Tryz.zeroValue148
  t212 := Tryz.underlying177
  a212 := Tryz.isAgg177
  z212 := Tryz.sizeOf177
  v212 := Tryz.zeroValue177
  t213 := Tryz.underlying178
  a213 := Tryz.isAgg178
  z213 := Tryz.sizeOf178
  t232 := Tryz.underlying209
  a232 := Tryz.isAgg209
  z232 := Tryz.sizeOf209
  v232 := Tryz.zeroValue209
  t233 := Tryz.underlying210
  a233 := Tryz.isAgg210
  z233 := Tryz.sizeOf210
  v233 := Tryz.zeroValue210
  g17 := by kernel_rfl
  g18 := by kernel_rfl
  g19 := by kernel_rfl
  i0 := by kernel_rfl
  i2 := by kernel_rfl
  i3 := by kernel_rfl
  i4 := by kernel_rfl
  i5 := by kernel_rfl
  i9 := by kernel_rfl
  i20 := by kernel_rfl
  i37 := by kernel_rfl
  i46 := by kernel_rfl
  i51 := by kernel_rfl
  i53 := by kernel_rfl
  i171 := by kernel_rfl
  i173 := by kernel_rfl
  i212 := by kernel_rfl
  i232 := by kernel_rfl
  i233 := by kernel_rfl
  m17 := by kernel_rfl
  m18 := by kernel_rfl
  m19 := by kernel_rfl }
open Go.RowKit Go.Sort Go.Lib in
theorem Tryz.internal_strconv_FormatInt_10 (n : Int) (h0 : -9223372036854775808 ≤ n) (h1 : n ≤ 9223372036854775807) (w : World) (htab : Lib.TabIs Tryz.prog w "internal/strconv.uint64pow10" .u64 Lib.pow10Tab) :
    Calls Tryz.prog 88 #[.int .i64 n, .int .i64 10] w fun e w' => e = .returned (.string ⟨(Lib.itoa n).toArray⟩) ∧ ∃ k os, w' = grow (w.drewN k) os := Any.internal_strconv_FormatInt_10 Tryz.laysM246 n h0 h1 w htab
def Tryz.lays246_ren : Go.Shelf.Ren := ⟨fun | 246 => 88 | 283 => 104 | 284 => 105 | 285 => 106 | 286 => 107 | 129 => 119 | 317 => 118 | 318 => 120 | 319 => 121 | 320 => 122 | 337 => 130 | 338 => 131 | n => n, fun | 2 => 2 | 3 => 3 | 9 => 9 | 4 => 4 | 171 => 145 | 0 => 0 | 53 => 121 | 37 => 40 | 5 => 5 | 173 => 148 | 212 => 177 | 51 => 153 | 20 => 20 | 213 => 178 | 46 => 180 | 232 => 209 | 233 => 210 | n => n, fun | 17 => 2 | 18 => 3 | 19 => 4 | n => n⟩
theorem Tryz.lays246 : Go.Proofs.Lays.n246 Tryz.prog Tryz.lays246_ren := {
  mixed := by kernel_rfl
  f129 := Tryz.func119.trans (congrArg some (by kernel_rfl))
  f246 := Tryz.func88.trans (congrArg some (by kernel_rfl))
  f283 := Tryz.func104.trans (congrArg some (by kernel_rfl))
  f284 := Tryz.func105.trans (congrArg some (by kernel_rfl))
  f285 := Tryz.func106.trans (congrArg some (by kernel_rfl))
  f286 := Tryz.func107.trans (congrArg some (by kernel_rfl))
  f317 := Tryz.func118.trans (congrArg some (by kernel_rfl))
  f318 := Tryz.func120.trans (congrArg some (by kernel_rfl))
  f319 := Tryz.func121.trans (congrArg some (by kernel_rfl))
  f320 := Tryz.func122.trans (congrArg some (by kernel_rfl))
  f337 := Tryz.func130.trans (congrArg some (by kernel_rfl))
  f338 := Tryz.func131.trans (congrArg some (by kernel_rfl))
  t0 := Tryz.underlying0
  a0 := Tryz.isAgg0
  z0 := Tryz.sizeOf0
  v0 := Tryz.zeroValue0
  t2 := Tryz.underlying2
  a2 := Tryz.isAgg2
  z2 := Tryz.sizeOf2
  v2 := Tryz.zeroValue2
  t3 := Tryz.underlying3
  a3 := Tryz.isAgg3
  z3 := Tryz.sizeOf3
  v3 := Tryz.zeroValue3
  t4 := Tryz.underlying4
  a4 := Tryz.isAgg4
  z4 := Tryz.sizeOf4
  v4 := Tryz.zeroValue4
  t5 := Tryz.underlying5
  a5 := Tryz.isAgg5
  z5 := Tryz.sizeOf5
  v5 := Tryz.zeroValue5
  t9 := Tryz.underlying9
  a9 := Tryz.isAgg9
  z9 := Tryz.sizeOf9
  v9 := Tryz.zeroValue9
  t20 := Tryz.underlying20
  a20 := Tryz.isAgg20
  z20 := Tryz.sizeOf20
  v20 := Tryz.zeroValue20
  t37 := Tryz.underlying40
  a37 := Tryz.isAgg40
  z37 := Tryz.sizeOf40
  v37 := Tryz.zeroValue40
  t46 := Tryz.underlying180
  a46 := Tryz.isAgg180
  z46 := Tryz.sizeOf180
  v46 := Tryz.zeroValue180
  t51 := Tryz.underlying153
  a51 := Tryz.isAgg153
  z51 := Tryz.sizeOf153
  v51 := Tryz.zeroValue153
  t53 := Tryz.underlying121
  a53 := Tryz.isAgg121
  z53 := Tryz.sizeOf121
  v53 := Tryz.zeroValue121
  t171 := Tryz.underlying145
  a171 := Tryz.isAgg145
  z171 := Tryz.sizeOf145
  v171 := Tryz.zeroValue145
  t173 := Tryz.underlying148
  a173 := Tryz.isAgg148
  z173 := Tryz.sizeOf148
  v173 := Tryz.zeroValue148
  t212 := Tryz.underlying177
  a212 := Tryz.isAgg177
  z212 := Tryz.sizeOf177
  v212 := Tryz.zeroValue177
  t213 := Tryz.underlying178
  a213 := Tryz.isAgg178
  z213 := Tryz.sizeOf178
  t232 := Tryz.underlying209
  a232 := Tryz.isAgg209
  z232 := Tryz.sizeOf209
  v232 := Tryz.zeroValue209
  t233 := Tryz.underlying210
  a233 := Tryz.isAgg210
  z233 := Tryz.sizeOf210
  v233 := Tryz.zeroValue210
  g17 := by kernel_rfl
  g18 := by kernel_rfl
  g19 := by kernel_rfl }
open Go.RowKit Go.Sort Go.Lib in
theorem Tryz.internal_strconv_FormatInt_10_small (i : Nat) (hi : i < 100) (w : World) :
    Calls Tryz.prog 88 #[.int .i64 i, .int .i64 10] w fun e w' => e = .returned (.string ⟨(Lib.decDigits i).toArray⟩) ∧ w' = w := Any.internal_strconv_FormatInt_10_small Tryz.lays246 i hi w
def Tryz.laysM173_ren : Go.Shelf.Ren := ⟨fun | 173 => 62 | 246 => 88 | 283 => 104 | 284 => 105 | 285 => 106 | 286 => 107 | 129 => 119 | 317 => 118 | 318 => 120 | 319 => 121 | 320 => 122 | 337 => 130 | 338 => 131 | n => n, fun | 2 => 2 | 3 => 3 | 9 => 9 | 4 => 4 | 171 => 145 | 0 => 0 | 53 => 121 | 37 => 40 | 5 => 5 | 173 => 148 | 212 => 177 | 51 => 153 | 20 => 20 | 213 => 178 | 46 => 180 | 232 => 209 | 233 => 210 | n => n, fun | 17 => 2 | 18 => 3 | 19 => 4 | n => n⟩
theorem Tryz.laysM173 : Go.Proofs.LaysM.n173 Tryz.prog Tryz.laysM173_ren := {
  mixed := by kernel_rfl
  f129 := Tryz.func119.trans (congrArg some (by kernel_rfl))
  f173 := Tryz.func62.trans (congrArg some (by kernel_rfl))
  f246 := Tryz.func88.trans (congrArg some (by kernel_rfl))
  f283 := Tryz.func104.trans (congrArg some (by kernel_rfl))
  f284 := Tryz.func105.trans (congrArg some (by kernel_rfl))
  f285 := Tryz.func106.trans (congrArg some (by kernel_rfl))
  f286 := Tryz.func107.trans (congrArg some (by kernel_rfl))
  f317 := Tryz.func118.trans (congrArg some (by kernel_rfl))
  f318 := Tryz.func120.trans (congrArg some (by kernel_rfl))
  f319 := Tryz.func121.trans (congrArg some (by kernel_rfl))
  f320 := Tryz.func122.trans (congrArg some (by kernel_rfl))
  f337 := Tryz.func130.trans (congrArg some (by kernel_rfl))
  f338 := Tryz.func131.trans (congrArg some (by kernel_rfl))
  t0 := Tryz.underlying0
  a0 := Tryz.isAgg0
  z0 := Tryz.sizeOf0
  v0 := Tryz.zeroValue0
  t2 := Tryz.underlying2
  a2 := Tryz.isAgg2
  z2 := Tryz.sizeOf2
  v2 := Tryz.zeroValue2
  t3 := Tryz.underlying3
  a3 := Tryz.isAgg3
  z3 := Tryz.sizeOf3
  v3 := Tryz.zeroValue3
  t4 := Tryz.underlying4
  a4 := Tryz.isAgg4
  z4 := Tryz.sizeOf4
  v4 := Tryz.zeroValue4
  t5 := Tryz.underlying5
  a5 := Tryz.isAgg5
  z5 := Tryz.sizeOf5
  v5 := Tryz.zeroValue5
  t9 := Tryz.underlying9
  a9 := Tryz.isAgg9
  z9 := Tryz.sizeOf9
  v9 := Tryz.zeroValue9
  t20 := Tryz.underlying20
  a20 := Tryz.isAgg20
  z20 := Tryz.sizeOf20
  v20 := Tryz.zeroValue20
  t37 := Tryz.underlying40
  a37 := Tryz.isAgg40
  z37 := Tryz.sizeOf40
  v37 := Tryz.zeroValue40
  t46 := Tryz.underlying180
  a46 := Tryz.isAgg180
  z46 := Tryz.sizeOf180
  v46 := Tryz.zeroValue180
  t51 := Tryz.underlying153
  a51 := Tryz.isAgg153
  z51 := Tryz.sizeOf153
  v51 := Tryz.zeroValue153
  t53 := Tryz.underlying121
  a53 := Tryz.isAgg121
  z53 := Tryz.sizeOf121
  v53 := Tryz.zeroValue121
  t171 := Tryz.underlying145
  a171 := Tryz.isAgg145
  z171 := Tryz.sizeOf145
  v171 := Tryz.zeroValue145
  t173 := Tryz.underlying148
  a173 := Tryz.isAgg148
  z173 := Tryz.sizeOf148
  v173 := Tryz.zeroValue148
  t212 := Tryz.underlying177
  a212 := Tryz.isAgg177
  z212 := Tryz.sizeOf177
  v212 := Tryz.zeroValue177
  t213 := Tryz.underlying178
  a213 := Tryz.isAgg178
  z213 := Tryz.sizeOf178
  t232 := Tryz.underlying209
  a232 := Tryz.isAgg209
  z232 := Tryz.sizeOf209
  v232 := Tryz.zeroValue209
  t233 := Tryz.underlying210
  a233 := Tryz.isAgg210
  z233 := Tryz.sizeOf210
  v233 := Tryz.zeroValue210
  g17 := by kernel_rfl
  g18 := by kernel_rfl
  g19 := by kernel_rfl
  i0 := by kernel_rfl
  i2 := by kernel_rfl
  i3 := by kernel_rfl
  i4 := by kernel_rfl
  i5 := by kernel_rfl
  i9 := by kernel_rfl
  i20 := by kernel_rfl
  i37 := by kernel_rfl
  i46 := by kernel_rfl
  i51 := by kernel_rfl
  i53 := by kernel_rfl
  i171 := by kernel_rfl
  i173 := by kernel_rfl
  i212 := by kernel_rfl
  i232 := by kernel_rfl
  i233 := by kernel_rfl
  m17 := by kernel_rfl
  m18 := by kernel_rfl
  m19 := by kernel_rfl }
open Go.RowKit Go.Sort Go.Lib in
theorem Tryz.strconv_FormatInt_10 (n : Int) (h0 : -9223372036854775808 ≤ n) (h1 : n ≤ 9223372036854775807) (w : World) (htab : Lib.TabIs Tryz.prog w "internal/strconv.uint64pow10" .u64 Lib.pow10Tab) :
    Calls Tryz.prog 62 #[.int .i64 n, .int .i64 10] w fun e w' => e = .returned (.string ⟨(Lib.itoa n).toArray⟩) ∧ ∃ k os, w' = grow (w.drewN k) os := Any.strconv_FormatInt_10 Tryz.laysM173 n h0 h1 w htab
def Tryz.lays173_ren : Go.Shelf.Ren := ⟨fun | 173 => 62 | 246 => 88 | 283 => 104 | 284 => 105 | 285 => 106 | 286 => 107 | 129 => 119 | 317 => 118 | 318 => 120 | 319 => 121 | 320 => 122 | 337 => 130 | 338 => 131 | n => n, fun | 2 => 2 | 3 => 3 | 9 => 9 | 4 => 4 | 171 => 145 | 0 => 0 | 53 => 121 | 37 => 40 | 5 => 5 | 173 => 148 | 212 => 177 | 51 => 153 | 20 => 20 | 213 => 178 | 46 => 180 | 232 => 209 | 233 => 210 | n => n, fun | 17 => 2 | 18 => 3 | 19 => 4 | n => n⟩
theorem Tryz.lays173 : Go.Proofs.Lays.n173 Tryz.prog Tryz.lays173_ren := {
  mixed := by kernel_rfl
  f129 := Tryz.func119.trans (congrArg some (by kernel_rfl))
  f173 := Tryz.func62.trans (congrArg some (by kernel_rfl))
  f246 := Tryz.func88.trans (congrArg some (by kernel_rfl))
  f283 := Tryz.func104.trans (congrArg some (by kernel_rfl))
  f284 := Tryz.func105.trans (congrArg some (by kernel_rfl))
  f285 := Tryz.func106.trans (congrArg some (by kernel_rfl))
  f286 := Tryz.func107.trans (congrArg some (by kernel_rfl))
  f317 := Tryz.func118.trans (congrArg some (by kernel_rfl))
  f318 := Tryz.func120.trans (congrArg some (by kernel_rfl))
  f319 := Tryz.func121.trans (congrArg some (by kernel_rfl))
  f320 := Tryz.func122.trans (congrArg some (by kernel_rfl))
  f337 := Tryz.func130.trans (congrArg some (by kernel_rfl))
  f338 := Tryz.func131.trans (congrArg some (by kernel_rfl))
  t0 := Tryz.underlying0
  a0 := Tryz.isAgg0
  z0 := Tryz.sizeOf0
  v0 := Tryz.zeroValue0
  t2 := Tryz.underlying2
  a2 := Tryz.isAgg2
  z2 := Tryz.sizeOf2
  v2 := Tryz.zeroValue2
  t3 := Tryz.underlying3
  a3 := Tryz.isAgg3
  z3 := Tryz.sizeOf3
  v3 := Tryz.zeroValue3
  t4 := Tryz.underlying4
  a4 := Tryz.isAgg4
  z4 := Tryz.sizeOf4
  v4 := Tryz.zeroValue4
  t5 := Tryz.underlying5
  a5 := Tryz.isAgg5
  z5 := Tryz.sizeOf5
  v5 := Tryz.zeroValue5
  t9 := Tryz.underlying9
  a9 := Tryz.isAgg9
  z9 := Tryz.sizeOf9
  v9 := Tryz.zeroValue9
  t20 := Tryz.underlying20
  a20 := Tryz.isAgg20
  z20 := Tryz.sizeOf20
  v20 := Tryz.zeroValue20
  t37 := Tryz.underlying40
  a37 := Tryz.isAgg40
  z37 := Tryz.sizeOf40
  v37 := Tryz.zeroValue40
  t46 := Tryz.underlying180
  a46 := Tryz.isAgg180
  z46 := Tryz.sizeOf180
  v46 := Tryz.zeroValue180
  t51 := Tryz.underlying153
  a51 := Tryz.isAgg153
  z51 := Tryz.sizeOf153
  v51 := Tryz.zeroValue153
  t53 := Tryz.underlying121
  a53 := Tryz.isAgg121
  z53 := Tryz.sizeOf121
  v53 := Tryz.zeroValue121
  t171 := Tryz.underlying145
  a171 := Tryz.isAgg145
  z171 := Tryz.sizeOf145
  v171 := Tryz.zeroValue145
  t173 := Tryz.underlying148
  a173 := Tryz.isAgg148
  z173 := Tryz.sizeOf148
  v173 := Tryz.zeroValue148
  t212 := Tryz.underlying177
  a212 := Tryz.isAgg177
  z212 := Tryz.sizeOf177
  v212 := Tryz.zeroValue177
  t213 := Tryz.underlying178
  a213 := Tryz.isAgg178
  z213 := Tryz.sizeOf178
  t232 := Tryz.underlying209
  a232 := Tryz.isAgg209
  z232 := Tryz.sizeOf209
  v232 := Tryz.zeroValue209
  t233 := Tryz.underlying210
  a233 := Tryz.isAgg210
  z233 := Tryz.sizeOf210
  v233 := Tryz.zeroValue210
  g17 := by kernel_rfl
  g18 := by kernel_rfl
  g19 := by kernel_rfl }
open Go.RowKit Go.Sort Go.Lib in
theorem Tryz.strconv_FormatInt_10_small (i : Nat) (hi : i < 100) (w : World) :
    Calls Tryz.prog 62 #[.int .i64 i, .int .i64 10] w fun e w' => e = .returned (.string ⟨(Lib.decDigits i).toArray⟩) ∧ w' = w := Any.strconv_FormatInt_10_small Tryz.lays173 i hi w
def Tryz.lays217_ren : Go.Shelf.Ren := ⟨fun | 217 => 93 | 266 => 110 | n => n, fun | 9 => 9 | 5 => 5 | 3 => 3 | n => n, fun | n => n⟩
theorem Tryz.lays217 : Go.Proofs.Lays.n217 Tryz.prog Tryz.lays217_ren := {
  mixed := by kernel_rfl
  f217 := Tryz.func93.trans (congrArg some (by kernel_rfl))
  f266 := Tryz.func110.trans (congrArg some (by kernel_rfl))
  t3 := Tryz.underlying3
  a3 := Tryz.isAgg3
  z3 := Tryz.sizeOf3
  v3 := Tryz.zeroValue3
  t5 := Tryz.underlying5
  a5 := Tryz.isAgg5
  z5 := Tryz.sizeOf5
  v5 := Tryz.zeroValue5
  t9 := Tryz.underlying9
  a9 := Tryz.isAgg9
  z9 := Tryz.sizeOf9
  v9 := Tryz.zeroValue9 }
open Go.RowKit Go.Lib in
theorem Tryz.stringslite_IndexByte (s : ByteArray) (c : Int) (w : World) :
    Calls Tryz.prog 93 #[.string s, .int .u8 c] w fun e w' => e = .returned (.int .i64 (Lib.indexByte s.data.toList c.toNat.toUInt8)) ∧ w' = w := Any.stringslite_IndexByte Tryz.lays217 s c w
def Tryz.lays224_ren : Go.Shelf.Ren := ⟨fun | 224 => 212 | n => n, fun | 3 => 3 | n => n, fun | n => n⟩
theorem Tryz.lays224 : Go.Proofs.Lays.n224 Tryz.prog Tryz.lays224_ren := {
  mixed := by kernel_rfl
  f224 := Tryz.func212.trans (congrArg some (by kernel_rfl))
  t3 := Tryz.underlying3
  a3 := Tryz.isAgg3
  z3 := Tryz.sizeOf3
  v3 := Tryz.zeroValue3 }
open Go.RowKit Go.Lib in
theorem Tryz.bytealg_Cutover (n : Int) (h0 : 0 ≤ n) (h1 : n < 4611686018427387904) (w : World) :
    Calls Tryz.prog 212 #[.int .i64 n] w fun e w' => e = .returned (.int .i64 ((n + 16) / 8)) ∧ w' = w := Any.bytealg_Cutover Tryz.lays224 n h0 h1 w
def Tryz.lays314_ren : Go.Shelf.Ren := ⟨fun | 314 => 214 | n => n, fun | 9 => 9 | 51 => 153 | 3 => 3 | 4 => 4 | 5 => 5 | 46 => 180 | n => n, fun | n => n⟩
theorem Tryz.lays314 : Go.Proofs.Lays.n314 Tryz.prog Tryz.lays314_ren := {
  mixed := by kernel_rfl
  f314 := Tryz.func214.trans (congrArg some (by kernel_rfl))
  t3 := Tryz.underlying3
  a3 := Tryz.isAgg3
  z3 := Tryz.sizeOf3
  v3 := Tryz.zeroValue3
  t4 := Tryz.underlying4
  a4 := Tryz.isAgg4
  z4 := Tryz.sizeOf4
  v4 := Tryz.zeroValue4
  t5 := Tryz.underlying5
  a5 := Tryz.isAgg5
  z5 := Tryz.sizeOf5
  v5 := Tryz.zeroValue5
  t9 := Tryz.underlying9
  a9 := Tryz.isAgg9
  z9 := Tryz.sizeOf9
  v9 := Tryz.zeroValue9
  t46 := Tryz.underlying180
  a46 := Tryz.isAgg180
  z46 := Tryz.sizeOf180
  v46 := Tryz.zeroValue180
  t51 := Tryz.underlying153
  a51 := Tryz.isAgg153
  z51 := Tryz.sizeOf153
  v51 := Tryz.zeroValue153 }
open Go.RowKit Go.Lib in
theorem Tryz.bytealg_hashStr (sep : ByteArray) (hs : sep.size < 4294967281) (w : World) :
    Calls Tryz.prog 214 #[.string sep] w fun e w' => e = .returned (.tuple #[.int .u32 (RK.H sep.data.toList % 4294967296), .int .u32 (16777619 ^ sep.size % 4294967296)]) ∧ w' = w := Any.bytealg_hashStr Tryz.lays314 sep hs w
def Tryz.lays267_ren : Go.Shelf.Ren := ⟨fun | 267 => 213 | 314 => 214 | n => n, fun | 9 => 9 | 3 => 3 | 146 => 268 | 51 => 153 | 4 => 4 | 5 => 5 | 46 => 180 | n => n, fun | n => n⟩
theorem Tryz.lays267 : Go.Proofs.Lays.n267 Tryz.prog Tryz.lays267_ren := {
  mixed := by kernel_rfl
  f267 := Tryz.func213.trans (congrArg some (by kernel_rfl))
  f314 := Tryz.func214.trans (congrArg some (by kernel_rfl))
  t3 := Tryz.underlying3
  a3 := Tryz.isAgg3
  z3 := Tryz.sizeOf3
  v3 := Tryz.zeroValue3
  t4 := Tryz.underlying4
  a4 := Tryz.isAgg4
  z4 := Tryz.sizeOf4
  v4 := Tryz.zeroValue4
  t5 := Tryz.underlying5
  a5 := Tryz.isAgg5
  z5 := Tryz.sizeOf5
  v5 := Tryz.zeroValue5
  t9 := Tryz.underlying9
  a9 := Tryz.isAgg9
  z9 := Tryz.sizeOf9
  v9 := Tryz.zeroValue9
  t46 := Tryz.underlying180
  a46 := Tryz.isAgg180
  z46 := Tryz.sizeOf180
  v46 := Tryz.zeroValue180
  t51 := Tryz.underlying153
  a51 := Tryz.isAgg153
  z51 := Tryz.sizeOf153
  v51 := Tryz.zeroValue153
  t146 := Tryz.underlying268
  a146 := Tryz.isAgg268
  z146 := Tryz.sizeOf268
  v146 := Tryz.zeroValue268 }
open Go.RowKit Go.Lib in
theorem Tryz.bytealg_IndexRabinKarp (s sep : ByteArray) (h1 : 1 ≤ sep.size) (h2 : sep.size ≤ s.size) (hs : s.size < 4294967281) (w : World) :
    Calls Tryz.prog 213 #[.string s, .string sep] w fun e w' => e = .returned (.int .i64 (Lib.index s.data.toList sep.data.toList)) ∧ w' = w := Any.bytealg_IndexRabinKarp Tryz.lays267 s sep h1 h2 hs w
def Tryz.lays219_ren : Go.Shelf.Ren := ⟨fun | 219 => 210 | 217 => 93 | 225 => 211 | 224 => 212 | 267 => 213 | 266 => 110 | 314 => 214 | n => n, fun | 9 => 9 | 3 => 3 | 4 => 4 | 5 => 5 | 46 => 180 | 146 => 268 | 51 => 153 | n => n, fun | 1 => 1 | n => n⟩
theorem Tryz.lays219 : Go.Proofs.Lays.n219 Tryz.prog Tryz.lays219_ren := {
  mixed := by kernel_rfl
  f217 := Tryz.func93.trans (congrArg some (by kernel_rfl))
  f219 := Tryz.func210.trans (congrArg some (by kernel_rfl))
  f224 := Tryz.func212.trans (congrArg some (by kernel_rfl))
  f225 := Tryz.func211.trans (congrArg some (by kernel_rfl))
  f266 := Tryz.func110.trans (congrArg some (by kernel_rfl))
  f267 := Tryz.func213.trans (congrArg some (by kernel_rfl))
  f314 := Tryz.func214.trans (congrArg some (by kernel_rfl))
  t3 := Tryz.underlying3
  a3 := Tryz.isAgg3
  z3 := Tryz.sizeOf3
  v3 := Tryz.zeroValue3
  t4 := Tryz.underlying4
  a4 := Tryz.isAgg4
  z4 := Tryz.sizeOf4
  v4 := Tryz.zeroValue4
  t5 := Tryz.underlying5
  a5 := Tryz.isAgg5
  z5 := Tryz.sizeOf5
  v5 := Tryz.zeroValue5
  t9 := Tryz.underlying9
  a9 := Tryz.isAgg9
  z9 := Tryz.sizeOf9
  v9 := Tryz.zeroValue9
  t46 := Tryz.underlying180
  a46 := Tryz.isAgg180
  z46 := Tryz.sizeOf180
  v46 := Tryz.zeroValue180
  t51 := Tryz.underlying153
  a51 := Tryz.isAgg153
  z51 := Tryz.sizeOf153
  v51 := Tryz.zeroValue153
  t146 := Tryz.underlying268
  a146 := Tryz.isAgg268
  z146 := Tryz.sizeOf268
  v146 := Tryz.zeroValue268
  g1 := by kernel_rfl }
open Go.RowKit Go.Lib in
theorem Tryz.stringslite_Index_one (s : ByteArray) (c : UInt8) (w : World) :
    Calls Tryz.prog 210 #[.string s, .string ⟨#[c]⟩] w fun e w' => e = .returned (.int .i64 (Lib.indexByte s.data.toList c)) ∧ w' = w := Any.stringslite_Index_one Tryz.lays219 s c w
open Go.RowKit Go.Lib in
theorem Tryz.stringslite_Index (s sub : ByteArray) (m : Int) (w : World) (hs : s.size < 4294967281) (hm : w.cell? ⟨1, 0, none⟩ = some (.int .i64 m)) :
    Calls Tryz.prog 210 #[.string s, .string sub] w fun e w' => e = .returned (.int .i64 (Lib.index s.data.toList sub.data.toList)) ∧ w' = w := Any.stringslite_Index Tryz.lays219 s sub m w hs hm
def Tryz.lays143_ren : Go.Shelf.Ren := ⟨fun | 143 => 209 | 219 => 210 | 217 => 93 | 225 => 211 | 224 => 212 | 267 => 213 | 266 => 110 | 314 => 214 | n => n, fun | 9 => 9 | 3 => 3 | 4 => 4 | 5 => 5 | 46 => 180 | 146 => 268 | 51 => 153 | n => n, fun | 1 => 1 | n => n⟩
theorem Tryz.lays143 : Go.Proofs.Lays.n143 Tryz.prog Tryz.lays143_ren := {
  mixed := by kernel_rfl
  f143 := Tryz.func209.trans (congrArg some (by kernel_rfl))
  f217 := Tryz.func93.trans (congrArg some (by kernel_rfl))
  f219 := Tryz.func210.trans (congrArg some (by kernel_rfl))
  f224 := Tryz.func212.trans (congrArg some (by kernel_rfl))
  f225 := Tryz.func211.trans (congrArg some (by kernel_rfl))
  f266 := Tryz.func110.trans (congrArg some (by kernel_rfl))
  f267 := Tryz.func213.trans (congrArg some (by kernel_rfl))
  f314 := Tryz.func214.trans (congrArg some (by kernel_rfl))
  t3 := Tryz.underlying3
  a3 := Tryz.isAgg3
  z3 := Tryz.sizeOf3
  v3 := Tryz.zeroValue3
  t4 := Tryz.underlying4
  a4 := Tryz.isAgg4
  z4 := Tryz.sizeOf4
  v4 := Tryz.zeroValue4
  t5 := Tryz.underlying5
  a5 := Tryz.isAgg5
  z5 := Tryz.sizeOf5
  v5 := Tryz.zeroValue5
  t9 := Tryz.underlying9
  a9 := Tryz.isAgg9
  z9 := Tryz.sizeOf9
  v9 := Tryz.zeroValue9
  t46 := Tryz.underlying180
  a46 := Tryz.isAgg180
  z46 := Tryz.sizeOf180
  v46 := Tryz.zeroValue180
  t51 := Tryz.underlying153
  a51 := Tryz.isAgg153
  z51 := Tryz.sizeOf153
  v51 := Tryz.zeroValue153
  t146 := Tryz.underlying268
  a146 := Tryz.isAgg268
  z146 := Tryz.sizeOf268
  v146 := Tryz.zeroValue268
  g1 := by kernel_rfl }
open Go.RowKit Go.Lib in
theorem Tryz.strings_Index_one (s : ByteArray) (c : UInt8) (w : World) :
    Calls Tryz.prog 209 #[.string s, .string ⟨#[c]⟩] w fun e w' => e = .returned (.int .i64 (Lib.indexByte s.data.toList c)) ∧ w' = w := Any.strings_Index_one Tryz.lays143 s c w
open Go.RowKit Go.Lib in
theorem Tryz.strings_Index (s sub : ByteArray) (m : Int) (w : World) (hs : s.size < 4294967281) (hm : w.cell? ⟨1, 0, none⟩ = some (.int .i64 m)) :
    Calls Tryz.prog 209 #[.string s, .string sub] w fun e w' => e = .returned (.int .i64 (Lib.index s.data.toList sub.data.toList)) ∧ w' = w := Any.strings_Index Tryz.lays143 s sub m w hs hm
def Tryz.lays138_ren : Go.Shelf.Ren := ⟨fun | 138 => 206 | 195 => 207 | 218 => 208 | 143 => 209 | 219 => 210 | 217 => 93 | 225 => 211 | 224 => 212 | 267 => 213 | 266 => 110 | 314 => 214 | n => n, fun | 9 => 9 | 3 => 3 | 4 => 4 | 5 => 5 | 0 => 0 | 46 => 180 | 146 => 268 | 51 => 153 | n => n, fun | 1 => 1 | n => n⟩
theorem Tryz.lays138 : Go.Proofs.Lays.n138 Tryz.prog Tryz.lays138_ren := {
  mixed := by kernel_rfl
  f138 := Tryz.func206.trans (congrArg some (by kernel_rfl))
  f143 := Tryz.func209.trans (congrArg some (by kernel_rfl))
  f195 := Tryz.func207.trans (congrArg some (by kernel_rfl))
  f217 := Tryz.func93.trans (congrArg some (by kernel_rfl))
  f218 := Tryz.func208.trans (congrArg some (by kernel_rfl))
  f219 := Tryz.func210.trans (congrArg some (by kernel_rfl))
  f224 := Tryz.func212.trans (congrArg some (by kernel_rfl))
  f225 := Tryz.func211.trans (congrArg some (by kernel_rfl))
  f266 := Tryz.func110.trans (congrArg some (by kernel_rfl))
  f267 := Tryz.func213.trans (congrArg some (by kernel_rfl))
  f314 := Tryz.func214.trans (congrArg some (by kernel_rfl))
  t0 := Tryz.underlying0
  a0 := Tryz.isAgg0
  z0 := Tryz.sizeOf0
  v0 := Tryz.zeroValue0
  t3 := Tryz.underlying3
  a3 := Tryz.isAgg3
  z3 := Tryz.sizeOf3
  v3 := Tryz.zeroValue3
  t4 := Tryz.underlying4
  a4 := Tryz.isAgg4
  z4 := Tryz.sizeOf4
  v4 := Tryz.zeroValue4
  t5 := Tryz.underlying5
  a5 := Tryz.isAgg5
  z5 := Tryz.sizeOf5
  v5 := Tryz.zeroValue5
  t9 := Tryz.underlying9
  a9 := Tryz.isAgg9
  z9 := Tryz.sizeOf9
  v9 := Tryz.zeroValue9
  t46 := Tryz.underlying180
  a46 := Tryz.isAgg180
  z46 := Tryz.sizeOf180
  v46 := Tryz.zeroValue180
  t51 := Tryz.underlying153
  a51 := Tryz.isAgg153
  z51 := Tryz.sizeOf153
  v51 := Tryz.zeroValue153
  t146 := Tryz.underlying268
  a146 := Tryz.isAgg268
  z146 := Tryz.sizeOf268
  v146 := Tryz.zeroValue268
  g1 := by kernel_rfl }
open Go.RowKit Go.Lib in
theorem Tryz.strings_Count_one (s : ByteArray) (c : UInt8) (w : World) :
    Calls Tryz.prog 206 #[.string s, .string ⟨#[c]⟩] w fun e w' => e = .returned (.int .i64 (Lib.countByte s.data.toList c)) ∧ w' = w := Any.strings_Count_one Tryz.lays138 s c w
open Go.RowKit Go.Lib in
theorem Tryz.strings_Count (s sub : ByteArray) (m : Int) (w : World) (hs : s.size < 4294967281) (hm : w.cell? ⟨1, 0, none⟩ = some (.int .i64 m)) (h2 : 2 ≤ sub.size) :
    Calls Tryz.prog 206 #[.string s, .string sub] w fun e w' => e = .returned (.int .i64 (Lib.countB s sub)) ∧ w' = w := Any.strings_Count Tryz.lays138 s sub m w hs hm h2
def Tryz.laysM219_ren : Go.Shelf.Ren := ⟨fun | 219 => 210 | 217 => 93 | 225 => 211 | 224 => 212 | 267 => 213 | 266 => 110 | 314 => 214 | n => n, fun | 9 => 9 | 3 => 3 | 4 => 4 | 5 => 5 | 46 => 180 | 146 => 268 | 51 => 153 | n => n, fun | 1 => 1 | n => n⟩
theorem Tryz.laysM219 : Go.Proofs.LaysM.n219 Tryz.prog Tryz.laysM219_ren := {
  mixed := by kernel_rfl
  f217 := Tryz.func93.trans (congrArg some (by kernel_rfl))
  f219 := Tryz.func210.trans (congrArg some (by kernel_rfl))
  f224 := Tryz.func212.trans (congrArg some (by kernel_rfl))
  f225 := Tryz.func211.trans (congrArg some (by kernel_rfl))
  f266 := Tryz.func110.trans (congrArg some (by kernel_rfl))
  f267 := Tryz.func213.trans (congrArg some (by kernel_rfl))
  f314 := Tryz.func214.trans (congrArg some (by kernel_rfl))
  t3 := Tryz.underlying3
  a3 := Tryz.isAgg3
  z3 := Tryz.sizeOf3
  v3 := Tryz.zeroValue3
  t4 := Tryz.underlying4
  a4 := Tryz.isAgg4
  z4 := Tryz.sizeOf4
  v4 := Tryz.zeroValue4
  t5 := Tryz.underlying5
  a5 := Tryz.isAgg5
  z5 := Tryz.sizeOf5
  v5 := Tryz.zeroValue5
  t9 := Tryz.underlying9
  a9 := Tryz.isAgg9
  z9 := Tryz.sizeOf9
  v9 := Tryz.zeroValue9
  t46 := Tryz.underlying180
  a46 := Tryz.isAgg180
  z46 := Tryz.sizeOf180
  v46 := Tryz.zeroValue180
  t51 := Tryz.underlying153
  a51 := Tryz.isAgg153
  z51 := Tryz.sizeOf153
  v51 := Tryz.zeroValue153
  t146 := Tryz.underlying268
  a146 := Tryz.isAgg268
  z146 := Tryz.sizeOf268
  v146 := Tryz.zeroValue268
  g1 := by kernel_rfl
  i3 := by kernel_rfl
  i4 := by kernel_rfl
  i5 := by kernel_rfl
  i9 := by kernel_rfl
  i46 := by kernel_rfl
  i51 := by kernel_rfl
  i146 := by kernel_rfl
  m1 := by kernel_rfl
  s1_3 := fun w h => Go.Proofs.cell_of_shapedOpen_int (zero := #[.int .i64 0]) (t := 3) h (of_decide_eq_true (by kernel_rfl)) (by kernel_rfl) rfl (by kernel_rfl) (by kernel_rfl) Tryz.underlying3 }
open Go.RowKit Go.Lib in
theorem Tryz.stringslite_Index_shaped (s sub : ByteArray) (w : World) (h : w.ShapedOpen Tryz.prog) (hs : s.size < 4294967281) :
    Calls Tryz.prog 210 #[.string s, .string sub] w fun e w' => e = .returned (.int .i64 (Lib.index s.data.toList sub.data.toList)) ∧ w' = w := Any.stringslite_Index_shaped Tryz.laysM219 s sub w h hs
def Tryz.laysM143_ren : Go.Shelf.Ren := ⟨fun | 143 => 209 | 219 => 210 | 217 => 93 | 225 => 211 | 224 => 212 | 267 => 213 | 266 => 110 | 314 => 214 | n => n, fun | 9 => 9 | 3 => 3 | 4 => 4 | 5 => 5 | 46 => 180 | 146 => 268 | 51 => 153 | n => n, fun | 1 => 1 | n => n⟩
theorem Tryz.laysM143 : Go.Proofs.LaysM.n143 Tryz.prog Tryz.laysM143_ren := {
  mixed := by kernel_rfl
  f143 := Tryz.func209.trans (congrArg some (by kernel_rfl))
  f217 := Tryz.func93.trans (congrArg some (by kernel_rfl))
  f219 := Tryz.func210.trans (congrArg some (by kernel_rfl))
  f224 := Tryz.func212.trans (congrArg some (by kernel_rfl))
  f225 := Tryz.func211.trans (congrArg some (by kernel_rfl))
  f266 := Tryz.func110.trans (congrArg some (by kernel_rfl))
  f267 := Tryz.func213.trans (congrArg some (by kernel_rfl))
  f314 := Tryz.func214.trans (congrArg some (by kernel_rfl))
  t3 := Tryz.underlying3
  a3 := Tryz.isAgg3
  z3 := Tryz.sizeOf3
  v3 := Tryz.zeroValue3
  t4 := Tryz.underlying4
  a4 := Tryz.isAgg4
  z4 := Tryz.sizeOf4
  v4 := Tryz.zeroValue4
  t5 := Tryz.underlying5
  a5 := Tryz.isAgg5
  z5 := Tryz.sizeOf5
  v5 := Tryz.zeroValue5
  t9 := Tryz.underlying9
  a9 := Tryz.isAgg9
  z9 := Tryz.sizeOf9
  v9 := Tryz.zeroValue9
  t46 := Tryz.underlying180
  a46 := Tryz.isAgg180
  z46 := Tryz.sizeOf180
  v46 := Tryz.zeroValue180
  t51 := Tryz.underlying153
  a51 := Tryz.isAgg153
  z51 := Tryz.sizeOf153
  v51 := Tryz.zeroValue153
  t146 := Tryz.underlying268
  a146 := Tryz.isAgg268
  z146 := Tryz.sizeOf268
  v146 := Tryz.zeroValue268
  g1 := by kernel_rfl
  i3 := by kernel_rfl
  i4 := by kernel_rfl
  i5 := by kernel_rfl
  i9 := by kernel_rfl
  i46 := by kernel_rfl
  i51 := by kernel_rfl
  i146 := by kernel_rfl
  m1 := by kernel_rfl
  s1_3 := fun w h => Go.Proofs.cell_of_shapedOpen_int (zero := #[.int .i64 0]) (t := 3) h (of_decide_eq_true (by kernel_rfl)) (by kernel_rfl) rfl (by kernel_rfl) (by kernel_rfl) Tryz.underlying3 }
open Go.RowKit Go.Lib in
theorem Tryz.strings_Index_shaped (s sub : ByteArray) (w : World) (h : w.ShapedOpen Tryz.prog) (hs : s.size < 4294967281) :
    Calls Tryz.prog 209 #[.string s, .string sub] w fun e w' => e = .returned (.int .i64 (Lib.index s.data.toList sub.data.toList)) ∧ w' = w := Any.strings_Index_shaped Tryz.laysM143 s sub w h hs
def Tryz.laysM138_ren : Go.Shelf.Ren := ⟨fun | 138 => 206 | 195 => 207 | 218 => 208 | 143 => 209 | 219 => 210 | 217 => 93 | 225 => 211 | 224 => 212 | 267 => 213 | 266 => 110 | 314 => 214 | n => n, fun | 9 => 9 | 3 => 3 | 4 => 4 | 5 => 5 | 0 => 0 | 46 => 180 | 146 => 268 | 51 => 153 | n => n, fun | 1 => 1 | n => n⟩
theorem Tryz.laysM138 : Go.Proofs.LaysM.n138 Tryz.prog Tryz.laysM138_ren := {
  mixed := by kernel_rfl
  f138 := Tryz.func206.trans (congrArg some (by kernel_rfl))
  f143 := Tryz.func209.trans (congrArg some (by kernel_rfl))
  f195 := Tryz.func207.trans (congrArg some (by kernel_rfl))
  f217 := Tryz.func93.trans (congrArg some (by kernel_rfl))
  f218 := Tryz.func208.trans (congrArg some (by kernel_rfl))
  f219 := Tryz.func210.trans (congrArg some (by kernel_rfl))
  f224 := Tryz.func212.trans (congrArg some (by kernel_rfl))
  f225 := Tryz.func211.trans (congrArg some (by kernel_rfl))
  f266 := Tryz.func110.trans (congrArg some (by kernel_rfl))
  f267 := Tryz.func213.trans (congrArg some (by kernel_rfl))
  f314 := Tryz.func214.trans (congrArg some (by kernel_rfl))
  t0 := Tryz.underlying0
  a0 := Tryz.isAgg0
  z0 := Tryz.sizeOf0
  v0 := Tryz.zeroValue0
  t3 := Tryz.underlying3
  a3 := Tryz.isAgg3
  z3 := Tryz.sizeOf3
  v3 := Tryz.zeroValue3
  t4 := Tryz.underlying4
  a4 := Tryz.isAgg4
  z4 := Tryz.sizeOf4
  v4 := Tryz.zeroValue4
  t5 := Tryz.underlying5
  a5 := Tryz.isAgg5
  z5 := Tryz.sizeOf5
  v5 := Tryz.zeroValue5
  t9 := Tryz.underlying9
  a9 := Tryz.isAgg9
  z9 := Tryz.sizeOf9
  v9 := Tryz.zeroValue9
  t46 := Tryz.underlying180
  a46 := Tryz.isAgg180
  z46 := Tryz.sizeOf180
  v46 := Tryz.zeroValue180
  t51 := Tryz.underlying153
  a51 := Tryz.isAgg153
  z51 := Tryz.sizeOf153
  v51 := Tryz.zeroValue153
  t146 := Tryz.underlying268
  a146 := Tryz.isAgg268
  z146 := Tryz.sizeOf268
  v146 := Tryz.zeroValue268
  g1 := by kernel_rfl
  i0 := by kernel_rfl
  i3 := by kernel_rfl
  i4 := by kernel_rfl
  i5 := by kernel_rfl
  i9 := by kernel_rfl
  i46 := by kernel_rfl
  i51 := by kernel_rfl
  i146 := by kernel_rfl
  m1 := by kernel_rfl
  s1_3 := fun w h => Go.Proofs.cell_of_shapedOpen_int (zero := #[.int .i64 0]) (t := 3) h (of_decide_eq_true (by kernel_rfl)) (by kernel_rfl) rfl (by kernel_rfl) (by kernel_rfl) Tryz.underlying3 }
open Go.RowKit Go.Lib in
theorem Tryz.strings_Count_shaped (s sub : ByteArray) (w : World) (h : w.ShapedOpen Tryz.prog) (hs : s.size < 4294967281) (h2 : 2 ≤ sub.size) :
    Calls Tryz.prog 206 #[.string s, .string sub] w fun e w' => e = .returned (.int .i64 (Lib.countB s sub)) ∧ w' = w := Any.strings_Count_shaped Tryz.laysM138 s sub w h hs h2
open Go.RowKit Go.Lib in
theorem Tryz.strings_Count_any (s sep : ByteArray) (m : Int) (w : World) (hs : s.size < 4294967281) (hm : w.cell? ⟨1, 0, none⟩ = some (.int .i64 m)) (h1 : 1 ≤ sep.size) :
    Calls Tryz.prog 206 #[.string s, .string sep] w fun e w' => e = .returned (.int .i64 (Lib.countB s sep)) ∧ w' = w := Any.strings_Count_any Tryz.lays138 s sep m w hs hm h1
open Go.RowKit Go.Lib in
theorem Tryz.utf8_RuneCountInString_ascii (s : ByteArray) (w : World) (hs : s.size < 4294967281) (hascii : ∀ (j : Nat) b, s.data.toList[j]? = some b → b.toNat < 128) :
    Calls Tryz.prog 207 #[.string s] w fun e w' => e = .returned (.int .i64 s.size) ∧ w' = w.iter s s.size := Any.utf8_RuneCountInString_ascii Tryz.lays195 s w hs hascii
def Tryz.lays108_ren : Go.Shelf.Ren := ⟨fun | 108 => 58 | n => n, fun | 28 => 35 | 3 => 3 | 0 => 0 | 4 => 4 | n => n, fun | n => n⟩
theorem Tryz.lays108 : Go.Proofs.Lays.n108 Tryz.prog Tryz.lays108_ren := {
  mixed := by kernel_rfl
  f108 := Tryz.func58.trans (congrArg some (by kernel_rfl))
  t0 := Tryz.underlying0
  a0 := Tryz.isAgg0
  z0 := Tryz.sizeOf0
  v0 := Tryz.zeroValue0
  t3 := Tryz.underlying3
  a3 := Tryz.isAgg3
  z3 := Tryz.sizeOf3
  v3 := Tryz.zeroValue3
  t4 := Tryz.underlying4
  a4 := Tryz.isAgg4
  z4 := Tryz.sizeOf4
  v4 := Tryz.zeroValue4
  t28 := Tryz.underlying35
  a28 := Tryz.isAgg35
  z28 := Tryz.sizeOf35
  v28 := Tryz.zeroValue35 }
open Go.Lib in
theorem Tryz.slices_Index_int (b off n c : Nat) (zs : List Int) (x : Int) (w : World) (hz : n ≤ zs.length) (hbig : n ≤ 9223372036854775807) (hc : ∀ j, j < zs.length → w.cell? ⟨b, off + j, none⟩ = some (.int .i64 (zs.getD j 0))) :
    Calls Tryz.prog 58 #[.slice (some ⟨b, off, none⟩) n c, .int .i64 x] w fun e w' => e = .returned (.int .i64 (Lib.idxOf (zs.take n) x)) ∧ w' = w := Any.slices_Index_int Tryz.lays108 b off n c zs x w hz hbig hc
open Go.Lib in
theorem Tryz.slices_Index_int_empty (a : Option Addr) (c : Nat) (x : Int) (w : World) :
    Calls Tryz.prog 58 #[.slice a 0 c, .int .i64 x] w fun e w' => e = .returned (.int .i64 (Lib.idxOf [] x)) ∧ w' = w := Any.slices_Index_int_empty Tryz.lays108 a c x w
def Tryz.lays107_ren : Go.Shelf.Ren := ⟨fun | 107 => 38 | 108 => 58 | n => n, fun | 28 => 35 | 3 => 3 | 4 => 4 | 0 => 0 | n => n, fun | n => n⟩
theorem Tryz.lays107 : Go.Proofs.Lays.n107 Tryz.prog Tryz.lays107_ren := {
  mixed := by kernel_rfl
  f107 := Tryz.func38.trans (congrArg some (by kernel_rfl))
  f108 := Tryz.func58.trans (congrArg some (by kernel_rfl))
  t0 := Tryz.underlying0
  a0 := Tryz.isAgg0
  z0 := Tryz.sizeOf0
  v0 := Tryz.zeroValue0
  t3 := Tryz.underlying3
  a3 := Tryz.isAgg3
  z3 := Tryz.sizeOf3
  v3 := Tryz.zeroValue3
  t4 := Tryz.underlying4
  a4 := Tryz.isAgg4
  z4 := Tryz.sizeOf4
  v4 := Tryz.zeroValue4
  t28 := Tryz.underlying35
  a28 := Tryz.isAgg35
  z28 := Tryz.sizeOf35
  v28 := Tryz.zeroValue35 }
open Go.Lib in
theorem Tryz.slices_Contains_int (b off n c : Nat) (zs : List Int) (x : Int) (w : World) (hz : n ≤ zs.length) (hbig : n ≤ 9223372036854775807) (hc : ∀ j, j < zs.length → w.cell? ⟨b, off + j, none⟩ = some (.int .i64 (zs.getD j 0))) :
    Calls Tryz.prog 38 #[.slice (some ⟨b, off, none⟩) n c, .int .i64 x] w fun e w' => e = .returned (.bool ((zs.take n).contains x)) ∧ w' = w := Any.slices_Contains_int Tryz.lays107 b off n c zs x w hz hbig hc
open Go.Lib in
theorem Tryz.slices_Contains_int_empty (a : Option Addr) (c : Nat) (x : Int) (w : World) :
    Calls Tryz.prog 38 #[.slice a 0 c, .int .i64 x] w fun e w' => e = .returned (.bool false) ∧ w' = w := Any.slices_Contains_int_empty Tryz.lays107 a c x w
end Go.Proofs
set_option linter.unusedVariables false
namespace Go.Proofs.YtanhhihechakhaaGreatDoor
open Go.RowKit Go.Proofs.YtanhhihechakhaaGreatDoor.E
/-- The ghost holds the table of powers of ten. -/
def Tab10 (h : Hp) : Prop := ∀ w, h.Sub w → Lib.TabIs Tryz.prog w "internal/strconv.uint64pow10" .u64 Lib.pow10Tab
theorem Tab10.le {h h' : Hp} (ht : Tab10 h) (hl : h.Le h') : Tab10 h' := fun w hw => ht w fun k o hk => hw k o (hl k o hk)
theorem tab10_hp {W : World} (ht : Lib.TabIs Tryz.prog W "internal/strconv.uint64pow10" .u64 Lib.pow10Tab) : Tab10 (hpOf W) := fun w hw => by
  unfold Lib.TabIs World.var? at ht ⊢
  cases hg : Tryz.prog.globalNamed "internal/strconv.uint64pow10" with
  | none => rw [hg] at ht; cases ht
  | some g =>
    rw [hg] at ht
    simp only [Option.bind_some] at ht ⊢
    split at ht
    · rename_i cs e fr hb
      rw [hw g _ hb]
      exact ht
    · cases ht
theorem fmt_c (n : Int) (h : Hp) (h0 : -9223372036854775808 ≤ n) (h1 : n ≤ 9223372036854775807) (ht : Tab10 h) : C0 Tryz.prog 62 [.int .i64 n, .int .i64 10] h (.string ⟨(Lib.itoa n).toArray⟩) := fun w hw => by
  refine (Tryz.strconv_FormatInt_10 n h0 h1 w (ht w hw)).mono fun e w' ⟨he, k, os, hg⟩ => ⟨he, Frm.of_below ?_⟩
  rw [hg]
  exact Lib.below_grow _ w (Nat.le_refl _) k os
theorem join_c (A : Option Addr) (c : Nat) (xs : List ByteArray) (sep : ByteArray) (h : Hp) (hr : RowsAt h A 1 (xs.map fun s => [Value.string s])) (hcap : xs.length ≤ c) (hN : xs.length ≤ 140737488355328) (hlen : (Lib.join (xs.map (·.data.toList)) sep.data.toList).length ≤ 140737488355328) :
    C0 Tryz.prog 42 [.slice A xs.length c, .string sep] h (.string ⟨(Lib.join (xs.map (·.data.toList)) sep.data.toList).toArray⟩) := fun w hw => by
  cases xs with
  | nil =>
    refine (Tryz.strings_Join_none A c sep w).mono fun e w' ⟨he, hg⟩ => ⟨he, ?_⟩
    subst hg
    exact Frm.refl _ _
  | cons x r =>
    obtain ⟨b, off, rfl⟩ : ∃ b off, A = some ⟨b, off, none⟩ := by
      obtain ⟨b, off, hb, _⟩ := hr 0 _ rfl
      exact ⟨b, off, hb⟩
    have hc : ∀ (j : Nat) y, (x :: r)[j]? = some y → w.cell? ⟨b, off + j, none⟩ = some (.string y) := fun j y hj => by
      have h1 := hr.get (j := j) (c := [Value.string y]) (by rw [List.getElem?_map, hj]; rfl)
      have h2 := h1 0 _ rfl
      simp only [Nat.mul_one, Nat.add_zero] at h2
      exact hw.cell h2
    have hb : b < w.heap.size := by
      have h1 := hc 0 x rfl
      unfold World.cell? at h1
      split at h1
      · rename_i cs e fr hh
        exact (Array.getElem?_eq_some_iff.1 hh).1
      · cases h1
    exact (Tryz.strings_Join b off c (x :: r) sep w hc hb hN hcap hlen).mono fun e w' ⟨he, hg⟩ => ⟨he, Frm.of_below hg⟩
theorem contains_c (A : Option Addr) (c : Nat) (zs : List Int) (x : Int) (h : Hp) (hr : RowsAt h A 1 (zs.map fun z => [Value.int .i64 z])) (hN : zs.length ≤ 9223372036854775807) :
    C0 Tryz.prog 38 [.slice A zs.length c, .int .i64 x] h (.bool (zs.contains x)) := fun w hw => by
  cases zs with
  | nil =>
    refine (Tryz.slices_Contains_int_empty A c x w).mono fun e w' ⟨he, hg⟩ => ⟨he, ?_⟩
    subst hg
    exact Frm.refl _ _
  | cons z r =>
    obtain ⟨b, off, rfl⟩ : ∃ b off, A = some ⟨b, off, none⟩ := by
      obtain ⟨b, off, hb, _⟩ := hr 0 _ rfl
      exact ⟨b, off, hb⟩
    have hc : ∀ j, j < (z :: r).length → w.cell? ⟨b, off + j, none⟩ = some (.int .i64 ((z :: r).getD j 0)) := fun j hj => by
      have hj2 : (z :: r)[j]? = some ((z :: r)[j]'hj) := List.getElem?_eq_getElem hj
      have h1 := hr.get (j := j) (c := [Value.int .i64 ((z :: r)[j]'hj)]) (by rw [List.getElem?_map, hj2]; rfl)
      have h2 := h1 0 _ rfl
      simp only [Nat.mul_one, Nat.add_zero] at h2
      rw [List.getD_eq_getElem?_getD, hj2]
      exact hw.cell h2
    refine (Tryz.slices_Contains_int b off (z :: r).length c (z :: r) x w (Nat.le_refl _) hN hc).mono fun e w' ⟨he, hg⟩ => ⟨?_, ?_⟩
    · rw [he, List.take_length]
    · subst hg
      exact Frm.refl _ _
end Go.Proofs.YtanhhihechakhaaGreatDoor
set_option linter.unusedVariables false
set_option linter.unusedSimpArgs false
namespace Go.Proofs.YtanhhihechakhaaGreatDoor.TokP
open Go.RowKit Go.Proofs.YtanhhihechakhaaGreatDoor.E Go.Proofs.YtanhhihechakhaaGreatDoor.ReplP
def one1 (r : List UInt8) : Ans := oneC (firstC r) r
/-- a text is these tokens; b: something stands ahead of it -/
inductive Lx : Bool → List UInt8 → List Tk → Prop
  | done {b : Bool} {l : List UInt8} (h : skipN l = l.length) : Lx b l []
  | tok {b : Bool} {l r : List UInt8} {a : Ans} {ts : List Tk} (h : ¬ skipN l = l.length) (hr : r = l.drop (skipN l)) (ha : a = one1 r) (he : errA a = none) (k : Lx true (r.drop a.used) ts) : Lx b l (⟨a, decide (skipN l = 0) && b⟩ :: ts)
/-- a text may not be, at a place -/
inductive Lb : List UInt8 → Nat → ByteArray × Int → Prop
  | bad {l r : List UInt8} {x : ByteArray × Int} (h : ¬ skipN l = l.length) (hr : r = l.drop (skipN l)) (he : errA (one1 r) = some x) : Lb l (skipN l) x
  | tok {l r : List UInt8} {a : Ans} {i : Nat} {x : ByteArray × Int} (h : ¬ skipN l = l.length) (hr : r = l.drop (skipN l)) (ha : a = one1 r) (he : errA a = none) (k : Lb (r.drop a.used) i x) : Lb l (skipN l + a.used + i) x
theorem skip_lt {l : List UInt8} (h : ¬ skipN l = l.length) : skipN l < l.length := by
  have := skip_le l.length l (Nat.le_refl _)
  omega
theorem one1_used {r : List UInt8} (hr : 1 ≤ r.length) (he : errA (one1 r) = none) : 1 ≤ (one1 r).used ∧ (one1 r).used ≤ r.length := by
  cases r with
  | nil => simp at hr
  | cons c t => exact one_used (err_none he)
theorem lx_scan {l : List UInt8} : ∀ (k i : Nat) (acc : List Tk), i ≤ l.length → l.length + 1 ≤ i + k →
    (∃ ts, Lx (decide (0 < acc.length)) (l.drop i) ts ∧ scanF l k i acc = .ok (acc ++ ts)) ∨ (∃ j x, Lb (l.drop i) j x ∧ scanF l k i acc = .bad (i + j) x.1 x.2)
  | 0, i, acc, hi, hk => by omega
  | k + 1, i, acc, hi, hk => by
    by_cases h : i + skipN (l.drop i) = l.length
    · exact .inl ⟨[], .done (by rw [List.length_drop]; omega), by rw [scan_done h, List.append_nil]⟩
    · have hne : ¬ skipN (l.drop i) = (l.drop i).length := by rw [List.length_drop]; omega
      have hdd : l.drop (i + skipN (l.drop i)) = (l.drop i).drop (skipN (l.drop i)) := by rw [List.drop_drop]
      cases he : errA (oneC (firstC (l.drop (i + skipN (l.drop i)))) (l.drop (i + skipN (l.drop i)))) with
      | some x =>
        refine .inr ⟨_, x, .bad hne rfl (by rw [← hdd]; exact he), ?_⟩
        rw [scan_bad h he]
      | none =>
        have hu := scan_used hi h he
        have e1 : one1 ((l.drop i).drop (skipN (l.drop i))) = oneC (firstC (l.drop (i + skipN (l.drop i)))) (l.drop (i + skipN (l.drop i))) := by rw [← hdd]; rfl
        have hd2 : ∀ u : Nat, l.drop (i + skipN (l.drop i) + u) = ((l.drop i).drop (skipN (l.drop i))).drop u := fun u => by rw [List.drop_drop, List.drop_drop]; congr 1; omega
        rcases lx_scan k _ (acc ++ [⟨oneC (firstC (l.drop (i + skipN (l.drop i)))) (l.drop (i + skipN (l.drop i))), decide (skipN (l.drop i) = 0) && decide (0 < acc.length)⟩]) hu.2 (by omega) with ⟨ts, h1, h2⟩ | ⟨j, x, h1, h2⟩
        · refine .inl ⟨_ :: ts, .tok hne rfl e1.symm he ?_, ?_⟩
          · rw [hd2] at h1
            have hb : decide (0 < (acc ++ [(⟨oneC (firstC (l.drop (i + skipN (l.drop i)))) (l.drop (i + skipN (l.drop i))), decide (skipN (l.drop i) = 0) && decide (0 < acc.length)⟩ : Tk)]).length) = true := by simp
            rw [hb] at h1
            exact h1
          · rw [scan_more h he, h2, List.append_assoc]
            rfl
        · refine .inr ⟨_, x, .tok hne rfl e1.symm he (by rw [hd2] at h1; exact h1), ?_⟩
          rw [scan_more h he, h2]
          congr 1
          omega
theorem lx_det {b : Bool} {l : List UInt8} {ts : List Tk} (h : Lx b l ts) : ∀ {ts' : List Tk}, Lx b l ts' → ts = ts' := by
  induction h with
  | done h =>
    intro ts' h'
    cases h' with
    | done => rfl
    | tok h2 => exact absurd h h2
  | tok h hr ha he k ih =>
    intro ts' h'
    cases h' with
    | done h2 => exact absurd h2 h
    | tok h2 hr2 ha2 he2 k2 =>
      subst hr hr2 ha ha2
      rw [ih k2]
theorem lx_lb {b : Bool} {l : List UInt8} {ts : List Tk} (h : Lx b l ts) : ∀ {j : Nat} {x : ByteArray × Int}, ¬ Lb l j x := by
  induction h with
  | done h =>
    intro j x h'
    cases h' with
    | bad h2 => exact h2 h
    | tok h2 => exact h2 h
  | tok h hr ha he k ih =>
    intro j x h'
    cases h' with
    | bad h2 hr2 he2 =>
      subst hr hr2 ha
      rw [he] at he2
      cases he2
    | tok h2 hr2 ha2 he2 k2 =>
      subst hr hr2 ha ha2
      exact ih k2
theorem lb_det {l : List UInt8} {i : Nat} {x : ByteArray × Int} (h : Lb l i x) : ∀ {j : Nat} {y : ByteArray × Int}, Lb l j y → i = j ∧ x = y := by
  induction h with
  | bad h hr he =>
    intro j y h'
    cases h' with
    | bad h2 hr2 he2 =>
      subst hr hr2
      rw [he] at he2
      exact ⟨rfl, Option.some.inj he2⟩
    | tok h2 hr2 ha2 he2 k2 =>
      subst hr hr2 ha2
      rw [he] at he2
      cases he2
  | tok h hr ha he k ih =>
    intro j y h'
    cases h' with
    | bad h2 hr2 he2 =>
      subst hr hr2 ha
      rw [he] at he2
      cases he2
    | tok h2 hr2 ha2 he2 k2 =>
      subst hr hr2 ha ha2
      obtain ⟨rfl, rfl⟩ := ih k2
      exact ⟨rfl, rfl⟩
theorem scan_or {l : List UInt8} (hl : l.length ≤ 4096) : (∃ ts, Lx false l ts ∧ scanA l = .ok ts) ∨ (∃ j x, Lb l j x ∧ scanA l = .bad j x.1 x.2) := by
  have h := lx_scan (l := l) (l.length + 1) 0 [] (Nat.zero_le _) (by omega)
  unfold scanA
  rw [if_neg (by omega)]
  rcases h with ⟨ts, h1, h2⟩ | ⟨j, x, h1, h2⟩
  · exact .inl ⟨ts, h1, h2⟩
  · exact .inr ⟨j, x, h1, by rw [h2, Nat.zero_add]⟩
theorem scan_ok {l : List UInt8} (hl : l.length ≤ 4096) {ts : List Tk} (h : Lx false l ts) : scanA l = .ok ts := by
  rcases scan_or hl with ⟨ts', h1, h2⟩ | ⟨j, x, h1, _⟩
  · rw [h2, lx_det h h1]
  · exact absurd h1 (lx_lb h)
theorem scan_no {l : List UInt8} (hl : l.length ≤ 4096) {j : Nat} {x : ByteArray × Int} (h : Lb l j x) : scanA l = .bad j x.1 x.2 := by
  rcases scan_or hl with ⟨ts', h1, _⟩ | ⟨j', x', h1, h2⟩
  · exact absurd h (lx_lb h1)
  · obtain ⟨rfl, rfl⟩ := lb_det h h1
    exact h2
/-! what stands behind a line's end plays no part -/
theorem run_app {p : UInt8 → Bool} (h : p 10 = false) : ∀ (u t : List UInt8), runB p (u ++ 10 :: t) = runB p u
  | [], t => by rw [List.nil_append, runB_no h, runB_nil]
  | c :: u, t => by
    rw [List.cons_append]
    cases hc : p c with
    | true => rw [runB_yes hc, runB_yes hc, run_app h u t]
    | false => rw [runB_no hc, runB_no hc]
theorem run_same {p : UInt8 → Bool} (h : p 10 = false) (u t : List UInt8) : runB p (u ++ 10 :: t) = runB p (u ++ [10]) := by rw [run_app h, run_app h]
theorem skip_join : ∀ (n : Nat) (u : List UInt8), u.length ≤ n → (skipN (u ++ [10]) = u.length + 1 ∧ ∀ t, skipN (u ++ 10 :: t) = u.length + 1 + skipN t) ∨ (skipN (u ++ [10]) < u.length ∧ ∀ t, skipN (u ++ 10 :: t) = skipN (u ++ [10]))
  | _, [], _ => by
    have e : ∀ t, skipN (10 :: t) = 1 + skipN t := fun t => by rw [skip_cons]; rfl
    refine .inl ⟨?_, fun t => ?_⟩
    · rw [List.nil_append, e, skip_nil]; rfl
    · rw [List.nil_append, e]; simp
  | 0, _ :: _, h => by simp at h
  | n + 1, c :: u, h => by
    have hu : u.length ≤ n := by simpa using h
    have e : ∀ t, skipN ((c :: u) ++ 10 :: t) = if c = 37 then (if runB lineB u = (u ++ 10 :: t).length then (u ++ 10 :: t).length + 1 else runB lineB u + 2 + skipN ((u ++ 10 :: t).drop (runB lineB u + 1))) else if blankB c = true then 1 + skipN (u ++ 10 :: t) else 0 := fun t => by
      rw [List.cons_append, skip_cons, run_app (by rfl)]
    have hm := runB_le lineB u
    by_cases hc : c = 37
    · have hne : ∀ t : List UInt8, ¬ runB lineB u = (u ++ 10 :: t).length := fun t => by rw [List.length_append, List.length_cons]; omega
      have e2 : ∀ t, skipN ((c :: u) ++ 10 :: t) = runB lineB u + 2 + skipN ((u ++ 10 :: t).drop (runB lineB u + 1)) := fun t => by rw [e, if_pos hc, if_neg (hne t)]
      by_cases hl : runB lineB u = u.length
      · have ed : ∀ t : List UInt8, (u ++ 10 :: t).drop (runB lineB u + 1) = t := fun t => by
          rw [hl, List.drop_append, List.drop_eq_nil_of_le (by omega), List.nil_append]
          have : u.length + 1 - u.length = 1 := by omega
          rw [this]; rfl
        refine .inl ⟨?_, fun t => ?_⟩
        · rw [e2, ed, skip_nil, List.length_cons]; omega
        · rw [e2, ed, List.length_cons]; omega
      · have ed : ∀ t : List UInt8, (u ++ 10 :: t).drop (runB lineB u + 1) = u.drop (runB lineB u + 1) ++ 10 :: t := fun t => List.drop_append_of_le_length (by omega)
        have hl2 : (u.drop (runB lineB u + 1)).length = u.length - (runB lineB u + 1) := List.length_drop
        rcases skip_join n (u.drop (runB lineB u + 1)) (by omega) with ⟨h1, h2⟩ | ⟨h1, h2⟩
        · refine .inl ⟨?_, fun t => ?_⟩
          · rw [e2, ed, h1, List.length_cons]; omega
          · rw [e2, ed, h2, List.length_cons]; omega
        · refine .inr ⟨?_, fun t => ?_⟩
          · rw [e2, ed, List.length_cons]; omega
          · rw [e2, e2, ed, ed, h2]
    · cases hb : blankB c with
      | true =>
        have e2 : ∀ t, skipN ((c :: u) ++ 10 :: t) = 1 + skipN (u ++ 10 :: t) := fun t => by rw [e, if_neg hc, if_pos hb]
        rcases skip_join n u hu with ⟨h1, h2⟩ | ⟨h1, h2⟩
        · refine .inl ⟨?_, fun t => ?_⟩
          · rw [e2, h1, List.length_cons]; omega
          · rw [e2, h2, List.length_cons]; omega
        · refine .inr ⟨?_, fun t => ?_⟩
          · rw [e2, List.length_cons]; omega
          · rw [e2, e2, h2]
      | false =>
        have e2 : ∀ t, skipN ((c :: u) ++ 10 :: t) = 0 := fun t => by rw [e, if_neg hc, hb]; rfl
        exact .inr ⟨by rw [e2]; simp, fun t => by rw [e2, e2]⟩
theorem get_join (u t : List UInt8) {j : Nat} (h : j ≤ u.length) : (u ++ 10 :: t)[j]? = (u ++ [10])[j]? := by
  rcases Nat.lt_or_eq_of_le h with h1 | h1
  · rw [List.getElem?_append_left h1, List.getElem?_append_left h1]
  · subst h1
    rw [List.getElem?_append_right (Nat.le_refl _), List.getElem?_append_right (Nat.le_refl _), Nat.sub_self]
    rfl
theorem quo_join : ∀ (n : Nat) (u t out : List UInt8) (k : Nat), u.length ≤ n → quoL (u ++ 10 :: t) out k = quoL (u ++ [10]) out k ∧ ((quoL (u ++ [10]) out k).err = none → (quoL (u ++ [10]) out k).used ≤ k + u.length)
  | _, [], t, out, k, _ => by
    have e : ∀ t, quoL (10 :: t) out k = .bad q2 4 := fun t => by
      cases t with
      | nil => rw [quoL]; rfl
      | cons d t => rw [quoL]; rfl
    rw [List.nil_append, List.nil_append, e, e]
    exact ⟨rfl, fun h => by cases h⟩
  | 0, _ :: _, _, _, _, h => by simp at h
  | n + 1, [c], t, out, k, h => by
    have e : ∀ t, quoL ([c] ++ 10 :: t) out k = if c = 39 then .tok 1 ⟨out.toArray⟩ 0 true (k + 1) else if c = 92 then .bad q1 4 else if (c.toNat : Int) < 32 then .bad q2 4 else quoL (10 :: t) (out ++ [c]) (k + 1) := fun t => by
      rw [List.cons_append, List.nil_append, quoL]
      rfl
    have ih := quo_join n [] t (out ++ [c]) (k + 1) (Nat.zero_le _)
    rw [List.nil_append, List.nil_append] at ih
    rw [e, e, ih.1]
    refine ⟨rfl, ?_⟩
    split
    · intro _
      show k + 1 ≤ _
      simp
    · split
      · intro h; cases h
      · split
        · intro h; cases h
        · intro h
          have := ih.2 h
          simp only [List.length_nil, List.length_cons] at this ⊢
          omega
  | n + 1, c :: d :: u, t, out, k, h => by
    have hl : u.length + 1 ≤ n := by simpa using h
    have e : ∀ t, quoL ((c :: d :: u) ++ 10 :: t) out k = if c = 39 then (if d = 39 then quoL (u ++ 10 :: t) (out ++ [39]) (k + 2) else .tok 1 ⟨out.toArray⟩ 0 true (k + 1))
      else if c = 92 then (match esc d with | some x => quoL (u ++ 10 :: t) (out ++ [x]) (k + 2) | none => .bad q1 4)
      else if (c.toNat : Int) < 32 then .bad q2 4 else quoL ((d :: u) ++ 10 :: t) (out ++ [c]) (k + 1) := fun t => by
      rw [List.cons_append, List.cons_append, quoL]
      rfl
    have i1 := quo_join n u t (out ++ [39]) (k + 2) (by omega)
    have i2 := fun x => quo_join n u t (out ++ [x]) (k + 2) (by omega)
    have i3 := quo_join n (d :: u) t (out ++ [c]) (k + 1) (by simpa using hl)
    rw [e, e, i1.1, i3.1]
    simp only [List.length_cons] at i3 ⊢
    split
    · split
      · exact ⟨rfl, fun h => by have := i1.2 h; omega⟩
      · exact ⟨rfl, fun _ => by show k + 1 ≤ _; omega⟩
    · split
      · cases hx : esc d with
        | none => exact ⟨rfl, fun h => by cases h⟩
        | some x =>
          refine ⟨(i2 x).1, fun h => ?_⟩
          have := (i2 x).2 h
          show (quoL (u ++ [10]) (out ++ [x]) (k + 2)).used ≤ _
          omega
      · split
        · exact ⟨rfl, fun h => by cases h⟩
        · exact ⟨rfl, fun h => by have := i3.2 h; omega⟩
theorem first_join (k : Int) (u t : List UInt8) {n : Nat} (h : n ≤ u.length) : firstT k (u ++ 10 :: t) n = firstT k (u ++ [10]) n := by
  unfold firstT
  rw [List.take_append_of_le_length h, List.take_append_of_le_length h]
theorem dot_join (u t : List UInt8) {n : Nat} (h : n ≤ u.length) : dottedB (u ++ 10 :: t) n = dottedB (u ++ [10]) n := by
  unfold dottedB
  rw [get_join u t h]
  rcases Nat.lt_or_eq_of_le h with h1 | h1
  · rw [get_join u t h1]
    congr 2
    refine decide_eq_decide.2 ?_
    simp only [List.length_append, List.length_cons, List.length_nil]
    omega
  · subst h1
    have : (u ++ [10])[u.length]? = some 10 := by rw [List.getElem?_append_right (Nat.le_refl _), Nat.sub_self]; rfl
    rw [this]
    simp [dotB]
theorem num_join (u t : List UInt8) : numA (u ++ 10 :: t) = numA (u ++ [10]) ∧ ((numA (u ++ [10])).err = none → (numA (u ++ [10])).used ≤ u.length) := by
  have h1 : ∀ t, runB digitB (u ++ 10 :: t) = runB digitB u := run_app (by rfl) u
  have hl := runB_le digitB u
  have h2 : ∀ t, figs (u ++ 10 :: t) = u.take (runB digitB u) := fun t => by
    unfold figs
    rw [h1, List.take_append_of_le_length hl]
  unfold numA
  rw [h1, h1, h2, h2, dot_join u t hl]
  refine ⟨rfl, ?_⟩
  split
  · intro h; cases h
  · split
    · intro h; cases h
    · intro _; exact hl
theorem ends_join (u t : List UInt8) (hu : 1 ≤ u.length) : endsB (u ++ 10 :: t) = endsB (u ++ [10]) := by
  unfold endsB
  rw [get_join u t hu]
  cases u with
  | nil => simp at hu
  | cons c u =>
    have e1 : ∀ t : List UInt8, (((((c :: u) ++ 10 :: t).length : Nat) : Int) == 1) = false := fun t => by
      rw [beq_eq_false_iff_ne]
      simp only [List.length_append, List.length_cons]
      omega
    rw [e1, e1]
    rfl
theorem one_join (c : UInt8) (u t : List UInt8) : one1 ((c :: u) ++ 10 :: t) = one1 ((c :: u) ++ [10]) ∧ (errA (one1 ((c :: u) ++ [10])) = none → (one1 ((c :: u) ++ [10])).used ≤ (c :: u).length) := by
  have r1 := run_same (p := letterB) (by rfl) (c :: u) t
  have r2 := run_same (p := signB) (by rfl) (c :: u) t
  have l1 : runB letterB ((c :: u) ++ [10]) ≤ (c :: u).length := by rw [run_app (by rfl)]; exact runB_le _ _
  have l2 : runB signB ((c :: u) ++ [10]) ≤ (c :: u).length := by rw [run_app (by rfl)]; exact runB_le _ _
  have l3 : 1 ≤ (c :: u).length := by simp
  have nj := num_join (c :: u) t
  have ej := ends_join (c :: u) t l3
  have qj : quoA ((c :: u) ++ 10 :: t) = quoA ((c :: u) ++ [10]) ∧ ((quoA ((c :: u) ++ [10])).err = none → (quoA ((c :: u) ++ [10])).used ≤ (c :: u).length) := by
    have := quo_join u.length u t [] 1 (Nat.le_refl _)
    refine ⟨this.1, fun h => ?_⟩
    have h2 := this.2 h
    rw [List.length_cons, Nat.add_comm]
    exact h2
  refine ⟨?_, fun he => ?_⟩
  · show oneC c _ = oneC c _
    unfold oneC
    rw [r1, r2, first_join 1 _ t l1, first_join 2 _ t l1, nj.1, qj.1, first_join 4 _ t l3, first_join 1 _ t l3, first_join 5 _ t l3, first_join 1 _ t l2, ej]
  · have he := err_none he
    revert he
    show (oneC c _).err = none → (oneC c _).used ≤ _
    unfold oneC
    split
    · intro _; exact l1
    split
    · intro _; exact l1
    split
    · exact nj.2
    split
    · exact qj.2
    split
    · intro _; exact l3
    split
    · intro _; exact l3
    split
    · intro _; exact l3
    split
    · intro _; exact l2
    · intro h; cases h
/-- a text up to a line's end: what remains behind a token is again one -/
theorem cut_at {u : List UInt8} (h : skipN (u ++ [10]) < u.length) : ∃ c v, u.drop (skipN (u ++ [10])) = c :: v ∧ ∀ t, (u ++ 10 :: t).drop (skipN (u ++ [10])) = (c :: v) ++ 10 :: t := by
  cases hd : u.drop (skipN (u ++ [10])) with
  | nil =>
    have := List.drop_eq_nil_iff.1 hd
    omega
  | cons c v => exact ⟨c, v, rfl, fun t => by rw [List.drop_append_of_le_length (Nat.le_of_lt h), hd]⟩
theorem lx_join : ∀ (n : Nat) (u t : List UInt8) (b : Bool) (ts ts' : List Tk), u.length ≤ n → Lx b (u ++ [10]) ts → Lx false t ts' → Lx b (u ++ 10 :: t) (ts ++ ts')
  | n, u, t, b, ts, ts', hn, h1, h2 => by
    have hlen : ∀ t : List UInt8, (u ++ 10 :: t).length = u.length + 1 + t.length := fun t => by rw [List.length_append, List.length_cons]; omega
    rcases skip_join u.length u (Nat.le_refl _) with ⟨e1, e2⟩ | ⟨e1, e2⟩
    · cases h1 with
      | tok h => exact absurd (by rw [e1, hlen]; rfl) h
      | done h =>
        rw [List.nil_append]
        cases h2 with
        | done h3 => exact .done (by rw [e2, hlen, h3])
        | tok h3 hr ha he k =>
          have e4 : (u ++ 10 :: t).drop (skipN (u ++ 10 :: t)) = t.drop (skipN t) := by
            rw [e2, List.drop_append, List.drop_eq_nil_of_le (by omega), List.nil_append]
            have : u.length + 1 + skipN t - u.length = skipN t + 1 := by omega
            rw [this]
            rfl
          have h5 : ¬ skipN (u ++ 10 :: t) = (u ++ 10 :: t).length := by rw [e2, hlen]; omega
          have e6 : (decide (skipN t = 0) && false) = (decide (skipN (u ++ 10 :: t) = 0) && b) := by
            rw [e2, Bool.and_false, decide_eq_false (by omega), Bool.false_and]
          rw [e6]
          exact .tok h5 (by rw [e4]; exact hr) ha he k
    · obtain ⟨c, v, hv, hcut⟩ := cut_at e1
      have hlv : (c :: v).length = u.length - skipN (u ++ [10]) := by rw [← hv, List.length_drop]
      cases h1 with
      | done h => rw [hlen] at h; simp only [List.length_nil] at h; omega
      | @tok _ _ r a ts0 h hr ha he k =>
        rw [hcut []] at hr
        have oj := one_join c v t
        subst hr
        have hu : a.used ≤ (c :: v).length := by rw [ha] at he ⊢; exact oj.2 he
        have hu1 : 1 ≤ a.used := by rw [ha] at he ⊢; exact (one1_used (by simp) he).1
        have hd : ∀ t : List UInt8, ((c :: v) ++ 10 :: t).drop a.used = (c :: v).drop a.used ++ 10 :: t := fun t => List.drop_append_of_le_length hu
        rw [hd] at k
        have hlt : ((c :: v).drop a.used).length < u.length := by rw [List.length_drop]; omega
        match n, hn with
        | 0, hn => omega
        | n + 1, hn =>
          have ih := lx_join n ((c :: v).drop a.used) t true ts0 ts' (by omega) k h2
          rw [← hd] at ih
          have e6 : decide (skipN (u ++ [10]) = 0) = decide (skipN (u ++ 10 :: t) = 0) := by rw [e2 t]
          rw [List.cons_append, e6]
          refine .tok (by rw [e2, hlen]; omega) rfl ?_ he (by rw [e2, hcut t]; exact ih)
          rw [e2, hcut t, oj.1, ha]
theorem lb_join : ∀ (n : Nat) (u t : List UInt8) (j : Nat) (x : ByteArray × Int), u.length ≤ n → Lb (u ++ [10]) j x → Lb (u ++ 10 :: t) j x
  | n, u, t, j, x, hn, h1 => by
    have hlen : ∀ t : List UInt8, (u ++ 10 :: t).length = u.length + 1 + t.length := fun t => by rw [List.length_append, List.length_cons]; omega
    rcases skip_join u.length u (Nat.le_refl _) with ⟨e1, e2⟩ | ⟨e1, e2⟩
    · have : skipN (u ++ [10]) = (u ++ [10]).length := by rw [e1, hlen]; rfl
      cases h1 with
      | bad h => exact absurd this h
      | tok h => exact absurd this h
    · obtain ⟨c, v, hv, hcut⟩ := cut_at e1
      have hlv : (c :: v).length = u.length - skipN (u ++ [10]) := by rw [← hv, List.length_drop]
      have oj := one_join c v t
      have hne : ¬ skipN (u ++ 10 :: t) = (u ++ 10 :: t).length := by rw [e2, hlen]; omega
      cases h1 with
      | bad h hr he =>
        rw [hcut []] at hr
        subst hr
        rw [← e2 t]
        exact .bad hne rfl (by rw [e2, hcut t, oj.1]; exact he)
      | @tok _ r a j0 _ h hr ha he k =>
        rw [hcut []] at hr
        subst hr
        have hu : a.used ≤ (c :: v).length := by rw [ha] at he ⊢; exact oj.2 he
        have hu1 : 1 ≤ a.used := by rw [ha] at he ⊢; exact (one1_used (by simp) he).1
        have hd : ∀ t : List UInt8, ((c :: v) ++ 10 :: t).drop a.used = (c :: v).drop a.used ++ 10 :: t := fun t => List.drop_append_of_le_length hu
        rw [hd] at k
        have hlt : ((c :: v).drop a.used).length < u.length := by rw [List.length_drop]; omega
        match n, hn with
        | 0, hn => omega
        | n + 1, hn =>
          have ih := lb_join n ((c :: v).drop a.used) t j0 x (by omega) k
          rw [← hd] at ih
          rw [← e2 t]
          refine .tok hne rfl ?_ he (by rw [e2, hcut t]; exact ih)
          rw [e2, hcut t, oj.1, ha]
theorem lb_join2 : ∀ (n : Nat) (u t : List UInt8) (b : Bool) (ts : List Tk) (j : Nat) (x : ByteArray × Int), u.length ≤ n → Lx b (u ++ [10]) ts → Lb t j x → Lb (u ++ 10 :: t) (u.length + 1 + j) x
  | n, u, t, b, ts, j, x, hn, h1, h2 => by
    have hlen : ∀ t : List UInt8, (u ++ 10 :: t).length = u.length + 1 + t.length := fun t => by rw [List.length_append, List.length_cons]; omega
    rcases skip_join u.length u (Nat.le_refl _) with ⟨e1, e2⟩ | ⟨e1, e2⟩
    · have e4 : (u ++ 10 :: t).drop (skipN (u ++ 10 :: t)) = t.drop (skipN t) := by
        rw [e2, List.drop_append, List.drop_eq_nil_of_le (by omega), List.nil_append]
        have : u.length + 1 + skipN t - u.length = skipN t + 1 := by omega
        rw [this]
        rfl
      cases h2 with
      | bad h hr he =>
        rw [← e2 t]
        exact .bad (by rw [e2, hlen]; omega) (e4.trans hr.symm).symm he
      | @tok _ r a j0 _ h hr ha he k =>
        have : u.length + 1 + (skipN t + a.used + j0) = skipN (u ++ 10 :: t) + a.used + j0 := by rw [e2]; omega
        rw [this]
        exact .tok (by rw [e2, hlen]; omega) (e4.trans hr.symm).symm ha he k
    · obtain ⟨c, v, hv, hcut⟩ := cut_at e1
      have hlv : (c :: v).length = u.length - skipN (u ++ [10]) := by rw [← hv, List.length_drop]
      cases h1 with
      | done h => rw [hlen] at h; simp only [List.length_nil] at h; omega
      | @tok _ _ r a ts0 h hr ha he k =>
        rw [hcut []] at hr
        have oj := one_join c v t
        subst hr
        have hu : a.used ≤ (c :: v).length := by rw [ha] at he ⊢; exact oj.2 he
        have hu1 : 1 ≤ a.used := by rw [ha] at he ⊢; exact (one1_used (by simp) he).1
        have hd : ∀ t : List UInt8, ((c :: v) ++ 10 :: t).drop a.used = (c :: v).drop a.used ++ 10 :: t := fun t => List.drop_append_of_le_length hu
        rw [hd] at k
        have hlt : ((c :: v).drop a.used).length = u.length - skipN (u ++ [10]) - a.used := by rw [List.length_drop, hlv]
        match n, hn with
        | 0, hn => omega
        | n + 1, hn =>
          have ih := lb_join2 n ((c :: v).drop a.used) t true ts0 j x (by omega) k h2
          rw [← hd] at ih
          have e7 : u.length + 1 + j = skipN (u ++ 10 :: t) + a.used + (((c :: v).drop a.used).length + 1 + j) := by rw [e2, hlt]; omega
          rw [e7]
          refine .tok (by rw [e2, hlen]; omega) rfl ?_ he (by rw [e2, hcut t]; exact ih)
          rw [e2, hcut t, oj.1, ha]
/-! blanks ahead -/
def padB (p : List UInt8) : Prop := ∀ x, skipN (p ++ x) = p.length + skipN x
section
variable {p : List UInt8} (hp : padB p)
include hp
theorem pad_drop (x : List UInt8) : (p ++ x).drop (skipN (p ++ x)) = x.drop (skipN x) := by
  rw [hp, List.drop_append, List.drop_eq_nil_of_le (by omega), List.nil_append]
  congr 1
  omega
theorem pad_ne {x : List UInt8} (h : ¬ skipN x = x.length) : ¬ skipN (p ++ x) = (p ++ x).length := by
  rw [hp, List.length_append]
  omega
theorem lx_pad {x : List UInt8} {ts : List Tk} (h : Lx false x ts) : Lx false (p ++ x) ts := by
  cases h with
  | done h => exact .done (by rw [hp, h, List.length_append])
  | tok h hr ha he k =>
    have e : (decide (skipN x = 0) && false) = (decide (skipN (p ++ x) = 0) && false) := by rw [Bool.and_false, Bool.and_false]
    rw [e]
    exact .tok (pad_ne hp h) (by rw [pad_drop hp]; exact hr) ha he k
theorem lb_pad {x : List UInt8} {j : Nat} {y : ByteArray × Int} (h : Lb x j y) : Lb (p ++ x) (p.length + j) y := by
  cases h with
  | bad h hr he =>
    rw [← hp]
    exact .bad (pad_ne hp h) (by rw [pad_drop hp]; exact hr) he
  | @tok _ r a j0 _ h hr ha he k =>
    have : p.length + (skipN x + a.used + j0) = skipN (p ++ x) + a.used + j0 := by rw [hp]; omega
    rw [this]
    exact .tok (pad_ne hp h) (by rw [pad_drop hp]; exact hr) ha he k
end
theorem lx_pad0 {p : List UInt8} (hp : padB p) (b : Bool) : Lx b p [] := .done (by have := hp []; rw [List.append_nil, skip_nil] at this; exact this)
/-! what tokens are -/
structure Fair (t : Tk) : Prop where
  kind : 1 ≤ t.a.kind ∧ t.a.kind ≤ 5
  num : ¬ t.a.kind = 3 → t.a.num = 0
  str : t.a.kind = 3 → t.a.str = ⟨#[]⟩
  quo : t.a.quo = true → t.a.kind = 1
  size : t.a.str.size ≤ 64
  used : t.a.quo = false → t.a.str.size ≤ t.a.used
theorem err_size {a : Ans} (h : errA a = none) : a.str.size ≤ 64 := by
  unfold errA at h
  split at h
  · cases h
  · rename_i h2
    have h3 : ¬ 64 < a.str.size := fun h4 => h2 ⟨h, h4⟩
    omega
theorem first_fair {k : Int} {l : List UInt8} {n : Nat} (hk : 1 ≤ k ∧ k ≤ 5) (h3 : ¬ k = 3) (tg : Bool) (he : errA (firstT k l n) = none) : Fair ⟨firstT k l n, tg⟩ where
  kind := hk
  num := fun _ => rfl
  str := fun h => absurd h h3
  quo := fun h => by cases h
  size := err_size he
  used := fun _ => by
    show (l.take n).length ≤ n
    rw [List.length_take]
    omega
theorem quo_fair : ∀ (m : Nat) (r out : List UInt8) (k : Nat), r.length ≤ m → (quoL r out k).err = none → (quoL r out k).kind = 1 ∧ (quoL r out k).num = 0 ∧ (quoL r out k).quo = true
  | _, [], _, _, _, h => by rw [quoL] at h; cases h
  | 0, _ :: _, _, _, h, _ => by simp at h
  | m + 1, [c], out, k, _, h => by
    rw [quoL] at h ⊢
    split at h
    · rename_i h1; rw [if_pos h1]; exact ⟨rfl, rfl, rfl⟩
    · split at h
      · cases h
      · split at h <;> cases h
  | m + 1, c :: d :: t, out, k, hl, h => by
    have hl2 : t.length + 1 ≤ m := by simpa using hl
    rw [quoL] at h ⊢
    by_cases h39 : c = 39
    · rw [if_pos h39] at h ⊢
      by_cases hd : d = 39
      · rw [if_pos hd] at h ⊢
        exact quo_fair m t _ _ (by omega) h
      · rw [if_neg hd]
        exact ⟨rfl, rfl, rfl⟩
    · rw [if_neg h39] at h ⊢
      by_cases h92 : c = 92
      · rw [if_pos h92] at h ⊢
        cases hx : esc d with
        | none => rw [hx] at h; cases h
        | some x =>
          rw [hx] at h
          exact quo_fair m t _ _ (by omega) h
      · rw [if_neg h92] at h ⊢
        by_cases hlow : (c.toNat : Int) < 32
        · rw [if_pos hlow] at h; cases h
        · rw [if_neg hlow] at h ⊢
          exact quo_fair m (d :: t) _ _ (by simpa using hl2) h
theorem one_fair (r : List UInt8) (tg : Bool) (he : errA (one1 r) = none) : Fair ⟨one1 r, tg⟩ := by
  revert he
  show errA (oneC (firstC r) r) = none → Fair ⟨oneC (firstC r) r, tg⟩
  unfold oneC
  split
  · exact first_fair (by decide) (by decide) tg
  split
  · exact first_fair (by decide) (by decide) tg
  split
  · intro he
    have h1 := err_none he
    unfold numA at h1 ⊢
    split at h1
    · cases h1
    rename_i hd
    rw [if_neg hd]
    split at h1
    · cases h1
    rename_i hb
    rw [if_neg hb]
    exact ⟨(by show (1 : Int) ≤ 3 ∧ (3 : Int) ≤ 5; decide), fun h => absurd rfl h, fun _ => rfl, (fun h => by cases h), (by show 0 ≤ 64; omega), fun _ => Nat.zero_le _⟩
  split
  · intro he
    have h1 := quo_fair (r.drop 1).length (r.drop 1) [] 1 (Nat.le_refl _) (err_none he)
    refine ⟨?_, fun _ => h1.2.1, fun h => ?_, fun _ => h1.1, err_size he, fun h => ?_⟩
    · show 1 ≤ (quoL (r.drop 1) [] 1).kind ∧ (quoL (r.drop 1) [] 1).kind ≤ 5
      rw [h1.1]; decide
    · have h : (quoL (r.drop 1) [] 1).kind = 3 := h
      rw [h1.1] at h
      cases h
    · have h : (quoL (r.drop 1) [] 1).quo = false := h
      rw [h1.2.2] at h
      cases h
  split
  · exact first_fair (by decide) (by decide) tg
  split
  · exact first_fair (by decide) (by decide) tg
  split
  · exact first_fair (by decide) (by decide) tg
  split
  · exact first_fair (by decide) (by decide) tg
  · intro h; cases h
def sumT (ts : List Tk) : Nat := (ts.map fun t => if t.a.quo = true then 0 else t.a.str.size).sum
theorem lx_fair {b : Bool} {l : List UInt8} {ts : List Tk} (h : Lx b l ts) : (∀ t ∈ ts, Fair t) ∧ sumT ts ≤ l.length ∧ ts.length ≤ l.length ∧ (b = false → ∀ t, ts[0]? = some t → t.tight = false) := by
  induction h with
  | done h => exact ⟨fun t ht => by simp at ht, Nat.zero_le _, Nat.zero_le _, fun _ t ht => by simp at ht⟩
  | @tok b l r a ts h hr ha he k ih =>
    subst hr
    have hlt := skip_lt h
    have hl : (l.drop (skipN l)).length = l.length - skipN l := List.length_drop
    have hf := one_fair (l.drop (skipN l)) (decide (skipN l = 0) && b) (by rw [← ha]; exact he)
    have hu := one1_used (r := l.drop (skipN l)) (by omega) (by rw [← ha]; exact he)
    rw [← ha] at hf hu
    obtain ⟨i1, i2, i3, _⟩ := ih
    have hl2 : ((l.drop (skipN l)).drop a.used).length = l.length - skipN l - a.used := by rw [List.length_drop, hl]
    refine ⟨fun t ht => ?_, ?_, ?_, fun hb t ht => ?_⟩
    · rcases List.mem_cons.1 ht with rfl | ht
      · exact hf
      · exact i1 t ht
    · unfold sumT at i2 ⊢
      rw [List.map_cons, List.sum_cons]
      have : (if a.quo = true then 0 else a.str.size) ≤ a.used := by
        split
        · omega
        · rename_i hq
          exact hf.used (by simpa using hq)
      show (if a.quo = true then 0 else a.str.size) + _ ≤ _
      omega
    · rw [List.length_cons]; omega
    · simp only [List.getElem?_cons_zero, Option.some.injEq] at ht
      subst ht
      show (decide (skipN l = 0) && b) = false
      rw [hb, Bool.and_false]
end Go.Proofs.YtanhhihechakhaaGreatDoor.TokP
set_option linter.unusedVariables false
set_option linter.unusedSimpArgs false
namespace Go.Proofs.YtanhhihechakhaaGreatDoor.TokP
open Go.RowKit Go.Proofs.YtanhhihechakhaaGreatDoor.E Go.Proofs.YtanhhihechakhaaGreatDoor.ReplP
def okB (c : UInt8) : Bool := decide (¬ (c.toNat : Int) < 32) || (c == 10)
def quoteL (l : List UInt8) (p : Bool) : List UInt8 := if p = true then l else [39] ++ repl l ++ [39]
theorem run_stop {p : UInt8 → Bool} {x : UInt8} (h : p x = false) : ∀ (u t : List UInt8), u.all p = true → runB p (u ++ x :: t) = u.length
  | [], t, _ => by rw [List.nil_append, runB_no h]; rfl
  | c :: u, t, hu => by
    rw [List.all_cons, Bool.and_eq_true] at hu
    rw [List.cons_append, runB_yes hu.1, run_stop h u t hu.2]
    rfl
theorem run_allN {p : UInt8 → Bool} : ∀ (u : List UInt8), u.all p = true → runB p u = u.length
  | [], _ => rfl
  | c :: u, hu => by
    rw [List.all_cons, Bool.and_eq_true] at hu
    rw [runB_yes hu.1, run_allN u hu.2]
    rfl
theorem skip_zero {c : UInt8} {t : List UInt8} (h1 : ¬ c = 37) (h2 : blankB c = false) : skipN (c :: t) = 0 := by rw [skip_cons, if_neg h1, h2]; rfl
theorem skip_sp : skipN [32] = 1 := by rw [skip_cons, skip_nil]; rfl
theorem quo_repl : ∀ (l out : List UInt8) (k : Nat), l.all okB = true → quoL (repl l ++ [39, 32]) out k = .tok 1 ⟨(out ++ l).toArray⟩ 0 true (k + (repl l).length + 1)
  | [], out, k, _ => by
    show quoL [39, 32] out k = _
    rw [quoL, if_pos rfl, if_neg (by decide), List.append_nil]
    rfl
  | c :: l, out, k, h => by
    rw [List.all_cons, Bool.and_eq_true] at h
    have e : repl (c :: l) = one c ++ repl l := by simp [repl]
    have ih := fun x k => quo_repl l (out ++ [x]) k h.2
    by_cases h10 : c = 10
    · subst h10
      have e1 : one 10 = [92, 110] := rfl
      rw [e, e1]
      show quoL (92 :: 110 :: (repl l ++ [39, 32])) out k = _
      rw [quoL, if_neg (by decide), if_pos rfl]
      show quoL (repl l ++ [39, 32]) (out ++ [10]) (k + 2) = _
      rw [ih, List.append_assoc]
      congr 1
      simp; omega
    · by_cases h92 : c = 92
      · subst h92
        have e1 : one 92 = [92, 92] := rfl
        rw [e, e1]
        show quoL (92 :: 92 :: (repl l ++ [39, 32])) out k = _
        rw [quoL, if_neg (by decide), if_pos rfl]
        show quoL (repl l ++ [39, 32]) (out ++ [92]) (k + 2) = _
        rw [ih, List.append_assoc]
        congr 1
        simp; omega
      · by_cases h39 : c = 39
        · subst h39
          have e1 : one 39 = [39, 39] := rfl
          rw [e, e1]
          show quoL (39 :: 39 :: (repl l ++ [39, 32])) out k = _
          rw [quoL, if_pos rfl, if_pos rfl, ih, List.append_assoc]
          congr 1
          simp; omega
        · have e1 : one c = [c] := one_no (by unfold isSp; simp [h10, h92, h39])
          have hlow : ¬ (c.toNat : Int) < 32 := by
            have := h.1
            unfold okB at this
            simpa [h10] using this
          obtain ⟨d, t, ht⟩ : ∃ d t, repl l ++ [39, 32] = d :: t := by
            cases repl l with
            | nil => exact ⟨_, _, rfl⟩
            | cons d t => exact ⟨_, _, rfl⟩
          rw [e, e1]
          show quoL (c :: (repl l ++ [39, 32])) out k = _
          rw [ht, quoL, if_neg h39, if_neg h92, if_neg hlow, ← ht, ih, List.append_assoc]
          congr 1
          simp; omega
theorem sign_kind : ∀ c : UInt8, signB c = true → smallB c = false ∧ bigB c = false ∧ digitB c = false ∧ ((c.toNat : Int) == 39) = false ∧ punctL.contains c = false ∧ (((c.toNat : Int) == 33) || ((c.toNat : Int) == 59)) = false ∧ blankB c = false ∧ ((c.toNat : Int) == 37) = false := by
  have h : ∀ c ∈ signL, smallB c = false ∧ bigB c = false ∧ digitB c = false ∧ ((c.toNat : Int) == 39) = false ∧ punctL.contains c = false ∧ (((c.toNat : Int) == 33) || ((c.toNat : Int) == 59)) = false ∧ blankB c = false ∧ ((c.toNat : Int) == 37) = false := by decide
  intro c hc
  unfold signB at hc
  rw [List.contains_eq_mem, decide_eq_true_iff] at hc
  exact h c hc
theorem small_kind {c : UInt8} (h : smallB c = true) : ¬ c = 37 ∧ blankB c = false := by
  unfold smallB at h
  rw [Bool.and_eq_true, decide_eq_true_iff, decide_eq_true_iff] at h
  have ne : ∀ k : Int, k < 97 → ((c.toNat : Int) == k) = false := fun k hk => by rw [beq_eq_false_iff_ne]; omega
  refine ⟨fun h9 => ?_, ?_⟩
  · rw [h9] at h
    exact absurd h.1 (by decide)
  · unfold blankB
    rw [ne 9 (by omega), ne 10 (by omega), ne 13 (by omega), ne 32 (by omega)]
    rfl
theorem digit_kind {c : UInt8} (h : digitB c = true) : ¬ c = 37 ∧ blankB c = false ∧ smallB c = false ∧ bigB c = false := by
  unfold digitB at h
  rw [Bool.and_eq_true, decide_eq_true_iff, decide_eq_true_iff] at h
  have ne : ∀ k : Int, k < 48 → ((c.toNat : Int) == k) = false := fun k hk => by rw [beq_eq_false_iff_ne]; omega
  refine ⟨fun h9 => ?_, ?_, ?_, ?_⟩
  · rw [h9] at h
    exact absurd h.1 (by decide)
  · unfold blankB
    rw [ne 9 (by omega), ne 10 (by omega), ne 13 (by omega), ne 32 (by omega)]
    rfl
  · unfold smallB
    rw [decide_eq_false (by omega)]
    rfl
  · unfold bigB
    rw [decide_eq_false (by omega), Bool.false_and, Bool.false_or, beq_eq_false_iff_ne]
    omega
theorem lx_one {c : UInt8} {t : List UInt8} {a : Ans} (h1 : ¬ c = 37) (h2 : blankB c = false) (ha : one1 (c :: t) = a) (he : errA a = none) (hd : skipN ((c :: t).drop a.used) = ((c :: t).drop a.used).length) (b : Bool) : Lx b (c :: t) [⟨a, b⟩] := by
  have hz := skip_zero (t := t) h1 h2
  have := Lx.tok (b := b) (l := c :: t) (r := c :: t) (a := a) (ts := []) (by rw [hz]; simp) (by rw [hz]; rfl) ha.symm he (.done hd)
  have e : (decide (skipN (c :: t) = 0) && b) = b := by rw [hz]; rfl
  rw [e] at this
  exact this
theorem drop_sp (l : List UInt8) : (l ++ [32]).drop l.length = [32] := by rw [List.drop_append_of_le_length (Nat.le_refl _), List.drop_length]; rfl
theorem back_plain {c : UInt8} {t : List UInt8} (h1 : ¬ c = 37) (h2 : blankB c = false) (hl : (c :: t).length ≤ 64) (ha : one1 (c :: t ++ [32]) = firstT 1 (c :: t ++ [32]) (c :: t).length) (b : Bool) :
    ∃ a, Lx b (c :: t ++ [32]) [⟨a, b⟩] ∧ a.kind = 1 ∧ a.str = ⟨(c :: t).toArray⟩ ∧ a.quo = false := by
  have e : firstT 1 (c :: t ++ [32]) (c :: t).length = .tok 1 ⟨(c :: t).toArray⟩ 0 false (c :: t).length := by
    unfold firstT
    rw [List.take_left]
  rw [e] at ha
  refine ⟨_, lx_one h1 h2 ha ?_ ?_ b, rfl, rfl, rfl⟩
  · unfold errA
    rw [if_neg]
    · rfl
    · rintro ⟨_, h9⟩
      have h9 : 64 < (c :: t).length := h9
      omega
  · show skipN ((c :: t ++ [32] : List UInt8).drop (c :: t).length) = ((c :: t ++ [32] : List UInt8).drop (c :: t).length).length
    rw [drop_sp, skip_sp]
    rfl
theorem back_all {l : List UInt8} (hok : l.all okB = true) (hne : ¬ l = [91, 93]) (hl : l.length ≤ 64) (b : Bool) : ∃ a, Lx b (quoteL l (plainB l) ++ [32]) [⟨a, b⟩] ∧ a.kind = 1 ∧ a.str = ⟨l.toArray⟩ ∧ a.quo = !plainB l := by
  cases hp : plainB l with
  | false =>
    have hr : quoteL l false ++ [32] = 39 :: (repl l ++ [39, 32]) := by unfold quoteL; simp
    have ha : one1 (39 :: (repl l ++ [39, 32])) = .tok 1 ⟨l.toArray⟩ 0 true (1 + (repl l).length + 1) := by
      show quoL (repl l ++ [39, 32]) [] 1 = _
      rw [quo_repl l [] 1 hok, List.nil_append]
    rw [hr]
    have hdr : (39 :: (repl l ++ [39, 32])).drop (1 + (repl l).length + 1) = [32] := by
      rw [show 1 + (repl l).length + 1 = ((repl l).length + 1) + 1 by omega, List.drop_succ_cons, show repl l ++ [39, 32] = repl l ++ [39] ++ [32] by simp]
      rw [List.drop_append_of_le_length (by simp), List.drop_eq_nil_of_le (by simp)]
      rfl
    refine ⟨_, lx_one (by decide) (by decide) ha ?_ ?_ b, rfl, rfl, rfl⟩
    · unfold errA
      rw [if_neg]
      · rfl
      · rintro ⟨_, h9⟩
        have h9 : 64 < l.length := h9
        omega
    · show skipN ((39 :: (repl l ++ [39, 32])).drop (1 + (repl l).length + 1)) = ((39 :: (repl l ++ [39, 32])).drop (1 + (repl l).length + 1)).length
      rw [hdr, skip_sp]
      rfl
  | true =>
    have hr : quoteL l true = l := if_pos rfl
    rw [hr]
    have h1 : (l == [] || l == [46]) = false := by
      cases h : (l == [] || l == [46]) with
      | false => rfl
      | true => unfold plainB at hp; rw [if_pos h] at hp; cases hp
    rw [Bool.or_eq_false_iff, beq_eq_false_iff_ne, beq_eq_false_iff_ne] at h1
    obtain ⟨c, t, rfl⟩ := List.exists_cons_of_ne_nil h1.1
    by_cases h33 : c :: t = [33]
    · rw [h33] at hl ⊢
      exact back_plain (by decide) (by decide) hl (by rfl) b
    by_cases h59 : c :: t = [59]
    · rw [h59] at hl ⊢
      exact back_plain (by decide) (by decide) hl (by rfl) b
    have hp2 := plain_end (l := c :: t) (by simp) (by rw [beq_eq_false_iff_ne]; exact h1.2) (by rw [beq_eq_false_iff_ne]; exact hne) (by rw [beq_eq_false_iff_ne]; exact h33) (by rw [beq_eq_false_iff_ne]; exact h59)
    rw [hp] at hp2
    rcases (Bool.or_eq_true _ _).mp hp2.symm with h | h
    · rw [Bool.and_eq_true] at h
      have hs : smallB c = true := h.1
      have hk := small_kind hs
      refine back_plain hk.1 hk.2 hl ?_ b
      show oneC c (c :: t ++ [32]) = _
      unfold oneC
      rw [if_pos hs, run_stop (by rfl) (c :: t) [] h.2]
    · have hc : signB c = true := by
        rw [List.all_cons, Bool.and_eq_true] at h
        exact h.1
      obtain ⟨k1, k2, k3, k4, k5, k6, k7, k8⟩ := sign_kind c hc
      refine back_plain (fun h9 => by rw [h9] at k8; exact absurd k8 (by decide)) k7 hl ?_ b
      have hend : endsB (c :: t ++ [32]) = false := by
        unfold endsB
        cases t with
        | nil =>
          have : ¬ c = 46 := fun h9 => h1.2 (by rw [h9])
          have : pointB ([c] ++ [32]) = false := by
            show (c == 46) = false
            rw [beq_eq_false_iff_ne]
            exact this
          rw [this]
          rfl
        | cons d t =>
          have hd : signB d = true := by
            rw [List.all_cons, List.all_cons, Bool.and_eq_true, Bool.and_eq_true] at h
            exact h.2.1
          obtain ⟨_, _, _, _, _, _, d7, d8⟩ := sign_kind d hd
          have e1 : (((c :: d :: t ++ [32]).length : Int) == 1) = false := by
            rw [beq_eq_false_iff_ne]
            simp only [List.length_append, List.length_cons]
            omega
          have e2 : afterB (c :: d :: t ++ [32])[1]? = false := by
            show (blankB d || ((d.toNat : Int) == 37)) = false
            rw [d7, d8]
            rfl
          rw [e1, e2]
          simp
      show oneC c (c :: t ++ [32]) = _
      unfold oneC
      rw [k1, k2, k3, k4, k5, k6, hend, if_neg (by decide), if_neg (by decide), if_neg (by decide), if_neg (by decide), if_neg (by decide), if_neg (by decide), if_neg (by decide), if_pos hc, run_stop (by rfl) (c :: t) [] h]
/-! numbers -/
def figL (n : Nat) : List UInt8 := if n < 10 then [UInt8.ofNat (48 + n)] else figL (n / 10) ++ [UInt8.ofNat (48 + n % 10)]
termination_by n
decreasing_by omega
theorem fig_lt {n : Nat} (h : n < 10) : figL n = [UInt8.ofNat (48 + n)] := by rw [figL, if_pos h]
theorem fig_ge {n : Nat} (h : ¬ n < 10) : figL n = figL (n / 10) ++ [UInt8.ofNat (48 + n % 10)] := by rw [figL, if_neg h]
theorem fig_byte {n : Nat} (h : n < 10) : (UInt8.ofNat (48 + n)).toNat = 48 + n := by
  rw [UInt8.toNat_ofNat']
  omega
theorem fig_digit {n : Nat} (h : n < 10) : digitB (UInt8.ofNat (48 + n)) = true := by
  unfold digitB
  rw [fig_byte h, decide_eq_true (by omega), decide_eq_true (by omega)]
  rfl
theorem fig_all : ∀ (k n : Nat), n ≤ k → (figL n).all digitB = true ∧ valN (figL n) = n ∧ 1 ≤ (figL n).length
  | k, n, h => by
    by_cases hn : n < 10
    · rw [fig_lt hn]
      refine ⟨by rw [List.all_cons, fig_digit hn]; rfl, ?_, Nat.le_refl _⟩
      have := valN_snoc [] (UInt8.ofNat (48 + n))
      rw [List.nil_append, fig_byte hn] at this
      rw [this]
      show 10 * 0 + _ = n
      omega
    · match k, h with
      | 0, h => omega
      | k + 1, h =>
        have ih := fig_all k (n / 10) (by omega)
        rw [fig_ge hn]
        refine ⟨by rw [List.all_append, ih.1, List.all_cons, fig_digit (by omega)]; rfl, ?_, by rw [List.length_append]; simp⟩
        rw [valN_snoc, ih.2.1, fig_byte (by omega)]
        omega
theorem fig_len : ∀ (k n : Nat), n < 10 ^ (k + 1) → (figL n).length ≤ k + 1
  | k, n, h => by
    by_cases hn : n < 10
    · rw [fig_lt hn]; simp
    · match k, h with
      | 0, h => omega
      | k + 1, h =>
        rw [fig_ge hn, List.length_append]
        have := fig_len k (n / 10) (by rw [Nat.pow_succ] at h; omega)
        simp only [List.length_cons, List.length_nil]
        omega
theorem fig_cons (n : Nat) : ∃ c t, figL n = c :: t ∧ digitB c = true := by
  have h := fig_all n n (Nat.le_refl _)
  cases hf : figL n with
  | nil => rw [hf] at h; exact absurd h.2.2 (by decide)
  | cons c t =>
    rw [hf] at h
    rw [List.all_cons, Bool.and_eq_true] at h
    exact ⟨c, t, rfl, h.1.1⟩
theorem one_digit {c : UInt8} {t : List UInt8} (h : digitB c = true) : one1 (c :: t) = numA (c :: t) := by
  have hk := digit_kind h
  show oneC c (c :: t) = _
  unfold oneC
  rw [hk.2.2.1, hk.2.2.2, h]
  rfl
theorem num_fig (n : Nat) : numA (figL n) = if 9223372036854775808 < n then .bad w2 2 else .tok 3 ⟨#[]⟩ (IntKind.i64.wrap (n : Int)) false (figL n).length := by
  have h := fig_all n n (Nat.le_refl _)
  have hr : runB digitB (figL n) = (figL n).length := run_allN _ h.1
  have hf : figs (figL n) = figL n := by unfold figs; rw [hr, List.take_length]
  have hd : dottedB (figL n) (figL n).length = false := by
    unfold dottedB
    rw [decide_eq_false (by omega)]
    rfl
  unfold numA
  rw [hr, hd, hf, h.2.1]
  rfl
theorem num_dot (n m : Nat) : numA (figL n ++ 46 :: figL m) = .bad w1 4 := by
  have h := fig_all n n (Nat.le_refl _)
  have hr : runB digitB (figL n ++ 46 :: figL m) = (figL n).length := run_stop (by decide) _ _ h.1
  obtain ⟨c, t, hc, hd⟩ := fig_cons m
  have e : dottedB (figL n ++ 46 :: figL m) (figL n).length = true := by
    unfold dottedB
    have e1 : (figL n ++ 46 :: figL m)[(figL n).length]? = some 46 := by rw [List.getElem?_append_right (Nat.le_refl _), Nat.sub_self]; rfl
    have e2 : (figL n ++ 46 :: figL m)[(figL n).length + 1]? = some c := by
      rw [List.getElem?_append_right (by omega), show (figL n).length + 1 - (figL n).length = 1 by omega, hc]; rfl
    rw [e1, e2, decide_eq_true (by rw [hc]; simp only [List.length_append, List.length_cons]; omega)]
    show ((true && ((46 : Int) == 46)) && digitB c) = true
    rw [hd]
    rfl
  unfold numA
  rw [hr, if_pos e]
theorem lx_int {n : Nat} (h : ¬ 9223372036854775808 < n) : Lx false (32 :: figL n) [⟨.tok 3 ⟨#[]⟩ (IntKind.i64.wrap (n : Int)) false (figL n).length, false⟩] := by
  obtain ⟨c, t, hc, hd⟩ := fig_cons n
  have hk := digit_kind hd
  have hp : padB [32] := fun x => by rw [List.cons_append, skip_cons]; rfl
  have ha : one1 (c :: t) = .tok 3 ⟨#[]⟩ (IntKind.i64.wrap (n : Int)) false (figL n).length := by rw [one_digit hd, ← hc, num_fig, if_neg h]
  have h1 := lx_one (b := false) hk.1 hk.2.1 ha (by unfold errA; rw [if_neg (by rintro ⟨_, h9⟩; exact absurd h9 (by show ¬ 64 < 0; decide))]; rfl) (by
    show skipN ((c :: t).drop (figL n).length) = ((c :: t).drop (figL n).length).length
    rw [← hc, List.drop_length, skip_nil]
    rfl)
  rw [← hc] at h1
  exact lx_pad hp h1
theorem lb_int {n : Nat} (h : 9223372036854775808 < n) : Lb (32 :: figL n) 1 (w2, 2) := by
  obtain ⟨c, t, hc, hd⟩ := fig_cons n
  have hk := digit_kind hd
  have hp : padB [32] := fun x => by rw [List.cons_append, skip_cons]; rfl
  have hz := skip_zero (t := t) hk.1 hk.2.1
  have h1 : Lb (figL n) (skipN (figL n)) (w2, 2) := by
    refine .bad (r := figL n) ?_ ?_ ?_
    · rw [hc, hz]; simp
    · rw [hc, hz]; rfl
    · rw [hc, one_digit hd, ← hc, num_fig, if_pos h]; rfl
  rw [hc, hz] at h1
  have h2 := lb_pad hp h1
  rw [← hc] at h2
  exact h2
theorem lb_dot (n m : Nat) : Lb (figL n ++ 46 :: figL m) 0 (w1, 4) := by
  obtain ⟨c, t, hc, hd⟩ := fig_cons n
  have hk := digit_kind hd
  have hz := skip_zero (t := t ++ 46 :: figL m) hk.1 hk.2.1
  have h1 : Lb (figL n ++ 46 :: figL m) (skipN (figL n ++ 46 :: figL m)) (w1, 4) := by
    refine .bad (r := figL n ++ 46 :: figL m) ?_ ?_ ?_
    · rw [hc, List.cons_append, hz]; simp
    · rw [hc, List.cons_append, hz]; rfl
    · rw [hc, List.cons_append, one_digit hd, ← List.cons_append, ← hc, num_dot]; rfl
  have hz2 : skipN (figL n ++ 46 :: figL m) = 0 := by rw [hc, List.cons_append, hz]
  rw [hz2] at h1
  exact h1
end Go.Proofs.YtanhhihechakhaaGreatDoor.TokP
set_option linter.unusedVariables false
set_option linter.unusedSimpArgs false
namespace Go.Proofs.YtanhhihechakhaaGreatDoor.TokP
open Go.RowKit Go.Proofs.YtanhhihechakhaaGreatDoor.E Go.Proofs.YtanhhihechakhaaGreatDoor.ReplP
def scTs : Sc → List Tk
  | .ok ts => ts
  | .bad _ _ _ => []
def scE : Sc → Option (ByteArray × Int)
  | .ok _ => none
  | .bad _ w e => some (w, e)
def scAt : Sc → Nat
  | .ok _ => 0
  | .bad i _ _ => i
theorem sc_ok {r : Sc} (h : scE r = none) : r = .ok (scTs r) := by
  cases r with
  | ok ts => rfl
  | bad i w e => cases h
theorem sc_no {r : Sc} (h : ¬ scE r = none) : scTs r = [] := by
  cases r with
  | ok ts => exact absurd rfl h
  | bad i w e => rfl
theorem ba_cat (a b : ByteArray) : (a ++ b).data.toList = a.data.toList ++ b.data.toList := by simp
theorem sc_lx {l : List UInt8} (hl : l.length ≤ 4096) (h : scE (scanA l) = none) : Lx false l (scTs (scanA l)) := by
  rcases scan_or hl with ⟨ts, h1, h2⟩ | ⟨j, x, _, h2⟩
  · rw [h2]
    exact h1
  · rw [h2] at h
    cases h
theorem sc_lb {l : List UInt8} (hl : l.length ≤ 4096) (h : ¬ scE (scanA l) = none) : ∃ x, scE (scanA l) = some x ∧ Lb l (scAt (scanA l)) x := by
  rcases scan_or hl with ⟨ts, _, h2⟩ | ⟨j, x, h1, h2⟩
  · rw [h2] at h
    exact absurd rfl h
  · exact ⟨x, by rw [h2]; rfl, by rw [h2]; exact h1⟩
theorem sc_lb2 {l : List UInt8} (hl : l.length ≤ 4096) {j : Nat} {x : ByteArray × Int} (h : Lb l j x) : scE (scanA l) = some x ∧ scAt (scanA l) = j := by
  rw [scan_no hl h]
  exact ⟨rfl, rfl⟩
theorem join_len1 {s t : List UInt8} (hs : s.length ≤ 2000) (_ht : t.length ≤ 2000) : (s ++ [10]).length ≤ 4096 := by rw [List.length_append, List.length_cons, List.length_nil]; omega
section
variable {s t : List UInt8} (hs : s.length ≤ 2000) (ht : t.length ≤ 2000)
include hs ht
theorem join_len : (s ++ 10 :: t).length ≤ 4096 := by rw [List.length_append, List.length_cons]; omega
theorem join_ok (h1 : scE (scanA (s ++ [10])) = none) (h2 : scE (scanA t) = none) : scanA (s ++ 10 :: t) = .ok (scTs (scanA (s ++ [10])) ++ scTs (scanA t)) :=
  scan_ok (join_len hs ht) (lx_join s.length s t false _ _ (Nat.le_refl _) (sc_lx (join_len1 hs ht) h1) (sc_lx (by omega) h2))
theorem join_bad1 (h1 : ¬ scE (scanA (s ++ [10])) = none) : scE (scanA (s ++ 10 :: t)) = scE (scanA (s ++ [10])) ∧ scAt (scanA (s ++ 10 :: t)) = scAt (scanA (s ++ [10])) := by
  obtain ⟨x, hx, hb⟩ := sc_lb (join_len1 hs ht) h1
  have h := sc_lb2 (join_len hs ht) (lb_join s.length s t _ x (Nat.le_refl _) hb)
  exact ⟨h.1.trans hx.symm, h.2⟩
theorem join_bad (h : ¬ (scE (scanA (s ++ [10])) = none ∧ scE (scanA t) = none)) : ¬ scE (scanA (s ++ 10 :: t)) = none := by
  by_cases h1 : scE (scanA (s ++ [10])) = none
  · obtain ⟨x, hx, hb⟩ := sc_lb (l := t) (by omega) (fun h2 => h ⟨h1, h2⟩)
    have h := sc_lb2 (join_len hs ht) (lb_join2 s.length s t false _ _ x (Nat.le_refl _) (sc_lx (join_len1 hs ht) h1) hb)
    rw [h.1]
    simp
  · rw [(join_bad1 hs ht h1).1]
    exact h1
end
/-! remarks and blanks -/
theorem skip_note {note : List UInt8} (h : note.all lineB = true) (x : List UInt8) : skipN (37 :: (note ++ 10 :: x)) = note.length + 2 + skipN x := by
  have hr : runB lineB (note ++ 10 :: x) = note.length := run_stop (by rfl) note x h
  rw [skip_cons, if_pos rfl, hr, if_neg (by rw [List.length_append, List.length_cons]; omega)]
  rw [List.drop_append, List.drop_eq_nil_of_le (by omega), List.nil_append, show note.length + 1 - note.length = 1 by omega]
  rfl
theorem skip_note0 {note : List UInt8} (h : note.all lineB = true) : skipN (37 :: note) = (37 :: note).length := by
  rw [skip_cons, if_pos rfl, run_allN note h, if_pos rfl]
  rfl
theorem skip_note1 {note : List UInt8} (h : note.all lineB = true) : skipN (37 :: (note ++ [10])) = (37 :: (note ++ [10])).length := by
  rw [skip_note h, skip_nil]
  simp
theorem scan_none {l : List UInt8} (hl : l.length ≤ 4096) (h : skipN l = l.length) : scanA l = .ok [] := scan_ok hl (.done h)
theorem line_all {note : List UInt8} (h : note.contains 10 = false) : note.all lineB = true := by
  rw [List.all_eq_true]
  intro c hc
  unfold lineB
  have hne : ¬ c = 10 := fun h9 => by
    rw [h9] at hc
    rw [List.contains_eq_mem, decide_eq_false_iff_not] at h
    exact h hc
  have : ¬ (c.toNat : Int) = 10 := fun h9 => hne (UInt8.toNat_inj.1 (by show c.toNat = 10; omega))
  simp [this]
theorem pad_sp {c : UInt8} (h1 : ¬ c = 37) (h2 : blankB c = true) {p : List UInt8} (hp : padB p) : padB (c :: p) := fun x => by
  rw [List.cons_append, skip_cons, if_neg h1, if_pos h2, hp, List.length_cons]
  omega
theorem pad_nil : padB [] := fun x => by simp
theorem pad_note {note p : List UInt8} (h : note.all lineB = true) (hp : padB p) : padB (37 :: (note ++ 10 :: p)) := fun x => by
  rw [List.cons_append, List.append_assoc, List.cons_append, skip_note h, hp]
  simp only [List.length_cons, List.length_append]
  omega
def padsL : List (List UInt8) := [[32], [9, 10], [37, 32, 97, 32, 39, 98, 10], [32, 37, 37, 10, 13]]
theorem pads_all : ∀ p ∈ padsL, padB p ∧ p.length ≤ 7 := by
  intro p hp
  simp only [padsL, List.mem_cons, List.not_mem_nil, or_false] at hp
  rcases hp with rfl | rfl | rfl | rfl
  · exact ⟨pad_sp (by decide) (by decide) pad_nil, by decide⟩
  · exact ⟨pad_sp (by decide) (by decide) (pad_sp (by decide) (by decide) pad_nil), by decide⟩
  · exact ⟨pad_note (note := [32, 97, 32, 39, 98]) (by decide) pad_nil, by decide⟩
  · exact ⟨pad_sp (by decide) (by decide) (pad_note (note := [37]) (by decide) (pad_sp (by decide) (by decide) pad_nil)), by decide⟩
theorem pad_skip {p : List UInt8} (hp : padB p) : skipN p = p.length := by
  have := hp []
  rwa [List.append_nil, skip_nil] at this
theorem blank_len {s p : List UInt8} (hs : s.length ≤ 2000) (_hp : padB p) (hl : p.length ≤ 7) : (p ++ (s ++ 10 :: p)).length ≤ 4096 := by simp only [List.length_append, List.length_cons]; omega
section
variable {s p : List UInt8} (hs : s.length ≤ 2000) (hp : padB p) (hl : p.length ≤ 7)
include hs hp hl
theorem blank_ok (h : scE (scanA (s ++ [10])) = none) : scanA (p ++ (s ++ 10 :: p)) = .ok (scTs (scanA (s ++ [10]))) := by
  have h1 := sc_lx (l := s ++ [10]) (by simp only [List.length_append, List.length_cons, List.length_nil]; omega) h
  have h2 := lx_join s.length s p false _ _ (Nat.le_refl _) h1 (lx_pad0 hp false)
  rw [List.append_nil] at h2
  exact scan_ok (blank_len hs hp hl) (lx_pad hp h2)
theorem blank_bad (h : ¬ scE (scanA (s ++ [10])) = none) : scE (scanA (p ++ (s ++ 10 :: p))) = scE (scanA (s ++ [10])) ∧ scAt (scanA (p ++ (s ++ 10 :: p))) = scAt (scanA (s ++ [10])) + p.length := by
  obtain ⟨x, hx, hb⟩ := sc_lb (l := s ++ [10]) (by simp only [List.length_append, List.length_cons, List.length_nil]; omega) h
  have h2 := sc_lb2 (blank_len hs hp hl) (lb_pad hp (lb_join s.length s p _ x (Nat.le_refl _) hb))
  exact ⟨h2.1.trans hx.symm, by rw [h2.2]; omega⟩
end
/-! what tokens are -/
theorem scan_fair {l : List UInt8} (h : scE (scanA l) = none) : (∀ t ∈ scTs (scanA l), Fair t) ∧ sumT (scTs (scanA l)) ≤ l.length ∧ (scTs (scanA l)).length ≤ l.length ∧ (∀ t, (scTs (scanA l))[0]? = some t → t.tight = false) ∧ l.length ≤ 4096 := by
  have hl : l.length ≤ 4096 := by
    apply Decidable.byContradiction
    intro h9
    unfold scanA at h
    rw [if_pos (by omega)] at h
    cases h
  have h1 := lx_fair (sc_lx hl h)
  exact ⟨h1.1, h1.2.1, h1.2.2.1, h1.2.2.2 rfl, hl⟩
theorem sum_succ {ts : List Tk} {i : Nat} {t : Tk} (h : ts[i]? = some t) : sumT (ts.take (i + 1)) = sumT (ts.take i) + (if t.a.quo = true then 0 else t.a.str.size) := by
  unfold sumT
  rw [List.take_add_one, h, List.map_append, List.sum_append]
  simp
theorem sum_le (ts : List Tk) (i : Nat) : sumT (ts.take i) ≤ sumT ts := by
  have h1 : sumT ts = sumT (ts.take i) + sumT (ts.drop i) := by
    conv => lhs; rw [← List.take_append_drop i ts]
    unfold sumT
    rw [List.map_append, List.sum_append]
  omega
theorem lb_at {l : List UInt8} {i : Nat} {x : ByteArray × Int} (h : Lb l i x) : i ≤ l.length := by
  induction h with
  | bad h hr he => exact Nat.le_of_lt (skip_lt h)
  | @tok l r a i x h hr ha he k ih =>
    subst hr
    have h1 := skip_lt h
    have hl : (l.drop (skipN l)).length = l.length - skipN l := List.length_drop
    have hu := one1_used (r := l.drop (skipN l)) (by omega) (by rw [← ha]; exact he)
    rw [← ha] at hu
    rw [List.length_drop, hl] at ih
    omega
def mayB (l : List UInt8) : Bool := l.all okB && decide ((l.length : Int) ≤ 64)
end Go.Proofs.YtanhhihechakhaaGreatDoor.TokP
set_option linter.unusedVariables false
set_option linter.unusedSimpArgs false
namespace Go.Proofs.YtanhhihechakhaaGreatDoor.TermP
open Go.RowKit Go.Proofs.YtanhhihechakhaaGreatDoor.E
/-- A term as it is meant. -/
inductive Tm where
  | mk (k n : Int) (s : ByteArray) (kids : List Tm)
/-- A term as it lies: with the place of its kids. -/
inductive GT where
  | mk (k n : Int) (s : ByteArray) (A : Option Addr) (c : Nat) (kids : List GT)
namespace Tm
def k : Tm → Int | mk k _ _ _ => k
def n : Tm → Int | mk _ n _ _ => n
def s : Tm → ByteArray | mk _ _ s _ => s
def kids : Tm → List Tm | mk _ _ _ l => l
theorem eta (t : Tm) : Tm.mk t.k t.n t.s t.kids = t := by cases t; rfl
theorem ind {P : Tm → Prop} (h : ∀ k n s kids, (∀ t, t ∈ kids → P t) → P (.mk k n s kids)) : ∀ t, P t := fun t =>
  Tm.rec (motive_1 := P) (motive_2 := fun l => ∀ t, t ∈ l → P t) (fun k n s l ih => h k n s l ih) (fun _ ht => (List.not_mem_nil ht).elim)
    (fun x l hx hl t ht => by
      rcases List.mem_cons.1 ht with rfl | ht
      · exact hx
      · exact hl t ht) t
end Tm
namespace GT
def k : GT → Int | mk k _ _ _ _ _ => k
def n : GT → Int | mk _ n _ _ _ _ => n
def s : GT → ByteArray | mk _ _ s _ _ _ => s
def A : GT → Option Addr | mk _ _ _ A _ _ => A
def c : GT → Nat | mk _ _ _ _ c _ => c
def kids : GT → List GT | mk _ _ _ _ _ l => l
theorem ind {P : GT → Prop} (h : ∀ k n s A c kids, (∀ t, t ∈ kids → P t) → P (.mk k n s A c kids)) : ∀ t, P t := fun t =>
  GT.rec (motive_1 := P) (motive_2 := fun l => ∀ t, t ∈ l → P t) (fun k n s A c l ih => h k n s A c l ih) (fun _ ht => (List.not_mem_nil ht).elim)
    (fun x l hx hl t ht => by
      rcases List.mem_cons.1 ht with rfl | ht
      · exact hx
      · exact hl t ht) t
/-- its four cells -/
def cells (t : GT) : List Value := [.int .i64 t.k, .int .i64 t.n, .string t.s, .slice t.A t.kids.length t.c]
mutual
/-- what is meant -/
def tm : GT → Tm | mk k n s _ _ kids => .mk k n s (tms kids)
def tms : List GT → List Tm | [] => [] | t :: l => tm t :: tms l
end
theorem tms_map : ∀ l : List GT, tms l = l.map tm
  | [] => by simp [tms]
  | t :: l => by simp [tms, tms_map l]
theorem tm_mk (k n : Int) (s : ByteArray) (A : Option Addr) (c : Nat) (kids : List GT) : (GT.mk k n s A c kids).tm = .mk k n s (kids.map tm) := by rw [tm, tms_map]
theorem tm_kids (t : GT) : t.tm.kids = t.kids.map tm := by cases t; rw [tm_mk]; rfl
theorem tm_k (t : GT) : t.tm.k = t.k := by cases t; rw [tm_mk]; rfl
theorem tm_n (t : GT) : t.tm.n = t.n := by cases t; rw [tm_mk]; rfl
theorem tm_s (t : GT) : t.tm.s = t.s := by cases t; rw [tm_mk]; rfl
theorem cells_len : ∀ l : List GT, ∀ c ∈ l.map cells, c.length = 4 := fun l c hc => by
  obtain ⟨t, _, rfl⟩ := List.mem_map.1 hc
  rfl
theorem cells_ones (l : List GT) : ∀ u ∈ (l.map cells).flatten, u.oneCell' = true := fun u hu => by
  obtain ⟨c, hc, hu⟩ := List.mem_flatten.1 hu
  obtain ⟨e, _, rfl⟩ := List.mem_map.1 hc
  simp only [cells, List.mem_cons, List.not_mem_nil, or_false] at hu
  rcases hu with rfl | rfl | rfl | rfl <;> rfl
theorem cells_snoc (l : List GT) (t : GT) : ((l ++ [t]).map cells).flatten = (l.map cells).flatten ++ [.int .i64 t.k, .int .i64 t.n, .string t.s, .slice t.A t.kids.length t.c] := by
  rw [List.map_append, List.flatten_append]
  simp [cells]
end GT
/-- It lies so in memory. -/
inductive Lies (h : Hp) : GT → Prop
  | intro (k n : Int) (s : ByteArray) (A : Option Addr) (c : Nat) (kids : List GT) (hc : kids.length ≤ c) (hr : RowsAt h A 4 (kids.map GT.cells)) (hk : ∀ t, t ∈ kids → Lies h t) : Lies h (.mk k n s A c kids)
theorem Lies.rows {h : Hp} {k n : Int} {s : ByteArray} {A : Option Addr} {c : Nat} {kids : List GT} (hl : Lies h (.mk k n s A c kids)) : RowsAt h A 4 (kids.map GT.cells) := by cases hl; assumption
theorem Lies.cap {h : Hp} {k n : Int} {s : ByteArray} {A : Option Addr} {c : Nat} {kids : List GT} (hl : Lies h (.mk k n s A c kids)) : kids.length ≤ c := by cases hl; assumption
theorem Lies.kid {h : Hp} {k n : Int} {s : ByteArray} {A : Option Addr} {c : Nat} {kids : List GT} (hl : Lies h (.mk k n s A c kids)) {t : GT} (ht : t ∈ kids) : Lies h t := by
  cases hl with
  | intro _ _ _ _ _ _ _ _ hk => exact hk t ht
theorem Lies.at {h : Hp} {k n : Int} {s : ByteArray} {A : Option Addr} {c : Nat} {kids : List GT} (hl : Lies h (.mk k n s A c kids)) {i : Nat} {t : GT} (ht : kids[i]? = some t) : Lies h t := hl.kid (List.mem_of_getElem? ht)
theorem Lies.le {h h' : Hp} (hh : h.Le h') : ∀ {t : GT}, Lies h t → Lies h' t := fun {t} => by
  induction t using GT.ind with
  | h k n s A c kids ih =>
    intro hl
    exact .intro k n s A c kids hl.cap (hl.rows.le hh) (fun t ht => ih t ht (hl.kid ht))
/-- Its numbers are numbers, its texts and rows fit in memory. -/
inductive Fits : GT → Prop
  | intro (k n : Int) (s : ByteArray) (A : Option Addr) (c : Nat) (kids : List GT) (hk0 : -9223372036854775808 ≤ k) (hk1 : k ≤ 9223372036854775807) (hn0 : -9223372036854775808 ≤ n) (hn1 : n ≤ 9223372036854775807)
      (hs : s.size ≤ 140737488355328) (hb : kids.length * 56 ≤ 140737488355328) (hkid : ∀ t, t ∈ kids → Fits t) : Fits (.mk k n s A c kids)
theorem Fits.kid {k n : Int} {s : ByteArray} {A : Option Addr} {c : Nat} {kids : List GT} (hl : Fits (.mk k n s A c kids)) {t : GT} (ht : t ∈ kids) : Fits t := by
  cases hl with
  | intro _ _ _ _ _ _ _ _ _ _ _ _ hk => exact hk t ht
theorem Fits.at {k n : Int} {s : ByteArray} {A : Option Addr} {c : Nat} {kids : List GT} (hl : Fits (.mk k n s A c kids)) {i : Nat} {t : GT} (ht : kids[i]? = some t) : Fits t := hl.kid (List.mem_of_getElem? ht)
theorem Fits.room {k n : Int} {s : ByteArray} {A : Option Addr} {c : Nat} {kids : List GT} (hl : Fits (.mk k n s A c kids)) : kids.length * 56 ≤ 140737488355328 := by cases hl; assumption
theorem Fits.nums {k n : Int} {s : ByteArray} {A : Option Addr} {c : Nat} {kids : List GT} (hl : Fits (.mk k n s A c kids)) : (-9223372036854775808 ≤ k ∧ k ≤ 9223372036854775807) ∧ (-9223372036854775808 ≤ n ∧ n ≤ 9223372036854775807) ∧ s.size ≤ 140737488355328 := by
  cases hl; exact ⟨⟨by assumption, by assumption⟩, ⟨by assumption, by assumption⟩, by assumption⟩
/-! how many parts -/
mutual
def size : Tm → Nat | .mk _ _ _ kids => 1 + sizes kids
def sizes : List Tm → Nat | [] => 0 | t :: l => size t + sizes l
end
theorem sizes_map : ∀ l : List Tm, sizes l = (l.map size).sum
  | [] => by simp [sizes]
  | t :: l => by simp [sizes, sizes_map l]
theorem sizes_snoc (l : List Tm) (t : Tm) : sizes (l ++ [t]) = sizes l + size t := by simp [sizes_map]
/-! .. as the machine counts them -/
mutual
def sizeW : GT → Int | .mk _ _ _ _ _ kids => sizesW 1 kids
def sizesW : Int → List GT → Int | a, [] => a | a, t :: l => sizesW (IntKind.i64.wrap (a + sizeW t)) l
end
theorem sizesW_snoc : ∀ (l : List GT) (a : Int) (t : GT), sizesW a (l ++ [t]) = IntKind.i64.wrap (sizesW a l + sizeW t)
  | [], a, t => by simp [sizesW]
  | x :: l, a, t => by
    rw [List.cons_append, sizesW, sizesW]
    exact sizesW_snoc l _ t
theorem take_snoc {α : Type} {l : List α} {i : Nat} {x : α} (h : l[i]? = some x) : l.take (i + 1) = l.take i ++ [x] := by rw [List.take_add_one, h]; rfl
theorem sizesW_succ {l : List GT} {a : Int} {i : Nat} {t : GT} (h : l[i]? = some t) : IntKind.i64.wrap (sizesW a (l.take i) + sizeW t) = sizesW a (l.take (i + 1)) := by rw [take_snoc h, sizesW_snoc]
theorem sizesW_all {k n : Int} {s : ByteArray} {A : Option Addr} {c : Nat} {kids : List GT} : sizesW 1 (kids.take kids.length) = sizeW (.mk k n s A c kids) := by rw [List.take_length, sizeW]
end Go.Proofs.YtanhhihechakhaaGreatDoor.TermP
set_option linter.unusedVariables false
set_option linter.unusedSimpArgs false
namespace Go.Proofs.YtanhhihechakhaaGreatDoor.WrP
open Go.RowKit Go.Proofs.YtanhhihechakhaaGreatDoor.E Go.Proofs.YtanhhihechakhaaGreatDoor.ReplP Go.Proofs.YtanhhihechakhaaGreatDoor.TokP Go.Proofs.YtanhhihechakhaaGreatDoor.TermP
/-- a name's text -/
def qL (s : ByteArray) : List UInt8 := quoteL s.data.toList (plainB s.data.toList)
def brL : ByteArray := ⟨#[91, 93]⟩
/-- .. with k arguments -/
def nmL (s : ByteArray) (k : Nat) : List UInt8 := if s = brL ∧ 0 < k then [39, 91, 93, 39] else qL s
mutual
def txt : Tm → List UInt8
  | .mk k n s kids => if k = 1 then 95 :: Lib.itoa n else if k = 2 then Lib.itoa n else if k = 3 then (if kids.length = 0 then qL s else nmL s kids.length ++ [40] ++ txts kids ++ [41]) else if k = 4 ∧ kids.length = 1 then [64, 40] ++ txts kids ++ [44] ++ Lib.itoa n ++ [41] else [63]
def txts : List Tm → List UInt8
  | [] => []
  | t :: r => txt t ++ txtsC r
def txtsC : List Tm → List UInt8
  | [] => []
  | t :: r => [44] ++ txt t ++ txtsC r
end
theorem txts_cons (t : Tm) (r : List Tm) : txts (t :: r) = txt t ++ txtsC r := by rw [txts]
theorem txtsC_cons (t : Tm) (r : List Tm) : txtsC (t :: r) = [44] ++ txt t ++ txtsC r := by rw [txtsC]
theorem txtsC_nil : txtsC [] = [] := by rw [txtsC]
theorem txtsC_snoc : ∀ (r : List Tm) (t : Tm), txtsC (r ++ [t]) = txtsC r ++ [44] ++ txt t
  | [], t => by rw [List.nil_append, txtsC_cons, txtsC_nil, List.nil_append, List.append_nil]
  | x :: r, t => by
    rw [List.cons_append, txtsC_cons, txtsC_cons, txtsC_snoc r t]
    simp only [List.append_assoc]
theorem txts_one (t : Tm) : txts [t] = txt t := by rw [txts_cons, txtsC_nil, List.append_nil]
theorem txts_nil : txts [] = [] := by rw [txts]
theorem txts_snoc {r : List Tm} (h : r ≠ []) (t : Tm) : txts (r ++ [t]) = txts r ++ [44] ++ txt t := by
  cases r with
  | nil => exact absurd rfl h
  | cons x r =>
    rw [List.cons_append, txts_cons, txts_cons, txtsC_snoc]
    simp only [List.append_assoc]
theorem txts_succ {l : List GT} {i : Nat} {t : GT} (h : l[i]? = some t) : txts ((l.take (i + 1)).map GT.tm) = txts ((l.take i).map GT.tm) ++ (if i = 0 then [] else [44]) ++ txt t.tm := by
  have hlt := (List.getElem?_eq_some_iff.1 h).1
  rw [take_snoc h, List.map_append]
  by_cases h0 : i = 0
  · subst h0
    rw [if_pos rfl, List.take_zero, List.map_nil, List.nil_append, List.map_cons, List.map_nil, txts_one, txts_nil, List.nil_append, List.nil_append]
  · rw [if_neg h0]
    exact txts_snoc (by intro h9; have := congrArg List.length h9; rw [List.length_map, List.length_take, List.length_nil] at this; omega) _
theorem txt_var {t : Tm} (h : t.k = 1) : txt t = 95 :: Lib.itoa t.n := by cases t; rw [txt]; exact if_pos h
theorem txt_int {t : Tm} (h : t.k = 2) : txt t = Lib.itoa t.n := by
  cases t with
  | mk k n s kids =>
    have h : k = 2 := h
    rw [txt, h]
    rfl
theorem txt_fun {k n : Int} {s : ByteArray} {kids : List Tm} (h : k = 3) : txt (.mk k n s kids) = if kids.length = 0 then qL s else nmL s kids.length ++ [40] ++ txts kids ++ [41] := by
  rw [txt, h]
  rfl
theorem txt_seal {k n : Int} {s : ByteArray} {kids : List Tm} (h : k = 4) (hk : kids.length = 1) : txt (.mk k n s kids) = [64, 40] ++ txts kids ++ [44] ++ Lib.itoa n ++ [41] := by
  rw [txt, if_neg (by omega), if_neg (by omega), if_neg (by omega), if_pos ⟨h, hk⟩]
theorem txt_else {k n : Int} {s : ByteArray} {kids : List Tm} (h1 : ¬ k = 1) (h2 : ¬ k = 2) (h3 : ¬ k = 3) (h4 : ¬ (k = 4 ∧ kids.length = 1)) : txt (.mk k n s kids) = [63] := by
  rw [txt, if_neg h1, if_neg h2, if_neg h3, if_neg h4]
/-! figures -/
theorem dec_fig : ∀ (k n : Nat), n ≤ k → Lib.decDigits n = figL n
  | k, n, h => by
    by_cases hn : n < 10
    · rw [Lib.decDigits, dif_pos hn, fig_lt hn]
    · match k, h with
      | 0, h => omega
      | k + 1, h => rw [Lib.decDigits, dif_neg hn, fig_ge hn, dec_fig k (n / 10) (by omega)]
theorem itoa_neg {n : Int} (h : n < 0) : Lib.itoa n = 45 :: figL n.natAbs := by
  unfold Lib.itoa
  rw [if_pos h, dec_fig _ _ (Nat.le_refl _)]
theorem itoa_pos {n : Int} (h : ¬ n < 0) : Lib.itoa n = figL n.toNat := by
  unfold Lib.itoa
  rw [if_neg h, dec_fig _ _ (Nat.le_refl _)]
theorem fig_inj {a b : Nat} (h : figL a = figL b) : a = b := by
  have h1 := (fig_all a a (Nat.le_refl _)).2.1
  have h2 := (fig_all b b (Nat.le_refl _)).2.1
  rw [h, h2] at h1
  exact h1.symm
/-- what may stand behind a term -/
def Dl (x : List UInt8) : Prop := x = [] ∨ ∃ r, x = 44 :: r ∨ x = 41 :: r
theorem dl_digit {x : List UInt8} (h : Dl x) : runB digitB x = 0 := by
  rcases h with rfl | ⟨r, rfl | rfl⟩
  · rfl
  · exact runB_no (by decide)
  · exact runB_no (by decide)
theorem run_plus {p : UInt8 → Bool} : ∀ (u x : List UInt8), u.all p = true → runB p x = 0 → runB p (u ++ x) = u.length
  | [], x, _, h => h
  | c :: u, x, hu, h => by
    rw [List.all_cons, Bool.and_eq_true] at hu
    rw [List.cons_append, runB_yes hu.1, run_plus u x hu.2 h]
    rfl
theorem run_cut {p : UInt8 → Bool} {u v x y : List UInt8} (hu : u.all p = true) (hv : v.all p = true) (hx : runB p x = 0) (hy : runB p y = 0) (h : u ++ x = v ++ y) : u = v ∧ x = y := by
  have h1 := run_plus u x hu hx
  have h2 := run_plus v y hv hy
  rw [h, h2] at h1
  exact List.append_inj h h1.symm
theorem figc {n : Nat} {x : List UInt8} : ∃ c t, figL n ++ x = c :: t ∧ digitB c = true := by
  obtain ⟨c, t, h, hd⟩ := fig_cons n
  exact ⟨c, t ++ x, by rw [h]; rfl, hd⟩
theorem itoa_cut {n m : Int} {x y : List UInt8} (hx : Dl x) (hy : Dl y) (h : Lib.itoa n ++ x = Lib.itoa m ++ y) : n = m ∧ x = y := by
  have fc := fun (a b : Nat) (h : figL a ++ x = figL b ++ y) => run_cut (fig_all a a (Nat.le_refl _)).1 (fig_all b b (Nat.le_refl _)).1 (dl_digit hx) (dl_digit hy) h
  by_cases hn : n < 0
  · by_cases hm : m < 0
    · rw [itoa_neg hn, itoa_neg hm, List.cons_append, List.cons_append, List.cons.injEq] at h
      have h1 := fc _ _ h.2
      have h2 := fig_inj h1.1
      exact ⟨by omega, h1.2⟩
    · rw [itoa_neg hn, itoa_pos hm, List.cons_append] at h
      obtain ⟨c, t, hc, hd⟩ := figc (n := m.toNat) (x := y)
      rw [hc, List.cons.injEq] at h
      rw [← h.1] at hd
      exact absurd hd (by decide)
  · by_cases hm : m < 0
    · rw [itoa_pos hn, itoa_neg hm, List.cons_append] at h
      obtain ⟨c, t, hc, hd⟩ := figc (n := n.toNat) (x := x)
      rw [hc, List.cons.injEq] at h
      rw [h.1] at hd
      exact absurd hd (by decide)
    · rw [itoa_pos hn, itoa_pos hm] at h
      have h1 := fc _ _ h
      have h2 := fig_inj h1.1
      exact ⟨by omega, h1.2⟩
/-- a number's text begins with a figure, or with a minus and a figure -/
theorem itoa_head (n : Int) (x : List UInt8) : (∃ c t, Lib.itoa n ++ x = c :: t ∧ digitB c = true) ∨ (∃ c t, Lib.itoa n ++ x = 45 :: c :: t ∧ digitB c = true) := by
  by_cases hn : n < 0
  · rw [itoa_neg hn, List.cons_append]
    obtain ⟨c, t, hc, hd⟩ := figc (n := n.natAbs) (x := x)
    exact .inr ⟨c, t, by rw [hc], hd⟩
  · rw [itoa_pos hn]
    obtain ⟨c, t, hc, hd⟩ := figc (n := n.toNat) (x := x)
    exact .inl ⟨c, t, hc, hd⟩
/-! names -/
theorem one_ne (c : UInt8) : ∃ d t, one c = d :: t := by
  by_cases h10 : c = 10
  · subst h10; exact ⟨_, _, rfl⟩
  by_cases h92 : c = 92
  · subst h92; exact ⟨_, _, rfl⟩
  by_cases h39 : c = 39
  · subst h39; exact ⟨_, _, rfl⟩
  exact ⟨c, [], one_no (by unfold isSp; simp [h10, h92, h39])⟩
theorem repl_cons (c : UInt8) (l : List UInt8) : repl (c :: l) = one c ++ repl l := by simp [repl]
/-- a mark ends a name in marks, unless one more stands behind it -/
theorem repl_cut : ∀ (l m x y : List UInt8), (∀ r, x ≠ 39 :: r) → (∀ r, y ≠ 39 :: r) → repl l ++ 39 :: x = repl m ++ 39 :: y → l = m ∧ x = y
  | [], [], x, y, _, _, h => by
    have h : 39 :: x = 39 :: y := h
    exact ⟨rfl, (List.cons.inj h).2⟩
  | [], c :: m, x, y, hx, _, h => by
    have h : 39 :: x = repl (c :: m) ++ 39 :: y := h
    rw [repl_cons] at h
    exfalso
    by_cases h39 : c = 39
    · subst h39
      have h : 39 :: x = 39 :: (39 :: (repl m ++ 39 :: y)) := h
      exact hx _ (List.cons.inj h).2
    · by_cases hs : isSp c = true
      · unfold isSp at hs
        simp [h39] at hs
        rcases hs with rfl | rfl
        · have h : (39 :: x : List UInt8) = 92 :: (110 :: (repl m ++ 39 :: y)) := h
          exact absurd (List.cons.inj h).1 (by decide)
        · have h : (39 :: x : List UInt8) = 92 :: (92 :: (repl m ++ 39 :: y)) := h
          exact absurd (List.cons.inj h).1 (by decide)
      · rw [one_no (by simpa using hs)] at h
        have h : 39 :: x = c :: (repl m ++ 39 :: y) := h
        exact h39 (List.cons.inj h).1.symm
  | c :: l, [], x, y, hx, hy, h => by
    have h1 := repl_cut [] (c :: l) y x hy hx h.symm
    exact absurd h1.1 (by simp)
  | c :: l, d :: m, x, y, hx, hy, h => by
    rw [repl_cons, repl_cons, List.append_assoc, List.append_assoc] at h
    have key : c = d ∧ repl l ++ 39 :: x = repl m ++ 39 :: y := by
      have sp : ∀ c : UInt8, c = 10 ∨ c = 92 ∨ c = 39 ∨ (one c = [c] ∧ ¬ c = 10 ∧ ¬ c = 92 ∧ ¬ c = 39) := fun c => by
        by_cases h10 : c = 10
        · exact .inl h10
        by_cases h92 : c = 92
        · exact .inr (.inl h92)
        by_cases h39 : c = 39
        · exact .inr (.inr (.inl h39))
        exact .inr (.inr (.inr ⟨one_no (by unfold isSp; simp [h10, h92, h39]), h10, h92, h39⟩))
      have o10 : one 10 = [92, 110] := rfl
      have o92 : one 92 = [92, 92] := rfl
      have o39 : one 39 = [39, 39] := rfl
      clear hx hy
      rcases sp c with rfl | rfl | rfl | ⟨hc, c1, c2, c3⟩ <;> rcases sp d with rfl | rfl | rfl | ⟨hd, d1, d2, d3⟩ <;> simp_all
    have ih := repl_cut l m x y hx hy key.2
    exact ⟨by rw [key.1, ih.1], ih.2⟩
theorem q_not {x : List UInt8} (h : Dl x ∨ ∃ r, x = 40 :: r) : ∀ r, x ≠ 39 :: r := fun r hr => by
  subst hr
  rcases h with (h | ⟨s, h | h⟩) | ⟨s, h⟩
  · cases h
  · exact absurd (List.cons.inj h).1 (by decide)
  · exact absurd (List.cons.inj h).1 (by decide)
  · exact absurd (List.cons.inj h).1 (by decide)
/-- what plain names are -/
inductive Pn : List UInt8 → Prop
  | br : Pn [91, 93]
  | ex : Pn [33]
  | se : Pn [59]
  | lo (c : UInt8) (t : List UInt8) (h : smallB c = true) (ha : (c :: t).all letterB = true) : Pn (c :: t)
  | si (c : UInt8) (t : List UInt8) (ha : (c :: t).all signB = true) (h46 : ¬ (c :: t) = [46]) : Pn (c :: t)
theorem plain_pn {l : List UInt8} (h : plainB l = true) : Pn l := by
  have h1 : (l == [] || l == [46]) = false := by
    cases h1 : (l == [] || l == [46]) with
    | false => rfl
    | true => unfold plainB at h; rw [if_pos h1] at h; cases h
  rw [Bool.or_eq_false_iff, beq_eq_false_iff_ne, beq_eq_false_iff_ne] at h1
  obtain ⟨c, t, rfl⟩ := List.exists_cons_of_ne_nil h1.1
  by_cases h91 : c :: t = [91, 93]
  · rw [h91]; exact .br
  by_cases h33 : c :: t = [33]
  · rw [h33]; exact .ex
  by_cases h59 : c :: t = [59]
  · rw [h59]; exact .se
  rw [plain_end (l := c :: t) (by simp) (by rw [beq_eq_false_iff_ne]; exact h1.2) (by rw [beq_eq_false_iff_ne]; exact h91) (by rw [beq_eq_false_iff_ne]; exact h33) (by rw [beq_eq_false_iff_ne]; exact h59)] at h
  rcases (Bool.or_eq_true _ _).mp h with h | h
  · rw [Bool.and_eq_true] at h
    exact .lo c t h.1 h.2
  · exact .si c t h h1.2
/-- the kinds of a name's first byte -/
def kindB (c : UInt8) : Nat := if smallB c = true then 1 else if signB c = true then 2 else if c = 91 then 3 else if c = 33 then 4 else if c = 59 then 5 else 6
theorem small_sign {c : UInt8} (h : smallB c = true) : signB c = false := by
  cases hs : signB c with
  | false => rfl
  | true => rw [(sign_kind c hs).1] at h; cases h
theorem dl_run {p : UInt8 → Bool} (h40 : p 40 = false) (h41 : p 41 = false) (h44 : p 44 = false) {x : List UInt8} (h : Dl x ∨ ∃ r, x = 40 :: r) : runB p x = 0 := by
  rcases h with (rfl | ⟨s, rfl | rfl⟩) | ⟨s, rfl⟩
  · rfl
  · exact runB_no h44
  · exact runB_no h41
  · exact runB_no h40
theorem pn_cut {l m x y : List UInt8} (hl : Pn l) (hm : Pn m) (hx : Dl x ∨ ∃ r, x = 40 :: r) (hy : Dl y ∨ ∃ r, y = 40 :: r) (h : l ++ x = m ++ y) : l = m ∧ x = y := by
  have hlet := @run_cut letterB l m x y
  have hsig := @run_cut signB l m x y
  have lx := dl_run (p := letterB) (by decide) (by decide) (by decide) hx
  have ly := dl_run (p := letterB) (by decide) (by decide) (by decide) hy
  have sx := dl_run (p := signB) (by decide) (by decide) (by decide) hx
  have sy := dl_run (p := signB) (by decide) (by decide) (by decide) hy
  have hd : ∀ (c : UInt8) (t : List UInt8), (c :: t).all signB = true → signB c = true := fun c t ha => by
    rw [List.all_cons, Bool.and_eq_true] at ha
    exact ha.1
  cases hl with
  | br =>
    cases hm with
    | br => exact ⟨rfl, (List.append_inj h rfl).2⟩
    | ex => exact absurd (List.cons.inj h).1 (by decide)
    | se => exact absurd (List.cons.inj h).1 (by decide)
    | lo c t hc ha => have := (List.cons.inj h).1; rw [← this] at hc; exact absurd hc (by decide)
    | si c t ha h46 => have := (List.cons.inj h).1; have hc := hd c t ha; rw [← this] at hc; exact absurd hc (by decide)
  | ex =>
    cases hm with
    | br => exact absurd (List.cons.inj h).1 (by decide)
    | ex => exact ⟨rfl, (List.append_inj h rfl).2⟩
    | se => exact absurd (List.cons.inj h).1 (by decide)
    | lo c t hc ha => have := (List.cons.inj h).1; rw [← this] at hc; exact absurd hc (by decide)
    | si c t ha h46 => have := (List.cons.inj h).1; have hc := hd c t ha; rw [← this] at hc; exact absurd hc (by decide)
  | se =>
    cases hm with
    | br => exact absurd (List.cons.inj h).1 (by decide)
    | ex => exact absurd (List.cons.inj h).1 (by decide)
    | se => exact ⟨rfl, (List.append_inj h rfl).2⟩
    | lo c t hc ha => have := (List.cons.inj h).1; rw [← this] at hc; exact absurd hc (by decide)
    | si c t ha h46 => have := (List.cons.inj h).1; have hc := hd c t ha; rw [← this] at hc; exact absurd hc (by decide)
  | lo c t hc ha =>
    cases hm with
    | br => have := (List.cons.inj h).1; rw [this] at hc; exact absurd hc (by decide)
    | ex => have := (List.cons.inj h).1; rw [this] at hc; exact absurd hc (by decide)
    | se => have := (List.cons.inj h).1; rw [this] at hc; exact absurd hc (by decide)
    | lo c2 t2 hc2 ha2 => exact hlet ha ha2 lx ly h
    | si c2 t2 ha2 h46 =>
      have := (List.cons.inj h).1
      have h2 := hd c2 t2 ha2
      rw [← this, small_sign hc] at h2
      cases h2
  | si c t ha h46 =>
    cases hm with
    | br => have := (List.cons.inj h).1; have hc := hd c t ha; rw [this] at hc; exact absurd hc (by decide)
    | ex => have := (List.cons.inj h).1; have hc := hd c t ha; rw [this] at hc; exact absurd hc (by decide)
    | se => have := (List.cons.inj h).1; have hc := hd c t ha; rw [this] at hc; exact absurd hc (by decide)
    | lo c2 t2 hc2 ha2 =>
      have := (List.cons.inj h).1
      have h2 := hd c t ha
      rw [this, small_sign hc2] at h2
      cases h2
    | si c2 t2 ha2 h462 => exact hsig ha ha2 sx sy h
theorem pn_mark {l x r : List UInt8} (h : Pn l) : l ++ x ≠ 39 :: r := fun he => by
  cases h with
  | br => exact absurd (List.cons.inj he).1 (by decide)
  | ex => exact absurd (List.cons.inj he).1 (by decide)
  | se => exact absurd (List.cons.inj he).1 (by decide)
  | lo c t hc ha =>
    have := (List.cons.inj he).1
    rw [this] at hc
    exact absurd hc (by decide)
  | si c t ha h46 =>
    have := (List.cons.inj he).1
    rw [List.all_cons, Bool.and_eq_true, this] at ha
    exact absurd ha.1 (by decide)
theorem q_plain {s : ByteArray} (h : plainB s.data.toList = true) : qL s = s.data.toList := by unfold qL quoteL; rw [if_pos h]
theorem q_mark {s : ByteArray} (h : ¬ plainB s.data.toList = true) : qL s = 39 :: (repl s.data.toList ++ [39]) := by unfold qL quoteL; rw [if_neg h]; rfl
theorem ba_inj {s t : ByteArray} (h : s.data.toList = t.data.toList) : s = t := by rw [← ba_eta s, ← ba_eta t, h]
theorem q_cut {s t : ByteArray} {x y : List UInt8} (hx : Dl x ∨ ∃ r, x = 40 :: r) (hy : Dl y ∨ ∃ r, y = 40 :: r) (h : qL s ++ x = qL t ++ y) : s = t ∧ x = y := by
  by_cases hs : plainB s.data.toList = true
  · by_cases ht : plainB t.data.toList = true
    · rw [q_plain hs, q_plain ht] at h
      have h1 := pn_cut (plain_pn hs) (plain_pn ht) hx hy h
      exact ⟨ba_inj h1.1, h1.2⟩
    · rw [q_plain hs, q_mark ht] at h
      exact absurd h (pn_mark (plain_pn hs))
  · by_cases ht : plainB t.data.toList = true
    · rw [q_mark hs, q_plain ht] at h
      exact absurd h.symm (pn_mark (plain_pn ht))
    · rw [q_mark hs, q_mark ht, List.cons_append, List.cons_append, List.cons.injEq, List.append_assoc, List.append_assoc] at h
      have h1 := repl_cut _ _ x y (q_not hx) (q_not hy) h.2
      exact ⟨ba_inj h1.1, h1.2⟩
theorem q_inj {s t : ByteArray} (h : qL s = qL t) : s = t := by
  have h1 : qL s ++ [] = qL t ++ [] := by rw [h]
  exact (q_cut (.inl (.inl rfl)) (.inl (.inl rfl)) h1).1
/-- a name's text is no number's, and no variable's -/
theorem q_itoa (s : ByteArray) (n : Int) (x y : List UInt8) : qL s ++ x ≠ Lib.itoa n ++ y ∨ ∃ r, x = r ∧ s = ⟨#[45]⟩ := by
  by_cases h45 : s = ⟨#[45]⟩
  · exact .inr ⟨x, rfl, h45⟩
  refine .inl fun h => ?_
  have nd : ∀ (c : UInt8) (t : List UInt8), qL s ++ x = c :: t → digitB c = true → False := fun c t hc hd => by
    by_cases hs : plainB s.data.toList = true
    · rw [q_plain hs] at hc
      have hp := plain_pn hs
      cases hp' : s.data.toList with
      | nil => rw [hp'] at hp; cases hp
      | cons d r =>
        rw [hp'] at hc hp
        have e := (List.cons.inj hc).1
        subst e
        cases hp with
        | br => exact absurd hd (by decide)
        | ex => exact absurd hd (by decide)
        | se => exact absurd hd (by decide)
        | lo _ _ hc2 ha => rw [(digit_kind hd).2.2.1] at hc2; cases hc2
        | si _ _ ha h46 =>
          rw [List.all_cons, Bool.and_eq_true] at ha
          rw [(sign_kind _ ha.1).2.2.1] at hd
          cases hd
    · rw [q_mark hs, List.cons_append] at hc
      have e := (List.cons.inj hc).1
      rw [← e] at hd
      exact absurd hd (by decide)
  rcases itoa_head n y with ⟨c, t, hc, hd⟩ | ⟨c, t, hc, hd⟩
  · exact nd c t (h.trans hc) hd
  · rw [hc] at h
    by_cases hs : plainB s.data.toList = true
    · rw [q_plain hs] at h
      have hp := plain_pn hs
      match hp' : s.data.toList with
      | [] => rw [hp'] at hp; cases hp
      | [d] =>
        rw [hp'] at h
        have e := (List.cons.inj h).1
        exact h45 (ba_inj (by rw [hp', e]))
      | d :: d2 :: r =>
        rw [hp'] at h hp
        have e := List.cons.inj h
        have e2 := (List.cons.inj e.2).1
        rw [e.1, e2] at hp
        cases hp with
        | lo _ _ hc2 ha => exact absurd hc2 (by decide)
        | si _ _ ha h46 =>
          rw [List.all_cons, List.all_cons, Bool.and_eq_true, Bool.and_eq_true] at ha
          rw [(sign_kind _ ha.2.1).2.2.1] at hd
          cases hd
    · rw [q_mark hs, List.cons_append] at h
      exact absurd (List.cons.inj h).1 (by decide)
theorem q_no_int {s : ByteArray} {n : Int} {x y : List UInt8} (hx : Dl x ∨ ∃ r, x = 40 :: r) (h : qL s ++ x = Lib.itoa n ++ y) : False := by
  rcases q_itoa s n x y with h1 | ⟨_, _, rfl⟩
  · exact h1 h
  · have hp : plainB (⟨#[45]⟩ : ByteArray).data.toList = true := by decide
    rw [q_plain hp] at h
    have h : 45 :: x = Lib.itoa n ++ y := h
    rcases itoa_head n y with ⟨c, t, hc, hd⟩ | ⟨c, t, hc, hd⟩
    · rw [hc] at h
      have e := (List.cons.inj h).1
      rw [← e] at hd
      exact absurd hd (by decide)
    · rw [hc] at h
      have e := (List.cons.inj h).2
      have := dl_run (p := digitB) (by decide) (by decide) (by decide) hx
      rw [e, runB_yes hd] at this
      omega
theorem q_no_var {s : ByteArray} {x y : List UInt8} (h : qL s ++ x = 95 :: y) : False := by
  by_cases hs : plainB s.data.toList = true
  · rw [q_plain hs] at h
    have hp := plain_pn hs
    cases hp' : s.data.toList with
    | nil => rw [hp'] at hp; cases hp
    | cons d r =>
      rw [hp'] at h hp
      have e := (List.cons.inj h).1
      subst e
      cases hp with
      | lo _ _ hc2 ha => exact absurd hc2 (by decide)
      | si _ _ ha h46 =>
        rw [List.all_cons, Bool.and_eq_true] at ha
        exact absurd ha.1 (by decide)
  · rw [q_mark hs, List.cons_append] at h
    exact absurd (List.cons.inj h).1 (by decide)
end Go.Proofs.YtanhhihechakhaaGreatDoor.WrP
set_option linter.unusedVariables false
set_option linter.unusedSimpArgs false
namespace Go.Proofs.YtanhhihechakhaaGreatDoor.WrP
open Go.RowKit Go.Proofs.YtanhhihechakhaaGreatDoor.E Go.Proofs.YtanhhihechakhaaGreatDoor.ReplP Go.Proofs.YtanhhihechakhaaGreatDoor.TokP Go.Proofs.YtanhhihechakhaaGreatDoor.TermP
def atS : ByteArray := ⟨#[64]⟩
inductive Good : Tm → Prop
  | var (n : Int) : Good (.mk 1 n ⟨#[]⟩ [])
  | int (n : Int) : Good (.mk 2 n ⟨#[]⟩ [])
  | fn (s : ByteArray) (kids : List Tm) (hat : ¬ (s = atS ∧ kids.length = 2)) (hk : ∀ t ∈ kids, Good t) : Good (.mk 3 0 s kids)
  | sld (n : Int) (t : Tm) (hk : Good t) : Good (.mk 4 n ⟨#[]⟩ [t])
abbrev Dn (x : List UInt8) : Prop := Dl x ∨ ∃ r, x = 40 :: r
theorem nm_or (s : ByteArray) (k : Nat) : (nmL s k = qL s ∧ ¬ (s = brL ∧ 0 < k)) ∨ (nmL s k = [39, 91, 93, 39] ∧ s = brL) := by
  unfold nmL
  by_cases h : s = brL ∧ 0 < k
  · rw [if_pos h]; exact .inr ⟨rfl, h.1⟩
  · rw [if_neg h]; exact .inl ⟨rfl, h⟩
theorem q_br {s : ByteArray} {x y : List UInt8} (hx : Dn x) (hy : Dn y) (h : qL s ++ x = [39, 91, 93, 39] ++ y) : False := by
  by_cases hs : plainB s.data.toList = true
  · rw [q_plain hs] at h
    exact pn_mark (plain_pn hs) h
  · rw [q_mark hs, List.cons_append, List.append_assoc] at h
    have h2 : repl s.data.toList ++ 39 :: x = repl [91, 93] ++ 39 :: y := (List.cons.inj h).2
    have h3 := repl_cut _ _ x y (q_not hx) (q_not hy) h2
    rw [h3.1] at hs
    exact hs (by decide)
theorem nm_cut {s t : ByteArray} {k j : Nat} {x y : List UInt8} (hx : Dn x) (hy : Dn y) (h : nmL s k ++ x = nmL t j ++ y) : s = t ∧ x = y := by
  rcases nm_or s k with ⟨e1, _⟩ | ⟨e1, e2⟩ <;> rcases nm_or t j with ⟨e3, _⟩ | ⟨e3, e4⟩ <;> rw [e1, e3] at h
  · exact q_cut hx hy h
  · exact (q_br hx hy h).elim
  · exact (q_br hy hx h.symm).elim
  · exact ⟨e2.trans e4.symm, (List.append_inj h rfl).2⟩
theorem nm_no_int {s : ByteArray} {k : Nat} {n : Int} {x y : List UInt8} (hx : Dn x) (h : nmL s k ++ x = Lib.itoa n ++ y) : False := by
  rcases nm_or s k with ⟨e1, _⟩ | ⟨e1, _⟩ <;> rw [e1] at h
  · exact q_no_int hx h
  · rcases itoa_head n y with ⟨c, t, hc, hd⟩ | ⟨c, t, hc, hd⟩
    · rw [hc] at h
      have e := (List.cons.inj h).1
      rw [← e] at hd
      exact absurd hd (by decide)
    · rw [hc] at h
      exact absurd (List.cons.inj h).1 (by decide)
theorem nm_no_var {s : ByteArray} {k : Nat} {x y : List UInt8} (h : nmL s k ++ x = 95 :: y) : False := by
  rcases nm_or s k with ⟨e1, _⟩ | ⟨e1, _⟩ <;> rw [e1] at h
  · exact q_no_var h
  · exact absurd (List.cons.inj h).1 (by decide)
theorem itoa_no {n : Int} {c : UInt8} {x y : List UInt8} (hd : digitB c = false) (h45 : ¬ c = 45) (h : Lib.itoa n ++ x = c :: y) : False := by
  rcases itoa_head n x with ⟨d, t, hc, hd2⟩ | ⟨d, t, hc, hd2⟩
  · rw [hc] at h
    rw [(List.cons.inj h).1, hd] at hd2
    cases hd2
  · rw [hc] at h
    exact h45 (List.cons.inj h).1.symm
theorem q_at : qL atS = [64] := q_plain (by decide)
theorem nm_at (k : Nat) : nmL atS k = [64] := by
  rcases nm_or atS k with ⟨e1, _⟩ | ⟨_, e2⟩
  · rw [e1, q_at]
  · exact absurd e2 (by decide)
theorem nm0 (s : ByteArray) : nmL s 0 = qL s := by
  unfold nmL
  rw [if_neg (by omega)]
/-- a term's text, by its name and what stands behind -/
theorem txt_nm (s : ByteArray) (n : Int) (kids : List Tm) : txt (.mk 3 n s kids) = nmL s kids.length ++ (if kids.length = 0 then [] else [40] ++ txts kids ++ [41]) := by
  rw [txt_fun rfl]
  split
  · rename_i h
    rw [h, nm0, List.append_nil]
  · simp only [List.append_assoc]
theorem txt_nmx (s : ByteArray) (n : Int) (kids : List Tm) (x : List UInt8) : txt (.mk 3 n s kids) ++ x = nmL s kids.length ++ ((if kids.length = 0 then [] else [40] ++ txts kids ++ [41]) ++ x) := by rw [txt_nm, List.append_assoc]
theorem txt_v (n : Int) (s : ByteArray) (kids : List Tm) (x : List UInt8) : txt (.mk 1 n s kids) ++ x = 95 :: (Lib.itoa n ++ x) := by rw [txt_var rfl]; rfl
theorem txt_i (n : Int) (s : ByteArray) (kids : List Tm) (x : List UInt8) : txt (.mk 2 n s kids) ++ x = Lib.itoa n ++ x := by rw [txt_int rfl]; rfl
theorem fun_rest {kids : List Tm} {x : List UInt8} (hx : Dl x) : Dn ((if kids.length = 0 then [] else [40] ++ txts kids ++ [41]) ++ x) := by
  split
  · exact .inl hx
  · exact .inr ⟨_, rfl⟩
theorem dl44 (x : List UInt8) : Dl (44 :: x) := .inr ⟨x, .inl rfl⟩
theorem dl41 (x : List UInt8) : Dl (41 :: x) := .inr ⟨x, .inr rfl⟩
theorem dlC (r : List Tm) (x : List UInt8) : Dl (txtsC r ++ 41 :: x) := by
  cases r with
  | nil => rw [txtsC_nil]; exact dl41 x
  | cons t r => rw [txtsC_cons]; exact dl44 _
def CutT (t : Tm) : Prop := ∀ u x y, Good t → Good u → Dl x → Dl y → txt t ++ x = txt u ++ y → t = u ∧ x = y
theorem txt_sealed (n : Int) (s : ByteArray) (t : Tm) (x : List UInt8) : txt (.mk 4 n s [t]) ++ x = 64 :: 40 :: (txt t ++ 44 :: (Lib.itoa n ++ 41 :: x)) := by
  rw [txt_seal rfl rfl, txts_one]
  simp
theorem int_cut {n : Int} {u : Tm} {x y : List UInt8} (hu : Good u) (hx : Dl x) (hy : Dl y) (h : Lib.itoa n ++ x = txt u ++ y) : u = .mk 2 n ⟨#[]⟩ [] ∧ x = y := by
  cases hu with
  | var m =>
    rw [txt_v] at h
    exact (itoa_no (by decide) (by decide) h).elim
  | int m =>
    rw [txt_i] at h
    have h1 := itoa_cut hx hy h
    have h2 : n = m := h1.1
    exact ⟨by rw [h2], h1.2⟩
  | fn s kids hat hk =>
    rw [txt_nmx] at h
    exact (nm_no_int (fun_rest hy) h.symm).elim
  | sld m t hk =>
    rw [txt_sealed] at h
    exact (itoa_no (by decide) (by decide) h).elim
theorem kidsC_cut : ∀ (r r' : List Tm) (x y : List UInt8), (∀ t ∈ r, CutT t) → (∀ t ∈ r, Good t) → (∀ t ∈ r', Good t) → txtsC r ++ 41 :: x = txtsC r' ++ 41 :: y → r = r' ∧ x = y
  | [], [], x, y, _, _, _, h => by
    rw [txtsC_nil] at h
    exact ⟨rfl, (List.cons.inj h).2⟩
  | [], u :: r', x, y, _, _, _, h => by
    rw [txtsC_nil, txtsC_cons] at h
    exact absurd (List.cons.inj h).1 (by decide)
  | t :: r, [], x, y, _, _, _, h => by
    rw [txtsC_nil, txtsC_cons] at h
    exact absurd (List.cons.inj h).1 (by decide)
  | t :: r, u :: r', x, y, hc, hg, hg', h => by
    rw [txtsC_cons, txtsC_cons] at h
    simp only [List.append_assoc, List.cons_append, List.nil_append, List.cons.injEq, true_and] at h
    have h1 := hc t (List.mem_cons_self) u _ _ (hg t (List.mem_cons_self)) (hg' u (List.mem_cons_self)) (dlC r x) (dlC r' y) h
    have h2 := kidsC_cut r r' x y (fun t ht => hc t (List.mem_cons_of_mem _ ht)) (fun t ht => hg t (List.mem_cons_of_mem _ ht)) (fun t ht => hg' t (List.mem_cons_of_mem _ ht)) h1.2
    exact ⟨by rw [h1.1, h2.1], h2.2⟩
theorem kids_cut {r r' : List Tm} {x y : List UInt8} (h0 : r ≠ []) (h0' : r' ≠ []) (hc : ∀ t ∈ r, CutT t) (hg : ∀ t ∈ r, Good t) (hg' : ∀ t ∈ r', Good t) (h : txts r ++ 41 :: x = txts r' ++ 41 :: y) : r = r' ∧ x = y := by
  have e : ∀ (r : List Tm) (x : List UInt8), r ≠ [] → txtsC r ++ 41 :: x = 44 :: (txts r ++ 41 :: x) := fun r x hr => by
    cases r with
    | nil => exact absurd rfl hr
    | cons t r =>
      rw [txtsC_cons, txts_cons]
      simp
  exact kidsC_cut r r' x y hc hg hg' (by rw [e r x h0, e r' y h0', h])
theorem len_ne {α : Type} {l : List α} (h : ¬ l.length = 0) : l ≠ [] := fun h9 => h (by rw [h9]; rfl)
/-- a Fun and a seal -/
theorem fun_seal {s : ByteArray} {kids : List Tm} {n : Int} {u : Tm} {x y : List UInt8} (hat : ¬ (s = atS ∧ kids.length = 2)) (hk : ∀ t ∈ kids, Good t) (hu : Good u) (hx : Dl x) (hc : (∀ t ∈ kids, CutT t) ∨ CutT u)
    (h : txt (.mk 3 0 s kids) ++ x = 64 :: 40 :: (txt u ++ 44 :: (Lib.itoa n ++ 41 :: y))) : False := by
  rw [txt_nmx] at h
  have e : ∀ z : List UInt8, 64 :: z = nmL atS 1 ++ z := fun z => by rw [nm_at]; rfl
  rw [e] at h
  have h1 := nm_cut (fun_rest hx) (.inr ⟨_, rfl⟩) h
  by_cases h0 : kids.length = 0
  · have h2 := h1.2
    rw [if_pos h0, List.nil_append] at h2
    subst h2
    rcases hx with hx | ⟨r, hx | hx⟩
    · cases hx
    · exact absurd (List.cons.inj hx).1 (by decide)
    · exact absurd (List.cons.inj hx).1 (by decide)
  · have h2 := h1.2
    rw [if_neg h0] at h2
    simp only [List.append_assoc, List.cons_append, List.nil_append, List.cons.injEq, true_and] at h2
    have sym : ∀ a ∈ kids, ∀ X Y, Dl X → Dl Y → txt a ++ X = txt u ++ Y → X = Y := fun a ha X Y hX hY he => by
      rcases hc with hc | hc
      · exact (hc a ha u X Y (hk a ha) hu hX hY he).2
      · exact (hc a Y X hu (hk a ha) hY hX he.symm).2.symm
    match kids, h0, hk, hat, h2, sym with
    | [], h0, _, _, _, _ => exact h0 rfl
    | [a], _, hk, _, h2, sym =>
      rw [txts_one] at h2
      have h3 := sym a (List.mem_cons_self) _ _ (dl41 x) (dl44 _) h2
      exact absurd (List.cons.inj h3).1 (by decide)
    | [a, b], _, _, hat, _, _ => exact hat ⟨h1.1, rfl⟩
    | a :: b :: c :: r, _, hk, _, h2, sym =>
      rw [txts_cons, txtsC_cons] at h2
      simp only [List.append_assoc, List.cons_append, List.nil_append] at h2
      have h3 := sym a (List.mem_cons_self) _ _ (dl44 _) (dl44 _) h2
      simp only [List.cons.injEq, true_and] at h3
      have h4 := int_cut (hk b (by simp)) (dl41 y) (dlC (c :: r) x) h3.symm
      have h5 := h4.2
      rw [txtsC_cons] at h5
      exact absurd (List.cons.inj h5).1 (by decide)
theorem txt_cut : ∀ t, CutT t := fun t => by
  induction t using Tm.ind with
  | h k n s kids ih =>
    intro u x y ht hu hx hy h
    cases ht with
    | var m =>
      rw [txt_v] at h
      cases hu with
      | var m2 =>
        rw [txt_v, List.cons.injEq] at h
        have h1 := itoa_cut hx hy h.2
        have h2 : n = m2 := h1.1
        exact ⟨by rw [h2], h1.2⟩
      | int m2 =>
        rw [txt_i] at h
        exact (itoa_no (by decide) (by decide) h.symm).elim
      | fn s2 kids2 hat2 hk2 =>
        rw [txt_nmx] at h
        exact (nm_no_var h.symm).elim
      | sld m2 t2 hk2 =>
        rw [txt_sealed] at h
        exact absurd (List.cons.inj h).1 (by decide)
    | int m =>
      rw [txt_i] at h
      have h1 := int_cut hu hx hy h
      exact ⟨h1.1.symm, h1.2⟩
    | fn _ _ hat hk =>
      cases hu with
      | var m2 =>
        rw [txt_v, txt_nmx] at h
        exact (nm_no_var h).elim
      | int m2 =>
        rw [txt_i, txt_nmx] at h
        exact (nm_no_int (fun_rest hx) h).elim
      | fn s2 kids2 hat2 hk2 =>
        rw [txt_nmx, txt_nmx] at h
        have h1 := nm_cut (fun_rest hx) (fun_rest hy) h
        obtain ⟨rfl, h2⟩ := h1
        by_cases h0 : kids.length = 0
        · by_cases h02 : kids2.length = 0
          · rw [if_pos h0, if_pos h02, List.nil_append, List.nil_append] at h2
            have e1 := List.eq_nil_of_length_eq_zero h0
            have e2 := List.eq_nil_of_length_eq_zero h02
            exact ⟨by rw [e1, e2], h2⟩
          · rw [if_pos h0, if_neg h02, List.nil_append] at h2
            subst h2
            rcases hx with hx | ⟨r, hx | hx⟩
            · cases hx
            · exact absurd (List.cons.inj hx).1 (by decide)
            · exact absurd (List.cons.inj hx).1 (by decide)
        · by_cases h02 : kids2.length = 0
          · rw [if_neg h0, if_pos h02, List.nil_append] at h2
            subst h2
            rcases hy with hy | ⟨r, hy | hy⟩
            · cases hy
            · exact absurd (List.cons.inj hy).1 (by decide)
            · exact absurd (List.cons.inj hy).1 (by decide)
          · rw [if_neg h0, if_neg h02] at h2
            simp only [List.append_assoc, List.cons_append, List.nil_append, List.cons.injEq, true_and] at h2
            have h3 := kids_cut (len_ne h0) (len_ne h02) ih hk hk2 h2
            exact ⟨by rw [h3.1], h3.2⟩
      | sld m2 t2 hk2 =>
        rw [txt_sealed] at h
        exact (fun_seal hat hk hk2 hx (.inl ih) h).elim
    | sld m t0 hk =>
      rw [txt_sealed] at h
      cases hu with
      | var m2 =>
        rw [txt_v] at h
        exact absurd (List.cons.inj h).1 (by decide)
      | int m2 =>
        rw [txt_i] at h
        exact (itoa_no (by decide) (by decide) h.symm).elim
      | fn s2 kids2 hat2 hk2 =>
        exact (fun_seal hat2 hk2 hk hy (.inr (ih t0 (List.mem_cons_self))) h.symm).elim
      | sld m2 t2 hk2 =>
        rw [txt_sealed] at h
        simp only [List.cons.injEq, true_and] at h
        have h1 := ih t0 (List.mem_cons_self) t2 _ _ hk hk2 (dl44 _) (dl44 _) h
        have h2 := h1.2
        simp only [List.cons.injEq, true_and] at h2
        have h3 := itoa_cut (dl41 x) (dl41 y) h2
        have h4 := h3.2
        simp only [List.cons.injEq, true_and] at h4
        exact ⟨by rw [h1.1, h3.1], h4⟩
theorem txt_inj {t u : Tm} (ht : Good t) (hu : Good u) (h : txt t = txt u) : t = u := (txt_cut t u [] [] ht hu (.inl rfl) (.inl rfl) (by rw [h])).1
end Go.Proofs.YtanhhihechakhaaGreatDoor.WrP

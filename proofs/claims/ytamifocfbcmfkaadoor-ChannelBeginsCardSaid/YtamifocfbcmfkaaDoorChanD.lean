/- ChannelBegins: the walk. Conditions: as each says. Printed by a program of this session. -/
import Derived.Test.YtamifocfbcmfkaaDoorFactsU
import Derived.Test.YtamifocfbcmfkaaDoorChanB
import Derived.Test.YtamifocfbcmfkaaDoorChanLaw
set_option linter.unusedVariables false
set_option linter.unusedSimpArgs false
namespace Go.Proofs.YtamifocfbcmfkaaDoor
open Go.RowKit Go.Proofs.YtamifocfbcmfkaaDoor.E Go.Proofs.YtamifocfbcmfkaaDoor.LattP Go.Proofs.YtamifocfbcmfkaaDoor.ChanP
set_option maxRecDepth 100000 in
theorem begins_law (a b : Nat) (ha : a < 65536) (hb : b < 65536) (x : Ev) (hx : okE x) (h : Hp) (ht : Tab10 h) (AE : Option Addr) (lE cE : Nat) (es : List Ev) (hE : RowsAt h AE 3 (es.map evC)) (hlE : es.length = lE) (hcE : lE ≤ cE) (hBE : lE * 32 ≤ 140737488355328) (hB2 : lE * 32 ≤ 140737488351232) : C0 Tryd.prog 11 [.slice AE lE cE, .int .u16 (a : Int), .int .u16 (b : Int), .agg (evC x).toArray] h (.bool true) := by
  have hma := Nat.mod_lt a (show 0 < lE + 1 by omega)
  have hmb := Nat.mod_lt b (show 0 < lE + 1 by omega)
  refine enter0 Tryd.func11 rfl rfl rfl (fun w => ?_)
  refine cy_seq ?_
  refine cy_region ?_
  refine sy_box rfl rfl rfl rfl (fun b7 hb7 hM7 => ?_) (by simp)
  refine sy_assign rfl rfl rfl ?_
  refine sy_nil rfl ?_
  refine ny_next ?_
  refine cy_seq ?_
  refine cy_region ?_
  refine sy_call rfl call_34 rfl (shown15_c _ ht) rfl rfl ?_
  refine sy_assign rfl rfl rfl ?_
  refine sy_nil rfl ?_
  refine ny_next ?_
  refine cy_seq ?_
  refine cy_region ?_
  refine sy_move rfl rfl rfl ?_
  refine sy_convi Tryd.underlying68 Tryd.underlying3 rfl (by omega) (by omega) rfl rfl ?_
  refine sy_move rfl rfl rfl ?_
  refine sy_len rfl (len_slice Tryd.underlying59 _ _ _) rfl rfl ?_
  refine sy_addi (z := ((lE + 1 : Nat) : Int)) rfl rfl (by omega) (by omega) (by omega) rfl rfl ?_
  refine sy_rem (z := ((a % (lE + 1) : Nat) : Int)) rfl rfl (by omega) (by omega) (by omega) (by omega) rfl rfl ?_
  refine sy_assign rfl rfl rfl ?_
  refine sy_nil rfl ?_
  refine ny_next ?_
  refine cy_seq ?_
  refine cy_region ?_
  refine sy_move rfl rfl rfl ?_
  refine sy_convi Tryd.underlying68 Tryd.underlying3 rfl (by omega) (by omega) rfl rfl ?_
  refine sy_move rfl rfl rfl ?_
  refine sy_len rfl (len_slice Tryd.underlying59 _ _ _) rfl rfl ?_
  refine sy_addi (z := ((lE + 1 : Nat) : Int)) rfl rfl (by omega) (by omega) (by omega) rfl rfl ?_
  refine sy_rem (z := ((b % (lE + 1) : Nat) : Int)) rfl rfl (by omega) (by omega) (by omega) (by omega) rfl rfl ?_
  refine sy_assign rfl rfl rfl ?_
  refine sy_nil rfl ?_
  refine ny_next ?_
  refine cy_seq ?_
  refine cy_region ?_
  first | refine sy_ldar 0 agg_65 rfl rfl rfl rfl rfl ?_ | refine sy_ldar 1 agg_65 rfl rfl rfl rfl rfl ?_ | refine sy_ldar 2 agg_65 rfl rfl rfl rfl rfl ?_
  refine sy_alloc zer_65 rfl rfl (fun b12 hb12 hM12 => ?_) (by simp)
  first | refine sy_stl 0 sz_65 rfl rfl rfl rfl rfl rfl rfl rfl ?_ | refine sy_stl 1 sz_65 rfl rfl rfl rfl rfl rfl rfl rfl ?_ | refine sy_stl 2 sz_65 rfl rfl rfl rfl rfl rfl rfl rfl ?_
  refine sy_nil rfl ?_
  refine ny_next ?_
  refine cy_seq ?_
  refine cy_region ?_
  refine sy_field fld_65_1 rfl rfl rfl ?_
  first | refine sy_ldr 0 one_3 rfl rfl rfl rfl rfl ?_ | refine sy_ldr 1 one_3 rfl rfl rfl rfl rfl ?_ | refine sy_ldr 2 one_3 rfl rfl rfl rfl rfl ?_
  refine sy_add rfl rfl rfl rfl ?_
  refine sy_field fld_65_1 rfl rfl rfl ?_
  first | refine sy_stl 0 sz_3 rfl rfl rfl rfl rfl rfl rfl rfl ?_ | refine sy_stl 1 sz_3 rfl rfl rfl rfl rfl rfl rfl rfl ?_ | refine sy_stl 2 sz_3 rfl rfl rfl rfl rfl rfl rfl rfl ?_
  refine sy_nil rfl ?_
  refine ny_next ?_
  refine cy_frz 0 rfl (by simp) (fun h2 hle2 hb12 => ?_)
  refine cy_frz 0 rfl (by simp) (fun h3 hle3 hb7 => ?_)
  replace hb12 := hle3 _ _ hb12
  replace hE := (hE.le hle2).le hle3
  refine cy_cut (ι := Value) [0, 9, 10, 11, 12] rfl (fun v => True) (fun v => [(13, v)]) (fun v => h3) (fun v => [Res.row v 65 3 (lE + 1) ((es ++ [x]).map evC).flatten]) ?_ ?_
  · refine cy_regionA mixedA ?_
    refine zy_q 1 rfl (by kernel_rfl) (fun hB6_1 => ?_)
    refine sy_move rfl rfl rfl ?_
    refine sy_nil1 (ny_zq hB6_1 ?_)
    refine zy_q 3 rfl (by kernel_rfl) (fun hB6_3 => ?_)
    refine sy_ldah (vs := evC x) agg_65 rfl rfl (Hp.blk hb7) rfl rfl ?_
    refine sy_nil1 (ny_zq hB6_3 ?_)
    refine zy_2 0 4 (by kernel_rfl) ?_ ?_
    · refine zop_run rfl rfl (fun hB6_0 => ?_)
      refine sy_buildSlice (cs := []) rfl (fun w => bsl_59_0_ w) rfl rfl (fun b33 hb33 hM33 => ?_) (by simp)
      refine sy_nil rfl (ny_zy hB6_0 (Hp.Le.refl _) ?_)
      refine zy_2 2 4 (by kernel_rfl) ?_ ?_
      · refine zop_run rfl rfl (fun hB6_2 => ?_)
        first | refine sy_asRow (l := 0) (sz := 3) (cs := []) 0 rfl rfl (Nat.zero_le _) ?_ | refine sy_asRow (l := 0) (sz := 3) (cs := []) 1 rfl rfl (Nat.zero_le _) ?_
        refine sy_appendh (news := (es.map evC).flatten) 0 row_59 (by decide) rfl rfl rfl (fun hA => by have := hE.none hA; simp only [List.length_map] at this; omega) (by rw [flat_len (evC_len es)]; simp [hlE]) (hE.cells (by decide) (evC_len es)) (evC_ones es) (by omega) (by simp only [maxLen]; omega) rfl rfl (fun v35 => ?_)
        refine sy_nil rfl (ny_zy hB6_2 (Hp.Le.refl _) ?_)
        refine zy_1 4 (by kernel_rfl) ?_
        refine zop_run rfl rfl (fun hB6_4 => ?_)
        refine sy_buildSlice rfl (fun w => bsl_59_1_0 w) rfl rfl (fun b37 hb37 hM37 => ?_) (by simp)
        refine sy_nil rfl (ny_zy hB6_4 (Hp.Le.refl _) ?_)
        refine zy_1 5 (by kernel_rfl) ?_
        refine zop_run rfl rfl (fun hB6_5 => ?_)
        first | refine sy_append 0 1 row_59 (by decide) rfl rfl rfl rfl rfl rfl (by omega) (by simp only [maxLen]; omega) rfl rfl (fun v38 => ?_) | refine sy_append 1 0 row_59 (by decide) rfl rfl rfl rfl rfl rfl (by omega) (by simp only [maxLen]; omega) rfl rfl (fun v38 => ?_)
        refine sy_nil rfl (ny_zy hB6_5 (Hp.Le.refl _) ?_)
        refine zy_q 6 rfl (by kernel_rfl) (fun hB6_6 => ?_)
        refine sy_assign rfl rfl rfl ?_
        refine sy_nil1 (ny_zq hB6_6 ?_)
        refine zy_done (by kernel_rfl) ?_
        refine ny_cut [0, 9, 10, 11, 12] v38 [0] trivial rfl ⟨rfl, trivial⟩ rfl (by rw [evs_snoc, Nat.zero_add]; rfl)
      · refine zop_run rfl rfl (fun hB6_4 => ?_)
        refine sy_buildSlice rfl (fun w => bsl_59_1_0 w) rfl rfl (fun b37 hb37 hM37 => ?_) (by simp)
        refine sy_nil rfl (ny_zy hB6_4 (Hp.Le.refl _) ?_)
        refine zy_1 2 (by kernel_rfl) ?_
        refine zop_run rfl rfl (fun hB6_2 => ?_)
        first | refine sy_asRow (l := 0) (sz := 3) (cs := []) 0 rfl rfl (Nat.zero_le _) ?_ | refine sy_asRow (l := 0) (sz := 3) (cs := []) 1 rfl rfl (Nat.zero_le _) ?_
        refine sy_appendh (news := (es.map evC).flatten) 0 row_59 (by decide) rfl rfl rfl (fun hA => by have := hE.none hA; simp only [List.length_map] at this; omega) (by rw [flat_len (evC_len es)]; simp [hlE]) (hE.cells (by decide) (evC_len es)) (evC_ones es) (by omega) (by simp only [maxLen]; omega) rfl rfl (fun v35 => ?_)
        refine sy_nil rfl (ny_zy hB6_2 (Hp.Le.refl _) ?_)
        refine zy_1 5 (by kernel_rfl) ?_
        refine zop_run rfl rfl (fun hB6_5 => ?_)
        first | refine sy_append 0 1 row_59 (by decide) rfl rfl rfl rfl rfl rfl (by omega) (by simp only [maxLen]; omega) rfl rfl (fun v38 => ?_) | refine sy_append 1 0 row_59 (by decide) rfl rfl rfl rfl rfl rfl (by omega) (by simp only [maxLen]; omega) rfl rfl (fun v38 => ?_)
        refine sy_nil rfl (ny_zy hB6_5 (Hp.Le.refl _) ?_)
        refine zy_q 6 rfl (by kernel_rfl) (fun hB6_6 => ?_)
        refine sy_assign rfl rfl rfl ?_
        refine sy_nil1 (ny_zq hB6_6 ?_)
        refine zy_done (by kernel_rfl) ?_
        refine ny_cut [0, 9, 10, 11, 12] v38 [0] trivial rfl ⟨rfl, trivial⟩ rfl (by rw [evs_snoc, Nat.zero_add]; rfl)
    · refine zop_run rfl rfl (fun hB6_4 => ?_)
      refine sy_buildSlice rfl (fun w => bsl_59_1_0 w) rfl rfl (fun b37 hb37 hM37 => ?_) (by simp)
      refine sy_nil rfl (ny_zy hB6_4 (Hp.Le.refl _) ?_)
      refine zy_1 0 (by kernel_rfl) ?_
      refine zop_run rfl rfl (fun hB6_0 => ?_)
      refine sy_buildSlice (cs := []) rfl (fun w => bsl_59_0_ w) rfl rfl (fun b33 hb33 hM33 => ?_) (by simp)
      refine sy_nil rfl (ny_zy hB6_0 (Hp.Le.refl _) ?_)
      refine zy_1 2 (by kernel_rfl) ?_
      refine zop_run rfl rfl (fun hB6_2 => ?_)
      first | refine sy_asRow (l := 0) (sz := 3) (cs := []) 0 rfl rfl (Nat.zero_le _) ?_ | refine sy_asRow (l := 0) (sz := 3) (cs := []) 1 rfl rfl (Nat.zero_le _) ?_
      refine sy_appendh (news := (es.map evC).flatten) 0 row_59 (by decide) rfl rfl rfl (fun hA => by have := hE.none hA; simp only [List.length_map] at this; omega) (by rw [flat_len (evC_len es)]; simp [hlE]) (hE.cells (by decide) (evC_len es)) (evC_ones es) (by omega) (by simp only [maxLen]; omega) rfl rfl (fun v35 => ?_)
      refine sy_nil rfl (ny_zy hB6_2 (Hp.Le.refl _) ?_)
      refine zy_1 5 (by kernel_rfl) ?_
      refine zop_run rfl rfl (fun hB6_5 => ?_)
      first | refine sy_append 0 1 row_59 (by decide) rfl rfl rfl rfl rfl rfl (by omega) (by simp only [maxLen]; omega) rfl rfl (fun v38 => ?_) | refine sy_append 1 0 row_59 (by decide) rfl rfl rfl rfl rfl rfl (by omega) (by simp only [maxLen]; omega) rfl rfl (fun v38 => ?_)
      refine sy_nil rfl (ny_zy hB6_5 (Hp.Le.refl _) ?_)
      refine zy_q 6 rfl (by kernel_rfl) (fun hB6_6 => ?_)
      refine sy_assign rfl rfl rfl ?_
      refine sy_nil1 (ny_zq hB6_6 ?_)
      refine zy_done (by kernel_rfl) ?_
      refine ny_cut [0, 9, 10, 11, 12] v38 [0] trivial rfl ⟨rfl, trivial⟩ rfl (by rw [evs_snoc, Nat.zero_add]; rfl)
  · rintro v13 -
    refine cy_cut (ι := Value) [0, 9, 10, 11, 13] rfl (fun v => True) (fun v => [(14, v)]) (fun v => h3) (fun v => [Res.row v 65 3 (lE + 1) ((es ++ [(⟨x.k, IntKind.i64.wrap (x.l + 1), x.s⟩ : Ev)]).map evC).flatten, Res.row v13 65 3 (lE + 1) ((es ++ [x]).map evC).flatten]) ?_ ?_
    · refine cy_regionA mixedA ?_
      refine zy_q 1 rfl (by kernel_rfl) (fun hB7_1 => ?_)
      refine sy_move rfl rfl rfl ?_
      refine sy_nil1 (ny_zq hB7_1 ?_)
      refine zy_q 3 rfl (by kernel_rfl) (fun hB7_3 => ?_)
      refine sy_ldah (vs := evC (⟨x.k, IntKind.i64.wrap (x.l + 1), x.s⟩ : Ev)) agg_65 rfl rfl (Hp.blk hb12) rfl rfl ?_
      refine sy_nil1 (ny_zq hB7_3 ?_)
      refine zy_2 0 4 (by kernel_rfl) ?_ ?_
      · refine zop_run rfl rfl (fun hB7_0 => ?_)
        refine sy_buildSlice (cs := []) rfl (fun w => bsl_59_0_ w) rfl rfl (fun b39 hb39 hM39 => ?_) (by simp)
        refine sy_nil rfl (ny_zy hB7_0 (Hp.Le.refl _) ?_)
        refine zy_2 2 4 (by kernel_rfl) ?_ ?_
        · refine zop_run rfl rfl (fun hB7_2 => ?_)
          first | refine sy_asRow (l := 0) (sz := 3) (cs := []) 0 rfl rfl (Nat.zero_le _) ?_ | refine sy_asRow (l := 0) (sz := 3) (cs := []) 1 rfl rfl (Nat.zero_le _) ?_
          refine sy_appendh (news := (es.map evC).flatten) 0 row_59 (by decide) rfl rfl rfl (fun hA => by have := hE.none hA; simp only [List.length_map] at this; omega) (by rw [flat_len (evC_len es)]; simp [hlE]) (hE.cells (by decide) (evC_len es)) (evC_ones es) (by omega) (by simp only [maxLen]; omega) rfl rfl (fun v41 => ?_)
          refine sy_nil rfl (ny_zy hB7_2 (Hp.Le.refl _) ?_)
          refine zy_1 4 (by kernel_rfl) ?_
          refine zop_run rfl rfl (fun hB7_4 => ?_)
          refine sy_buildSlice rfl (fun w => bsl_59_1_0 w) rfl rfl (fun b43 hb43 hM43 => ?_) (by simp)
          refine sy_nil rfl (ny_zy hB7_4 (Hp.Le.refl _) ?_)
          refine zy_1 5 (by kernel_rfl) ?_
          refine zop_run rfl rfl (fun hB7_5 => ?_)
          first | refine sy_append 0 1 row_59 (by decide) rfl rfl rfl rfl rfl rfl (by omega) (by simp only [maxLen]; omega) rfl rfl (fun v44 => ?_) | refine sy_append 1 0 row_59 (by decide) rfl rfl rfl rfl rfl rfl (by omega) (by simp only [maxLen]; omega) rfl rfl (fun v44 => ?_)
          refine sy_nil rfl (ny_zy hB7_5 (Hp.Le.refl _) ?_)
          refine zy_q 6 rfl (by kernel_rfl) (fun hB7_6 => ?_)
          refine sy_assign rfl rfl rfl ?_
          refine sy_nil1 (ny_zq hB7_6 ?_)
          refine zy_done (by kernel_rfl) ?_
          refine ny_cut [0, 9, 10, 11, 13] v44 [0, 1] trivial rfl ⟨rfl, trivial⟩ rfl (by rw [evs_snoc, evs_snoc, Nat.zero_add]; rfl)
        · refine zop_run rfl rfl (fun hB7_4 => ?_)
          refine sy_buildSlice rfl (fun w => bsl_59_1_0 w) rfl rfl (fun b43 hb43 hM43 => ?_) (by simp)
          refine sy_nil rfl (ny_zy hB7_4 (Hp.Le.refl _) ?_)
          refine zy_1 2 (by kernel_rfl) ?_
          refine zop_run rfl rfl (fun hB7_2 => ?_)
          first | refine sy_asRow (l := 0) (sz := 3) (cs := []) 0 rfl rfl (Nat.zero_le _) ?_ | refine sy_asRow (l := 0) (sz := 3) (cs := []) 1 rfl rfl (Nat.zero_le _) ?_
          refine sy_appendh (news := (es.map evC).flatten) 0 row_59 (by decide) rfl rfl rfl (fun hA => by have := hE.none hA; simp only [List.length_map] at this; omega) (by rw [flat_len (evC_len es)]; simp [hlE]) (hE.cells (by decide) (evC_len es)) (evC_ones es) (by omega) (by simp only [maxLen]; omega) rfl rfl (fun v41 => ?_)
          refine sy_nil rfl (ny_zy hB7_2 (Hp.Le.refl _) ?_)
          refine zy_1 5 (by kernel_rfl) ?_
          refine zop_run rfl rfl (fun hB7_5 => ?_)
          first | refine sy_append 0 1 row_59 (by decide) rfl rfl rfl rfl rfl rfl (by omega) (by simp only [maxLen]; omega) rfl rfl (fun v44 => ?_) | refine sy_append 1 0 row_59 (by decide) rfl rfl rfl rfl rfl rfl (by omega) (by simp only [maxLen]; omega) rfl rfl (fun v44 => ?_)
          refine sy_nil rfl (ny_zy hB7_5 (Hp.Le.refl _) ?_)
          refine zy_q 6 rfl (by kernel_rfl) (fun hB7_6 => ?_)
          refine sy_assign rfl rfl rfl ?_
          refine sy_nil1 (ny_zq hB7_6 ?_)
          refine zy_done (by kernel_rfl) ?_
          refine ny_cut [0, 9, 10, 11, 13] v44 [0, 1] trivial rfl ⟨rfl, trivial⟩ rfl (by rw [evs_snoc, evs_snoc, Nat.zero_add]; rfl)
      · refine zop_run rfl rfl (fun hB7_4 => ?_)
        refine sy_buildSlice rfl (fun w => bsl_59_1_0 w) rfl rfl (fun b43 hb43 hM43 => ?_) (by simp)
        refine sy_nil rfl (ny_zy hB7_4 (Hp.Le.refl _) ?_)
        refine zy_1 0 (by kernel_rfl) ?_
        refine zop_run rfl rfl (fun hB7_0 => ?_)
        refine sy_buildSlice (cs := []) rfl (fun w => bsl_59_0_ w) rfl rfl (fun b39 hb39 hM39 => ?_) (by simp)
        refine sy_nil rfl (ny_zy hB7_0 (Hp.Le.refl _) ?_)
        refine zy_1 2 (by kernel_rfl) ?_
        refine zop_run rfl rfl (fun hB7_2 => ?_)
        first | refine sy_asRow (l := 0) (sz := 3) (cs := []) 0 rfl rfl (Nat.zero_le _) ?_ | refine sy_asRow (l := 0) (sz := 3) (cs := []) 1 rfl rfl (Nat.zero_le _) ?_
        refine sy_appendh (news := (es.map evC).flatten) 0 row_59 (by decide) rfl rfl rfl (fun hA => by have := hE.none hA; simp only [List.length_map] at this; omega) (by rw [flat_len (evC_len es)]; simp [hlE]) (hE.cells (by decide) (evC_len es)) (evC_ones es) (by omega) (by simp only [maxLen]; omega) rfl rfl (fun v41 => ?_)
        refine sy_nil rfl (ny_zy hB7_2 (Hp.Le.refl _) ?_)
        refine zy_1 5 (by kernel_rfl) ?_
        refine zop_run rfl rfl (fun hB7_5 => ?_)
        first | refine sy_append 0 1 row_59 (by decide) rfl rfl rfl rfl rfl rfl (by omega) (by simp only [maxLen]; omega) rfl rfl (fun v44 => ?_) | refine sy_append 1 0 row_59 (by decide) rfl rfl rfl rfl rfl rfl (by omega) (by simp only [maxLen]; omega) rfl rfl (fun v44 => ?_)
        refine sy_nil rfl (ny_zy hB7_5 (Hp.Le.refl _) ?_)
        refine zy_q 6 rfl (by kernel_rfl) (fun hB7_6 => ?_)
        refine sy_assign rfl rfl rfl ?_
        refine sy_nil1 (ny_zq hB7_6 ?_)
        refine zy_done (by kernel_rfl) ?_
        refine ny_cut [0, 9, 10, 11, 13] v44 [0, 1] trivial rfl ⟨rfl, trivial⟩ rfl (by rw [evs_snoc, evs_snoc, Nat.zero_add]; rfl)
    · rintro v14 -
      refine cy_seq ?_
      refine cy_frzRow 0 rfl (fun _ _ => by simp) (fun A14 c14 h14 hv14 hlc14 hcm14 _ hle14 hcell14 => ?_)
      subst hv14
      refine cy_frzRow 0 rfl (fun _ _ => by simp) (fun A13 c13 h13 hv13 hlc13 hcm13 _ hle13 hcell13 => ?_)
      subst hv13
      have h14r : RowsAt h13 A14 3 ((es ++ [(⟨x.k, IntKind.i64.wrap (x.l + 1), x.s⟩ : Ev)]).map evC) := (rows_row (by decide) (evC_len _) hcell14).le hle13
      have h13r : RowsAt h13 A13 3 ((es ++ [x]).map evC) := rows_row (by decide) (evC_len _) hcell13
      have hE13 := (hE.le hle14).le hle13
      refine cy_regionQ mixedA (by kernel_rfl) ?_
      refine sy_move rfl rfl rfl ?_
      refine sy_move rfl rfl rfl ?_
      refine sy_setT (d := 46) rfl rfl (by first | rfl | decide | simp) ?_
      refine sy_move rfl rfl rfl ?_
      refine sy_move rfl rfl rfl ?_
      refine sy_cutTo (k0 := a % (lE + 1)) els_59 rfl rfl (by omega) rfl rfl ?_
      refine sy_move rfl rfl rfl ?_
      refine sy_move rfl rfl rfl ?_
      refine sy_cutTo (k0 := b % (lE + 1)) els_59 rfl rfl (by omega) rfl rfl ?_
      refine sy_call rfl call_39 rfl (beside_c AE AE (a % (lE + 1)) cE (b % (lE + 1)) cE (es.take (a % (lE + 1))) (es.take (b % (lE + 1))) _ (by rw [List.map_take]; exact hE13.take _) (by rw [List.length_take]; omega) (by rw [List.map_take]; exact hE13.take _) (by rw [List.length_take]; omega) (by omega) (by omega)) rfl rfl ?_
      refine sy_pickT rfl rfl rfl rfl ?_
      refine sy_setT (d := 54) rfl rfl (beside_take es _ _) ?_
      refine sy_move rfl rfl rfl ?_
      refine sy_move rfl rfl rfl ?_
      refine sy_call rfl call_39 rfl (beside_c none AE 0 0 lE cE [] es _ (fun j c hj => by simp at hj) rfl hE13 hlE (by omega) (by omega)) rfl rfl ?_
      refine sy_pickT rfl rfl rfl rfl ?_
      refine sy_setT (d := 58) rfl rfl (beside_nil es) ?_
      refine sy_move rfl rfl rfl ?_
      refine sy_move rfl rfl rfl ?_
      refine sy_move rfl rfl rfl ?_
      refine sy_call rfl call_39 rfl (beside_c AE AE lE cE lE cE es es _ hE13 hlE hE13 hlE (by omega) (by omega)) rfl rfl ?_
      refine sy_pickT rfl rfl rfl rfl ?_
      refine sy_setT (d := 63) rfl rfl (beside_self es) ?_
      refine sy_move rfl rfl rfl ?_
      refine sy_move rfl rfl rfl ?_
      refine sy_move rfl rfl rfl ?_
      refine sy_call rfl call_39 rfl (beside_c A13 A14 _ c13 _ c14 (es ++ [x]) (es ++ [(⟨x.k, IntKind.i64.wrap (x.l + 1), x.s⟩ : Ev)]) _ h13r (by simp [hlE]) h14r (by simp [hlE]) (by omega) (by omega)) rfl rfl ?_
      refine sy_not rfl rfl rfl ?_
      refine sy_setT (d := 68) rfl rfl (by rw [beside_unlike es (by unfold evEq; rw [wrap_ne x.l hx.l0 hx.l1]; simp)]; rfl) ?_
      refine sy_pickT rfl rfl rfl rfl ?_
      refine sy_setT (d := 69) rfl rfl rfl ?_
      refine sy_move rfl rfl rfl ?_
      refine sy_move rfl rfl rfl ?_
      refine sy_move rfl rfl rfl ?_
      refine sy_call rfl call_39 rfl (beside_c A13 AE _ c13 lE cE (es ++ [x]) es _ h13r (by simp [hlE]) hE13 hlE (by omega) (by omega)) rfl rfl ?_
      refine sy_pickT rfl rfl rfl rfl ?_
      refine sy_setT (d := 74) rfl rfl (beside_more es x) ?_
      refine sy_assign rfl rfl rfl ?_
      refine sy_nil rfl ?_
      refine ny_next ?_
      refine cy_ret ?_
      exact ny_finR (res1 rfl rfl) (fun w hs => ⟨rfl, hs.frm⟩)
end Go.Proofs.YtamifocfbcmfkaaDoor

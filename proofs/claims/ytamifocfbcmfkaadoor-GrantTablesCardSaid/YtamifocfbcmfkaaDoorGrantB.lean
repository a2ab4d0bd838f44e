/- The laws on grants. Conditions: as each says. Printed by a program of this session. -/
import Derived.Test.YtamifocfbcmfkaaDoorFactsX
import Derived.Test.YtamifocfbcmfkaaDoorGrantA
set_option linter.unusedVariables false
set_option linter.unusedSimpArgs false
namespace Go.Proofs.YtamifocfbcmfkaaDoor
open Go.RowKit Go.Proofs.YtamifocfbcmfkaaDoor.E Go.Proofs.YtamifocfbcmfkaaDoor.LattP Go.Proofs.YtamifocfbcmfkaaDoor.ChanP Go.Proofs.YtamifocfbcmfkaaDoor.GrantP
def gs0 : List Gr := [⟨⟨#[107, 105, 109]⟩, 3, 1⟩]
theorem gs0_new : newI 4 (ru 4 (ch 3)) gs0 = 0 := by
  refine newI_zero.2 ⟨by decide, fun g hg => ?_⟩
  simp only [gs0, List.mem_cons, List.not_mem_nil, or_false] at hg
  subst hg
  refine wrong_zero.2 ⟨by decide, ?_, ?_⟩
  · exact (ch_leq (k := 4) (by decide) (show 3 < 4 by decide) (show 3 < 4 by decide)).trans (by decide)
  · exact (ch_leq (k := 4) (by decide) (show 1 < 4 by decide) (show 1 < 4 by decide)).trans (by decide)
theorem gs0_may : gs0.any (mayB 4 (ru 4 (ch 3)) ⟨#[107, 105, 109]⟩ 2 1) = true := by
  have h1 : leqI 4 (ru 4 (ch 3)) 2 3 = true := (ch_leq (k := 4) (by decide) (show 2 < 4 by decide) (show 3 < 4 by decide)).trans (by decide)
  have h2 : leqI 4 (ru 4 (ch 3)) 1 1 = true := (ch_leq (k := 4) (by decide) (show 1 < 4 by decide) (show 1 < 4 by decide)).trans (by decide)
  simp [gs0, mayB, h1, h2]
theorem gs0_not : gs0.any (mayB 4 (ru 4 (ch 3)) ⟨#[107, 105, 109]⟩ 2 0) = false := by
  have h2 : leqI 4 (ru 4 (ch 3)) 1 0 = false := (ch_leq (k := 4) (by decide) (show 1 < 4 by decide) (show 0 < 4 by decide)).trans (by decide)
  simp [gs0, mayB, h2]
theorem gs0_txt : ((gtxt ⟨#[107, 105, 109]⟩ 3 1).data.toList == [107, 105, 109, 32, 51, 62, 49]) = true := by kernel_rfl
set_option maxRecDepth 100000 in
theorem shown02_c (h : Hp) (ht : Tab10 h) : C0 Tryd.prog 17 [] h (.bool true) := by
  refine enter0 Tryd.func17 rfl rfl rfl (fun w => ?_)
  refine cy_seq ?_
  refine cy_region ?_
  refine sy_assign rfl rfl rfl ?_
  refine sy_nil rfl ?_
  refine ny_next ?_
  refine cy_seq ?_
  refine cy_region ?_
  refine sy_build rfl (fun w => bld_90_0x1 w) rfl rfl ?_
  refine sy_build rfl (fun w => bld_90_0x1 w) rfl rfl ?_
  refine sy_build rfl (fun w => bld_90_0x1 w) rfl rfl ?_
  refine sy_buildSlice rfl (fun w => bsl_22_3_0x1x2 w) rfl rfl (fun b9 hb9 hM9 => ?_) (by simp)
  refine sy_frz 0 rfl (by simp) (fun h2 hle2 hb2 => ?_)
  have hP0 : PairsAt h2 (some ⟨b9, 0, none⟩) (ch 3) := pairs_blk (p := ch 3) hb2
  refine sy_callx call_18 rfl (newGood_c 4 _ 3 3 (ch 3) h2 (ch_fine (k := 4) (by decide) (by decide)) hP0 rfl (by decide)) rfl rfl (fun g h4 hg hle4 => ?_)
  replace ht := ht.le (hle2.trans hle4)
  refine sy_move rfl rfl rfl ?_
  refine sy_extract rfl rfl rfl rfl ?_
  refine sy_extract rfl rfl rfl rfl ?_
  refine sy_assign rfl rfl rfl ?_
  refine sy_assign rfl rfl rfl ?_
  refine sy_nil rfl ?_
  refine ny_next ?_
  refine cy_seq ?_
  refine cy_region ?_
  refine sy_move rfl rfl rfl ?_
  refine sy_build rfl (fun w => bld_38_0x1x2 w) rfl rfl ?_
  refine sy_buildSlice rfl (fun w => bsl_25_1_0 w) rfl rfl (fun b16 hb16 hM16 => ?_) (by simp)
  refine sy_frz 0 rfl (by simp) (fun h5 hle5 hb5 => ?_)
  replace hg := hle5 _ _ hg
  replace ht := ht.le hle5
  have hG : RowsAt h5 (some ⟨b16, 0, none⟩) 3 (gs0.map grC) := rows_blk (by decide) (grC_len gs0) hb5
  refine sy_callx call_20 rfl (gnew_c g 4 _ _ hg (by omega) (by omega) (ru_lt (by omega) _) _ 1 1 gs0 hG rfl (by decide) (by decide) ht (fun g hg => by simp only [gs0, List.mem_cons, List.not_mem_nil, or_false] at hg; subst hg; decide)) rfl rfl (fun x17 h17 hx17 hle17 => ?_)
  obtain tb | x17 := x17
  rotate_left
  · exact absurd (hx17.1.trans gs0_new) hx17.2
  obtain ⟨_, hT⟩ := hx17
  replace hg := hle17 _ _ hg
  replace ht := ht.le hle17
  refine sy_move rfl rfl rfl ?_
  refine sy_extract rfl rfl rfl rfl ?_
  refine sy_extract rfl rfl rfl rfl ?_
  refine sy_assign rfl rfl rfl ?_
  refine sy_assign rfl rfl rfl ?_
  refine sy_nil rfl ?_
  refine ny_next ?_
  refine cy_seq ?_
  refine cy_region ?_
  refine sy_move rfl rfl rfl ?_
  refine sy_cmp rfl rfl rfl rfl rfl ?_
  refine sy_setT (d := 21) rfl rfl rfl ?_
  refine sy_move rfl rfl rfl ?_
  refine sy_move rfl rfl rfl ?_
  refine sy_eqn Tryd.underlying34 rfl rfl rfl rfl rfl ?_
  refine sy_setT (d := 24) rfl rfl rfl ?_
  refine sy_pickT rfl rfl rfl rfl ?_
  refine sy_move rfl rfl rfl ?_
  refine sy_move rfl rfl rfl ?_
  refine sy_eqp Tryd.underlying32 rfl rfl rfl rfl rfl ?_
  refine sy_setT (d := 28) rfl rfl rfl ?_
  refine sy_pickT rfl rfl rfl rfl ?_
  refine sy_move rfl rfl rfl ?_
  refine sy_move rfl rfl rfl ?_
  refine sy_call rfl call_22 rfl (gmay_c g 4 (ru 4 (ch 3)) _ hg (by decide) (by decide) (ru_lt (by decide) _) tb gs0 hT (by decide) _ _ _) rfl rfl ?_
  refine sy_setT (d := 32) rfl rfl gs0_may ?_
  refine sy_pickT rfl rfl rfl rfl ?_
  refine sy_move rfl rfl rfl ?_
  refine sy_move rfl rfl rfl ?_
  refine sy_call rfl call_22 rfl (gmay_c g 4 (ru 4 (ch 3)) _ hg (by decide) (by decide) (ru_lt (by decide) _) tb gs0 hT (by decide) _ _ _) rfl rfl ?_
  refine sy_not rfl rfl rfl ?_
  refine sy_setT (d := 37) rfl rfl (by rw [gs0_not]; rfl) ?_
  refine sy_pickT rfl rfl rfl rfl ?_
  refine sy_move rfl rfl rfl ?_
  refine sy_call rfl call_27 rfl (gtext_c _ _ _ _ ht (by decide) (by decide) (by decide) (by decide) (by decide)) rfl rfl ?_
  refine sy_eqs rfl rfl rfl rfl ?_
  refine sy_setT (d := 41) rfl rfl gs0_txt ?_
  refine sy_pickT rfl rfl rfl rfl ?_
  refine sy_assign rfl rfl rfl ?_
  refine sy_nil rfl ?_
  refine ny_next ?_
  refine cy_ret ?_
  exact ny_finR (res1 rfl rfl) (fun w hs => ⟨rfl, hs.frm⟩)
set_option maxRecDepth 100000 in
theorem owners_bad (n : Int) (o : ByteArray) (A : Option Addr) (l c L : Nat) (q : List (Int × Int)) (h : Hp) (hlc : l ≤ c) (hL : L = min l 60) (hq : PairsAt h A q) (hql : q.length = L) (AG : Option Addr) (lG cG : Nat) (ht : Tab10 h) (e9 : Int) (he : (e9 != 0) = true) (hb : ∀ h, PairsAt h A q → C0 Tryd.prog 18 [.int .i64 n, .slice A L c] h (newV (none, e9))) : C0 Tryd.prog 3 [.agg #[.int .i64 n, .slice A l c], .slice AG lG cG, .string o] h (.bool true) := by
  refine enter0 Tryd.func3 rfl rfl rfl (fun w => ?_)
  refine cy_seq ?_
  refine cy_region ?_
  refine sy_box rfl rfl rfl rfl (fun b3 hb3 hM3 => ?_) (by simp)
  refine sy_assign rfl rfl rfl ?_
  refine sy_nil rfl ?_
  refine ny_next ?_
  refine cy_seq ?_
  refine cy_region ?_
  refine sy_call rfl call_17 rfl (shown02_c _ ht) rfl rfl ?_
  refine sy_assign rfl rfl rfl ?_
  refine sy_nil rfl ?_
  refine ny_next ?_
  refine cy_seq ?_
  refine cy_frz 0 rfl (by simp) (fun hbx0 hlebx hbx => ?_)
  replace hq := hq.le hlebx
  replace ht := ht.le hlebx
  refine cy_regionA mixedA ?_
  refine zy_q 0 rfl (by kernel_rfl) (fun hB2_0 => ?_)
  refine sy_field fld_24_0 rfl rfl rfl ?_
  refine sy_nil1 (ny_zq hB2_0 ?_)
  refine zy_q 1 rfl (by kernel_rfl) (fun hB2_1 => ?_)
  refine sy_ldh one_3 rfl (Hp.blk hbx 0 _ rfl) rfl rfl ?_
  refine sy_nil1 (ny_zq hB2_1 ?_)
  refine zy_q 2 rfl (by kernel_rfl) (fun hB2_2 => ?_)
  refine sy_ldah (vs := [.int .i64 n, .slice A l c]) agg_24 rfl rfl (Hp.blk hbx) rfl rfl ?_
  refine sy_nil1 (ny_zq hB2_2 ?_)
  refine zy_1 3 (by kernel_rfl) ?_
  refine zop_run rfl rfl (fun hB2_3 => ?_)
  refine sy_call rfl call_19 rfl (gfew_c n A l c L _ hlc hL) rfl rfl ?_
  refine sy_nil rfl (ny_zy hB2_3 (Hp.Le.refl _) ?_)
  refine zy_1 4 (by kernel_rfl) ?_
  refine zop_run rfl rfl (fun hB2_4 => ?_)
  refine sy_call rfl call_18 rfl (hb _ hq) rfl rfl ?_
  refine sy_nil rfl (ny_zy hB2_4 (Hp.Le.refl _) ?_)
  refine zy_q 5 rfl (by kernel_rfl) (fun hB2_5 => ?_)
  refine sy_move rfl rfl rfl ?_
  refine sy_nil1 (ny_zq hB2_5 ?_)
  refine zy_q 6 rfl (by kernel_rfl) (fun hB2_6 => ?_)
  refine sy_extract rfl rfl rfl rfl ?_
  refine sy_nil1 (ny_zq hB2_6 ?_)
  refine zy_q 7 rfl (by kernel_rfl) (fun hB2_7 => ?_)
  refine sy_extract rfl rfl rfl rfl ?_
  refine sy_nil1 (ny_zq hB2_7 ?_)
  refine zy_q 8 rfl (by kernel_rfl) (fun hB2_8 => ?_)
  refine sy_assign rfl rfl rfl ?_
  refine sy_nil1 (ny_zq hB2_8 ?_)
  refine zy_q 9 rfl (by kernel_rfl) (fun hB2_9 => ?_)
  refine sy_assign rfl rfl rfl ?_
  refine sy_nil1 (ny_zq hB2_9 ?_)
  refine zy_done (by kernel_rfl) ?_
  refine ny_next ?_
  refine cy_seq ?_
  refine cy_region ?_
  refine sy_move rfl rfl rfl ?_
  refine sy_move rfl rfl rfl ?_
  refine sy_call rfl call_20 rfl (gnewN_c _ _ _ _) rfl rfl ?_
  refine sy_move rfl rfl rfl ?_
  refine sy_extract rfl rfl rfl rfl ?_
  refine sy_extract rfl rfl rfl rfl ?_
  refine sy_assign rfl rfl rfl ?_
  refine sy_assign rfl rfl rfl ?_
  refine sy_nil rfl ?_
  refine ny_next ?_
  refine cy_seq ?_
  refine cy_seq ?_
  refine cy_region ?_
  refine sy_move rfl rfl rfl ?_
  refine sy_cmp rfl rfl rfl rfl rfl ?_
  refine sy_setT (d := 34) rfl rfl he ?_
  refine sy_move rfl rfl rfl ?_
  refine sy_skip rfl rfl rfl ?_
  refine sy_skip rfl rfl rfl ?_
  refine sy_pickT rfl rfl rfl rfl ?_
  refine sy_move rfl rfl rfl ?_
  refine sy_skip rfl rfl rfl ?_
  refine sy_skip rfl rfl rfl ?_
  refine sy_pickT rfl rfl rfl rfl ?_
  refine sy_move rfl rfl rfl ?_
  refine sy_skip rfl rfl rfl ?_
  refine sy_skip rfl rfl rfl ?_
  refine sy_pickT rfl rfl rfl rfl ?_
  refine sy_nil rfl ?_
  refine ny_next ?_
  refine cy_condT rfl ?_
  refine cy_seq ?_
  refine cy_region ?_
  refine sy_move rfl rfl rfl ?_
  refine sy_move rfl rfl rfl ?_
  refine sy_setT (d := 48) rfl rfl (by first | rfl | decide | simp) ?_
  refine sy_move rfl rfl rfl ?_
  refine sy_cmp rfl rfl rfl rfl rfl ?_
  refine sy_setT (d := 50) rfl rfl he ?_
  refine sy_move rfl rfl rfl ?_
  refine sy_skip rfl rfl rfl ?_
  refine sy_skip rfl rfl rfl ?_
  refine sy_pickT rfl rfl rfl rfl ?_
  refine sy_pickT rfl rfl rfl rfl ?_
  refine sy_assign rfl rfl rfl ?_
  refine sy_nil rfl ?_
  refine ny_next ?_
  refine cy_ret ?_
  refine ny_thenR ?_
  exact ny_finR (res1 rfl rfl) (fun w hs => ⟨rfl, hs.frm⟩)
set_option maxRecDepth 100000 in
theorem owners_badg (k : Nat) (o : ByteArray) (A : Option Addr) (l c L : Nat) (q : List (Int × Int)) (h : Hp) (hlc : l ≤ c) (hL : L = min l 60) (hq : PairsAt h A q) (hql : q.length = L) (AG : Option Addr) (lG cG : Nat) (gs : List Gr) (hG : RowsAt h AG 3 (gs.map grC)) (hlG : gs.length = lG) (hcG : lG ≤ cG) (hBG : lG * 32 ≤ 140737488351232) (hokG : ∀ g, g ∈ gs → g.s.size ≤ 140737488355328) (ht : Tab10 h) (hF : Fine (k : Int) q) (j m2 : Nat → Nat → Nat) (lo hi : Nat) (L2 : Lat2 k q j m2 lo hi) (h0 : newI k (ru k q) gs ≠ 0) : C0 Tryd.prog 3 [.agg #[.int .i64 (k : Int), .slice A l c], .slice AG lG cG, .string o] h (.bool true) := by
  have hk1 : 1 ≤ k := by have := hF.1; omega
  have hk2 : k ≤ 16 := by have := hF.2.1; omega
  refine enter0 Tryd.func3 rfl rfl rfl (fun w => ?_)
  refine cy_seq ?_
  refine cy_region ?_
  refine sy_box rfl rfl rfl rfl (fun b3 hb3 hM3 => ?_) (by simp)
  refine sy_assign rfl rfl rfl ?_
  refine sy_nil rfl ?_
  refine ny_next ?_
  refine cy_seq ?_
  refine cy_region ?_
  refine sy_call rfl call_17 rfl (shown02_c _ ht) rfl rfl ?_
  refine sy_assign rfl rfl rfl ?_
  refine sy_nil rfl ?_
  refine ny_next ?_
  refine cy_seq ?_
  refine cy_frz 0 rfl (by simp) (fun hbx0 hlebx hbx => ?_)
  replace hq := hq.le hlebx
  replace ht := ht.le hlebx
  replace hG := hG.le hlebx
  refine cy_regionA mixedA ?_
  refine zy_q 0 rfl (by kernel_rfl) (fun hB2_0 => ?_)
  refine sy_field fld_24_0 rfl rfl rfl ?_
  refine sy_nil1 (ny_zq hB2_0 ?_)
  refine zy_q 1 rfl (by kernel_rfl) (fun hB2_1 => ?_)
  refine sy_ldh one_3 rfl (Hp.blk hbx 0 _ rfl) rfl rfl ?_
  refine sy_nil1 (ny_zq hB2_1 ?_)
  refine zy_q 2 rfl (by kernel_rfl) (fun hB2_2 => ?_)
  refine sy_ldah (vs := [.int .i64 (k : Int), .slice A l c]) agg_24 rfl rfl (Hp.blk hbx) rfl rfl ?_
  refine sy_nil1 (ny_zq hB2_2 ?_)
  refine zy_1 3 (by kernel_rfl) ?_
  refine zop_run rfl rfl (fun hB2_3 => ?_)
  refine sy_call rfl call_19 rfl (gfew_c (k : Int) A l c L _ hlc hL) rfl rfl ?_
  refine sy_nil rfl (ny_zy hB2_3 (Hp.Le.refl _) ?_)
  refine zy_1 4 (by kernel_rfl) ?_
  refine zop_run rfl rfl (fun hB2_4 => ?_)
  refine sy_callx call_18 rfl (newGood_c k A _ c q _ hF hq hql (by omega)) rfl rfl (fun x24 h24 hx24 hle24 => ?_)
  have hG := hG.le hle24
  have ht := ht.le hle24
  revert hx24
  revert x24
  intro g hg
  refine sy_nil rfl (ny_zy hB2_4 hle24 ?_)
  refine zy_q 5 rfl (by kernel_rfl) (fun hB2_5 => ?_)
  refine sy_move rfl rfl rfl ?_
  refine sy_nil1 (ny_zq hB2_5 ?_)
  refine zy_q 6 rfl (by kernel_rfl) (fun hB2_6 => ?_)
  refine sy_extract rfl rfl rfl rfl ?_
  refine sy_nil1 (ny_zq hB2_6 ?_)
  refine zy_q 7 rfl (by kernel_rfl) (fun hB2_7 => ?_)
  refine sy_extract rfl rfl rfl rfl ?_
  refine sy_nil1 (ny_zq hB2_7 ?_)
  refine zy_q 8 rfl (by kernel_rfl) (fun hB2_8 => ?_)
  refine sy_assign rfl rfl rfl ?_
  refine sy_nil1 (ny_zq hB2_8 ?_)
  refine zy_q 9 rfl (by kernel_rfl) (fun hB2_9 => ?_)
  refine sy_assign rfl rfl rfl ?_
  refine sy_nil1 (ny_zq hB2_9 ?_)
  refine zy_done (by kernel_rfl) ?_
  refine ny_next ?_
  refine cy_seq ?_
  refine cy_region ?_
  refine sy_move rfl rfl rfl ?_
  refine sy_move rfl rfl rfl ?_
  refine sy_callx call_20 rfl (gnewBad_c g k (ru k q) _ hg hk1 hk2 (ru_lt hk2 q) AG lG cG gs hG hlG hcG hBG ht hokG h0) rfl rfl (fun x30 h30 hx30 hle30 => ?_)
  have hG := hG.le hle30
  have ht := ht.le hle30
  have hg := hle30 _ _ hg
  refine sy_move rfl rfl rfl ?_
  refine sy_extract rfl rfl rfl rfl ?_
  refine sy_extract rfl rfl rfl rfl ?_
  refine sy_assign rfl rfl rfl ?_
  refine sy_assign rfl rfl rfl ?_
  refine sy_nil rfl ?_
  refine ny_next ?_
  refine cy_seq ?_
  refine cy_seq ?_
  refine cy_region ?_
  refine sy_move rfl rfl rfl ?_
  refine sy_cmp rfl rfl rfl rfl rfl ?_
  refine sy_setF (d := 34) rfl rfl rfl ?_
  refine sy_move rfl rfl rfl ?_
  refine sy_move rfl rfl rfl ?_
  refine sy_eqn Tryd.underlying34 rfl rfl rfl rfl rfl ?_
  refine sy_setT (d := 37) rfl rfl rfl ?_
  refine sy_pickF rfl rfl rfl rfl ?_
  refine sy_move rfl rfl rfl ?_
  refine sy_skip rfl rfl rfl ?_
  refine sy_skip rfl rfl rfl ?_
  refine sy_pickT rfl rfl rfl rfl ?_
  refine sy_move rfl rfl rfl ?_
  refine sy_skip rfl rfl rfl ?_
  refine sy_skip rfl rfl rfl ?_
  refine sy_pickT rfl rfl rfl rfl ?_
  refine sy_nil rfl ?_
  refine ny_next ?_
  refine cy_condT rfl ?_
  refine cy_seq ?_
  refine cy_region ?_
  refine sy_move rfl rfl rfl ?_
  refine sy_move rfl rfl rfl ?_
  refine sy_setT (d := 48) rfl rfl (by first | rfl | decide | simp) ?_
  refine sy_move rfl rfl rfl ?_
  refine sy_cmp rfl rfl rfl rfl rfl ?_
  refine sy_setF (d := 50) rfl rfl rfl ?_
  refine sy_move rfl rfl rfl ?_
  refine sy_move rfl rfl rfl ?_
  refine sy_eqn Tryd.underlying34 rfl rfl rfl rfl rfl ?_
  refine sy_setT (d := 53) rfl rfl rfl ?_
  refine sy_pickF rfl rfl rfl rfl ?_
  refine sy_pickT rfl rfl rfl rfl ?_
  refine sy_assign rfl rfl rfl ?_
  refine sy_nil rfl ?_
  refine ny_next ?_
  refine cy_ret ?_
  refine ny_thenR ?_
  exact ny_finR (res1 rfl rfl) (fun w hs => ⟨rfl, hs.frm⟩)
set_option maxRecDepth 100000 in
theorem owners_good (k : Nat) (o : ByteArray) (A : Option Addr) (l c L : Nat) (q : List (Int × Int)) (h : Hp) (hlc : l ≤ c) (hL : L = min l 60) (hq : PairsAt h A q) (hql : q.length = L) (AG : Option Addr) (lG cG : Nat) (gs : List Gr) (hG : RowsAt h AG 3 (gs.map grC)) (hlG : gs.length = lG) (hcG : lG ≤ cG) (hBG : lG * 32 ≤ 140737488351232) (hokG : ∀ g, g ∈ gs → g.s.size ≤ 140737488355328) (ht : Tab10 h) (hF : Fine (k : Int) q) (j m2 : Nat → Nat → Nat) (lo hi : Nat) (L2 : Lat2 k q j m2 lo hi) (h0 : newI k (ru k q) gs = 0) : C0 Tryd.prog 3 [.agg #[.int .i64 (k : Int), .slice A l c], .slice AG lG cG, .string o] h (.bool true) := by
  have hk1 : 1 ≤ k := by have := hF.1; omega
  have hk2 : k ≤ 16 := by have := hF.2.1; omega
  have hl100 : gs.length ≤ 100 := by have := (newI_zero.1 h0).1; omega
  refine enter0 Tryd.func3 rfl rfl rfl (fun w => ?_)
  refine cy_seq ?_
  refine cy_region ?_
  refine sy_box rfl rfl rfl rfl (fun b3 hb3 hM3 => ?_) (by simp)
  refine sy_assign rfl rfl rfl ?_
  refine sy_nil rfl ?_
  refine ny_next ?_
  refine cy_seq ?_
  refine cy_region ?_
  refine sy_call rfl call_17 rfl (shown02_c _ ht) rfl rfl ?_
  refine sy_assign rfl rfl rfl ?_
  refine sy_nil rfl ?_
  refine ny_next ?_
  refine cy_seq ?_
  refine cy_frz 0 rfl (by simp) (fun hbx0 hlebx hbx => ?_)
  replace hq := hq.le hlebx
  replace ht := ht.le hlebx
  replace hG := hG.le hlebx
  refine cy_regionA mixedA ?_
  refine zy_q 0 rfl (by kernel_rfl) (fun hB2_0 => ?_)
  refine sy_field fld_24_0 rfl rfl rfl ?_
  refine sy_nil1 (ny_zq hB2_0 ?_)
  refine zy_q 1 rfl (by kernel_rfl) (fun hB2_1 => ?_)
  refine sy_ldh one_3 rfl (Hp.blk hbx 0 _ rfl) rfl rfl ?_
  refine sy_nil1 (ny_zq hB2_1 ?_)
  refine zy_q 2 rfl (by kernel_rfl) (fun hB2_2 => ?_)
  refine sy_ldah (vs := [.int .i64 (k : Int), .slice A l c]) agg_24 rfl rfl (Hp.blk hbx) rfl rfl ?_
  refine sy_nil1 (ny_zq hB2_2 ?_)
  refine zy_1 3 (by kernel_rfl) ?_
  refine zop_run rfl rfl (fun hB2_3 => ?_)
  refine sy_call rfl call_19 rfl (gfew_c (k : Int) A l c L _ hlc hL) rfl rfl ?_
  refine sy_nil rfl (ny_zy hB2_3 (Hp.Le.refl _) ?_)
  refine zy_1 4 (by kernel_rfl) ?_
  refine zop_run rfl rfl (fun hB2_4 => ?_)
  refine sy_callx call_18 rfl (newGood_c k A _ c q _ hF hq hql (by omega)) rfl rfl (fun x24 h24 hx24 hle24 => ?_)
  have hG := hG.le hle24
  have ht := ht.le hle24
  revert hx24
  revert x24
  intro g hg
  refine sy_nil rfl (ny_zy hB2_4 hle24 ?_)
  refine zy_q 5 rfl (by kernel_rfl) (fun hB2_5 => ?_)
  refine sy_move rfl rfl rfl ?_
  refine sy_nil1 (ny_zq hB2_5 ?_)
  refine zy_q 6 rfl (by kernel_rfl) (fun hB2_6 => ?_)
  refine sy_extract rfl rfl rfl rfl ?_
  refine sy_nil1 (ny_zq hB2_6 ?_)
  refine zy_q 7 rfl (by kernel_rfl) (fun hB2_7 => ?_)
  refine sy_extract rfl rfl rfl rfl ?_
  refine sy_nil1 (ny_zq hB2_7 ?_)
  refine zy_q 8 rfl (by kernel_rfl) (fun hB2_8 => ?_)
  refine sy_assign rfl rfl rfl ?_
  refine sy_nil1 (ny_zq hB2_8 ?_)
  refine zy_q 9 rfl (by kernel_rfl) (fun hB2_9 => ?_)
  refine sy_assign rfl rfl rfl ?_
  refine sy_nil1 (ny_zq hB2_9 ?_)
  refine zy_done (by kernel_rfl) ?_
  refine ny_next ?_
  refine cy_seq ?_
  refine cy_region ?_
  refine sy_move rfl rfl rfl ?_
  refine sy_move rfl rfl rfl ?_
  refine sy_callx call_20 rfl (gnewGood_c g k (ru k q) _ hg hk1 hk2 (ru_lt hk2 q) AG lG cG gs hG hlG hcG hBG ht hokG h0) rfl rfl (fun x30 h30 hx30 hle30 => ?_)
  have hG := hG.le hle30
  have ht := ht.le hle30
  have hg := hle30 _ _ hg
  revert hx30
  revert x30
  intro tb30 hT30
  refine sy_move rfl rfl rfl ?_
  refine sy_extract rfl rfl rfl rfl ?_
  refine sy_extract rfl rfl rfl rfl ?_
  refine sy_assign rfl rfl rfl ?_
  refine sy_assign rfl rfl rfl ?_
  refine sy_nil rfl ?_
  refine ny_next ?_
  refine cy_seq ?_
  refine cy_seq ?_
  refine cy_region ?_
  refine sy_move rfl rfl rfl ?_
  refine sy_cmp rfl rfl rfl rfl rfl ?_
  refine sy_setF (d := 34) rfl rfl rfl ?_
  refine sy_move rfl rfl rfl ?_
  refine sy_move rfl rfl rfl ?_
  refine sy_eqn Tryd.underlying34 rfl rfl rfl rfl rfl ?_
  refine sy_setF (d := 37) rfl rfl rfl ?_
  refine sy_pickF rfl rfl rfl rfl ?_
  refine sy_move rfl rfl rfl ?_
  refine sy_move rfl rfl rfl ?_
  refine sy_eqp Tryd.underlying27 rfl rfl rfl rfl rfl ?_
  refine sy_setF (d := 41) rfl rfl rfl ?_
  refine sy_pickF rfl rfl rfl rfl ?_
  refine sy_move rfl rfl rfl ?_
  refine sy_move rfl rfl rfl ?_
  refine sy_eqp Tryd.underlying32 rfl rfl rfl rfl rfl ?_
  refine sy_setF (d := 45) rfl rfl rfl ?_
  refine sy_pickF rfl rfl rfl rfl ?_
  refine sy_nil rfl ?_
  refine ny_next ?_
  refine cy_condF rfl ?_
  refine cy_skip ?_
  refine ny_next ?_
  refine cy_seq ?_
  refine cy_region ?_
  refine sy_assign rfl rfl rfl ?_
  refine sy_nil rfl ?_
  refine ny_next ?_
  refine cy_seq ?_
  refine cy_seq ?_
  refine cy_region ?_
  refine sy_assign rfl rfl rfl ?_
  refine sy_nil rfl ?_
  refine ny_next ?_
  refine cy_block ?_
  refine cy_nilRow 38 3 ?_
  refine cy_loopK (ι := Nat × Value) [1, 2, 7, 8, 10] rfl (fun s => s.1 ≤ lG) (fun s => lG - s.1) (fun s => [(12, s.2), (13, .int .i64 (s.1 : Int))]) (fun s => h30) (fun s => [Res.row s.2 38 3 ((gs.take s.1).filter (ownB o)).length ((((gs.take s.1).filter (ownB o)).map grC).flatten)]) (0, .slice none 0 0) [0] (Nat.zero_le _) ⟨rfl, rfl, trivial⟩ rfl rfl ?_
  rintro ⟨i, v12⟩ hI
  simp only at hI ⊢
  refine cy_seq ?_
  refine cy_seq ?_
  refine cy_region ?_
  refine sy_move rfl rfl rfl ?_
  refine sy_move rfl rfl rfl ?_
  refine sy_len rfl (len_slice Tryd.underlying25 _ _ _) rfl rfl ?_
  refine sy_cmp rfl rfl rfl rfl rfl ?_
  refine sy_nil rfl ?_
  refine ny_next ?_
  refine cy_cond rfl (fun hc59 => ?_) (fun hc59 => ?_)
  · have hlti : i < lG := by have := of_decide_eq_true hc59; omega
    have hfl := filter_take_len (ownB o) gs i
    refine cy_skip ?_
    refine ny_next ?_
    refine cy_seq ?_
    refine cy_block ?_
    refine cy_seq ?_
    refine cy_region ?_
    refine sy_move rfl rfl rfl ?_
    refine sy_move rfl rfl rfl ?_
    refine sy_idxR (fc := grC) (es := gs) els_25 rfl rfl hG hlG (by omega) rfl rfl (fun e64 b64 o64 he64 hA64 hc64 => ?_)
    refine sy_field fld_38_0 rfl rfl rfl ?_
    refine sy_ldh one_9 rfl (hc64 0 _ rfl) rfl rfl ?_
    refine sy_move rfl rfl rfl ?_
    refine sy_eqs rfl rfl rfl rfl ?_
    refine sy_nil rfl ?_
    refine ny_next ?_
    refine cy_cond rfl (fun hc68 => ?_) (fun hc68 => ?_)
    · refine cy_region ?_
      refine sy_move rfl rfl rfl ?_
      refine sy_move rfl rfl rfl ?_
      refine sy_move rfl rfl rfl ?_
      refine sy_idxR (fc := grC) (es := gs) els_25 rfl rfl hG hlG (by omega) rfl rfl (fun e72 b72 o72 he72 hA72 hc72 => ?_)
      obtain rfl : e72 = e64 := by rw [he64] at he72; injection he72 with h9; exact h9.symm
      refine sy_ldah (vs := grC e72) agg_38 rfl rfl hc72 rfl rfl ?_
      refine sy_buildSlice rfl (fun w => bsl_25_1_0 w) rfl rfl (fun b74 hb74 hM74 => ?_) (by simp)
      refine sy_append 1 0 row_25 (by decide) rfl rfl rfl rfl rfl rfl (by omega) (by simp only [maxLen]; omega) rfl rfl (fun v75 => ?_)
      refine sy_assign rfl rfl rfl ?_
      refine sy_nil rfl ?_
      refine ny_blockN ?_
      refine ny_next ?_
      refine cy_region ?_
      refine sy_move rfl rfl rfl ?_
      refine sy_addi (z := ((i + 1 : Nat) : Int)) rfl rfl (by omega) (by omega) (by omega) rfl rfl ?_
      refine sy_assign rfl rfl rfl ?_
      refine sy_nil rfl ?_
      refine ny_roundK [1, 2, 7, 8, 10] (i + 1, v75) [0] (show i + 1 ≤ lG by omega) (show lG - (i + 1) < lG - i by omega) rfl ⟨rfl, rfl, trivial⟩ rfl (by rw [filter_take_yes he64 hc68, List.length_append, grs_snoc]; rfl)
    · refine cy_skip ?_
      refine ny_blockN ?_
      refine ny_next ?_
      refine cy_region ?_
      refine sy_move rfl rfl rfl ?_
      refine sy_addi (z := ((i + 1 : Nat) : Int)) rfl rfl (by omega) (by omega) (by omega) rfl rfl ?_
      refine sy_assign rfl rfl rfl ?_
      refine sy_nil rfl ?_
      refine ny_roundK [1, 2, 7, 8, 10] (i + 1, v12) [0] (show i + 1 ≤ lG by omega) (show lG - (i + 1) < lG - i by omega) rfl ⟨rfl, rfl, trivial⟩ rfl (by rw [filter_take_no he64 hc68]; rfl)
  · have hie : i = gs.length := by have := of_decide_eq_false hc59; omega
    subst hie
    rw [List.take_length]
    refine cy_exit ?_
    refine ny_thenE ?_
    refine ny_thenE ?_
    refine ny_blockX ?_
    refine ny_next ?_
    refine cy_seq ?_
    have hol := List.length_filter_le (ownB o) gs
    refine cy_frzRow 0 rfl (fun _ _ => by simp) (fun A12 c12 h12 hv12 hlc12 hcm12 _ hle12 hcell12 => ?_)
    subst hv12
    have hr12 : RowsAt h12 A12 3 ((gs.filter (ownB o)).map grC) := rows_row (by decide) (grC_len _) hcell12
    replace hg := hle12 _ _ hg
    replace ht := ht.le hle12
    replace hT30 := hT30.le hle12
    replace hG := hG.le hle12
    refine cy_region ?_
    refine sy_move rfl rfl rfl ?_
    refine sy_move rfl rfl rfl ?_
    refine sy_callx call_20 rfl (gnewGood_c g k (ru k q) _ hg hk1 hk2 (ru_lt hk2 q) A12 _ c12 (gs.filter (ownB o)) hr12 rfl hlc12 (by omega) ht (fun g hg => hokG g (List.mem_filter.1 hg).1) (owners_new o h0)) rfl rfl (fun x79 h79 hx79 hle79 => ?_)
    have hG := hG.le hle79
    have ht := ht.le hle79
    have hg := hle79 _ _ hg
    have hT30 := hT30.le hle79
    revert hx79
    revert x79
    intro tb79 hT79
    refine sy_move rfl rfl rfl ?_
    refine sy_extract rfl rfl rfl rfl ?_
    refine sy_extract rfl rfl rfl rfl ?_
    refine sy_assign rfl rfl rfl ?_
    refine sy_assign rfl rfl rfl ?_
    refine sy_nil rfl ?_
    refine ny_next ?_
    refine cy_seq ?_
    refine cy_seq ?_
    refine cy_region ?_
    refine sy_move rfl rfl rfl ?_
    refine sy_eqn Tryd.underlying34 rfl rfl rfl rfl rfl ?_
    refine sy_setF (d := 83) rfl rfl rfl ?_
    refine sy_move rfl rfl rfl ?_
    refine sy_move rfl rfl rfl ?_
    refine sy_eqp Tryd.underlying32 rfl rfl rfl rfl rfl ?_
    refine sy_setF (d := 86) rfl rfl rfl ?_
    refine sy_pickF rfl rfl rfl rfl ?_
    refine sy_nil rfl ?_
    refine ny_next ?_
    refine cy_condF rfl ?_
    refine cy_skip ?_
    refine ny_next ?_
    refine cy_seq ?_
    refine cy_seq ?_
    refine cy_region ?_
    refine sy_assign rfl rfl rfl ?_
    refine sy_nil rfl ?_
    refine ny_next ?_
    refine cy_block ?_
    refine cy_loopK (ι := Nat) [2, 7, 8, 10, 14] rfl (fun a => a ≤ k) (fun a => k - a) (fun a => [(16, .int .i64 (a : Int))]) (fun a => h79) (fun a => []) 0 [] (Nat.zero_le _) ⟨rfl, trivial⟩ rfl rfl ?_
    rintro a hA
    refine cy_seq ?_
    refine cy_seq ?_
    refine cy_region ?_
    refine sy_move rfl rfl rfl ?_
    refine sy_move rfl rfl rfl ?_
    refine sy_call rfl call_21 rfl (len_c _ _ _ _ hg) rfl rfl ?_
    refine sy_cmp rfl rfl rfl rfl rfl ?_
    refine sy_nil rfl ?_
    refine ny_next ?_
    refine cy_cond rfl (fun hc91 => ?_) (fun hc91 => ?_)
    · have hlta : a < k := by have := of_decide_eq_true hc91; omega
      refine cy_skip ?_
      refine ny_next ?_
      refine cy_seq ?_
      refine cy_block ?_
      refine cy_seq ?_
      refine cy_region ?_
      refine sy_assign rfl rfl rfl ?_
      refine sy_nil rfl ?_
      refine ny_next ?_
      refine cy_block ?_
      refine cy_loopK (ι := Nat) [2, 7, 8, 10, 14, 16] rfl (fun b => b ≤ k) (fun b => k - b) (fun b => [(17, .int .i64 (b : Int))]) (fun b => h79) (fun b => []) 0 [] (Nat.zero_le _) ⟨rfl, trivial⟩ rfl rfl ?_
      rintro b hB
      refine cy_seq ?_
      refine cy_seq ?_
      refine cy_region ?_
      refine sy_move rfl rfl rfl ?_
      refine sy_move rfl rfl rfl ?_
      refine sy_call rfl call_21 rfl (len_c _ _ _ _ hg) rfl rfl ?_
      refine sy_cmp rfl rfl rfl rfl rfl ?_
      refine sy_nil rfl ?_
      refine ny_next ?_
      refine cy_cond rfl (fun hc97 => ?_) (fun hc97 => ?_)
      · have hltb : b < k := by have := of_decide_eq_true hc97; omega
        refine cy_skip ?_
        refine ny_next ?_
        refine cy_seq ?_
        refine cy_block ?_
        refine cy_seq ?_
        refine cy_region ?_
        refine sy_move rfl rfl rfl ?_
        refine sy_move rfl rfl rfl ?_
        refine sy_move rfl rfl rfl ?_
        refine sy_move rfl rfl rfl ?_
        refine sy_call rfl call_22 rfl (gmay_c g k (ru k q) _ hg hk1 hk2 (ru_lt hk2 q) tb30 gs hT30 hl100 _ _ _) rfl rfl ?_
        refine sy_move rfl rfl rfl ?_
        refine sy_move rfl rfl rfl ?_
        refine sy_move rfl rfl rfl ?_
        refine sy_move rfl rfl rfl ?_
        refine sy_call rfl call_22 rfl (gmay_c g k (ru k q) _ hg hk1 hk2 (ru_lt hk2 q) tb79 (gs.filter (ownB o)) hT79 (by have := List.length_filter_le (ownB o) gs; omega) _ _ _) rfl rfl ?_
        refine sy_neb Tryd.underlying4 rfl rfl rfl rfl ?_
        refine sy_setF (d := 110) rfl rfl (by rw [← owners_may]; simp) ?_
        refine sy_nil rfl ?_
        refine ny_next ?_
        refine cy_condF rfl ?_
        refine cy_skip ?_
        refine ny_blockN ?_
        refine ny_next ?_
        refine cy_region ?_
        refine sy_move rfl rfl rfl ?_
        refine sy_addi (z := ((b + 1 : Nat) : Int)) rfl rfl (by omega) (by omega) (by omega) rfl rfl ?_
        refine sy_assign rfl rfl rfl ?_
        refine sy_nil rfl ?_
        refine ny_roundK [2, 7, 8, 10, 14, 16] (b + 1) [] (show b + 1 ≤ k by omega) (show k - (b + 1) < k - b by omega) rfl ⟨rfl, trivial⟩ rfl rfl
      · refine cy_exit ?_
        refine ny_thenE ?_
        refine ny_thenE ?_
        refine ny_blockX ?_
        refine ny_blockN ?_
        refine ny_next ?_
        refine cy_region ?_
        refine sy_move rfl rfl rfl ?_
        refine sy_addi (z := ((a + 1 : Nat) : Int)) rfl rfl (by omega) (by omega) (by omega) rfl rfl ?_
        refine sy_assign rfl rfl rfl ?_
        refine sy_nil rfl ?_
        refine ny_roundK [2, 7, 8, 10, 14] (a + 1) [] (show a + 1 ≤ k by omega) (show k - (a + 1) < k - a by omega) rfl ⟨rfl, trivial⟩ rfl rfl
    · refine cy_exit ?_
      refine ny_thenE ?_
      refine ny_thenE ?_
      refine ny_blockX ?_
      refine ny_next ?_
      refine cy_seq ?_
      refine cy_region ?_
      refine sy_move rfl rfl rfl ?_
      refine sy_assign rfl rfl rfl ?_
      refine sy_nil rfl ?_
      refine ny_next ?_
      refine cy_ret ?_
      exact ny_finR (res1 rfl rfl) (fun w hs => ⟨rfl, hs.frm⟩)
set_option maxRecDepth 100000 in
theorem crosses_bad (n : Int) (lv : UInt8)  (A : Option Addr) (l c L : Nat) (q : List (Int × Int)) (h : Hp) (hlc : l ≤ c) (hL : L = min l 60) (hq : PairsAt h A q) (hql : q.length = L) (AG : Option Addr) (lG cG : Nat) (ht : Tab10 h) (e9 : Int) (he : (e9 != 0) = true) (hb : ∀ h, PairsAt h A q → C0 Tryd.prog 18 [.int .i64 n, .slice A L c] h (newV (none, e9))) : C0 Tryd.prog 6 [.agg #[.int .i64 n, .slice A l c], .slice AG lG cG, .int .u8 (lv.toNat : Int)] h (.bool true) := by
  refine enter0 Tryd.func6 rfl rfl rfl (fun w => ?_)
  refine cy_seq ?_
  refine cy_region ?_
  refine sy_box rfl rfl rfl rfl (fun b3 hb3 hM3 => ?_) (by simp)
  refine sy_assign rfl rfl rfl ?_
  refine sy_nil rfl ?_
  refine ny_next ?_
  refine cy_seq ?_
  refine cy_region ?_
  refine sy_call rfl call_17 rfl (shown02_c _ ht) rfl rfl ?_
  refine sy_assign rfl rfl rfl ?_
  refine sy_nil rfl ?_
  refine ny_next ?_
  refine cy_seq ?_
  refine cy_frz 0 rfl (by simp) (fun hbx0 hlebx hbx => ?_)
  replace hq := hq.le hlebx
  replace ht := ht.le hlebx
  refine cy_regionA mixedA ?_
  refine zy_q 0 rfl (by kernel_rfl) (fun hB2_0 => ?_)
  refine sy_field fld_24_0 rfl rfl rfl ?_
  refine sy_nil1 (ny_zq hB2_0 ?_)
  refine zy_q 1 rfl (by kernel_rfl) (fun hB2_1 => ?_)
  refine sy_ldh one_3 rfl (Hp.blk hbx 0 _ rfl) rfl rfl ?_
  refine sy_nil1 (ny_zq hB2_1 ?_)
  refine zy_q 2 rfl (by kernel_rfl) (fun hB2_2 => ?_)
  refine sy_ldah (vs := [.int .i64 n, .slice A l c]) agg_24 rfl rfl (Hp.blk hbx) rfl rfl ?_
  refine sy_nil1 (ny_zq hB2_2 ?_)
  refine zy_1 3 (by kernel_rfl) ?_
  refine zop_run rfl rfl (fun hB2_3 => ?_)
  refine sy_call rfl call_19 rfl (gfew_c n A l c L _ hlc hL) rfl rfl ?_
  refine sy_nil rfl (ny_zy hB2_3 (Hp.Le.refl _) ?_)
  refine zy_1 4 (by kernel_rfl) ?_
  refine zop_run rfl rfl (fun hB2_4 => ?_)
  refine sy_call rfl call_18 rfl (hb _ hq) rfl rfl ?_
  refine sy_nil rfl (ny_zy hB2_4 (Hp.Le.refl _) ?_)
  refine zy_q 5 rfl (by kernel_rfl) (fun hB2_5 => ?_)
  refine sy_move rfl rfl rfl ?_
  refine sy_nil1 (ny_zq hB2_5 ?_)
  refine zy_q 6 rfl (by kernel_rfl) (fun hB2_6 => ?_)
  refine sy_extract rfl rfl rfl rfl ?_
  refine sy_nil1 (ny_zq hB2_6 ?_)
  refine zy_q 7 rfl (by kernel_rfl) (fun hB2_7 => ?_)
  refine sy_extract rfl rfl rfl rfl ?_
  refine sy_nil1 (ny_zq hB2_7 ?_)
  refine zy_q 8 rfl (by kernel_rfl) (fun hB2_8 => ?_)
  refine sy_assign rfl rfl rfl ?_
  refine sy_nil1 (ny_zq hB2_8 ?_)
  refine zy_q 9 rfl (by kernel_rfl) (fun hB2_9 => ?_)
  refine sy_assign rfl rfl rfl ?_
  refine sy_nil1 (ny_zq hB2_9 ?_)
  refine zy_done (by kernel_rfl) ?_
  refine ny_next ?_
  refine cy_seq ?_
  refine cy_region ?_
  refine sy_move rfl rfl rfl ?_
  refine sy_move rfl rfl rfl ?_
  refine sy_call rfl call_20 rfl (gnewN_c _ _ _ _) rfl rfl ?_
  refine sy_move rfl rfl rfl ?_
  refine sy_extract rfl rfl rfl rfl ?_
  refine sy_extract rfl rfl rfl rfl ?_
  refine sy_assign rfl rfl rfl ?_
  refine sy_assign rfl rfl rfl ?_
  refine sy_nil rfl ?_
  refine ny_next ?_
  refine cy_seq ?_
  refine cy_seq ?_
  refine cy_region ?_
  refine sy_move rfl rfl rfl ?_
  refine sy_cmp rfl rfl rfl rfl rfl ?_
  refine sy_setT (d := 34) rfl rfl he ?_
  refine sy_move rfl rfl rfl ?_
  refine sy_skip rfl rfl rfl ?_
  refine sy_skip rfl rfl rfl ?_
  refine sy_pickT rfl rfl rfl rfl ?_
  refine sy_move rfl rfl rfl ?_
  refine sy_skip rfl rfl rfl ?_
  refine sy_skip rfl rfl rfl ?_
  refine sy_pickT rfl rfl rfl rfl ?_
  refine sy_move rfl rfl rfl ?_
  refine sy_skip rfl rfl rfl ?_
  refine sy_skip rfl rfl rfl ?_
  refine sy_pickT rfl rfl rfl rfl ?_
  refine sy_nil rfl ?_
  refine ny_next ?_
  refine cy_condT rfl ?_
  refine cy_seq ?_
  refine cy_region ?_
  refine sy_move rfl rfl rfl ?_
  refine sy_move rfl rfl rfl ?_
  refine sy_setT (d := 48) rfl rfl (by first | rfl | decide | simp) ?_
  refine sy_move rfl rfl rfl ?_
  refine sy_cmp rfl rfl rfl rfl rfl ?_
  refine sy_setT (d := 50) rfl rfl he ?_
  refine sy_move rfl rfl rfl ?_
  refine sy_skip rfl rfl rfl ?_
  refine sy_skip rfl rfl rfl ?_
  refine sy_pickT rfl rfl rfl rfl ?_
  refine sy_pickT rfl rfl rfl rfl ?_
  refine sy_assign rfl rfl rfl ?_
  refine sy_nil rfl ?_
  refine ny_next ?_
  refine cy_ret ?_
  refine ny_thenR ?_
  exact ny_finR (res1 rfl rfl) (fun w hs => ⟨rfl, hs.frm⟩)
set_option maxRecDepth 100000 in
theorem crosses_badg (k : Nat) (lv : UInt8)  (A : Option Addr) (l c L : Nat) (q : List (Int × Int)) (h : Hp) (hlc : l ≤ c) (hL : L = min l 60) (hq : PairsAt h A q) (hql : q.length = L) (AG : Option Addr) (lG cG : Nat) (gs : List Gr) (hG : RowsAt h AG 3 (gs.map grC)) (hlG : gs.length = lG) (hcG : lG ≤ cG) (hBG : lG * 32 ≤ 140737488351232) (hokG : ∀ g, g ∈ gs → g.s.size ≤ 140737488355328) (ht : Tab10 h) (hF : Fine (k : Int) q) (j m2 : Nat → Nat → Nat) (lo hi : Nat) (L2 : Lat2 k q j m2 lo hi) (x : Nat) (hx : x = lv.toNat % k) (h0 : newI k (ru k q) gs ≠ 0) : C0 Tryd.prog 6 [.agg #[.int .i64 (k : Int), .slice A l c], .slice AG lG cG, .int .u8 (lv.toNat : Int)] h (.bool true) := by
  have hk1 : 1 ≤ k := by have := hF.1; omega
  have hk2 : k ≤ 16 := by have := hF.2.1; omega
  refine enter0 Tryd.func6 rfl rfl rfl (fun w => ?_)
  refine cy_seq ?_
  refine cy_region ?_
  refine sy_box rfl rfl rfl rfl (fun b3 hb3 hM3 => ?_) (by simp)
  refine sy_assign rfl rfl rfl ?_
  refine sy_nil rfl ?_
  refine ny_next ?_
  refine cy_seq ?_
  refine cy_region ?_
  refine sy_call rfl call_17 rfl (shown02_c _ ht) rfl rfl ?_
  refine sy_assign rfl rfl rfl ?_
  refine sy_nil rfl ?_
  refine ny_next ?_
  refine cy_seq ?_
  refine cy_frz 0 rfl (by simp) (fun hbx0 hlebx hbx => ?_)
  replace hq := hq.le hlebx
  replace ht := ht.le hlebx
  replace hG := hG.le hlebx
  refine cy_regionA mixedA ?_
  refine zy_q 0 rfl (by kernel_rfl) (fun hB2_0 => ?_)
  refine sy_field fld_24_0 rfl rfl rfl ?_
  refine sy_nil1 (ny_zq hB2_0 ?_)
  refine zy_q 1 rfl (by kernel_rfl) (fun hB2_1 => ?_)
  refine sy_ldh one_3 rfl (Hp.blk hbx 0 _ rfl) rfl rfl ?_
  refine sy_nil1 (ny_zq hB2_1 ?_)
  refine zy_q 2 rfl (by kernel_rfl) (fun hB2_2 => ?_)
  refine sy_ldah (vs := [.int .i64 (k : Int), .slice A l c]) agg_24 rfl rfl (Hp.blk hbx) rfl rfl ?_
  refine sy_nil1 (ny_zq hB2_2 ?_)
  refine zy_1 3 (by kernel_rfl) ?_
  refine zop_run rfl rfl (fun hB2_3 => ?_)
  refine sy_call rfl call_19 rfl (gfew_c (k : Int) A l c L _ hlc hL) rfl rfl ?_
  refine sy_nil rfl (ny_zy hB2_3 (Hp.Le.refl _) ?_)
  refine zy_1 4 (by kernel_rfl) ?_
  refine zop_run rfl rfl (fun hB2_4 => ?_)
  refine sy_callx call_18 rfl (newGood_c k A _ c q _ hF hq hql (by omega)) rfl rfl (fun x24 h24 hx24 hle24 => ?_)
  have hG := hG.le hle24
  have ht := ht.le hle24
  revert hx24
  revert x24
  intro g hg
  refine sy_nil rfl (ny_zy hB2_4 hle24 ?_)
  refine zy_q 5 rfl (by kernel_rfl) (fun hB2_5 => ?_)
  refine sy_move rfl rfl rfl ?_
  refine sy_nil1 (ny_zq hB2_5 ?_)
  refine zy_q 6 rfl (by kernel_rfl) (fun hB2_6 => ?_)
  refine sy_extract rfl rfl rfl rfl ?_
  refine sy_nil1 (ny_zq hB2_6 ?_)
  refine zy_q 7 rfl (by kernel_rfl) (fun hB2_7 => ?_)
  refine sy_extract rfl rfl rfl rfl ?_
  refine sy_nil1 (ny_zq hB2_7 ?_)
  refine zy_q 8 rfl (by kernel_rfl) (fun hB2_8 => ?_)
  refine sy_assign rfl rfl rfl ?_
  refine sy_nil1 (ny_zq hB2_8 ?_)
  refine zy_q 9 rfl (by kernel_rfl) (fun hB2_9 => ?_)
  refine sy_assign rfl rfl rfl ?_
  refine sy_nil1 (ny_zq hB2_9 ?_)
  refine zy_done (by kernel_rfl) ?_
  refine ny_next ?_
  refine cy_seq ?_
  refine cy_region ?_
  refine sy_move rfl rfl rfl ?_
  refine sy_move rfl rfl rfl ?_
  refine sy_callx call_20 rfl (gnewBad_c g k (ru k q) _ hg hk1 hk2 (ru_lt hk2 q) AG lG cG gs hG hlG hcG hBG ht hokG h0) rfl rfl (fun x30 h30 hx30 hle30 => ?_)
  have hG := hG.le hle30
  have ht := ht.le hle30
  have hg := hle30 _ _ hg
  refine sy_move rfl rfl rfl ?_
  refine sy_extract rfl rfl rfl rfl ?_
  refine sy_extract rfl rfl rfl rfl ?_
  refine sy_assign rfl rfl rfl ?_
  refine sy_assign rfl rfl rfl ?_
  refine sy_nil rfl ?_
  refine ny_next ?_
  refine cy_seq ?_
  refine cy_seq ?_
  refine cy_region ?_
  refine sy_move rfl rfl rfl ?_
  refine sy_cmp rfl rfl rfl rfl rfl ?_
  refine sy_setF (d := 34) rfl rfl rfl ?_
  refine sy_move rfl rfl rfl ?_
  refine sy_move rfl rfl rfl ?_
  refine sy_eqn Tryd.underlying34 rfl rfl rfl rfl rfl ?_
  refine sy_setT (d := 37) rfl rfl rfl ?_
  refine sy_pickF rfl rfl rfl rfl ?_
  refine sy_move rfl rfl rfl ?_
  refine sy_skip rfl rfl rfl ?_
  refine sy_skip rfl rfl rfl ?_
  refine sy_pickT rfl rfl rfl rfl ?_
  refine sy_move rfl rfl rfl ?_
  refine sy_skip rfl rfl rfl ?_
  refine sy_skip rfl rfl rfl ?_
  refine sy_pickT rfl rfl rfl rfl ?_
  refine sy_nil rfl ?_
  refine ny_next ?_
  refine cy_condT rfl ?_
  refine cy_seq ?_
  refine cy_region ?_
  refine sy_move rfl rfl rfl ?_
  refine sy_move rfl rfl rfl ?_
  refine sy_setT (d := 48) rfl rfl (by first | rfl | decide | simp) ?_
  refine sy_move rfl rfl rfl ?_
  refine sy_cmp rfl rfl rfl rfl rfl ?_
  refine sy_setF (d := 50) rfl rfl rfl ?_
  refine sy_move rfl rfl rfl ?_
  refine sy_move rfl rfl rfl ?_
  refine sy_eqn Tryd.underlying34 rfl rfl rfl rfl rfl ?_
  refine sy_setT (d := 53) rfl rfl rfl ?_
  refine sy_pickF rfl rfl rfl rfl ?_
  refine sy_pickT rfl rfl rfl rfl ?_
  refine sy_assign rfl rfl rfl ?_
  refine sy_nil rfl ?_
  refine ny_next ?_
  refine cy_ret ?_
  refine ny_thenR ?_
  exact ny_finR (res1 rfl rfl) (fun w hs => ⟨rfl, hs.frm⟩)
set_option maxRecDepth 100000 in
theorem crosses_good (k : Nat) (lv : UInt8)  (A : Option Addr) (l c L : Nat) (q : List (Int × Int)) (h : Hp) (hlc : l ≤ c) (hL : L = min l 60) (hq : PairsAt h A q) (hql : q.length = L) (AG : Option Addr) (lG cG : Nat) (gs : List Gr) (hG : RowsAt h AG 3 (gs.map grC)) (hlG : gs.length = lG) (hcG : lG ≤ cG) (hBG : lG * 32 ≤ 140737488351232) (hokG : ∀ g, g ∈ gs → g.s.size ≤ 140737488355328) (ht : Tab10 h) (hF : Fine (k : Int) q) (j m2 : Nat → Nat → Nat) (lo hi : Nat) (L2 : Lat2 k q j m2 lo hi) (x : Nat) (hx : x = lv.toNat % k) (h0 : newI k (ru k q) gs = 0) : C0 Tryd.prog 6 [.agg #[.int .i64 (k : Int), .slice A l c], .slice AG lG cG, .int .u8 (lv.toNat : Int)] h (.bool true) := by
  have hk1 : 1 ≤ k := by have := hF.1; omega
  have hk2 : k ≤ 16 := by have := hF.2.1; omega
  have hl100 : gs.length ≤ 100 := by have := (newI_zero.1 h0).1; omega
  have hlv := lv.toNat_lt
  have hxk : x < k := by rw [hx]; exact Nat.mod_lt _ hk1
  refine enter0 Tryd.func6 rfl rfl rfl (fun w => ?_)
  refine cy_seq ?_
  refine cy_region ?_
  refine sy_box rfl rfl rfl rfl (fun b3 hb3 hM3 => ?_) (by simp)
  refine sy_assign rfl rfl rfl ?_
  refine sy_nil rfl ?_
  refine ny_next ?_
  refine cy_seq ?_
  refine cy_region ?_
  refine sy_call rfl call_17 rfl (shown02_c _ ht) rfl rfl ?_
  refine sy_assign rfl rfl rfl ?_
  refine sy_nil rfl ?_
  refine ny_next ?_
  refine cy_seq ?_
  refine cy_frz 0 rfl (by simp) (fun hbx0 hlebx hbx => ?_)
  replace hq := hq.le hlebx
  replace ht := ht.le hlebx
  replace hG := hG.le hlebx
  refine cy_regionA mixedA ?_
  refine zy_q 0 rfl (by kernel_rfl) (fun hB2_0 => ?_)
  refine sy_field fld_24_0 rfl rfl rfl ?_
  refine sy_nil1 (ny_zq hB2_0 ?_)
  refine zy_q 1 rfl (by kernel_rfl) (fun hB2_1 => ?_)
  refine sy_ldh one_3 rfl (Hp.blk hbx 0 _ rfl) rfl rfl ?_
  refine sy_nil1 (ny_zq hB2_1 ?_)
  refine zy_q 2 rfl (by kernel_rfl) (fun hB2_2 => ?_)
  refine sy_ldah (vs := [.int .i64 (k : Int), .slice A l c]) agg_24 rfl rfl (Hp.blk hbx) rfl rfl ?_
  refine sy_nil1 (ny_zq hB2_2 ?_)
  refine zy_1 3 (by kernel_rfl) ?_
  refine zop_run rfl rfl (fun hB2_3 => ?_)
  refine sy_call rfl call_19 rfl (gfew_c (k : Int) A l c L _ hlc hL) rfl rfl ?_
  refine sy_nil rfl (ny_zy hB2_3 (Hp.Le.refl _) ?_)
  refine zy_1 4 (by kernel_rfl) ?_
  refine zop_run rfl rfl (fun hB2_4 => ?_)
  refine sy_callx call_18 rfl (newGood_c k A _ c q _ hF hq hql (by omega)) rfl rfl (fun x24 h24 hx24 hle24 => ?_)
  have hG := hG.le hle24
  have ht := ht.le hle24
  revert hx24
  revert x24
  intro g hg
  refine sy_nil rfl (ny_zy hB2_4 hle24 ?_)
  refine zy_q 5 rfl (by kernel_rfl) (fun hB2_5 => ?_)
  refine sy_move rfl rfl rfl ?_
  refine sy_nil1 (ny_zq hB2_5 ?_)
  refine zy_q 6 rfl (by kernel_rfl) (fun hB2_6 => ?_)
  refine sy_extract rfl rfl rfl rfl ?_
  refine sy_nil1 (ny_zq hB2_6 ?_)
  refine zy_q 7 rfl (by kernel_rfl) (fun hB2_7 => ?_)
  refine sy_extract rfl rfl rfl rfl ?_
  refine sy_nil1 (ny_zq hB2_7 ?_)
  refine zy_q 8 rfl (by kernel_rfl) (fun hB2_8 => ?_)
  refine sy_assign rfl rfl rfl ?_
  refine sy_nil1 (ny_zq hB2_8 ?_)
  refine zy_q 9 rfl (by kernel_rfl) (fun hB2_9 => ?_)
  refine sy_assign rfl rfl rfl ?_
  refine sy_nil1 (ny_zq hB2_9 ?_)
  refine zy_done (by kernel_rfl) ?_
  refine ny_next ?_
  refine cy_seq ?_
  refine cy_region ?_
  refine sy_move rfl rfl rfl ?_
  refine sy_move rfl rfl rfl ?_
  refine sy_callx call_20 rfl (gnewGood_c g k (ru k q) _ hg hk1 hk2 (ru_lt hk2 q) AG lG cG gs hG hlG hcG hBG ht hokG h0) rfl rfl (fun x30 h30 hx30 hle30 => ?_)
  have hG := hG.le hle30
  have ht := ht.le hle30
  have hg := hle30 _ _ hg
  revert hx30
  revert x30
  intro tb30 hT30
  refine sy_move rfl rfl rfl ?_
  refine sy_extract rfl rfl rfl rfl ?_
  refine sy_extract rfl rfl rfl rfl ?_
  refine sy_assign rfl rfl rfl ?_
  refine sy_assign rfl rfl rfl ?_
  refine sy_nil rfl ?_
  refine ny_next ?_
  refine cy_seq ?_
  refine cy_seq ?_
  refine cy_region ?_
  refine sy_move rfl rfl rfl ?_
  refine sy_cmp rfl rfl rfl rfl rfl ?_
  refine sy_setF (d := 34) rfl rfl rfl ?_
  refine sy_move rfl rfl rfl ?_
  refine sy_move rfl rfl rfl ?_
  refine sy_eqn Tryd.underlying34 rfl rfl rfl rfl rfl ?_
  refine sy_setF (d := 37) rfl rfl rfl ?_
  refine sy_pickF rfl rfl rfl rfl ?_
  refine sy_move rfl rfl rfl ?_
  refine sy_move rfl rfl rfl ?_
  refine sy_eqp Tryd.underlying27 rfl rfl rfl rfl rfl ?_
  refine sy_setF (d := 41) rfl rfl rfl ?_
  refine sy_pickF rfl rfl rfl rfl ?_
  refine sy_move rfl rfl rfl ?_
  refine sy_move rfl rfl rfl ?_
  refine sy_eqp Tryd.underlying32 rfl rfl rfl rfl rfl ?_
  refine sy_setF (d := 45) rfl rfl rfl ?_
  refine sy_pickF rfl rfl rfl rfl ?_
  refine sy_nil rfl ?_
  refine ny_next ?_
  refine cy_condF rfl ?_
  refine cy_skip ?_
  refine ny_next ?_
  refine cy_seq ?_
  refine cy_region ?_
  refine sy_move rfl rfl rfl ?_
  refine sy_convi Tryd.underlying5 Tryd.underlying3 rfl (by omega) (by omega) rfl rfl ?_
  refine sy_move rfl rfl rfl ?_
  refine sy_call rfl call_21 rfl (len_c _ _ _ _ hg) rfl rfl ?_
  refine sy_rem (z := ((x : Nat) : Int)) rfl rfl (by omega) (by omega) (by omega) (by omega) rfl rfl ?_
  refine sy_assign rfl rfl rfl ?_
  refine sy_nil rfl ?_
  refine ny_next ?_
  refine cy_seq ?_
  refine cy_region ?_
  refine sy_assign rfl rfl rfl ?_
  refine sy_nil rfl ?_
  refine ny_next ?_
  refine cy_seq ?_
  refine cy_seq ?_
  refine cy_region ?_
  refine sy_assign rfl rfl rfl ?_
  refine sy_nil rfl ?_
  refine ny_next ?_
  refine cy_block ?_
  refine cy_loopK (ι := Nat) [1, 7, 8, 10, 12] rfl (fun i => i ≤ lG) (fun i => lG - i) (fun i => [(13, .bool ((gs.take i).any (isG k (ru k q) gs (x : Int)))), (14, .int .i64 (i : Int))]) (fun i => h30) (fun i => []) 0 [] (Nat.zero_le _) ⟨rfl, rfl, trivial⟩ rfl rfl ?_
  rintro i hI
  refine cy_seq ?_
  refine cy_seq ?_
  refine cy_region ?_
  refine sy_move rfl rfl rfl ?_
  refine sy_move rfl rfl rfl ?_
  refine sy_len rfl (len_slice Tryd.underlying25 _ _ _) rfl rfl ?_
  refine sy_cmp rfl rfl rfl rfl rfl ?_
  refine sy_nil rfl ?_
  refine ny_next ?_
  refine cy_cond rfl (fun hc64 => ?_) (fun hc64 => ?_)
  · have hlti : i < lG := by have := of_decide_eq_true hc64; omega
    obtain ⟨e0, he0⟩ : ∃ e0, gs[i]? = some e0 := ⟨_, List.getElem?_eq_getElem (by omega)⟩
    refine cy_skip ?_
    refine ny_next ?_
    refine cy_seq ?_
    refine cy_block ?_
    refine cy_seq ?_
    refine cy_region ?_
    refine sy_assign rfl rfl rfl ?_
    refine sy_nil rfl ?_
    refine ny_next ?_
    refine cy_block ?_
    refine cy_loopK (ι := Nat) [1, 7, 8, 10, 12, 14] rfl (fun jj => jj ≤ k) (fun jj => k - jj) (fun jj => [(13, .bool (((gs.take i).any (isG k (ru k q) gs (x : Int))) || ((List.range jj).any (isF k (ru k q) gs (x : Int) e0.s)))), (15, .int .i64 (jj : Int))]) (fun jj => h30) (fun jj => []) 0 [] (Nat.zero_le _) ⟨(by rw [show (List.range 0).any (isF k (ru k q) gs (x : Int) e0.s) = false from rfl, Bool.or_false]; rfl), rfl, trivial⟩ rfl rfl ?_
    rintro jj hJJ
    refine cy_seq ?_
    refine cy_seq ?_
    refine cy_region ?_
    refine sy_move rfl rfl rfl ?_
    refine sy_move rfl rfl rfl ?_
    refine sy_call rfl call_21 rfl (len_c _ _ _ _ hg) rfl rfl ?_
    refine sy_cmp rfl rfl rfl rfl rfl ?_
    refine sy_nil rfl ?_
    refine ny_next ?_
    refine cy_cond rfl (fun hc70 => ?_) (fun hc70 => ?_)
    · have hltjj : jj < k := by have := of_decide_eq_true hc70; omega
      refine cy_skip ?_
      refine ny_next ?_
      refine cy_seq ?_
      refine cy_block ?_
      refine cy_region ?_
      refine sy_move rfl rfl rfl ?_
      refine sy_move rfl rfl rfl ?_
      refine sy_cond (d := 74) _ rfl rfl (fun hg74 => ?_) (fun hg74 => ?_)
      · refine sy_skip rfl rfl rfl ?_
        refine sy_skip rfl rfl rfl ?_
        refine sy_skip rfl rfl rfl ?_
        refine sy_skip rfl rfl rfl ?_
        refine sy_skip rfl rfl rfl ?_
        refine sy_skip rfl rfl rfl ?_
        refine sy_skip rfl rfl rfl ?_
        refine sy_skip rfl rfl rfl ?_
        refine sy_skip rfl rfl rfl ?_
        refine sy_skip rfl rfl rfl ?_
        refine sy_skip rfl rfl rfl ?_
        refine sy_skip rfl rfl rfl ?_
        refine sy_skip rfl rfl rfl ?_
        refine sy_skip rfl rfl rfl ?_
        refine sy_skip rfl rfl rfl ?_
        refine sy_skip rfl rfl rfl ?_
        refine sy_pickT rfl rfl rfl rfl ?_
        refine sy_assign rfl rfl rfl ?_
        refine sy_nil rfl ?_
        refine ny_blockN ?_
        refine ny_next ?_
        refine cy_region ?_
        refine sy_move rfl rfl rfl ?_
        refine sy_addi (z := ((jj + 1 : Nat) : Int)) rfl rfl (by omega) (by omega) (by omega) rfl rfl ?_
        refine sy_assign rfl rfl rfl ?_
        refine sy_nil rfl ?_
        refine ny_roundK [1, 7, 8, 10, 12, 14] (jj + 1) [] (show jj + 1 ≤ k by omega) (show k - (jj + 1) < k - jj by omega) rfl ⟨(by first | (rw [any_range_succ, ← Bool.or_assoc, hg74]; rfl) | (rw [any_range_succ, ← Bool.or_assoc, hg74, Bool.false_or]; unfold isF; rw [hg80]; rfl)), rfl, trivial⟩ rfl rfl
      · refine sy_move rfl rfl rfl ?_
        refine sy_move rfl rfl rfl ?_
        refine sy_move rfl rfl rfl ?_
        refine sy_call rfl call_23 rfl (leq_c _ _ _ _ hg hk1 hk2 (ru_lt hk2 q) _ _) rfl rfl ?_
        refine sy_not rfl rfl rfl ?_
        refine sy_move rfl rfl rfl ?_
        refine sy_cond (d := 80) _ rfl rfl (fun hg80 => ?_) (fun hg80 => ?_)
        · refine sy_move rfl rfl rfl ?_
          refine sy_move rfl rfl rfl ?_
          refine sy_move rfl rfl rfl ?_
          refine sy_idxR (fc := grC) (es := gs) els_25 rfl rfl hG hlG (by omega) rfl rfl (fun e84 b84 o84 he84 hA84 hc84 => ?_)
          refine sy_field fld_38_0 rfl rfl rfl ?_
          obtain rfl : e84 = e0 := by rw [he0] at he84; injection he84 with h9; exact h9.symm
          refine sy_ldh one_9 rfl (hc84 0 _ rfl) rfl rfl ?_
          refine sy_move rfl rfl rfl ?_
          refine sy_move rfl rfl rfl ?_
          refine sy_call rfl call_22 rfl (gmay_c g k (ru k q) _ hg hk1 hk2 (ru_lt hk2 q) tb30 gs hT30 hl100 _ _ _) rfl rfl ?_
          refine sy_pickT rfl rfl rfl rfl ?_
          refine sy_pickF rfl rfl rfl rfl ?_
          refine sy_assign rfl rfl rfl ?_
          refine sy_nil rfl ?_
          refine ny_blockN ?_
          refine ny_next ?_
          refine cy_region ?_
          refine sy_move rfl rfl rfl ?_
          refine sy_addi (z := ((jj + 1 : Nat) : Int)) rfl rfl (by omega) (by omega) (by omega) rfl rfl ?_
          refine sy_assign rfl rfl rfl ?_
          refine sy_nil rfl ?_
          refine ny_roundK [1, 7, 8, 10, 12, 14] (jj + 1) [] (show jj + 1 ≤ k by omega) (show k - (jj + 1) < k - jj by omega) rfl ⟨(by first | (rw [any_range_succ, ← Bool.or_assoc, hg74]; rfl) | (rw [any_range_succ, ← Bool.or_assoc, hg74, Bool.false_or]; unfold isF; rw [hg80]; rfl)), rfl, trivial⟩ rfl rfl
        · refine sy_skip rfl rfl rfl ?_
          refine sy_skip rfl rfl rfl ?_
          refine sy_skip rfl rfl rfl ?_
          refine sy_skip rfl rfl rfl ?_
          refine sy_skip rfl rfl rfl ?_
          refine sy_skip rfl rfl rfl ?_
          refine sy_skip rfl rfl rfl ?_
          refine sy_skip rfl rfl rfl ?_
          refine sy_skip rfl rfl rfl ?_
          refine sy_pickF rfl rfl rfl rfl ?_
          refine sy_pickF rfl rfl rfl rfl ?_
          refine sy_assign rfl rfl rfl ?_
          refine sy_nil rfl ?_
          refine ny_blockN ?_
          refine ny_next ?_
          refine cy_region ?_
          refine sy_move rfl rfl rfl ?_
          refine sy_addi (z := ((jj + 1 : Nat) : Int)) rfl rfl (by omega) (by omega) (by omega) rfl rfl ?_
          refine sy_assign rfl rfl rfl ?_
          refine sy_nil rfl ?_
          refine ny_roundK [1, 7, 8, 10, 12, 14] (jj + 1) [] (show jj + 1 ≤ k by omega) (show k - (jj + 1) < k - jj by omega) rfl ⟨(by first | (rw [any_range_succ, ← Bool.or_assoc, hg74]; rfl) | (rw [any_range_succ, ← Bool.or_assoc, hg74, Bool.false_or]; unfold isF; rw [hg80]; rfl)), rfl, trivial⟩ rfl rfl
    · have hje : jj = k := by have := of_decide_eq_false hc70; omega
      subst hje
      refine cy_exit ?_
      refine ny_thenE ?_
      refine ny_thenE ?_
      refine ny_blockX ?_
      refine ny_blockN ?_
      refine ny_next ?_
      refine cy_region ?_
      refine sy_move rfl rfl rfl ?_
      refine sy_addi (z := ((i + 1 : Nat) : Int)) rfl rfl (by omega) (by omega) (by omega) rfl rfl ?_
      refine sy_assign rfl rfl rfl ?_
      refine sy_nil rfl ?_
      refine ny_roundK [1, 7, 8, 10, 12] (i + 1) [] (show i + 1 ≤ lG by omega) (show lG - (i + 1) < lG - i by omega) rfl ⟨(by rw [any_take_succ he0]; rfl), rfl, trivial⟩ rfl rfl
  · have hie : i = gs.length := by have := of_decide_eq_false hc64; omega
    subst hie
    rw [List.take_length]
    refine cy_exit ?_
    refine ny_thenE ?_
    refine ny_thenE ?_
    refine ny_blockX ?_
    refine ny_next ?_
    refine cy_seq ?_
    refine cy_region ?_
    refine sy_move rfl rfl rfl ?_
    refine sy_callx call_20 rfl (gnewGood_c g k (ru k q) _ hg hk1 hk2 (ru_lt hk2 q) none 0 0 [] (fun j c hj => by simp at hj) rfl (Nat.le_refl _) (by decide) ht (fun g hg => (List.not_mem_nil hg).elim) newI_nil) rfl rfl (fun x94 h94 hx94 hle94 => ?_)
    have hG := hG.le hle94
    have ht := ht.le hle94
    have hg := hle94 _ _ hg
    have hT30 := hT30.le hle94
    revert hx94
    revert x94
    intro tb94 hT94
    refine sy_move rfl rfl rfl ?_
    refine sy_extract rfl rfl rfl rfl ?_
    refine sy_extract rfl rfl rfl rfl ?_
    refine sy_assign rfl rfl rfl ?_
    refine sy_assign rfl rfl rfl ?_
    refine sy_nil rfl ?_
    refine ny_next ?_
    refine cy_seq ?_
    refine cy_region ?_
    refine sy_move rfl rfl rfl ?_
    refine sy_move rfl rfl rfl ?_
    refine sy_setT (d := 98) rfl rfl (by first | rfl | decide | simp) ?_
    refine sy_move rfl rfl rfl ?_
    refine sy_move rfl rfl rfl ?_
    refine sy_call rfl call_24 rfl (gcross_c g k (ru k q) _ hg hk1 hk2 (ru_lt hk2 q) tb30 gs hT30 hl100 _) rfl rfl ?_
    refine sy_move rfl rfl rfl ?_
    refine sy_eqb Tryd.underlying4 rfl rfl rfl rfl ?_
    refine sy_setT (d := 103) rfl rfl (by rw [cross_is hxk h0]; simp) ?_
    refine sy_pickT rfl rfl rfl rfl ?_
    refine sy_move rfl rfl rfl ?_
    refine sy_move rfl rfl rfl ?_
    refine sy_move rfl rfl rfl ?_
    refine sy_call rfl call_26 rfl (topJ_c hg hk2 L2) rfl rfl ?_
    refine sy_call rfl call_24 rfl (gcross_c g k (ru k q) _ hg hk1 hk2 (ru_lt hk2 q) tb30 gs hT30 hl100 _) rfl rfl ?_
    refine sy_not rfl rfl rfl ?_
    refine sy_setT (d := 110) rfl rfl (by rw [cross_top L2 h0]; rfl) ?_
    refine sy_pickT rfl rfl rfl rfl ?_
    refine sy_move rfl rfl rfl ?_
    refine sy_move rfl rfl rfl ?_
    refine sy_eqn Tryd.underlying34 rfl rfl rfl rfl rfl ?_
    refine sy_setT (d := 114) rfl rfl rfl ?_
    refine sy_pickT rfl rfl rfl rfl ?_
    refine sy_move rfl rfl rfl ?_
    refine sy_move rfl rfl rfl ?_
    refine sy_move rfl rfl rfl ?_
    refine sy_call rfl call_24 rfl (gcross_c g k (ru k q) _ hg hk1 hk2 (ru_lt hk2 q) tb94 [] hT94 (by decide) _) rfl rfl ?_
    refine sy_not rfl rfl rfl ?_
    refine sy_setT (d := 120) rfl rfl (by rw [leqS_refl hxk]; rfl) ?_
    refine sy_pickT rfl rfl rfl rfl ?_
    refine sy_assign rfl rfl rfl ?_
    refine sy_nil rfl ?_
    refine ny_next ?_
    refine cy_ret ?_
    exact ny_finR (res1 rfl rfl) (fun w hs => ⟨rfl, hs.frm⟩)
set_option maxRecDepth 100000 in
theorem ones_bad (n : Int) (e : Gr) (hes : e.s.size ≤ 140737488355328) (ca cb : UInt8)  (A : Option Addr) (l c L : Nat) (q : List (Int × Int)) (h : Hp) (hlc : l ≤ c) (hL : L = min l 60) (hq : PairsAt h A q) (hql : q.length = L)  (ht : Tab10 h) (e9 : Int) (he : (e9 != 0) = true) (hb : ∀ h, PairsAt h A q → C0 Tryd.prog 18 [.int .i64 n, .slice A L c] h (newV (none, e9))) : C0 Tryd.prog 4 [.agg #[.int .i64 n, .slice A l c], .agg (grC e).toArray, .int .u8 (ca.toNat : Int), .int .u8 (cb.toNat : Int)] h (.bool true) := by
  refine enter0 Tryd.func4 rfl rfl rfl (fun w => ?_)
  refine cy_seq ?_
  refine cy_region ?_
  refine sy_box rfl rfl rfl rfl (fun b4 hb4 hM4 => ?_) (by simp)
  refine sy_box rfl rfl rfl rfl (fun b5 hb5 hM5 => ?_) (by simp)
  refine sy_assign rfl rfl rfl ?_
  refine sy_nil rfl ?_
  refine ny_next ?_
  refine cy_seq ?_
  refine cy_region ?_
  refine sy_call rfl call_17 rfl (shown02_c _ ht) rfl rfl ?_
  refine sy_assign rfl rfl rfl ?_
  refine sy_nil rfl ?_
  refine ny_next ?_
  refine cy_seq ?_
  refine cy_frz 1 rfl (by simp) (fun hbx0 hlebx hbx => ?_)
  replace hq := hq.le hlebx
  replace ht := ht.le hlebx
  refine cy_regionA mixedA ?_
  refine zy_q 0 rfl (by kernel_rfl) (fun hB2_0 => ?_)
  refine sy_field fld_24_0 rfl rfl rfl ?_
  refine sy_nil1 (ny_zq hB2_0 ?_)
  refine zy_q 1 rfl (by kernel_rfl) (fun hB2_1 => ?_)
  refine sy_ldh one_3 rfl (Hp.blk hbx 0 _ rfl) rfl rfl ?_
  refine sy_nil1 (ny_zq hB2_1 ?_)
  refine zy_q 2 rfl (by kernel_rfl) (fun hB2_2 => ?_)
  refine sy_ldah (vs := [.int .i64 n, .slice A l c]) agg_24 rfl rfl (Hp.blk hbx) rfl rfl ?_
  refine sy_nil1 (ny_zq hB2_2 ?_)
  refine zy_1 3 (by kernel_rfl) ?_
  refine zop_run rfl rfl (fun hB2_3 => ?_)
  refine sy_call rfl call_19 rfl (gfew_c n A l c L _ hlc hL) rfl rfl ?_
  refine sy_nil rfl (ny_zy hB2_3 (Hp.Le.refl _) ?_)
  refine zy_1 4 (by kernel_rfl) ?_
  refine zop_run rfl rfl (fun hB2_4 => ?_)
  refine sy_call rfl call_18 rfl (hb _ hq) rfl rfl ?_
  refine sy_nil rfl (ny_zy hB2_4 (Hp.Le.refl _) ?_)
  refine zy_q 5 rfl (by kernel_rfl) (fun hB2_5 => ?_)
  refine sy_move rfl rfl rfl ?_
  refine sy_nil1 (ny_zq hB2_5 ?_)
  refine zy_q 6 rfl (by kernel_rfl) (fun hB2_6 => ?_)
  refine sy_extract rfl rfl rfl rfl ?_
  refine sy_nil1 (ny_zq hB2_6 ?_)
  refine zy_q 7 rfl (by kernel_rfl) (fun hB2_7 => ?_)
  refine sy_extract rfl rfl rfl rfl ?_
  refine sy_nil1 (ny_zq hB2_7 ?_)
  refine zy_q 8 rfl (by kernel_rfl) (fun hB2_8 => ?_)
  refine sy_assign rfl rfl rfl ?_
  refine sy_nil1 (ny_zq hB2_8 ?_)
  refine zy_q 9 rfl (by kernel_rfl) (fun hB2_9 => ?_)
  refine sy_assign rfl rfl rfl ?_
  refine sy_nil1 (ny_zq hB2_9 ?_)
  refine zy_done (by kernel_rfl) ?_
  refine ny_next ?_
  refine cy_seq ?_
  refine cy_region ?_
  refine sy_move rfl rfl rfl ?_
  first | refine sy_ldar 0 agg_38 rfl rfl rfl rfl rfl ?_ | refine sy_ldar 1 agg_38 rfl rfl rfl rfl rfl ?_ | refine sy_ldar 2 agg_38 rfl rfl rfl rfl rfl ?_
  refine sy_buildSlice rfl (fun w => bsl_25_1_0 w) rfl rfl (fun b28 hb28 hM28 => ?_) (by simp)
  refine sy_frz 0 rfl (by simp) (fun h28 hle28 hb28 => ?_)
  replace ht := ht.le hle28
  refine sy_call rfl call_20 rfl (gnewN_c _ _ _ _) rfl rfl ?_
  refine sy_move rfl rfl rfl ?_
  refine sy_extract rfl rfl rfl rfl ?_
  refine sy_extract rfl rfl rfl rfl ?_
  refine sy_assign rfl rfl rfl ?_
  refine sy_assign rfl rfl rfl ?_
  refine sy_nil rfl ?_
  refine ny_next ?_
  refine cy_seq ?_
  refine cy_seq ?_
  refine cy_region ?_
  refine sy_move rfl rfl rfl ?_
  refine sy_cmp rfl rfl rfl rfl rfl ?_
  refine sy_setT (d := 33) rfl rfl he ?_
  refine sy_move rfl rfl rfl ?_
  refine sy_skip rfl rfl rfl ?_
  refine sy_skip rfl rfl rfl ?_
  refine sy_pickT rfl rfl rfl rfl ?_
  refine sy_move rfl rfl rfl ?_
  refine sy_skip rfl rfl rfl ?_
  refine sy_skip rfl rfl rfl ?_
  refine sy_pickT rfl rfl rfl rfl ?_
  refine sy_move rfl rfl rfl ?_
  refine sy_skip rfl rfl rfl ?_
  refine sy_skip rfl rfl rfl ?_
  refine sy_pickT rfl rfl rfl rfl ?_
  refine sy_nil rfl ?_
  refine ny_next ?_
  refine cy_condT rfl ?_
  refine cy_seq ?_
  refine cy_region ?_
  refine sy_move rfl rfl rfl ?_
  refine sy_move rfl rfl rfl ?_
  refine sy_setT (d := 47) rfl rfl (by first | rfl | decide | simp) ?_
  refine sy_move rfl rfl rfl ?_
  refine sy_cmp rfl rfl rfl rfl rfl ?_
  refine sy_setT (d := 49) rfl rfl he ?_
  refine sy_move rfl rfl rfl ?_
  refine sy_skip rfl rfl rfl ?_
  refine sy_skip rfl rfl rfl ?_
  refine sy_pickT rfl rfl rfl rfl ?_
  refine sy_pickT rfl rfl rfl rfl ?_
  refine sy_assign rfl rfl rfl ?_
  refine sy_nil rfl ?_
  refine ny_next ?_
  refine cy_ret ?_
  refine ny_thenR ?_
  exact ny_finR (res1 rfl rfl) (fun w hs => ⟨rfl, hs.frm⟩)
set_option maxRecDepth 100000 in
theorem ones_badg (k : Nat) (e : Gr) (hes : e.s.size ≤ 140737488355328) (ca cb : UInt8)  (A : Option Addr) (l c L : Nat) (q : List (Int × Int)) (h : Hp) (hlc : l ≤ c) (hL : L = min l 60) (hq : PairsAt h A q) (hql : q.length = L)  (ht : Tab10 h) (hF : Fine (k : Int) q) (j m2 : Nat → Nat → Nat) (lo hi : Nat) (L2 : Lat2 k q j m2 lo hi) (x y : Nat) (hx : x = ca.toNat % k) (hy : y = cb.toNat % k) (h0 : newI k (ru k q) [e] ≠ 0) : C0 Tryd.prog 4 [.agg #[.int .i64 (k : Int), .slice A l c], .agg (grC e).toArray, .int .u8 (ca.toNat : Int), .int .u8 (cb.toNat : Int)] h (.bool true) := by
  have hk1 : 1 ≤ k := by have := hF.1; omega
  have hk2 : k ≤ 16 := by have := hF.2.1; omega
  refine enter0 Tryd.func4 rfl rfl rfl (fun w => ?_)
  refine cy_seq ?_
  refine cy_region ?_
  refine sy_box rfl rfl rfl rfl (fun b4 hb4 hM4 => ?_) (by simp)
  refine sy_box rfl rfl rfl rfl (fun b5 hb5 hM5 => ?_) (by simp)
  refine sy_assign rfl rfl rfl ?_
  refine sy_nil rfl ?_
  refine ny_next ?_
  refine cy_seq ?_
  refine cy_region ?_
  refine sy_call rfl call_17 rfl (shown02_c _ ht) rfl rfl ?_
  refine sy_assign rfl rfl rfl ?_
  refine sy_nil rfl ?_
  refine ny_next ?_
  refine cy_seq ?_
  refine cy_frz 1 rfl (by simp) (fun hbx0 hlebx hbx => ?_)
  replace hq := hq.le hlebx
  replace ht := ht.le hlebx
  refine cy_regionA mixedA ?_
  refine zy_q 0 rfl (by kernel_rfl) (fun hB2_0 => ?_)
  refine sy_field fld_24_0 rfl rfl rfl ?_
  refine sy_nil1 (ny_zq hB2_0 ?_)
  refine zy_q 1 rfl (by kernel_rfl) (fun hB2_1 => ?_)
  refine sy_ldh one_3 rfl (Hp.blk hbx 0 _ rfl) rfl rfl ?_
  refine sy_nil1 (ny_zq hB2_1 ?_)
  refine zy_q 2 rfl (by kernel_rfl) (fun hB2_2 => ?_)
  refine sy_ldah (vs := [.int .i64 (k : Int), .slice A l c]) agg_24 rfl rfl (Hp.blk hbx) rfl rfl ?_
  refine sy_nil1 (ny_zq hB2_2 ?_)
  refine zy_1 3 (by kernel_rfl) ?_
  refine zop_run rfl rfl (fun hB2_3 => ?_)
  refine sy_call rfl call_19 rfl (gfew_c (k : Int) A l c L _ hlc hL) rfl rfl ?_
  refine sy_nil rfl (ny_zy hB2_3 (Hp.Le.refl _) ?_)
  refine zy_1 4 (by kernel_rfl) ?_
  refine zop_run rfl rfl (fun hB2_4 => ?_)
  refine sy_callx call_18 rfl (newGood_c k A _ c q _ hF hq hql (by omega)) rfl rfl (fun x22 h22 hx22 hle22 => ?_)
  have ht := ht.le hle22
  revert hx22
  revert x22
  intro g hg
  refine sy_nil rfl (ny_zy hB2_4 hle22 ?_)
  refine zy_q 5 rfl (by kernel_rfl) (fun hB2_5 => ?_)
  refine sy_move rfl rfl rfl ?_
  refine sy_nil1 (ny_zq hB2_5 ?_)
  refine zy_q 6 rfl (by kernel_rfl) (fun hB2_6 => ?_)
  refine sy_extract rfl rfl rfl rfl ?_
  refine sy_nil1 (ny_zq hB2_6 ?_)
  refine zy_q 7 rfl (by kernel_rfl) (fun hB2_7 => ?_)
  refine sy_extract rfl rfl rfl rfl ?_
  refine sy_nil1 (ny_zq hB2_7 ?_)
  refine zy_q 8 rfl (by kernel_rfl) (fun hB2_8 => ?_)
  refine sy_assign rfl rfl rfl ?_
  refine sy_nil1 (ny_zq hB2_8 ?_)
  refine zy_q 9 rfl (by kernel_rfl) (fun hB2_9 => ?_)
  refine sy_assign rfl rfl rfl ?_
  refine sy_nil1 (ny_zq hB2_9 ?_)
  refine zy_done (by kernel_rfl) ?_
  refine ny_next ?_
  refine cy_seq ?_
  refine cy_region ?_
  refine sy_move rfl rfl rfl ?_
  first | refine sy_ldar 0 agg_38 rfl rfl rfl rfl rfl ?_ | refine sy_ldar 1 agg_38 rfl rfl rfl rfl rfl ?_ | refine sy_ldar 2 agg_38 rfl rfl rfl rfl rfl ?_
  refine sy_buildSlice rfl (fun w => bsl_25_1_0 w) rfl rfl (fun b28 hb28 hM28 => ?_) (by simp)
  refine sy_frz 0 rfl (by simp) (fun h28 hle28 hb28 => ?_)
  replace ht := ht.le hle28
  replace hg := hle28 _ _ hg
  have hG : RowsAt h28 (some ⟨b28, 0, none⟩) 3 ([e].map grC) := rows_blk (by decide) (grC_len [e]) hb28
  refine sy_callx call_20 rfl (gnewBad_c g k (ru k q) _ hg hk1 hk2 (ru_lt hk2 q) (some ⟨b28, 0, none⟩) 1 1 [e] hG rfl (Nat.le_refl _) (by decide) ht (fun g hg => by simp only [List.mem_cons, List.not_mem_nil, or_false] at hg; subst hg; exact hes) h0) rfl rfl (fun x29 h29 hx29 hle29 => ?_)
  have ht := ht.le hle29
  have hg := hle29 _ _ hg
  refine sy_move rfl rfl rfl ?_
  refine sy_extract rfl rfl rfl rfl ?_
  refine sy_extract rfl rfl rfl rfl ?_
  refine sy_assign rfl rfl rfl ?_
  refine sy_assign rfl rfl rfl ?_
  refine sy_nil rfl ?_
  refine ny_next ?_
  refine cy_seq ?_
  refine cy_seq ?_
  refine cy_region ?_
  refine sy_move rfl rfl rfl ?_
  refine sy_cmp rfl rfl rfl rfl rfl ?_
  refine sy_setF (d := 33) rfl rfl rfl ?_
  refine sy_move rfl rfl rfl ?_
  refine sy_move rfl rfl rfl ?_
  refine sy_eqn Tryd.underlying34 rfl rfl rfl rfl rfl ?_
  refine sy_setT (d := 36) rfl rfl rfl ?_
  refine sy_pickF rfl rfl rfl rfl ?_
  refine sy_move rfl rfl rfl ?_
  refine sy_skip rfl rfl rfl ?_
  refine sy_skip rfl rfl rfl ?_
  refine sy_pickT rfl rfl rfl rfl ?_
  refine sy_move rfl rfl rfl ?_
  refine sy_skip rfl rfl rfl ?_
  refine sy_skip rfl rfl rfl ?_
  refine sy_pickT rfl rfl rfl rfl ?_
  refine sy_nil rfl ?_
  refine ny_next ?_
  refine cy_condT rfl ?_
  refine cy_seq ?_
  refine cy_region ?_
  refine sy_move rfl rfl rfl ?_
  refine sy_move rfl rfl rfl ?_
  refine sy_setT (d := 47) rfl rfl (by first | rfl | decide | simp) ?_
  refine sy_move rfl rfl rfl ?_
  refine sy_cmp rfl rfl rfl rfl rfl ?_
  refine sy_setF (d := 49) rfl rfl rfl ?_
  refine sy_move rfl rfl rfl ?_
  refine sy_move rfl rfl rfl ?_
  refine sy_eqn Tryd.underlying34 rfl rfl rfl rfl rfl ?_
  refine sy_setT (d := 52) rfl rfl rfl ?_
  refine sy_pickF rfl rfl rfl rfl ?_
  refine sy_pickT rfl rfl rfl rfl ?_
  refine sy_assign rfl rfl rfl ?_
  refine sy_nil rfl ?_
  refine ny_next ?_
  refine cy_ret ?_
  refine ny_thenR ?_
  exact ny_finR (res1 rfl rfl) (fun w hs => ⟨rfl, hs.frm⟩)
set_option maxRecDepth 100000 in
theorem ones_good (k : Nat) (e : Gr) (hes : e.s.size ≤ 140737488355328) (ca cb : UInt8)  (A : Option Addr) (l c L : Nat) (q : List (Int × Int)) (h : Hp) (hlc : l ≤ c) (hL : L = min l 60) (hq : PairsAt h A q) (hql : q.length = L)  (ht : Tab10 h) (hF : Fine (k : Int) q) (j m2 : Nat → Nat → Nat) (lo hi : Nat) (L2 : Lat2 k q j m2 lo hi) (x y : Nat) (hx : x = ca.toNat % k) (hy : y = cb.toNat % k) (h0 : newI k (ru k q) [e] = 0) : C0 Tryd.prog 4 [.agg #[.int .i64 (k : Int), .slice A l c], .agg (grC e).toArray, .int .u8 (ca.toNat : Int), .int .u8 (cb.toNat : Int)] h (.bool true) := by
  have hk1 : 1 ≤ k := by have := hF.1; omega
  have hk2 : k ≤ 16 := by have := hF.2.1; omega
  have hca := ca.toNat_lt
  have hcb := cb.toNat_lt
  have hxk : x < k := by rw [hx]; exact Nat.mod_lt _ hk1
  have hyk : y < k := by rw [hy]; exact Nat.mod_lt _ hk1
  refine enter0 Tryd.func4 rfl rfl rfl (fun w => ?_)
  refine cy_seq ?_
  refine cy_region ?_
  refine sy_box rfl rfl rfl rfl (fun b4 hb4 hM4 => ?_) (by simp)
  refine sy_box rfl rfl rfl rfl (fun b5 hb5 hM5 => ?_) (by simp)
  refine sy_assign rfl rfl rfl ?_
  refine sy_nil rfl ?_
  refine ny_next ?_
  refine cy_seq ?_
  refine cy_region ?_
  refine sy_call rfl call_17 rfl (shown02_c _ ht) rfl rfl ?_
  refine sy_assign rfl rfl rfl ?_
  refine sy_nil rfl ?_
  refine ny_next ?_
  refine cy_seq ?_
  refine cy_frz 1 rfl (by simp) (fun hbx0 hlebx hbx => ?_)
  replace hq := hq.le hlebx
  replace ht := ht.le hlebx
  refine cy_regionA mixedA ?_
  refine zy_q 0 rfl (by kernel_rfl) (fun hB2_0 => ?_)
  refine sy_field fld_24_0 rfl rfl rfl ?_
  refine sy_nil1 (ny_zq hB2_0 ?_)
  refine zy_q 1 rfl (by kernel_rfl) (fun hB2_1 => ?_)
  refine sy_ldh one_3 rfl (Hp.blk hbx 0 _ rfl) rfl rfl ?_
  refine sy_nil1 (ny_zq hB2_1 ?_)
  refine zy_q 2 rfl (by kernel_rfl) (fun hB2_2 => ?_)
  refine sy_ldah (vs := [.int .i64 (k : Int), .slice A l c]) agg_24 rfl rfl (Hp.blk hbx) rfl rfl ?_
  refine sy_nil1 (ny_zq hB2_2 ?_)
  refine zy_1 3 (by kernel_rfl) ?_
  refine zop_run rfl rfl (fun hB2_3 => ?_)
  refine sy_call rfl call_19 rfl (gfew_c (k : Int) A l c L _ hlc hL) rfl rfl ?_
  refine sy_nil rfl (ny_zy hB2_3 (Hp.Le.refl _) ?_)
  refine zy_1 4 (by kernel_rfl) ?_
  refine zop_run rfl rfl (fun hB2_4 => ?_)
  refine sy_callx call_18 rfl (newGood_c k A _ c q _ hF hq hql (by omega)) rfl rfl (fun x22 h22 hx22 hle22 => ?_)
  have ht := ht.le hle22
  revert hx22
  revert x22
  intro g hg
  refine sy_nil rfl (ny_zy hB2_4 hle22 ?_)
  refine zy_q 5 rfl (by kernel_rfl) (fun hB2_5 => ?_)
  refine sy_move rfl rfl rfl ?_
  refine sy_nil1 (ny_zq hB2_5 ?_)
  refine zy_q 6 rfl (by kernel_rfl) (fun hB2_6 => ?_)
  refine sy_extract rfl rfl rfl rfl ?_
  refine sy_nil1 (ny_zq hB2_6 ?_)
  refine zy_q 7 rfl (by kernel_rfl) (fun hB2_7 => ?_)
  refine sy_extract rfl rfl rfl rfl ?_
  refine sy_nil1 (ny_zq hB2_7 ?_)
  refine zy_q 8 rfl (by kernel_rfl) (fun hB2_8 => ?_)
  refine sy_assign rfl rfl rfl ?_
  refine sy_nil1 (ny_zq hB2_8 ?_)
  refine zy_q 9 rfl (by kernel_rfl) (fun hB2_9 => ?_)
  refine sy_assign rfl rfl rfl ?_
  refine sy_nil1 (ny_zq hB2_9 ?_)
  refine zy_done (by kernel_rfl) ?_
  refine ny_next ?_
  refine cy_seq ?_
  refine cy_region ?_
  refine sy_move rfl rfl rfl ?_
  first | refine sy_ldar 0 agg_38 rfl rfl rfl rfl rfl ?_ | refine sy_ldar 1 agg_38 rfl rfl rfl rfl rfl ?_ | refine sy_ldar 2 agg_38 rfl rfl rfl rfl rfl ?_
  refine sy_buildSlice rfl (fun w => bsl_25_1_0 w) rfl rfl (fun b28 hb28 hM28 => ?_) (by simp)
  refine sy_frz 0 rfl (by simp) (fun h28 hle28 hb28 => ?_)
  replace ht := ht.le hle28
  replace hg := hle28 _ _ hg
  have hG : RowsAt h28 (some ⟨b28, 0, none⟩) 3 ([e].map grC) := rows_blk (by decide) (grC_len [e]) hb28
  refine sy_callx call_20 rfl (gnewGood_c g k (ru k q) _ hg hk1 hk2 (ru_lt hk2 q) (some ⟨b28, 0, none⟩) 1 1 [e] hG rfl (Nat.le_refl _) (by decide) ht (fun g hg => by simp only [List.mem_cons, List.not_mem_nil, or_false] at hg; subst hg; exact hes) h0) rfl rfl (fun x29 h29 hx29 hle29 => ?_)
  have ht := ht.le hle29
  have hg := hle29 _ _ hg
  revert hx29
  revert x29
  intro tb29 hT29
  refine sy_move rfl rfl rfl ?_
  refine sy_extract rfl rfl rfl rfl ?_
  refine sy_extract rfl rfl rfl rfl ?_
  refine sy_assign rfl rfl rfl ?_
  refine sy_assign rfl rfl rfl ?_
  refine sy_nil rfl ?_
  refine ny_next ?_
  refine cy_seq ?_
  refine cy_seq ?_
  refine cy_region ?_
  refine sy_move rfl rfl rfl ?_
  refine sy_cmp rfl rfl rfl rfl rfl ?_
  refine sy_setF (d := 33) rfl rfl rfl ?_
  refine sy_move rfl rfl rfl ?_
  refine sy_move rfl rfl rfl ?_
  refine sy_eqn Tryd.underlying34 rfl rfl rfl rfl rfl ?_
  refine sy_setF (d := 36) rfl rfl rfl ?_
  refine sy_pickF rfl rfl rfl rfl ?_
  refine sy_move rfl rfl rfl ?_
  refine sy_move rfl rfl rfl ?_
  refine sy_eqp Tryd.underlying27 rfl rfl rfl rfl rfl ?_
  refine sy_setF (d := 40) rfl rfl rfl ?_
  refine sy_pickF rfl rfl rfl rfl ?_
  refine sy_move rfl rfl rfl ?_
  refine sy_move rfl rfl rfl ?_
  refine sy_eqp Tryd.underlying32 rfl rfl rfl rfl rfl ?_
  refine sy_setF (d := 44) rfl rfl rfl ?_
  refine sy_pickF rfl rfl rfl rfl ?_
  refine sy_nil rfl ?_
  refine ny_next ?_
  refine cy_condF rfl ?_
  refine cy_skip ?_
  refine ny_next ?_
  refine cy_seq ?_
  refine cy_region ?_
  refine sy_move rfl rfl rfl ?_
  refine sy_convi Tryd.underlying5 Tryd.underlying3 rfl (by omega) (by omega) rfl rfl ?_
  refine sy_move rfl rfl rfl ?_
  refine sy_call rfl call_21 rfl (len_c _ _ _ _ hg) rfl rfl ?_
  refine sy_rem (z := ((x : Nat) : Int)) rfl rfl (by omega) (by omega) (by omega) (by omega) rfl rfl ?_
  refine sy_assign rfl rfl rfl ?_
  refine sy_nil rfl ?_
  refine ny_next ?_
  refine cy_seq ?_
  refine cy_region ?_
  refine sy_move rfl rfl rfl ?_
  refine sy_convi Tryd.underlying5 Tryd.underlying3 rfl (by omega) (by omega) rfl rfl ?_
  refine sy_move rfl rfl rfl ?_
  refine sy_call rfl call_21 rfl (len_c _ _ _ _ hg) rfl rfl ?_
  refine sy_rem (z := ((y : Nat) : Int)) rfl rfl (by omega) (by omega) (by omega) (by omega) rfl rfl ?_
  refine sy_assign rfl rfl rfl ?_
  refine sy_nil rfl ?_
  refine ny_next ?_
  refine cy_seq ?_
  refine cy_regionQ mixedA (by kernel_rfl) ?_
  refine sy_move rfl rfl rfl ?_
  refine sy_move rfl rfl rfl ?_
  refine sy_setT (d := 66) rfl rfl (by first | rfl | decide | simp) ?_
  refine sy_move rfl rfl rfl ?_
  refine sy_field fld_38_0 rfl rfl rfl ?_
  first | refine sy_ldr 0 one_9 rfl rfl rfl rfl rfl ?_ | refine sy_ldr 1 one_9 rfl rfl rfl rfl rfl ?_ | refine sy_ldr 2 one_9 rfl rfl rfl rfl rfl ?_
  refine sy_move rfl rfl rfl ?_
  refine sy_move rfl rfl rfl ?_
  refine sy_call rfl call_22 rfl (gmay_c g k (ru k q) _ hg hk1 hk2 (ru_lt hk2 q) tb29 [e] hT29 (by simp) _ _ _) rfl rfl ?_
  refine sy_move rfl rfl rfl ?_
  refine sy_move rfl rfl rfl ?_
  refine sy_field fld_38_1 rfl rfl rfl ?_
  first | refine sy_ldr 0 one_3 rfl rfl rfl rfl rfl ?_ | refine sy_ldr 1 one_3 rfl rfl rfl rfl rfl ?_ | refine sy_ldr 2 one_3 rfl rfl rfl rfl rfl ?_
  refine sy_call rfl call_23 rfl (leq_c _ _ _ _ hg hk1 hk2 (ru_lt hk2 q) _ _) rfl rfl ?_
  refine sy_move rfl rfl rfl ?_
  refine sy_cond (d := 78) _ rfl rfl (fun hg78 => ?_) (fun hg78 => ?_)
  · refine sy_move rfl rfl rfl ?_
    refine sy_field fld_38_2 rfl rfl rfl ?_
    first | refine sy_ldr 0 one_3 rfl rfl rfl rfl rfl ?_ | refine sy_ldr 1 one_3 rfl rfl rfl rfl rfl ?_ | refine sy_ldr 2 one_3 rfl rfl rfl rfl rfl ?_
    refine sy_move rfl rfl rfl ?_
    refine sy_call rfl call_23 rfl (leq_c _ _ _ _ hg hk1 hk2 (ru_lt hk2 q) _ _) rfl rfl ?_
    refine sy_pickT rfl rfl rfl rfl ?_
    refine sy_eqb Tryd.underlying4 rfl rfl rfl rfl ?_
    refine sy_setT (d := 85) rfl rfl (by rw [one_may, hg78]; simp) ?_
    refine sy_pickT rfl rfl rfl rfl ?_
    refine sy_move rfl rfl rfl ?_
    refine sy_move rfl rfl rfl ?_
    refine sy_field fld_38_0 rfl rfl rfl ?_
    first | refine sy_ldr 0 one_9 rfl rfl rfl rfl rfl ?_ | refine sy_ldr 1 one_9 rfl rfl rfl rfl rfl ?_ | refine sy_ldr 2 one_9 rfl rfl rfl rfl rfl ?_
    refine sy_cat rfl rfl (by show e.s.size + 1 ≤ _; omega) rfl rfl ?_
    refine sy_move rfl rfl rfl ?_
    refine sy_move rfl rfl rfl ?_
    refine sy_call rfl call_22 rfl (gmay_c g k (ru k q) _ hg hk1 hk2 (ru_lt hk2 q) tb29 [e] hT29 (by simp) _ _ _) rfl rfl ?_
    refine sy_not rfl rfl rfl ?_
    refine sy_setT (d := 95) rfl rfl (by rw [one_not]; rfl) ?_
    refine sy_pickT rfl rfl rfl rfl ?_
    refine sy_move rfl rfl rfl ?_
    refine sy_move rfl rfl rfl ?_
    refine sy_move rfl rfl rfl ?_
    refine sy_call rfl call_24 rfl (gcross_c g k (ru k q) _ hg hk1 hk2 (ru_lt hk2 q) tb29 [e] hT29 (by simp) _) rfl rfl ?_
    refine sy_move rfl rfl rfl ?_
    refine sy_field fld_38_1 rfl rfl rfl ?_
    first | refine sy_ldr 0 one_3 rfl rfl rfl rfl rfl ?_ | refine sy_ldr 1 one_3 rfl rfl rfl rfl rfl ?_ | refine sy_ldr 2 one_3 rfl rfl rfl rfl rfl ?_
    refine sy_move rfl rfl rfl ?_
    refine sy_call rfl call_23 rfl (leq_c _ _ _ _ hg hk1 hk2 (ru_lt hk2 q) _ _) rfl rfl ?_
    refine sy_not rfl rfl rfl ?_
    refine sy_move rfl rfl rfl ?_
    refine sy_cond (d := 107) _ rfl rfl (fun hg107 => ?_) (fun hg107 => ?_)
    · refine sy_move rfl rfl rfl ?_
      refine sy_field fld_38_2 rfl rfl rfl ?_
      first | refine sy_ldr 0 one_3 rfl rfl rfl rfl rfl ?_ | refine sy_ldr 1 one_3 rfl rfl rfl rfl rfl ?_ | refine sy_ldr 2 one_3 rfl rfl rfl rfl rfl ?_
      refine sy_move rfl rfl rfl ?_
      refine sy_call rfl call_23 rfl (leq_c _ _ _ _ hg hk1 hk2 (ru_lt hk2 q) _ _) rfl rfl ?_
      refine sy_pickT rfl rfl rfl rfl ?_
      refine sy_eqb Tryd.underlying4 rfl rfl rfl rfl ?_
      refine sy_setT (d := 114) rfl rfl (by rw [one_cross e _ (leqS_refl hyk)]; first | (rw [hg107]; simp) | (have h9 := hg107; simp only at h9; rw [h9]; simp)) ?_
      refine sy_pickT rfl rfl rfl rfl ?_
      refine sy_assign rfl rfl rfl ?_
      refine sy_nil rfl ?_
      refine ny_next ?_
      refine cy_ret ?_
      exact ny_finR (res1 rfl rfl) (fun w hs => ⟨rfl, hs.frm⟩)
    · refine sy_skip rfl rfl rfl ?_
      refine sy_skip rfl rfl rfl ?_
      refine sy_skip rfl rfl rfl ?_
      refine sy_skip rfl rfl rfl ?_
      refine sy_skip rfl rfl rfl ?_
      refine sy_pickF rfl rfl rfl rfl ?_
      refine sy_eqb Tryd.underlying4 rfl rfl rfl rfl ?_
      refine sy_setT (d := 114) rfl rfl (by rw [one_cross e _ (leqS_refl hyk)]; first | (rw [hg107]; simp) | (have h9 := hg107; simp only at h9; rw [h9]; simp)) ?_
      refine sy_pickT rfl rfl rfl rfl ?_
      refine sy_assign rfl rfl rfl ?_
      refine sy_nil rfl ?_
      refine ny_next ?_
      refine cy_ret ?_
      exact ny_finR (res1 rfl rfl) (fun w hs => ⟨rfl, hs.frm⟩)
  · refine sy_skip rfl rfl rfl ?_
    refine sy_skip rfl rfl rfl ?_
    refine sy_skip rfl rfl rfl ?_
    refine sy_skip rfl rfl rfl ?_
    refine sy_skip rfl rfl rfl ?_
    refine sy_pickF rfl rfl rfl rfl ?_
    refine sy_eqb Tryd.underlying4 rfl rfl rfl rfl ?_
    refine sy_setT (d := 85) rfl rfl (by rw [one_may, hg78]; simp) ?_
    refine sy_pickT rfl rfl rfl rfl ?_
    refine sy_move rfl rfl rfl ?_
    refine sy_move rfl rfl rfl ?_
    refine sy_field fld_38_0 rfl rfl rfl ?_
    first | refine sy_ldr 0 one_9 rfl rfl rfl rfl rfl ?_ | refine sy_ldr 1 one_9 rfl rfl rfl rfl rfl ?_ | refine sy_ldr 2 one_9 rfl rfl rfl rfl rfl ?_
    refine sy_cat rfl rfl (by show e.s.size + 1 ≤ _; omega) rfl rfl ?_
    refine sy_move rfl rfl rfl ?_
    refine sy_move rfl rfl rfl ?_
    refine sy_call rfl call_22 rfl (gmay_c g k (ru k q) _ hg hk1 hk2 (ru_lt hk2 q) tb29 [e] hT29 (by simp) _ _ _) rfl rfl ?_
    refine sy_not rfl rfl rfl ?_
    refine sy_setT (d := 95) rfl rfl (by rw [one_not]; rfl) ?_
    refine sy_pickT rfl rfl rfl rfl ?_
    refine sy_move rfl rfl rfl ?_
    refine sy_move rfl rfl rfl ?_
    refine sy_move rfl rfl rfl ?_
    refine sy_call rfl call_24 rfl (gcross_c g k (ru k q) _ hg hk1 hk2 (ru_lt hk2 q) tb29 [e] hT29 (by simp) _) rfl rfl ?_
    refine sy_move rfl rfl rfl ?_
    refine sy_field fld_38_1 rfl rfl rfl ?_
    first | refine sy_ldr 0 one_3 rfl rfl rfl rfl rfl ?_ | refine sy_ldr 1 one_3 rfl rfl rfl rfl rfl ?_ | refine sy_ldr 2 one_3 rfl rfl rfl rfl rfl ?_
    refine sy_move rfl rfl rfl ?_
    refine sy_call rfl call_23 rfl (leq_c _ _ _ _ hg hk1 hk2 (ru_lt hk2 q) _ _) rfl rfl ?_
    refine sy_not rfl rfl rfl ?_
    refine sy_move rfl rfl rfl ?_
    refine sy_cond (d := 107) _ rfl rfl (fun hg107 => ?_) (fun hg107 => ?_)
    · refine sy_move rfl rfl rfl ?_
      refine sy_field fld_38_2 rfl rfl rfl ?_
      first | refine sy_ldr 0 one_3 rfl rfl rfl rfl rfl ?_ | refine sy_ldr 1 one_3 rfl rfl rfl rfl rfl ?_ | refine sy_ldr 2 one_3 rfl rfl rfl rfl rfl ?_
      refine sy_move rfl rfl rfl ?_
      refine sy_call rfl call_23 rfl (leq_c _ _ _ _ hg hk1 hk2 (ru_lt hk2 q) _ _) rfl rfl ?_
      refine sy_pickT rfl rfl rfl rfl ?_
      refine sy_eqb Tryd.underlying4 rfl rfl rfl rfl ?_
      refine sy_setT (d := 114) rfl rfl (by rw [one_cross e _ (leqS_refl hyk)]; first | (rw [hg107]; simp) | (have h9 := hg107; simp only at h9; rw [h9]; simp)) ?_
      refine sy_pickT rfl rfl rfl rfl ?_
      refine sy_assign rfl rfl rfl ?_
      refine sy_nil rfl ?_
      refine ny_next ?_
      refine cy_ret ?_
      exact ny_finR (res1 rfl rfl) (fun w hs => ⟨rfl, hs.frm⟩)
    · refine sy_skip rfl rfl rfl ?_
      refine sy_skip rfl rfl rfl ?_
      refine sy_skip rfl rfl rfl ?_
      refine sy_skip rfl rfl rfl ?_
      refine sy_skip rfl rfl rfl ?_
      refine sy_pickF rfl rfl rfl rfl ?_
      refine sy_eqb Tryd.underlying4 rfl rfl rfl rfl ?_
      refine sy_setT (d := 114) rfl rfl (by rw [one_cross e _ (leqS_refl hyk)]; first | (rw [hg107]; simp) | (have h9 := hg107; simp only at h9; rw [h9]; simp)) ?_
      refine sy_pickT rfl rfl rfl rfl ?_
      refine sy_assign rfl rfl rfl ?_
      refine sy_nil rfl ?_
      refine ny_next ?_
      refine cy_ret ?_
      exact ny_finR (res1 rfl rfl) (fun w hs => ⟨rfl, hs.frm⟩)
set_option maxRecDepth 100000 in
theorem wider_bad (n : Int) (m : Gr) (hms : m.s.size ≤ 140737488355328) (o : ByteArray)  (A : Option Addr) (l c L : Nat) (q : List (Int × Int)) (h : Hp) (hlc : l ≤ c) (hL : L = min l 60) (hq : PairsAt h A q) (hql : q.length = L) (AG : Option Addr) (lG cG : Nat) (ht : Tab10 h) (e9 : Int) (he : (e9 != 0) = true) (hb : ∀ h, PairsAt h A q → C0 Tryd.prog 18 [.int .i64 n, .slice A L c] h (newV (none, e9))) : C0 Tryd.prog 5 [.agg #[.int .i64 n, .slice A l c], .slice AG lG cG, .agg (grC m).toArray, .string o] h (.bool true) := by
  refine enter0 Tryd.func5 rfl rfl rfl (fun w => ?_)
  refine cy_seq ?_
  refine cy_region ?_
  refine sy_box rfl rfl rfl rfl (fun b4 hb4 hM4 => ?_) (by simp)
  refine sy_box rfl rfl rfl rfl (fun b6 hb6 hM6 => ?_) (by simp)
  refine sy_assign rfl rfl rfl ?_
  refine sy_nil rfl ?_
  refine ny_next ?_
  refine cy_seq ?_
  refine cy_region ?_
  refine sy_call rfl call_17 rfl (shown02_c _ ht) rfl rfl ?_
  refine sy_assign rfl rfl rfl ?_
  refine sy_nil rfl ?_
  refine ny_next ?_
  refine cy_seq ?_
  refine cy_frz 1 rfl (by simp) (fun hbx0 hlebx hbx => ?_)
  replace hq := hq.le hlebx
  replace ht := ht.le hlebx
  refine cy_regionA mixedA ?_
  refine zy_q 0 rfl (by kernel_rfl) (fun hB2_0 => ?_)
  refine sy_field fld_24_0 rfl rfl rfl ?_
  refine sy_nil1 (ny_zq hB2_0 ?_)
  refine zy_q 1 rfl (by kernel_rfl) (fun hB2_1 => ?_)
  refine sy_ldh one_3 rfl (Hp.blk hbx 0 _ rfl) rfl rfl ?_
  refine sy_nil1 (ny_zq hB2_1 ?_)
  refine zy_q 2 rfl (by kernel_rfl) (fun hB2_2 => ?_)
  refine sy_ldah (vs := [.int .i64 n, .slice A l c]) agg_24 rfl rfl (Hp.blk hbx) rfl rfl ?_
  refine sy_nil1 (ny_zq hB2_2 ?_)
  refine zy_1 3 (by kernel_rfl) ?_
  refine zop_run rfl rfl (fun hB2_3 => ?_)
  refine sy_call rfl call_19 rfl (gfew_c n A l c L _ hlc hL) rfl rfl ?_
  refine sy_nil rfl (ny_zy hB2_3 (Hp.Le.refl _) ?_)
  refine zy_1 4 (by kernel_rfl) ?_
  refine zop_run rfl rfl (fun hB2_4 => ?_)
  refine sy_call rfl call_18 rfl (hb _ hq) rfl rfl ?_
  refine sy_nil rfl (ny_zy hB2_4 (Hp.Le.refl _) ?_)
  refine zy_q 5 rfl (by kernel_rfl) (fun hB2_5 => ?_)
  refine sy_move rfl rfl rfl ?_
  refine sy_nil1 (ny_zq hB2_5 ?_)
  refine zy_q 6 rfl (by kernel_rfl) (fun hB2_6 => ?_)
  refine sy_extract rfl rfl rfl rfl ?_
  refine sy_nil1 (ny_zq hB2_6 ?_)
  refine zy_q 7 rfl (by kernel_rfl) (fun hB2_7 => ?_)
  refine sy_extract rfl rfl rfl rfl ?_
  refine sy_nil1 (ny_zq hB2_7 ?_)
  refine zy_q 8 rfl (by kernel_rfl) (fun hB2_8 => ?_)
  refine sy_assign rfl rfl rfl ?_
  refine sy_nil1 (ny_zq hB2_8 ?_)
  refine zy_q 9 rfl (by kernel_rfl) (fun hB2_9 => ?_)
  refine sy_assign rfl rfl rfl ?_
  refine sy_nil1 (ny_zq hB2_9 ?_)
  refine zy_done (by kernel_rfl) ?_
  refine ny_next ?_
  refine cy_seq ?_
  refine cy_region ?_
  refine sy_move rfl rfl rfl ?_
  refine sy_move rfl rfl rfl ?_
  refine sy_call rfl call_20 rfl (gnewN_c _ _ _ _) rfl rfl ?_
  refine sy_move rfl rfl rfl ?_
  refine sy_extract rfl rfl rfl rfl ?_
  refine sy_extract rfl rfl rfl rfl ?_
  refine sy_assign rfl rfl rfl ?_
  refine sy_assign rfl rfl rfl ?_
  refine sy_nil rfl ?_
  refine ny_next ?_
  refine cy_seq ?_
  refine cy_seq ?_
  refine cy_region ?_
  refine sy_move rfl rfl rfl ?_
  refine sy_cmp rfl rfl rfl rfl rfl ?_
  refine sy_setT (d := 35) rfl rfl he ?_
  refine sy_move rfl rfl rfl ?_
  refine sy_skip rfl rfl rfl ?_
  refine sy_skip rfl rfl rfl ?_
  refine sy_pickT rfl rfl rfl rfl ?_
  refine sy_move rfl rfl rfl ?_
  refine sy_skip rfl rfl rfl ?_
  refine sy_skip rfl rfl rfl ?_
  refine sy_pickT rfl rfl rfl rfl ?_
  refine sy_move rfl rfl rfl ?_
  refine sy_skip rfl rfl rfl ?_
  refine sy_skip rfl rfl rfl ?_
  refine sy_pickT rfl rfl rfl rfl ?_
  refine sy_nil rfl ?_
  refine ny_next ?_
  refine cy_condT rfl ?_
  refine cy_seq ?_
  refine cy_region ?_
  refine sy_move rfl rfl rfl ?_
  refine sy_move rfl rfl rfl ?_
  refine sy_setT (d := 49) rfl rfl (by first | rfl | decide | simp) ?_
  refine sy_move rfl rfl rfl ?_
  refine sy_cmp rfl rfl rfl rfl rfl ?_
  refine sy_setT (d := 51) rfl rfl he ?_
  refine sy_move rfl rfl rfl ?_
  refine sy_skip rfl rfl rfl ?_
  refine sy_skip rfl rfl rfl ?_
  refine sy_pickT rfl rfl rfl rfl ?_
  refine sy_pickT rfl rfl rfl rfl ?_
  refine sy_assign rfl rfl rfl ?_
  refine sy_nil rfl ?_
  refine ny_next ?_
  refine cy_ret ?_
  refine ny_thenR ?_
  exact ny_finR (res1 rfl rfl) (fun w hs => ⟨rfl, hs.frm⟩)
set_option maxRecDepth 100000 in
theorem wider_badg (k : Nat) (m : Gr) (hms : m.s.size ≤ 140737488355328) (o : ByteArray)  (A : Option Addr) (l c L : Nat) (q : List (Int × Int)) (h : Hp) (hlc : l ≤ c) (hL : L = min l 60) (hq : PairsAt h A q) (hql : q.length = L) (AG : Option Addr) (lG cG : Nat) (gs : List Gr) (hG : RowsAt h AG 3 (gs.map grC)) (hlG : gs.length = lG) (hcG : lG ≤ cG) (hBG : lG * 32 ≤ 140737488351232) (hokG : ∀ g, g ∈ gs → g.s.size ≤ 140737488355328) (ht : Tab10 h) (hF : Fine (k : Int) q) (j m2 : Nat → Nat → Nat) (lo hi : Nat) (L2 : Lat2 k q j m2 lo hi) (h0 : newI k (ru k q) gs ≠ 0) : C0 Tryd.prog 5 [.agg #[.int .i64 (k : Int), .slice A l c], .slice AG lG cG, .agg (grC m).toArray, .string o] h (.bool true) := by
  have hk1 : 1 ≤ k := by have := hF.1; omega
  have hk2 : k ≤ 16 := by have := hF.2.1; omega
  refine enter0 Tryd.func5 rfl rfl rfl (fun w => ?_)
  refine cy_seq ?_
  refine cy_region ?_
  refine sy_box rfl rfl rfl rfl (fun b4 hb4 hM4 => ?_) (by simp)
  refine sy_box rfl rfl rfl rfl (fun b6 hb6 hM6 => ?_) (by simp)
  refine sy_assign rfl rfl rfl ?_
  refine sy_nil rfl ?_
  refine ny_next ?_
  refine cy_seq ?_
  refine cy_region ?_
  refine sy_call rfl call_17 rfl (shown02_c _ ht) rfl rfl ?_
  refine sy_assign rfl rfl rfl ?_
  refine sy_nil rfl ?_
  refine ny_next ?_
  refine cy_seq ?_
  refine cy_frz 1 rfl (by simp) (fun hbx0 hlebx hbx => ?_)
  replace hq := hq.le hlebx
  replace ht := ht.le hlebx
  replace hG := hG.le hlebx
  refine cy_regionA mixedA ?_
  refine zy_q 0 rfl (by kernel_rfl) (fun hB2_0 => ?_)
  refine sy_field fld_24_0 rfl rfl rfl ?_
  refine sy_nil1 (ny_zq hB2_0 ?_)
  refine zy_q 1 rfl (by kernel_rfl) (fun hB2_1 => ?_)
  refine sy_ldh one_3 rfl (Hp.blk hbx 0 _ rfl) rfl rfl ?_
  refine sy_nil1 (ny_zq hB2_1 ?_)
  refine zy_q 2 rfl (by kernel_rfl) (fun hB2_2 => ?_)
  refine sy_ldah (vs := [.int .i64 (k : Int), .slice A l c]) agg_24 rfl rfl (Hp.blk hbx) rfl rfl ?_
  refine sy_nil1 (ny_zq hB2_2 ?_)
  refine zy_1 3 (by kernel_rfl) ?_
  refine zop_run rfl rfl (fun hB2_3 => ?_)
  refine sy_call rfl call_19 rfl (gfew_c (k : Int) A l c L _ hlc hL) rfl rfl ?_
  refine sy_nil rfl (ny_zy hB2_3 (Hp.Le.refl _) ?_)
  refine zy_1 4 (by kernel_rfl) ?_
  refine zop_run rfl rfl (fun hB2_4 => ?_)
  refine sy_callx call_18 rfl (newGood_c k A _ c q _ hF hq hql (by omega)) rfl rfl (fun x25 h25 hx25 hle25 => ?_)
  have hG := hG.le hle25
  have ht := ht.le hle25
  revert hx25
  revert x25
  intro g hg
  refine sy_nil rfl (ny_zy hB2_4 hle25 ?_)
  refine zy_q 5 rfl (by kernel_rfl) (fun hB2_5 => ?_)
  refine sy_move rfl rfl rfl ?_
  refine sy_nil1 (ny_zq hB2_5 ?_)
  refine zy_q 6 rfl (by kernel_rfl) (fun hB2_6 => ?_)
  refine sy_extract rfl rfl rfl rfl ?_
  refine sy_nil1 (ny_zq hB2_6 ?_)
  refine zy_q 7 rfl (by kernel_rfl) (fun hB2_7 => ?_)
  refine sy_extract rfl rfl rfl rfl ?_
  refine sy_nil1 (ny_zq hB2_7 ?_)
  refine zy_q 8 rfl (by kernel_rfl) (fun hB2_8 => ?_)
  refine sy_assign rfl rfl rfl ?_
  refine sy_nil1 (ny_zq hB2_8 ?_)
  refine zy_q 9 rfl (by kernel_rfl) (fun hB2_9 => ?_)
  refine sy_assign rfl rfl rfl ?_
  refine sy_nil1 (ny_zq hB2_9 ?_)
  refine zy_done (by kernel_rfl) ?_
  refine ny_next ?_
  refine cy_seq ?_
  refine cy_region ?_
  refine sy_move rfl rfl rfl ?_
  refine sy_move rfl rfl rfl ?_
  refine sy_callx call_20 rfl (gnewBad_c g k (ru k q) _ hg hk1 hk2 (ru_lt hk2 q) AG lG cG gs hG hlG hcG hBG ht hokG h0) rfl rfl (fun x31 h31 hx31 hle31 => ?_)
  have hG := hG.le hle31
  have ht := ht.le hle31
  have hg := hle31 _ _ hg
  refine sy_move rfl rfl rfl ?_
  refine sy_extract rfl rfl rfl rfl ?_
  refine sy_extract rfl rfl rfl rfl ?_
  refine sy_assign rfl rfl rfl ?_
  refine sy_assign rfl rfl rfl ?_
  refine sy_nil rfl ?_
  refine ny_next ?_
  refine cy_seq ?_
  refine cy_seq ?_
  refine cy_region ?_
  refine sy_move rfl rfl rfl ?_
  refine sy_cmp rfl rfl rfl rfl rfl ?_
  refine sy_setF (d := 35) rfl rfl rfl ?_
  refine sy_move rfl rfl rfl ?_
  refine sy_move rfl rfl rfl ?_
  refine sy_eqn Tryd.underlying34 rfl rfl rfl rfl rfl ?_
  refine sy_setT (d := 38) rfl rfl rfl ?_
  refine sy_pickF rfl rfl rfl rfl ?_
  refine sy_move rfl rfl rfl ?_
  refine sy_skip rfl rfl rfl ?_
  refine sy_skip rfl rfl rfl ?_
  refine sy_pickT rfl rfl rfl rfl ?_
  refine sy_move rfl rfl rfl ?_
  refine sy_skip rfl rfl rfl ?_
  refine sy_skip rfl rfl rfl ?_
  refine sy_pickT rfl rfl rfl rfl ?_
  refine sy_nil rfl ?_
  refine ny_next ?_
  refine cy_condT rfl ?_
  refine cy_seq ?_
  refine cy_region ?_
  refine sy_move rfl rfl rfl ?_
  refine sy_move rfl rfl rfl ?_
  refine sy_setT (d := 49) rfl rfl (by first | rfl | decide | simp) ?_
  refine sy_move rfl rfl rfl ?_
  refine sy_cmp rfl rfl rfl rfl rfl ?_
  refine sy_setF (d := 51) rfl rfl rfl ?_
  refine sy_move rfl rfl rfl ?_
  refine sy_move rfl rfl rfl ?_
  refine sy_eqn Tryd.underlying34 rfl rfl rfl rfl rfl ?_
  refine sy_setT (d := 54) rfl rfl rfl ?_
  refine sy_pickF rfl rfl rfl rfl ?_
  refine sy_pickT rfl rfl rfl rfl ?_
  refine sy_assign rfl rfl rfl ?_
  refine sy_nil rfl ?_
  refine ny_next ?_
  refine cy_ret ?_
  refine ny_thenR ?_
  exact ny_finR (res1 rfl rfl) (fun w hs => ⟨rfl, hs.frm⟩)
set_option maxRecDepth 100000 in
theorem wider_good (k : Nat) (m : Gr) (hms : m.s.size ≤ 140737488355328) (o : ByteArray)  (A : Option Addr) (l c L : Nat) (q : List (Int × Int)) (h : Hp) (hlc : l ≤ c) (hL : L = min l 60) (hq : PairsAt h A q) (hql : q.length = L) (AG : Option Addr) (lG cG : Nat) (gs : List Gr) (hG : RowsAt h AG 3 (gs.map grC)) (hlG : gs.length = lG) (hcG : lG ≤ cG) (hBG : lG * 32 ≤ 140737488351232) (hokG : ∀ g, g ∈ gs → g.s.size ≤ 140737488355328) (ht : Tab10 h) (hF : Fine (k : Int) q) (j m2 : Nat → Nat → Nat) (lo hi : Nat) (L2 : Lat2 k q j m2 lo hi) (h0 : newI k (ru k q) gs = 0) (h1 : newI k (ru k q) (gs ++ [m]) = 0) : C0 Tryd.prog 5 [.agg #[.int .i64 (k : Int), .slice A l c], .slice AG lG cG, .agg (grC m).toArray, .string o] h (.bool true) := by
  have hk1 : 1 ≤ k := by have := hF.1; omega
  have hk2 : k ≤ 16 := by have := hF.2.1; omega
  have hl100 : gs.length ≤ 100 := by have := (newI_zero.1 h0).1; omega
  refine enter0 Tryd.func5 rfl rfl rfl (fun w => ?_)
  refine cy_seq ?_
  refine cy_region ?_
  refine sy_box rfl rfl rfl rfl (fun b4 hb4 hM4 => ?_) (by simp)
  refine sy_box rfl rfl rfl rfl (fun b6 hb6 hM6 => ?_) (by simp)
  refine sy_assign rfl rfl rfl ?_
  refine sy_nil rfl ?_
  refine ny_next ?_
  refine cy_seq ?_
  refine cy_region ?_
  refine sy_call rfl call_17 rfl (shown02_c _ ht) rfl rfl ?_
  refine sy_assign rfl rfl rfl ?_
  refine sy_nil rfl ?_
  refine ny_next ?_
  refine cy_seq ?_
  refine cy_frz 1 rfl (by simp) (fun hbx0 hlebx hbx => ?_)
  replace hq := hq.le hlebx
  replace ht := ht.le hlebx
  replace hG := hG.le hlebx
  refine cy_regionA mixedA ?_
  refine zy_q 0 rfl (by kernel_rfl) (fun hB2_0 => ?_)
  refine sy_field fld_24_0 rfl rfl rfl ?_
  refine sy_nil1 (ny_zq hB2_0 ?_)
  refine zy_q 1 rfl (by kernel_rfl) (fun hB2_1 => ?_)
  refine sy_ldh one_3 rfl (Hp.blk hbx 0 _ rfl) rfl rfl ?_
  refine sy_nil1 (ny_zq hB2_1 ?_)
  refine zy_q 2 rfl (by kernel_rfl) (fun hB2_2 => ?_)
  refine sy_ldah (vs := [.int .i64 (k : Int), .slice A l c]) agg_24 rfl rfl (Hp.blk hbx) rfl rfl ?_
  refine sy_nil1 (ny_zq hB2_2 ?_)
  refine zy_1 3 (by kernel_rfl) ?_
  refine zop_run rfl rfl (fun hB2_3 => ?_)
  refine sy_call rfl call_19 rfl (gfew_c (k : Int) A l c L _ hlc hL) rfl rfl ?_
  refine sy_nil rfl (ny_zy hB2_3 (Hp.Le.refl _) ?_)
  refine zy_1 4 (by kernel_rfl) ?_
  refine zop_run rfl rfl (fun hB2_4 => ?_)
  refine sy_callx call_18 rfl (newGood_c k A _ c q _ hF hq hql (by omega)) rfl rfl (fun x25 h25 hx25 hle25 => ?_)
  have hG := hG.le hle25
  have ht := ht.le hle25
  revert hx25
  revert x25
  intro g hg
  refine sy_nil rfl (ny_zy hB2_4 hle25 ?_)
  refine zy_q 5 rfl (by kernel_rfl) (fun hB2_5 => ?_)
  refine sy_move rfl rfl rfl ?_
  refine sy_nil1 (ny_zq hB2_5 ?_)
  refine zy_q 6 rfl (by kernel_rfl) (fun hB2_6 => ?_)
  refine sy_extract rfl rfl rfl rfl ?_
  refine sy_nil1 (ny_zq hB2_6 ?_)
  refine zy_q 7 rfl (by kernel_rfl) (fun hB2_7 => ?_)
  refine sy_extract rfl rfl rfl rfl ?_
  refine sy_nil1 (ny_zq hB2_7 ?_)
  refine zy_q 8 rfl (by kernel_rfl) (fun hB2_8 => ?_)
  refine sy_assign rfl rfl rfl ?_
  refine sy_nil1 (ny_zq hB2_8 ?_)
  refine zy_q 9 rfl (by kernel_rfl) (fun hB2_9 => ?_)
  refine sy_assign rfl rfl rfl ?_
  refine sy_nil1 (ny_zq hB2_9 ?_)
  refine zy_done (by kernel_rfl) ?_
  refine ny_next ?_
  refine cy_seq ?_
  refine cy_region ?_
  refine sy_move rfl rfl rfl ?_
  refine sy_move rfl rfl rfl ?_
  refine sy_callx call_20 rfl (gnewGood_c g k (ru k q) _ hg hk1 hk2 (ru_lt hk2 q) AG lG cG gs hG hlG hcG hBG ht hokG h0) rfl rfl (fun x31 h31 hx31 hle31 => ?_)
  have hG := hG.le hle31
  have ht := ht.le hle31
  have hg := hle31 _ _ hg
  revert hx31
  revert x31
  intro tb31 hT31
  refine sy_move rfl rfl rfl ?_
  refine sy_extract rfl rfl rfl rfl ?_
  refine sy_extract rfl rfl rfl rfl ?_
  refine sy_assign rfl rfl rfl ?_
  refine sy_assign rfl rfl rfl ?_
  refine sy_nil rfl ?_
  refine ny_next ?_
  refine cy_seq ?_
  refine cy_seq ?_
  refine cy_region ?_
  refine sy_move rfl rfl rfl ?_
  refine sy_cmp rfl rfl rfl rfl rfl ?_
  refine sy_setF (d := 35) rfl rfl rfl ?_
  refine sy_move rfl rfl rfl ?_
  refine sy_move rfl rfl rfl ?_
  refine sy_eqn Tryd.underlying34 rfl rfl rfl rfl rfl ?_
  refine sy_setF (d := 38) rfl rfl rfl ?_
  refine sy_pickF rfl rfl rfl rfl ?_
  refine sy_move rfl rfl rfl ?_
  refine sy_move rfl rfl rfl ?_
  refine sy_eqp Tryd.underlying27 rfl rfl rfl rfl rfl ?_
  refine sy_setF (d := 42) rfl rfl rfl ?_
  refine sy_pickF rfl rfl rfl rfl ?_
  refine sy_move rfl rfl rfl ?_
  refine sy_move rfl rfl rfl ?_
  refine sy_eqp Tryd.underlying32 rfl rfl rfl rfl rfl ?_
  refine sy_setF (d := 46) rfl rfl rfl ?_
  refine sy_pickF rfl rfl rfl rfl ?_
  refine sy_nil rfl ?_
  refine ny_next ?_
  refine cy_condF rfl ?_
  refine cy_skip ?_
  refine ny_next ?_
  refine cy_seq ?_
  refine cy_frz 0 rfl (by simp) (fun h6 hle6 hb6 => ?_)
  replace ht := ht.le hle6
  replace hg := hle6 _ _ hg
  replace hG := hG.le hle6
  replace hT31 := hT31.le hle6
  refine cy_regionA mixedA ?_
  refine zy_q 0 rfl (by kernel_rfl) (fun hB6_0 => ?_)
  refine sy_move rfl rfl rfl ?_
  refine sy_nil1 (ny_zq hB6_0 ?_)
  refine zy_q 2 rfl (by kernel_rfl) (fun hB6_2 => ?_)
  refine sy_move rfl rfl rfl ?_
  refine sy_nil1 (ny_zq hB6_2 ?_)
  refine zy_q 4 rfl (by kernel_rfl) (fun hB6_4 => ?_)
  refine sy_ldah (vs := grC m) agg_38 rfl rfl (Hp.blk hb6) rfl rfl ?_
  refine sy_nil1 (ny_zq hB6_4 ?_)
  refine zy_2 1 5 (by kernel_rfl) ?_ ?_
  · refine zop_run rfl rfl (fun hB6_1 => ?_)
    refine sy_buildSlice (cs := []) rfl (fun w => bsl_25_0_ w) rfl rfl (fun b59 hb59 hM59 => ?_) (by simp)
    refine sy_nil rfl (ny_zy hB6_1 (Hp.Le.refl _) ?_)
    refine zy_2 3 5 (by kernel_rfl) ?_ ?_
    · refine zop_run rfl rfl (fun hB6_3 => ?_)
      first | refine sy_asRow (l := 0) (sz := 3) (cs := []) 0 rfl rfl (Nat.zero_le _) ?_ | refine sy_asRow (l := 0) (sz := 3) (cs := []) 1 rfl rfl (Nat.zero_le _) ?_
      refine sy_appendh (news := (gs.map grC).flatten) 0 row_25 (by decide) rfl rfl rfl (fun hA => by have := hG.none hA; simp only [List.length_map] at this; omega) (by rw [flat_len (grC_len gs)]; simp [hlG]) (hG.cells (by decide) (grC_len gs)) (grC_ones gs) (by omega) (by simp only [maxLen]; omega) rfl rfl (fun v61 => ?_)
      refine sy_nil rfl (ny_zy hB6_3 (Hp.Le.refl _) ?_)
      refine zy_1 5 (by kernel_rfl) ?_
      refine zop_run rfl rfl (fun hB6_5 => ?_)
      refine sy_buildSlice rfl (fun w => bsl_25_1_0 w) rfl rfl (fun b63 hb63 hM63 => ?_) (by simp)
      refine sy_nil rfl (ny_zy hB6_5 (Hp.Le.refl _) ?_)
      refine zy_1 6 (by kernel_rfl) ?_
      refine zop_run rfl rfl (fun hB6_6 => ?_)
      first | refine sy_append 0 1 row_25 (by decide) rfl rfl rfl rfl rfl rfl (by omega) (by simp only [maxLen]; omega) rfl rfl (fun v64 => ?_) | refine sy_append 1 0 row_25 (by decide) rfl rfl rfl rfl rfl rfl (by omega) (by simp only [maxLen]; omega) rfl rfl (fun v64 => ?_)
      refine sy_nil rfl (ny_zy hB6_6 (Hp.Le.refl _) ?_)
      refine zy_1 7 (by kernel_rfl) ?_
      refine zop_run rfl rfl (fun hB6_7 => ?_)
      refine sy_frzRow 0 rfl (fun _ _ => by simp) (fun A64 c64 h64 hv64 hlc64 hcm64 _ hle64 hcell64 => ?_)
      subst hv64
      have hr64 : RowsAt h64 A64 3 ((gs ++ [m]).map grC) := by
        rw [List.nil_append] at hcell64
        have h9 := grs_snoc gs m
        exact rows_row (by decide) (grC_len _) (by rw [h9]; exact hcell64)
      replace ht := ht.le hle64
      replace hg := hle64 _ _ hg
      replace hG := hG.le hle64
      replace hT31 := hT31.le hle64
      refine sy_callx call_20 rfl (gnewGood_c g k (ru k q) _ hg hk1 hk2 (ru_lt hk2 q) A64 _ c64 (gs ++ [m]) hr64 (by rw [List.length_append, hlG, Nat.zero_add]; rfl) hlc64 (by omega) ht (fun g hg => (List.mem_append.1 hg).elim (hokG g) (fun h9 => by simp only [List.mem_cons, List.not_mem_nil, or_false] at h9; subst h9; exact hms)) h1) rfl rfl (fun x65 h65 hx65 hle65 => ?_)
      have hG := hG.le hle65
      have ht := ht.le hle65
      have hg := hle65 _ _ hg
      have hT31 := hT31.le hle65
      revert hx65
      revert x65
      intro tb65 hT65
      refine sy_nil rfl (ny_zy hB6_7 (hle64.trans hle65) ?_)
      refine zy_q 8 rfl (by kernel_rfl) (fun hB6_8 => ?_)
      refine sy_move rfl rfl rfl ?_
      refine sy_nil1 (ny_zq hB6_8 ?_)
      refine zy_q 9 rfl (by kernel_rfl) (fun hB6_9 => ?_)
      refine sy_extract rfl rfl rfl rfl ?_
      refine sy_nil1 (ny_zq hB6_9 ?_)
      refine zy_q 10 rfl (by kernel_rfl) (fun hB6_10 => ?_)
      refine sy_extract rfl rfl rfl rfl ?_
      refine sy_nil1 (ny_zq hB6_10 ?_)
      refine zy_q 11 rfl (by kernel_rfl) (fun hB6_11 => ?_)
      refine sy_assign rfl rfl rfl ?_
      refine sy_nil1 (ny_zq hB6_11 ?_)
      refine zy_q 12 rfl (by kernel_rfl) (fun hB6_12 => ?_)
      refine sy_assign rfl rfl rfl ?_
      refine sy_nil1 (ny_zq hB6_12 ?_)
      refine zy_done (by kernel_rfl) ?_
      refine ny_next ?_
      refine cy_seq ?_
      refine cy_seq ?_
      refine cy_region ?_
      refine sy_assign rfl rfl rfl ?_
      refine sy_nil rfl ?_
      refine ny_next ?_
      refine cy_block ?_
      refine cy_loopK (ι := Nat) [3, 9, 10, 12, 14, 15] rfl (fun a => a ≤ k) (fun a => k - a) (fun a => [(16, .int .i64 (a : Int))]) (fun a => h65) (fun a => []) 0 [] (Nat.zero_le _) ⟨rfl, trivial⟩ rfl rfl ?_
      rintro a hA
      refine cy_seq ?_
      refine cy_seq ?_
      refine cy_region ?_
      refine sy_move rfl rfl rfl ?_
      refine sy_move rfl rfl rfl ?_
      refine sy_call rfl call_21 rfl (len_c _ _ _ _ hg) rfl rfl ?_
      refine sy_cmp rfl rfl rfl rfl rfl ?_
      refine sy_nil rfl ?_
      refine ny_next ?_
      refine cy_cond rfl (fun hc71 => ?_) (fun hc71 => ?_)
      · have hlta : a < k := by have := of_decide_eq_true hc71; omega
        refine cy_skip ?_
        refine ny_next ?_
        refine cy_seq ?_
        refine cy_block ?_
        refine cy_seq ?_
        refine cy_region ?_
        refine sy_assign rfl rfl rfl ?_
        refine sy_nil rfl ?_
        refine ny_next ?_
        refine cy_block ?_
        refine cy_loopK (ι := Nat) [3, 9, 10, 12, 14, 15, 16] rfl (fun b => b ≤ k) (fun b => k - b) (fun b => [(17, .int .i64 (b : Int))]) (fun b => h65) (fun b => []) 0 [] (Nat.zero_le _) ⟨rfl, trivial⟩ rfl rfl ?_
        rintro b hB
        refine cy_seq ?_
        refine cy_seq ?_
        refine cy_region ?_
        refine sy_move rfl rfl rfl ?_
        refine sy_move rfl rfl rfl ?_
        refine sy_call rfl call_21 rfl (len_c _ _ _ _ hg) rfl rfl ?_
        refine sy_cmp rfl rfl rfl rfl rfl ?_
        refine sy_nil rfl ?_
        refine ny_next ?_
        refine cy_cond rfl (fun hc77 => ?_) (fun hc77 => ?_)
        · have hltb : b < k := by have := of_decide_eq_true hc77; omega
          refine cy_skip ?_
          refine ny_next ?_
          refine cy_seq ?_
          refine cy_block ?_
          refine cy_seq ?_
          refine cy_seq ?_
          refine cy_region ?_
          refine sy_move rfl rfl rfl ?_
          refine sy_move rfl rfl rfl ?_
          refine sy_move rfl rfl rfl ?_
          refine sy_move rfl rfl rfl ?_
          refine sy_call rfl call_22 rfl (gmay_c g k (ru k q) _ hg hk1 hk2 (ru_lt hk2 q) tb31 gs hT31 hl100 _ _ _) rfl rfl ?_
          refine sy_not rfl rfl rfl ?_
          refine sy_nil rfl ?_
          refine ny_next ?_
          refine cy_cond rfl (fun hc85 => ?_) (fun hc85 => ?_)
          · refine cy_exit ?_
            refine ny_thenE ?_
            refine ny_blockX ?_
            refine ny_next ?_
            refine cy_region ?_
            refine sy_move rfl rfl rfl ?_
            refine sy_addi (z := ((b + 1 : Nat) : Int)) rfl rfl (by omega) (by omega) (by omega) rfl rfl ?_
            refine sy_assign rfl rfl rfl ?_
            refine sy_nil rfl ?_
            refine ny_roundK [3, 9, 10, 12, 14, 15, 16] (b + 1) [] (show b + 1 ≤ k by omega) (show k - (b + 1) < k - b by omega) rfl ⟨rfl, trivial⟩ rfl rfl
          · have hmay : gs.any (mayB k (ru k q) o (a : Int) (b : Int)) = true := by simpa using hc85
            refine cy_skip ?_
            refine ny_next ?_
            refine cy_seq ?_
            refine cy_seq ?_
            refine cy_region ?_
            refine sy_move rfl rfl rfl ?_
            refine sy_eqn Tryd.underlying34 rfl rfl rfl rfl rfl ?_
            refine sy_setT (d := 87) rfl rfl rfl ?_
            refine sy_move rfl rfl rfl ?_
            refine sy_move rfl rfl rfl ?_
            refine sy_move rfl rfl rfl ?_
            refine sy_move rfl rfl rfl ?_
            refine sy_move rfl rfl rfl ?_
            refine sy_call rfl call_22 rfl (gmay_c g k (ru k q) _ hg hk1 hk2 (ru_lt hk2 q) tb65 (gs ++ [m]) hT65 (Nat.le_of_not_lt (newI_zero.1 h1).1) _ _ _) rfl rfl ?_
            refine sy_not rfl rfl rfl ?_
            refine sy_setF (d := 94) rfl rfl (by rw [may_more m hmay]; rfl) ?_
            refine sy_pickT rfl rfl rfl rfl ?_
            refine sy_move rfl rfl rfl ?_
            refine sy_move rfl rfl rfl ?_
            refine sy_move rfl rfl rfl ?_
            refine sy_move rfl rfl rfl ?_
            refine sy_call rfl call_25 rfl (botJ_c hg hk2 L2) rfl rfl ?_
            refine sy_move rfl rfl rfl ?_
            refine sy_call rfl call_22 rfl (gmay_c g k (ru k q) _ hg hk1 hk2 (ru_lt hk2 q) tb31 gs hT31 hl100 _ _ _) rfl rfl ?_
            refine sy_not rfl rfl rfl ?_
            refine sy_setF (d := 103) rfl rfl (by rw [may_wider (x := (a : Int)) (y := (b : Int)) hmay ((leq_ru L2.lon hlta).2 (L2.lol a hlta)) (leqS_refl hltb)]; rfl) ?_
            refine sy_pickF rfl rfl rfl rfl ?_
            refine sy_move rfl rfl rfl ?_
            refine sy_move rfl rfl rfl ?_
            refine sy_move rfl rfl rfl ?_
            refine sy_move rfl rfl rfl ?_
            refine sy_move rfl rfl rfl ?_
            refine sy_call rfl call_26 rfl (topJ_c hg hk2 L2) rfl rfl ?_
            refine sy_call rfl call_22 rfl (gmay_c g k (ru k q) _ hg hk1 hk2 (ru_lt hk2 q) tb31 gs hT31 hl100 _ _ _) rfl rfl ?_
            refine sy_not rfl rfl rfl ?_
            refine sy_setF (d := 112) rfl rfl (by rw [may_wider (x := (a : Int)) (y := (b : Int)) hmay (leqS_refl hlta) ((leq_ru hltb L2.hin).2 (L2.hir b hltb))]; rfl) ?_
            refine sy_pickF rfl rfl rfl rfl ?_
            refine sy_nil rfl ?_
            refine ny_next ?_
            refine cy_condF rfl ?_
            refine cy_skip ?_
            refine ny_next ?_
            refine cy_seq ?_
            refine cy_region ?_
            refine sy_assign rfl rfl rfl ?_
            refine sy_nil rfl ?_
            refine ny_next ?_
            refine cy_block ?_
            refine cy_loopK (ι := Nat) [3, 9, 10, 12, 14, 15, 16, 17, 89, 90, 91, 92, 93, 94, 97, 98, 99, 100, 101, 102, 103, 106, 107, 108, 109, 110, 111, 112] rfl (fun cc => cc ≤ k) (fun cc => k - cc) (fun cc => [(18, .int .i64 (cc : Int))]) (fun cc => h65) (fun cc => []) 0 [] (Nat.zero_le _) ⟨rfl, trivial⟩ rfl rfl ?_
            rintro cc hC
            refine cy_seq ?_
            refine cy_seq ?_
            refine cy_region ?_
            refine sy_move rfl rfl rfl ?_
            refine sy_move rfl rfl rfl ?_
            refine sy_call rfl call_21 rfl (len_c _ _ _ _ hg) rfl rfl ?_
            refine sy_cmp rfl rfl rfl rfl rfl ?_
            refine sy_nil rfl ?_
            refine ny_next ?_
            refine cy_cond rfl (fun hc117 => ?_) (fun hc117 => ?_)
            · have hltcc : cc < k := by have := of_decide_eq_true hc117; omega
              refine cy_skip ?_
              refine ny_next ?_
              refine cy_seq ?_
              refine cy_block ?_
              refine cy_seq ?_
              refine cy_region ?_
              refine sy_move rfl rfl rfl ?_
              refine sy_move rfl rfl rfl ?_
              refine sy_move rfl rfl rfl ?_
              refine sy_call rfl call_23 rfl (leq_c _ _ _ _ hg hk1 hk2 (ru_lt hk2 q) _ _) rfl rfl ?_
              refine sy_move rfl rfl rfl ?_
              refine sy_cond (d := 124) _ rfl rfl (fun hg124 => ?_) (fun hg124 => ?_)
              · refine sy_move rfl rfl rfl ?_
                refine sy_move rfl rfl rfl ?_
                refine sy_move rfl rfl rfl ?_
                refine sy_move rfl rfl rfl ?_
                refine sy_call rfl call_22 rfl (gmay_c g k (ru k q) _ hg hk1 hk2 (ru_lt hk2 q) tb31 gs hT31 hl100 _ _ _) rfl rfl ?_
                refine sy_not rfl rfl rfl ?_
                refine sy_setF (d := 130) rfl rfl (by rw [may_wider (x := (a : Int)) (y := (b : Int)) hmay hg124 (leqS_refl hltb)]; rfl) ?_
                refine sy_pickT rfl rfl rfl rfl ?_
                refine sy_move rfl rfl rfl ?_
                refine sy_move rfl rfl rfl ?_
                refine sy_move rfl rfl rfl ?_
                refine sy_move rfl rfl rfl ?_
                refine sy_call rfl call_23 rfl (leq_c _ _ _ _ hg hk1 hk2 (ru_lt hk2 q) _ _) rfl rfl ?_
                refine sy_move rfl rfl rfl ?_
                refine sy_cond (d := 137) _ rfl rfl (fun hg137 => ?_) (fun hg137 => ?_)
                · refine sy_move rfl rfl rfl ?_
                  refine sy_move rfl rfl rfl ?_
                  refine sy_move rfl rfl rfl ?_
                  refine sy_move rfl rfl rfl ?_
                  refine sy_call rfl call_22 rfl (gmay_c g k (ru k q) _ hg hk1 hk2 (ru_lt hk2 q) tb31 gs hT31 hl100 _ _ _) rfl rfl ?_
                  refine sy_not rfl rfl rfl ?_
                  refine sy_setF (d := 143) rfl rfl (by rw [may_wider (x := (a : Int)) (y := (b : Int)) hmay (leqS_refl hlta) hg137]; rfl) ?_
                  refine sy_pickT rfl rfl rfl rfl ?_
                  refine sy_pickF rfl rfl rfl rfl ?_
                  refine sy_nil rfl ?_
                  refine ny_next ?_
                  refine cy_condF rfl ?_
                  refine cy_skip ?_
                  refine ny_blockN ?_
                  refine ny_next ?_
                  refine cy_region ?_
                  refine sy_move rfl rfl rfl ?_
                  refine sy_addi (z := ((cc + 1 : Nat) : Int)) rfl rfl (by omega) (by omega) (by omega) rfl rfl ?_
                  refine sy_assign rfl rfl rfl ?_
                  refine sy_nil rfl ?_
                  refine ny_roundK [3, 9, 10, 12, 14, 15, 16, 17, 89, 90, 91, 92, 93, 94, 97, 98, 99, 100, 101, 102, 103, 106, 107, 108, 109, 110, 111, 112] (cc + 1) [] (show cc + 1 ≤ k by omega) (show k - (cc + 1) < k - cc by omega) rfl ⟨rfl, trivial⟩ rfl rfl
                · refine sy_skip rfl rfl rfl ?_
                  refine sy_skip rfl rfl rfl ?_
                  refine sy_skip rfl rfl rfl ?_
                  refine sy_skip rfl rfl rfl ?_
                  refine sy_skip rfl rfl rfl ?_
                  refine sy_skip rfl rfl rfl ?_
                  refine sy_pickF rfl rfl rfl rfl ?_
                  refine sy_pickF rfl rfl rfl rfl ?_
                  refine sy_nil rfl ?_
                  refine ny_next ?_
                  refine cy_condF rfl ?_
                  refine cy_skip ?_
                  refine ny_blockN ?_
                  refine ny_next ?_
                  refine cy_region ?_
                  refine sy_move rfl rfl rfl ?_
                  refine sy_addi (z := ((cc + 1 : Nat) : Int)) rfl rfl (by omega) (by omega) (by omega) rfl rfl ?_
                  refine sy_assign rfl rfl rfl ?_
                  refine sy_nil rfl ?_
                  refine ny_roundK [3, 9, 10, 12, 14, 15, 16, 17, 89, 90, 91, 92, 93, 94, 97, 98, 99, 100, 101, 102, 103, 106, 107, 108, 109, 110, 111, 112] (cc + 1) [] (show cc + 1 ≤ k by omega) (show k - (cc + 1) < k - cc by omega) rfl ⟨rfl, trivial⟩ rfl rfl
              · refine sy_skip rfl rfl rfl ?_
                refine sy_skip rfl rfl rfl ?_
                refine sy_skip rfl rfl rfl ?_
                refine sy_skip rfl rfl rfl ?_
                refine sy_skip rfl rfl rfl ?_
                refine sy_skip rfl rfl rfl ?_
                refine sy_pickF rfl rfl rfl rfl ?_
                refine sy_move rfl rfl rfl ?_
                refine sy_move rfl rfl rfl ?_
                refine sy_move rfl rfl rfl ?_
                refine sy_move rfl rfl rfl ?_
                refine sy_call rfl call_23 rfl (leq_c _ _ _ _ hg hk1 hk2 (ru_lt hk2 q) _ _) rfl rfl ?_
                refine sy_move rfl rfl rfl ?_
                refine sy_cond (d := 137) _ rfl rfl (fun hg137 => ?_) (fun hg137 => ?_)
                · refine sy_move rfl rfl rfl ?_
                  refine sy_move rfl rfl rfl ?_
                  refine sy_move rfl rfl rfl ?_
                  refine sy_move rfl rfl rfl ?_
                  refine sy_call rfl call_22 rfl (gmay_c g k (ru k q) _ hg hk1 hk2 (ru_lt hk2 q) tb31 gs hT31 hl100 _ _ _) rfl rfl ?_
                  refine sy_not rfl rfl rfl ?_
                  refine sy_setF (d := 143) rfl rfl (by rw [may_wider (x := (a : Int)) (y := (b : Int)) hmay (leqS_refl hlta) hg137]; rfl) ?_
                  refine sy_pickT rfl rfl rfl rfl ?_
                  refine sy_pickF rfl rfl rfl rfl ?_
                  refine sy_nil rfl ?_
                  refine ny_next ?_
                  refine cy_condF rfl ?_
                  refine cy_skip ?_
                  refine ny_blockN ?_
                  refine ny_next ?_
                  refine cy_region ?_
                  refine sy_move rfl rfl rfl ?_
                  refine sy_addi (z := ((cc + 1 : Nat) : Int)) rfl rfl (by omega) (by omega) (by omega) rfl rfl ?_
                  refine sy_assign rfl rfl rfl ?_
                  refine sy_nil rfl ?_
                  refine ny_roundK [3, 9, 10, 12, 14, 15, 16, 17, 89, 90, 91, 92, 93, 94, 97, 98, 99, 100, 101, 102, 103, 106, 107, 108, 109, 110, 111, 112] (cc + 1) [] (show cc + 1 ≤ k by omega) (show k - (cc + 1) < k - cc by omega) rfl ⟨rfl, trivial⟩ rfl rfl
                · refine sy_skip rfl rfl rfl ?_
                  refine sy_skip rfl rfl rfl ?_
                  refine sy_skip rfl rfl rfl ?_
                  refine sy_skip rfl rfl rfl ?_
                  refine sy_skip rfl rfl rfl ?_
                  refine sy_skip rfl rfl rfl ?_
                  refine sy_pickF rfl rfl rfl rfl ?_
                  refine sy_pickF rfl rfl rfl rfl ?_
                  refine sy_nil rfl ?_
                  refine ny_next ?_
                  refine cy_condF rfl ?_
                  refine cy_skip ?_
                  refine ny_blockN ?_
                  refine ny_next ?_
                  refine cy_region ?_
                  refine sy_move rfl rfl rfl ?_
                  refine sy_addi (z := ((cc + 1 : Nat) : Int)) rfl rfl (by omega) (by omega) (by omega) rfl rfl ?_
                  refine sy_assign rfl rfl rfl ?_
                  refine sy_nil rfl ?_
                  refine ny_roundK [3, 9, 10, 12, 14, 15, 16, 17, 89, 90, 91, 92, 93, 94, 97, 98, 99, 100, 101, 102, 103, 106, 107, 108, 109, 110, 111, 112] (cc + 1) [] (show cc + 1 ≤ k by omega) (show k - (cc + 1) < k - cc by omega) rfl ⟨rfl, trivial⟩ rfl rfl
            · refine cy_exit ?_
              refine ny_thenE ?_
              refine ny_thenE ?_
              refine ny_blockX ?_
              refine ny_blockN ?_
              refine ny_next ?_
              refine cy_region ?_
              refine sy_move rfl rfl rfl ?_
              refine sy_addi (z := ((b + 1 : Nat) : Int)) rfl rfl (by omega) (by omega) (by omega) rfl rfl ?_
              refine sy_assign rfl rfl rfl ?_
              refine sy_nil rfl ?_
              refine ny_roundK [3, 9, 10, 12, 14, 15, 16] (b + 1) [] (show b + 1 ≤ k by omega) (show k - (b + 1) < k - b by omega) rfl ⟨rfl, trivial⟩ rfl rfl
        · refine cy_exit ?_
          refine ny_thenE ?_
          refine ny_thenE ?_
          refine ny_blockX ?_
          refine ny_blockN ?_
          refine ny_next ?_
          refine cy_region ?_
          refine sy_move rfl rfl rfl ?_
          refine sy_addi (z := ((a + 1 : Nat) : Int)) rfl rfl (by omega) (by omega) (by omega) rfl rfl ?_
          refine sy_assign rfl rfl rfl ?_
          refine sy_nil rfl ?_
          refine ny_roundK [3, 9, 10, 12, 14, 15] (a + 1) [] (show a + 1 ≤ k by omega) (show k - (a + 1) < k - a by omega) rfl ⟨rfl, trivial⟩ rfl rfl
      · refine cy_exit ?_
        refine ny_thenE ?_
        refine ny_thenE ?_
        refine ny_blockX ?_
        refine ny_next ?_
        refine cy_seq ?_
        refine cy_region ?_
        refine sy_move rfl rfl rfl ?_
        refine sy_assign rfl rfl rfl ?_
        refine sy_nil rfl ?_
        refine ny_next ?_
        refine cy_ret ?_
        exact ny_finR (res1 rfl rfl) (fun w hs => ⟨rfl, hs.frm⟩)
    · refine zop_run rfl rfl (fun hB6_5 => ?_)
      refine sy_buildSlice rfl (fun w => bsl_25_1_0 w) rfl rfl (fun b63 hb63 hM63 => ?_) (by simp)
      refine sy_nil rfl (ny_zy hB6_5 (Hp.Le.refl _) ?_)
      refine zy_1 3 (by kernel_rfl) ?_
      refine zop_run rfl rfl (fun hB6_3 => ?_)
      first | refine sy_asRow (l := 0) (sz := 3) (cs := []) 0 rfl rfl (Nat.zero_le _) ?_ | refine sy_asRow (l := 0) (sz := 3) (cs := []) 1 rfl rfl (Nat.zero_le _) ?_
      refine sy_appendh (news := (gs.map grC).flatten) 0 row_25 (by decide) rfl rfl rfl (fun hA => by have := hG.none hA; simp only [List.length_map] at this; omega) (by rw [flat_len (grC_len gs)]; simp [hlG]) (hG.cells (by decide) (grC_len gs)) (grC_ones gs) (by omega) (by simp only [maxLen]; omega) rfl rfl (fun v61 => ?_)
      refine sy_nil rfl (ny_zy hB6_3 (Hp.Le.refl _) ?_)
      refine zy_1 6 (by kernel_rfl) ?_
      refine zop_run rfl rfl (fun hB6_6 => ?_)
      first | refine sy_append 0 1 row_25 (by decide) rfl rfl rfl rfl rfl rfl (by omega) (by simp only [maxLen]; omega) rfl rfl (fun v64 => ?_) | refine sy_append 1 0 row_25 (by decide) rfl rfl rfl rfl rfl rfl (by omega) (by simp only [maxLen]; omega) rfl rfl (fun v64 => ?_)
      refine sy_nil rfl (ny_zy hB6_6 (Hp.Le.refl _) ?_)
      refine zy_1 7 (by kernel_rfl) ?_
      refine zop_run rfl rfl (fun hB6_7 => ?_)
      refine sy_frzRow 0 rfl (fun _ _ => by simp) (fun A64 c64 h64 hv64 hlc64 hcm64 _ hle64 hcell64 => ?_)
      subst hv64
      have hr64 : RowsAt h64 A64 3 ((gs ++ [m]).map grC) := by
        rw [List.nil_append] at hcell64
        have h9 := grs_snoc gs m
        exact rows_row (by decide) (grC_len _) (by rw [h9]; exact hcell64)
      replace ht := ht.le hle64
      replace hg := hle64 _ _ hg
      replace hG := hG.le hle64
      replace hT31 := hT31.le hle64
      refine sy_callx call_20 rfl (gnewGood_c g k (ru k q) _ hg hk1 hk2 (ru_lt hk2 q) A64 _ c64 (gs ++ [m]) hr64 (by rw [List.length_append, hlG, Nat.zero_add]; rfl) hlc64 (by omega) ht (fun g hg => (List.mem_append.1 hg).elim (hokG g) (fun h9 => by simp only [List.mem_cons, List.not_mem_nil, or_false] at h9; subst h9; exact hms)) h1) rfl rfl (fun x65 h65 hx65 hle65 => ?_)
      have hG := hG.le hle65
      have ht := ht.le hle65
      have hg := hle65 _ _ hg
      have hT31 := hT31.le hle65
      revert hx65
      revert x65
      intro tb65 hT65
      refine sy_nil rfl (ny_zy hB6_7 (hle64.trans hle65) ?_)
      refine zy_q 8 rfl (by kernel_rfl) (fun hB6_8 => ?_)
      refine sy_move rfl rfl rfl ?_
      refine sy_nil1 (ny_zq hB6_8 ?_)
      refine zy_q 9 rfl (by kernel_rfl) (fun hB6_9 => ?_)
      refine sy_extract rfl rfl rfl rfl ?_
      refine sy_nil1 (ny_zq hB6_9 ?_)
      refine zy_q 10 rfl (by kernel_rfl) (fun hB6_10 => ?_)
      refine sy_extract rfl rfl rfl rfl ?_
      refine sy_nil1 (ny_zq hB6_10 ?_)
      refine zy_q 11 rfl (by kernel_rfl) (fun hB6_11 => ?_)
      refine sy_assign rfl rfl rfl ?_
      refine sy_nil1 (ny_zq hB6_11 ?_)
      refine zy_q 12 rfl (by kernel_rfl) (fun hB6_12 => ?_)
      refine sy_assign rfl rfl rfl ?_
      refine sy_nil1 (ny_zq hB6_12 ?_)
      refine zy_done (by kernel_rfl) ?_
      refine ny_next ?_
      refine cy_seq ?_
      refine cy_seq ?_
      refine cy_region ?_
      refine sy_assign rfl rfl rfl ?_
      refine sy_nil rfl ?_
      refine ny_next ?_
      refine cy_block ?_
      refine cy_loopK (ι := Nat) [3, 9, 10, 12, 14, 15] rfl (fun a => a ≤ k) (fun a => k - a) (fun a => [(16, .int .i64 (a : Int))]) (fun a => h65) (fun a => []) 0 [] (Nat.zero_le _) ⟨rfl, trivial⟩ rfl rfl ?_
      rintro a hA
      refine cy_seq ?_
      refine cy_seq ?_
      refine cy_region ?_
      refine sy_move rfl rfl rfl ?_
      refine sy_move rfl rfl rfl ?_
      refine sy_call rfl call_21 rfl (len_c _ _ _ _ hg) rfl rfl ?_
      refine sy_cmp rfl rfl rfl rfl rfl ?_
      refine sy_nil rfl ?_
      refine ny_next ?_
      refine cy_cond rfl (fun hc71 => ?_) (fun hc71 => ?_)
      · have hlta : a < k := by have := of_decide_eq_true hc71; omega
        refine cy_skip ?_
        refine ny_next ?_
        refine cy_seq ?_
        refine cy_block ?_
        refine cy_seq ?_
        refine cy_region ?_
        refine sy_assign rfl rfl rfl ?_
        refine sy_nil rfl ?_
        refine ny_next ?_
        refine cy_block ?_
        refine cy_loopK (ι := Nat) [3, 9, 10, 12, 14, 15, 16] rfl (fun b => b ≤ k) (fun b => k - b) (fun b => [(17, .int .i64 (b : Int))]) (fun b => h65) (fun b => []) 0 [] (Nat.zero_le _) ⟨rfl, trivial⟩ rfl rfl ?_
        rintro b hB
        refine cy_seq ?_
        refine cy_seq ?_
        refine cy_region ?_
        refine sy_move rfl rfl rfl ?_
        refine sy_move rfl rfl rfl ?_
        refine sy_call rfl call_21 rfl (len_c _ _ _ _ hg) rfl rfl ?_
        refine sy_cmp rfl rfl rfl rfl rfl ?_
        refine sy_nil rfl ?_
        refine ny_next ?_
        refine cy_cond rfl (fun hc77 => ?_) (fun hc77 => ?_)
        · have hltb : b < k := by have := of_decide_eq_true hc77; omega
          refine cy_skip ?_
          refine ny_next ?_
          refine cy_seq ?_
          refine cy_block ?_
          refine cy_seq ?_
          refine cy_seq ?_
          refine cy_region ?_
          refine sy_move rfl rfl rfl ?_
          refine sy_move rfl rfl rfl ?_
          refine sy_move rfl rfl rfl ?_
          refine sy_move rfl rfl rfl ?_
          refine sy_call rfl call_22 rfl (gmay_c g k (ru k q) _ hg hk1 hk2 (ru_lt hk2 q) tb31 gs hT31 hl100 _ _ _) rfl rfl ?_
          refine sy_not rfl rfl rfl ?_
          refine sy_nil rfl ?_
          refine ny_next ?_
          refine cy_cond rfl (fun hc85 => ?_) (fun hc85 => ?_)
          · refine cy_exit ?_
            refine ny_thenE ?_
            refine ny_blockX ?_
            refine ny_next ?_
            refine cy_region ?_
            refine sy_move rfl rfl rfl ?_
            refine sy_addi (z := ((b + 1 : Nat) : Int)) rfl rfl (by omega) (by omega) (by omega) rfl rfl ?_
            refine sy_assign rfl rfl rfl ?_
            refine sy_nil rfl ?_
            refine ny_roundK [3, 9, 10, 12, 14, 15, 16] (b + 1) [] (show b + 1 ≤ k by omega) (show k - (b + 1) < k - b by omega) rfl ⟨rfl, trivial⟩ rfl rfl
          · have hmay : gs.any (mayB k (ru k q) o (a : Int) (b : Int)) = true := by simpa using hc85
            refine cy_skip ?_
            refine ny_next ?_
            refine cy_seq ?_
            refine cy_seq ?_
            refine cy_region ?_
            refine sy_move rfl rfl rfl ?_
            refine sy_eqn Tryd.underlying34 rfl rfl rfl rfl rfl ?_
            refine sy_setT (d := 87) rfl rfl rfl ?_
            refine sy_move rfl rfl rfl ?_
            refine sy_move rfl rfl rfl ?_
            refine sy_move rfl rfl rfl ?_
            refine sy_move rfl rfl rfl ?_
            refine sy_move rfl rfl rfl ?_
            refine sy_call rfl call_22 rfl (gmay_c g k (ru k q) _ hg hk1 hk2 (ru_lt hk2 q) tb65 (gs ++ [m]) hT65 (Nat.le_of_not_lt (newI_zero.1 h1).1) _ _ _) rfl rfl ?_
            refine sy_not rfl rfl rfl ?_
            refine sy_setF (d := 94) rfl rfl (by rw [may_more m hmay]; rfl) ?_
            refine sy_pickT rfl rfl rfl rfl ?_
            refine sy_move rfl rfl rfl ?_
            refine sy_move rfl rfl rfl ?_
            refine sy_move rfl rfl rfl ?_
            refine sy_move rfl rfl rfl ?_
            refine sy_call rfl call_25 rfl (botJ_c hg hk2 L2) rfl rfl ?_
            refine sy_move rfl rfl rfl ?_
            refine sy_call rfl call_22 rfl (gmay_c g k (ru k q) _ hg hk1 hk2 (ru_lt hk2 q) tb31 gs hT31 hl100 _ _ _) rfl rfl ?_
            refine sy_not rfl rfl rfl ?_
            refine sy_setF (d := 103) rfl rfl (by rw [may_wider (x := (a : Int)) (y := (b : Int)) hmay ((leq_ru L2.lon hlta).2 (L2.lol a hlta)) (leqS_refl hltb)]; rfl) ?_
            refine sy_pickF rfl rfl rfl rfl ?_
            refine sy_move rfl rfl rfl ?_
            refine sy_move rfl rfl rfl ?_
            refine sy_move rfl rfl rfl ?_
            refine sy_move rfl rfl rfl ?_
            refine sy_move rfl rfl rfl ?_
            refine sy_call rfl call_26 rfl (topJ_c hg hk2 L2) rfl rfl ?_
            refine sy_call rfl call_22 rfl (gmay_c g k (ru k q) _ hg hk1 hk2 (ru_lt hk2 q) tb31 gs hT31 hl100 _ _ _) rfl rfl ?_
            refine sy_not rfl rfl rfl ?_
            refine sy_setF (d := 112) rfl rfl (by rw [may_wider (x := (a : Int)) (y := (b : Int)) hmay (leqS_refl hlta) ((leq_ru hltb L2.hin).2 (L2.hir b hltb))]; rfl) ?_
            refine sy_pickF rfl rfl rfl rfl ?_
            refine sy_nil rfl ?_
            refine ny_next ?_
            refine cy_condF rfl ?_
            refine cy_skip ?_
            refine ny_next ?_
            refine cy_seq ?_
            refine cy_region ?_
            refine sy_assign rfl rfl rfl ?_
            refine sy_nil rfl ?_
            refine ny_next ?_
            refine cy_block ?_
            refine cy_loopK (ι := Nat) [3, 9, 10, 12, 14, 15, 16, 17, 89, 90, 91, 92, 93, 94, 97, 98, 99, 100, 101, 102, 103, 106, 107, 108, 109, 110, 111, 112] rfl (fun cc => cc ≤ k) (fun cc => k - cc) (fun cc => [(18, .int .i64 (cc : Int))]) (fun cc => h65) (fun cc => []) 0 [] (Nat.zero_le _) ⟨rfl, trivial⟩ rfl rfl ?_
            rintro cc hC
            refine cy_seq ?_
            refine cy_seq ?_
            refine cy_region ?_
            refine sy_move rfl rfl rfl ?_
            refine sy_move rfl rfl rfl ?_
            refine sy_call rfl call_21 rfl (len_c _ _ _ _ hg) rfl rfl ?_
            refine sy_cmp rfl rfl rfl rfl rfl ?_
            refine sy_nil rfl ?_
            refine ny_next ?_
            refine cy_cond rfl (fun hc117 => ?_) (fun hc117 => ?_)
            · have hltcc : cc < k := by have := of_decide_eq_true hc117; omega
              refine cy_skip ?_
              refine ny_next ?_
              refine cy_seq ?_
              refine cy_block ?_
              refine cy_seq ?_
              refine cy_region ?_
              refine sy_move rfl rfl rfl ?_
              refine sy_move rfl rfl rfl ?_
              refine sy_move rfl rfl rfl ?_
              refine sy_call rfl call_23 rfl (leq_c _ _ _ _ hg hk1 hk2 (ru_lt hk2 q) _ _) rfl rfl ?_
              refine sy_move rfl rfl rfl ?_
              refine sy_cond (d := 124) _ rfl rfl (fun hg124 => ?_) (fun hg124 => ?_)
              · refine sy_move rfl rfl rfl ?_
                refine sy_move rfl rfl rfl ?_
                refine sy_move rfl rfl rfl ?_
                refine sy_move rfl rfl rfl ?_
                refine sy_call rfl call_22 rfl (gmay_c g k (ru k q) _ hg hk1 hk2 (ru_lt hk2 q) tb31 gs hT31 hl100 _ _ _) rfl rfl ?_
                refine sy_not rfl rfl rfl ?_
                refine sy_setF (d := 130) rfl rfl (by rw [may_wider (x := (a : Int)) (y := (b : Int)) hmay hg124 (leqS_refl hltb)]; rfl) ?_
                refine sy_pickT rfl rfl rfl rfl ?_
                refine sy_move rfl rfl rfl ?_
                refine sy_move rfl rfl rfl ?_
                refine sy_move rfl rfl rfl ?_
                refine sy_move rfl rfl rfl ?_
                refine sy_call rfl call_23 rfl (leq_c _ _ _ _ hg hk1 hk2 (ru_lt hk2 q) _ _) rfl rfl ?_
                refine sy_move rfl rfl rfl ?_
                refine sy_cond (d := 137) _ rfl rfl (fun hg137 => ?_) (fun hg137 => ?_)
                · refine sy_move rfl rfl rfl ?_
                  refine sy_move rfl rfl rfl ?_
                  refine sy_move rfl rfl rfl ?_
                  refine sy_move rfl rfl rfl ?_
                  refine sy_call rfl call_22 rfl (gmay_c g k (ru k q) _ hg hk1 hk2 (ru_lt hk2 q) tb31 gs hT31 hl100 _ _ _) rfl rfl ?_
                  refine sy_not rfl rfl rfl ?_
                  refine sy_setF (d := 143) rfl rfl (by rw [may_wider (x := (a : Int)) (y := (b : Int)) hmay (leqS_refl hlta) hg137]; rfl) ?_
                  refine sy_pickT rfl rfl rfl rfl ?_
                  refine sy_pickF rfl rfl rfl rfl ?_
                  refine sy_nil rfl ?_
                  refine ny_next ?_
                  refine cy_condF rfl ?_
                  refine cy_skip ?_
                  refine ny_blockN ?_
                  refine ny_next ?_
                  refine cy_region ?_
                  refine sy_move rfl rfl rfl ?_
                  refine sy_addi (z := ((cc + 1 : Nat) : Int)) rfl rfl (by omega) (by omega) (by omega) rfl rfl ?_
                  refine sy_assign rfl rfl rfl ?_
                  refine sy_nil rfl ?_
                  refine ny_roundK [3, 9, 10, 12, 14, 15, 16, 17, 89, 90, 91, 92, 93, 94, 97, 98, 99, 100, 101, 102, 103, 106, 107, 108, 109, 110, 111, 112] (cc + 1) [] (show cc + 1 ≤ k by omega) (show k - (cc + 1) < k - cc by omega) rfl ⟨rfl, trivial⟩ rfl rfl
                · refine sy_skip rfl rfl rfl ?_
                  refine sy_skip rfl rfl rfl ?_
                  refine sy_skip rfl rfl rfl ?_
                  refine sy_skip rfl rfl rfl ?_
                  refine sy_skip rfl rfl rfl ?_
                  refine sy_skip rfl rfl rfl ?_
                  refine sy_pickF rfl rfl rfl rfl ?_
                  refine sy_pickF rfl rfl rfl rfl ?_
                  refine sy_nil rfl ?_
                  refine ny_next ?_
                  refine cy_condF rfl ?_
                  refine cy_skip ?_
                  refine ny_blockN ?_
                  refine ny_next ?_
                  refine cy_region ?_
                  refine sy_move rfl rfl rfl ?_
                  refine sy_addi (z := ((cc + 1 : Nat) : Int)) rfl rfl (by omega) (by omega) (by omega) rfl rfl ?_
                  refine sy_assign rfl rfl rfl ?_
                  refine sy_nil rfl ?_
                  refine ny_roundK [3, 9, 10, 12, 14, 15, 16, 17, 89, 90, 91, 92, 93, 94, 97, 98, 99, 100, 101, 102, 103, 106, 107, 108, 109, 110, 111, 112] (cc + 1) [] (show cc + 1 ≤ k by omega) (show k - (cc + 1) < k - cc by omega) rfl ⟨rfl, trivial⟩ rfl rfl
              · refine sy_skip rfl rfl rfl ?_
                refine sy_skip rfl rfl rfl ?_
                refine sy_skip rfl rfl rfl ?_
                refine sy_skip rfl rfl rfl ?_
                refine sy_skip rfl rfl rfl ?_
                refine sy_skip rfl rfl rfl ?_
                refine sy_pickF rfl rfl rfl rfl ?_
                refine sy_move rfl rfl rfl ?_
                refine sy_move rfl rfl rfl ?_
                refine sy_move rfl rfl rfl ?_
                refine sy_move rfl rfl rfl ?_
                refine sy_call rfl call_23 rfl (leq_c _ _ _ _ hg hk1 hk2 (ru_lt hk2 q) _ _) rfl rfl ?_
                refine sy_move rfl rfl rfl ?_
                refine sy_cond (d := 137) _ rfl rfl (fun hg137 => ?_) (fun hg137 => ?_)
                · refine sy_move rfl rfl rfl ?_
                  refine sy_move rfl rfl rfl ?_
                  refine sy_move rfl rfl rfl ?_
                  refine sy_move rfl rfl rfl ?_
                  refine sy_call rfl call_22 rfl (gmay_c g k (ru k q) _ hg hk1 hk2 (ru_lt hk2 q) tb31 gs hT31 hl100 _ _ _) rfl rfl ?_
                  refine sy_not rfl rfl rfl ?_
                  refine sy_setF (d := 143) rfl rfl (by rw [may_wider (x := (a : Int)) (y := (b : Int)) hmay (leqS_refl hlta) hg137]; rfl) ?_
                  refine sy_pickT rfl rfl rfl rfl ?_
                  refine sy_pickF rfl rfl rfl rfl ?_
                  refine sy_nil rfl ?_
                  refine ny_next ?_
                  refine cy_condF rfl ?_
                  refine cy_skip ?_
                  refine ny_blockN ?_
                  refine ny_next ?_
                  refine cy_region ?_
                  refine sy_move rfl rfl rfl ?_
                  refine sy_addi (z := ((cc + 1 : Nat) : Int)) rfl rfl (by omega) (by omega) (by omega) rfl rfl ?_
                  refine sy_assign rfl rfl rfl ?_
                  refine sy_nil rfl ?_
                  refine ny_roundK [3, 9, 10, 12, 14, 15, 16, 17, 89, 90, 91, 92, 93, 94, 97, 98, 99, 100, 101, 102, 103, 106, 107, 108, 109, 110, 111, 112] (cc + 1) [] (show cc + 1 ≤ k by omega) (show k - (cc + 1) < k - cc by omega) rfl ⟨rfl, trivial⟩ rfl rfl
                · refine sy_skip rfl rfl rfl ?_
                  refine sy_skip rfl rfl rfl ?_
                  refine sy_skip rfl rfl rfl ?_
                  refine sy_skip rfl rfl rfl ?_
                  refine sy_skip rfl rfl rfl ?_
                  refine sy_skip rfl rfl rfl ?_
                  refine sy_pickF rfl rfl rfl rfl ?_
                  refine sy_pickF rfl rfl rfl rfl ?_
                  refine sy_nil rfl ?_
                  refine ny_next ?_
                  refine cy_condF rfl ?_
                  refine cy_skip ?_
                  refine ny_blockN ?_
                  refine ny_next ?_
                  refine cy_region ?_
                  refine sy_move rfl rfl rfl ?_
                  refine sy_addi (z := ((cc + 1 : Nat) : Int)) rfl rfl (by omega) (by omega) (by omega) rfl rfl ?_
                  refine sy_assign rfl rfl rfl ?_
                  refine sy_nil rfl ?_
                  refine ny_roundK [3, 9, 10, 12, 14, 15, 16, 17, 89, 90, 91, 92, 93, 94, 97, 98, 99, 100, 101, 102, 103, 106, 107, 108, 109, 110, 111, 112] (cc + 1) [] (show cc + 1 ≤ k by omega) (show k - (cc + 1) < k - cc by omega) rfl ⟨rfl, trivial⟩ rfl rfl
            · refine cy_exit ?_
              refine ny_thenE ?_
              refine ny_thenE ?_
              refine ny_blockX ?_
              refine ny_blockN ?_
              refine ny_next ?_
              refine cy_region ?_
              refine sy_move rfl rfl rfl ?_
              refine sy_addi (z := ((b + 1 : Nat) : Int)) rfl rfl (by omega) (by omega) (by omega) rfl rfl ?_
              refine sy_assign rfl rfl rfl ?_
              refine sy_nil rfl ?_
              refine ny_roundK [3, 9, 10, 12, 14, 15, 16] (b + 1) [] (show b + 1 ≤ k by omega) (show k - (b + 1) < k - b by omega) rfl ⟨rfl, trivial⟩ rfl rfl
        · refine cy_exit ?_
          refine ny_thenE ?_
          refine ny_thenE ?_
          refine ny_blockX ?_
          refine ny_blockN ?_
          refine ny_next ?_
          refine cy_region ?_
          refine sy_move rfl rfl rfl ?_
          refine sy_addi (z := ((a + 1 : Nat) : Int)) rfl rfl (by omega) (by omega) (by omega) rfl rfl ?_
          refine sy_assign rfl rfl rfl ?_
          refine sy_nil rfl ?_
          refine ny_roundK [3, 9, 10, 12, 14, 15] (a + 1) [] (show a + 1 ≤ k by omega) (show k - (a + 1) < k - a by omega) rfl ⟨rfl, trivial⟩ rfl rfl
      · refine cy_exit ?_
        refine ny_thenE ?_
        refine ny_thenE ?_
        refine ny_blockX ?_
        refine ny_next ?_
        refine cy_seq ?_
        refine cy_region ?_
        refine sy_move rfl rfl rfl ?_
        refine sy_assign rfl rfl rfl ?_
        refine sy_nil rfl ?_
        refine ny_next ?_
        refine cy_ret ?_
        exact ny_finR (res1 rfl rfl) (fun w hs => ⟨rfl, hs.frm⟩)
  · refine zop_run rfl rfl (fun hB6_5 => ?_)
    refine sy_buildSlice rfl (fun w => bsl_25_1_0 w) rfl rfl (fun b63 hb63 hM63 => ?_) (by simp)
    refine sy_nil rfl (ny_zy hB6_5 (Hp.Le.refl _) ?_)
    refine zy_1 1 (by kernel_rfl) ?_
    refine zop_run rfl rfl (fun hB6_1 => ?_)
    refine sy_buildSlice (cs := []) rfl (fun w => bsl_25_0_ w) rfl rfl (fun b59 hb59 hM59 => ?_) (by simp)
    refine sy_nil rfl (ny_zy hB6_1 (Hp.Le.refl _) ?_)
    refine zy_1 3 (by kernel_rfl) ?_
    refine zop_run rfl rfl (fun hB6_3 => ?_)
    first | refine sy_asRow (l := 0) (sz := 3) (cs := []) 0 rfl rfl (Nat.zero_le _) ?_ | refine sy_asRow (l := 0) (sz := 3) (cs := []) 1 rfl rfl (Nat.zero_le _) ?_
    refine sy_appendh (news := (gs.map grC).flatten) 0 row_25 (by decide) rfl rfl rfl (fun hA => by have := hG.none hA; simp only [List.length_map] at this; omega) (by rw [flat_len (grC_len gs)]; simp [hlG]) (hG.cells (by decide) (grC_len gs)) (grC_ones gs) (by omega) (by simp only [maxLen]; omega) rfl rfl (fun v61 => ?_)
    refine sy_nil rfl (ny_zy hB6_3 (Hp.Le.refl _) ?_)
    refine zy_1 6 (by kernel_rfl) ?_
    refine zop_run rfl rfl (fun hB6_6 => ?_)
    first | refine sy_append 0 1 row_25 (by decide) rfl rfl rfl rfl rfl rfl (by omega) (by simp only [maxLen]; omega) rfl rfl (fun v64 => ?_) | refine sy_append 1 0 row_25 (by decide) rfl rfl rfl rfl rfl rfl (by omega) (by simp only [maxLen]; omega) rfl rfl (fun v64 => ?_)
    refine sy_nil rfl (ny_zy hB6_6 (Hp.Le.refl _) ?_)
    refine zy_1 7 (by kernel_rfl) ?_
    refine zop_run rfl rfl (fun hB6_7 => ?_)
    refine sy_frzRow 0 rfl (fun _ _ => by simp) (fun A64 c64 h64 hv64 hlc64 hcm64 _ hle64 hcell64 => ?_)
    subst hv64
    have hr64 : RowsAt h64 A64 3 ((gs ++ [m]).map grC) := by
      rw [List.nil_append] at hcell64
      have h9 := grs_snoc gs m
      exact rows_row (by decide) (grC_len _) (by rw [h9]; exact hcell64)
    replace ht := ht.le hle64
    replace hg := hle64 _ _ hg
    replace hG := hG.le hle64
    replace hT31 := hT31.le hle64
    refine sy_callx call_20 rfl (gnewGood_c g k (ru k q) _ hg hk1 hk2 (ru_lt hk2 q) A64 _ c64 (gs ++ [m]) hr64 (by rw [List.length_append, hlG, Nat.zero_add]; rfl) hlc64 (by omega) ht (fun g hg => (List.mem_append.1 hg).elim (hokG g) (fun h9 => by simp only [List.mem_cons, List.not_mem_nil, or_false] at h9; subst h9; exact hms)) h1) rfl rfl (fun x65 h65 hx65 hle65 => ?_)
    have hG := hG.le hle65
    have ht := ht.le hle65
    have hg := hle65 _ _ hg
    have hT31 := hT31.le hle65
    revert hx65
    revert x65
    intro tb65 hT65
    refine sy_nil rfl (ny_zy hB6_7 (hle64.trans hle65) ?_)
    refine zy_q 8 rfl (by kernel_rfl) (fun hB6_8 => ?_)
    refine sy_move rfl rfl rfl ?_
    refine sy_nil1 (ny_zq hB6_8 ?_)
    refine zy_q 9 rfl (by kernel_rfl) (fun hB6_9 => ?_)
    refine sy_extract rfl rfl rfl rfl ?_
    refine sy_nil1 (ny_zq hB6_9 ?_)
    refine zy_q 10 rfl (by kernel_rfl) (fun hB6_10 => ?_)
    refine sy_extract rfl rfl rfl rfl ?_
    refine sy_nil1 (ny_zq hB6_10 ?_)
    refine zy_q 11 rfl (by kernel_rfl) (fun hB6_11 => ?_)
    refine sy_assign rfl rfl rfl ?_
    refine sy_nil1 (ny_zq hB6_11 ?_)
    refine zy_q 12 rfl (by kernel_rfl) (fun hB6_12 => ?_)
    refine sy_assign rfl rfl rfl ?_
    refine sy_nil1 (ny_zq hB6_12 ?_)
    refine zy_done (by kernel_rfl) ?_
    refine ny_next ?_
    refine cy_seq ?_
    refine cy_seq ?_
    refine cy_region ?_
    refine sy_assign rfl rfl rfl ?_
    refine sy_nil rfl ?_
    refine ny_next ?_
    refine cy_block ?_
    refine cy_loopK (ι := Nat) [3, 9, 10, 12, 14, 15] rfl (fun a => a ≤ k) (fun a => k - a) (fun a => [(16, .int .i64 (a : Int))]) (fun a => h65) (fun a => []) 0 [] (Nat.zero_le _) ⟨rfl, trivial⟩ rfl rfl ?_
    rintro a hA
    refine cy_seq ?_
    refine cy_seq ?_
    refine cy_region ?_
    refine sy_move rfl rfl rfl ?_
    refine sy_move rfl rfl rfl ?_
    refine sy_call rfl call_21 rfl (len_c _ _ _ _ hg) rfl rfl ?_
    refine sy_cmp rfl rfl rfl rfl rfl ?_
    refine sy_nil rfl ?_
    refine ny_next ?_
    refine cy_cond rfl (fun hc71 => ?_) (fun hc71 => ?_)
    · have hlta : a < k := by have := of_decide_eq_true hc71; omega
      refine cy_skip ?_
      refine ny_next ?_
      refine cy_seq ?_
      refine cy_block ?_
      refine cy_seq ?_
      refine cy_region ?_
      refine sy_assign rfl rfl rfl ?_
      refine sy_nil rfl ?_
      refine ny_next ?_
      refine cy_block ?_
      refine cy_loopK (ι := Nat) [3, 9, 10, 12, 14, 15, 16] rfl (fun b => b ≤ k) (fun b => k - b) (fun b => [(17, .int .i64 (b : Int))]) (fun b => h65) (fun b => []) 0 [] (Nat.zero_le _) ⟨rfl, trivial⟩ rfl rfl ?_
      rintro b hB
      refine cy_seq ?_
      refine cy_seq ?_
      refine cy_region ?_
      refine sy_move rfl rfl rfl ?_
      refine sy_move rfl rfl rfl ?_
      refine sy_call rfl call_21 rfl (len_c _ _ _ _ hg) rfl rfl ?_
      refine sy_cmp rfl rfl rfl rfl rfl ?_
      refine sy_nil rfl ?_
      refine ny_next ?_
      refine cy_cond rfl (fun hc77 => ?_) (fun hc77 => ?_)
      · have hltb : b < k := by have := of_decide_eq_true hc77; omega
        refine cy_skip ?_
        refine ny_next ?_
        refine cy_seq ?_
        refine cy_block ?_
        refine cy_seq ?_
        refine cy_seq ?_
        refine cy_region ?_
        refine sy_move rfl rfl rfl ?_
        refine sy_move rfl rfl rfl ?_
        refine sy_move rfl rfl rfl ?_
        refine sy_move rfl rfl rfl ?_
        refine sy_call rfl call_22 rfl (gmay_c g k (ru k q) _ hg hk1 hk2 (ru_lt hk2 q) tb31 gs hT31 hl100 _ _ _) rfl rfl ?_
        refine sy_not rfl rfl rfl ?_
        refine sy_nil rfl ?_
        refine ny_next ?_
        refine cy_cond rfl (fun hc85 => ?_) (fun hc85 => ?_)
        · refine cy_exit ?_
          refine ny_thenE ?_
          refine ny_blockX ?_
          refine ny_next ?_
          refine cy_region ?_
          refine sy_move rfl rfl rfl ?_
          refine sy_addi (z := ((b + 1 : Nat) : Int)) rfl rfl (by omega) (by omega) (by omega) rfl rfl ?_
          refine sy_assign rfl rfl rfl ?_
          refine sy_nil rfl ?_
          refine ny_roundK [3, 9, 10, 12, 14, 15, 16] (b + 1) [] (show b + 1 ≤ k by omega) (show k - (b + 1) < k - b by omega) rfl ⟨rfl, trivial⟩ rfl rfl
        · have hmay : gs.any (mayB k (ru k q) o (a : Int) (b : Int)) = true := by simpa using hc85
          refine cy_skip ?_
          refine ny_next ?_
          refine cy_seq ?_
          refine cy_seq ?_
          refine cy_region ?_
          refine sy_move rfl rfl rfl ?_
          refine sy_eqn Tryd.underlying34 rfl rfl rfl rfl rfl ?_
          refine sy_setT (d := 87) rfl rfl rfl ?_
          refine sy_move rfl rfl rfl ?_
          refine sy_move rfl rfl rfl ?_
          refine sy_move rfl rfl rfl ?_
          refine sy_move rfl rfl rfl ?_
          refine sy_move rfl rfl rfl ?_
          refine sy_call rfl call_22 rfl (gmay_c g k (ru k q) _ hg hk1 hk2 (ru_lt hk2 q) tb65 (gs ++ [m]) hT65 (Nat.le_of_not_lt (newI_zero.1 h1).1) _ _ _) rfl rfl ?_
          refine sy_not rfl rfl rfl ?_
          refine sy_setF (d := 94) rfl rfl (by rw [may_more m hmay]; rfl) ?_
          refine sy_pickT rfl rfl rfl rfl ?_
          refine sy_move rfl rfl rfl ?_
          refine sy_move rfl rfl rfl ?_
          refine sy_move rfl rfl rfl ?_
          refine sy_move rfl rfl rfl ?_
          refine sy_call rfl call_25 rfl (botJ_c hg hk2 L2) rfl rfl ?_
          refine sy_move rfl rfl rfl ?_
          refine sy_call rfl call_22 rfl (gmay_c g k (ru k q) _ hg hk1 hk2 (ru_lt hk2 q) tb31 gs hT31 hl100 _ _ _) rfl rfl ?_
          refine sy_not rfl rfl rfl ?_
          refine sy_setF (d := 103) rfl rfl (by rw [may_wider (x := (a : Int)) (y := (b : Int)) hmay ((leq_ru L2.lon hlta).2 (L2.lol a hlta)) (leqS_refl hltb)]; rfl) ?_
          refine sy_pickF rfl rfl rfl rfl ?_
          refine sy_move rfl rfl rfl ?_
          refine sy_move rfl rfl rfl ?_
          refine sy_move rfl rfl rfl ?_
          refine sy_move rfl rfl rfl ?_
          refine sy_move rfl rfl rfl ?_
          refine sy_call rfl call_26 rfl (topJ_c hg hk2 L2) rfl rfl ?_
          refine sy_call rfl call_22 rfl (gmay_c g k (ru k q) _ hg hk1 hk2 (ru_lt hk2 q) tb31 gs hT31 hl100 _ _ _) rfl rfl ?_
          refine sy_not rfl rfl rfl ?_
          refine sy_setF (d := 112) rfl rfl (by rw [may_wider (x := (a : Int)) (y := (b : Int)) hmay (leqS_refl hlta) ((leq_ru hltb L2.hin).2 (L2.hir b hltb))]; rfl) ?_
          refine sy_pickF rfl rfl rfl rfl ?_
          refine sy_nil rfl ?_
          refine ny_next ?_
          refine cy_condF rfl ?_
          refine cy_skip ?_
          refine ny_next ?_
          refine cy_seq ?_
          refine cy_region ?_
          refine sy_assign rfl rfl rfl ?_
          refine sy_nil rfl ?_
          refine ny_next ?_
          refine cy_block ?_
          refine cy_loopK (ι := Nat) [3, 9, 10, 12, 14, 15, 16, 17, 89, 90, 91, 92, 93, 94, 97, 98, 99, 100, 101, 102, 103, 106, 107, 108, 109, 110, 111, 112] rfl (fun cc => cc ≤ k) (fun cc => k - cc) (fun cc => [(18, .int .i64 (cc : Int))]) (fun cc => h65) (fun cc => []) 0 [] (Nat.zero_le _) ⟨rfl, trivial⟩ rfl rfl ?_
          rintro cc hC
          refine cy_seq ?_
          refine cy_seq ?_
          refine cy_region ?_
          refine sy_move rfl rfl rfl ?_
          refine sy_move rfl rfl rfl ?_
          refine sy_call rfl call_21 rfl (len_c _ _ _ _ hg) rfl rfl ?_
          refine sy_cmp rfl rfl rfl rfl rfl ?_
          refine sy_nil rfl ?_
          refine ny_next ?_
          refine cy_cond rfl (fun hc117 => ?_) (fun hc117 => ?_)
          · have hltcc : cc < k := by have := of_decide_eq_true hc117; omega
            refine cy_skip ?_
            refine ny_next ?_
            refine cy_seq ?_
            refine cy_block ?_
            refine cy_seq ?_
            refine cy_region ?_
            refine sy_move rfl rfl rfl ?_
            refine sy_move rfl rfl rfl ?_
            refine sy_move rfl rfl rfl ?_
            refine sy_call rfl call_23 rfl (leq_c _ _ _ _ hg hk1 hk2 (ru_lt hk2 q) _ _) rfl rfl ?_
            refine sy_move rfl rfl rfl ?_
            refine sy_cond (d := 124) _ rfl rfl (fun hg124 => ?_) (fun hg124 => ?_)
            · refine sy_move rfl rfl rfl ?_
              refine sy_move rfl rfl rfl ?_
              refine sy_move rfl rfl rfl ?_
              refine sy_move rfl rfl rfl ?_
              refine sy_call rfl call_22 rfl (gmay_c g k (ru k q) _ hg hk1 hk2 (ru_lt hk2 q) tb31 gs hT31 hl100 _ _ _) rfl rfl ?_
              refine sy_not rfl rfl rfl ?_
              refine sy_setF (d := 130) rfl rfl (by rw [may_wider (x := (a : Int)) (y := (b : Int)) hmay hg124 (leqS_refl hltb)]; rfl) ?_
              refine sy_pickT rfl rfl rfl rfl ?_
              refine sy_move rfl rfl rfl ?_
              refine sy_move rfl rfl rfl ?_
              refine sy_move rfl rfl rfl ?_
              refine sy_move rfl rfl rfl ?_
              refine sy_call rfl call_23 rfl (leq_c _ _ _ _ hg hk1 hk2 (ru_lt hk2 q) _ _) rfl rfl ?_
              refine sy_move rfl rfl rfl ?_
              refine sy_cond (d := 137) _ rfl rfl (fun hg137 => ?_) (fun hg137 => ?_)
              · refine sy_move rfl rfl rfl ?_
                refine sy_move rfl rfl rfl ?_
                refine sy_move rfl rfl rfl ?_
                refine sy_move rfl rfl rfl ?_
                refine sy_call rfl call_22 rfl (gmay_c g k (ru k q) _ hg hk1 hk2 (ru_lt hk2 q) tb31 gs hT31 hl100 _ _ _) rfl rfl ?_
                refine sy_not rfl rfl rfl ?_
                refine sy_setF (d := 143) rfl rfl (by rw [may_wider (x := (a : Int)) (y := (b : Int)) hmay (leqS_refl hlta) hg137]; rfl) ?_
                refine sy_pickT rfl rfl rfl rfl ?_
                refine sy_pickF rfl rfl rfl rfl ?_
                refine sy_nil rfl ?_
                refine ny_next ?_
                refine cy_condF rfl ?_
                refine cy_skip ?_
                refine ny_blockN ?_
                refine ny_next ?_
                refine cy_region ?_
                refine sy_move rfl rfl rfl ?_
                refine sy_addi (z := ((cc + 1 : Nat) : Int)) rfl rfl (by omega) (by omega) (by omega) rfl rfl ?_
                refine sy_assign rfl rfl rfl ?_
                refine sy_nil rfl ?_
                refine ny_roundK [3, 9, 10, 12, 14, 15, 16, 17, 89, 90, 91, 92, 93, 94, 97, 98, 99, 100, 101, 102, 103, 106, 107, 108, 109, 110, 111, 112] (cc + 1) [] (show cc + 1 ≤ k by omega) (show k - (cc + 1) < k - cc by omega) rfl ⟨rfl, trivial⟩ rfl rfl
              · refine sy_skip rfl rfl rfl ?_
                refine sy_skip rfl rfl rfl ?_
                refine sy_skip rfl rfl rfl ?_
                refine sy_skip rfl rfl rfl ?_
                refine sy_skip rfl rfl rfl ?_
                refine sy_skip rfl rfl rfl ?_
                refine sy_pickF rfl rfl rfl rfl ?_
                refine sy_pickF rfl rfl rfl rfl ?_
                refine sy_nil rfl ?_
                refine ny_next ?_
                refine cy_condF rfl ?_
                refine cy_skip ?_
                refine ny_blockN ?_
                refine ny_next ?_
                refine cy_region ?_
                refine sy_move rfl rfl rfl ?_
                refine sy_addi (z := ((cc + 1 : Nat) : Int)) rfl rfl (by omega) (by omega) (by omega) rfl rfl ?_
                refine sy_assign rfl rfl rfl ?_
                refine sy_nil rfl ?_
                refine ny_roundK [3, 9, 10, 12, 14, 15, 16, 17, 89, 90, 91, 92, 93, 94, 97, 98, 99, 100, 101, 102, 103, 106, 107, 108, 109, 110, 111, 112] (cc + 1) [] (show cc + 1 ≤ k by omega) (show k - (cc + 1) < k - cc by omega) rfl ⟨rfl, trivial⟩ rfl rfl
            · refine sy_skip rfl rfl rfl ?_
              refine sy_skip rfl rfl rfl ?_
              refine sy_skip rfl rfl rfl ?_
              refine sy_skip rfl rfl rfl ?_
              refine sy_skip rfl rfl rfl ?_
              refine sy_skip rfl rfl rfl ?_
              refine sy_pickF rfl rfl rfl rfl ?_
              refine sy_move rfl rfl rfl ?_
              refine sy_move rfl rfl rfl ?_
              refine sy_move rfl rfl rfl ?_
              refine sy_move rfl rfl rfl ?_
              refine sy_call rfl call_23 rfl (leq_c _ _ _ _ hg hk1 hk2 (ru_lt hk2 q) _ _) rfl rfl ?_
              refine sy_move rfl rfl rfl ?_
              refine sy_cond (d := 137) _ rfl rfl (fun hg137 => ?_) (fun hg137 => ?_)
              · refine sy_move rfl rfl rfl ?_
                refine sy_move rfl rfl rfl ?_
                refine sy_move rfl rfl rfl ?_
                refine sy_move rfl rfl rfl ?_
                refine sy_call rfl call_22 rfl (gmay_c g k (ru k q) _ hg hk1 hk2 (ru_lt hk2 q) tb31 gs hT31 hl100 _ _ _) rfl rfl ?_
                refine sy_not rfl rfl rfl ?_
                refine sy_setF (d := 143) rfl rfl (by rw [may_wider (x := (a : Int)) (y := (b : Int)) hmay (leqS_refl hlta) hg137]; rfl) ?_
                refine sy_pickT rfl rfl rfl rfl ?_
                refine sy_pickF rfl rfl rfl rfl ?_
                refine sy_nil rfl ?_
                refine ny_next ?_
                refine cy_condF rfl ?_
                refine cy_skip ?_
                refine ny_blockN ?_
                refine ny_next ?_
                refine cy_region ?_
                refine sy_move rfl rfl rfl ?_
                refine sy_addi (z := ((cc + 1 : Nat) : Int)) rfl rfl (by omega) (by omega) (by omega) rfl rfl ?_
                refine sy_assign rfl rfl rfl ?_
                refine sy_nil rfl ?_
                refine ny_roundK [3, 9, 10, 12, 14, 15, 16, 17, 89, 90, 91, 92, 93, 94, 97, 98, 99, 100, 101, 102, 103, 106, 107, 108, 109, 110, 111, 112] (cc + 1) [] (show cc + 1 ≤ k by omega) (show k - (cc + 1) < k - cc by omega) rfl ⟨rfl, trivial⟩ rfl rfl
              · refine sy_skip rfl rfl rfl ?_
                refine sy_skip rfl rfl rfl ?_
                refine sy_skip rfl rfl rfl ?_
                refine sy_skip rfl rfl rfl ?_
                refine sy_skip rfl rfl rfl ?_
                refine sy_skip rfl rfl rfl ?_
                refine sy_pickF rfl rfl rfl rfl ?_
                refine sy_pickF rfl rfl rfl rfl ?_
                refine sy_nil rfl ?_
                refine ny_next ?_
                refine cy_condF rfl ?_
                refine cy_skip ?_
                refine ny_blockN ?_
                refine ny_next ?_
                refine cy_region ?_
                refine sy_move rfl rfl rfl ?_
                refine sy_addi (z := ((cc + 1 : Nat) : Int)) rfl rfl (by omega) (by omega) (by omega) rfl rfl ?_
                refine sy_assign rfl rfl rfl ?_
                refine sy_nil rfl ?_
                refine ny_roundK [3, 9, 10, 12, 14, 15, 16, 17, 89, 90, 91, 92, 93, 94, 97, 98, 99, 100, 101, 102, 103, 106, 107, 108, 109, 110, 111, 112] (cc + 1) [] (show cc + 1 ≤ k by omega) (show k - (cc + 1) < k - cc by omega) rfl ⟨rfl, trivial⟩ rfl rfl
          · refine cy_exit ?_
            refine ny_thenE ?_
            refine ny_thenE ?_
            refine ny_blockX ?_
            refine ny_blockN ?_
            refine ny_next ?_
            refine cy_region ?_
            refine sy_move rfl rfl rfl ?_
            refine sy_addi (z := ((b + 1 : Nat) : Int)) rfl rfl (by omega) (by omega) (by omega) rfl rfl ?_
            refine sy_assign rfl rfl rfl ?_
            refine sy_nil rfl ?_
            refine ny_roundK [3, 9, 10, 12, 14, 15, 16] (b + 1) [] (show b + 1 ≤ k by omega) (show k - (b + 1) < k - b by omega) rfl ⟨rfl, trivial⟩ rfl rfl
      · refine cy_exit ?_
        refine ny_thenE ?_
        refine ny_thenE ?_
        refine ny_blockX ?_
        refine ny_blockN ?_
        refine ny_next ?_
        refine cy_region ?_
        refine sy_move rfl rfl rfl ?_
        refine sy_addi (z := ((a + 1 : Nat) : Int)) rfl rfl (by omega) (by omega) (by omega) rfl rfl ?_
        refine sy_assign rfl rfl rfl ?_
        refine sy_nil rfl ?_
        refine ny_roundK [3, 9, 10, 12, 14, 15] (a + 1) [] (show a + 1 ≤ k by omega) (show k - (a + 1) < k - a by omega) rfl ⟨rfl, trivial⟩ rfl rfl
    · refine cy_exit ?_
      refine ny_thenE ?_
      refine ny_thenE ?_
      refine ny_blockX ?_
      refine ny_next ?_
      refine cy_seq ?_
      refine cy_region ?_
      refine sy_move rfl rfl rfl ?_
      refine sy_assign rfl rfl rfl ?_
      refine sy_nil rfl ?_
      refine ny_next ?_
      refine cy_ret ?_
      exact ny_finR (res1 rfl rfl) (fun w hs => ⟨rfl, hs.frm⟩)
set_option maxRecDepth 100000 in
theorem wider_good2 (k : Nat) (m : Gr) (hms : m.s.size ≤ 140737488355328) (o : ByteArray)  (A : Option Addr) (l c L : Nat) (q : List (Int × Int)) (h : Hp) (hlc : l ≤ c) (hL : L = min l 60) (hq : PairsAt h A q) (hql : q.length = L) (AG : Option Addr) (lG cG : Nat) (gs : List Gr) (hG : RowsAt h AG 3 (gs.map grC)) (hlG : gs.length = lG) (hcG : lG ≤ cG) (hBG : lG * 32 ≤ 140737488351232) (hokG : ∀ g, g ∈ gs → g.s.size ≤ 140737488355328) (ht : Tab10 h) (hF : Fine (k : Int) q) (j m2 : Nat → Nat → Nat) (lo hi : Nat) (L2 : Lat2 k q j m2 lo hi) (h0 : newI k (ru k q) gs = 0) (h1 : newI k (ru k q) (gs ++ [m]) ≠ 0) : C0 Tryd.prog 5 [.agg #[.int .i64 (k : Int), .slice A l c], .slice AG lG cG, .agg (grC m).toArray, .string o] h (.bool true) := by
  have hk1 : 1 ≤ k := by have := hF.1; omega
  have hk2 : k ≤ 16 := by have := hF.2.1; omega
  have hl100 : gs.length ≤ 100 := by have := (newI_zero.1 h0).1; omega
  refine enter0 Tryd.func5 rfl rfl rfl (fun w => ?_)
  refine cy_seq ?_
  refine cy_region ?_
  refine sy_box rfl rfl rfl rfl (fun b4 hb4 hM4 => ?_) (by simp)
  refine sy_box rfl rfl rfl rfl (fun b6 hb6 hM6 => ?_) (by simp)
  refine sy_assign rfl rfl rfl ?_
  refine sy_nil rfl ?_
  refine ny_next ?_
  refine cy_seq ?_
  refine cy_region ?_
  refine sy_call rfl call_17 rfl (shown02_c _ ht) rfl rfl ?_
  refine sy_assign rfl rfl rfl ?_
  refine sy_nil rfl ?_
  refine ny_next ?_
  refine cy_seq ?_
  refine cy_frz 1 rfl (by simp) (fun hbx0 hlebx hbx => ?_)
  replace hq := hq.le hlebx
  replace ht := ht.le hlebx
  replace hG := hG.le hlebx
  refine cy_regionA mixedA ?_
  refine zy_q 0 rfl (by kernel_rfl) (fun hB2_0 => ?_)
  refine sy_field fld_24_0 rfl rfl rfl ?_
  refine sy_nil1 (ny_zq hB2_0 ?_)
  refine zy_q 1 rfl (by kernel_rfl) (fun hB2_1 => ?_)
  refine sy_ldh one_3 rfl (Hp.blk hbx 0 _ rfl) rfl rfl ?_
  refine sy_nil1 (ny_zq hB2_1 ?_)
  refine zy_q 2 rfl (by kernel_rfl) (fun hB2_2 => ?_)
  refine sy_ldah (vs := [.int .i64 (k : Int), .slice A l c]) agg_24 rfl rfl (Hp.blk hbx) rfl rfl ?_
  refine sy_nil1 (ny_zq hB2_2 ?_)
  refine zy_1 3 (by kernel_rfl) ?_
  refine zop_run rfl rfl (fun hB2_3 => ?_)
  refine sy_call rfl call_19 rfl (gfew_c (k : Int) A l c L _ hlc hL) rfl rfl ?_
  refine sy_nil rfl (ny_zy hB2_3 (Hp.Le.refl _) ?_)
  refine zy_1 4 (by kernel_rfl) ?_
  refine zop_run rfl rfl (fun hB2_4 => ?_)
  refine sy_callx call_18 rfl (newGood_c k A _ c q _ hF hq hql (by omega)) rfl rfl (fun x25 h25 hx25 hle25 => ?_)
  have hG := hG.le hle25
  have ht := ht.le hle25
  revert hx25
  revert x25
  intro g hg
  refine sy_nil rfl (ny_zy hB2_4 hle25 ?_)
  refine zy_q 5 rfl (by kernel_rfl) (fun hB2_5 => ?_)
  refine sy_move rfl rfl rfl ?_
  refine sy_nil1 (ny_zq hB2_5 ?_)
  refine zy_q 6 rfl (by kernel_rfl) (fun hB2_6 => ?_)
  refine sy_extract rfl rfl rfl rfl ?_
  refine sy_nil1 (ny_zq hB2_6 ?_)
  refine zy_q 7 rfl (by kernel_rfl) (fun hB2_7 => ?_)
  refine sy_extract rfl rfl rfl rfl ?_
  refine sy_nil1 (ny_zq hB2_7 ?_)
  refine zy_q 8 rfl (by kernel_rfl) (fun hB2_8 => ?_)
  refine sy_assign rfl rfl rfl ?_
  refine sy_nil1 (ny_zq hB2_8 ?_)
  refine zy_q 9 rfl (by kernel_rfl) (fun hB2_9 => ?_)
  refine sy_assign rfl rfl rfl ?_
  refine sy_nil1 (ny_zq hB2_9 ?_)
  refine zy_done (by kernel_rfl) ?_
  refine ny_next ?_
  refine cy_seq ?_
  refine cy_region ?_
  refine sy_move rfl rfl rfl ?_
  refine sy_move rfl rfl rfl ?_
  refine sy_callx call_20 rfl (gnewGood_c g k (ru k q) _ hg hk1 hk2 (ru_lt hk2 q) AG lG cG gs hG hlG hcG hBG ht hokG h0) rfl rfl (fun x31 h31 hx31 hle31 => ?_)
  have hG := hG.le hle31
  have ht := ht.le hle31
  have hg := hle31 _ _ hg
  revert hx31
  revert x31
  intro tb31 hT31
  refine sy_move rfl rfl rfl ?_
  refine sy_extract rfl rfl rfl rfl ?_
  refine sy_extract rfl rfl rfl rfl ?_
  refine sy_assign rfl rfl rfl ?_
  refine sy_assign rfl rfl rfl ?_
  refine sy_nil rfl ?_
  refine ny_next ?_
  refine cy_seq ?_
  refine cy_seq ?_
  refine cy_region ?_
  refine sy_move rfl rfl rfl ?_
  refine sy_cmp rfl rfl rfl rfl rfl ?_
  refine sy_setF (d := 35) rfl rfl rfl ?_
  refine sy_move rfl rfl rfl ?_
  refine sy_move rfl rfl rfl ?_
  refine sy_eqn Tryd.underlying34 rfl rfl rfl rfl rfl ?_
  refine sy_setF (d := 38) rfl rfl rfl ?_
  refine sy_pickF rfl rfl rfl rfl ?_
  refine sy_move rfl rfl rfl ?_
  refine sy_move rfl rfl rfl ?_
  refine sy_eqp Tryd.underlying27 rfl rfl rfl rfl rfl ?_
  refine sy_setF (d := 42) rfl rfl rfl ?_
  refine sy_pickF rfl rfl rfl rfl ?_
  refine sy_move rfl rfl rfl ?_
  refine sy_move rfl rfl rfl ?_
  refine sy_eqp Tryd.underlying32 rfl rfl rfl rfl rfl ?_
  refine sy_setF (d := 46) rfl rfl rfl ?_
  refine sy_pickF rfl rfl rfl rfl ?_
  refine sy_nil rfl ?_
  refine ny_next ?_
  refine cy_condF rfl ?_
  refine cy_skip ?_
  refine ny_next ?_
  refine cy_seq ?_
  refine cy_frz 0 rfl (by simp) (fun h6 hle6 hb6 => ?_)
  replace ht := ht.le hle6
  replace hg := hle6 _ _ hg
  replace hG := hG.le hle6
  replace hT31 := hT31.le hle6
  refine cy_regionA mixedA ?_
  refine zy_q 0 rfl (by kernel_rfl) (fun hB6_0 => ?_)
  refine sy_move rfl rfl rfl ?_
  refine sy_nil1 (ny_zq hB6_0 ?_)
  refine zy_q 2 rfl (by kernel_rfl) (fun hB6_2 => ?_)
  refine sy_move rfl rfl rfl ?_
  refine sy_nil1 (ny_zq hB6_2 ?_)
  refine zy_q 4 rfl (by kernel_rfl) (fun hB6_4 => ?_)
  refine sy_ldah (vs := grC m) agg_38 rfl rfl (Hp.blk hb6) rfl rfl ?_
  refine sy_nil1 (ny_zq hB6_4 ?_)
  refine zy_2 1 5 (by kernel_rfl) ?_ ?_
  · refine zop_run rfl rfl (fun hB6_1 => ?_)
    refine sy_buildSlice (cs := []) rfl (fun w => bsl_25_0_ w) rfl rfl (fun b59 hb59 hM59 => ?_) (by simp)
    refine sy_nil rfl (ny_zy hB6_1 (Hp.Le.refl _) ?_)
    refine zy_2 3 5 (by kernel_rfl) ?_ ?_
    · refine zop_run rfl rfl (fun hB6_3 => ?_)
      first | refine sy_asRow (l := 0) (sz := 3) (cs := []) 0 rfl rfl (Nat.zero_le _) ?_ | refine sy_asRow (l := 0) (sz := 3) (cs := []) 1 rfl rfl (Nat.zero_le _) ?_
      refine sy_appendh (news := (gs.map grC).flatten) 0 row_25 (by decide) rfl rfl rfl (fun hA => by have := hG.none hA; simp only [List.length_map] at this; omega) (by rw [flat_len (grC_len gs)]; simp [hlG]) (hG.cells (by decide) (grC_len gs)) (grC_ones gs) (by omega) (by simp only [maxLen]; omega) rfl rfl (fun v61 => ?_)
      refine sy_nil rfl (ny_zy hB6_3 (Hp.Le.refl _) ?_)
      refine zy_1 5 (by kernel_rfl) ?_
      refine zop_run rfl rfl (fun hB6_5 => ?_)
      refine sy_buildSlice rfl (fun w => bsl_25_1_0 w) rfl rfl (fun b63 hb63 hM63 => ?_) (by simp)
      refine sy_nil rfl (ny_zy hB6_5 (Hp.Le.refl _) ?_)
      refine zy_1 6 (by kernel_rfl) ?_
      refine zop_run rfl rfl (fun hB6_6 => ?_)
      first | refine sy_append 0 1 row_25 (by decide) rfl rfl rfl rfl rfl rfl (by omega) (by simp only [maxLen]; omega) rfl rfl (fun v64 => ?_) | refine sy_append 1 0 row_25 (by decide) rfl rfl rfl rfl rfl rfl (by omega) (by simp only [maxLen]; omega) rfl rfl (fun v64 => ?_)
      refine sy_nil rfl (ny_zy hB6_6 (Hp.Le.refl _) ?_)
      refine zy_1 7 (by kernel_rfl) ?_
      refine zop_run rfl rfl (fun hB6_7 => ?_)
      refine sy_frzRow 0 rfl (fun _ _ => by simp) (fun A64 c64 h64 hv64 hlc64 hcm64 _ hle64 hcell64 => ?_)
      subst hv64
      have hr64 : RowsAt h64 A64 3 ((gs ++ [m]).map grC) := by
        rw [List.nil_append] at hcell64
        have h9 := grs_snoc gs m
        exact rows_row (by decide) (grC_len _) (by rw [h9]; exact hcell64)
      replace ht := ht.le hle64
      replace hg := hle64 _ _ hg
      replace hG := hG.le hle64
      replace hT31 := hT31.le hle64
      refine sy_callx call_20 rfl (gnewBad_c g k (ru k q) _ hg hk1 hk2 (ru_lt hk2 q) A64 _ c64 (gs ++ [m]) hr64 (by rw [List.length_append, hlG, Nat.zero_add]; rfl) hlc64 (by omega) ht (fun g hg => (List.mem_append.1 hg).elim (hokG g) (fun h9 => by simp only [List.mem_cons, List.not_mem_nil, or_false] at h9; subst h9; exact hms)) h1) rfl rfl (fun x65 h65 hx65 hle65 => ?_)
      have hG := hG.le hle65
      have ht := ht.le hle65
      have hg := hle65 _ _ hg
      have hT31 := hT31.le hle65
      skip
      refine sy_nil rfl (ny_zy hB6_7 (hle64.trans hle65) ?_)
      refine zy_q 8 rfl (by kernel_rfl) (fun hB6_8 => ?_)
      refine sy_move rfl rfl rfl ?_
      refine sy_nil1 (ny_zq hB6_8 ?_)
      refine zy_q 9 rfl (by kernel_rfl) (fun hB6_9 => ?_)
      refine sy_extract rfl rfl rfl rfl ?_
      refine sy_nil1 (ny_zq hB6_9 ?_)
      refine zy_q 10 rfl (by kernel_rfl) (fun hB6_10 => ?_)
      refine sy_extract rfl rfl rfl rfl ?_
      refine sy_nil1 (ny_zq hB6_10 ?_)
      refine zy_q 11 rfl (by kernel_rfl) (fun hB6_11 => ?_)
      refine sy_assign rfl rfl rfl ?_
      refine sy_nil1 (ny_zq hB6_11 ?_)
      refine zy_q 12 rfl (by kernel_rfl) (fun hB6_12 => ?_)
      refine sy_assign rfl rfl rfl ?_
      refine sy_nil1 (ny_zq hB6_12 ?_)
      refine zy_done (by kernel_rfl) ?_
      refine ny_next ?_
      refine cy_seq ?_
      refine cy_seq ?_
      refine cy_region ?_
      refine sy_assign rfl rfl rfl ?_
      refine sy_nil rfl ?_
      refine ny_next ?_
      refine cy_block ?_
      refine cy_loopK (ι := Nat) [3, 9, 10, 12, 14, 15] rfl (fun a => a ≤ k) (fun a => k - a) (fun a => [(16, .int .i64 (a : Int))]) (fun a => h65) (fun a => []) 0 [] (Nat.zero_le _) ⟨rfl, trivial⟩ rfl rfl ?_
      rintro a hA
      refine cy_seq ?_
      refine cy_seq ?_
      refine cy_region ?_
      refine sy_move rfl rfl rfl ?_
      refine sy_move rfl rfl rfl ?_
      refine sy_call rfl call_21 rfl (len_c _ _ _ _ hg) rfl rfl ?_
      refine sy_cmp rfl rfl rfl rfl rfl ?_
      refine sy_nil rfl ?_
      refine ny_next ?_
      refine cy_cond rfl (fun hc71 => ?_) (fun hc71 => ?_)
      · have hlta : a < k := by have := of_decide_eq_true hc71; omega
        refine cy_skip ?_
        refine ny_next ?_
        refine cy_seq ?_
        refine cy_block ?_
        refine cy_seq ?_
        refine cy_region ?_
        refine sy_assign rfl rfl rfl ?_
        refine sy_nil rfl ?_
        refine ny_next ?_
        refine cy_block ?_
        refine cy_loopK (ι := Nat) [3, 9, 10, 12, 14, 15, 16] rfl (fun b => b ≤ k) (fun b => k - b) (fun b => [(17, .int .i64 (b : Int))]) (fun b => h65) (fun b => []) 0 [] (Nat.zero_le _) ⟨rfl, trivial⟩ rfl rfl ?_
        rintro b hB
        refine cy_seq ?_
        refine cy_seq ?_
        refine cy_region ?_
        refine sy_move rfl rfl rfl ?_
        refine sy_move rfl rfl rfl ?_
        refine sy_call rfl call_21 rfl (len_c _ _ _ _ hg) rfl rfl ?_
        refine sy_cmp rfl rfl rfl rfl rfl ?_
        refine sy_nil rfl ?_
        refine ny_next ?_
        refine cy_cond rfl (fun hc77 => ?_) (fun hc77 => ?_)
        · have hltb : b < k := by have := of_decide_eq_true hc77; omega
          refine cy_skip ?_
          refine ny_next ?_
          refine cy_seq ?_
          refine cy_block ?_
          refine cy_seq ?_
          refine cy_seq ?_
          refine cy_region ?_
          refine sy_move rfl rfl rfl ?_
          refine sy_move rfl rfl rfl ?_
          refine sy_move rfl rfl rfl ?_
          refine sy_move rfl rfl rfl ?_
          refine sy_call rfl call_22 rfl (gmay_c g k (ru k q) _ hg hk1 hk2 (ru_lt hk2 q) tb31 gs hT31 hl100 _ _ _) rfl rfl ?_
          refine sy_not rfl rfl rfl ?_
          refine sy_nil rfl ?_
          refine ny_next ?_
          refine cy_cond rfl (fun hc85 => ?_) (fun hc85 => ?_)
          · refine cy_exit ?_
            refine ny_thenE ?_
            refine ny_blockX ?_
            refine ny_next ?_
            refine cy_region ?_
            refine sy_move rfl rfl rfl ?_
            refine sy_addi (z := ((b + 1 : Nat) : Int)) rfl rfl (by omega) (by omega) (by omega) rfl rfl ?_
            refine sy_assign rfl rfl rfl ?_
            refine sy_nil rfl ?_
            refine ny_roundK [3, 9, 10, 12, 14, 15, 16] (b + 1) [] (show b + 1 ≤ k by omega) (show k - (b + 1) < k - b by omega) rfl ⟨rfl, trivial⟩ rfl rfl
          · have hmay : gs.any (mayB k (ru k q) o (a : Int) (b : Int)) = true := by simpa using hc85
            refine cy_skip ?_
            refine ny_next ?_
            refine cy_seq ?_
            refine cy_seq ?_
            refine cy_region ?_
            refine sy_move rfl rfl rfl ?_
            refine sy_eqn Tryd.underlying34 rfl rfl rfl rfl rfl ?_
            refine sy_setF (d := 87) rfl rfl rfl ?_
            refine sy_move rfl rfl rfl ?_
            refine sy_skip rfl rfl rfl ?_
            refine sy_skip rfl rfl rfl ?_
            refine sy_skip rfl rfl rfl ?_
            refine sy_skip rfl rfl rfl ?_
            refine sy_skip rfl rfl rfl ?_
            refine sy_skip rfl rfl rfl ?_
            refine sy_pickF rfl rfl rfl rfl ?_
            refine sy_move rfl rfl rfl ?_
            refine sy_move rfl rfl rfl ?_
            refine sy_move rfl rfl rfl ?_
            refine sy_move rfl rfl rfl ?_
            refine sy_call rfl call_25 rfl (botJ_c hg hk2 L2) rfl rfl ?_
            refine sy_move rfl rfl rfl ?_
            refine sy_call rfl call_22 rfl (gmay_c g k (ru k q) _ hg hk1 hk2 (ru_lt hk2 q) tb31 gs hT31 hl100 _ _ _) rfl rfl ?_
            refine sy_not rfl rfl rfl ?_
            refine sy_setF (d := 103) rfl rfl (by rw [may_wider (x := (a : Int)) (y := (b : Int)) hmay ((leq_ru L2.lon hlta).2 (L2.lol a hlta)) (leqS_refl hltb)]; rfl) ?_
            refine sy_pickF rfl rfl rfl rfl ?_
            refine sy_move rfl rfl rfl ?_
            refine sy_move rfl rfl rfl ?_
            refine sy_move rfl rfl rfl ?_
            refine sy_move rfl rfl rfl ?_
            refine sy_move rfl rfl rfl ?_
            refine sy_call rfl call_26 rfl (topJ_c hg hk2 L2) rfl rfl ?_
            refine sy_call rfl call_22 rfl (gmay_c g k (ru k q) _ hg hk1 hk2 (ru_lt hk2 q) tb31 gs hT31 hl100 _ _ _) rfl rfl ?_
            refine sy_not rfl rfl rfl ?_
            refine sy_setF (d := 112) rfl rfl (by rw [may_wider (x := (a : Int)) (y := (b : Int)) hmay (leqS_refl hlta) ((leq_ru hltb L2.hin).2 (L2.hir b hltb))]; rfl) ?_
            refine sy_pickF rfl rfl rfl rfl ?_
            refine sy_nil rfl ?_
            refine ny_next ?_
            refine cy_condF rfl ?_
            refine cy_skip ?_
            refine ny_next ?_
            refine cy_seq ?_
            refine cy_region ?_
            refine sy_assign rfl rfl rfl ?_
            refine sy_nil rfl ?_
            refine ny_next ?_
            refine cy_block ?_
            refine cy_loopK (ι := Nat) [3, 9, 10, 12, 14, 15, 16, 17, 97, 98, 99, 100, 101, 102, 103, 106, 107, 108, 109, 110, 111, 112] rfl (fun cc => cc ≤ k) (fun cc => k - cc) (fun cc => [(18, .int .i64 (cc : Int))]) (fun cc => h65) (fun cc => []) 0 [] (Nat.zero_le _) ⟨rfl, trivial⟩ rfl rfl ?_
            rintro cc hC
            refine cy_seq ?_
            refine cy_seq ?_
            refine cy_region ?_
            refine sy_move rfl rfl rfl ?_
            refine sy_move rfl rfl rfl ?_
            refine sy_call rfl call_21 rfl (len_c _ _ _ _ hg) rfl rfl ?_
            refine sy_cmp rfl rfl rfl rfl rfl ?_
            refine sy_nil rfl ?_
            refine ny_next ?_
            refine cy_cond rfl (fun hc117 => ?_) (fun hc117 => ?_)
            · have hltcc : cc < k := by have := of_decide_eq_true hc117; omega
              refine cy_skip ?_
              refine ny_next ?_
              refine cy_seq ?_
              refine cy_block ?_
              refine cy_seq ?_
              refine cy_region ?_
              refine sy_move rfl rfl rfl ?_
              refine sy_move rfl rfl rfl ?_
              refine sy_move rfl rfl rfl ?_
              refine sy_call rfl call_23 rfl (leq_c _ _ _ _ hg hk1 hk2 (ru_lt hk2 q) _ _) rfl rfl ?_
              refine sy_move rfl rfl rfl ?_
              refine sy_cond (d := 124) _ rfl rfl (fun hg124 => ?_) (fun hg124 => ?_)
              · refine sy_move rfl rfl rfl ?_
                refine sy_move rfl rfl rfl ?_
                refine sy_move rfl rfl rfl ?_
                refine sy_move rfl rfl rfl ?_
                refine sy_call rfl call_22 rfl (gmay_c g k (ru k q) _ hg hk1 hk2 (ru_lt hk2 q) tb31 gs hT31 hl100 _ _ _) rfl rfl ?_
                refine sy_not rfl rfl rfl ?_
                refine sy_setF (d := 130) rfl rfl (by rw [may_wider (x := (a : Int)) (y := (b : Int)) hmay hg124 (leqS_refl hltb)]; rfl) ?_
                refine sy_pickT rfl rfl rfl rfl ?_
                refine sy_move rfl rfl rfl ?_
                refine sy_move rfl rfl rfl ?_
                refine sy_move rfl rfl rfl ?_
                refine sy_move rfl rfl rfl ?_
                refine sy_call rfl call_23 rfl (leq_c _ _ _ _ hg hk1 hk2 (ru_lt hk2 q) _ _) rfl rfl ?_
                refine sy_move rfl rfl rfl ?_
                refine sy_cond (d := 137) _ rfl rfl (fun hg137 => ?_) (fun hg137 => ?_)
                · refine sy_move rfl rfl rfl ?_
                  refine sy_move rfl rfl rfl ?_
                  refine sy_move rfl rfl rfl ?_
                  refine sy_move rfl rfl rfl ?_
                  refine sy_call rfl call_22 rfl (gmay_c g k (ru k q) _ hg hk1 hk2 (ru_lt hk2 q) tb31 gs hT31 hl100 _ _ _) rfl rfl ?_
                  refine sy_not rfl rfl rfl ?_
                  refine sy_setF (d := 143) rfl rfl (by rw [may_wider (x := (a : Int)) (y := (b : Int)) hmay (leqS_refl hlta) hg137]; rfl) ?_
                  refine sy_pickT rfl rfl rfl rfl ?_
                  refine sy_pickF rfl rfl rfl rfl ?_
                  refine sy_nil rfl ?_
                  refine ny_next ?_
                  refine cy_condF rfl ?_
                  refine cy_skip ?_
                  refine ny_blockN ?_
                  refine ny_next ?_
                  refine cy_region ?_
                  refine sy_move rfl rfl rfl ?_
                  refine sy_addi (z := ((cc + 1 : Nat) : Int)) rfl rfl (by omega) (by omega) (by omega) rfl rfl ?_
                  refine sy_assign rfl rfl rfl ?_
                  refine sy_nil rfl ?_
                  refine ny_roundK [3, 9, 10, 12, 14, 15, 16, 17, 97, 98, 99, 100, 101, 102, 103, 106, 107, 108, 109, 110, 111, 112] (cc + 1) [] (show cc + 1 ≤ k by omega) (show k - (cc + 1) < k - cc by omega) rfl ⟨rfl, trivial⟩ rfl rfl
                · refine sy_skip rfl rfl rfl ?_
                  refine sy_skip rfl rfl rfl ?_
                  refine sy_skip rfl rfl rfl ?_
                  refine sy_skip rfl rfl rfl ?_
                  refine sy_skip rfl rfl rfl ?_
                  refine sy_skip rfl rfl rfl ?_
                  refine sy_pickF rfl rfl rfl rfl ?_
                  refine sy_pickF rfl rfl rfl rfl ?_
                  refine sy_nil rfl ?_
                  refine ny_next ?_
                  refine cy_condF rfl ?_
                  refine cy_skip ?_
                  refine ny_blockN ?_
                  refine ny_next ?_
                  refine cy_region ?_
                  refine sy_move rfl rfl rfl ?_
                  refine sy_addi (z := ((cc + 1 : Nat) : Int)) rfl rfl (by omega) (by omega) (by omega) rfl rfl ?_
                  refine sy_assign rfl rfl rfl ?_
                  refine sy_nil rfl ?_
                  refine ny_roundK [3, 9, 10, 12, 14, 15, 16, 17, 97, 98, 99, 100, 101, 102, 103, 106, 107, 108, 109, 110, 111, 112] (cc + 1) [] (show cc + 1 ≤ k by omega) (show k - (cc + 1) < k - cc by omega) rfl ⟨rfl, trivial⟩ rfl rfl
              · refine sy_skip rfl rfl rfl ?_
                refine sy_skip rfl rfl rfl ?_
                refine sy_skip rfl rfl rfl ?_
                refine sy_skip rfl rfl rfl ?_
                refine sy_skip rfl rfl rfl ?_
                refine sy_skip rfl rfl rfl ?_
                refine sy_pickF rfl rfl rfl rfl ?_
                refine sy_move rfl rfl rfl ?_
                refine sy_move rfl rfl rfl ?_
                refine sy_move rfl rfl rfl ?_
                refine sy_move rfl rfl rfl ?_
                refine sy_call rfl call_23 rfl (leq_c _ _ _ _ hg hk1 hk2 (ru_lt hk2 q) _ _) rfl rfl ?_
                refine sy_move rfl rfl rfl ?_
                refine sy_cond (d := 137) _ rfl rfl (fun hg137 => ?_) (fun hg137 => ?_)
                · refine sy_move rfl rfl rfl ?_
                  refine sy_move rfl rfl rfl ?_
                  refine sy_move rfl rfl rfl ?_
                  refine sy_move rfl rfl rfl ?_
                  refine sy_call rfl call_22 rfl (gmay_c g k (ru k q) _ hg hk1 hk2 (ru_lt hk2 q) tb31 gs hT31 hl100 _ _ _) rfl rfl ?_
                  refine sy_not rfl rfl rfl ?_
                  refine sy_setF (d := 143) rfl rfl (by rw [may_wider (x := (a : Int)) (y := (b : Int)) hmay (leqS_refl hlta) hg137]; rfl) ?_
                  refine sy_pickT rfl rfl rfl rfl ?_
                  refine sy_pickF rfl rfl rfl rfl ?_
                  refine sy_nil rfl ?_
                  refine ny_next ?_
                  refine cy_condF rfl ?_
                  refine cy_skip ?_
                  refine ny_blockN ?_
                  refine ny_next ?_
                  refine cy_region ?_
                  refine sy_move rfl rfl rfl ?_
                  refine sy_addi (z := ((cc + 1 : Nat) : Int)) rfl rfl (by omega) (by omega) (by omega) rfl rfl ?_
                  refine sy_assign rfl rfl rfl ?_
                  refine sy_nil rfl ?_
                  refine ny_roundK [3, 9, 10, 12, 14, 15, 16, 17, 97, 98, 99, 100, 101, 102, 103, 106, 107, 108, 109, 110, 111, 112] (cc + 1) [] (show cc + 1 ≤ k by omega) (show k - (cc + 1) < k - cc by omega) rfl ⟨rfl, trivial⟩ rfl rfl
                · refine sy_skip rfl rfl rfl ?_
                  refine sy_skip rfl rfl rfl ?_
                  refine sy_skip rfl rfl rfl ?_
                  refine sy_skip rfl rfl rfl ?_
                  refine sy_skip rfl rfl rfl ?_
                  refine sy_skip rfl rfl rfl ?_
                  refine sy_pickF rfl rfl rfl rfl ?_
                  refine sy_pickF rfl rfl rfl rfl ?_
                  refine sy_nil rfl ?_
                  refine ny_next ?_
                  refine cy_condF rfl ?_
                  refine cy_skip ?_
                  refine ny_blockN ?_
                  refine ny_next ?_
                  refine cy_region ?_
                  refine sy_move rfl rfl rfl ?_
                  refine sy_addi (z := ((cc + 1 : Nat) : Int)) rfl rfl (by omega) (by omega) (by omega) rfl rfl ?_
                  refine sy_assign rfl rfl rfl ?_
                  refine sy_nil rfl ?_
                  refine ny_roundK [3, 9, 10, 12, 14, 15, 16, 17, 97, 98, 99, 100, 101, 102, 103, 106, 107, 108, 109, 110, 111, 112] (cc + 1) [] (show cc + 1 ≤ k by omega) (show k - (cc + 1) < k - cc by omega) rfl ⟨rfl, trivial⟩ rfl rfl
            · refine cy_exit ?_
              refine ny_thenE ?_
              refine ny_thenE ?_
              refine ny_blockX ?_
              refine ny_blockN ?_
              refine ny_next ?_
              refine cy_region ?_
              refine sy_move rfl rfl rfl ?_
              refine sy_addi (z := ((b + 1 : Nat) : Int)) rfl rfl (by omega) (by omega) (by omega) rfl rfl ?_
              refine sy_assign rfl rfl rfl ?_
              refine sy_nil rfl ?_
              refine ny_roundK [3, 9, 10, 12, 14, 15, 16] (b + 1) [] (show b + 1 ≤ k by omega) (show k - (b + 1) < k - b by omega) rfl ⟨rfl, trivial⟩ rfl rfl
        · refine cy_exit ?_
          refine ny_thenE ?_
          refine ny_thenE ?_
          refine ny_blockX ?_
          refine ny_blockN ?_
          refine ny_next ?_
          refine cy_region ?_
          refine sy_move rfl rfl rfl ?_
          refine sy_addi (z := ((a + 1 : Nat) : Int)) rfl rfl (by omega) (by omega) (by omega) rfl rfl ?_
          refine sy_assign rfl rfl rfl ?_
          refine sy_nil rfl ?_
          refine ny_roundK [3, 9, 10, 12, 14, 15] (a + 1) [] (show a + 1 ≤ k by omega) (show k - (a + 1) < k - a by omega) rfl ⟨rfl, trivial⟩ rfl rfl
      · refine cy_exit ?_
        refine ny_thenE ?_
        refine ny_thenE ?_
        refine ny_blockX ?_
        refine ny_next ?_
        refine cy_seq ?_
        refine cy_region ?_
        refine sy_move rfl rfl rfl ?_
        refine sy_assign rfl rfl rfl ?_
        refine sy_nil rfl ?_
        refine ny_next ?_
        refine cy_ret ?_
        exact ny_finR (res1 rfl rfl) (fun w hs => ⟨rfl, hs.frm⟩)
    · refine zop_run rfl rfl (fun hB6_5 => ?_)
      refine sy_buildSlice rfl (fun w => bsl_25_1_0 w) rfl rfl (fun b63 hb63 hM63 => ?_) (by simp)
      refine sy_nil rfl (ny_zy hB6_5 (Hp.Le.refl _) ?_)
      refine zy_1 3 (by kernel_rfl) ?_
      refine zop_run rfl rfl (fun hB6_3 => ?_)
      first | refine sy_asRow (l := 0) (sz := 3) (cs := []) 0 rfl rfl (Nat.zero_le _) ?_ | refine sy_asRow (l := 0) (sz := 3) (cs := []) 1 rfl rfl (Nat.zero_le _) ?_
      refine sy_appendh (news := (gs.map grC).flatten) 0 row_25 (by decide) rfl rfl rfl (fun hA => by have := hG.none hA; simp only [List.length_map] at this; omega) (by rw [flat_len (grC_len gs)]; simp [hlG]) (hG.cells (by decide) (grC_len gs)) (grC_ones gs) (by omega) (by simp only [maxLen]; omega) rfl rfl (fun v61 => ?_)
      refine sy_nil rfl (ny_zy hB6_3 (Hp.Le.refl _) ?_)
      refine zy_1 6 (by kernel_rfl) ?_
      refine zop_run rfl rfl (fun hB6_6 => ?_)
      first | refine sy_append 0 1 row_25 (by decide) rfl rfl rfl rfl rfl rfl (by omega) (by simp only [maxLen]; omega) rfl rfl (fun v64 => ?_) | refine sy_append 1 0 row_25 (by decide) rfl rfl rfl rfl rfl rfl (by omega) (by simp only [maxLen]; omega) rfl rfl (fun v64 => ?_)
      refine sy_nil rfl (ny_zy hB6_6 (Hp.Le.refl _) ?_)
      refine zy_1 7 (by kernel_rfl) ?_
      refine zop_run rfl rfl (fun hB6_7 => ?_)
      refine sy_frzRow 0 rfl (fun _ _ => by simp) (fun A64 c64 h64 hv64 hlc64 hcm64 _ hle64 hcell64 => ?_)
      subst hv64
      have hr64 : RowsAt h64 A64 3 ((gs ++ [m]).map grC) := by
        rw [List.nil_append] at hcell64
        have h9 := grs_snoc gs m
        exact rows_row (by decide) (grC_len _) (by rw [h9]; exact hcell64)
      replace ht := ht.le hle64
      replace hg := hle64 _ _ hg
      replace hG := hG.le hle64
      replace hT31 := hT31.le hle64
      refine sy_callx call_20 rfl (gnewBad_c g k (ru k q) _ hg hk1 hk2 (ru_lt hk2 q) A64 _ c64 (gs ++ [m]) hr64 (by rw [List.length_append, hlG, Nat.zero_add]; rfl) hlc64 (by omega) ht (fun g hg => (List.mem_append.1 hg).elim (hokG g) (fun h9 => by simp only [List.mem_cons, List.not_mem_nil, or_false] at h9; subst h9; exact hms)) h1) rfl rfl (fun x65 h65 hx65 hle65 => ?_)
      have hG := hG.le hle65
      have ht := ht.le hle65
      have hg := hle65 _ _ hg
      have hT31 := hT31.le hle65
      skip
      refine sy_nil rfl (ny_zy hB6_7 (hle64.trans hle65) ?_)
      refine zy_q 8 rfl (by kernel_rfl) (fun hB6_8 => ?_)
      refine sy_move rfl rfl rfl ?_
      refine sy_nil1 (ny_zq hB6_8 ?_)
      refine zy_q 9 rfl (by kernel_rfl) (fun hB6_9 => ?_)
      refine sy_extract rfl rfl rfl rfl ?_
      refine sy_nil1 (ny_zq hB6_9 ?_)
      refine zy_q 10 rfl (by kernel_rfl) (fun hB6_10 => ?_)
      refine sy_extract rfl rfl rfl rfl ?_
      refine sy_nil1 (ny_zq hB6_10 ?_)
      refine zy_q 11 rfl (by kernel_rfl) (fun hB6_11 => ?_)
      refine sy_assign rfl rfl rfl ?_
      refine sy_nil1 (ny_zq hB6_11 ?_)
      refine zy_q 12 rfl (by kernel_rfl) (fun hB6_12 => ?_)
      refine sy_assign rfl rfl rfl ?_
      refine sy_nil1 (ny_zq hB6_12 ?_)
      refine zy_done (by kernel_rfl) ?_
      refine ny_next ?_
      refine cy_seq ?_
      refine cy_seq ?_
      refine cy_region ?_
      refine sy_assign rfl rfl rfl ?_
      refine sy_nil rfl ?_
      refine ny_next ?_
      refine cy_block ?_
      refine cy_loopK (ι := Nat) [3, 9, 10, 12, 14, 15] rfl (fun a => a ≤ k) (fun a => k - a) (fun a => [(16, .int .i64 (a : Int))]) (fun a => h65) (fun a => []) 0 [] (Nat.zero_le _) ⟨rfl, trivial⟩ rfl rfl ?_
      rintro a hA
      refine cy_seq ?_
      refine cy_seq ?_
      refine cy_region ?_
      refine sy_move rfl rfl rfl ?_
      refine sy_move rfl rfl rfl ?_
      refine sy_call rfl call_21 rfl (len_c _ _ _ _ hg) rfl rfl ?_
      refine sy_cmp rfl rfl rfl rfl rfl ?_
      refine sy_nil rfl ?_
      refine ny_next ?_
      refine cy_cond rfl (fun hc71 => ?_) (fun hc71 => ?_)
      · have hlta : a < k := by have := of_decide_eq_true hc71; omega
        refine cy_skip ?_
        refine ny_next ?_
        refine cy_seq ?_
        refine cy_block ?_
        refine cy_seq ?_
        refine cy_region ?_
        refine sy_assign rfl rfl rfl ?_
        refine sy_nil rfl ?_
        refine ny_next ?_
        refine cy_block ?_
        refine cy_loopK (ι := Nat) [3, 9, 10, 12, 14, 15, 16] rfl (fun b => b ≤ k) (fun b => k - b) (fun b => [(17, .int .i64 (b : Int))]) (fun b => h65) (fun b => []) 0 [] (Nat.zero_le _) ⟨rfl, trivial⟩ rfl rfl ?_
        rintro b hB
        refine cy_seq ?_
        refine cy_seq ?_
        refine cy_region ?_
        refine sy_move rfl rfl rfl ?_
        refine sy_move rfl rfl rfl ?_
        refine sy_call rfl call_21 rfl (len_c _ _ _ _ hg) rfl rfl ?_
        refine sy_cmp rfl rfl rfl rfl rfl ?_
        refine sy_nil rfl ?_
        refine ny_next ?_
        refine cy_cond rfl (fun hc77 => ?_) (fun hc77 => ?_)
        · have hltb : b < k := by have := of_decide_eq_true hc77; omega
          refine cy_skip ?_
          refine ny_next ?_
          refine cy_seq ?_
          refine cy_block ?_
          refine cy_seq ?_
          refine cy_seq ?_
          refine cy_region ?_
          refine sy_move rfl rfl rfl ?_
          refine sy_move rfl rfl rfl ?_
          refine sy_move rfl rfl rfl ?_
          refine sy_move rfl rfl rfl ?_
          refine sy_call rfl call_22 rfl (gmay_c g k (ru k q) _ hg hk1 hk2 (ru_lt hk2 q) tb31 gs hT31 hl100 _ _ _) rfl rfl ?_
          refine sy_not rfl rfl rfl ?_
          refine sy_nil rfl ?_
          refine ny_next ?_
          refine cy_cond rfl (fun hc85 => ?_) (fun hc85 => ?_)
          · refine cy_exit ?_
            refine ny_thenE ?_
            refine ny_blockX ?_
            refine ny_next ?_
            refine cy_region ?_
            refine sy_move rfl rfl rfl ?_
            refine sy_addi (z := ((b + 1 : Nat) : Int)) rfl rfl (by omega) (by omega) (by omega) rfl rfl ?_
            refine sy_assign rfl rfl rfl ?_
            refine sy_nil rfl ?_
            refine ny_roundK [3, 9, 10, 12, 14, 15, 16] (b + 1) [] (show b + 1 ≤ k by omega) (show k - (b + 1) < k - b by omega) rfl ⟨rfl, trivial⟩ rfl rfl
          · have hmay : gs.any (mayB k (ru k q) o (a : Int) (b : Int)) = true := by simpa using hc85
            refine cy_skip ?_
            refine ny_next ?_
            refine cy_seq ?_
            refine cy_seq ?_
            refine cy_region ?_
            refine sy_move rfl rfl rfl ?_
            refine sy_eqn Tryd.underlying34 rfl rfl rfl rfl rfl ?_
            refine sy_setF (d := 87) rfl rfl rfl ?_
            refine sy_move rfl rfl rfl ?_
            refine sy_skip rfl rfl rfl ?_
            refine sy_skip rfl rfl rfl ?_
            refine sy_skip rfl rfl rfl ?_
            refine sy_skip rfl rfl rfl ?_
            refine sy_skip rfl rfl rfl ?_
            refine sy_skip rfl rfl rfl ?_
            refine sy_pickF rfl rfl rfl rfl ?_
            refine sy_move rfl rfl rfl ?_
            refine sy_move rfl rfl rfl ?_
            refine sy_move rfl rfl rfl ?_
            refine sy_move rfl rfl rfl ?_
            refine sy_call rfl call_25 rfl (botJ_c hg hk2 L2) rfl rfl ?_
            refine sy_move rfl rfl rfl ?_
            refine sy_call rfl call_22 rfl (gmay_c g k (ru k q) _ hg hk1 hk2 (ru_lt hk2 q) tb31 gs hT31 hl100 _ _ _) rfl rfl ?_
            refine sy_not rfl rfl rfl ?_
            refine sy_setF (d := 103) rfl rfl (by rw [may_wider (x := (a : Int)) (y := (b : Int)) hmay ((leq_ru L2.lon hlta).2 (L2.lol a hlta)) (leqS_refl hltb)]; rfl) ?_
            refine sy_pickF rfl rfl rfl rfl ?_
            refine sy_move rfl rfl rfl ?_
            refine sy_move rfl rfl rfl ?_
            refine sy_move rfl rfl rfl ?_
            refine sy_move rfl rfl rfl ?_
            refine sy_move rfl rfl rfl ?_
            refine sy_call rfl call_26 rfl (topJ_c hg hk2 L2) rfl rfl ?_
            refine sy_call rfl call_22 rfl (gmay_c g k (ru k q) _ hg hk1 hk2 (ru_lt hk2 q) tb31 gs hT31 hl100 _ _ _) rfl rfl ?_
            refine sy_not rfl rfl rfl ?_
            refine sy_setF (d := 112) rfl rfl (by rw [may_wider (x := (a : Int)) (y := (b : Int)) hmay (leqS_refl hlta) ((leq_ru hltb L2.hin).2 (L2.hir b hltb))]; rfl) ?_
            refine sy_pickF rfl rfl rfl rfl ?_
            refine sy_nil rfl ?_
            refine ny_next ?_
            refine cy_condF rfl ?_
            refine cy_skip ?_
            refine ny_next ?_
            refine cy_seq ?_
            refine cy_region ?_
            refine sy_assign rfl rfl rfl ?_
            refine sy_nil rfl ?_
            refine ny_next ?_
            refine cy_block ?_
            refine cy_loopK (ι := Nat) [3, 9, 10, 12, 14, 15, 16, 17, 97, 98, 99, 100, 101, 102, 103, 106, 107, 108, 109, 110, 111, 112] rfl (fun cc => cc ≤ k) (fun cc => k - cc) (fun cc => [(18, .int .i64 (cc : Int))]) (fun cc => h65) (fun cc => []) 0 [] (Nat.zero_le _) ⟨rfl, trivial⟩ rfl rfl ?_
            rintro cc hC
            refine cy_seq ?_
            refine cy_seq ?_
            refine cy_region ?_
            refine sy_move rfl rfl rfl ?_
            refine sy_move rfl rfl rfl ?_
            refine sy_call rfl call_21 rfl (len_c _ _ _ _ hg) rfl rfl ?_
            refine sy_cmp rfl rfl rfl rfl rfl ?_
            refine sy_nil rfl ?_
            refine ny_next ?_
            refine cy_cond rfl (fun hc117 => ?_) (fun hc117 => ?_)
            · have hltcc : cc < k := by have := of_decide_eq_true hc117; omega
              refine cy_skip ?_
              refine ny_next ?_
              refine cy_seq ?_
              refine cy_block ?_
              refine cy_seq ?_
              refine cy_region ?_
              refine sy_move rfl rfl rfl ?_
              refine sy_move rfl rfl rfl ?_
              refine sy_move rfl rfl rfl ?_
              refine sy_call rfl call_23 rfl (leq_c _ _ _ _ hg hk1 hk2 (ru_lt hk2 q) _ _) rfl rfl ?_
              refine sy_move rfl rfl rfl ?_
              refine sy_cond (d := 124) _ rfl rfl (fun hg124 => ?_) (fun hg124 => ?_)
              · refine sy_move rfl rfl rfl ?_
                refine sy_move rfl rfl rfl ?_
                refine sy_move rfl rfl rfl ?_
                refine sy_move rfl rfl rfl ?_
                refine sy_call rfl call_22 rfl (gmay_c g k (ru k q) _ hg hk1 hk2 (ru_lt hk2 q) tb31 gs hT31 hl100 _ _ _) rfl rfl ?_
                refine sy_not rfl rfl rfl ?_
                refine sy_setF (d := 130) rfl rfl (by rw [may_wider (x := (a : Int)) (y := (b : Int)) hmay hg124 (leqS_refl hltb)]; rfl) ?_
                refine sy_pickT rfl rfl rfl rfl ?_
                refine sy_move rfl rfl rfl ?_
                refine sy_move rfl rfl rfl ?_
                refine sy_move rfl rfl rfl ?_
                refine sy_move rfl rfl rfl ?_
                refine sy_call rfl call_23 rfl (leq_c _ _ _ _ hg hk1 hk2 (ru_lt hk2 q) _ _) rfl rfl ?_
                refine sy_move rfl rfl rfl ?_
                refine sy_cond (d := 137) _ rfl rfl (fun hg137 => ?_) (fun hg137 => ?_)
                · refine sy_move rfl rfl rfl ?_
                  refine sy_move rfl rfl rfl ?_
                  refine sy_move rfl rfl rfl ?_
                  refine sy_move rfl rfl rfl ?_
                  refine sy_call rfl call_22 rfl (gmay_c g k (ru k q) _ hg hk1 hk2 (ru_lt hk2 q) tb31 gs hT31 hl100 _ _ _) rfl rfl ?_
                  refine sy_not rfl rfl rfl ?_
                  refine sy_setF (d := 143) rfl rfl (by rw [may_wider (x := (a : Int)) (y := (b : Int)) hmay (leqS_refl hlta) hg137]; rfl) ?_
                  refine sy_pickT rfl rfl rfl rfl ?_
                  refine sy_pickF rfl rfl rfl rfl ?_
                  refine sy_nil rfl ?_
                  refine ny_next ?_
                  refine cy_condF rfl ?_
                  refine cy_skip ?_
                  refine ny_blockN ?_
                  refine ny_next ?_
                  refine cy_region ?_
                  refine sy_move rfl rfl rfl ?_
                  refine sy_addi (z := ((cc + 1 : Nat) : Int)) rfl rfl (by omega) (by omega) (by omega) rfl rfl ?_
                  refine sy_assign rfl rfl rfl ?_
                  refine sy_nil rfl ?_
                  refine ny_roundK [3, 9, 10, 12, 14, 15, 16, 17, 97, 98, 99, 100, 101, 102, 103, 106, 107, 108, 109, 110, 111, 112] (cc + 1) [] (show cc + 1 ≤ k by omega) (show k - (cc + 1) < k - cc by omega) rfl ⟨rfl, trivial⟩ rfl rfl
                · refine sy_skip rfl rfl rfl ?_
                  refine sy_skip rfl rfl rfl ?_
                  refine sy_skip rfl rfl rfl ?_
                  refine sy_skip rfl rfl rfl ?_
                  refine sy_skip rfl rfl rfl ?_
                  refine sy_skip rfl rfl rfl ?_
                  refine sy_pickF rfl rfl rfl rfl ?_
                  refine sy_pickF rfl rfl rfl rfl ?_
                  refine sy_nil rfl ?_
                  refine ny_next ?_
                  refine cy_condF rfl ?_
                  refine cy_skip ?_
                  refine ny_blockN ?_
                  refine ny_next ?_
                  refine cy_region ?_
                  refine sy_move rfl rfl rfl ?_
                  refine sy_addi (z := ((cc + 1 : Nat) : Int)) rfl rfl (by omega) (by omega) (by omega) rfl rfl ?_
                  refine sy_assign rfl rfl rfl ?_
                  refine sy_nil rfl ?_
                  refine ny_roundK [3, 9, 10, 12, 14, 15, 16, 17, 97, 98, 99, 100, 101, 102, 103, 106, 107, 108, 109, 110, 111, 112] (cc + 1) [] (show cc + 1 ≤ k by omega) (show k - (cc + 1) < k - cc by omega) rfl ⟨rfl, trivial⟩ rfl rfl
              · refine sy_skip rfl rfl rfl ?_
                refine sy_skip rfl rfl rfl ?_
                refine sy_skip rfl rfl rfl ?_
                refine sy_skip rfl rfl rfl ?_
                refine sy_skip rfl rfl rfl ?_
                refine sy_skip rfl rfl rfl ?_
                refine sy_pickF rfl rfl rfl rfl ?_
                refine sy_move rfl rfl rfl ?_
                refine sy_move rfl rfl rfl ?_
                refine sy_move rfl rfl rfl ?_
                refine sy_move rfl rfl rfl ?_
                refine sy_call rfl call_23 rfl (leq_c _ _ _ _ hg hk1 hk2 (ru_lt hk2 q) _ _) rfl rfl ?_
                refine sy_move rfl rfl rfl ?_
                refine sy_cond (d := 137) _ rfl rfl (fun hg137 => ?_) (fun hg137 => ?_)
                · refine sy_move rfl rfl rfl ?_
                  refine sy_move rfl rfl rfl ?_
                  refine sy_move rfl rfl rfl ?_
                  refine sy_move rfl rfl rfl ?_
                  refine sy_call rfl call_22 rfl (gmay_c g k (ru k q) _ hg hk1 hk2 (ru_lt hk2 q) tb31 gs hT31 hl100 _ _ _) rfl rfl ?_
                  refine sy_not rfl rfl rfl ?_
                  refine sy_setF (d := 143) rfl rfl (by rw [may_wider (x := (a : Int)) (y := (b : Int)) hmay (leqS_refl hlta) hg137]; rfl) ?_
                  refine sy_pickT rfl rfl rfl rfl ?_
                  refine sy_pickF rfl rfl rfl rfl ?_
                  refine sy_nil rfl ?_
                  refine ny_next ?_
                  refine cy_condF rfl ?_
                  refine cy_skip ?_
                  refine ny_blockN ?_
                  refine ny_next ?_
                  refine cy_region ?_
                  refine sy_move rfl rfl rfl ?_
                  refine sy_addi (z := ((cc + 1 : Nat) : Int)) rfl rfl (by omega) (by omega) (by omega) rfl rfl ?_
                  refine sy_assign rfl rfl rfl ?_
                  refine sy_nil rfl ?_
                  refine ny_roundK [3, 9, 10, 12, 14, 15, 16, 17, 97, 98, 99, 100, 101, 102, 103, 106, 107, 108, 109, 110, 111, 112] (cc + 1) [] (show cc + 1 ≤ k by omega) (show k - (cc + 1) < k - cc by omega) rfl ⟨rfl, trivial⟩ rfl rfl
                · refine sy_skip rfl rfl rfl ?_
                  refine sy_skip rfl rfl rfl ?_
                  refine sy_skip rfl rfl rfl ?_
                  refine sy_skip rfl rfl rfl ?_
                  refine sy_skip rfl rfl rfl ?_
                  refine sy_skip rfl rfl rfl ?_
                  refine sy_pickF rfl rfl rfl rfl ?_
                  refine sy_pickF rfl rfl rfl rfl ?_
                  refine sy_nil rfl ?_
                  refine ny_next ?_
                  refine cy_condF rfl ?_
                  refine cy_skip ?_
                  refine ny_blockN ?_
                  refine ny_next ?_
                  refine cy_region ?_
                  refine sy_move rfl rfl rfl ?_
                  refine sy_addi (z := ((cc + 1 : Nat) : Int)) rfl rfl (by omega) (by omega) (by omega) rfl rfl ?_
                  refine sy_assign rfl rfl rfl ?_
                  refine sy_nil rfl ?_
                  refine ny_roundK [3, 9, 10, 12, 14, 15, 16, 17, 97, 98, 99, 100, 101, 102, 103, 106, 107, 108, 109, 110, 111, 112] (cc + 1) [] (show cc + 1 ≤ k by omega) (show k - (cc + 1) < k - cc by omega) rfl ⟨rfl, trivial⟩ rfl rfl
            · refine cy_exit ?_
              refine ny_thenE ?_
              refine ny_thenE ?_
              refine ny_blockX ?_
              refine ny_blockN ?_
              refine ny_next ?_
              refine cy_region ?_
              refine sy_move rfl rfl rfl ?_
              refine sy_addi (z := ((b + 1 : Nat) : Int)) rfl rfl (by omega) (by omega) (by omega) rfl rfl ?_
              refine sy_assign rfl rfl rfl ?_
              refine sy_nil rfl ?_
              refine ny_roundK [3, 9, 10, 12, 14, 15, 16] (b + 1) [] (show b + 1 ≤ k by omega) (show k - (b + 1) < k - b by omega) rfl ⟨rfl, trivial⟩ rfl rfl
        · refine cy_exit ?_
          refine ny_thenE ?_
          refine ny_thenE ?_
          refine ny_blockX ?_
          refine ny_blockN ?_
          refine ny_next ?_
          refine cy_region ?_
          refine sy_move rfl rfl rfl ?_
          refine sy_addi (z := ((a + 1 : Nat) : Int)) rfl rfl (by omega) (by omega) (by omega) rfl rfl ?_
          refine sy_assign rfl rfl rfl ?_
          refine sy_nil rfl ?_
          refine ny_roundK [3, 9, 10, 12, 14, 15] (a + 1) [] (show a + 1 ≤ k by omega) (show k - (a + 1) < k - a by omega) rfl ⟨rfl, trivial⟩ rfl rfl
      · refine cy_exit ?_
        refine ny_thenE ?_
        refine ny_thenE ?_
        refine ny_blockX ?_
        refine ny_next ?_
        refine cy_seq ?_
        refine cy_region ?_
        refine sy_move rfl rfl rfl ?_
        refine sy_assign rfl rfl rfl ?_
        refine sy_nil rfl ?_
        refine ny_next ?_
        refine cy_ret ?_
        exact ny_finR (res1 rfl rfl) (fun w hs => ⟨rfl, hs.frm⟩)
  · refine zop_run rfl rfl (fun hB6_5 => ?_)
    refine sy_buildSlice rfl (fun w => bsl_25_1_0 w) rfl rfl (fun b63 hb63 hM63 => ?_) (by simp)
    refine sy_nil rfl (ny_zy hB6_5 (Hp.Le.refl _) ?_)
    refine zy_1 1 (by kernel_rfl) ?_
    refine zop_run rfl rfl (fun hB6_1 => ?_)
    refine sy_buildSlice (cs := []) rfl (fun w => bsl_25_0_ w) rfl rfl (fun b59 hb59 hM59 => ?_) (by simp)
    refine sy_nil rfl (ny_zy hB6_1 (Hp.Le.refl _) ?_)
    refine zy_1 3 (by kernel_rfl) ?_
    refine zop_run rfl rfl (fun hB6_3 => ?_)
    first | refine sy_asRow (l := 0) (sz := 3) (cs := []) 0 rfl rfl (Nat.zero_le _) ?_ | refine sy_asRow (l := 0) (sz := 3) (cs := []) 1 rfl rfl (Nat.zero_le _) ?_
    refine sy_appendh (news := (gs.map grC).flatten) 0 row_25 (by decide) rfl rfl rfl (fun hA => by have := hG.none hA; simp only [List.length_map] at this; omega) (by rw [flat_len (grC_len gs)]; simp [hlG]) (hG.cells (by decide) (grC_len gs)) (grC_ones gs) (by omega) (by simp only [maxLen]; omega) rfl rfl (fun v61 => ?_)
    refine sy_nil rfl (ny_zy hB6_3 (Hp.Le.refl _) ?_)
    refine zy_1 6 (by kernel_rfl) ?_
    refine zop_run rfl rfl (fun hB6_6 => ?_)
    first | refine sy_append 0 1 row_25 (by decide) rfl rfl rfl rfl rfl rfl (by omega) (by simp only [maxLen]; omega) rfl rfl (fun v64 => ?_) | refine sy_append 1 0 row_25 (by decide) rfl rfl rfl rfl rfl rfl (by omega) (by simp only [maxLen]; omega) rfl rfl (fun v64 => ?_)
    refine sy_nil rfl (ny_zy hB6_6 (Hp.Le.refl _) ?_)
    refine zy_1 7 (by kernel_rfl) ?_
    refine zop_run rfl rfl (fun hB6_7 => ?_)
    refine sy_frzRow 0 rfl (fun _ _ => by simp) (fun A64 c64 h64 hv64 hlc64 hcm64 _ hle64 hcell64 => ?_)
    subst hv64
    have hr64 : RowsAt h64 A64 3 ((gs ++ [m]).map grC) := by
      rw [List.nil_append] at hcell64
      have h9 := grs_snoc gs m
      exact rows_row (by decide) (grC_len _) (by rw [h9]; exact hcell64)
    replace ht := ht.le hle64
    replace hg := hle64 _ _ hg
    replace hG := hG.le hle64
    replace hT31 := hT31.le hle64
    refine sy_callx call_20 rfl (gnewBad_c g k (ru k q) _ hg hk1 hk2 (ru_lt hk2 q) A64 _ c64 (gs ++ [m]) hr64 (by rw [List.length_append, hlG, Nat.zero_add]; rfl) hlc64 (by omega) ht (fun g hg => (List.mem_append.1 hg).elim (hokG g) (fun h9 => by simp only [List.mem_cons, List.not_mem_nil, or_false] at h9; subst h9; exact hms)) h1) rfl rfl (fun x65 h65 hx65 hle65 => ?_)
    have hG := hG.le hle65
    have ht := ht.le hle65
    have hg := hle65 _ _ hg
    have hT31 := hT31.le hle65
    skip
    refine sy_nil rfl (ny_zy hB6_7 (hle64.trans hle65) ?_)
    refine zy_q 8 rfl (by kernel_rfl) (fun hB6_8 => ?_)
    refine sy_move rfl rfl rfl ?_
    refine sy_nil1 (ny_zq hB6_8 ?_)
    refine zy_q 9 rfl (by kernel_rfl) (fun hB6_9 => ?_)
    refine sy_extract rfl rfl rfl rfl ?_
    refine sy_nil1 (ny_zq hB6_9 ?_)
    refine zy_q 10 rfl (by kernel_rfl) (fun hB6_10 => ?_)
    refine sy_extract rfl rfl rfl rfl ?_
    refine sy_nil1 (ny_zq hB6_10 ?_)
    refine zy_q 11 rfl (by kernel_rfl) (fun hB6_11 => ?_)
    refine sy_assign rfl rfl rfl ?_
    refine sy_nil1 (ny_zq hB6_11 ?_)
    refine zy_q 12 rfl (by kernel_rfl) (fun hB6_12 => ?_)
    refine sy_assign rfl rfl rfl ?_
    refine sy_nil1 (ny_zq hB6_12 ?_)
    refine zy_done (by kernel_rfl) ?_
    refine ny_next ?_
    refine cy_seq ?_
    refine cy_seq ?_
    refine cy_region ?_
    refine sy_assign rfl rfl rfl ?_
    refine sy_nil rfl ?_
    refine ny_next ?_
    refine cy_block ?_
    refine cy_loopK (ι := Nat) [3, 9, 10, 12, 14, 15] rfl (fun a => a ≤ k) (fun a => k - a) (fun a => [(16, .int .i64 (a : Int))]) (fun a => h65) (fun a => []) 0 [] (Nat.zero_le _) ⟨rfl, trivial⟩ rfl rfl ?_
    rintro a hA
    refine cy_seq ?_
    refine cy_seq ?_
    refine cy_region ?_
    refine sy_move rfl rfl rfl ?_
    refine sy_move rfl rfl rfl ?_
    refine sy_call rfl call_21 rfl (len_c _ _ _ _ hg) rfl rfl ?_
    refine sy_cmp rfl rfl rfl rfl rfl ?_
    refine sy_nil rfl ?_
    refine ny_next ?_
    refine cy_cond rfl (fun hc71 => ?_) (fun hc71 => ?_)
    · have hlta : a < k := by have := of_decide_eq_true hc71; omega
      refine cy_skip ?_
      refine ny_next ?_
      refine cy_seq ?_
      refine cy_block ?_
      refine cy_seq ?_
      refine cy_region ?_
      refine sy_assign rfl rfl rfl ?_
      refine sy_nil rfl ?_
      refine ny_next ?_
      refine cy_block ?_
      refine cy_loopK (ι := Nat) [3, 9, 10, 12, 14, 15, 16] rfl (fun b => b ≤ k) (fun b => k - b) (fun b => [(17, .int .i64 (b : Int))]) (fun b => h65) (fun b => []) 0 [] (Nat.zero_le _) ⟨rfl, trivial⟩ rfl rfl ?_
      rintro b hB
      refine cy_seq ?_
      refine cy_seq ?_
      refine cy_region ?_
      refine sy_move rfl rfl rfl ?_
      refine sy_move rfl rfl rfl ?_
      refine sy_call rfl call_21 rfl (len_c _ _ _ _ hg) rfl rfl ?_
      refine sy_cmp rfl rfl rfl rfl rfl ?_
      refine sy_nil rfl ?_
      refine ny_next ?_
      refine cy_cond rfl (fun hc77 => ?_) (fun hc77 => ?_)
      · have hltb : b < k := by have := of_decide_eq_true hc77; omega
        refine cy_skip ?_
        refine ny_next ?_
        refine cy_seq ?_
        refine cy_block ?_
        refine cy_seq ?_
        refine cy_seq ?_
        refine cy_region ?_
        refine sy_move rfl rfl rfl ?_
        refine sy_move rfl rfl rfl ?_
        refine sy_move rfl rfl rfl ?_
        refine sy_move rfl rfl rfl ?_
        refine sy_call rfl call_22 rfl (gmay_c g k (ru k q) _ hg hk1 hk2 (ru_lt hk2 q) tb31 gs hT31 hl100 _ _ _) rfl rfl ?_
        refine sy_not rfl rfl rfl ?_
        refine sy_nil rfl ?_
        refine ny_next ?_
        refine cy_cond rfl (fun hc85 => ?_) (fun hc85 => ?_)
        · refine cy_exit ?_
          refine ny_thenE ?_
          refine ny_blockX ?_
          refine ny_next ?_
          refine cy_region ?_
          refine sy_move rfl rfl rfl ?_
          refine sy_addi (z := ((b + 1 : Nat) : Int)) rfl rfl (by omega) (by omega) (by omega) rfl rfl ?_
          refine sy_assign rfl rfl rfl ?_
          refine sy_nil rfl ?_
          refine ny_roundK [3, 9, 10, 12, 14, 15, 16] (b + 1) [] (show b + 1 ≤ k by omega) (show k - (b + 1) < k - b by omega) rfl ⟨rfl, trivial⟩ rfl rfl
        · have hmay : gs.any (mayB k (ru k q) o (a : Int) (b : Int)) = true := by simpa using hc85
          refine cy_skip ?_
          refine ny_next ?_
          refine cy_seq ?_
          refine cy_seq ?_
          refine cy_region ?_
          refine sy_move rfl rfl rfl ?_
          refine sy_eqn Tryd.underlying34 rfl rfl rfl rfl rfl ?_
          refine sy_setF (d := 87) rfl rfl rfl ?_
          refine sy_move rfl rfl rfl ?_
          refine sy_skip rfl rfl rfl ?_
          refine sy_skip rfl rfl rfl ?_
          refine sy_skip rfl rfl rfl ?_
          refine sy_skip rfl rfl rfl ?_
          refine sy_skip rfl rfl rfl ?_
          refine sy_skip rfl rfl rfl ?_
          refine sy_pickF rfl rfl rfl rfl ?_
          refine sy_move rfl rfl rfl ?_
          refine sy_move rfl rfl rfl ?_
          refine sy_move rfl rfl rfl ?_
          refine sy_move rfl rfl rfl ?_
          refine sy_call rfl call_25 rfl (botJ_c hg hk2 L2) rfl rfl ?_
          refine sy_move rfl rfl rfl ?_
          refine sy_call rfl call_22 rfl (gmay_c g k (ru k q) _ hg hk1 hk2 (ru_lt hk2 q) tb31 gs hT31 hl100 _ _ _) rfl rfl ?_
          refine sy_not rfl rfl rfl ?_
          refine sy_setF (d := 103) rfl rfl (by rw [may_wider (x := (a : Int)) (y := (b : Int)) hmay ((leq_ru L2.lon hlta).2 (L2.lol a hlta)) (leqS_refl hltb)]; rfl) ?_
          refine sy_pickF rfl rfl rfl rfl ?_
          refine sy_move rfl rfl rfl ?_
          refine sy_move rfl rfl rfl ?_
          refine sy_move rfl rfl rfl ?_
          refine sy_move rfl rfl rfl ?_
          refine sy_move rfl rfl rfl ?_
          refine sy_call rfl call_26 rfl (topJ_c hg hk2 L2) rfl rfl ?_
          refine sy_call rfl call_22 rfl (gmay_c g k (ru k q) _ hg hk1 hk2 (ru_lt hk2 q) tb31 gs hT31 hl100 _ _ _) rfl rfl ?_
          refine sy_not rfl rfl rfl ?_
          refine sy_setF (d := 112) rfl rfl (by rw [may_wider (x := (a : Int)) (y := (b : Int)) hmay (leqS_refl hlta) ((leq_ru hltb L2.hin).2 (L2.hir b hltb))]; rfl) ?_
          refine sy_pickF rfl rfl rfl rfl ?_
          refine sy_nil rfl ?_
          refine ny_next ?_
          refine cy_condF rfl ?_
          refine cy_skip ?_
          refine ny_next ?_
          refine cy_seq ?_
          refine cy_region ?_
          refine sy_assign rfl rfl rfl ?_
          refine sy_nil rfl ?_
          refine ny_next ?_
          refine cy_block ?_
          refine cy_loopK (ι := Nat) [3, 9, 10, 12, 14, 15, 16, 17, 97, 98, 99, 100, 101, 102, 103, 106, 107, 108, 109, 110, 111, 112] rfl (fun cc => cc ≤ k) (fun cc => k - cc) (fun cc => [(18, .int .i64 (cc : Int))]) (fun cc => h65) (fun cc => []) 0 [] (Nat.zero_le _) ⟨rfl, trivial⟩ rfl rfl ?_
          rintro cc hC
          refine cy_seq ?_
          refine cy_seq ?_
          refine cy_region ?_
          refine sy_move rfl rfl rfl ?_
          refine sy_move rfl rfl rfl ?_
          refine sy_call rfl call_21 rfl (len_c _ _ _ _ hg) rfl rfl ?_
          refine sy_cmp rfl rfl rfl rfl rfl ?_
          refine sy_nil rfl ?_
          refine ny_next ?_
          refine cy_cond rfl (fun hc117 => ?_) (fun hc117 => ?_)
          · have hltcc : cc < k := by have := of_decide_eq_true hc117; omega
            refine cy_skip ?_
            refine ny_next ?_
            refine cy_seq ?_
            refine cy_block ?_
            refine cy_seq ?_
            refine cy_region ?_
            refine sy_move rfl rfl rfl ?_
            refine sy_move rfl rfl rfl ?_
            refine sy_move rfl rfl rfl ?_
            refine sy_call rfl call_23 rfl (leq_c _ _ _ _ hg hk1 hk2 (ru_lt hk2 q) _ _) rfl rfl ?_
            refine sy_move rfl rfl rfl ?_
            refine sy_cond (d := 124) _ rfl rfl (fun hg124 => ?_) (fun hg124 => ?_)
            · refine sy_move rfl rfl rfl ?_
              refine sy_move rfl rfl rfl ?_
              refine sy_move rfl rfl rfl ?_
              refine sy_move rfl rfl rfl ?_
              refine sy_call rfl call_22 rfl (gmay_c g k (ru k q) _ hg hk1 hk2 (ru_lt hk2 q) tb31 gs hT31 hl100 _ _ _) rfl rfl ?_
              refine sy_not rfl rfl rfl ?_
              refine sy_setF (d := 130) rfl rfl (by rw [may_wider (x := (a : Int)) (y := (b : Int)) hmay hg124 (leqS_refl hltb)]; rfl) ?_
              refine sy_pickT rfl rfl rfl rfl ?_
              refine sy_move rfl rfl rfl ?_
              refine sy_move rfl rfl rfl ?_
              refine sy_move rfl rfl rfl ?_
              refine sy_move rfl rfl rfl ?_
              refine sy_call rfl call_23 rfl (leq_c _ _ _ _ hg hk1 hk2 (ru_lt hk2 q) _ _) rfl rfl ?_
              refine sy_move rfl rfl rfl ?_
              refine sy_cond (d := 137) _ rfl rfl (fun hg137 => ?_) (fun hg137 => ?_)
              · refine sy_move rfl rfl rfl ?_
                refine sy_move rfl rfl rfl ?_
                refine sy_move rfl rfl rfl ?_
                refine sy_move rfl rfl rfl ?_
                refine sy_call rfl call_22 rfl (gmay_c g k (ru k q) _ hg hk1 hk2 (ru_lt hk2 q) tb31 gs hT31 hl100 _ _ _) rfl rfl ?_
                refine sy_not rfl rfl rfl ?_
                refine sy_setF (d := 143) rfl rfl (by rw [may_wider (x := (a : Int)) (y := (b : Int)) hmay (leqS_refl hlta) hg137]; rfl) ?_
                refine sy_pickT rfl rfl rfl rfl ?_
                refine sy_pickF rfl rfl rfl rfl ?_
                refine sy_nil rfl ?_
                refine ny_next ?_
                refine cy_condF rfl ?_
                refine cy_skip ?_
                refine ny_blockN ?_
                refine ny_next ?_
                refine cy_region ?_
                refine sy_move rfl rfl rfl ?_
                refine sy_addi (z := ((cc + 1 : Nat) : Int)) rfl rfl (by omega) (by omega) (by omega) rfl rfl ?_
                refine sy_assign rfl rfl rfl ?_
                refine sy_nil rfl ?_
                refine ny_roundK [3, 9, 10, 12, 14, 15, 16, 17, 97, 98, 99, 100, 101, 102, 103, 106, 107, 108, 109, 110, 111, 112] (cc + 1) [] (show cc + 1 ≤ k by omega) (show k - (cc + 1) < k - cc by omega) rfl ⟨rfl, trivial⟩ rfl rfl
              · refine sy_skip rfl rfl rfl ?_
                refine sy_skip rfl rfl rfl ?_
                refine sy_skip rfl rfl rfl ?_
                refine sy_skip rfl rfl rfl ?_
                refine sy_skip rfl rfl rfl ?_
                refine sy_skip rfl rfl rfl ?_
                refine sy_pickF rfl rfl rfl rfl ?_
                refine sy_pickF rfl rfl rfl rfl ?_
                refine sy_nil rfl ?_
                refine ny_next ?_
                refine cy_condF rfl ?_
                refine cy_skip ?_
                refine ny_blockN ?_
                refine ny_next ?_
                refine cy_region ?_
                refine sy_move rfl rfl rfl ?_
                refine sy_addi (z := ((cc + 1 : Nat) : Int)) rfl rfl (by omega) (by omega) (by omega) rfl rfl ?_
                refine sy_assign rfl rfl rfl ?_
                refine sy_nil rfl ?_
                refine ny_roundK [3, 9, 10, 12, 14, 15, 16, 17, 97, 98, 99, 100, 101, 102, 103, 106, 107, 108, 109, 110, 111, 112] (cc + 1) [] (show cc + 1 ≤ k by omega) (show k - (cc + 1) < k - cc by omega) rfl ⟨rfl, trivial⟩ rfl rfl
            · refine sy_skip rfl rfl rfl ?_
              refine sy_skip rfl rfl rfl ?_
              refine sy_skip rfl rfl rfl ?_
              refine sy_skip rfl rfl rfl ?_
              refine sy_skip rfl rfl rfl ?_
              refine sy_skip rfl rfl rfl ?_
              refine sy_pickF rfl rfl rfl rfl ?_
              refine sy_move rfl rfl rfl ?_
              refine sy_move rfl rfl rfl ?_
              refine sy_move rfl rfl rfl ?_
              refine sy_move rfl rfl rfl ?_
              refine sy_call rfl call_23 rfl (leq_c _ _ _ _ hg hk1 hk2 (ru_lt hk2 q) _ _) rfl rfl ?_
              refine sy_move rfl rfl rfl ?_
              refine sy_cond (d := 137) _ rfl rfl (fun hg137 => ?_) (fun hg137 => ?_)
              · refine sy_move rfl rfl rfl ?_
                refine sy_move rfl rfl rfl ?_
                refine sy_move rfl rfl rfl ?_
                refine sy_move rfl rfl rfl ?_
                refine sy_call rfl call_22 rfl (gmay_c g k (ru k q) _ hg hk1 hk2 (ru_lt hk2 q) tb31 gs hT31 hl100 _ _ _) rfl rfl ?_
                refine sy_not rfl rfl rfl ?_
                refine sy_setF (d := 143) rfl rfl (by rw [may_wider (x := (a : Int)) (y := (b : Int)) hmay (leqS_refl hlta) hg137]; rfl) ?_
                refine sy_pickT rfl rfl rfl rfl ?_
                refine sy_pickF rfl rfl rfl rfl ?_
                refine sy_nil rfl ?_
                refine ny_next ?_
                refine cy_condF rfl ?_
                refine cy_skip ?_
                refine ny_blockN ?_
                refine ny_next ?_
                refine cy_region ?_
                refine sy_move rfl rfl rfl ?_
                refine sy_addi (z := ((cc + 1 : Nat) : Int)) rfl rfl (by omega) (by omega) (by omega) rfl rfl ?_
                refine sy_assign rfl rfl rfl ?_
                refine sy_nil rfl ?_
                refine ny_roundK [3, 9, 10, 12, 14, 15, 16, 17, 97, 98, 99, 100, 101, 102, 103, 106, 107, 108, 109, 110, 111, 112] (cc + 1) [] (show cc + 1 ≤ k by omega) (show k - (cc + 1) < k - cc by omega) rfl ⟨rfl, trivial⟩ rfl rfl
              · refine sy_skip rfl rfl rfl ?_
                refine sy_skip rfl rfl rfl ?_
                refine sy_skip rfl rfl rfl ?_
                refine sy_skip rfl rfl rfl ?_
                refine sy_skip rfl rfl rfl ?_
                refine sy_skip rfl rfl rfl ?_
                refine sy_pickF rfl rfl rfl rfl ?_
                refine sy_pickF rfl rfl rfl rfl ?_
                refine sy_nil rfl ?_
                refine ny_next ?_
                refine cy_condF rfl ?_
                refine cy_skip ?_
                refine ny_blockN ?_
                refine ny_next ?_
                refine cy_region ?_
                refine sy_move rfl rfl rfl ?_
                refine sy_addi (z := ((cc + 1 : Nat) : Int)) rfl rfl (by omega) (by omega) (by omega) rfl rfl ?_
                refine sy_assign rfl rfl rfl ?_
                refine sy_nil rfl ?_
                refine ny_roundK [3, 9, 10, 12, 14, 15, 16, 17, 97, 98, 99, 100, 101, 102, 103, 106, 107, 108, 109, 110, 111, 112] (cc + 1) [] (show cc + 1 ≤ k by omega) (show k - (cc + 1) < k - cc by omega) rfl ⟨rfl, trivial⟩ rfl rfl
          · refine cy_exit ?_
            refine ny_thenE ?_
            refine ny_thenE ?_
            refine ny_blockX ?_
            refine ny_blockN ?_
            refine ny_next ?_
            refine cy_region ?_
            refine sy_move rfl rfl rfl ?_
            refine sy_addi (z := ((b + 1 : Nat) : Int)) rfl rfl (by omega) (by omega) (by omega) rfl rfl ?_
            refine sy_assign rfl rfl rfl ?_
            refine sy_nil rfl ?_
            refine ny_roundK [3, 9, 10, 12, 14, 15, 16] (b + 1) [] (show b + 1 ≤ k by omega) (show k - (b + 1) < k - b by omega) rfl ⟨rfl, trivial⟩ rfl rfl
      · refine cy_exit ?_
        refine ny_thenE ?_
        refine ny_thenE ?_
        refine ny_blockX ?_
        refine ny_blockN ?_
        refine ny_next ?_
        refine cy_region ?_
        refine sy_move rfl rfl rfl ?_
        refine sy_addi (z := ((a + 1 : Nat) : Int)) rfl rfl (by omega) (by omega) (by omega) rfl rfl ?_
        refine sy_assign rfl rfl rfl ?_
        refine sy_nil rfl ?_
        refine ny_roundK [3, 9, 10, 12, 14, 15] (a + 1) [] (show a + 1 ≤ k by omega) (show k - (a + 1) < k - a by omega) rfl ⟨rfl, trivial⟩ rfl rfl
    · refine cy_exit ?_
      refine ny_thenE ?_
      refine ny_thenE ?_
      refine ny_blockX ?_
      refine ny_next ?_
      refine cy_seq ?_
      refine cy_region ?_
      refine sy_move rfl rfl rfl ?_
      refine sy_assign rfl rfl rfl ?_
      refine sy_nil rfl ?_
      refine ny_next ?_
      refine cy_ret ?_
      exact ny_finR (res1 rfl rfl) (fun w hs => ⟨rfl, hs.frm⟩)
theorem owners_c (n : Int) (o : ByteArray) (A : Option Addr) (l c L : Nat) (q : List (Int × Int)) (h : Hp) (hlc : l ≤ c) (hL : L = min l 60) (hq : PairsAt h A q) (hql : q.length = L) (AG : Option Addr) (lG cG : Nat) (gs : List Gr) (hG : RowsAt h AG 3 (gs.map grC)) (hlG : gs.length = lG) (hcG : lG ≤ cG) (hBG : lG * 32 ≤ 140737488351232) (hokG : ∀ g, g ∈ gs → g.s.size ≤ 140737488355328) (ht : Tab10 h) : C0 Tryd.prog 3 [.agg #[.int .i64 n, .slice A l c], .slice AG lG cG, .string o] h (.bool true) := by
  by_cases hF : Fine n q
  · obtain ⟨k, rfl⟩ := Int.eq_ofNat_of_zero_le (show 0 ≤ n by have := hF.1; omega)
    obtain ⟨j, m2, lo, hi, L2⟩ := IsLatt.two (n := k) hF.2.2.2 (by have := hF.1; omega)
    by_cases h0 : newI k (ru k q) gs = 0
    · exact owners_good k o A l c L q h hlc hL hq hql AG lG cG gs hG hlG hcG hBG hokG ht hF j m2 lo hi L2 h0
    · exact owners_badg k o A l c L q h hlc hL hq hql AG lG cG gs hG hlG hcG hBG hokG ht hF j m2 lo hi L2 h0
  · obtain ⟨e9, he, hb, hr⟩ := both_c n A L c q hql (by omega) hF
    exact owners_bad n o A l c L q h hlc hL hq hql AG lG cG ht e9 he hb
theorem crosses_c (n : Int) (lv : UInt8) (A : Option Addr) (l c L : Nat) (q : List (Int × Int)) (h : Hp) (hlc : l ≤ c) (hL : L = min l 60) (hq : PairsAt h A q) (hql : q.length = L) (AG : Option Addr) (lG cG : Nat) (gs : List Gr) (hG : RowsAt h AG 3 (gs.map grC)) (hlG : gs.length = lG) (hcG : lG ≤ cG) (hBG : lG * 32 ≤ 140737488351232) (hokG : ∀ g, g ∈ gs → g.s.size ≤ 140737488355328) (ht : Tab10 h) : C0 Tryd.prog 6 [.agg #[.int .i64 n, .slice A l c], .slice AG lG cG, .int .u8 (lv.toNat : Int)] h (.bool true) := by
  by_cases hF : Fine n q
  · obtain ⟨k, rfl⟩ := Int.eq_ofNat_of_zero_le (show 0 ≤ n by have := hF.1; omega)
    obtain ⟨j, m2, lo, hi, L2⟩ := IsLatt.two (n := k) hF.2.2.2 (by have := hF.1; omega)
    by_cases h0 : newI k (ru k q) gs = 0
    · exact crosses_good k lv A l c L q h hlc hL hq hql AG lG cG gs hG hlG hcG hBG hokG ht hF j m2 lo hi L2 _ rfl h0
    · exact crosses_badg k lv A l c L q h hlc hL hq hql AG lG cG gs hG hlG hcG hBG hokG ht hF j m2 lo hi L2 _ rfl h0
  · obtain ⟨e9, he, hb, hr⟩ := both_c n A L c q hql (by omega) hF
    exact crosses_bad n lv A l c L q h hlc hL hq hql AG lG cG ht e9 he hb
theorem ones_c (n : Int) (e : Gr) (hes : e.s.size ≤ 140737488355328) (ca cb : UInt8) (A : Option Addr) (l c L : Nat) (q : List (Int × Int)) (h : Hp) (hlc : l ≤ c) (hL : L = min l 60) (hq : PairsAt h A q) (hql : q.length = L) (ht : Tab10 h) : C0 Tryd.prog 4 [.agg #[.int .i64 n, .slice A l c], .agg (grC e).toArray, .int .u8 (ca.toNat : Int), .int .u8 (cb.toNat : Int)] h (.bool true) := by
  by_cases hF : Fine n q
  · obtain ⟨k, rfl⟩ := Int.eq_ofNat_of_zero_le (show 0 ≤ n by have := hF.1; omega)
    obtain ⟨j, m2, lo, hi, L2⟩ := IsLatt.two (n := k) hF.2.2.2 (by have := hF.1; omega)
    by_cases h0 : newI k (ru k q) [e] = 0
    · exact ones_good k e hes ca cb A l c L q h hlc hL hq hql ht hF j m2 lo hi L2 _ _ rfl rfl h0
    · exact ones_badg k e hes ca cb A l c L q h hlc hL hq hql ht hF j m2 lo hi L2 _ _ rfl rfl h0
  · obtain ⟨e9, he, hb, hr⟩ := both_c n A L c q hql (by omega) hF
    exact ones_bad n e hes ca cb A l c L q h hlc hL hq hql ht e9 he hb
theorem wider_c (n : Int) (m : Gr) (hms : m.s.size ≤ 140737488355328) (o : ByteArray)  (A : Option Addr) (l c L : Nat) (q : List (Int × Int)) (h : Hp) (hlc : l ≤ c) (hL : L = min l 60) (hq : PairsAt h A q) (hql : q.length = L) (AG : Option Addr) (lG cG : Nat) (gs : List Gr) (hG : RowsAt h AG 3 (gs.map grC)) (hlG : gs.length = lG) (hcG : lG ≤ cG) (hBG : lG * 32 ≤ 140737488351232) (hokG : ∀ g, g ∈ gs → g.s.size ≤ 140737488355328) (ht : Tab10 h) : C0 Tryd.prog 5 [.agg #[.int .i64 n, .slice A l c], .slice AG lG cG, .agg (grC m).toArray, .string o] h (.bool true) := by
  by_cases hF : Fine n q
  · obtain ⟨k, rfl⟩ := Int.eq_ofNat_of_zero_le (show 0 ≤ n by have := hF.1; omega)
    obtain ⟨j, m2, lo, hi, L2⟩ := IsLatt.two (n := k) hF.2.2.2 (by have := hF.1; omega)
    by_cases h0 : newI k (ru k q) gs = 0
    · by_cases h1 : newI k (ru k q) (gs ++ [m]) = 0
      · exact wider_good k m hms o A l c L q h hlc hL hq hql AG lG cG gs hG hlG hcG hBG hokG ht hF j m2 lo hi L2 h0 h1
      · exact wider_good2 k m hms o A l c L q h hlc hL hq hql AG lG cG gs hG hlG hcG hBG hokG ht hF j m2 lo hi L2 h0 h1
    · exact wider_badg k m hms o A l c L q h hlc hL hq hql AG lG cG gs hG hlG hcG hBG hokG ht hF j m2 lo hi L2 h0
  · obtain ⟨e9, he, hb, hr⟩ := both_c n A L c q hql (by omega) hF
    exact wider_bad n m hms o A l c L q h hlc hL hq hql AG lG cG ht e9 he hb
end Go.Proofs.YtamifocfbcmfkaaDoor

/- ChannelRises: the walk. Conditions: as each says. Printed by a program of this session. -/
import Derived.Test.YtamifocfbcmfkaaDoorFactsT
import Derived.Test.YtamifocfbcmfkaaDoorChanB
import Derived.Test.YtamifocfbcmfkaaDoorChanLaw
set_option linter.unusedVariables false
set_option linter.unusedSimpArgs false
namespace Go.Proofs.YtamifocfbcmfkaaDoor
open Go.RowKit Go.Proofs.YtamifocfbcmfkaaDoor.E Go.Proofs.YtamifocfbcmfkaaDoor.LattP Go.Proofs.YtamifocfbcmfkaaDoor.ChanP
set_option maxRecDepth 100000 in
theorem rises_bad (n : Int) (ca cb : UInt8) (AE : Option Addr) (lE cE : Nat) (A : Option Addr) (l c L : Nat) (q : List (Int × Int)) (h : Hp) (hlc : l ≤ c) (hL : L = min l 60) (hq : PairsAt h A q) (hql : q.length = L) (ht : Tab10 h) (e : Int) (hb : ∀ h, PairsAt h A q → C0 Tryd.prog 18 [.int .i64 n, .slice A L c] h (newV (none, e))) (hr : ∀ h, PairsAt h A q → C0 Tryd.prog 30 [.int .i64 n, .slice A L c] h (refV ((none, 0, 0), e))) : C0 Tryd.prog 10 [.agg #[.int .i64 n, .slice A l c], .slice AE lE cE, .int .u8 (ca.toNat : Int), .int .u8 (cb.toNat : Int)] h (.bool true) := by
  refine enter0 Tryd.func10 rfl rfl rfl (fun w => ?_)
  refine cy_seq ?_
  refine cy_region ?_
  refine sy_box rfl rfl rfl rfl (fun b4 hb4 hM4 => ?_) (by simp)
  refine sy_assign rfl rfl rfl ?_
  refine sy_nil rfl ?_
  refine ny_next ?_
  refine cy_seq ?_
  refine cy_region ?_
  refine sy_call rfl call_34 rfl (shown15_c _ ht) rfl rfl ?_
  refine sy_assign rfl rfl rfl ?_
  refine sy_nil rfl ?_
  refine ny_next ?_
  refine cy_seq ?_
  refine cy_region ?_
  first | refine sy_ldar 0 agg_24 rfl rfl rfl rfl rfl ?_ | refine sy_ldar 1 agg_24 rfl rfl rfl rfl rfl ?_ | refine sy_ldar 2 agg_24 rfl rfl rfl rfl rfl ?_
  refine sy_call rfl call_35 rfl (of_bad n A l c L q _ hlc hL hq hql e hb hr) rfl rfl ?_
  refine sy_move rfl rfl rfl ?_
  refine sy_extract rfl rfl rfl rfl ?_
  refine sy_extract rfl rfl rfl rfl ?_
  refine sy_alloc zer_52 rfl rfl (fun b11 hb11 hM11 => ?_) (by simp)
  refine sy_assign rfl rfl rfl ?_
  first | refine sy_stl 0 sz_52 rfl rfl rfl rfl rfl rfl rfl rfl ?_ | refine sy_stl 1 sz_52 rfl rfl rfl rfl rfl rfl rfl rfl ?_ | refine sy_stl 2 sz_52 rfl rfl rfl rfl rfl rfl rfl rfl ?_
  refine sy_nil rfl ?_
  refine ny_next ?_
  refine cy_seq ?_
  refine cy_seq ?_
  refine cy_region ?_
  refine sy_move rfl rfl rfl ?_
  refine sy_eqp Tryd.underlying27 rfl rfl rfl rfl rfl ?_
  refine sy_setT (d := 25) rfl rfl rfl ?_
  refine sy_nil rfl ?_
  refine ny_next ?_
  refine cy_condT rfl ?_
  refine cy_seq ?_
  refine cy_region ?_
  refine sy_move rfl rfl rfl ?_
  refine sy_assign rfl rfl rfl ?_
  refine sy_nil rfl ?_
  refine ny_next ?_
  refine cy_ret ?_
  refine ny_thenR ?_
  exact ny_finR (res1 rfl rfl) (fun w hs => ⟨rfl, hs.frm⟩)
set_option maxRecDepth 100000 in
theorem rises_good (k : Nat) (ca cb : UInt8) (x y : Nat) (A : Option Addr) (l c L : Nat) (q : List (Int × Int)) (h : Hp) (hlc : l ≤ c) (hL : L = min l 60) (hq : PairsAt h A q) (hql : q.length = L) (AE : Option Addr) (lE cE : Nat) (es : List Ev) (hE : RowsAt h AE 3 (es.map evC)) (hlE : es.length = lE) (hcE : lE ≤ cE) (hBE : lE * 32 ≤ 140737488355328) (ht : Tab10 h) (hF : Fine (k : Int) q) (j m2 : Nat → Nat → Nat) (lo hi : Nat) (L2 : Lat2 k q j m2 lo hi) (hx : x = ca.toNat % k) (hy : y = j x (cb.toNat % k)) : C0 Tryd.prog 10 [.agg #[.int .i64 (k : Int), .slice A l c], .slice AE lE cE, .int .u8 (ca.toNat : Int), .int .u8 (cb.toNat : Int)] h (.bool true) := by
  have hk1 : 1 ≤ k := by have := hF.1; omega
  have hk2 : k ≤ 16 := by have := hF.2.1; omega
  have hca := ca.toNat_lt
  have hcb := cb.toNat_lt
  have hxk : x < k := by rw [hx]; exact Nat.mod_lt _ hk1
  have hzk : cb.toNat % k < k := Nat.mod_lt _ hk1
  have hyk : y < k := by rw [hy]; exact L2.jn _ _ hxk hzk
  have hxy : leqI k (ru k q) (x : Int) (y : Int) = true := (leq_ru hxk hyk).2 (by rw [hy]; exact L2.jl _ _ hxk hzk)
  refine enter0 Tryd.func10 rfl rfl rfl (fun w => ?_)
  refine cy_seq ?_
  refine cy_region ?_
  refine sy_box rfl rfl rfl rfl (fun b4 hb4 hM4 => ?_) (by simp)
  refine sy_assign rfl rfl rfl ?_
  refine sy_nil rfl ?_
  refine ny_next ?_
  refine cy_seq ?_
  refine cy_region ?_
  refine sy_call rfl call_34 rfl (shown15_c _ ht) rfl rfl ?_
  refine sy_assign rfl rfl rfl ?_
  refine sy_nil rfl ?_
  refine ny_next ?_
  refine cy_seq ?_
  refine cy_region ?_
  first | refine sy_ldar 0 agg_24 rfl rfl rfl rfl rfl ?_ | refine sy_ldar 1 agg_24 rfl rfl rfl rfl rfl ?_
  refine sy_callx call_35 rfl (of_good k A l c L q _ hlc hL hq hql hF) rfl rfl (fun x21 h21 hx21 hle21 => ?_)
  have hE := hE.le hle21
  obtain ⟨g, A5, c5⟩ := x21
  obtain ⟨hg, hT⟩ := hx21
  simp only at hg hT ⊢
  refine sy_move rfl rfl rfl ?_
  refine sy_extract rfl rfl rfl rfl ?_
  refine sy_extract rfl rfl rfl rfl ?_
  refine sy_alloc zer_52 rfl rfl (fun b11 hb11 hM11 => ?_) (by simp)
  refine sy_assign rfl rfl rfl ?_
  first | refine sy_stl 0 sz_52 rfl rfl rfl rfl rfl rfl rfl rfl ?_ | refine sy_stl 1 sz_52 rfl rfl rfl rfl rfl rfl rfl rfl ?_
  refine sy_nil rfl ?_
  refine ny_next ?_
  refine cy_seq ?_
  refine cy_seq ?_
  refine cy_region ?_
  refine sy_move rfl rfl rfl ?_
  refine sy_eqp Tryd.underlying27 rfl rfl rfl rfl rfl ?_
  refine sy_setF (d := 25) rfl rfl rfl ?_
  refine sy_nil rfl ?_
  refine ny_next ?_
  refine cy_condF rfl ?_
  refine cy_skip ?_
  refine ny_next ?_
  refine cy_seq ?_
  refine cy_region ?_
  refine sy_move rfl rfl rfl ?_
  refine sy_convi Tryd.underlying5 Tryd.underlying3 rfl (by omega) (by omega) rfl rfl ?_
  refine sy_move rfl rfl rfl ?_
  refine sy_call rfl call_21 rfl (len_c _ _ _ _ hg) rfl rfl ?_
  refine sy_rem (z := ((x : Nat) : Int)) rfl rfl (by omega) (by omega) (by omega) (by omega) rfl rfl ?_
  refine sy_assign rfl rfl rfl ?_
  refine sy_nil rfl ?_
  refine ny_next ?_
  refine cy_seq ?_
  refine cy_region ?_
  refine sy_move rfl rfl rfl ?_
  refine sy_move rfl rfl rfl ?_
  refine sy_move rfl rfl rfl ?_
  refine sy_convi Tryd.underlying5 Tryd.underlying3 rfl (by omega) (by omega) rfl rfl ?_
  refine sy_move rfl rfl rfl ?_
  refine sy_call rfl call_21 rfl (len_c _ _ _ _ hg) rfl rfl ?_
  refine sy_rem (z := (((cb.toNat % k) : Nat) : Int)) rfl rfl (by omega) (by omega) (by omega) (by omega) rfl rfl ?_
  refine sy_call rfl call_36 rfl (show C0 Tryd.prog 36 [.pointer (some ⟨g, 0, none⟩), .int .i64 (x : Int), .int .i64 ((cb.toNat % k : Nat) : Int)] _ (.int .i64 (y : Int)) from hy ▸ joinJ_c hg hk2 L2 hxk hzk) rfl rfl ?_
  refine sy_assign rfl rfl rfl ?_
  refine sy_nil rfl ?_
  refine ny_next ?_
  refine cy_seq ?_
  refine cy_region ?_
  refine sy_move rfl rfl rfl ?_
  refine sy_move rfl rfl rfl ?_
  refine sy_move rfl rfl rfl ?_
  refine sy_callx call_37 rfl (visible_c g k (ru k q) _ hg hk1 hk2 (ru_lt hk2 q) AE lE cE es (x : Int) hE hlE hBE) rfl rfl (fun x43 h43 hx43 hle43 => ?_)
  have hE := hE.le hle43
  have hg := hle43 _ _ hg
  obtain ⟨A43, c43⟩ := x43
  obtain ⟨hv43, hvc43⟩ := hx43
  simp only at hv43 hvc43 ⊢
  refine sy_assign rfl rfl rfl ?_
  refine sy_nil rfl ?_
  refine ny_next ?_
  refine cy_seq ?_
  refine cy_region ?_
  refine sy_move rfl rfl rfl ?_
  refine sy_move rfl rfl rfl ?_
  refine sy_move rfl rfl rfl ?_
  refine sy_callx call_37 rfl (visible_c g k (ru k q) _ hg hk1 hk2 (ru_lt hk2 q) AE lE cE es (y : Int) hE hlE hBE) rfl rfl (fun x47 h47 hx47 hle47 => ?_)
  have hE := hE.le hle47
  have hg := hle47 _ _ hg
  have hv43 := hv43.le hle47
  obtain ⟨A47, c47⟩ := x47
  obtain ⟨hv47, hvc47⟩ := hx47
  simp only at hv47 hvc47 ⊢
  refine sy_assign rfl rfl rfl ?_
  refine sy_nil rfl ?_
  refine ny_next ?_
  refine cy_seq ?_
  have hl14 : (vis k (ru k q) es (x : Int)).length ≤ lE := by rw [← hlE]; exact vis_le
  have hl15 : (vis k (ru k q) es (y : Int)).length ≤ lE := by rw [← hlE]; exact vis_le
  refine cy_region ?_
  refine sy_assign rfl rfl rfl ?_
  refine sy_nil rfl ?_
  refine ny_next ?_
  refine cy_seq ?_
  refine cy_seq ?_
  refine cy_region ?_
  refine sy_assign rfl rfl rfl ?_
  refine sy_nil rfl ?_
  refine ny_next ?_
  refine cy_block ?_
  refine cy_loopK (ι := Nat) [1, 9, 10, 12, 13, 14, 15] rfl (fun i => i ≤ lE) (fun i => lE - i) (fun i => [(16, .int .i64 (((flt (fun e => isI k e.l) es i).length : Nat) : Int)), (17, .int .i64 (i : Int))]) (fun i => h47) (fun i => []) 0 [] (Nat.zero_le _) ⟨rfl, rfl, trivial⟩ rfl rfl ?_
  rintro i hI
  refine cy_seq ?_
  refine cy_seq ?_
  refine cy_region ?_
  refine sy_move rfl rfl rfl ?_
  refine sy_move rfl rfl rfl ?_
  refine sy_len rfl (len_slice Tryd.underlying59 _ _ _) rfl rfl ?_
  refine sy_cmp rfl rfl rfl rfl rfl ?_
  refine sy_nil rfl ?_
  refine ny_next ?_
  refine cy_cond rfl (fun hc51 => ?_) (fun hc51 => ?_)
  · have hlti : i < lE := by have := of_decide_eq_true hc51; omega
    have hfl := flt_len (fun e => isI k e.l) es i
    refine cy_skip ?_
    refine ny_next ?_
    refine cy_seq ?_
    refine cy_block ?_
    refine cy_seq ?_
    refine cy_regionQ mixedA (by kernel_rfl) ?_
    refine sy_move rfl rfl rfl ?_
    refine sy_move rfl rfl rfl ?_
    refine sy_idxR (fc := evC) (es := es) els_59 rfl rfl hE hlE (by omega) rfl rfl (fun e56 b56 o56 he56 hA56 hc56 => ?_)
    refine sy_field fld_65_1 rfl rfl rfl ?_
    refine sy_ldh one_3 rfl (hc56 1 _ rfl) rfl rfl ?_
    refine sy_cmp rfl rfl rfl rfl rfl ?_
    refine sy_move rfl rfl rfl ?_
    refine sy_cond (d := 60) _ rfl rfl (fun hg60 => ?_) (fun hg60 => ?_)
    · refine sy_move rfl rfl rfl ?_
      refine sy_move rfl rfl rfl ?_
      obtain rfl := hA56
      refine sy_idxS els_59 rfl rfl (by omega) (by omega) rfl rfl ?_
      refine sy_field fld_65_1 rfl rfl rfl ?_
      refine sy_ldh one_3 rfl (hc56 1 _ rfl) rfl rfl ?_
      refine sy_move rfl rfl rfl ?_
      refine sy_call rfl call_21 rfl (len_c _ _ _ _ hg) rfl rfl ?_
      refine sy_cmp rfl rfl rfl rfl rfl ?_
      refine sy_pickT rfl rfl rfl rfl ?_
      refine sy_nil rfl ?_
      refine ny_next ?_
      refine cy_cond rfl (fun hc69 => ?_) (fun hc69 => ?_)
      · have hisT : isI k e56.l = true := by unfold isI; simp_all; try omega
        refine cy_region ?_
        refine sy_move rfl rfl rfl ?_
        refine sy_addi (z := (((flt (fun e => isI k e.l) es i).length + 1 : Nat) : Int)) rfl rfl (by omega) (by omega) (by omega) rfl rfl ?_
        refine sy_assign rfl rfl rfl ?_
        refine sy_nil rfl ?_
        refine ny_blockN ?_
        refine ny_next ?_
        refine cy_region ?_
        refine sy_move rfl rfl rfl ?_
        refine sy_addi (z := ((i + 1 : Nat) : Int)) rfl rfl (by omega) (by omega) (by omega) rfl rfl ?_
        refine sy_assign rfl rfl rfl ?_
        refine sy_nil rfl ?_
        refine ny_roundK [1, 9, 10, 12, 13, 14, 15] (i + 1) [] (show i + 1 ≤ lE by omega) (show lE - (i + 1) < lE - i by omega) rfl ⟨(by first | (rw [flt_yes he56 hisT, List.length_append]; rfl) | (rw [flt_no he56 hisF]; rfl)), rfl, trivial⟩ rfl rfl
      · have hisF : isI k e56.l = false := by unfold isI; simp_all; try omega
        refine cy_skip ?_
        refine ny_blockN ?_
        refine ny_next ?_
        refine cy_region ?_
        refine sy_move rfl rfl rfl ?_
        refine sy_addi (z := ((i + 1 : Nat) : Int)) rfl rfl (by omega) (by omega) (by omega) rfl rfl ?_
        refine sy_assign rfl rfl rfl ?_
        refine sy_nil rfl ?_
        refine ny_roundK [1, 9, 10, 12, 13, 14, 15] (i + 1) [] (show i + 1 ≤ lE by omega) (show lE - (i + 1) < lE - i by omega) rfl ⟨(by first | (rw [flt_yes he56 hisT, List.length_append]; rfl) | (rw [flt_no he56 hisF]; rfl)), rfl, trivial⟩ rfl rfl
    · refine sy_skip rfl rfl rfl ?_
      refine sy_skip rfl rfl rfl ?_
      refine sy_skip rfl rfl rfl ?_
      refine sy_skip rfl rfl rfl ?_
      refine sy_skip rfl rfl rfl ?_
      refine sy_skip rfl rfl rfl ?_
      refine sy_skip rfl rfl rfl ?_
      refine sy_skip rfl rfl rfl ?_
      refine sy_pickF rfl rfl rfl rfl ?_
      refine sy_nil rfl ?_
      refine ny_next ?_
      refine cy_condF rfl ?_
      have hisF : isI k e56.l = false := by unfold isI; simp_all; try omega
      refine cy_skip ?_
      refine ny_blockN ?_
      refine ny_next ?_
      refine cy_region ?_
      refine sy_move rfl rfl rfl ?_
      refine sy_addi (z := ((i + 1 : Nat) : Int)) rfl rfl (by omega) (by omega) (by omega) rfl rfl ?_
      refine sy_assign rfl rfl rfl ?_
      refine sy_nil rfl ?_
      refine ny_roundK [1, 9, 10, 12, 13, 14, 15] (i + 1) [] (show i + 1 ≤ lE by omega) (show lE - (i + 1) < lE - i by omega) rfl ⟨(by first | (rw [flt_yes he56 hisT, List.length_append]; rfl) | (rw [flt_no he56 hisF]; rfl)), rfl, trivial⟩ rfl rfl
  · have hie : i = es.length := by have := of_decide_eq_false hc51; omega
    subst hie
    rw [flt_all]
    refine cy_exit ?_
    refine ny_thenE ?_
    refine ny_thenE ?_
    refine ny_blockX ?_
    refine ny_next ?_
    refine cy_seq ?_
    refine cy_region ?_
    refine sy_move rfl rfl rfl ?_
    refine sy_move rfl rfl rfl ?_
    refine sy_setT (d := 73) rfl rfl (by first | rfl | decide | simp) ?_
    refine sy_move rfl rfl rfl ?_
    refine sy_move rfl rfl rfl ?_
    refine sy_move rfl rfl rfl ?_
    refine sy_callx call_37 rfl (visible_c g k (ru k q) _ hg hk1 hk2 (ru_lt hk2 q) A47 (vis k (ru k q) es (y : Int)).length c47 (vis k (ru k q) es (y : Int)) (x : Int) hv47 rfl (Nat.le_trans (Nat.mul_le_mul_right 32 vis_le) (by first | assumption | omega))) rfl rfl (fun x77 h77 hx77 hle77 => ?_)
    have hE := hE.le hle77
    have hg := hle77 _ _ hg
    have hv43 := hv43.le hle77
    have hv47 := hv47.le hle77
    obtain ⟨A77, c77⟩ := x77
    obtain ⟨hv77, hvc77⟩ := hx77
    simp only at hv77 hvc77 ⊢
    refine sy_move rfl rfl rfl ?_
    refine sy_call rfl call_38 rfl (same_c A77 A43 (vis k (ru k q) (vis k (ru k q) es (y : Int)) (x : Int)).length c77 (vis k (ru k q) es (x : Int)).length c43 (vis k (ru k q) (vis k (ru k q) es (y : Int)) (x : Int)) (vis k (ru k q) es (x : Int)) _ hv77 rfl hv43 rfl (Nat.le_trans vis_le (by omega)) (by omega)) rfl rfl ?_
    rw [vis_vis hxy, sameB_refl]
    refine sy_pickT rfl rfl rfl rfl ?_
    refine sy_move rfl rfl rfl ?_
    refine sy_setT (d := 81) rfl rfl (by first | rfl | decide | simp) ?_
    refine sy_move rfl rfl rfl ?_
    refine sy_move rfl rfl rfl ?_
    refine sy_move rfl rfl rfl ?_
    refine sy_callx call_37 rfl (visible_c g k (ru k q) _ hg hk1 hk2 (ru_lt hk2 q) A43 (vis k (ru k q) es (x : Int)).length c43 (vis k (ru k q) es (x : Int)) (y : Int) hv43 rfl (Nat.le_trans (Nat.mul_le_mul_right 32 vis_le) (by first | assumption | omega))) rfl rfl (fun x85 h85 hx85 hle85 => ?_)
    have hE := hE.le hle85
    have hg := hle85 _ _ hg
    have hv43 := hv43.le hle85
    have hv47 := hv47.le hle85
    have hv77 := hv77.le hle85
    obtain ⟨A85, c85⟩ := x85
    obtain ⟨hv85, hvc85⟩ := hx85
    simp only at hv85 hvc85 ⊢
    refine sy_move rfl rfl rfl ?_
    refine sy_call rfl call_38 rfl (same_c A85 A43 (vis k (ru k q) (vis k (ru k q) es (x : Int)) (y : Int)).length c85 (vis k (ru k q) es (x : Int)).length c43 (vis k (ru k q) (vis k (ru k q) es (x : Int)) (y : Int)) (vis k (ru k q) es (x : Int)) _ hv85 rfl hv43 rfl (Nat.le_trans vis_le (by omega)) (by omega)) rfl rfl ?_
    rw [vis_vis' hxy, sameB_refl]
    refine sy_pickT rfl rfl rfl rfl ?_
    refine sy_move rfl rfl rfl ?_
    refine sy_setT (d := 89) rfl rfl (by first | rfl | decide | simp) ?_
    refine sy_move rfl rfl rfl ?_
    refine sy_len rfl (len_slice Tryd.underlying59 _ _ _) rfl rfl ?_
    refine sy_move rfl rfl rfl ?_
    refine sy_len rfl (len_slice Tryd.underlying59 _ _ _) rfl rfl ?_
    refine sy_cmp rfl rfl rfl rfl rfl ?_
    refine sy_pickT rfl rfl rfl rfl ?_
    refine sy_setT (d := 95) rfl rfl (by have := vis_len (n := k) (p := q) (es := es) hxy; unfold vis at this; simp; omega) ?_
    refine sy_move rfl rfl rfl ?_
    refine sy_move rfl rfl rfl ?_
    refine sy_move rfl rfl rfl ?_
    refine sy_move rfl rfl rfl ?_
    refine sy_call rfl call_26 rfl (topJ_c hg hk2 L2) rfl rfl ?_
    refine sy_callx call_37 rfl (visible_c g k (ru k q) _ hg hk1 hk2 (ru_lt hk2 q) AE lE cE es (hi : Int) hE hlE hBE) rfl rfl (fun x101 h101 hx101 hle101 => ?_)
    have hE := hE.le hle101
    have hg := hle101 _ _ hg
    have hv43 := hv43.le hle101
    have hv47 := hv47.le hle101
    have hv77 := hv77.le hle101
    have hv85 := hv85.le hle101
    obtain ⟨A101, c101⟩ := x101
    obtain ⟨hv101, hvc101⟩ := hx101
    simp only at hv101 hvc101 ⊢
    refine sy_len rfl (len_slice Tryd.underlying59 _ _ _) rfl rfl ?_
    refine sy_move rfl rfl rfl ?_
    refine sy_cmp rfl rfl rfl rfl rfl ?_
    refine sy_pickT rfl rfl rfl rfl ?_
    refine sy_setT (d := 105) rfl rfl (by have := vis_top L2 es; unfold vis at this; rw [this]; simp) ?_
    refine sy_assign rfl rfl rfl ?_
    refine sy_nil rfl ?_
    refine ny_next ?_
    refine cy_ret ?_
    exact ny_finR (res1 rfl rfl) (fun w hs => ⟨rfl, hs.frm⟩)
theorem rises_c (n : Int) (ca cb : UInt8) (A : Option Addr) (l c L : Nat) (q : List (Int × Int)) (h : Hp) (hlc : l ≤ c) (hL : L = min l 60) (hq : PairsAt h A q) (hql : q.length = L) (AE : Option Addr) (lE cE : Nat) (es : List Ev) (hE : RowsAt h AE 3 (es.map evC)) (hlE : es.length = lE) (hcE : lE ≤ cE) (hBE : lE * 32 ≤ 140737488355328) (ht : Tab10 h) : C0 Tryd.prog 10 [.agg #[.int .i64 n, .slice A l c], .slice AE lE cE, .int .u8 (ca.toNat : Int), .int .u8 (cb.toNat : Int)] h (.bool true) := by
  by_cases hF : Fine n q
  · obtain ⟨k, rfl⟩ := Int.eq_ofNat_of_zero_le (show 0 ≤ n by have := hF.1; omega)
    obtain ⟨j, m2, lo, hi, L2⟩ := IsLatt.two (n := k) hF.2.2.2 (by have := hF.1; omega)
    exact rises_good k ca cb _ _ A l c L q h hlc hL hq hql AE lE cE es hE hlE hcE hBE ht hF j m2 lo hi L2 rfl rfl
  · obtain ⟨e, he, hb, hr⟩ := both_c n A L c q hql (by omega) hF
    exact rises_bad n ca cb AE lE cE A l c L q h hlc hL hq hql ht e hb hr
end Go.Proofs.YtamifocfbcmfkaaDoor

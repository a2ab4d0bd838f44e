/- ChannelMays: the walk. Conditions: as each says. Printed by a program of this session. -/
import Derived.Test.YtamifocfbcmfkaaDoorFactsP
import Derived.Test.YtamifocfbcmfkaaDoorTermA
set_option linter.unusedVariables false
set_option linter.unusedSimpArgs false
namespace Go.Proofs.YtamifocfbcmfkaaDoor
open Go.RowKit Go.Proofs.YtamifocfbcmfkaaDoor.E Go.Proofs.YtamifocfbcmfkaaDoor.LattP Go.Proofs.YtamifocfbcmfkaaDoor.ChanP Go.Proofs.YtamifocfbcmfkaaDoor.TermP
set_option maxRecDepth 100000 in
theorem mays_bad (n : Int) (t : GT) (ca cb cc : UInt8) (A : Option Addr) (l c L : Nat) (q : List (Int × Int)) (h : Hp) (hlc : l ≤ c) (hL : L = min l 60) (hq : PairsAt h A q) (hql : q.length = L) (ht : Tab10 h) (e : Int) (hb : ∀ h, PairsAt h A q → C0 Tryd.prog 18 [.int .i64 n, .slice A L c] h (newV (none, e))) (hr : ∀ h, PairsAt h A q → C0 Tryd.prog 30 [.int .i64 n, .slice A L c] h (refV ((none, 0, 0), e))) : C0 Tryd.prog 16 [.agg #[.int .i64 n, .slice A l c], .agg (GT.cells t).toArray, .int .u8 (ca.toNat : Int), .int .u8 (cb.toNat : Int), .int .u8 (cc.toNat : Int)] h (.bool true) := by
  refine enter0 Tryd.func16 rfl rfl rfl (fun w => ?_)
  refine cy_seq ?_
  refine cy_region ?_
  refine sy_box rfl rfl rfl rfl (fun b5 hb5 hM5 => ?_) (by simp)
  refine sy_box rfl rfl rfl rfl (fun b6 hb6 hM6 => ?_) (by simp)
  refine sy_assign rfl rfl rfl ?_
  refine sy_nil rfl ?_
  refine ny_next ?_
  refine cy_seq ?_
  refine cy_region ?_
  refine sy_call rfl call_34 rfl (shown15_c _ ht) rfl rfl ?_
  refine sy_assign rfl rfl rfl ?_
  refine sy_nil rfl ?_
  refine ny_next ?_
  refine cy_seq ?_
  refine cy_region ?_
  first | refine sy_ldar 0 agg_24 rfl rfl rfl rfl rfl ?_ | refine sy_ldar 1 agg_24 rfl rfl rfl rfl rfl ?_ | refine sy_ldar 2 agg_24 rfl rfl rfl rfl rfl ?_
  refine sy_call rfl call_35 rfl (of_bad n A l c L q _ hlc hL hq hql e hb hr) rfl rfl ?_
  refine sy_move rfl rfl rfl ?_
  refine sy_extract rfl rfl rfl rfl ?_
  refine sy_extract rfl rfl rfl rfl ?_
  refine sy_alloc zer_52 rfl rfl (fun b13 hb13 hM13 => ?_) (by simp)
  refine sy_assign rfl rfl rfl ?_
  first | refine sy_stl 0 sz_52 rfl rfl rfl rfl rfl rfl rfl rfl ?_ | refine sy_stl 1 sz_52 rfl rfl rfl rfl rfl rfl rfl rfl ?_ | refine sy_stl 2 sz_52 rfl rfl rfl rfl rfl rfl rfl rfl ?_
  refine sy_nil rfl ?_
  refine ny_next ?_
  refine cy_seq ?_
  refine cy_seq ?_
  refine cy_region ?_
  refine sy_move rfl rfl rfl ?_
  refine sy_eqp Tryd.underlying27 rfl rfl rfl rfl rfl ?_
  refine sy_setT (d := 26) rfl rfl rfl ?_
  refine sy_move rfl rfl rfl ?_
  refine sy_skip rfl rfl rfl ?_
  refine sy_skip rfl rfl rfl ?_
  refine sy_skip rfl rfl rfl ?_
  refine sy_pickT rfl rfl rfl rfl ?_
  refine sy_nil rfl ?_
  refine ny_next ?_
  refine cy_condT rfl ?_
  refine cy_seq ?_
  refine cy_region ?_
  refine sy_move rfl rfl rfl ?_
  refine sy_assign rfl rfl rfl ?_
  refine sy_nil rfl ?_
  refine ny_next ?_
  refine cy_ret ?_
  refine ny_thenR ?_
  exact ny_finR (res1 rfl rfl) (fun w hs => ⟨rfl, hs.frm⟩)
set_option maxRecDepth 100000 in
theorem mays_good (k : Nat) (t : GT) (ca cb cc : UInt8) (A : Option Addr) (l c L : Nat) (q : List (Int × Int)) (h : Hp) (hlc : l ≤ c) (hL : L = min l 60) (hq : PairsAt h A q) (hql : q.length = L) (ht : Tab10 h) (hF : Fine (k : Int) q) (j m2 : Nat → Nat → Nat) (lo hi : Nat) (L2 : Lat2 k q j m2 lo hi) (hlt : Lies h t) (hft : Fits t) (x y z : Nat) (hx : x = ca.toNat % k) (hy : y = cb.toNat % k) (hz : z = cc.toNat % k) : C0 Tryd.prog 16 [.agg #[.int .i64 (k : Int), .slice A l c], .agg (GT.cells t).toArray, .int .u8 (ca.toNat : Int), .int .u8 (cb.toNat : Int), .int .u8 (cc.toNat : Int)] h (.bool true) := by
  have hk1 : 1 ≤ k := by have := hF.1; omega
  have hk2 : k ≤ 16 := by have := hF.2.1; omega
  have hca := ca.toNat_lt
  have hcb := cb.toNat_lt
  have hcc := cc.toNat_lt
  have hxk : x < k := by rw [hx]; exact Nat.mod_lt _ hk1
  have hyk : y < k := by rw [hy]; exact Nat.mod_lt _ hk1
  have hzk : z < k := by rw [hz]; exact Nat.mod_lt _ hk1
  refine enter0 Tryd.func16 rfl rfl rfl (fun w => ?_)
  refine cy_seq ?_
  refine cy_region ?_
  refine sy_box rfl rfl rfl rfl (fun b5 hb5 hM5 => ?_) (by simp)
  refine sy_box rfl rfl rfl rfl (fun b6 hb6 hM6 => ?_) (by simp)
  refine sy_assign rfl rfl rfl ?_
  refine sy_nil rfl ?_
  refine ny_next ?_
  refine cy_seq ?_
  refine cy_region ?_
  refine sy_call rfl call_34 rfl (shown15_c _ ht) rfl rfl ?_
  refine sy_assign rfl rfl rfl ?_
  refine sy_nil rfl ?_
  refine ny_next ?_
  refine cy_seq ?_
  refine cy_region ?_
  first | refine sy_ldar 0 agg_24 rfl rfl rfl rfl rfl ?_ | refine sy_ldar 1 agg_24 rfl rfl rfl rfl rfl ?_ | refine sy_ldar 2 agg_24 rfl rfl rfl rfl rfl ?_ | refine sy_ldar 3 agg_24 rfl rfl rfl rfl rfl ?_ | refine sy_ldar 4 agg_24 rfl rfl rfl rfl rfl ?_
  refine sy_callx call_35 rfl (of_good k A l c L q _ hlc hL hq hql hF) rfl rfl (fun x22 h22 hx22 hle22 => ?_)
  have hlt := hlt.le hle22
  obtain ⟨g, A5, c5⟩ := x22
  obtain ⟨hg, hT⟩ := hx22
  simp only at hg hT ⊢
  refine sy_move rfl rfl rfl ?_
  refine sy_extract rfl rfl rfl rfl ?_
  refine sy_extract rfl rfl rfl rfl ?_
  refine sy_alloc zer_52 rfl rfl (fun b13 hb13 hM13 => ?_) (by simp)
  refine sy_assign rfl rfl rfl ?_
  first | refine sy_stl 0 sz_52 rfl rfl rfl rfl rfl rfl rfl rfl ?_ | refine sy_stl 1 sz_52 rfl rfl rfl rfl rfl rfl rfl rfl ?_ | refine sy_stl 2 sz_52 rfl rfl rfl rfl rfl rfl rfl rfl ?_ | refine sy_stl 3 sz_52 rfl rfl rfl rfl rfl rfl rfl rfl ?_ | refine sy_stl 4 sz_52 rfl rfl rfl rfl rfl rfl rfl rfl ?_
  refine sy_nil rfl ?_
  refine ny_next ?_
  refine cy_seq ?_
  refine cy_seq ?_
  refine cy_region ?_
  refine sy_move rfl rfl rfl ?_
  refine sy_eqp Tryd.underlying27 rfl rfl rfl rfl rfl ?_
  refine sy_setF (d := 26) rfl rfl rfl ?_
  refine sy_move rfl rfl rfl ?_
  first | refine sy_ldar 0 agg_79 rfl rfl rfl rfl rfl ?_ | refine sy_ldar 1 agg_79 rfl rfl rfl rfl rfl ?_ | refine sy_ldar 2 agg_79 rfl rfl rfl rfl rfl ?_ | refine sy_ldar 3 agg_79 rfl rfl rfl rfl rfl ?_ | refine sy_ldar 4 agg_79 rfl rfl rfl rfl rfl ?_
  refine sy_call rfl call_44 rfl (size_c t _ hlt hft) rfl rfl ?_
  refine sy_cmp rfl rfl rfl rfl rfl ?_
  refine sy_pickF rfl rfl rfl rfl ?_
  refine sy_nil rfl ?_
  refine ny_next ?_
  refine cy_cond rfl (fun hc31 => ?_) (fun hc31 => ?_)
  · refine cy_seq ?_
    refine cy_region ?_
    refine sy_move rfl rfl rfl ?_
    refine sy_assign rfl rfl rfl ?_
    refine sy_nil rfl ?_
    refine ny_next ?_
    refine cy_ret ?_
    refine ny_thenR ?_
    exact ny_finR (res1 rfl rfl) (fun w hs => ⟨rfl, hs.frm⟩)
  · refine cy_skip ?_
    refine ny_next ?_
    refine cy_seq ?_
    refine cy_region ?_
    refine sy_move rfl rfl rfl ?_
    refine sy_convi Tryd.underlying5 Tryd.underlying3 rfl (by omega) (by omega) rfl rfl ?_
    refine sy_move rfl rfl rfl ?_
    refine sy_call rfl call_21 rfl (len_c _ _ _ _ hg) rfl rfl ?_
    refine sy_rem (z := ((x : Nat) : Int)) rfl rfl (by omega) (by omega) (by omega) (by omega) rfl rfl ?_
    refine sy_assign rfl rfl rfl ?_
    refine sy_nil rfl ?_
    refine ny_next ?_
    refine cy_seq ?_
    refine cy_region ?_
    refine sy_move rfl rfl rfl ?_
    refine sy_convi Tryd.underlying5 Tryd.underlying3 rfl (by omega) (by omega) rfl rfl ?_
    refine sy_move rfl rfl rfl ?_
    refine sy_call rfl call_21 rfl (len_c _ _ _ _ hg) rfl rfl ?_
    refine sy_rem (z := ((y : Nat) : Int)) rfl rfl (by omega) (by omega) (by omega) (by omega) rfl rfl ?_
    refine sy_assign rfl rfl rfl ?_
    refine sy_nil rfl ?_
    refine ny_next ?_
    refine cy_seq ?_
    refine cy_region ?_
    refine sy_move rfl rfl rfl ?_
    refine sy_move rfl rfl rfl ?_
    refine sy_move rfl rfl rfl ?_
    refine sy_convi Tryd.underlying5 Tryd.underlying3 rfl (by omega) (by omega) rfl rfl ?_
    refine sy_move rfl rfl rfl ?_
    refine sy_call rfl call_21 rfl (len_c _ _ _ _ hg) rfl rfl ?_
    refine sy_rem (z := ((z : Nat) : Int)) rfl rfl (by omega) (by omega) (by omega) (by omega) rfl rfl ?_
    refine sy_call rfl call_36 rfl (joinJ_c hg hk2 L2 hyk hzk) rfl rfl ?_
    refine sy_assign rfl rfl rfl ?_
    refine sy_nil rfl ?_
    refine ny_next ?_
    refine cy_seq ?_
    refine cy_region ?_
    refine sy_move rfl rfl rfl ?_
    refine sy_move rfl rfl rfl ?_
    first | refine sy_ldar 0 agg_79 rfl rfl rfl rfl rfl ?_ | refine sy_ldar 1 agg_79 rfl rfl rfl rfl rfl ?_ | refine sy_ldar 2 agg_79 rfl rfl rfl rfl rfl ?_ | refine sy_ldar 3 agg_79 rfl rfl rfl rfl rfl ?_ | refine sy_ldar 4 agg_79 rfl rfl rfl rfl rfl ?_
    refine sy_move rfl rfl rfl ?_
    refine sy_call rfl call_47 rfl (cmay_c g k q j m2 lo hi hk2 L2 t _ _ _ hlt hft hg) rfl rfl ?_
    refine sy_assign rfl rfl rfl ?_
    refine sy_nil rfl ?_
    refine ny_next ?_
    refine cy_seq ?_
    refine cy_region ?_
    first | refine sy_ldar 0 agg_79 rfl rfl rfl rfl rfl ?_ | refine sy_ldar 1 agg_79 rfl rfl rfl rfl rfl ?_ | refine sy_ldar 2 agg_79 rfl rfl rfl rfl rfl ?_ | refine sy_ldar 3 agg_79 rfl rfl rfl rfl rfl ?_ | refine sy_ldar 4 agg_79 rfl rfl rfl rfl rfl ?_
    refine sy_callx call_51 rfl (erase_c t _ hlt hft) rfl rfl (fun x57 h57 hx57 hle57 => ?_)
    have hlt := hlt.le hle57
    have hg := hle57 _ _ hg
    refine sy_alloc zer_79 rfl rfl (fun b18 hb18 hM18 => ?_) (by simp)
    first | refine sy_stl 0 sz_79 rfl rfl rfl rfl rfl rfl rfl rfl ?_ | refine sy_stl 1 sz_79 rfl rfl rfl rfl rfl rfl rfl rfl ?_ | refine sy_stl 2 sz_79 rfl rfl rfl rfl rfl rfl rfl rfl ?_ | refine sy_stl 3 sz_79 rfl rfl rfl rfl rfl rfl rfl rfl ?_ | refine sy_stl 4 sz_79 rfl rfl rfl rfl rfl rfl rfl rfl ?_
    refine sy_nil rfl ?_
    refine ny_next ?_
    refine cy_seq ?_
    refine cy_regionQ mixedA (by kernel_rfl) ?_
    refine sy_move rfl rfl rfl ?_
    refine sy_move rfl rfl rfl ?_
    refine sy_setT (d := 59) rfl rfl (by first | rfl | decide | simp) ?_
    refine sy_move rfl rfl rfl ?_
    refine sy_not rfl rfl rfl ?_
    refine sy_move rfl rfl rfl ?_
    refine sy_cond (d := 62) _ rfl rfl (fun hg62 => ?_) (fun hg62 => ?_)
    · refine sy_skip rfl rfl rfl ?_
      refine sy_skip rfl rfl rfl ?_
      refine sy_skip rfl rfl rfl ?_
      refine sy_skip rfl rfl rfl ?_
      refine sy_skip rfl rfl rfl ?_
      refine sy_skip rfl rfl rfl ?_
      refine sy_skip rfl rfl rfl ?_
      refine sy_skip rfl rfl rfl ?_
      refine sy_skip rfl rfl rfl ?_
      refine sy_skip rfl rfl rfl ?_
      refine sy_skip rfl rfl rfl ?_
      refine sy_skip rfl rfl rfl ?_
      refine sy_skip rfl rfl rfl ?_
      refine sy_skip rfl rfl rfl ?_
      refine sy_skip rfl rfl rfl ?_
      refine sy_skip rfl rfl rfl ?_
      refine sy_skip rfl rfl rfl ?_
      refine sy_skip rfl rfl rfl ?_
      refine sy_skip rfl rfl rfl ?_
      refine sy_pickT rfl rfl rfl rfl ?_
      refine sy_pickT rfl rfl rfl rfl ?_
      refine sy_move rfl rfl rfl ?_
      refine sy_move rfl rfl rfl ?_
      first | refine sy_ldar 0 agg_79 rfl rfl rfl rfl rfl ?_ | refine sy_ldar 1 agg_79 rfl rfl rfl rfl rfl ?_ | refine sy_ldar 2 agg_79 rfl rfl rfl rfl rfl ?_ | refine sy_ldar 3 agg_79 rfl rfl rfl rfl rfl ?_ | refine sy_ldar 4 agg_79 rfl rfl rfl rfl rfl ?_
      refine sy_call rfl call_52 rfl (sjoin_c g k q j m2 lo hi hk2 L2 x57 _ hx57.1 hx57.2 hg) rfl rfl ?_
      refine sy_move rfl rfl rfl ?_
      refine sy_call rfl call_25 rfl (botJ_c hg hk2 L2) rfl rfl ?_
      refine sy_cmp rfl rfl rfl rfl rfl ?_
      refine sy_move rfl rfl rfl ?_
      refine sy_cond (d := 91) _ rfl rfl (fun hg91 => ?_) (fun hg91 => ?_)
      · refine sy_skip rfl rfl rfl ?_
        refine sy_skip rfl rfl rfl ?_
        refine sy_skip rfl rfl rfl ?_
        refine sy_skip rfl rfl rfl ?_
        refine sy_skip rfl rfl rfl ?_
        refine sy_skip rfl rfl rfl ?_
        refine sy_skip rfl rfl rfl ?_
        refine sy_skip rfl rfl rfl ?_
        refine sy_skip rfl rfl rfl ?_
        refine sy_skip rfl rfl rfl ?_
        refine sy_pickT rfl rfl rfl rfl ?_
        refine sy_pickT rfl rfl rfl rfl ?_
        refine sy_assign rfl rfl rfl ?_
        refine sy_nil rfl ?_
        refine ny_next ?_
        refine cy_ret ?_
        exact ny_finR (res1 rfl rfl) (fun w hs => ⟨rfl, hs.frm⟩)
      · have hbare : sj k lo hi j x57 = lo := by have h9 := hg91; simp at h9; omega
        refine sy_move rfl rfl rfl ?_
        refine sy_move rfl rfl rfl ?_
        first | refine sy_ldar 0 agg_79 rfl rfl rfl rfl rfl ?_ | refine sy_ldar 1 agg_79 rfl rfl rfl rfl rfl ?_ | refine sy_ldar 2 agg_79 rfl rfl rfl rfl rfl ?_ | refine sy_ldar 3 agg_79 rfl rfl rfl rfl rfl ?_ | refine sy_ldar 4 agg_79 rfl rfl rfl rfl rfl ?_
        refine sy_move rfl rfl rfl ?_
        refine sy_call rfl call_47 rfl (cmay_c g k q j m2 lo hi hk2 L2 x57 _ _ _ hx57.1 hx57.2 hg) rfl rfl ?_
        refine sy_move rfl rfl rfl ?_
        refine sy_move rfl rfl rfl ?_
        refine sy_move rfl rfl rfl ?_
        refine sy_call rfl call_23 rfl (leq_c _ _ _ _ hg hk1 hk2 (ru_lt hk2 q) _ _) rfl rfl ?_
        refine sy_eqb Tryd.underlying4 rfl rfl rfl rfl ?_
        refine sy_setT (d := 101) rfl rfl (by rw [hbare, may_bare L2 hxk hyk]; simp) ?_
        refine sy_pickF rfl rfl rfl rfl ?_
        refine sy_pickT rfl rfl rfl rfl ?_
        refine sy_assign rfl rfl rfl ?_
        refine sy_nil rfl ?_
        refine ny_next ?_
        refine cy_ret ?_
        exact ny_finR (res1 rfl rfl) (fun w hs => ⟨rfl, hs.frm⟩)
    · have his : mayT k (ru k q) (x : Int) (sj k lo hi j t) (y : Int) = true := by simpa using hg62
      refine sy_move rfl rfl rfl ?_
      refine sy_move rfl rfl rfl ?_
      first | refine sy_ldar 0 agg_79 rfl rfl rfl rfl rfl ?_ | refine sy_ldar 1 agg_79 rfl rfl rfl rfl rfl ?_ | refine sy_ldar 2 agg_79 rfl rfl rfl rfl rfl ?_ | refine sy_ldar 3 agg_79 rfl rfl rfl rfl rfl ?_ | refine sy_ldar 4 agg_79 rfl rfl rfl rfl rfl ?_
      refine sy_move rfl rfl rfl ?_
      refine sy_call rfl call_47 rfl (cmay_c g k q j m2 lo hi hk2 L2 t _ _ _ hlt hft hg) rfl rfl ?_
      refine sy_setT (d := 67) rfl rfl (may_more L2 hxk (sj_lt L2 t) hyk hzk his) ?_
      refine sy_move rfl rfl rfl ?_
      refine sy_move rfl rfl rfl ?_
      refine sy_move rfl rfl rfl ?_
      refine sy_call rfl call_25 rfl (botJ_c hg hk2 L2) rfl rfl ?_
      first | refine sy_ldar 0 agg_79 rfl rfl rfl rfl rfl ?_ | refine sy_ldar 1 agg_79 rfl rfl rfl rfl rfl ?_ | refine sy_ldar 2 agg_79 rfl rfl rfl rfl rfl ?_ | refine sy_ldar 3 agg_79 rfl rfl rfl rfl rfl ?_ | refine sy_ldar 4 agg_79 rfl rfl rfl rfl rfl ?_
      refine sy_move rfl rfl rfl ?_
      refine sy_call rfl call_47 rfl (cmay_c g k q j m2 lo hi hk2 L2 t _ _ _ hlt hft hg) rfl rfl ?_
      refine sy_setT (d := 74) rfl rfl (may_less L2 hxk (sj_lt L2 t) hyk his) ?_
      refine sy_pickT rfl rfl rfl rfl ?_
      refine sy_move rfl rfl rfl ?_
      refine sy_move rfl rfl rfl ?_
      refine sy_move rfl rfl rfl ?_
      refine sy_move rfl rfl rfl ?_
      refine sy_call rfl call_23 rfl (leq_c _ _ _ _ hg hk1 hk2 (ru_lt hk2 q) _ _) rfl rfl ?_
      refine sy_setT (d := 80) rfl rfl (may_leq L2 hxk (sj_lt L2 t) hyk his) ?_
      refine sy_pickT rfl rfl rfl rfl ?_
      refine sy_pickF rfl rfl rfl rfl ?_
      refine sy_pickT rfl rfl rfl rfl ?_
      refine sy_move rfl rfl rfl ?_
      refine sy_move rfl rfl rfl ?_
      first | refine sy_ldar 0 agg_79 rfl rfl rfl rfl rfl ?_ | refine sy_ldar 1 agg_79 rfl rfl rfl rfl rfl ?_ | refine sy_ldar 2 agg_79 rfl rfl rfl rfl rfl ?_ | refine sy_ldar 3 agg_79 rfl rfl rfl rfl rfl ?_ | refine sy_ldar 4 agg_79 rfl rfl rfl rfl rfl ?_
      refine sy_call rfl call_52 rfl (sjoin_c g k q j m2 lo hi hk2 L2 x57 _ hx57.1 hx57.2 hg) rfl rfl ?_
      refine sy_move rfl rfl rfl ?_
      refine sy_call rfl call_25 rfl (botJ_c hg hk2 L2) rfl rfl ?_
      refine sy_cmp rfl rfl rfl rfl rfl ?_
      refine sy_move rfl rfl rfl ?_
      refine sy_cond (d := 91) _ rfl rfl (fun hg91 => ?_) (fun hg91 => ?_)
      · refine sy_skip rfl rfl rfl ?_
        refine sy_skip rfl rfl rfl ?_
        refine sy_skip rfl rfl rfl ?_
        refine sy_skip rfl rfl rfl ?_
        refine sy_skip rfl rfl rfl ?_
        refine sy_skip rfl rfl rfl ?_
        refine sy_skip rfl rfl rfl ?_
        refine sy_skip rfl rfl rfl ?_
        refine sy_skip rfl rfl rfl ?_
        refine sy_skip rfl rfl rfl ?_
        refine sy_pickT rfl rfl rfl rfl ?_
        refine sy_pickT rfl rfl rfl rfl ?_
        refine sy_assign rfl rfl rfl ?_
        refine sy_nil rfl ?_
        refine ny_next ?_
        refine cy_ret ?_
        exact ny_finR (res1 rfl rfl) (fun w hs => ⟨rfl, hs.frm⟩)
      · have hbare : sj k lo hi j x57 = lo := by have h9 := hg91; simp at h9; omega
        refine sy_move rfl rfl rfl ?_
        refine sy_move rfl rfl rfl ?_
        first | refine sy_ldar 0 agg_79 rfl rfl rfl rfl rfl ?_ | refine sy_ldar 1 agg_79 rfl rfl rfl rfl rfl ?_ | refine sy_ldar 2 agg_79 rfl rfl rfl rfl rfl ?_ | refine sy_ldar 3 agg_79 rfl rfl rfl rfl rfl ?_ | refine sy_ldar 4 agg_79 rfl rfl rfl rfl rfl ?_
        refine sy_move rfl rfl rfl ?_
        refine sy_call rfl call_47 rfl (cmay_c g k q j m2 lo hi hk2 L2 x57 _ _ _ hx57.1 hx57.2 hg) rfl rfl ?_
        refine sy_move rfl rfl rfl ?_
        refine sy_move rfl rfl rfl ?_
        refine sy_move rfl rfl rfl ?_
        refine sy_call rfl call_23 rfl (leq_c _ _ _ _ hg hk1 hk2 (ru_lt hk2 q) _ _) rfl rfl ?_
        refine sy_eqb Tryd.underlying4 rfl rfl rfl rfl ?_
        refine sy_setT (d := 101) rfl rfl (by rw [hbare, may_bare L2 hxk hyk]; simp) ?_
        refine sy_pickF rfl rfl rfl rfl ?_
        refine sy_pickT rfl rfl rfl rfl ?_
        refine sy_assign rfl rfl rfl ?_
        refine sy_nil rfl ?_
        refine ny_next ?_
        refine cy_ret ?_
        exact ny_finR (res1 rfl rfl) (fun w hs => ⟨rfl, hs.frm⟩)
theorem mays_c (n : Int) (t : GT) (ca cb cc : UInt8) (A : Option Addr) (l c L : Nat) (q : List (Int × Int)) (h : Hp) (hlc : l ≤ c) (hL : L = min l 60) (hq : PairsAt h A q) (hql : q.length = L) (ht : Tab10 h) (hlt : Lies h t) (hft : Fits t) : C0 Tryd.prog 16 [.agg #[.int .i64 n, .slice A l c], .agg (GT.cells t).toArray, .int .u8 (ca.toNat : Int), .int .u8 (cb.toNat : Int), .int .u8 (cc.toNat : Int)] h (.bool true) := by
  by_cases hF : Fine n q
  · obtain ⟨k, rfl⟩ := Int.eq_ofNat_of_zero_le (show 0 ≤ n by have := hF.1; omega)
    obtain ⟨j, m2, lo, hi, L2⟩ := IsLatt.two (n := k) hF.2.2.2 (by have := hF.1; omega)
    exact mays_good k t ca cb cc A l c L q h hlc hL hq hql ht hF j m2 lo hi L2 hlt hft _ _ _ rfl rfl rfl
  · obtain ⟨e, he, hb, hr⟩ := both_c n A L c q hql (by omega) hF
    exact mays_bad n t ca cb cc A l c L q h hlc hL hq hql ht e hb hr
end Go.Proofs.YtamifocfbcmfkaaDoor

/- ChannelTexts: the walk. Conditions: as each says. Printed by a program of this session. -/
import Derived.Test.YtamifocfbcmfkaaDoorFactsV
import Derived.Test.YtamifocfbcmfkaaDoorChanB
import Derived.Test.YtamifocfbcmfkaaDoorChanLaw
set_option linter.unusedVariables false
set_option linter.unusedSimpArgs false
namespace Go.Proofs.YtamifocfbcmfkaaDoor
open Go.RowKit Go.Proofs.YtamifocfbcmfkaaDoor.E Go.Proofs.YtamifocfbcmfkaaDoor.LattP Go.Proofs.YtamifocfbcmfkaaDoor.ChanP
theorem strs_ones1 (es : List Ev) : ∀ u ∈ ((es.map fun e => [Value.string (txt e)]).flatten), u.oneCell' = true := fun u hu => strs_ones (es.map txt) u (by rw [List.map_map]; exact hu)
set_option maxRecDepth 100000 in
theorem texts_law (lv : Int) (hlv0 : -9223372036854775808 ≤ lv) (hlv1 : lv ≤ 9223372036854775807) (h : Hp) (ht : Tab10 h) (A1 : Option Addr) (l1 c1 : Nat) (a : List Ev) (hp1 : RowsAt h A1 3 (a.map evC)) (hl1 : a.length = l1) (hs1 : l1 ≤ 1048576) (hok1 : ∀ e, e ∈ a → okE e) (A2 : Option Addr) (l2 c2 : Nat) (b : List Ev) (hp2 : RowsAt h A2 3 (b.map evC)) (hl2 : b.length = l2) (hs2 : l2 ≤ 1048576) (hok2 : ∀ e, e ∈ b → okE e) : C0 Tryd.prog 13 [.slice A1 l1 c1, .slice A2 l2 c2, .int .i64 lv] h (.bool true) := by
  have hkc : ∀ e, e ∈ a.map (relev lv) → okE e := fun e he => by
    obtain ⟨x, hx, rfl⟩ := List.mem_map.1 he
    exact ⟨(hok1 x hx).k0, (hok1 x hx).k1, hlv0, hlv1, (hok1 x hx).s0⟩
  refine enter0 Tryd.func13 rfl rfl rfl (fun w => ?_)
  refine cy_seq ?_
  refine cy_region ?_
  refine sy_assign rfl rfl rfl ?_
  refine sy_nil rfl ?_
  refine ny_next ?_
  refine cy_seq ?_
  refine cy_region ?_
  refine sy_call rfl call_34 rfl (shown15_c _ ht) rfl rfl ?_
  refine sy_assign rfl rfl rfl ?_
  refine sy_nil rfl ?_
  refine ny_next ?_
  refine cy_seq ?_
  refine cy_region ?_
  refine sy_assign rfl rfl rfl ?_
  refine sy_nil rfl ?_
  refine ny_next ?_
  refine cy_seq ?_
  refine cy_seq ?_
  refine cy_region ?_
  refine sy_assign rfl rfl rfl ?_
  refine sy_nil rfl ?_
  refine ny_next ?_
  refine cy_block ?_
  refine cy_nilRow 65 3 ?_
  refine cy_loopK (ι := Nat × Value) [0, 1, 2, 7] rfl (fun s => s.1 ≤ l1) (fun s => l1 - s.1) (fun s => [(8, s.2), (9, .int .i64 (s.1 : Int))]) (fun s => h) (fun s => [Res.row s.2 65 3 s.1 ((((a.take s.1).map (relev lv)).map evC).flatten)]) (0, .slice none 0 0) [0] (Nat.zero_le _) ⟨rfl, rfl, trivial⟩ rfl rfl ?_
  rintro ⟨i, v8⟩ hI
  simp only at hI ⊢
  refine cy_seq ?_
  refine cy_seq ?_
  refine cy_region ?_
  refine sy_move rfl rfl rfl ?_
  refine sy_move rfl rfl rfl ?_
  refine sy_len rfl (len_slice Tryd.underlying59 _ _ _) rfl rfl ?_
  refine sy_cmp rfl rfl rfl rfl rfl ?_
  refine sy_nil rfl ?_
  refine ny_next ?_
  refine cy_cond rfl (fun hc18 => ?_) (fun hc18 => ?_)
  · have hlti : i < l1 := by have := of_decide_eq_true hc18; omega
    refine cy_skip ?_
    refine ny_next ?_
    refine cy_seq ?_
    refine cy_block ?_
    refine cy_seq ?_
    refine cy_region ?_
    refine sy_move rfl rfl rfl ?_
    refine sy_move rfl rfl rfl ?_
    refine sy_idxR (fc := evC) (es := a) els_59 rfl rfl hp1 hl1 (by omega) rfl rfl (fun e23 b23 o23 he23 hA23 hc23 => ?_)
    refine sy_ldah (vs := evC e23) agg_65 rfl rfl hc23 rfl rfl ?_
    refine sy_alloc zer_65 rfl rfl (fun b10 hb10 hM10 => ?_) (by simp)
    first | refine sy_stl 0 sz_65 rfl rfl rfl rfl rfl rfl rfl rfl ?_ | refine sy_stl 1 sz_65 rfl rfl rfl rfl rfl rfl rfl rfl ?_ | refine sy_stl 2 sz_65 rfl rfl rfl rfl rfl rfl rfl rfl ?_
    refine sy_nil rfl ?_
    refine ny_next ?_
    refine cy_seq ?_
    refine cy_region ?_
    refine sy_move rfl rfl rfl ?_
    refine sy_field fld_65_1 rfl rfl rfl ?_
    first | refine sy_stl 0 sz_3 rfl rfl rfl rfl rfl rfl rfl rfl ?_ | refine sy_stl 1 sz_3 rfl rfl rfl rfl rfl rfl rfl rfl ?_ | refine sy_stl 2 sz_3 rfl rfl rfl rfl rfl rfl rfl rfl ?_
    refine sy_nil rfl ?_
    refine ny_next ?_
    refine cy_region ?_
    refine sy_move rfl rfl rfl ?_
    first | refine sy_ldar 0 agg_65 rfl rfl rfl rfl rfl ?_ | refine sy_ldar 1 agg_65 rfl rfl rfl rfl rfl ?_ | refine sy_ldar 2 agg_65 rfl rfl rfl rfl rfl ?_
    refine sy_buildSlice rfl (fun w => bsl_59_1_0 w) rfl rfl (fun b29 hb29 hM29 => ?_) (by simp)
    refine sy_append 2 0 row_59 (by decide) rfl rfl rfl rfl rfl rfl (by omega) (by simp only [maxLen]; omega) rfl rfl (fun v30 => ?_)
    refine sy_assign rfl rfl rfl ?_
    refine sy_nil rfl ?_
    refine ny_blockN ?_
    refine ny_next ?_
    refine cy_region ?_
    refine sy_move rfl rfl rfl ?_
    refine sy_addi (z := ((i + 1 : Nat) : Int)) rfl rfl (by omega) (by omega) (by omega) rfl rfl ?_
    refine sy_assign rfl rfl rfl ?_
    refine sy_nil rfl ?_
    refine ny_roundK [0, 1, 2, 7] (i + 1, v30) [0] (show i + 1 ≤ l1 by omega) (show l1 - (i + 1) < l1 - i by omega) rfl ⟨rfl, rfl, trivial⟩ rfl (by rw [relev_snoc lv he23]; rfl)
  · have hie : i = a.length := by have := of_decide_eq_false hc18; omega
    subst hie
    rw [List.take_length]
    refine cy_exit ?_
    refine ny_thenE ?_
    refine ny_thenE ?_
    refine ny_blockX ?_
    refine ny_next ?_
    refine cy_seq ?_
    refine cy_frzRow 0 rfl (fun _ _ => by simp) (fun A8 c8 h8 hv8 hlc8 hcm8 _ hle8 hcell8 => ?_)
    subst hv8
    have hr8 : RowsAt h8 A8 3 ((a.map (relev lv)).map evC) := rows_row (by decide) (evC_len _) hcell8
    replace hp1 := hp1.le hle8
    replace hp2 := hp2.le hle8
    replace ht := ht.le hle8
    refine cy_region ?_
    refine sy_move rfl rfl rfl ?_
    refine sy_callx call_41 rfl (texts_c A1 _ c1 a _ hp1 hl1 (by omega) hok1 ht) rfl rfl (fun x32 h32 hx32 hle32 => ?_)
    have hp1 := hp1.le hle32
    have hp2 := hp2.le hle32
    have ht := ht.le hle32
    have hr8 := hr8.le hle32
    obtain ⟨A32, c32⟩ := x32
    obtain ⟨ht32, htc32⟩ := hx32
    simp only at ht32 htc32 ⊢
    refine sy_assign rfl rfl rfl ?_
    refine sy_nil rfl ?_
    refine ny_next ?_
    refine cy_seq ?_
    refine cy_region ?_
    refine sy_move rfl rfl rfl ?_
    refine sy_callx call_41 rfl (texts_c A2 _ c2 b _ hp2 hl2 (by omega) hok2 ht) rfl rfl (fun x34 h34 hx34 hle34 => ?_)
    have hp1 := hp1.le hle34
    have hp2 := hp2.le hle34
    have ht := ht.le hle34
    have hr8 := hr8.le hle34
    have ht32 := ht32.le hle34
    obtain ⟨A34, c34⟩ := x34
    obtain ⟨ht34, htc34⟩ := hx34
    simp only at ht34 htc34 ⊢
    refine sy_assign rfl rfl rfl ?_
    refine sy_nil rfl ?_
    refine ny_next ?_
    refine cy_seq ?_
    refine cy_region ?_
    refine sy_buildSlice (cs := []) rfl (fun w => bsl_59_0_ w) rfl rfl (fun b35 hb35 hM35 => ?_) (by simp)
    refine sy_move rfl rfl rfl ?_
    refine sy_asRow (l := 0) (sz := 3) (cs := []) 0 rfl rfl (Nat.zero_le _) ?_
    refine sy_appendh (news := ((a.map evC).flatten)) 0 row_59 (by decide) rfl rfl rfl (fun hA => by have := hp1.none hA; simp only [List.length_map] at this; omega) (by rw [flat_len (evC_len _)]; simp only [List.length_map]; omega) (hp1.cells (by decide) (evC_len _)) (evC_ones _) (by omega) (by simp only [maxLen]; omega) rfl rfl (fun v37 => ?_)
    refine sy_move rfl rfl rfl ?_
    refine sy_appendh (news := ((b.map evC).flatten)) 0 row_59 (by decide) rfl rfl rfl (fun hA => by have := hp2.none hA; simp only [List.length_map] at this; omega) (by rw [flat_len (evC_len _)]; simp only [List.length_map]; omega) (hp2.cells (by decide) (evC_len _)) (evC_ones _) (by omega) (by simp only [maxLen]; omega) rfl rfl (fun v39 => ?_)
    refine sy_frzRow 0 rfl (fun _ _ => by simp) (fun A39 c39 h39 hv39 hlc39 hcm39 _ hle39 hcell39 => ?_)
    subst hv39
    have hr39 : RowsAt h39 A39 3 ((a ++ b).map evC) := by
      rw [List.nil_append, ← List.flatten_append, ← List.map_append] at hcell39
      exact rows_row (by decide) (evC_len _) hcell39
    replace hp1 := hp1.le hle39
    replace hp2 := hp2.le hle39
    replace ht := ht.le hle39
    replace ht32 := ht32.le hle39
    replace ht34 := ht34.le hle39
    replace hr8 := hr8.le hle39
    refine sy_callx call_41 rfl (texts_c A39 _ c39 (a ++ b) _ hr39 (by first | (simp; done) | (simp; omega)) (by omega) (fun e he => (List.mem_append.1 he).elim (hok1 e) (hok2 e)) ht) rfl rfl (fun x40 h40 hx40 hle40 => ?_)
    have hp1 := hp1.le hle40
    have hp2 := hp2.le hle40
    have ht := ht.le hle40
    have hr8 := hr8.le hle40
    have ht32 := ht32.le hle40
    have ht34 := ht34.le hle40
    obtain ⟨A40, c40⟩ := x40
    obtain ⟨ht40, htc40⟩ := hx40
    simp only at ht40 htc40 ⊢
    refine sy_assign rfl rfl rfl ?_
    refine sy_nil rfl ?_
    refine ny_next ?_
    refine cy_seq ?_
    refine cy_region ?_
    refine sy_move rfl rfl rfl ?_
    refine sy_move rfl rfl rfl ?_
    refine sy_setT (d := 42) rfl rfl (by first | rfl | decide | simp) ?_
    refine sy_move rfl rfl rfl ?_
    refine sy_len rfl (len_slice Tryd.underlying72 _ _ _) rfl rfl ?_
    refine sy_move rfl rfl rfl ?_
    refine sy_len rfl (len_slice Tryd.underlying59 _ _ _) rfl rfl ?_
    refine sy_cmp rfl rfl rfl rfl rfl ?_
    refine sy_pickT rfl rfl rfl rfl ?_
    refine sy_setT (d := 48) rfl rfl (by simp [hl1]) ?_
    refine sy_move rfl rfl rfl ?_
    refine sy_move rfl rfl rfl ?_
    refine sy_move rfl rfl rfl ?_
    refine sy_callx call_41 rfl (texts_c A8 _ c8 (a.map (relev lv)) _ hr8 (by first | (simp; done) | (simp; omega)) (by omega) hkc ht) rfl rfl (fun x52 h52 hx52 hle52 => ?_)
    have hp1 := hp1.le hle52
    have hp2 := hp2.le hle52
    have ht := ht.le hle52
    have hr8 := hr8.le hle52
    have ht32 := ht32.le hle52
    have ht34 := ht34.le hle52
    have ht40 := ht40.le hle52
    obtain ⟨A52, c52⟩ := x52
    obtain ⟨ht52, htc52⟩ := hx52
    simp only at ht52 htc52 ⊢
    refine sy_call rfl call_42 rfl (strings_c A32 A52 _ c32 _ c52 (a.map txt) ((a.map (relev lv)).map txt) _ (by rw [List.map_map]; exact ht32) (by rw [List.length_map]) (by rw [List.map_map]; exact ht52) (by rw [List.length_map]) (by omega) (by simp only [List.length_map]; omega)) rfl rfl ?_
    refine sy_pickT rfl rfl rfl rfl ?_
    refine sy_setT (d := 54) rfl rfl (by rw [List.map_map, show (txt ∘ relev lv) = txt from rfl, strsN_self _ (by simp)]; simp) ?_
    refine sy_move rfl rfl rfl ?_
    refine sy_move rfl rfl rfl ?_
    refine sy_len rfl (len_slice Tryd.underlying72 _ _ _) rfl rfl ?_
    refine sy_move rfl rfl rfl ?_
    refine sy_len rfl (len_slice Tryd.underlying72 _ _ _) rfl rfl ?_
    refine sy_move rfl rfl rfl ?_
    refine sy_len rfl (len_slice Tryd.underlying72 _ _ _) rfl rfl ?_
    refine sy_addi (z := ((a.length + b.length : Nat) : Int)) rfl rfl (by omega) (by omega) (by omega) rfl rfl ?_
    refine sy_cmp rfl rfl rfl rfl rfl ?_
    refine sy_pickT rfl rfl rfl rfl ?_
    refine sy_setT (d := 64) rfl rfl (by simp) ?_
    refine sy_move rfl rfl rfl ?_
    refine sy_buildSlice (cs := []) rfl (fun w => bsl_72_0_ w) rfl rfl (fun b66 hb66 hM66 => ?_) (by simp)
    refine sy_move rfl rfl rfl ?_
    refine sy_asRow (l := 0) (sz := 1) (cs := []) 0 rfl rfl (Nat.zero_le _) ?_
    refine sy_appendh (news := (a.map fun e => [Value.string (txt e)]).flatten) 0 row_72 (by decide) rfl rfl rfl (fun hA => by have := ht32.none hA; simp only [List.length_map] at this; omega) (by rw [flat_len (str_len _ _)]; simp) (ht32.cells (by decide) (str_len _ _)) (strs_ones1 _) (by omega) (by simp only [maxLen]; omega) rfl rfl (fun v68 => ?_)
    refine sy_move rfl rfl rfl ?_
    refine sy_appendh (news := (b.map fun e => [Value.string (txt e)]).flatten) 0 row_72 (by decide) rfl rfl rfl (fun hA => by have := ht34.none hA; simp only [List.length_map] at this; omega) (by rw [flat_len (str_len _ _)]; simp) (ht34.cells (by decide) (str_len _ _)) (strs_ones1 _) (by omega) (by simp only [maxLen]; omega) rfl rfl (fun v70 => ?_)
    refine sy_frzRow 0 rfl (fun _ _ => by simp) (fun A70 c70 h70 hv70 hlc70 hcm70 _ hle70 hcell70 => ?_)
    subst hv70
    have hr70 : RowsAt h70 A70 1 ((a ++ b).map fun e => [Value.string (txt e)]) := by
      rw [List.nil_append, ← List.flatten_append, ← List.map_append] at hcell70
      exact rows_row (by decide) (str_len _ _) hcell70
    replace ht40 := ht40.le hle70
    refine sy_move rfl rfl rfl ?_
    refine sy_call rfl call_42 rfl (strings_c A70 A40 _ c70 _ c40 ((a ++ b).map txt) ((a ++ b).map txt) _ (by rw [List.map_map]; exact hr70) (by rw [List.length_map, List.length_append]; omega) (by rw [List.map_map]; exact ht40) (by rw [List.length_map]) (by omega) (by rw [List.length_append]; omega)) rfl rfl ?_
    refine sy_pickT rfl rfl rfl rfl ?_
    refine sy_setT (d := 73) rfl rfl (by rw [strsN_self _ (by simp)]; simp) ?_
    refine sy_assign rfl rfl rfl ?_
    refine sy_nil rfl ?_
    refine ny_next ?_
    refine cy_ret ?_
    exact ny_finR (res1 rfl rfl) (fun w hs => ⟨rfl, hs.frm⟩)
theorem visible_v (g n : Nat) (u : U) (h : Hp) (hg : h g = some (lat 94 n u)) (hn1 : 1 ≤ n) (hn : n ≤ 16) (hu : ∀ a, u a < 65536) (A : Option Addr) (l c : Nat) (es : List Ev) (lv : Int) (hp : RowsAt h A 3 (es.map evC)) (hl : es.length = l) (hB : l * 32 ≤ 140737488355328) :
    CX Tryd.prog 37 [.pointer (some ⟨g, 0, none⟩), .slice A l c, .int .i64 lv] h (fun x : Option Addr × Nat => .slice x.1 (vis n u es lv).length x.2) (fun x h' => RowsAt h' x.1 3 ((vis n u es lv).map evC) ∧ (vis n u es lv).length ≤ x.2) := visible_c g n u h hg hn1 hn hu A l c es lv hp hl hB
set_option maxRecDepth 100000 in
theorem shares_bad (n : Int) (ca cb : UInt8) (A1 : Option Addr) (l1 c1 : Nat) (A2 : Option Addr) (l2 c2 : Nat) (A : Option Addr) (l c L : Nat) (q : List (Int × Int)) (h : Hp) (hlc : l ≤ c) (hL : L = min l 60) (hq : PairsAt h A q) (hql : q.length = L) (ht : Tab10 h) (e : Int) (hb : ∀ h, PairsAt h A q → C0 Tryd.prog 18 [.int .i64 n, .slice A L c] h (newV (none, e))) (hr : ∀ h, PairsAt h A q → C0 Tryd.prog 30 [.int .i64 n, .slice A L c] h (refV ((none, 0, 0), e))) : C0 Tryd.prog 14 [.agg #[.int .i64 n, .slice A l c], .slice A1 l1 c1, .slice A2 l2 c2, .int .u8 (ca.toNat : Int), .int .u8 (cb.toNat : Int)] h (.bool true) := by
  refine enter0 Tryd.func14 rfl rfl rfl (fun w => ?_)
  refine cy_seq ?_
  refine cy_region ?_
  refine sy_box rfl rfl rfl rfl (fun b5 hb5 hM5 => ?_) (by simp)
  refine sy_assign rfl rfl rfl ?_
  refine sy_nil rfl ?_
  refine ny_next ?_
  refine cy_seq ?_
  refine cy_region ?_
  refine sy_call rfl call_34 rfl (shown15_c _ ht) rfl rfl ?_
  refine sy_assign rfl rfl rfl ?_
  refine sy_nil rfl ?_
  refine ny_next ?_
  refine cy_seq ?_
  refine cy_region ?_
  first | refine sy_ldar 0 agg_24 rfl rfl rfl rfl rfl ?_ | refine sy_ldar 1 agg_24 rfl rfl rfl rfl rfl ?_ | refine sy_ldar 2 agg_24 rfl rfl rfl rfl rfl ?_
  refine sy_call rfl call_35 rfl (of_bad n A l c L q _ hlc hL hq hql e hb hr) rfl rfl ?_
  refine sy_move rfl rfl rfl ?_
  refine sy_extract rfl rfl rfl rfl ?_
  refine sy_extract rfl rfl rfl rfl ?_
  refine sy_alloc zer_52 rfl rfl (fun b13 hb13 hM13 => ?_) (by simp)
  refine sy_assign rfl rfl rfl ?_
  first | refine sy_stl 0 sz_52 rfl rfl rfl rfl rfl rfl rfl rfl ?_ | refine sy_stl 1 sz_52 rfl rfl rfl rfl rfl rfl rfl rfl ?_ | refine sy_stl 2 sz_52 rfl rfl rfl rfl rfl rfl rfl rfl ?_
  refine sy_nil rfl ?_
  refine ny_next ?_
  refine cy_seq ?_
  refine cy_seq ?_
  refine cy_region ?_
  refine sy_move rfl rfl rfl ?_
  refine sy_eqp Tryd.underlying27 rfl rfl rfl rfl rfl ?_
  refine sy_setT (d := 25) rfl rfl rfl ?_
  refine sy_nil rfl ?_
  refine ny_next ?_
  refine cy_condT rfl ?_
  refine cy_seq ?_
  refine cy_region ?_
  refine sy_move rfl rfl rfl ?_
  refine sy_assign rfl rfl rfl ?_
  refine sy_nil rfl ?_
  refine ny_next ?_
  refine cy_ret ?_
  refine ny_thenR ?_
  exact ny_finR (res1 rfl rfl) (fun w hs => ⟨rfl, hs.frm⟩)
set_option maxRecDepth 100000 in
theorem shares_good (k : Nat) (ca cb : UInt8) (x y : Nat) (A : Option Addr) (l c L : Nat) (q : List (Int × Int)) (h : Hp) (hlc : l ≤ c) (hL : L = min l 60) (hq : PairsAt h A q) (hql : q.length = L) (A1 : Option Addr) (l1 c1 : Nat) (a : List Ev) (hp1 : RowsAt h A1 3 (a.map evC)) (hl1 : a.length = l1) (hs1 : l1 ≤ 1048576) (hok1 : ∀ e, e ∈ a → okE e) (A2 : Option Addr) (l2 c2 : Nat) (b : List Ev) (hp2 : RowsAt h A2 3 (b.map evC)) (hl2 : b.length = l2) (hs2 : l2 ≤ 1048576) (hok2 : ∀ e, e ∈ b → okE e) (ht : Tab10 h) (hF : Fine (k : Int) q) (j m2 : Nat → Nat → Nat) (lo hi : Nat) (L2 : Lat2 k q j m2 lo hi) (hx : x = ca.toNat % k) (hy : y = cb.toNat % k) : C0 Tryd.prog 14 [.agg #[.int .i64 (k : Int), .slice A l c], .slice A1 l1 c1, .slice A2 l2 c2, .int .u8 (ca.toNat : Int), .int .u8 (cb.toNat : Int)] h (.bool true) := by
  have hk1 : 1 ≤ k := by have := hF.1; omega
  have hk2 : k ≤ 16 := by have := hF.2.1; omega
  have hca := ca.toNat_lt
  have hcb := cb.toNat_lt
  have hxk : x < k := by rw [hx]; exact Nat.mod_lt _ hk1
  have hyk : y < k := by rw [hy]; exact Nat.mod_lt _ hk1
  refine enter0 Tryd.func14 rfl rfl rfl (fun w => ?_)
  refine cy_seq ?_
  refine cy_region ?_
  refine sy_box rfl rfl rfl rfl (fun b5 hb5 hM5 => ?_) (by simp)
  refine sy_assign rfl rfl rfl ?_
  refine sy_nil rfl ?_
  refine ny_next ?_
  refine cy_seq ?_
  refine cy_region ?_
  refine sy_call rfl call_34 rfl (shown15_c _ ht) rfl rfl ?_
  refine sy_assign rfl rfl rfl ?_
  refine sy_nil rfl ?_
  refine ny_next ?_
  refine cy_seq ?_
  refine cy_region ?_
  first | refine sy_ldar 0 agg_24 rfl rfl rfl rfl rfl ?_ | refine sy_ldar 1 agg_24 rfl rfl rfl rfl rfl ?_ | refine sy_ldar 2 agg_24 rfl rfl rfl rfl rfl ?_
  refine sy_callx call_35 rfl (of_good k A l c L q _ hlc hL hq hql hF) rfl rfl (fun x21 h21 hx21 hle21 => ?_)
  have hp1 := hp1.le hle21
  have hp2 := hp2.le hle21
  obtain ⟨g, A5, c5⟩ := x21
  obtain ⟨hg, hT⟩ := hx21
  simp only at hg hT ⊢
  refine sy_move rfl rfl rfl ?_
  refine sy_extract rfl rfl rfl rfl ?_
  refine sy_extract rfl rfl rfl rfl ?_
  refine sy_alloc zer_52 rfl rfl (fun b13 hb13 hM13 => ?_) (by simp)
  refine sy_assign rfl rfl rfl ?_
  first | refine sy_stl 0 sz_52 rfl rfl rfl rfl rfl rfl rfl rfl ?_ | refine sy_stl 1 sz_52 rfl rfl rfl rfl rfl rfl rfl rfl ?_ | refine sy_stl 2 sz_52 rfl rfl rfl rfl rfl rfl rfl rfl ?_
  refine sy_nil rfl ?_
  refine ny_next ?_
  refine cy_seq ?_
  refine cy_seq ?_
  refine cy_region ?_
  refine sy_move rfl rfl rfl ?_
  refine sy_eqp Tryd.underlying27 rfl rfl rfl rfl rfl ?_
  refine sy_setF (d := 25) rfl rfl rfl ?_
  refine sy_nil rfl ?_
  refine ny_next ?_
  refine cy_condF rfl ?_
  refine cy_skip ?_
  refine ny_next ?_
  refine cy_seq ?_
  refine cy_region ?_
  refine sy_move rfl rfl rfl ?_
  refine sy_convi Tryd.underlying5 Tryd.underlying3 rfl (by omega) (by omega) rfl rfl ?_
  refine sy_move rfl rfl rfl ?_
  refine sy_call rfl call_21 rfl (len_c _ _ _ _ hg) rfl rfl ?_
  refine sy_rem (z := ((x : Nat) : Int)) rfl rfl (by omega) (by omega) (by omega) (by omega) rfl rfl ?_
  refine sy_assign rfl rfl rfl ?_
  refine sy_nil rfl ?_
  refine ny_next ?_
  refine cy_seq ?_
  refine cy_region ?_
  refine sy_move rfl rfl rfl ?_
  refine sy_convi Tryd.underlying5 Tryd.underlying3 rfl (by omega) (by omega) rfl rfl ?_
  refine sy_move rfl rfl rfl ?_
  refine sy_call rfl call_21 rfl (len_c _ _ _ _ hg) rfl rfl ?_
  refine sy_rem (z := ((y : Nat) : Int)) rfl rfl (by omega) (by omega) (by omega) (by omega) rfl rfl ?_
  refine sy_assign rfl rfl rfl ?_
  refine sy_nil rfl ?_
  refine ny_next ?_
  refine cy_seq ?_
  refine cy_region ?_
  refine sy_buildSlice (cs := []) rfl (fun w => bsl_59_0_ w) rfl rfl (fun b37 hb37 hM37 => ?_) (by simp)
  refine sy_move rfl rfl rfl ?_
  refine sy_asRow (l := 0) (sz := 3) (cs := []) 0 rfl rfl (Nat.zero_le _) ?_
  refine sy_appendh (news := ((a.map evC).flatten)) 0 row_59 (by decide) rfl rfl rfl (fun hA => by have := hp1.none hA; simp only [List.length_map] at this; omega) (by rw [flat_len (evC_len _)]; simp only [List.length_map]; omega) (hp1.cells (by decide) (evC_len _)) (evC_ones _) (by omega) (by simp only [maxLen]; omega) rfl rfl (fun v39 => ?_)
  refine sy_move rfl rfl rfl ?_
  refine sy_appendh (news := ((b.map evC).flatten)) 0 row_59 (by decide) rfl rfl rfl (fun hA => by have := hp2.none hA; simp only [List.length_map] at this; omega) (by rw [flat_len (evC_len _)]; simp only [List.length_map]; omega) (hp2.cells (by decide) (evC_len _)) (evC_ones _) (by omega) (by simp only [maxLen]; omega) rfl rfl (fun v41 => ?_)
  refine sy_assign rfl rfl rfl ?_
  refine sy_nil rfl ?_
  refine ny_next ?_
  refine cy_seq ?_
  refine cy_frzRow 0 rfl (fun _ _ => by simp) (fun A16 c16 h16 hv16 hlc16 hcm16 _ hle16 hcell16 => ?_)
  subst hv16
  have hr16 : RowsAt h16 A16 3 ((a ++ b).map evC) := by
    rw [List.nil_append, ← List.flatten_append, ← List.map_append] at hcell16
    exact rows_row (by decide) (evC_len _) hcell16
  replace hp1 := hp1.le hle16
  replace hp2 := hp2.le hle16
  replace hg := hle16 _ _ hg
  refine cy_region ?_
  refine sy_buildSlice (cs := []) rfl (fun w => bsl_59_0_ w) rfl rfl (fun b42 hb42 hM42 => ?_) (by simp)
  refine sy_move rfl rfl rfl ?_
  refine sy_move rfl rfl rfl ?_
  refine sy_move rfl rfl rfl ?_
  have hva : (vis k (ru k q) a (x : Int)).length ≤ l1 := hl1 ▸ vis_le
  have hvb : (vis k (ru k q) b (x : Int)).length ≤ l2 := hl2 ▸ vis_le
  refine sy_callx call_37 rfl (visible_v g k (ru k q) _ hg hk1 hk2 (ru_lt hk2 q) A1 _ c1 a (x : Int) hp1 hl1 (by omega)) rfl rfl (fun x46 h46 hx46 hle46 => ?_)
  have hp1 := hp1.le hle46
  have hp2 := hp2.le hle46
  have hg := hle46 _ _ hg
  have hr16 := hr16.le hle46
  obtain ⟨A46, c46⟩ := x46
  obtain ⟨hv46, hvc46⟩ := hx46
  simp only at hv46 hvc46 ⊢
  refine sy_asRow (l := 0) (sz := 3) (cs := []) 0 rfl rfl (Nat.zero_le _) ?_
  refine sy_appendh (news := ((((vis k (ru k q) a (x : Int))).map evC).flatten)) 0 row_59 (by decide) rfl rfl rfl (fun hA => by have := hv46.none hA; simp only [List.length_map] at this; omega) (by rw [flat_len (evC_len _), List.length_map]) (hv46.cells (by decide) (evC_len _)) (evC_ones _) (by omega) (by simp only [maxLen]; omega) rfl rfl (fun v47 => ?_)
  refine sy_move rfl rfl rfl ?_
  refine sy_move rfl rfl rfl ?_
  refine sy_move rfl rfl rfl ?_
  refine sy_callx call_37 rfl (visible_v g k (ru k q) _ hg hk1 hk2 (ru_lt hk2 q) A2 _ c2 b (x : Int) hp2 hl2 (by omega)) rfl rfl (fun x51 h51 hx51 hle51 => ?_)
  have hp1 := hp1.le hle51
  have hp2 := hp2.le hle51
  have hg := hle51 _ _ hg
  have hr16 := hr16.le hle51
  have hv46 := hv46.le hle51
  obtain ⟨A51, c51⟩ := x51
  obtain ⟨hv51, hvc51⟩ := hx51
  simp only at hv51 hvc51 ⊢
  refine sy_appendh (news := ((((vis k (ru k q) b (x : Int))).map evC).flatten)) 0 row_59 (by decide) rfl rfl rfl (fun hA => by have := hv51.none hA; simp only [List.length_map] at this; omega) (by rw [flat_len (evC_len _), List.length_map]) (hv51.cells (by decide) (evC_len _)) (evC_ones _) (by omega) (by simp only [maxLen]; omega) rfl rfl (fun v52 => ?_)
  refine sy_assign rfl rfl rfl ?_
  refine sy_nil rfl ?_
  refine ny_next ?_
  refine cy_seq ?_
  refine cy_frzRow 0 rfl (fun _ _ => by simp) (fun A17 c17 h17 hv17 hlc17 hcm17 _ hle17 hcell17 => ?_)
  subst hv17
  have hr17 : RowsAt h17 A17 3 (((vis k (ru k q) a (x : Int)) ++ (vis k (ru k q) b (x : Int))).map evC) := by
    rw [List.nil_append, ← List.flatten_append, ← List.map_append] at hcell17
    exact rows_row (by decide) (evC_len _) hcell17
  replace hp1 := hp1.le hle17
  replace hp2 := hp2.le hle17
  replace hr16 := hr16.le hle17
  replace hv46 := hv46.le hle17
  replace hv51 := hv51.le hle17
  replace hg := hle17 _ _ hg
  refine cy_region ?_
  refine sy_move rfl rfl rfl ?_
  refine sy_move rfl rfl rfl ?_
  refine sy_setT (d := 54) rfl rfl (by first | rfl | decide | simp) ?_
  refine sy_move rfl rfl rfl ?_
  refine sy_move rfl rfl rfl ?_
  refine sy_move rfl rfl rfl ?_
  refine sy_callx call_37 rfl (visible_v g k (ru k q) _ hg hk1 hk2 (ru_lt hk2 q) A16 _ c16 (a ++ b) (x : Int) hr16 (by first | rfl | (simp; done) | (simp; omega)) (by omega)) rfl rfl (fun x58 h58 hx58 hle58 => ?_)
  have hp1 := hp1.le hle58
  have hp2 := hp2.le hle58
  have hg := hle58 _ _ hg
  have hr16 := hr16.le hle58
  have hv46 := hv46.le hle58
  have hv51 := hv51.le hle58
  have hr17 := hr17.le hle58
  obtain ⟨A58, c58⟩ := x58
  obtain ⟨hv58, hvc58⟩ := hx58
  simp only at hv58 hvc58 ⊢
  refine sy_move rfl rfl rfl ?_
  refine sy_call rfl call_38 rfl (same_c A58 A17 _ c58 _ c17 (vis k (ru k q) (a ++ b) (x : Int)) ((vis k (ru k q) a (x : Int)) ++ (vis k (ru k q) b (x : Int))) _ hv58 rfl hr17 (by rw [List.length_append, Nat.zero_add]) (by have h9 : (vis k (ru k q) (a ++ b) (x : Int)).length ≤ (a ++ b).length := vis_le; simp only [List.length_append] at h9; show (vis k (ru k q) (a ++ b) (x : Int)).length ≤ _; omega) (by show 0 + (vis k (ru k q) a (x : Int)).length + (vis k (ru k q) b (x : Int)).length ≤ _; omega)) rfl rfl ?_
  refine sy_pickT rfl rfl rfl rfl ?_
  refine sy_setT (d := 61) rfl rfl (by rw [vis_append, sameB_refl]) ?_
  refine sy_move rfl rfl rfl ?_
  refine sy_move rfl rfl rfl ?_
  refine sy_move rfl rfl rfl ?_
  refine sy_move rfl rfl rfl ?_
  refine sy_move rfl rfl rfl ?_
  refine sy_callx call_37 rfl (visible_v g k (ru k q) _ hg hk1 hk2 (ru_lt hk2 q) A1 _ c1 a (x : Int) hp1 hl1 (by omega)) rfl rfl (fun x67 h67 hx67 hle67 => ?_)
  have hp1 := hp1.le hle67
  have hp2 := hp2.le hle67
  have hg := hle67 _ _ hg
  have hr16 := hr16.le hle67
  have hv46 := hv46.le hle67
  have hv51 := hv51.le hle67
  have hr17 := hr17.le hle67
  have hv58 := hv58.le hle67
  obtain ⟨A67, c67⟩ := x67
  obtain ⟨hv67, hvc67⟩ := hx67
  simp only at hv67 hvc67 ⊢
  refine sy_move rfl rfl rfl ?_
  refine sy_callx call_37 rfl (visible_v g k (ru k q) _ hg hk1 hk2 (ru_lt hk2 q) A67 _ c67 (vis k (ru k q) a (x : Int)) (y : Int) hv67 rfl (by show (vis k (ru k q) a (x : Int)).length * 32 ≤ _; omega)) rfl rfl (fun x69 h69 hx69 hle69 => ?_)
  have hp1 := hp1.le hle69
  have hp2 := hp2.le hle69
  have hg := hle69 _ _ hg
  have hr16 := hr16.le hle69
  have hv46 := hv46.le hle69
  have hv51 := hv51.le hle69
  have hr17 := hr17.le hle69
  have hv58 := hv58.le hle69
  have hv67 := hv67.le hle69
  obtain ⟨A69, c69⟩ := x69
  obtain ⟨hv69, hvc69⟩ := hx69
  simp only at hv69 hvc69 ⊢
  refine sy_move rfl rfl rfl ?_
  refine sy_move rfl rfl rfl ?_
  refine sy_move rfl rfl rfl ?_
  refine sy_move rfl rfl rfl ?_
  refine sy_move rfl rfl rfl ?_
  refine sy_call rfl call_43 rfl (meetJ_c hg hk2 L2 hxk hyk) rfl rfl ?_
  refine sy_callx call_37 rfl (visible_v g k (ru k q) _ hg hk1 hk2 (ru_lt hk2 q) A1 _ c1 a ((m2 x y : Nat) : Int) hp1 hl1 (by omega)) rfl rfl (fun x76 h76 hx76 hle76 => ?_)
  have hp1 := hp1.le hle76
  have hp2 := hp2.le hle76
  have hg := hle76 _ _ hg
  have hr16 := hr16.le hle76
  have hv46 := hv46.le hle76
  have hv51 := hv51.le hle76
  have hr17 := hr17.le hle76
  have hv58 := hv58.le hle76
  have hv67 := hv67.le hle76
  have hv69 := hv69.le hle76
  obtain ⟨A76, c76⟩ := x76
  obtain ⟨hv76, hvc76⟩ := hx76
  simp only at hv76 hvc76 ⊢
  refine sy_call rfl call_38 rfl (same_c A69 A76 _ c69 _ c76 (vis k (ru k q) (vis k (ru k q) a (x : Int)) (y : Int)) (vis k (ru k q) a ((m2 x y : Nat) : Int)) _ hv69 rfl hv76 rfl (by have h9 : (vis k (ru k q) (vis k (ru k q) a (x : Int)) (y : Int)).length ≤ (vis k (ru k q) a (x : Int)).length := vis_le; show (vis k (ru k q) (vis k (ru k q) a (x : Int)) (y : Int)).length ≤ _; omega) (by have h9 : (vis k (ru k q) a ((m2 x y : Nat) : Int)).length ≤ l1 := hl1 ▸ vis_le; show (vis k (ru k q) a ((m2 x y : Nat) : Int)).length ≤ _; omega)) rfl rfl ?_
  refine sy_pickT rfl rfl rfl rfl ?_
  refine sy_setT (d := 78) rfl rfl (by rw [vis_meet L2 a hxk hyk, sameB_refl]) ?_
  refine sy_assign rfl rfl rfl ?_
  refine sy_nil rfl ?_
  refine ny_next ?_
  refine cy_ret ?_
  exact ny_finR (res1 rfl rfl) (fun w hs => ⟨rfl, hs.frm⟩)
theorem shares_c (n : Int) (ca cb : UInt8) (A : Option Addr) (l c L : Nat) (q : List (Int × Int)) (h : Hp) (hlc : l ≤ c) (hL : L = min l 60) (hq : PairsAt h A q) (hql : q.length = L) (A1 : Option Addr) (l1 c1 : Nat) (a : List Ev) (hp1 : RowsAt h A1 3 (a.map evC)) (hl1 : a.length = l1) (hs1 : l1 ≤ 1048576) (hok1 : ∀ e, e ∈ a → okE e) (A2 : Option Addr) (l2 c2 : Nat) (b : List Ev) (hp2 : RowsAt h A2 3 (b.map evC)) (hl2 : b.length = l2) (hs2 : l2 ≤ 1048576) (hok2 : ∀ e, e ∈ b → okE e) (ht : Tab10 h) : C0 Tryd.prog 14 [.agg #[.int .i64 n, .slice A l c], .slice A1 l1 c1, .slice A2 l2 c2, .int .u8 (ca.toNat : Int), .int .u8 (cb.toNat : Int)] h (.bool true) := by
  by_cases hF : Fine n q
  · obtain ⟨k, rfl⟩ := Int.eq_ofNat_of_zero_le (show 0 ≤ n by have := hF.1; omega)
    obtain ⟨j, m2, lo, hi, L2⟩ := IsLatt.two (n := k) hF.2.2.2 (by have := hF.1; omega)
    exact shares_good k ca cb _ _ A l c L q h hlc hL hq hql A1 l1 c1 a hp1 hl1 hs1 hok1 A2 l2 c2 b hp2 hl2 hs2 hok2 ht hF j m2 lo hi L2 rfl rfl
  · obtain ⟨e, he, hb, hr⟩ := both_c n A L c q hql (by omega) hF
    exact shares_bad n ca cb A1 l1 c1 A2 l2 c2 A l c L q h hlc hL hq hql ht e hb hr
end Go.Proofs.YtamifocfbcmfkaaDoor

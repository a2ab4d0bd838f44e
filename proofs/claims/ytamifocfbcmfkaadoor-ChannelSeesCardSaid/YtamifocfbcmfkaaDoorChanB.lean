/- The first laws on channels: each returns true, and turns nothing. Conditions: none. Printed by a program of this session. -/
import Derived.Test.YtamifocfbcmfkaaDoorFactsH
import Derived.Test.YtamifocfbcmfkaaDoorLattS
import Derived.Test.YtamifocfbcmfkaaDoorLattLaw2
set_option linter.unusedVariables false
set_option linter.unusedSimpArgs false
namespace Go.Proofs.YtamifocfbcmfkaaDoor
open Go.RowKit Go.Proofs.YtamifocfbcmfkaaDoor.E Go.Proofs.YtamifocfbcmfkaaDoor.LattP Go.Proofs.YtamifocfbcmfkaaDoor.ChanP
def es0 : List Ev := [⟨1, 0, ⟨#[97]⟩⟩, ⟨1, 2, ⟨#[98]⟩⟩, ⟨2, 1, ⟨#[99]⟩⟩]
theorem ok0 : ∀ e, e ∈ es0 → okE e := fun e he => by
  simp only [es0, List.mem_cons, List.not_mem_nil, or_false] at he
  rcases he with rfl | rfl | rfl <;> exact ⟨by decide, by decide, by decide, by decide, by decide⟩
theorem fil0 : (es0.filter fun e => leqI 3 (ru 3 (ch 2)) e.l 1) = [⟨1, 0, ⟨#[97]⟩⟩, ⟨2, 1, ⟨#[99]⟩⟩] := by
  have h : ∀ a b : Nat, a < 3 → b < 3 → leqI 3 (ru 3 (ch 2)) a b = decide ((a : Int) ≤ (b : Int)) := fun a b ha hb => ch_leq (k := 3) (by decide) ha hb
  have h0 := h 0 1 (by decide) (by decide)
  have h1 := h 2 1 (by decide) (by decide)
  have h2 := h 1 1 (by decide) (by decide)
  simp only [es0, List.filter_cons, List.filter_nil]
  rw [show leqI 3 (ru 3 (ch 2)) 0 1 = true from h0, show leqI 3 (ru 3 (ch 2)) 2 1 = false from h1, show leqI 3 (ru 3 (ch 2)) 1 1 = true from h2]
  rfl
theorem txt0 : ((txt ⟨2, 1, ⟨#[99]⟩⟩).data.toList == [50, 32, 99]) = true := by kernel_rfl
theorem lev0 : (if isI 3 9 then (9 : Int) else topI 3 (ru 3 (ch 2))) = 2 := ch_top (k := 3) (by decide) (by decide)
set_option maxRecDepth 100000 in
theorem level_c (g n : Nat) (u : U) (h : Hp) (hg : h g = some (lat 94 n u)) (hn1 : 1 ≤ n) (hn : n ≤ 16) (hu : ∀ a, u a < 65536) (m : Int) : C0 Tryd.prog 40 [.pointer (some ⟨g, 0, none⟩), .int .i64 m] h (.int .i64 (if isI n m then m else topI n u)) := by
  refine enter0 Tryd.func40 rfl rfl rfl (fun w => ?_)
  refine cy_seq ?_
  refine cy_region ?_
  refine sy_assign rfl rfl rfl ?_
  refine sy_nil rfl ?_
  refine ny_next ?_
  refine cy_seq ?_
  refine cy_seq ?_
  refine cy_region ?_
  refine sy_move rfl rfl rfl ?_
  refine sy_cmp rfl rfl rfl rfl rfl ?_
  refine sy_move rfl rfl rfl ?_
  refine sy_cond (d := 7) _ rfl rfl (fun hg7 => ?_) (fun hg7 => ?_)
  · refine sy_skip rfl rfl rfl ?_
    refine sy_skip rfl rfl rfl ?_
    refine sy_skip rfl rfl rfl ?_
    refine sy_skip rfl rfl rfl ?_
    refine sy_pickT rfl rfl rfl rfl ?_
    refine sy_nil rfl ?_
    refine ny_next ?_
    refine cy_condT rfl ?_
    refine cy_seq ?_
    refine cy_region ?_
    refine sy_move rfl rfl rfl ?_
    refine sy_call rfl call_26 rfl (top_c _ _ _ _ hg hn1 hn hu) rfl rfl ?_
    refine sy_assign rfl rfl rfl ?_
    refine sy_nil rfl ?_
    refine ny_next ?_
    refine cy_ret ?_
    refine ny_thenR ?_
    refine ny_finR (res1 rfl rfl) (fun w hs => ⟨?_, hs.frm⟩)
    rw [if_neg (by simp_all [isI]; try omega)]
  · refine sy_move rfl rfl rfl ?_
    refine sy_move rfl rfl rfl ?_
    refine sy_call rfl call_21 rfl (len_c _ _ _ _ hg) rfl rfl ?_
    refine sy_cmp rfl rfl rfl rfl rfl ?_
    refine sy_pickF rfl rfl rfl rfl ?_
    refine sy_nil rfl ?_
    refine ny_next ?_
    refine cy_cond rfl (fun hc12 => ?_) (fun hc12 => ?_)
    · refine cy_seq ?_
      refine cy_region ?_
      refine sy_move rfl rfl rfl ?_
      refine sy_call rfl call_26 rfl (top_c _ _ _ _ hg hn1 hn hu) rfl rfl ?_
      refine sy_assign rfl rfl rfl ?_
      refine sy_nil rfl ?_
      refine ny_next ?_
      refine cy_ret ?_
      refine ny_thenR ?_
      refine ny_finR (res1 rfl rfl) (fun w hs => ⟨?_, hs.frm⟩)
      rw [if_neg (by simp_all [isI]; try omega)]
    · refine cy_skip ?_
      refine ny_next ?_
      refine cy_seq ?_
      refine cy_region ?_
      refine sy_move rfl rfl rfl ?_
      refine sy_assign rfl rfl rfl ?_
      refine sy_nil rfl ?_
      refine ny_next ?_
      refine cy_ret ?_
      refine ny_finR (res1 rfl rfl) (fun w hs => ⟨?_, hs.frm⟩)
      rw [if_pos (by simp_all [isI])]
set_option maxRecDepth 100000 in
theorem of_good (k : Nat) (A : Option Addr) (l c L : Nat) (q : List (Int × Int)) (h : Hp) (hlc : l ≤ c) (hL : L = min l 60) (hq : PairsAt h A q) (hql : q.length = L) (hF : Fine (k : Int) q) : CX Tryd.prog 35 [.agg #[.int .i64 (k : Int), .slice A l c]] h (fun x : Nat × (Option Addr × Nat) => .tuple #[.pointer (some ⟨x.1, 0, none⟩), .agg #[.slice x.2.1 k x.2.2]]) (fun x h' => h' x.1 = some (lat 94 k (ru k q)) ∧ RefT h' x.2.1 k (tw q k)) := by
  refine enterX Tryd.func35 rfl rfl rfl (fun w => ?_)
  refine cy_seq ?_
  refine cy_region ?_
  refine sy_box rfl rfl rfl rfl (fun b1 hb1 hM1 => ?_) (by simp)
  refine sy_assign rfl rfl rfl ?_
  refine sy_alloc zer_52 rfl rfl (fun b3 hb3 hM3 => ?_) (by simp)
  refine sy_nil rfl ?_
  refine ny_next ?_
  refine cy_seq ?_
  refine cy_region ?_
  refine sy_field fld_24_1 rfl rfl rfl ?_
  first | refine sy_ldr 0 one_22 rfl rfl rfl rfl rfl ?_ | refine sy_ldr 1 one_22 rfl rfl rfl rfl rfl ?_ | refine sy_ldr 2 one_22 rfl rfl rfl rfl rfl ?_ | refine sy_ldr 3 one_22 rfl rfl rfl rfl rfl ?_
  refine sy_assign rfl rfl rfl ?_
  refine sy_nil rfl ?_
  refine ny_next ?_
  refine cy_seq ?_
  refine cy_seq ?_
  refine cy_region ?_
  refine sy_move rfl rfl rfl ?_
  refine sy_len rfl (len_slice Tryd.underlying22 _ _ _) rfl rfl ?_
  refine sy_cmp rfl rfl rfl rfl rfl ?_
  refine sy_nil rfl ?_
  refine ny_next ?_
  refine cy_cond rfl (fun hc13 => ?_) (fun hc13 => ?_)
  · obtain rfl : L = 60 := by have := of_decide_eq_true hc13; omega
    refine cy_region ?_
    refine sy_move rfl rfl rfl ?_
    refine sy_cutTo (k0 := 60) els_22 rfl rfl (by have := of_decide_eq_true hc13; omega) rfl rfl ?_
    refine sy_assign rfl rfl rfl ?_
    refine sy_nil rfl ?_
    refine ny_next ?_
    refine cy_seq ?_
    refine cy_region ?_
    refine sy_field fld_24_0 rfl rfl rfl ?_
    first | refine sy_ldr 0 one_3 rfl rfl rfl rfl rfl ?_ | refine sy_ldr 1 one_3 rfl rfl rfl rfl rfl ?_ | refine sy_ldr 2 one_3 rfl rfl rfl rfl rfl ?_ | refine sy_ldr 3 one_3 rfl rfl rfl rfl rfl ?_
    refine sy_move rfl rfl rfl ?_
    refine sy_callx call_18 rfl (newGood_c k A _ c q _ hF hq hql (by omega)) rfl rfl (fun g h2 hg2 hle2 => ?_)
    refine sy_move rfl rfl rfl ?_
    refine sy_extract rfl rfl rfl rfl ?_
    refine sy_extract rfl rfl rfl rfl ?_
    refine sy_assign rfl rfl rfl ?_
    refine sy_assign rfl rfl rfl ?_
    refine sy_nil rfl ?_
    refine ny_next ?_
    refine cy_seq ?_
    refine cy_region ?_
    refine sy_field fld_24_0 rfl rfl rfl ?_
    first | refine sy_ldr 0 one_3 rfl rfl rfl rfl rfl ?_ | refine sy_ldr 1 one_3 rfl rfl rfl rfl rfl ?_ | refine sy_ldr 2 one_3 rfl rfl rfl rfl rfl ?_ | refine sy_ldr 3 one_3 rfl rfl rfl rfl rfl ?_
    refine sy_move rfl rfl rfl ?_
    refine sy_callx call_30 rfl (rNewGood_c k A _ c q _ hF (hq.le hle2) hql (by omega)) rfl rfl (fun x27 h3 hT hle3 => ?_)
    obtain ⟨A5, c5⟩ := x27
    simp only at hT ⊢
    refine sy_move rfl rfl rfl ?_
    refine sy_extract rfl rfl rfl rfl ?_
    refine sy_extract rfl rfl rfl rfl ?_
    refine sy_alloc zer_52 rfl rfl (fun b7 hb7 hM7 => ?_) (by simp)
    first | refine sy_stl 0 sz_52 rfl rfl rfl rfl rfl rfl rfl rfl ?_ | refine sy_stl 1 sz_52 rfl rfl rfl rfl rfl rfl rfl rfl ?_ | refine sy_stl 2 sz_52 rfl rfl rfl rfl rfl rfl rfl rfl ?_ | refine sy_stl 3 sz_52 rfl rfl rfl rfl rfl rfl rfl rfl ?_
    refine sy_assign rfl rfl rfl ?_
    refine sy_nil rfl ?_
    refine ny_next ?_
    refine cy_seq ?_
    refine cy_regionS 3 mixedA (by kernel_rfl) rfl ?_
    refine sy_move rfl rfl rfl ?_
    first | refine sy_ldar 0 agg_52 rfl rfl rfl rfl rfl ?_ | refine sy_ldar 1 agg_52 rfl rfl rfl rfl rfl ?_ | refine sy_ldar 2 agg_52 rfl rfl rfl rfl rfl ?_ | refine sy_ldar 3 agg_52 rfl rfl rfl rfl rfl ?_
    refine sy_assign rfl rfl rfl ?_
    refine sy_tail ?_
    first | refine sy_stl 0 sz_52 rfl rfl rfl rfl rfl rfl rfl rfl ?_ | refine sy_stl 1 sz_52 rfl rfl rfl rfl rfl rfl rfl rfl ?_ | refine sy_stl 2 sz_52 rfl rfl rfl rfl rfl rfl rfl rfl ?_ | refine sy_stl 3 sz_52 rfl rfl rfl rfl rfl rfl rfl rfl ?_
    refine sy_nil rfl ?_
    refine ny_next ?_
    refine cy_ret ?_
    first | refine ny_finR (resc2 0 rfl agg_52 rfl rfl rfl rfl) (fun w hs => ?_) | refine ny_finR (resc2 1 rfl agg_52 rfl rfl rfl rfl) (fun w hs => ?_) | refine ny_finR (resc2 2 rfl agg_52 rfl rfl rfl rfl) (fun w hs => ?_) | refine ny_finR (resc2 3 rfl agg_52 rfl rfl rfl rfl) (fun w hs => ?_)
    exact ⟨(g, A5, c5), _, rfl, ⟨hle3 _ _ hg2, hT⟩, hs.toGrow⟩
  · obtain rfl : L = l := by have := of_decide_eq_false hc13; omega
    refine cy_skip ?_
    refine ny_next ?_
    refine cy_seq ?_
    refine cy_region ?_
    refine sy_field fld_24_0 rfl rfl rfl ?_
    first | refine sy_ldr 0 one_3 rfl rfl rfl rfl rfl ?_ | refine sy_ldr 1 one_3 rfl rfl rfl rfl rfl ?_ | refine sy_ldr 2 one_3 rfl rfl rfl rfl rfl ?_ | refine sy_ldr 3 one_3 rfl rfl rfl rfl rfl ?_
    refine sy_move rfl rfl rfl ?_
    refine sy_callx call_18 rfl (newGood_c k A _ c q _ hF hq hql (by omega)) rfl rfl (fun g h2 hg2 hle2 => ?_)
    refine sy_move rfl rfl rfl ?_
    refine sy_extract rfl rfl rfl rfl ?_
    refine sy_extract rfl rfl rfl rfl ?_
    refine sy_assign rfl rfl rfl ?_
    refine sy_assign rfl rfl rfl ?_
    refine sy_nil rfl ?_
    refine ny_next ?_
    refine cy_seq ?_
    refine cy_region ?_
    refine sy_field fld_24_0 rfl rfl rfl ?_
    first | refine sy_ldr 0 one_3 rfl rfl rfl rfl rfl ?_ | refine sy_ldr 1 one_3 rfl rfl rfl rfl rfl ?_ | refine sy_ldr 2 one_3 rfl rfl rfl rfl rfl ?_ | refine sy_ldr 3 one_3 rfl rfl rfl rfl rfl ?_
    refine sy_move rfl rfl rfl ?_
    refine sy_callx call_30 rfl (rNewGood_c k A _ c q _ hF (hq.le hle2) hql (by omega)) rfl rfl (fun x27 h3 hT hle3 => ?_)
    obtain ⟨A5, c5⟩ := x27
    simp only at hT ⊢
    refine sy_move rfl rfl rfl ?_
    refine sy_extract rfl rfl rfl rfl ?_
    refine sy_extract rfl rfl rfl rfl ?_
    refine sy_alloc zer_52 rfl rfl (fun b7 hb7 hM7 => ?_) (by simp)
    first | refine sy_stl 0 sz_52 rfl rfl rfl rfl rfl rfl rfl rfl ?_ | refine sy_stl 1 sz_52 rfl rfl rfl rfl rfl rfl rfl rfl ?_ | refine sy_stl 2 sz_52 rfl rfl rfl rfl rfl rfl rfl rfl ?_ | refine sy_stl 3 sz_52 rfl rfl rfl rfl rfl rfl rfl rfl ?_
    refine sy_assign rfl rfl rfl ?_
    refine sy_nil rfl ?_
    refine ny_next ?_
    refine cy_seq ?_
    refine cy_regionS 3 mixedA (by kernel_rfl) rfl ?_
    refine sy_move rfl rfl rfl ?_
    first | refine sy_ldar 0 agg_52 rfl rfl rfl rfl rfl ?_ | refine sy_ldar 1 agg_52 rfl rfl rfl rfl rfl ?_ | refine sy_ldar 2 agg_52 rfl rfl rfl rfl rfl ?_ | refine sy_ldar 3 agg_52 rfl rfl rfl rfl rfl ?_
    refine sy_assign rfl rfl rfl ?_
    refine sy_tail ?_
    first | refine sy_stl 0 sz_52 rfl rfl rfl rfl rfl rfl rfl rfl ?_ | refine sy_stl 1 sz_52 rfl rfl rfl rfl rfl rfl rfl rfl ?_ | refine sy_stl 2 sz_52 rfl rfl rfl rfl rfl rfl rfl rfl ?_ | refine sy_stl 3 sz_52 rfl rfl rfl rfl rfl rfl rfl rfl ?_
    refine sy_nil rfl ?_
    refine ny_next ?_
    refine cy_ret ?_
    first | refine ny_finR (resc2 0 rfl agg_52 rfl rfl rfl rfl) (fun w hs => ?_) | refine ny_finR (resc2 1 rfl agg_52 rfl rfl rfl rfl) (fun w hs => ?_) | refine ny_finR (resc2 2 rfl agg_52 rfl rfl rfl rfl) (fun w hs => ?_) | refine ny_finR (resc2 3 rfl agg_52 rfl rfl rfl rfl) (fun w hs => ?_)
    exact ⟨(g, A5, c5), _, rfl, ⟨hle3 _ _ hg2, hT⟩, hs.toGrow⟩
set_option maxRecDepth 100000 in
theorem of_bad (n : Int) (A : Option Addr) (l c L : Nat) (q : List (Int × Int)) (h : Hp) (hlc : l ≤ c) (hL : L = min l 60) (hq : PairsAt h A q) (hql : q.length = L) (e : Int) (hb : ∀ h, PairsAt h A q → C0 Tryd.prog 18 [.int .i64 n, .slice A L c] h (newV (none, e))) (hr : ∀ h, PairsAt h A q → C0 Tryd.prog 30 [.int .i64 n, .slice A L c] h (refV ((none, 0, 0), e))) : C0 Tryd.prog 35 [.agg #[.int .i64 n, .slice A l c]] h (.tuple #[.pointer none, .agg #[.slice none 0 0]]) := by
  refine enter0 Tryd.func35 rfl rfl rfl (fun w => ?_)
  refine cy_seq ?_
  refine cy_region ?_
  refine sy_box rfl rfl rfl rfl (fun b1 hb1 hM1 => ?_) (by simp)
  refine sy_assign rfl rfl rfl ?_
  refine sy_alloc zer_52 rfl rfl (fun b3 hb3 hM3 => ?_) (by simp)
  refine sy_nil rfl ?_
  refine ny_next ?_
  refine cy_seq ?_
  refine cy_region ?_
  refine sy_field fld_24_1 rfl rfl rfl ?_
  first | refine sy_ldr 0 one_22 rfl rfl rfl rfl rfl ?_ | refine sy_ldr 1 one_22 rfl rfl rfl rfl rfl ?_ | refine sy_ldr 2 one_22 rfl rfl rfl rfl rfl ?_ | refine sy_ldr 3 one_22 rfl rfl rfl rfl rfl ?_
  refine sy_assign rfl rfl rfl ?_
  refine sy_nil rfl ?_
  refine ny_next ?_
  refine cy_seq ?_
  refine cy_seq ?_
  refine cy_region ?_
  refine sy_move rfl rfl rfl ?_
  refine sy_len rfl (len_slice Tryd.underlying22 _ _ _) rfl rfl ?_
  refine sy_cmp rfl rfl rfl rfl rfl ?_
  refine sy_nil rfl ?_
  refine ny_next ?_
  refine cy_cond rfl (fun hc13 => ?_) (fun hc13 => ?_)
  · obtain rfl : L = 60 := by have := of_decide_eq_true hc13; omega
    refine cy_region ?_
    refine sy_move rfl rfl rfl ?_
    refine sy_cutTo (k0 := 60) els_22 rfl rfl (by have := of_decide_eq_true hc13; omega) rfl rfl ?_
    refine sy_assign rfl rfl rfl ?_
    refine sy_nil rfl ?_
    refine ny_next ?_
    refine cy_seq ?_
    refine cy_region ?_
    refine sy_field fld_24_0 rfl rfl rfl ?_
    first | refine sy_ldr 0 one_3 rfl rfl rfl rfl rfl ?_ | refine sy_ldr 1 one_3 rfl rfl rfl rfl rfl ?_ | refine sy_ldr 2 one_3 rfl rfl rfl rfl rfl ?_ | refine sy_ldr 3 one_3 rfl rfl rfl rfl rfl ?_
    refine sy_move rfl rfl rfl ?_
    refine sy_call rfl call_18 rfl (hb _ hq) rfl rfl ?_
    refine sy_move rfl rfl rfl ?_
    refine sy_extract rfl rfl rfl rfl ?_
    refine sy_extract rfl rfl rfl rfl ?_
    refine sy_assign rfl rfl rfl ?_
    refine sy_assign rfl rfl rfl ?_
    refine sy_nil rfl ?_
    refine ny_next ?_
    refine cy_seq ?_
    refine cy_region ?_
    refine sy_field fld_24_0 rfl rfl rfl ?_
    first | refine sy_ldr 0 one_3 rfl rfl rfl rfl rfl ?_ | refine sy_ldr 1 one_3 rfl rfl rfl rfl rfl ?_ | refine sy_ldr 2 one_3 rfl rfl rfl rfl rfl ?_ | refine sy_ldr 3 one_3 rfl rfl rfl rfl rfl ?_
    refine sy_move rfl rfl rfl ?_
    refine sy_call rfl call_30 rfl (hr _ hq) rfl rfl ?_
    refine sy_move rfl rfl rfl ?_
    refine sy_extract rfl rfl rfl rfl ?_
    refine sy_extract rfl rfl rfl rfl ?_
    refine sy_alloc zer_52 rfl rfl (fun b7 hb7 hM7 => ?_) (by simp)
    first | refine sy_stl 0 sz_52 rfl rfl rfl rfl rfl rfl rfl rfl ?_ | refine sy_stl 1 sz_52 rfl rfl rfl rfl rfl rfl rfl rfl ?_ | refine sy_stl 2 sz_52 rfl rfl rfl rfl rfl rfl rfl rfl ?_ | refine sy_stl 3 sz_52 rfl rfl rfl rfl rfl rfl rfl rfl ?_
    refine sy_assign rfl rfl rfl ?_
    refine sy_nil rfl ?_
    refine ny_next ?_
    refine cy_seq ?_
    refine cy_regionS 3 mixedA (by kernel_rfl) rfl ?_
    refine sy_move rfl rfl rfl ?_
    first | refine sy_ldar 0 agg_52 rfl rfl rfl rfl rfl ?_ | refine sy_ldar 1 agg_52 rfl rfl rfl rfl rfl ?_ | refine sy_ldar 2 agg_52 rfl rfl rfl rfl rfl ?_ | refine sy_ldar 3 agg_52 rfl rfl rfl rfl rfl ?_
    refine sy_assign rfl rfl rfl ?_
    refine sy_tail ?_
    first | refine sy_stl 0 sz_52 rfl rfl rfl rfl rfl rfl rfl rfl ?_ | refine sy_stl 1 sz_52 rfl rfl rfl rfl rfl rfl rfl rfl ?_ | refine sy_stl 2 sz_52 rfl rfl rfl rfl rfl rfl rfl rfl ?_ | refine sy_stl 3 sz_52 rfl rfl rfl rfl rfl rfl rfl rfl ?_
    refine sy_nil rfl ?_
    refine ny_next ?_
    refine cy_ret ?_
    first | refine ny_finR (resc2 0 rfl agg_52 rfl rfl rfl rfl) (fun w hs => ?_) | refine ny_finR (resc2 1 rfl agg_52 rfl rfl rfl rfl) (fun w hs => ?_) | refine ny_finR (resc2 2 rfl agg_52 rfl rfl rfl rfl) (fun w hs => ?_) | refine ny_finR (resc2 3 rfl agg_52 rfl rfl rfl rfl) (fun w hs => ?_)
    exact ⟨rfl, hs.frm⟩
  · obtain rfl : L = l := by have := of_decide_eq_false hc13; omega
    refine cy_skip ?_
    refine ny_next ?_
    refine cy_seq ?_
    refine cy_region ?_
    refine sy_field fld_24_0 rfl rfl rfl ?_
    first | refine sy_ldr 0 one_3 rfl rfl rfl rfl rfl ?_ | refine sy_ldr 1 one_3 rfl rfl rfl rfl rfl ?_ | refine sy_ldr 2 one_3 rfl rfl rfl rfl rfl ?_ | refine sy_ldr 3 one_3 rfl rfl rfl rfl rfl ?_
    refine sy_move rfl rfl rfl ?_
    refine sy_call rfl call_18 rfl (hb _ hq) rfl rfl ?_
    refine sy_move rfl rfl rfl ?_
    refine sy_extract rfl rfl rfl rfl ?_
    refine sy_extract rfl rfl rfl rfl ?_
    refine sy_assign rfl rfl rfl ?_
    refine sy_assign rfl rfl rfl ?_
    refine sy_nil rfl ?_
    refine ny_next ?_
    refine cy_seq ?_
    refine cy_region ?_
    refine sy_field fld_24_0 rfl rfl rfl ?_
    first | refine sy_ldr 0 one_3 rfl rfl rfl rfl rfl ?_ | refine sy_ldr 1 one_3 rfl rfl rfl rfl rfl ?_ | refine sy_ldr 2 one_3 rfl rfl rfl rfl rfl ?_ | refine sy_ldr 3 one_3 rfl rfl rfl rfl rfl ?_
    refine sy_move rfl rfl rfl ?_
    refine sy_call rfl call_30 rfl (hr _ hq) rfl rfl ?_
    refine sy_move rfl rfl rfl ?_
    refine sy_extract rfl rfl rfl rfl ?_
    refine sy_extract rfl rfl rfl rfl ?_
    refine sy_alloc zer_52 rfl rfl (fun b7 hb7 hM7 => ?_) (by simp)
    first | refine sy_stl 0 sz_52 rfl rfl rfl rfl rfl rfl rfl rfl ?_ | refine sy_stl 1 sz_52 rfl rfl rfl rfl rfl rfl rfl rfl ?_ | refine sy_stl 2 sz_52 rfl rfl rfl rfl rfl rfl rfl rfl ?_ | refine sy_stl 3 sz_52 rfl rfl rfl rfl rfl rfl rfl rfl ?_
    refine sy_assign rfl rfl rfl ?_
    refine sy_nil rfl ?_
    refine ny_next ?_
    refine cy_seq ?_
    refine cy_regionS 3 mixedA (by kernel_rfl) rfl ?_
    refine sy_move rfl rfl rfl ?_
    first | refine sy_ldar 0 agg_52 rfl rfl rfl rfl rfl ?_ | refine sy_ldar 1 agg_52 rfl rfl rfl rfl rfl ?_ | refine sy_ldar 2 agg_52 rfl rfl rfl rfl rfl ?_ | refine sy_ldar 3 agg_52 rfl rfl rfl rfl rfl ?_
    refine sy_assign rfl rfl rfl ?_
    refine sy_tail ?_
    first | refine sy_stl 0 sz_52 rfl rfl rfl rfl rfl rfl rfl rfl ?_ | refine sy_stl 1 sz_52 rfl rfl rfl rfl rfl rfl rfl rfl ?_ | refine sy_stl 2 sz_52 rfl rfl rfl rfl rfl rfl rfl rfl ?_ | refine sy_stl 3 sz_52 rfl rfl rfl rfl rfl rfl rfl rfl ?_
    refine sy_nil rfl ?_
    refine ny_next ?_
    refine cy_ret ?_
    first | refine ny_finR (resc2 0 rfl agg_52 rfl rfl rfl rfl) (fun w hs => ?_) | refine ny_finR (resc2 1 rfl agg_52 rfl rfl rfl rfl) (fun w hs => ?_) | refine ny_finR (resc2 2 rfl agg_52 rfl rfl rfl rfl) (fun w hs => ?_) | refine ny_finR (resc2 3 rfl agg_52 rfl rfl rfl rfl) (fun w hs => ?_)
    exact ⟨rfl, hs.frm⟩
set_option maxRecDepth 100000 in
theorem shown15_c (h : Hp) (ht : Tab10 h) : C0 Tryd.prog 34 [] h (.bool true) := by
  refine enter0 Tryd.func34 rfl rfl rfl (fun w => ?_)
  refine cy_seq ?_
  refine cy_region ?_
  refine sy_assign rfl rfl rfl ?_
  refine sy_nil rfl ?_
  refine ny_next ?_
  refine cy_seq ?_
  refine cy_region ?_
  refine sy_build rfl (fun w => bld_90_0x1 w) rfl rfl ?_
  refine sy_build rfl (fun w => bld_90_0x1 w) rfl rfl ?_
  refine sy_buildSlice rfl (fun w => bsl_22_2_0x1 w) rfl rfl (fun b9 hb9 hM9 => ?_) (by simp)
  refine sy_frz 0 rfl (by simp) (fun h2 hle2 hb2 => ?_)
  have hP0 : PairsAt h2 (some ⟨b9, 0, none⟩) (ch 2) := pairs_blk (p := ch 2) hb2
  refine sy_callx call_18 rfl (newGood_c 3 _ 2 2 (ch 2) h2 (ch_fine (k := 3) (by decide) (by decide)) hP0 rfl (by decide)) rfl rfl (fun g h4 hg4 hle4 => ?_)
  refine sy_move rfl rfl rfl ?_
  refine sy_extract rfl rfl rfl rfl ?_
  refine sy_extract rfl rfl rfl rfl ?_
  refine sy_assign rfl rfl rfl ?_
  refine sy_assign rfl rfl rfl ?_
  refine sy_nil rfl ?_
  refine ny_next ?_
  refine cy_seq ?_
  refine cy_seq ?_
  refine cy_region ?_
  refine sy_move rfl rfl rfl ?_
  refine sy_eqp Tryd.underlying27 rfl rfl rfl rfl rfl ?_
  refine sy_setF (d := 14) rfl rfl rfl ?_
  refine sy_nil rfl ?_
  refine ny_next ?_
  refine cy_condF rfl ?_
  refine cy_skip ?_
  refine ny_next ?_
  refine cy_seq ?_
  refine cy_region ?_
  refine sy_build rfl (fun w => bld_65_0x1x2 w) rfl rfl ?_
  refine sy_build rfl (fun w => bld_65_0x1x2 w) rfl rfl ?_
  refine sy_build rfl (fun w => bld_65_0x1x2 w) rfl rfl ?_
  refine sy_buildSlice rfl (fun w => bsl_59_3_0x1x2 w) rfl rfl (fun b18 hb18 hM18 => ?_) (by simp)
  refine sy_assign rfl rfl rfl ?_
  refine sy_nil rfl ?_
  refine ny_next ?_
  refine cy_seq ?_
  refine cy_frz 0 rfl (by simp) (fun h5 hle5 hb5 => ?_)
  have hE : RowsAt h5 (some ⟨b18, 0, none⟩) 3 (es0.map evC) := rows_blk (by decide) (evC_len es0) hb5
  have hg5 := hle5 _ _ hg4
  refine cy_region ?_
  refine sy_move rfl rfl rfl ?_
  refine sy_move rfl rfl rfl ?_
  refine sy_callx call_37 rfl (visible_c g 3 (ru 3 (ch 2)) h5 hg5 (by decide) (by decide) (ru_lt (by decide) (ch 2)) _ 3 3 es0 1 hE rfl (by decide)) rfl rfl (fun x h6 hx hle6 => ?_)
  rw [fil0] at hx ⊢
  obtain ⟨A6, c6⟩ := x
  obtain ⟨hx1, hx2⟩ := hx
  obtain ⟨g6, o6, hA6, _⟩ := hx1 0 _ rfl
  simp only at hA6
  subst hA6
  refine sy_assign rfl rfl rfl ?_
  refine sy_nil rfl ?_
  refine ny_next ?_
  refine cy_seq ?_
  refine cy_region ?_
  refine sy_move rfl rfl rfl ?_
  refine sy_callx call_41 rfl (texts_c _ 3 3 es0 h6 (hE.le hle6) rfl (by decide) ok0 (ht.le (hle2.trans (hle4.trans (hle5.trans hle6))))) rfl rfl (fun x h7 hx7 hle7 => ?_)
  obtain ⟨A7, c7⟩ := x
  obtain ⟨hx3, hx4⟩ := hx7
  obtain ⟨g7, o7, hA7, _⟩ := hx3 0 _ rfl
  simp only at hA7
  subst hA7
  have hg7 := hle7 _ _ (hle6 _ _ hg5)
  have hE7 := hE.le (hle6.trans hle7)
  refine sy_assign rfl rfl rfl ?_
  refine sy_nil rfl ?_
  refine ny_next ?_
  refine cy_seq ?_
  refine cy_region ?_
  refine sy_move rfl rfl rfl ?_
  refine sy_len rfl (len_slice Tryd.underlying59 _ _ _) rfl rfl ?_
  refine sy_cmp rfl rfl rfl rfl rfl ?_
  refine sy_setT (d := 26) rfl rfl rfl ?_
  refine sy_move rfl rfl rfl ?_
  refine sy_move rfl rfl rfl ?_
  refine sy_idxS els_59 rfl rfl (by decide) (by decide) rfl rfl ?_
  refine sy_field fld_65_2 rfl rfl rfl ?_
  refine sy_ldh one_9 rfl ((hx1.le hle7).get (j := 1) rfl 2 _ rfl) rfl rfl ?_
  refine sy_eqs rfl rfl rfl rfl ?_
  refine sy_setT (d := 32) rfl rfl rfl ?_
  refine sy_pickT rfl rfl rfl rfl ?_
  refine sy_move rfl rfl rfl ?_
  refine sy_move rfl rfl rfl ?_
  refine sy_len rfl (len_slice Tryd.underlying72 _ _ _) rfl rfl ?_
  refine sy_cmp rfl rfl rfl rfl rfl ?_
  refine sy_setT (d := 37) rfl rfl rfl ?_
  refine sy_pickT rfl rfl rfl rfl ?_
  refine sy_move rfl rfl rfl ?_
  refine sy_move rfl rfl rfl ?_
  refine sy_idxS els_72 rfl rfl (by decide) (by decide) rfl rfl ?_
  refine sy_ldh one_9 rfl (hx3.get (j := 2) rfl 0 _ rfl) rfl rfl ?_
  refine sy_eqs rfl rfl rfl rfl ?_
  refine sy_setT (d := 43) rfl rfl txt0 ?_
  refine sy_pickT rfl rfl rfl rfl ?_
  refine sy_move rfl rfl rfl ?_
  refine sy_move rfl rfl rfl ?_
  refine sy_cutTo (k0 := 1) els_59 rfl rfl (by decide) rfl rfl ?_
  refine sy_move rfl rfl rfl ?_
  refine sy_call rfl call_39 rfl (beside_c _ _ 1 3 3 3 (es0.take 1) es0 _ (by rw [List.map_take]; exact hE7.take 1) rfl hE7 rfl (by decide) (by decide)) rfl rfl ?_
  refine sy_setT (d := 49) rfl rfl rfl ?_
  refine sy_pickT rfl rfl rfl rfl ?_
  refine sy_move rfl rfl rfl ?_
  refine sy_move rfl rfl rfl ?_
  refine sy_call rfl call_40 rfl (level_c g 3 (ru 3 (ch 2)) _ hg7 (by decide) (by decide) (ru_lt (by decide) (ch 2)) 9) rfl rfl ?_
  refine sy_cmp rfl rfl rfl rfl rfl ?_
  refine sy_setT (d := 54) rfl rfl (by rw [lev0]; rfl) ?_
  refine sy_pickT rfl rfl rfl rfl ?_
  refine sy_assign rfl rfl rfl ?_
  refine sy_nil rfl ?_
  refine ny_next ?_
  refine cy_ret ?_
  exact ny_finR (res1 rfl rfl) (fun w hs => ⟨rfl, hs.frm⟩)
set_option maxRecDepth 100000 in
theorem levels_bad (n m : Int) (A : Option Addr) (l c L : Nat) (q : List (Int × Int)) (h : Hp) (hlc : l ≤ c) (hL : L = min l 60) (hq : PairsAt h A q) (hql : q.length = L) (ht : Tab10 h) (e : Int) (hb : ∀ h, PairsAt h A q → C0 Tryd.prog 18 [.int .i64 n, .slice A L c] h (newV (none, e))) (hr : ∀ h, PairsAt h A q → C0 Tryd.prog 30 [.int .i64 n, .slice A L c] h (refV ((none, 0, 0), e))) : C0 Tryd.prog 12 [.agg #[.int .i64 n, .slice A l c], .int .i64 m] h (.bool true) := by
  refine enter0 Tryd.func12 rfl rfl rfl (fun w => ?_)
  refine cy_seq ?_
  refine cy_region ?_
  refine sy_box rfl rfl rfl rfl (fun b2 hb2 hM2 => ?_) (by simp)
  refine sy_assign rfl rfl rfl ?_
  refine sy_nil rfl ?_
  refine ny_next ?_
  refine cy_seq ?_
  refine cy_region ?_
  refine sy_call rfl call_34 rfl (shown15_c _ ht) rfl rfl ?_
  refine sy_assign rfl rfl rfl ?_
  refine sy_nil rfl ?_
  refine ny_next ?_
  refine cy_seq ?_
  refine cy_region ?_
  first | refine sy_ldar 0 agg_24 rfl rfl rfl rfl rfl ?_ | refine sy_ldar 1 agg_24 rfl rfl rfl rfl rfl ?_
  refine sy_call rfl call_35 rfl (of_bad n A l c L q _ hlc hL hq hql e hb hr) rfl rfl ?_
  refine sy_move rfl rfl rfl ?_
  refine sy_extract rfl rfl rfl rfl ?_
  refine sy_extract rfl rfl rfl rfl ?_
  refine sy_alloc zer_52 rfl rfl (fun b7 hb7 hM7 => ?_) (by simp)
  refine sy_assign rfl rfl rfl ?_
  first | refine sy_stl 0 sz_52 rfl rfl rfl rfl rfl rfl rfl rfl ?_ | refine sy_stl 1 sz_52 rfl rfl rfl rfl rfl rfl rfl rfl ?_
  refine sy_nil rfl ?_
  refine ny_next ?_
  refine cy_seq ?_
  refine cy_seq ?_
  refine cy_region ?_
  refine sy_move rfl rfl rfl ?_
  refine sy_eqp Tryd.underlying27 rfl rfl rfl rfl rfl ?_
  refine sy_setT (d := 17) rfl rfl rfl ?_
  refine sy_nil rfl ?_
  refine ny_next ?_
  refine cy_condT rfl ?_
  refine cy_seq ?_
  refine cy_region ?_
  refine sy_move rfl rfl rfl ?_
  refine sy_assign rfl rfl rfl ?_
  refine sy_nil rfl ?_
  refine ny_next ?_
  refine cy_ret ?_
  refine ny_thenR ?_
  exact ny_finR (res1 rfl rfl) (fun w hs => ⟨rfl, hs.frm⟩)
set_option maxRecDepth 100000 in
theorem levels_in (k : Nat) (m : Int) (A : Option Addr) (l c L : Nat) (q : List (Int × Int)) (h : Hp) (hlc : l ≤ c) (hL : L = min l 60) (hq : PairsAt h A q) (hql : q.length = L) (ht : Tab10 h) (hF : Fine (k : Int) q) (j m2 : Nat → Nat → Nat) (lo hi : Nat) (L2 : Lat2 k q j m2 lo hi) (x : Nat) (hxk : x < k) (hm : m = (x : Int)) : C0 Tryd.prog 12 [.agg #[.int .i64 (k : Int), .slice A l c], .int .i64 m] h (.bool true) := by
  have hk1 : 1 ≤ k := by have := hF.1; omega
  have hk2 : k ≤ 16 := by have := hF.2.1; omega
  have hvk : x < k := hxk
  have hval : (if isI k m then m else topI k (ru k q)) = (x : Int) := by
    rw [hm, isI_nat, decide_eq_true hxk]; rfl
  refine enter0 Tryd.func12 rfl rfl rfl (fun w => ?_)
  refine cy_seq ?_
  refine cy_region ?_
  refine sy_box rfl rfl rfl rfl (fun b2 hb2 hM2 => ?_) (by simp)
  refine sy_assign rfl rfl rfl ?_
  refine sy_nil rfl ?_
  refine ny_next ?_
  refine cy_seq ?_
  refine cy_region ?_
  refine sy_call rfl call_34 rfl (shown15_c _ ht) rfl rfl ?_
  refine sy_assign rfl rfl rfl ?_
  refine sy_nil rfl ?_
  refine ny_next ?_
  refine cy_seq ?_
  refine cy_region ?_
  first | refine sy_ldar 0 agg_24 rfl rfl rfl rfl rfl ?_ | refine sy_ldar 1 agg_24 rfl rfl rfl rfl rfl ?_
  refine sy_callx call_35 rfl (of_good k A l c L q _ hlc hL hq hql hF) rfl rfl (fun x13 h2 hx13 hle2 => ?_)
  obtain ⟨g, A5, c5⟩ := x13
  obtain ⟨hg, hT⟩ := hx13
  simp only at hg hT ⊢
  refine sy_move rfl rfl rfl ?_
  refine sy_extract rfl rfl rfl rfl ?_
  refine sy_extract rfl rfl rfl rfl ?_
  refine sy_alloc zer_52 rfl rfl (fun b7 hb7 hM7 => ?_) (by simp)
  refine sy_assign rfl rfl rfl ?_
  first | refine sy_stl 0 sz_52 rfl rfl rfl rfl rfl rfl rfl rfl ?_ | refine sy_stl 1 sz_52 rfl rfl rfl rfl rfl rfl rfl rfl ?_
  refine sy_nil rfl ?_
  refine ny_next ?_
  refine cy_seq ?_
  refine cy_seq ?_
  refine cy_region ?_
  refine sy_move rfl rfl rfl ?_
  refine sy_eqp Tryd.underlying27 rfl rfl rfl rfl rfl ?_
  refine sy_setF (d := 17) rfl rfl rfl ?_
  refine sy_nil rfl ?_
  refine ny_next ?_
  refine cy_condF rfl ?_
  refine cy_skip ?_
  refine ny_next ?_
  refine cy_seq ?_
  refine cy_region ?_
  refine sy_move rfl rfl rfl ?_
  refine sy_move rfl rfl rfl ?_
  refine sy_call rfl call_40 rfl (show C0 Tryd.prog 40 [.pointer (some ⟨g, 0, none⟩), .int .i64 m] _ (.int .i64 (x : Int)) from hval ▸ level_c g k _ _ hg hk1 hk2 (ru_lt hk2 q) m) rfl rfl ?_
  refine sy_assign rfl rfl rfl ?_
  refine sy_nil rfl ?_
  refine ny_next ?_
  refine cy_seq ?_
  refine cy_region ?_
  refine sy_move rfl rfl rfl ?_
  refine sy_cmp rfl rfl rfl rfl rfl ?_
  refine sy_setT (d := 23) rfl rfl (by rw [hm]; simp) ?_
  refine sy_move rfl rfl rfl ?_
  refine sy_move rfl rfl rfl ?_
  refine sy_move rfl rfl rfl ?_
  refine sy_call rfl call_21 rfl (len_c _ _ _ _ hg) rfl rfl ?_
  refine sy_cmp rfl rfl rfl rfl rfl ?_
  refine sy_setT (d := 28) rfl rfl (by rw [hm]; simp; exact hxk) ?_
  refine sy_pickT rfl rfl rfl rfl ?_
  refine sy_assign rfl rfl rfl ?_
  refine sy_nil rfl ?_
  refine ny_next ?_
  refine cy_seq ?_
  refine cy_region ?_
  refine sy_move rfl rfl rfl ?_
  refine sy_move rfl rfl rfl ?_
  refine sy_setT (d := 31) rfl rfl rfl ?_
  refine sy_move rfl rfl rfl ?_
  refine sy_move rfl rfl rfl ?_
  refine sy_move rfl rfl rfl ?_
  refine sy_call rfl call_23 rfl (leq_c _ _ _ _ hg hk1 hk2 (ru_lt hk2 q) _ _) rfl rfl ?_
  refine sy_setT (d := 35) rfl rfl ((leq_ru hvk hvk).2 (.refl _)) ?_
  refine sy_pickT rfl rfl rfl rfl ?_
  refine sy_move rfl rfl rfl ?_
  refine sy_move rfl rfl rfl ?_
  refine sy_move rfl rfl rfl ?_
  refine sy_move rfl rfl rfl ?_
  refine sy_move rfl rfl rfl ?_
  refine sy_cmp rfl rfl rfl rfl rfl ?_
  refine sy_setT (d := 42) rfl rfl (by rw [hm]; simp) ?_
  refine sy_pickT rfl rfl rfl rfl ?_
  refine sy_move rfl rfl rfl ?_
  refine sy_skip rfl rfl rfl ?_
  refine sy_skip rfl rfl rfl ?_
  refine sy_skip rfl rfl rfl ?_
  refine sy_skip rfl rfl rfl ?_
  refine sy_skip rfl rfl rfl ?_
  refine sy_skip rfl rfl rfl ?_
  refine sy_skip rfl rfl rfl ?_
  refine sy_skip rfl rfl rfl ?_
  refine sy_pickT rfl rfl rfl rfl ?_
  refine sy_pickT rfl rfl rfl rfl ?_
  refine sy_assign rfl rfl rfl ?_
  refine sy_nil rfl ?_
  refine ny_next ?_
  refine cy_ret ?_
  exact ny_finR (res1 rfl rfl) (fun w hs => ⟨rfl, hs.frm⟩)
set_option maxRecDepth 100000 in
theorem levels_out (k : Nat) (m : Int) (A : Option Addr) (l c L : Nat) (q : List (Int × Int)) (h : Hp) (hlc : l ≤ c) (hL : L = min l 60) (hq : PairsAt h A q) (hql : q.length = L) (ht : Tab10 h) (hF : Fine (k : Int) q) (j m2 : Nat → Nat → Nat) (lo hi : Nat) (L2 : Lat2 k q j m2 lo hi) (hout : isI k m = false) : C0 Tryd.prog 12 [.agg #[.int .i64 (k : Int), .slice A l c], .int .i64 m] h (.bool true) := by
  have hk1 : 1 ≤ k := by have := hF.1; omega
  have hk2 : k ≤ 16 := by have := hF.2.1; omega
  have hvk : hi < k := L2.hin
  have hval : (if isI k m then m else topI k (ru k q)) = (hi : Int) := by
    rw [hout, L2.hie]; rfl
  refine enter0 Tryd.func12 rfl rfl rfl (fun w => ?_)
  refine cy_seq ?_
  refine cy_region ?_
  refine sy_box rfl rfl rfl rfl (fun b2 hb2 hM2 => ?_) (by simp)
  refine sy_assign rfl rfl rfl ?_
  refine sy_nil rfl ?_
  refine ny_next ?_
  refine cy_seq ?_
  refine cy_region ?_
  refine sy_call rfl call_34 rfl (shown15_c _ ht) rfl rfl ?_
  refine sy_assign rfl rfl rfl ?_
  refine sy_nil rfl ?_
  refine ny_next ?_
  refine cy_seq ?_
  refine cy_region ?_
  first | refine sy_ldar 0 agg_24 rfl rfl rfl rfl rfl ?_ | refine sy_ldar 1 agg_24 rfl rfl rfl rfl rfl ?_
  refine sy_callx call_35 rfl (of_good k A l c L q _ hlc hL hq hql hF) rfl rfl (fun x13 h2 hx13 hle2 => ?_)
  obtain ⟨g, A5, c5⟩ := x13
  obtain ⟨hg, hT⟩ := hx13
  simp only at hg hT ⊢
  refine sy_move rfl rfl rfl ?_
  refine sy_extract rfl rfl rfl rfl ?_
  refine sy_extract rfl rfl rfl rfl ?_
  refine sy_alloc zer_52 rfl rfl (fun b7 hb7 hM7 => ?_) (by simp)
  refine sy_assign rfl rfl rfl ?_
  first | refine sy_stl 0 sz_52 rfl rfl rfl rfl rfl rfl rfl rfl ?_ | refine sy_stl 1 sz_52 rfl rfl rfl rfl rfl rfl rfl rfl ?_
  refine sy_nil rfl ?_
  refine ny_next ?_
  refine cy_seq ?_
  refine cy_seq ?_
  refine cy_region ?_
  refine sy_move rfl rfl rfl ?_
  refine sy_eqp Tryd.underlying27 rfl rfl rfl rfl rfl ?_
  refine sy_setF (d := 17) rfl rfl rfl ?_
  refine sy_nil rfl ?_
  refine ny_next ?_
  refine cy_condF rfl ?_
  refine cy_skip ?_
  refine ny_next ?_
  refine cy_seq ?_
  refine cy_region ?_
  refine sy_move rfl rfl rfl ?_
  refine sy_move rfl rfl rfl ?_
  refine sy_call rfl call_40 rfl (show C0 Tryd.prog 40 [.pointer (some ⟨g, 0, none⟩), .int .i64 m] _ (.int .i64 (hi : Int)) from hval ▸ level_c g k _ _ hg hk1 hk2 (ru_lt hk2 q) m) rfl rfl ?_
  refine sy_assign rfl rfl rfl ?_
  refine sy_nil rfl ?_
  refine ny_next ?_
  refine cy_seq ?_
  refine cy_region ?_
  refine sy_move rfl rfl rfl ?_
  refine sy_cmp rfl rfl rfl rfl rfl ?_
  refine sy_move rfl rfl rfl ?_
  refine sy_cond (d := 24) _ rfl rfl (fun hg24 => ?_) (fun hg24 => ?_)
  · refine sy_move rfl rfl rfl ?_
    refine sy_move rfl rfl rfl ?_
    refine sy_call rfl call_21 rfl (len_c _ _ _ _ hg) rfl rfl ?_
    refine sy_cmp rfl rfl rfl rfl rfl ?_
    refine sy_setF (d := 28) rfl rfl (by unfold isI at hout; simp_all) ?_
    refine sy_pickT rfl rfl rfl rfl ?_
    refine sy_assign rfl rfl rfl ?_
    refine sy_nil rfl ?_
    refine ny_next ?_
    refine cy_seq ?_
    refine cy_region ?_
    refine sy_move rfl rfl rfl ?_
    refine sy_move rfl rfl rfl ?_
    refine sy_setT (d := 31) rfl rfl rfl ?_
    refine sy_move rfl rfl rfl ?_
    refine sy_move rfl rfl rfl ?_
    refine sy_move rfl rfl rfl ?_
    refine sy_call rfl call_23 rfl (leq_c _ _ _ _ hg hk1 hk2 (ru_lt hk2 q) _ _) rfl rfl ?_
    refine sy_setT (d := 35) rfl rfl ((leq_ru hvk hvk).2 (.refl _)) ?_
    refine sy_pickT rfl rfl rfl rfl ?_
    refine sy_move rfl rfl rfl ?_
    refine sy_move rfl rfl rfl ?_
    refine sy_move rfl rfl rfl ?_
    refine sy_skip rfl rfl rfl ?_
    refine sy_skip rfl rfl rfl ?_
    refine sy_skip rfl rfl rfl ?_
    refine sy_pickF rfl rfl rfl rfl ?_
    refine sy_move rfl rfl rfl ?_
    refine sy_move rfl rfl rfl ?_
    refine sy_not rfl rfl rfl ?_
    refine sy_move rfl rfl rfl ?_
    refine sy_move rfl rfl rfl ?_
    refine sy_move rfl rfl rfl ?_
    refine sy_call rfl call_26 rfl (topJ_c hg hk2 L2) rfl rfl ?_
    refine sy_cmp rfl rfl rfl rfl rfl ?_
    refine sy_setT (d := 51) rfl rfl (by simp) ?_
    refine sy_pickT rfl rfl rfl rfl ?_
    refine sy_pickF rfl rfl rfl rfl ?_
    refine sy_pickT rfl rfl rfl rfl ?_
    refine sy_assign rfl rfl rfl ?_
    refine sy_nil rfl ?_
    refine ny_next ?_
    refine cy_ret ?_
    exact ny_finR (res1 rfl rfl) (fun w hs => ⟨rfl, hs.frm⟩)
  · refine sy_skip rfl rfl rfl ?_
    refine sy_skip rfl rfl rfl ?_
    refine sy_skip rfl rfl rfl ?_
    refine sy_skip rfl rfl rfl ?_
    refine sy_pickF rfl rfl rfl rfl ?_
    refine sy_assign rfl rfl rfl ?_
    refine sy_nil rfl ?_
    refine ny_next ?_
    refine cy_seq ?_
    refine cy_region ?_
    refine sy_move rfl rfl rfl ?_
    refine sy_move rfl rfl rfl ?_
    refine sy_setT (d := 31) rfl rfl rfl ?_
    refine sy_move rfl rfl rfl ?_
    refine sy_move rfl rfl rfl ?_
    refine sy_move rfl rfl rfl ?_
    refine sy_call rfl call_23 rfl (leq_c _ _ _ _ hg hk1 hk2 (ru_lt hk2 q) _ _) rfl rfl ?_
    refine sy_setT (d := 35) rfl rfl ((leq_ru hvk hvk).2 (.refl _)) ?_
    refine sy_pickT rfl rfl rfl rfl ?_
    refine sy_move rfl rfl rfl ?_
    refine sy_move rfl rfl rfl ?_
    refine sy_move rfl rfl rfl ?_
    refine sy_skip rfl rfl rfl ?_
    refine sy_skip rfl rfl rfl ?_
    refine sy_skip rfl rfl rfl ?_
    refine sy_pickF rfl rfl rfl rfl ?_
    refine sy_move rfl rfl rfl ?_
    refine sy_move rfl rfl rfl ?_
    refine sy_not rfl rfl rfl ?_
    refine sy_move rfl rfl rfl ?_
    refine sy_move rfl rfl rfl ?_
    refine sy_move rfl rfl rfl ?_
    refine sy_call rfl call_26 rfl (topJ_c hg hk2 L2) rfl rfl ?_
    refine sy_cmp rfl rfl rfl rfl rfl ?_
    refine sy_setT (d := 51) rfl rfl (by simp) ?_
    refine sy_pickT rfl rfl rfl rfl ?_
    refine sy_pickF rfl rfl rfl rfl ?_
    refine sy_pickT rfl rfl rfl rfl ?_
    refine sy_assign rfl rfl rfl ?_
    refine sy_nil rfl ?_
    refine ny_next ?_
    refine cy_ret ?_
    exact ny_finR (res1 rfl rfl) (fun w hs => ⟨rfl, hs.frm⟩)
theorem levels_c (n m : Int) (A : Option Addr) (l c L : Nat) (q : List (Int × Int)) (h : Hp) (hlc : l ≤ c) (hL : L = min l 60) (hq : PairsAt h A q) (hql : q.length = L) (ht : Tab10 h) : C0 Tryd.prog 12 [.agg #[.int .i64 n, .slice A l c], .int .i64 m] h (.bool true) := by
  by_cases hF : Fine n q
  · obtain ⟨k, rfl⟩ := Int.eq_ofNat_of_zero_le (show 0 ≤ n by have := hF.1; omega)
    obtain ⟨j, m2, lo, hi, L2⟩ := IsLatt.two (n := k) hF.2.2.2 (by have := hF.1; omega)
    cases hi2 : isI k m with
    | true =>
      obtain ⟨x, hm, hx⟩ := isI_some hi2
      exact levels_in k m A l c L q h hlc hL hq hql ht hF j m2 lo hi L2 x hx hm
    | false => exact levels_out k m A l c L q h hlc hL hq hql ht hF j m2 lo hi L2 hi2
  · obtain ⟨e, he, hb, hr⟩ := both_c n A L c q hql (by omega) hF
    exact levels_bad n m A l c L q h hlc hL hq hql ht e hb hr
end Go.Proofs.YtamifocfbcmfkaaDoor

/- More laws on levels: each returns true, and turns nothing. Conditions: none. Printed by a program of this session. -/
import Derived.Test.YtbeocnhbbhidaaaFactsD
import Derived.Test.YtbeocnhbbhidaaaLattC
set_option linter.unusedVariables false
set_option linter.unusedSimpArgs false
namespace Go.Proofs.Ytbeocnhbbhidaaa
open Go.RowKit Go.Proofs.Ytbeocnhbbhidaaa.E Go.Proofs.Ytbeocnhbbhidaaa.LattP
theorem max_nat (x y : Nat) : ((if y > x then y else x : Nat) : Int) = (if (y : Int) > (x : Int) then (y : Int) else (x : Int)) := by
  split <;> split <;> omega
theorem min_nat (x y : Nat) : ((if y < x then y else x : Nat) : Int) = (if (y : Int) < (x : Int) then (y : Int) else (x : Int)) := by
  split <;> split <;> omega
theorem run_remu8 {P : Program} {s : Nat} {a b : Nat} (h1 : 0 < b) (h2 : a < 256) {w : World} : (binOp .rem s (.int .u8 (a : Int)) (.int .u8 (b : Int))).run P w = .ok (.int .u8 ((a % b : Nat) : Int)) w := by
  have h3 : (a : Int).tmod (b : Int) = ((a % b : Nat) : Int) := rfl
  have h4 : ¬ ((b : Int) = 0) := by omega
  have h5 : a % b ≤ a := Nat.mod_le a b
  have h6 : IntKind.u8.wrap ((a % b : Nat) : Int) = ((a % b : Nat) : Int) := IntWalk.u8_in _ ⟨by omega, by omega⟩
  simp only [binOp, Op.intDiv, h4, h3, h6, if_false, if_true, ne_eq, not_true_eq_false, reduceCtorEq, Sem.run_pure]
set_option maxRecDepth 100000 in
theorem chains_one (nb ca cb : UInt8) (k x y : Nat) (h : Hp) (hk : k = 1 + nb.toNat % 16) (hx : x = ca.toNat % k) (hy : y = cb.toNat % k) (hk0 : k = 1) : C0 Try.prog 12 [.int .u8 (nb.toNat : Int), .int .u8 (ca.toNat : Int), .int .u8 (cb.toNat : Int)] h (.bool true) := by
  have hnb := nb.toNat_lt
  have hca := ca.toNat_lt
  have hcb := cb.toNat_lt
  have hk1 : 1 ≤ k := by omega
  have hk2 : k ≤ 16 := by omega
  have hxn : x < k := by rw [hx]; exact Nat.mod_lt _ hk1
  have hyn : y < k := by rw [hy]; exact Nat.mod_lt _ hk1
  refine enter0 Try.func12 rfl rfl rfl (fun w => ?_)
  refine cy_seq ?_
  refine cy_region ?_
  refine sy_assign rfl rfl rfl ?_
  refine sy_nil rfl ?_
  refine ny_next ?_
  refine cy_seq ?_
  refine cy_region ?_
  refine sy_call rfl call_23 rfl (shown_c _) rfl rfl ?_
  refine sy_assign rfl rfl rfl ?_
  refine sy_nil rfl ?_
  refine ny_next ?_
  refine cy_seq ?_
  refine cy_region ?_
  refine sy_move rfl rfl rfl ?_
  refine sy_bin (i3 := .u8) (z := (((nb.toNat % 16) : Nat) : Int)) rfl rfl ⟨by simp, by simp⟩ (fun w => run_remu8 (a := nb.toNat) (b := 16) (by decide) (by omega)) rfl rfl ?_
  refine sy_convi Try.underlying5 Try.underlying3 rfl (by omega) (by omega) rfl rfl ?_
  refine sy_addi (z := (k : Int)) rfl rfl (by omega) (by omega) (by omega) rfl rfl ?_
  refine sy_assign rfl rfl rfl ?_
  refine sy_nil rfl ?_
  refine ny_next ?_
  refine cy_seq ?_
  refine cy_region ?_
  refine sy_assign rfl rfl rfl ?_
  refine sy_nil rfl ?_
  refine ny_next ?_
  refine cy_seq ?_
  refine cy_seq ?_
  refine cy_region ?_
  refine sy_assign rfl rfl rfl ?_
  refine sy_nil rfl ?_
  refine ny_next ?_
  refine cy_block ?_
  refine cy_nilRow 46 2 ?_
  refine cy_loop (ι := Nat × Value) (fun s => s.1 + 1 ≤ k) (fun s => k - s.1) (fun s => [(1, .int .u8 (ca.toNat : Int)), (2, .int .u8 (cb.toNat : Int)), (7, .bool true), (8, .int .i64 (k : Int)), (9, s.2), (10, .int .i64 ((s.1 + 1 : Nat) : Int))]) (fun _ => h) (fun s => [Res.row s.2 46 2 (ch s.1).length (pairC (ch s.1))]) (0, .slice none 0 0) [0] (by show 0 + 1 ≤ k; omega) ⟨rfl, rfl, rfl, rfl, rfl, rfl, trivial⟩ rfl rfl ?_
  rintro ⟨i, v⟩ hi
  simp only at hi ⊢
  refine cy_seq ?_
  refine cy_seq ?_
  refine cy_region ?_
  refine sy_move rfl rfl rfl ?_
  refine sy_move rfl rfl rfl ?_
  refine sy_cmp rfl rfl rfl rfl rfl ?_
  refine sy_nil rfl ?_
  refine ny_next ?_
  refine cy_cond rfl (fun hc24 => ?_) (fun hc24 => ?_)
  · have hik : i + 1 < k := by have := of_decide_eq_true hc24; omega
    have hchl := ch_len i
    refine cy_skip ?_
    refine ny_next ?_
    refine cy_seq ?_
    refine cy_block ?_
    refine cy_region ?_
    refine sy_move rfl rfl rfl ?_
    refine sy_move rfl rfl rfl ?_
    refine sy_subi (z := (i : Int)) rfl rfl (by omega) (by omega) (by omega) rfl rfl ?_
    refine sy_move rfl rfl rfl ?_
    refine sy_build rfl (fun w => bld_46_0x1 w) rfl rfl ?_
    refine sy_buildSlice rfl (fun w => bsl_36_1_0 w) rfl rfl (fun b32 hb32 hM32 => ?_) (by simp)
    refine sy_append 1 0 row_36 (by decide) rfl rfl rfl rfl rfl rfl (by omega) (by simp only [maxLen]; omega) rfl rfl (fun v33 => ?_)
    refine sy_assign rfl rfl rfl ?_
    refine sy_nil rfl ?_
    refine ny_blockN ?_
    refine ny_next ?_
    refine cy_region ?_
    refine sy_move rfl rfl rfl ?_
    refine sy_addi (z := ((i + 1 + 1 : Nat) : Int)) rfl rfl (by omega) (by omega) (by omega) rfl rfl ?_
    refine sy_assign rfl rfl rfl ?_
    refine sy_nil rfl ?_
    refine ny_round (i + 1, v33) [0] (show i + 1 + 1 ≤ k by omega) (show k - (i + 1) < k - i by omega) ⟨rfl, rfl, rfl, rfl, rfl, rfl, trivial⟩ rfl ?_
    show _ = some [Res.row v33 46 2 (ch (i + 1)).length (pairC (ch (i + 1)))]
    rw [ch_succ, List.length_append, pairC_append]
    rfl
  · have hik : i = k - 1 := by have := of_decide_eq_false hc24; omega
    subst hik
    have hchl := ch_len (k - 1)
    refine cy_exit ?_
    refine ny_thenE ?_
    refine ny_thenE ?_
    refine ny_blockX ?_
    refine ny_next ?_
    refine cy_seq ?_
    refine cy_frzRow 0 rfl (fun _ _ => by simp) (fun A2 c2 h3 hv2 hlc2 hcm2 hlen2 hle3 hcell2 => ?_)
    subst hv2
    have hq3 : PairsAt h3 A2 (ch (k - 1)) := pairs_row hcell2
    rw [hchl]
    refine cy_region ?_
    refine sy_move rfl rfl rfl ?_
    refine sy_move rfl rfl rfl ?_
    refine sy_callx call_24 rfl (newGood_c k A2 _ c2 (ch (k - 1)) _ (ch_fine hk1 hk2) hq3 hchl (by omega)) rfl rfl (fun g h4 hg hle4 => ?_)
    have hq4 := hq3.le hle4
    refine sy_move rfl rfl rfl ?_
    refine sy_extract rfl rfl rfl rfl ?_
    refine sy_extract rfl rfl rfl rfl ?_
    refine sy_assign rfl rfl rfl ?_
    refine sy_assign rfl rfl rfl ?_
    refine sy_nil rfl ?_
    refine ny_next ?_
    refine cy_seq ?_
    refine cy_seq ?_
    refine cy_region ?_
    refine sy_move rfl rfl rfl ?_
    refine sy_cmp rfl rfl rfl rfl rfl ?_
    refine sy_setF (d := 41) rfl rfl rfl ?_
    refine sy_move rfl rfl rfl ?_
    refine sy_move rfl rfl rfl ?_
    refine sy_eqp Try.underlying37 rfl rfl rfl rfl rfl ?_
    refine sy_setF (d := 44) rfl rfl rfl ?_
    refine sy_pickF rfl rfl rfl rfl ?_
    refine sy_nil rfl ?_
    refine ny_next ?_
    refine cy_condF rfl ?_
    refine cy_skip ?_
    refine ny_next ?_
    refine cy_seq ?_
    refine cy_region ?_
    refine sy_move rfl rfl rfl ?_
    refine sy_buildSlice rfl (fun w => bsl_36_0_ w) rfl rfl (fun b48 hb48 hM48 => ?_) (by simp)
    refine sy_asRow 0 (l := 0) (sz := 2) rfl rfl (by decide) ?_
    refine sy_move rfl rfl rfl ?_
    refine sy_appendh 0 row_36 (by decide) rfl rfl rfl (fun hA => by rw [← hchl]; exact hq4.none hA) (by rw [pairC_len, hchl]) hq4.cells (pairC_ones _) (by omega) (by simp only [maxLen]; omega) rfl rfl (fun v50 => ?_)
    refine sy_move rfl rfl rfl ?_
    refine sy_subi (z := ((k - 1 : Nat) : Int)) rfl rfl (by omega) (by omega) (by omega) rfl rfl ?_
    refine sy_build rfl (fun w => bld_46_0x1 w) rfl rfl ?_
    refine sy_buildSlice rfl (fun w => bsl_36_1_0 w) rfl rfl (fun b54 hb54 hM54 => ?_) (by simp)
    refine sy_append 1 0 row_36 (by decide) rfl rfl rfl rfl rfl rfl (by omega) (by simp only [maxLen]; omega) rfl rfl (fun v55 => ?_)
    refine sy_frzRow 0 rfl (fun _ _ => by simp) (fun A5 c5 h5 hv5 hlc5 hcm5 hlen5 hle5 hcell5 => ?_)
    subst hv5
    have hq5 : PairsAt h5 A5 (chr k) := pairs_row (by unfold chr; rw [pairC_append]; exact hcell5)
    have hg := hle5 _ _ hg
    refine sy_callx call_24 rfl (newGood_c k A5 _ c5 (chr k) _ (by rw [hk0]; exact chr_one) hq5 (by unfold chr; rw [List.length_append, hchl]; simp) (by omega)) rfl rfl (fun g6 h6 hg6 hle6 => ?_)
    have hg := hle6 _ _ hg
    refine sy_move rfl rfl rfl ?_
    refine sy_extract rfl rfl rfl rfl ?_
    refine sy_extract rfl rfl rfl rfl ?_
    refine sy_assign rfl rfl rfl ?_
    refine sy_assign rfl rfl rfl ?_
    refine sy_nil rfl ?_
    refine ny_next ?_
    refine cy_seq ?_
    refine cy_region ?_
    refine sy_move rfl rfl rfl ?_
    refine sy_convi Try.underlying5 Try.underlying3 rfl (by omega) (by omega) rfl rfl ?_
    refine sy_move rfl rfl rfl ?_
    refine sy_rem (z := ((x : Nat) : Int)) rfl rfl (by omega) (by omega) (by omega) (by omega) rfl rfl ?_
    refine sy_assign rfl rfl rfl ?_
    refine sy_nil rfl ?_
    refine ny_next ?_
    refine cy_seq ?_
    refine cy_region ?_
    refine sy_move rfl rfl rfl ?_
    refine sy_convi Try.underlying5 Try.underlying3 rfl (by omega) (by omega) rfl rfl ?_
    refine sy_move rfl rfl rfl ?_
    refine sy_rem (z := ((y : Nat) : Int)) rfl rfl (by omega) (by omega) (by omega) (by omega) rfl rfl ?_
    refine sy_assign rfl rfl rfl ?_
    refine sy_nil rfl ?_
    refine ny_next ?_
    refine cy_seq ?_
    refine cy_region ?_
    refine sy_move rfl rfl rfl ?_
    refine sy_move rfl rfl rfl ?_
    refine sy_setT (d := 68) rfl rfl (by first | rfl | decide | simp) ?_
    refine sy_move rfl rfl rfl ?_
    refine sy_move rfl rfl rfl ?_
    refine sy_move rfl rfl rfl ?_
    refine sy_call rfl call_27 rfl (joinV_c hg (by omega) (by omega) ((ch_lat hk1 hk2).2.1 x y hxn hyn)) rfl rfl ?_
    refine sy_move rfl rfl rfl ?_
    refine sy_move rfl rfl rfl ?_
    refine sy_max rfl rfl rfl rfl ?_
    refine sy_cmp rfl rfl rfl rfl rfl ?_
    refine sy_setT (d := 76) rfl rfl (beq_iff_eq.2 (max_nat x y)) ?_
    refine sy_pickT rfl rfl rfl rfl ?_
    refine sy_move rfl rfl rfl ?_
    refine sy_move rfl rfl rfl ?_
    refine sy_move rfl rfl rfl ?_
    refine sy_move rfl rfl rfl ?_
    refine sy_call rfl call_28 rfl (meetV_c hg (by omega) (by omega) ((ch_lat hk1 hk2).2.2 x y hxn hyn)) rfl rfl ?_
    refine sy_move rfl rfl rfl ?_
    refine sy_move rfl rfl rfl ?_
    refine sy_min rfl rfl rfl rfl ?_
    refine sy_cmp rfl rfl rfl rfl rfl ?_
    refine sy_setT (d := 86) rfl rfl (beq_iff_eq.2 (min_nat x y)) ?_
    refine sy_pickT rfl rfl rfl rfl ?_
    refine sy_move rfl rfl rfl ?_
    refine sy_move rfl rfl rfl ?_
    refine sy_move rfl rfl rfl ?_
    refine sy_move rfl rfl rfl ?_
    refine sy_call rfl call_29 rfl (leqV_c hg (by omega) (by omega) (ch_leq hk1 hxn hyn)) rfl rfl ?_
    refine sy_move rfl rfl rfl ?_
    refine sy_move rfl rfl rfl ?_
    refine sy_cmp rfl rfl rfl rfl rfl ?_
    refine sy_eqb Try.underlying4 rfl rfl rfl rfl ?_
    refine sy_setT (d := 96) rfl rfl (by simp) ?_
    refine sy_pickT rfl rfl rfl rfl ?_
    refine sy_move rfl rfl rfl ?_
    refine sy_move rfl rfl rfl ?_
    refine sy_call rfl call_31 rfl (botV_c hg (by omega) (by omega) (ch_bot hk1 hk2)) rfl rfl ?_
    refine sy_cmp rfl rfl rfl rfl rfl ?_
    refine sy_setT (d := 101) rfl rfl rfl ?_
    refine sy_pickT rfl rfl rfl rfl ?_
    refine sy_move rfl rfl rfl ?_
    refine sy_move rfl rfl rfl ?_
    refine sy_call rfl call_32 rfl (topV_c hg (by omega) (by omega) (ch_top hk1 hk2)) rfl rfl ?_
    refine sy_move rfl rfl rfl ?_
    refine sy_subi (z := ((k - 1 : Nat) : Int)) rfl rfl (by omega) (by omega) (by omega) rfl rfl ?_
    refine sy_cmp rfl rfl rfl rfl rfl ?_
    refine sy_setT (d := 108) rfl rfl (by simp) ?_
    refine sy_pickT rfl rfl rfl rfl ?_
    refine sy_move rfl rfl rfl ?_
    refine sy_move rfl rfl rfl ?_
    refine sy_cmp rfl rfl rfl rfl rfl ?_
    refine sy_move rfl rfl rfl ?_
    refine sy_cmp rfl rfl rfl rfl rfl ?_
    refine sy_eqb Try.underlying4 rfl rfl rfl rfl ?_
    refine sy_setT (d := 115) rfl rfl (by rw [beq_iff_eq]; first | (have : decide ((k : Int) > 1) = true := decide_eq_true (by omega); rw [this]; rfl) | (have : decide ((k : Int) > 1) = false := decide_eq_false (by omega); rw [this]; rfl)) ?_
    refine sy_pickT rfl rfl rfl rfl ?_
    refine sy_assign rfl rfl rfl ?_
    refine sy_nil rfl ?_
    refine ny_next ?_
    refine cy_ret ?_
    exact ny_finR (res1 rfl rfl) (fun w hs => ⟨rfl, hs.frm⟩)
set_option maxRecDepth 100000 in
theorem chains_many (nb ca cb : UInt8) (k x y : Nat) (h : Hp) (hk : k = 1 + nb.toNat % 16) (hx : x = ca.toNat % k) (hy : y = cb.toNat % k) (hk0 : 1 < k) : C0 Try.prog 12 [.int .u8 (nb.toNat : Int), .int .u8 (ca.toNat : Int), .int .u8 (cb.toNat : Int)] h (.bool true) := by
  have hnb := nb.toNat_lt
  have hca := ca.toNat_lt
  have hcb := cb.toNat_lt
  have hk1 : 1 ≤ k := by omega
  have hk2 : k ≤ 16 := by omega
  have hxn : x < k := by rw [hx]; exact Nat.mod_lt _ hk1
  have hyn : y < k := by rw [hy]; exact Nat.mod_lt _ hk1
  refine enter0 Try.func12 rfl rfl rfl (fun w => ?_)
  refine cy_seq ?_
  refine cy_region ?_
  refine sy_assign rfl rfl rfl ?_
  refine sy_nil rfl ?_
  refine ny_next ?_
  refine cy_seq ?_
  refine cy_region ?_
  refine sy_call rfl call_23 rfl (shown_c _) rfl rfl ?_
  refine sy_assign rfl rfl rfl ?_
  refine sy_nil rfl ?_
  refine ny_next ?_
  refine cy_seq ?_
  refine cy_region ?_
  refine sy_move rfl rfl rfl ?_
  refine sy_bin (i3 := .u8) (z := (((nb.toNat % 16) : Nat) : Int)) rfl rfl ⟨by simp, by simp⟩ (fun w => run_remu8 (a := nb.toNat) (b := 16) (by decide) (by omega)) rfl rfl ?_
  refine sy_convi Try.underlying5 Try.underlying3 rfl (by omega) (by omega) rfl rfl ?_
  refine sy_addi (z := (k : Int)) rfl rfl (by omega) (by omega) (by omega) rfl rfl ?_
  refine sy_assign rfl rfl rfl ?_
  refine sy_nil rfl ?_
  refine ny_next ?_
  refine cy_seq ?_
  refine cy_region ?_
  refine sy_assign rfl rfl rfl ?_
  refine sy_nil rfl ?_
  refine ny_next ?_
  refine cy_seq ?_
  refine cy_seq ?_
  refine cy_region ?_
  refine sy_assign rfl rfl rfl ?_
  refine sy_nil rfl ?_
  refine ny_next ?_
  refine cy_block ?_
  refine cy_nilRow 46 2 ?_
  refine cy_loop (ι := Nat × Value) (fun s => s.1 + 1 ≤ k) (fun s => k - s.1) (fun s => [(1, .int .u8 (ca.toNat : Int)), (2, .int .u8 (cb.toNat : Int)), (7, .bool true), (8, .int .i64 (k : Int)), (9, s.2), (10, .int .i64 ((s.1 + 1 : Nat) : Int))]) (fun _ => h) (fun s => [Res.row s.2 46 2 (ch s.1).length (pairC (ch s.1))]) (0, .slice none 0 0) [0] (by show 0 + 1 ≤ k; omega) ⟨rfl, rfl, rfl, rfl, rfl, rfl, trivial⟩ rfl rfl ?_
  rintro ⟨i, v⟩ hi
  simp only at hi ⊢
  refine cy_seq ?_
  refine cy_seq ?_
  refine cy_region ?_
  refine sy_move rfl rfl rfl ?_
  refine sy_move rfl rfl rfl ?_
  refine sy_cmp rfl rfl rfl rfl rfl ?_
  refine sy_nil rfl ?_
  refine ny_next ?_
  refine cy_cond rfl (fun hc24 => ?_) (fun hc24 => ?_)
  · have hik : i + 1 < k := by have := of_decide_eq_true hc24; omega
    have hchl := ch_len i
    refine cy_skip ?_
    refine ny_next ?_
    refine cy_seq ?_
    refine cy_block ?_
    refine cy_region ?_
    refine sy_move rfl rfl rfl ?_
    refine sy_move rfl rfl rfl ?_
    refine sy_subi (z := (i : Int)) rfl rfl (by omega) (by omega) (by omega) rfl rfl ?_
    refine sy_move rfl rfl rfl ?_
    refine sy_build rfl (fun w => bld_46_0x1 w) rfl rfl ?_
    refine sy_buildSlice rfl (fun w => bsl_36_1_0 w) rfl rfl (fun b32 hb32 hM32 => ?_) (by simp)
    refine sy_append 1 0 row_36 (by decide) rfl rfl rfl rfl rfl rfl (by omega) (by simp only [maxLen]; omega) rfl rfl (fun v33 => ?_)
    refine sy_assign rfl rfl rfl ?_
    refine sy_nil rfl ?_
    refine ny_blockN ?_
    refine ny_next ?_
    refine cy_region ?_
    refine sy_move rfl rfl rfl ?_
    refine sy_addi (z := ((i + 1 + 1 : Nat) : Int)) rfl rfl (by omega) (by omega) (by omega) rfl rfl ?_
    refine sy_assign rfl rfl rfl ?_
    refine sy_nil rfl ?_
    refine ny_round (i + 1, v33) [0] (show i + 1 + 1 ≤ k by omega) (show k - (i + 1) < k - i by omega) ⟨rfl, rfl, rfl, rfl, rfl, rfl, trivial⟩ rfl ?_
    show _ = some [Res.row v33 46 2 (ch (i + 1)).length (pairC (ch (i + 1)))]
    rw [ch_succ, List.length_append, pairC_append]
    rfl
  · have hik : i = k - 1 := by have := of_decide_eq_false hc24; omega
    subst hik
    have hchl := ch_len (k - 1)
    refine cy_exit ?_
    refine ny_thenE ?_
    refine ny_thenE ?_
    refine ny_blockX ?_
    refine ny_next ?_
    refine cy_seq ?_
    refine cy_frzRow 0 rfl (fun _ _ => by simp) (fun A2 c2 h3 hv2 hlc2 hcm2 hlen2 hle3 hcell2 => ?_)
    subst hv2
    have hq3 : PairsAt h3 A2 (ch (k - 1)) := pairs_row hcell2
    rw [hchl]
    refine cy_region ?_
    refine sy_move rfl rfl rfl ?_
    refine sy_move rfl rfl rfl ?_
    refine sy_callx call_24 rfl (newGood_c k A2 _ c2 (ch (k - 1)) _ (ch_fine hk1 hk2) hq3 hchl (by omega)) rfl rfl (fun g h4 hg hle4 => ?_)
    have hq4 := hq3.le hle4
    refine sy_move rfl rfl rfl ?_
    refine sy_extract rfl rfl rfl rfl ?_
    refine sy_extract rfl rfl rfl rfl ?_
    refine sy_assign rfl rfl rfl ?_
    refine sy_assign rfl rfl rfl ?_
    refine sy_nil rfl ?_
    refine ny_next ?_
    refine cy_seq ?_
    refine cy_seq ?_
    refine cy_region ?_
    refine sy_move rfl rfl rfl ?_
    refine sy_cmp rfl rfl rfl rfl rfl ?_
    refine sy_setF (d := 41) rfl rfl rfl ?_
    refine sy_move rfl rfl rfl ?_
    refine sy_move rfl rfl rfl ?_
    refine sy_eqp Try.underlying37 rfl rfl rfl rfl rfl ?_
    refine sy_setF (d := 44) rfl rfl rfl ?_
    refine sy_pickF rfl rfl rfl rfl ?_
    refine sy_nil rfl ?_
    refine ny_next ?_
    refine cy_condF rfl ?_
    refine cy_skip ?_
    refine ny_next ?_
    refine cy_seq ?_
    refine cy_region ?_
    refine sy_move rfl rfl rfl ?_
    refine sy_buildSlice rfl (fun w => bsl_36_0_ w) rfl rfl (fun b48 hb48 hM48 => ?_) (by simp)
    refine sy_asRow 0 (l := 0) (sz := 2) rfl rfl (by decide) ?_
    refine sy_move rfl rfl rfl ?_
    refine sy_appendh 0 row_36 (by decide) rfl rfl rfl (fun hA => by rw [← hchl]; exact hq4.none hA) (by rw [pairC_len, hchl]) hq4.cells (pairC_ones _) (by omega) (by simp only [maxLen]; omega) rfl rfl (fun v50 => ?_)
    refine sy_move rfl rfl rfl ?_
    refine sy_subi (z := ((k - 1 : Nat) : Int)) rfl rfl (by omega) (by omega) (by omega) rfl rfl ?_
    refine sy_build rfl (fun w => bld_46_0x1 w) rfl rfl ?_
    refine sy_buildSlice rfl (fun w => bsl_36_1_0 w) rfl rfl (fun b54 hb54 hM54 => ?_) (by simp)
    refine sy_append 1 0 row_36 (by decide) rfl rfl rfl rfl rfl rfl (by omega) (by simp only [maxLen]; omega) rfl rfl (fun v55 => ?_)
    refine sy_frzRow 0 rfl (fun _ _ => by simp) (fun A5 c5 h5 hv5 hlc5 hcm5 hlen5 hle5 hcell5 => ?_)
    subst hv5
    have hq5 : PairsAt h5 A5 (chr k) := pairs_row (by unfold chr; rw [pairC_append]; exact hcell5)
    have hg := hle5 _ _ hg
    refine sy_call rfl call_24 rfl (newForm_c k A5 _ c5 (chr k) _ (chr_args hk1 hk2) (chr_no hk0) hq5 (by unfold chr; rw [List.length_append, hchl]; simp) (by omega)) rfl rfl ?_
    refine sy_move rfl rfl rfl ?_
    refine sy_extract rfl rfl rfl rfl ?_
    refine sy_extract rfl rfl rfl rfl ?_
    refine sy_assign rfl rfl rfl ?_
    refine sy_assign rfl rfl rfl ?_
    refine sy_nil rfl ?_
    refine ny_next ?_
    refine cy_seq ?_
    refine cy_region ?_
    refine sy_move rfl rfl rfl ?_
    refine sy_convi Try.underlying5 Try.underlying3 rfl (by omega) (by omega) rfl rfl ?_
    refine sy_move rfl rfl rfl ?_
    refine sy_rem (z := ((x : Nat) : Int)) rfl rfl (by omega) (by omega) (by omega) (by omega) rfl rfl ?_
    refine sy_assign rfl rfl rfl ?_
    refine sy_nil rfl ?_
    refine ny_next ?_
    refine cy_seq ?_
    refine cy_region ?_
    refine sy_move rfl rfl rfl ?_
    refine sy_convi Try.underlying5 Try.underlying3 rfl (by omega) (by omega) rfl rfl ?_
    refine sy_move rfl rfl rfl ?_
    refine sy_rem (z := ((y : Nat) : Int)) rfl rfl (by omega) (by omega) (by omega) (by omega) rfl rfl ?_
    refine sy_assign rfl rfl rfl ?_
    refine sy_nil rfl ?_
    refine ny_next ?_
    refine cy_seq ?_
    refine cy_region ?_
    refine sy_move rfl rfl rfl ?_
    refine sy_move rfl rfl rfl ?_
    refine sy_setT (d := 68) rfl rfl (by first | rfl | decide | simp) ?_
    refine sy_move rfl rfl rfl ?_
    refine sy_move rfl rfl rfl ?_
    refine sy_move rfl rfl rfl ?_
    refine sy_call rfl call_27 rfl (joinV_c hg (by omega) (by omega) ((ch_lat hk1 hk2).2.1 x y hxn hyn)) rfl rfl ?_
    refine sy_move rfl rfl rfl ?_
    refine sy_move rfl rfl rfl ?_
    refine sy_max rfl rfl rfl rfl ?_
    refine sy_cmp rfl rfl rfl rfl rfl ?_
    refine sy_setT (d := 76) rfl rfl (beq_iff_eq.2 (max_nat x y)) ?_
    refine sy_pickT rfl rfl rfl rfl ?_
    refine sy_move rfl rfl rfl ?_
    refine sy_move rfl rfl rfl ?_
    refine sy_move rfl rfl rfl ?_
    refine sy_move rfl rfl rfl ?_
    refine sy_call rfl call_28 rfl (meetV_c hg (by omega) (by omega) ((ch_lat hk1 hk2).2.2 x y hxn hyn)) rfl rfl ?_
    refine sy_move rfl rfl rfl ?_
    refine sy_move rfl rfl rfl ?_
    refine sy_min rfl rfl rfl rfl ?_
    refine sy_cmp rfl rfl rfl rfl rfl ?_
    refine sy_setT (d := 86) rfl rfl (beq_iff_eq.2 (min_nat x y)) ?_
    refine sy_pickT rfl rfl rfl rfl ?_
    refine sy_move rfl rfl rfl ?_
    refine sy_move rfl rfl rfl ?_
    refine sy_move rfl rfl rfl ?_
    refine sy_move rfl rfl rfl ?_
    refine sy_call rfl call_29 rfl (leqV_c hg (by omega) (by omega) (ch_leq hk1 hxn hyn)) rfl rfl ?_
    refine sy_move rfl rfl rfl ?_
    refine sy_move rfl rfl rfl ?_
    refine sy_cmp rfl rfl rfl rfl rfl ?_
    refine sy_eqb Try.underlying4 rfl rfl rfl rfl ?_
    refine sy_setT (d := 96) rfl rfl (by simp) ?_
    refine sy_pickT rfl rfl rfl rfl ?_
    refine sy_move rfl rfl rfl ?_
    refine sy_move rfl rfl rfl ?_
    refine sy_call rfl call_31 rfl (botV_c hg (by omega) (by omega) (ch_bot hk1 hk2)) rfl rfl ?_
    refine sy_cmp rfl rfl rfl rfl rfl ?_
    refine sy_setT (d := 101) rfl rfl rfl ?_
    refine sy_pickT rfl rfl rfl rfl ?_
    refine sy_move rfl rfl rfl ?_
    refine sy_move rfl rfl rfl ?_
    refine sy_call rfl call_32 rfl (topV_c hg (by omega) (by omega) (ch_top hk1 hk2)) rfl rfl ?_
    refine sy_move rfl rfl rfl ?_
    refine sy_subi (z := ((k - 1 : Nat) : Int)) rfl rfl (by omega) (by omega) (by omega) rfl rfl ?_
    refine sy_cmp rfl rfl rfl rfl rfl ?_
    refine sy_setT (d := 108) rfl rfl (by simp) ?_
    refine sy_pickT rfl rfl rfl rfl ?_
    refine sy_move rfl rfl rfl ?_
    refine sy_move rfl rfl rfl ?_
    refine sy_cmp rfl rfl rfl rfl rfl ?_
    refine sy_move rfl rfl rfl ?_
    refine sy_cmp rfl rfl rfl rfl rfl ?_
    refine sy_eqb Try.underlying4 rfl rfl rfl rfl ?_
    refine sy_setT (d := 115) rfl rfl (by rw [beq_iff_eq]; first | (have : decide ((k : Int) > 1) = true := decide_eq_true (by omega); rw [this]; rfl) | (have : decide ((k : Int) > 1) = false := decide_eq_false (by omega); rw [this]; rfl)) ?_
    refine sy_pickT rfl rfl rfl rfl ?_
    refine sy_assign rfl rfl rfl ?_
    refine sy_nil rfl ?_
    refine ny_next ?_
    refine cy_ret ?_
    exact ny_finR (res1 rfl rfl) (fun w hs => ⟨rfl, hs.frm⟩)
theorem chains_c (nb ca cb : UInt8) (h : Hp) : C0 Try.prog 12 [.int .u8 (nb.toNat : Int), .int .u8 (ca.toNat : Int), .int .u8 (cb.toNat : Int)] h (.bool true) := by
  by_cases hk : 1 + nb.toNat % 16 = 1
  · exact chains_one nb ca cb _ _ _ h rfl rfl rfl hk
  · exact chains_many nb ca cb _ _ _ h rfl rfl rfl (by omega)
set_option maxRecDepth 100000 in
theorem none_k (nb : UInt8) (k : Nat) (h : Hp) (hk : k = 2 + nb.toNat % 13) : C0 Try.prog 15 [.int .u8 (nb.toNat : Int)] h (.bool true) := by
  have hnb := nb.toNat_lt
  have hk1 : 2 ≤ k := by omega
  have hk2 : k < 15 := by omega
  refine enter0 Try.func15 rfl rfl rfl (fun w => ?_)
  refine cy_seq ?_
  refine cy_region ?_
  refine sy_assign rfl rfl rfl ?_
  refine sy_nil rfl ?_
  refine ny_next ?_
  refine cy_seq ?_
  refine cy_region ?_
  refine sy_call rfl call_23 rfl (shown_c _) rfl rfl ?_
  refine sy_assign rfl rfl rfl ?_
  refine sy_nil rfl ?_
  refine ny_next ?_
  refine cy_seq ?_
  refine cy_region ?_
  refine sy_move rfl rfl rfl ?_
  refine sy_bin (i3 := .u8) (z := (((nb.toNat % 13) : Nat) : Int)) rfl rfl ⟨by simp, by simp⟩ (fun w => run_remu8 (a := nb.toNat) (b := 13) (by decide) (by omega)) rfl rfl ?_
  refine sy_convi Try.underlying5 Try.underlying3 rfl (by omega) (by omega) rfl rfl ?_
  refine sy_addi (z := (k : Int)) rfl rfl (by omega) (by omega) (by omega) rfl rfl ?_
  refine sy_assign rfl rfl rfl ?_
  refine sy_nil rfl ?_
  refine ny_next ?_
  refine cy_seq ?_
  refine cy_region ?_
  refine sy_assign rfl rfl rfl ?_
  refine sy_nil rfl ?_
  refine ny_next ?_
  refine cy_seq ?_
  refine cy_seq ?_
  refine cy_region ?_
  refine sy_assign rfl rfl rfl ?_
  refine sy_nil rfl ?_
  refine ny_next ?_
  refine cy_block ?_
  refine cy_nilRow 46 2 ?_
  refine cy_loop (ι := Nat × Value) (fun s => s.1 ≤ k) (fun s => k - s.1) (fun s => [(3, .bool true), (4, .int .i64 (k : Int)), (5, s.2), (6, .int .i64 (s.1 : Int))]) (fun _ => h) (fun s => [Res.row s.2 46 2 (nn k s.1).length (pairC (nn k s.1))]) (0, .slice none 0 0) [0] (Nat.zero_le _) ⟨rfl, rfl, rfl, rfl, trivial⟩ rfl rfl ?_
  rintro ⟨i, v⟩ hi
  simp only at hi ⊢
  refine cy_seq ?_
  refine cy_seq ?_
  refine cy_region ?_
  refine sy_move rfl rfl rfl ?_
  refine sy_move rfl rfl rfl ?_
  refine sy_cmp rfl rfl rfl rfl rfl ?_
  refine sy_nil rfl ?_
  refine ny_next ?_
  refine cy_cond rfl (fun hc20 => ?_) (fun hc20 => ?_)
  · have hik : i < k := by have := of_decide_eq_true hc20; omega
    have hnl := nn_len k i
    refine cy_skip ?_
    refine ny_next ?_
    refine cy_seq ?_
    refine cy_block ?_
    refine cy_region ?_
    refine sy_move rfl rfl rfl ?_
    refine sy_move rfl rfl rfl ?_
    refine sy_move rfl rfl rfl ?_
    refine sy_build rfl (fun w => bld_46_0x1 w) rfl rfl ?_
    refine sy_move rfl rfl rfl ?_
    refine sy_move rfl rfl rfl ?_
    refine sy_addi (z := ((k + 1 : Nat) : Int)) rfl rfl (by omega) (by omega) (by omega) rfl rfl ?_
    refine sy_build rfl (fun w => bld_46_0x1 w) rfl rfl ?_
    refine sy_buildSlice rfl (fun w => bsl_36_2_0x1 w) rfl rfl (fun b31 hb31 hM31 => ?_) (by simp)
    refine sy_append 1 0 row_36 (by decide) rfl rfl rfl rfl rfl rfl (by omega) (by simp only [maxLen]; omega) rfl rfl (fun v32 => ?_)
    refine sy_assign rfl rfl rfl ?_
    refine sy_nil rfl ?_
    refine ny_blockN ?_
    refine ny_next ?_
    refine cy_region ?_
    refine sy_move rfl rfl rfl ?_
    refine sy_addi (z := ((i + 1 : Nat) : Int)) rfl rfl (by omega) (by omega) (by omega) rfl rfl ?_
    refine sy_assign rfl rfl rfl ?_
    refine sy_nil rfl ?_
    refine ny_round (i + 1, v32) [0] (show i + 1 ≤ k by omega) (show k - (i + 1) < k - i by omega) ⟨rfl, rfl, rfl, rfl, trivial⟩ rfl ?_
    show _ = some [Res.row v32 46 2 (nn k (i + 1)).length (pairC (nn k (i + 1)))]
    rw [nn_succ, List.length_append, pairC_append]
    rfl
  · have hik : i = k := by have := of_decide_eq_false hc20; omega
    subst hik
    have hnl := nn_len i i
    refine cy_exit ?_
    refine ny_thenE ?_
    refine ny_thenE ?_
    refine ny_blockX ?_
    refine ny_next ?_
    refine cy_seq ?_
    refine cy_frzRow 0 rfl (fun _ _ => by simp) (fun A2 c2 h3 hv2 hlc2 hcm2 hlen2 hle3 hcell2 => ?_)
    subst hv2
    have hq3 : PairsAt h3 A2 (nn i i) := pairs_row hcell2
    refine cy_region ?_
    refine sy_move rfl rfl rfl ?_
    refine sy_call rfl call_24 rfl (newForm_c i none 0 0 [] _ (nil_args (by omega) (by omega)) (nil_no (by omega)) (fun j x hj => by simp at hj) rfl (by decide)) rfl rfl ?_
    refine sy_move rfl rfl rfl ?_
    refine sy_extract rfl rfl rfl rfl ?_
    refine sy_extract rfl rfl rfl rfl ?_
    refine sy_assign rfl rfl rfl ?_
    refine sy_assign rfl rfl rfl ?_
    refine sy_nil rfl ?_
    refine ny_next ?_
    refine cy_seq ?_
    refine cy_region ?_
    refine sy_move rfl rfl rfl ?_
    refine sy_addi (z := ((i + 2 : Nat) : Int)) rfl rfl (by omega) (by omega) (by omega) rfl rfl ?_
    refine sy_move rfl rfl rfl ?_
    refine sy_callx call_24 rfl (newGood_c (i + 2) A2 _ c2 (nn i i) _ (nn_fine (by omega) (by omega)) hq3 rfl (by omega)) rfl rfl (fun g h4 hg hle4 => ?_)
    have hq4 := hq3.le hle4
    refine sy_move rfl rfl rfl ?_
    refine sy_extract rfl rfl rfl rfl ?_
    refine sy_extract rfl rfl rfl rfl ?_
    refine sy_assign rfl rfl rfl ?_
    refine sy_assign rfl rfl rfl ?_
    refine sy_nil rfl ?_
    refine ny_next ?_
    refine cy_seq ?_
    refine cy_region ?_
    refine sy_move rfl rfl rfl ?_
    refine sy_addi (z := ((i + 1 : Nat) : Int)) rfl rfl (by omega) (by omega) (by omega) rfl rfl ?_
    refine sy_move rfl rfl rfl ?_
    refine sy_cutTo (k0 := 1) els_36 rfl rfl (by omega) rfl rfl ?_
    refine sy_call rfl call_24 rfl (newForm_c ((i + 1 : Nat) : Int) A2 1 c2 ((nn i i).take 1) _ (one_args (by omega) (by omega)) (one_no (by omega)) (hq4.take 1) (by rw [List.length_take]; omega) (by decide)) rfl rfl ?_
    refine sy_move rfl rfl rfl ?_
    refine sy_extract rfl rfl rfl rfl ?_
    refine sy_extract rfl rfl rfl rfl ?_
    refine sy_assign rfl rfl rfl ?_
    refine sy_assign rfl rfl rfl ?_
    refine sy_nil rfl ?_
    refine ny_next ?_
    refine cy_seq ?_
    refine cy_seq ?_
    refine cy_region ?_
    refine sy_move rfl rfl rfl ?_
    refine sy_cmp rfl rfl rfl rfl rfl ?_
    refine sy_setF (d := 54) rfl rfl rfl ?_
    refine sy_move rfl rfl rfl ?_
    refine sy_move rfl rfl rfl ?_
    refine sy_eqp Try.underlying37 rfl rfl rfl rfl rfl ?_
    refine sy_setF (d := 57) rfl rfl rfl ?_
    refine sy_pickF rfl rfl rfl rfl ?_
    refine sy_nil rfl ?_
    refine ny_next ?_
    refine cy_condF rfl ?_
    refine cy_skip ?_
    refine ny_next ?_
    refine cy_seq ?_
    refine cy_region ?_
    refine sy_move rfl rfl rfl ?_
    refine sy_move rfl rfl rfl ?_
    refine sy_setT (d := 60) rfl rfl (by first | rfl | decide | simp) ?_
    refine sy_move rfl rfl rfl ?_
    refine sy_cmp rfl rfl rfl rfl rfl ?_
    refine sy_setT (d := 62) rfl rfl rfl ?_
    refine sy_pickT rfl rfl rfl rfl ?_
    refine sy_move rfl rfl rfl ?_
    refine sy_move rfl rfl rfl ?_
    refine sy_cmp rfl rfl rfl rfl rfl ?_
    refine sy_setT (d := 66) rfl rfl rfl ?_
    refine sy_pickT rfl rfl rfl rfl ?_
    refine sy_move rfl rfl rfl ?_
    refine sy_move rfl rfl rfl ?_
    refine sy_call rfl call_31 rfl (botV_c hg (by omega) (by omega) (nn_bot (by omega) (by omega))) rfl rfl ?_
    refine sy_move rfl rfl rfl ?_
    refine sy_cmp rfl rfl rfl rfl rfl ?_
    refine sy_setT (d := 72) rfl rfl (by simp) ?_
    refine sy_pickT rfl rfl rfl rfl ?_
    refine sy_move rfl rfl rfl ?_
    refine sy_move rfl rfl rfl ?_
    refine sy_call rfl call_32 rfl (topV_c hg (by omega) (by omega) (nn_top (by omega) (by omega))) rfl rfl ?_
    refine sy_move rfl rfl rfl ?_
    refine sy_addi (z := ((i + 1 : Nat) : Int)) rfl rfl (by omega) (by omega) (by omega) rfl rfl ?_
    refine sy_cmp rfl rfl rfl rfl rfl ?_
    refine sy_setT (d := 79) rfl rfl (by simp) ?_
    refine sy_pickT rfl rfl rfl rfl ?_
    refine sy_move rfl rfl rfl ?_
    refine sy_move rfl rfl rfl ?_
    refine sy_call rfl call_27 rfl (joinV_c hg (by omega) (by omega) (nn_join (by omega) (by omega))) rfl rfl ?_
    refine sy_move rfl rfl rfl ?_
    refine sy_addi (z := ((i + 1 : Nat) : Int)) rfl rfl (by omega) (by omega) (by omega) rfl rfl ?_
    refine sy_cmp rfl rfl rfl rfl rfl ?_
    refine sy_setT (d := 86) rfl rfl (by simp) ?_
    refine sy_pickT rfl rfl rfl rfl ?_
    refine sy_move rfl rfl rfl ?_
    refine sy_move rfl rfl rfl ?_
    refine sy_call rfl call_28 rfl (meetV_c hg (by omega) (by omega) (nn_meet (by omega) (by omega))) rfl rfl ?_
    refine sy_move rfl rfl rfl ?_
    refine sy_cmp rfl rfl rfl rfl rfl ?_
    refine sy_setT (d := 92) rfl rfl (by simp) ?_
    refine sy_pickT rfl rfl rfl rfl ?_
    refine sy_assign rfl rfl rfl ?_
    refine sy_nil rfl ?_
    refine ny_next ?_
    refine cy_ret ?_
    exact ny_finR (res1 rfl rfl) (fun w hs => ⟨rfl, hs.frm⟩)
theorem none_c (nb : UInt8) (h : Hp) : C0 Try.prog 15 [.int .u8 (nb.toNat : Int)] h (.bool true) := none_k nb _ h rfl
end Go.Proofs.Ytbeocnhbbhidaaa

/- More laws on levels: each returns true, and turns nothing. Conditions: none. Printed by a program of this session. -/
import Derived.Test.YtbeocnhbbhidaaaFactsE
import Derived.Test.YtbeocnhbbhidaaaLattD
set_option linter.unusedVariables false
set_option linter.unusedSimpArgs false
namespace Go.Proofs.Ytbeocnhbbhidaaa
open Go.RowKit Go.Proofs.Ytbeocnhbbhidaaa.E Go.Proofs.Ytbeocnhbbhidaaa.LattP
set_option maxRecDepth 100000 in
theorem cubes_k (nb ca cb : UInt8) (i k x y : Nat) (h : Hp) (hi : i = nb.toNat % 5) (hk : k = 2 ^ i) (hx : x = ca.toNat % k) (hy : y = cb.toNat % k) : C0 Try.prog 14 [.int .u8 (nb.toNat : Int), .int .u8 (ca.toNat : Int), .int .u8 (cb.toNat : Int)] h (.bool true) := by
  have hnb := nb.toNat_lt
  have hca := ca.toNat_lt
  have hcb := cb.toNat_lt
  have hi5 : i < 5 := by omega
  have hk1 : 1 ≤ k := by rw [hk]; exact (two_le hi5).1
  have hk2 : k ≤ 16 := by rw [hk]; exact (two_le hi5).2
  have hxn : x < k := by rw [hx]; exact Nat.mod_lt _ hk1
  have hyn : y < k := by rw [hy]; exact Nat.mod_lt _ hk1
  refine enter0 Try.func14 rfl rfl rfl (fun w => ?_)
  refine cy_seq ?_
  refine cy_region ?_
  refine sy_assign rfl rfl rfl ?_
  refine sy_nil rfl ?_
  refine ny_next ?_
  refine cy_seq ?_
  refine cy_region ?_
  refine sy_call rfl call_23 rfl (shown_c _) rfl rfl ?_
  refine sy_assign rfl rfl rfl ?_
  refine sy_nil rfl ?_
  refine ny_next ?_
  refine cy_seq ?_
  refine cy_region ?_
  refine sy_move rfl rfl rfl ?_
  refine sy_bin (i3 := .u8) (z := (i : Int)) rfl rfl ⟨by simp, by simp⟩ (fun w => by rw [hi]; exact run_remu8 (a := nb.toNat) (b := 5) (by decide) (by omega)) rfl rfl ?_
  refine sy_convi Try.underlying5 Try.underlying3 rfl (by omega) (by omega) rfl rfl ?_
  refine sy_assign rfl rfl rfl ?_
  refine sy_nil rfl ?_
  refine ny_next ?_
  refine cy_seq ?_
  refine cy_region ?_
  refine sy_assign rfl rfl rfl ?_
  refine sy_nil rfl ?_
  refine ny_next ?_
  refine cy_seq ?_
  refine cy_seq ?_
  refine cy_region ?_
  refine sy_assign rfl rfl rfl ?_
  refine sy_nil rfl ?_
  refine ny_next ?_
  refine cy_block ?_
  refine cy_loop (ι := Nat) (fun s => s ≤ i) (fun s => i - s) (fun s => [(1, .int .u8 (ca.toNat : Int)), (2, .int .u8 (cb.toNat : Int)), (7, .bool true), (8, .int .i64 (i : Int)), (9, .int .i64 ((2 ^ s : Nat) : Int)), (10, .int .i64 (s : Int))]) (fun _ => h) (fun _ => []) 0 [] (Nat.zero_le _) ⟨rfl, rfl, rfl, rfl, rfl, rfl, trivial⟩ rfl rfl ?_
  rintro s hs
  refine cy_seq ?_
  refine cy_seq ?_
  refine cy_region ?_
  refine sy_move rfl rfl rfl ?_
  refine sy_move rfl rfl rfl ?_
  refine sy_cmp rfl rfl rfl rfl rfl ?_
  refine sy_nil rfl ?_
  refine ny_next ?_
  refine cy_cond rfl (fun hc24 => ?_) (fun hc24 => ?_)
  · have hsi : s < i := by have := of_decide_eq_true hc24; omega
    have hpow : 2 ^ s ≤ 2 ^ 4 := Nat.pow_le_pow_right (by decide) (by omega)
    refine cy_skip ?_
    refine ny_next ?_
    refine cy_seq ?_
    refine cy_block ?_
    refine cy_region ?_
    refine sy_move rfl rfl rfl ?_
    refine sy_muli (z := ((2 ^ (s + 1) : Nat) : Int)) rfl rfl (by rw [Nat.pow_succ]; omega) (Int.le_trans (by decide) (Int.natCast_nonneg _)) (by rw [Nat.pow_succ]; omega) rfl rfl ?_
    refine sy_assign rfl rfl rfl ?_
    refine sy_nil rfl ?_
    refine ny_blockN ?_
    refine ny_next ?_
    refine cy_region ?_
    refine sy_move rfl rfl rfl ?_
    refine sy_addi (z := ((s + 1 : Nat) : Int)) rfl rfl (by omega) (by omega) (by omega) rfl rfl ?_
    refine sy_assign rfl rfl rfl ?_
    refine sy_nil rfl ?_
    refine ny_round (s + 1) [] (show s + 1 ≤ i by omega) (show i - (s + 1) < i - s by omega) ⟨rfl, rfl, rfl, rfl, rfl, rfl, trivial⟩ rfl rfl
  · have hsi : i = s := by have := of_decide_eq_false hc24; omega
    subst hsi
    rw [← hk]
    refine cy_exit ?_
    refine ny_thenE ?_
    refine ny_thenE ?_
    refine ny_blockX ?_
    refine ny_next ?_
    refine cy_seq ?_
    refine cy_region ?_
    refine sy_assign rfl rfl rfl ?_
    refine sy_nil rfl ?_
    refine ny_next ?_
    refine cy_seq ?_
    refine cy_seq ?_
    refine cy_region ?_
    refine sy_assign rfl rfl rfl ?_
    refine sy_nil rfl ?_
    refine ny_next ?_
    refine cy_block ?_
    refine cy_nilRow 46 2 ?_
    refine cy_loop (ι := Nat × Value) (fun s => s.1 ≤ k) (fun s => k - s.1) (fun s => [(1, .int .u8 (ca.toNat : Int)), (2, .int .u8 (cb.toNat : Int)), (7, .bool true), (9, .int .i64 (k : Int)), (11, s.2), (12, .int .i64 (s.1 : Int))]) (fun _ => h) (fun s => [Res.row s.2 46 2 (cu k s.1).length (pairC (cu k s.1))]) (0, .slice none 0 0) [0] (Nat.zero_le _) ⟨rfl, rfl, rfl, rfl, rfl, rfl, trivial⟩ rfl rfl ?_
    rintro ⟨a, v⟩ ha
    simp only at ha ⊢
    refine cy_seq ?_
    refine cy_seq ?_
    refine cy_region ?_
    refine sy_move rfl rfl rfl ?_
    refine sy_move rfl rfl rfl ?_
    refine sy_cmp rfl rfl rfl rfl rfl ?_
    refine sy_nil rfl ?_
    refine ny_next ?_
    refine cy_cond rfl (fun hc31 => ?_) (fun hc31 => ?_)
    · have hak : a < k := by have := of_decide_eq_true hc31; omega
      have hcl := cu_len k a
      have hmul : a * k ≤ 16 * 16 := Nat.mul_le_mul (by omega) (by omega)
      refine cy_skip ?_
      refine ny_next ?_
      refine cy_seq ?_
      refine cy_block ?_
      refine cy_seq ?_
      refine cy_region ?_
      refine sy_assign rfl rfl rfl ?_
      refine sy_nil rfl ?_
      refine ny_next ?_
      refine cy_block ?_
      refine cy_loop (ι := Nat × Value) (fun s => s.1 ≤ k) (fun s => k - s.1) (fun s => [(1, .int .u8 (ca.toNat : Int)), (2, .int .u8 (cb.toNat : Int)), (7, .bool true), (9, .int .i64 (k : Int)), (11, s.2), (12, .int .i64 (a : Int)), (13, .int .i64 (s.1 : Int))]) (fun _ => h) (fun s => [Res.row s.2 46 2 (cu k a ++ cuRow a s.1).length (pairC (cu k a ++ cuRow a s.1))]) (0, v) [0] (Nat.zero_le _) ⟨rfl, rfl, rfl, rfl, rfl, rfl, rfl, trivial⟩ rfl (by show _ = some [Res.row v 46 2 (cu k a ++ cuRow a 0).length (pairC (cu k a ++ cuRow a 0))]; rw [show cuRow a 0 = [] from rfl, List.append_nil]; rfl) ?_
      rintro ⟨b, v2⟩ hb
      simp only at hb ⊢
      refine cy_seq ?_
      refine cy_seq ?_
      refine cy_region ?_
      refine sy_move rfl rfl rfl ?_
      refine sy_move rfl rfl rfl ?_
      refine sy_cmp rfl rfl rfl rfl rfl ?_
      refine sy_nil rfl ?_
      refine ny_next ?_
      refine cy_cond rfl (fun hc36 => ?_) (fun hc36 => ?_)
      · have hbk : b < k := by have := of_decide_eq_true hc36; omega
        have hrl : (cu k a ++ cuRow a b).length ≤ 16 * 16 + 16 := by rw [List.length_append]; have := cuRow_len a b; omega
        refine cy_skip ?_
        refine ny_next ?_
        refine cy_seq ?_
        refine cy_block ?_
        refine cy_seq ?_
        refine cy_region ?_
        refine sy_move rfl rfl rfl ?_
        refine sy_move rfl rfl rfl ?_
        refine sy_andi rfl rfl (by omega) (by omega) rfl rfl rfl ?_
        refine sy_move rfl rfl rfl ?_
        refine sy_cmp rfl rfl rfl rfl rfl ?_
        refine sy_nil rfl ?_
        refine ny_next ?_
        refine cy_cond rfl (fun hc43 => ?_) (fun hc43 => ?_)
        · have hsub : sub a b = true := by rw [cast_beq] at hc43; exact hc43
          refine cy_region ?_
          refine sy_move rfl rfl rfl ?_
          refine sy_move rfl rfl rfl ?_
          refine sy_move rfl rfl rfl ?_
          refine sy_build rfl (fun w => bld_46_0x1 w) rfl rfl ?_
          refine sy_buildSlice rfl (fun w => bsl_36_1_0 w) rfl rfl (fun b48 hb48 hM48 => ?_) (by simp)
          refine sy_append 1 0 row_36 (by decide) rfl rfl rfl rfl rfl rfl (by omega) (by simp only [maxLen]; omega) rfl rfl (fun v49 => ?_)
          refine sy_assign rfl rfl rfl ?_
          refine sy_nil rfl ?_
          refine ny_blockN ?_
          refine ny_next ?_
          refine cy_region ?_
          refine sy_move rfl rfl rfl ?_
          refine sy_addi (z := ((b + 1 : Nat) : Int)) rfl rfl (by omega) (by omega) (by omega) rfl rfl ?_
          refine sy_assign rfl rfl rfl ?_
          refine sy_nil rfl ?_
          refine ny_round (b + 1, v49) [0] (show b + 1 ≤ k by omega) (show k - (b + 1) < k - b by omega) ⟨rfl, rfl, rfl, rfl, rfl, rfl, rfl, trivial⟩ rfl ?_
          show _ = some [Res.row v49 46 2 (cu k a ++ cuRow a (b + 1)).length (pairC (cu k a ++ cuRow a (b + 1)))]
          rw [cuRow_yes hsub, ← List.append_assoc]
          generalize cu k a ++ cuRow a b = X
          rw [List.length_append, pairC_append]
          rfl
        · have hsub : sub a b = false := by rw [cast_beq] at hc43; exact hc43
          refine cy_skip ?_
          refine ny_blockN ?_
          refine ny_next ?_
          refine cy_region ?_
          refine sy_move rfl rfl rfl ?_
          refine sy_addi (z := ((b + 1 : Nat) : Int)) rfl rfl (by omega) (by omega) (by omega) rfl rfl ?_
          refine sy_assign rfl rfl rfl ?_
          refine sy_nil rfl ?_
          refine ny_round (b + 1, v2) [0] (show b + 1 ≤ k by omega) (show k - (b + 1) < k - b by omega) ⟨rfl, rfl, rfl, rfl, rfl, rfl, rfl, trivial⟩ rfl ?_
          show _ = some [Res.row v2 46 2 (cu k a ++ cuRow a (b + 1)).length (pairC (cu k a ++ cuRow a (b + 1)))]
          rw [cuRow_no hsub]
          rfl
      · have hbk : k = b := by have := of_decide_eq_false hc36; omega
        subst hbk
        refine cy_exit ?_
        refine ny_thenE ?_
        refine ny_thenE ?_
        refine ny_blockX ?_
        refine ny_blockN ?_
        refine ny_next ?_
        refine cy_region ?_
        refine sy_move rfl rfl rfl ?_
        refine sy_addi (z := ((a + 1 : Nat) : Int)) rfl rfl (by omega) (by omega) (by omega) rfl rfl ?_
        refine sy_assign rfl rfl rfl ?_
        refine sy_nil rfl ?_
        refine ny_round (a + 1, v2) [0] (show a + 1 ≤ k by omega) (show k - (a + 1) < k - a by omega) ⟨rfl, rfl, rfl, rfl, rfl, rfl, trivial⟩ rfl ?_
        show _ = some [Res.row v2 46 2 (cu k (a + 1)).length (pairC (cu k (a + 1)))]
        rw [cu_succ]
        rfl
    · have hak : k = a := by have := of_decide_eq_false hc31; omega
      subst hak
      have hcl := cu_len k k
      have hmul : k * k ≤ 16 * 16 := Nat.mul_le_mul (by omega) (by omega)
      refine cy_exit ?_
      refine ny_thenE ?_
      refine ny_thenE ?_
      refine ny_blockX ?_
      refine ny_next ?_
      refine cy_seq ?_
      refine cy_frzRow 0 rfl (fun _ _ => by simp) (fun A2 c2 h3 hv2 hlc2 hcm2 hlen2 hle3 hcell2 => ?_)
      subst hv2
      subst hk
      have hq3 : PairsAt h3 A2 (cu (2 ^ i) (2 ^ i)) := pairs_row hcell2
      refine cy_region ?_
      refine sy_move rfl rfl rfl ?_
      refine sy_move rfl rfl rfl ?_
      refine sy_callx call_24 rfl (newGood_c (2 ^ i) A2 _ c2 (cu (2 ^ i) (2 ^ i)) _ (cu_fine hi5) hq3 rfl (by omega)) rfl rfl (fun g h4 hg hle4 => ?_)
      refine sy_move rfl rfl rfl ?_
      refine sy_extract rfl rfl rfl rfl ?_
      refine sy_extract rfl rfl rfl rfl ?_
      refine sy_assign rfl rfl rfl ?_
      refine sy_assign rfl rfl rfl ?_
      refine sy_nil rfl ?_
      refine ny_next ?_
      refine cy_seq ?_
      refine cy_seq ?_
      refine cy_region ?_
      refine sy_move rfl rfl rfl ?_
      refine sy_cmp rfl rfl rfl rfl rfl ?_
      refine sy_setF (d := 57) rfl rfl rfl ?_
      refine sy_move rfl rfl rfl ?_
      refine sy_move rfl rfl rfl ?_
      refine sy_eqp Try.underlying37 rfl rfl rfl rfl rfl ?_
      refine sy_setF (d := 60) rfl rfl rfl ?_
      refine sy_pickF rfl rfl rfl rfl ?_
      refine sy_nil rfl ?_
      refine ny_next ?_
      refine cy_condF rfl ?_
      refine cy_skip ?_
      refine ny_next ?_
      refine cy_seq ?_
      refine cy_region ?_
      refine sy_move rfl rfl rfl ?_
      refine sy_convi Try.underlying5 Try.underlying3 rfl (by omega) (by omega) rfl rfl ?_
      refine sy_move rfl rfl rfl ?_
      refine sy_rem (z := ((x : Nat) : Int)) rfl rfl (by omega) (by omega) (by omega) (by omega) rfl rfl ?_
      refine sy_assign rfl rfl rfl ?_
      refine sy_nil rfl ?_
      refine ny_next ?_
      refine cy_seq ?_
      refine cy_region ?_
      refine sy_move rfl rfl rfl ?_
      refine sy_convi Try.underlying5 Try.underlying3 rfl (by omega) (by omega) rfl rfl ?_
      refine sy_move rfl rfl rfl ?_
      refine sy_rem (z := ((y : Nat) : Int)) rfl rfl (by omega) (by omega) (by omega) (by omega) rfl rfl ?_
      refine sy_assign rfl rfl rfl ?_
      refine sy_nil rfl ?_
      refine ny_next ?_
      refine cy_seq ?_
      refine cy_region ?_
      refine sy_move rfl rfl rfl ?_
      refine sy_move rfl rfl rfl ?_
      refine sy_setT (d := 71) rfl rfl (by first | rfl | decide | simp) ?_
      refine sy_move rfl rfl rfl ?_
      refine sy_move rfl rfl rfl ?_
      refine sy_move rfl rfl rfl ?_
      refine sy_call rfl call_27 rfl (joinV_c hg (by omega) (by omega) ((cu_lat hi5).2.1 x y hxn hyn)) rfl rfl ?_
      refine sy_move rfl rfl rfl ?_
      refine sy_move rfl rfl rfl ?_
      refine sy_ori rfl rfl (by omega) (by omega) rfl rfl rfl ?_
      refine sy_cmp rfl rfl rfl rfl rfl ?_
      refine sy_setT (d := 79) rfl rfl (by simp) ?_
      refine sy_pickT rfl rfl rfl rfl ?_
      refine sy_move rfl rfl rfl ?_
      refine sy_move rfl rfl rfl ?_
      refine sy_move rfl rfl rfl ?_
      refine sy_move rfl rfl rfl ?_
      refine sy_call rfl call_28 rfl (meetV_c hg (by omega) (by omega) ((cu_lat hi5).2.2 x y hxn hyn)) rfl rfl ?_
      refine sy_move rfl rfl rfl ?_
      refine sy_move rfl rfl rfl ?_
      refine sy_andi rfl rfl (by omega) (by omega) rfl rfl rfl ?_
      refine sy_cmp rfl rfl rfl rfl rfl ?_
      refine sy_setT (d := 89) rfl rfl (by simp) ?_
      refine sy_pickT rfl rfl rfl rfl ?_
      refine sy_move rfl rfl rfl ?_
      refine sy_move rfl rfl rfl ?_
      refine sy_move rfl rfl rfl ?_
      refine sy_move rfl rfl rfl ?_
      refine sy_call rfl call_29 rfl (leqV_c hg (by omega) (by omega) (cu_leq hxn hyn)) rfl rfl ?_
      refine sy_move rfl rfl rfl ?_
      refine sy_move rfl rfl rfl ?_
      refine sy_andi rfl rfl (by omega) (by omega) rfl rfl rfl ?_
      refine sy_move rfl rfl rfl ?_
      refine sy_cmp rfl rfl rfl rfl rfl ?_
      refine sy_eqb Try.underlying4 rfl rfl rfl rfl ?_
      refine sy_setT (d := 101) rfl rfl (by rw [cast_beq]; simp [sub]) ?_
      refine sy_pickT rfl rfl rfl rfl ?_
      refine sy_move rfl rfl rfl ?_
      refine sy_move rfl rfl rfl ?_
      refine sy_call rfl call_31 rfl (botV_c hg (by omega) (by omega) (cu_bot hi5)) rfl rfl ?_
      refine sy_cmp rfl rfl rfl rfl rfl ?_
      refine sy_setT (d := 106) rfl rfl rfl ?_
      refine sy_pickT rfl rfl rfl rfl ?_
      refine sy_move rfl rfl rfl ?_
      refine sy_move rfl rfl rfl ?_
      refine sy_call rfl call_32 rfl (topV_c hg (by omega) (by omega) (cu_top hi5)) rfl rfl ?_
      refine sy_move rfl rfl rfl ?_
      refine sy_subi (z := ((2 ^ i - 1 : Nat) : Int)) rfl rfl (by omega) (by omega) (by omega) rfl rfl ?_
      refine sy_cmp rfl rfl rfl rfl rfl ?_
      refine sy_setT (d := 113) rfl rfl (by simp) ?_
      refine sy_pickT rfl rfl rfl rfl ?_
      refine sy_assign rfl rfl rfl ?_
      refine sy_nil rfl ?_
      refine ny_next ?_
      refine cy_ret ?_
      exact ny_finR (res1 rfl rfl) (fun w hs => ⟨rfl, hs.frm⟩)
theorem cubes_c (nb ca cb : UInt8) (h : Hp) : C0 Try.prog 14 [.int .u8 (nb.toNat : Int), .int .u8 (ca.toNat : Int), .int .u8 (cb.toNat : Int)] h (.bool true) :=
  cubes_k nb ca cb _ _ _ _ h rfl rfl rfl rfl
set_option maxRecDepth 100000 in
theorem ends_bad (nb : UInt8) (A : Option Addr) (l c L : Nat) (q : List (Int × Int)) (ca : UInt8) (h : Hp) (hlc : l ≤ c) (hL : L = min l 100) (hq : PairsAt h A q) (hql : q.length = L) (e : Int) (he : (e != 0) = true) (hb : ∀ h, PairsAt h A q → C0 Try.prog 24 [.int .i64 (nb.toNat : Int), .slice A L c] h (newV (none, e))) : C0 Try.prog 13 [.int .u8 (nb.toNat : Int), .slice A l c, .int .u8 (ca.toNat : Int)] h (.bool true) := by
  have hnb := nb.toNat_lt
  refine enter0 Try.func13 rfl rfl rfl (fun w => ?_)
  refine cy_seq ?_
  refine cy_region ?_
  refine sy_assign rfl rfl rfl ?_
  refine sy_nil rfl ?_
  refine ny_next ?_
  refine cy_seq ?_
  refine cy_region ?_
  refine sy_call rfl call_23 rfl (shown_c _) rfl rfl ?_
  refine sy_assign rfl rfl rfl ?_
  refine sy_nil rfl ?_
  refine ny_next ?_
  refine cy_seq ?_
  refine cy_region ?_
  refine sy_move rfl rfl rfl ?_
  refine sy_call rfl call_25 rfl (show C0 Try.prog 25 [.slice A l c] _ (.slice A L c) from hL ▸ few_c A l c _ hlc) rfl rfl ?_
  refine sy_assign rfl rfl rfl ?_
  refine sy_nil rfl ?_
  refine ny_next ?_
  refine cy_seq ?_
  refine cy_region ?_
  refine sy_move rfl rfl rfl ?_
  refine sy_convi Try.underlying5 Try.underlying3 rfl (by omega) (by omega) rfl rfl ?_
  refine sy_move rfl rfl rfl ?_
  refine sy_call rfl call_24 rfl (hb _ hq) rfl rfl ?_
  refine sy_move rfl rfl rfl ?_
  refine sy_extract rfl rfl rfl rfl ?_
  refine sy_extract rfl rfl rfl rfl ?_
  refine sy_assign rfl rfl rfl ?_
  refine sy_assign rfl rfl rfl ?_
  refine sy_nil rfl ?_
  refine ny_next ?_
  refine cy_seq ?_
  refine cy_seq ?_
  refine cy_region ?_
  refine sy_move rfl rfl rfl ?_
  refine sy_cmp rfl rfl rfl rfl rfl ?_
  refine sy_setT (d := 25) rfl rfl he ?_
  refine sy_move rfl rfl rfl ?_
  refine sy_skip rfl rfl rfl ?_
  refine sy_skip rfl rfl rfl ?_
  refine sy_pickT rfl rfl rfl rfl ?_
  refine sy_nil rfl ?_
  refine ny_next ?_
  refine cy_condT rfl ?_
  refine cy_seq ?_
  refine cy_region ?_
  refine sy_move rfl rfl rfl ?_
  refine sy_move rfl rfl rfl ?_
  refine sy_setT (d := 31) rfl rfl (by first | rfl | decide | simp) ?_
  refine sy_move rfl rfl rfl ?_
  refine sy_cmp rfl rfl rfl rfl rfl ?_
  refine sy_setT (d := 33) rfl rfl he ?_
  refine sy_pickT rfl rfl rfl rfl ?_
  refine sy_assign rfl rfl rfl ?_
  refine sy_nil rfl ?_
  refine ny_next ?_
  refine cy_ret ?_
  refine ny_thenR ?_
  exact ny_finR (res1 rfl rfl) (fun w hs => ⟨rfl, hs.frm⟩)
set_option maxRecDepth 100000 in
theorem endsF_good (nb : UInt8) (A : Option Addr) (l c L : Nat) (q : List (Int × Int)) (ca : UInt8) (h : Hp) (hlc : l ≤ c) (hL : L = min l 100) (hq : PairsAt h A q) (hql : q.length = L) (x : Nat) (hx : x = ca.toNat % nb.toNat) (hF : Fine (nb.toNat : Int) q) (j m : Nat → Nat → Nat) (lo hi : Nat) (L2 : Lat2 nb.toNat q j m lo hi) (hfull : nb.toNat = 16) : C0 Try.prog 13 [.int .u8 (nb.toNat : Int), .slice A l c, .int .u8 (ca.toNat : Int)] h (.bool true) := by
  have hnb := nb.toNat_lt
  have hN1 : 1 ≤ nb.toNat := by have := hF.1; omega
  have hN16 : nb.toNat ≤ 16 := by have := hF.2.1; omega
  have hxn : x < nb.toNat := by rw [hx]; exact Nat.mod_lt _ hN1
  have hca2 := ca.toNat_lt
  have hin : InR nb.toNat q := by have := hF.2.2.1; rwa [Int.toNat_natCast] at this
  refine enter0 Try.func13 rfl rfl rfl (fun w => ?_)
  refine cy_seq ?_
  refine cy_region ?_
  refine sy_assign rfl rfl rfl ?_
  refine sy_nil rfl ?_
  refine ny_next ?_
  refine cy_seq ?_
  refine cy_region ?_
  refine sy_call rfl call_23 rfl (shown_c _) rfl rfl ?_
  refine sy_assign rfl rfl rfl ?_
  refine sy_nil rfl ?_
  refine ny_next ?_
  refine cy_seq ?_
  refine cy_region ?_
  refine sy_move rfl rfl rfl ?_
  refine sy_call rfl call_25 rfl (show C0 Try.prog 25 [.slice A l c] _ (.slice A L c) from hL ▸ few_c A l c _ hlc) rfl rfl ?_
  refine sy_assign rfl rfl rfl ?_
  refine sy_nil rfl ?_
  refine ny_next ?_
  refine cy_seq ?_
  refine cy_region ?_
  refine sy_move rfl rfl rfl ?_
  refine sy_convi Try.underlying5 Try.underlying3 rfl (by omega) (by omega) rfl rfl ?_
  refine sy_move rfl rfl rfl ?_
  refine sy_callx call_24 rfl (newGood_c nb.toNat A L c q _ hF hq hql (by omega)) rfl rfl (fun g h2 hg hleh2 => ?_)
  refine sy_move rfl rfl rfl ?_
  refine sy_extract rfl rfl rfl rfl ?_
  refine sy_extract rfl rfl rfl rfl ?_
  refine sy_assign rfl rfl rfl ?_
  refine sy_assign rfl rfl rfl ?_
  refine sy_nil rfl ?_
  refine ny_next ?_
  refine cy_seq ?_
  refine cy_seq ?_
  refine cy_region ?_
  refine sy_move rfl rfl rfl ?_
  refine sy_cmp rfl rfl rfl rfl rfl ?_
  refine sy_setF (d := 25) rfl rfl rfl ?_
  refine sy_move rfl rfl rfl ?_
  refine sy_move rfl rfl rfl ?_
  refine sy_eqp Try.underlying37 rfl rfl rfl rfl rfl ?_
  refine sy_setF (d := 28) rfl rfl rfl ?_
  refine sy_pickF rfl rfl rfl rfl ?_
  refine sy_nil rfl ?_
  refine ny_next ?_
  refine cy_condF rfl ?_
  refine cy_skip ?_
  refine ny_next ?_
  refine cy_seq ?_
  refine cy_region ?_
  refine sy_move rfl rfl rfl ?_
  refine sy_convi Try.underlying5 Try.underlying3 rfl (by omega) (by omega) rfl rfl ?_
  refine sy_move rfl rfl rfl ?_
  refine sy_call rfl call_26 rfl (len_c _ _ _ _ hg) rfl rfl ?_
  refine sy_rem (z := ((x : Nat) : Int)) rfl rfl (by omega) (by omega) (by omega) (by omega) rfl rfl ?_
  refine sy_assign rfl rfl rfl ?_
  refine sy_nil rfl ?_
  refine ny_next ?_
  refine cy_seq ?_
  refine cy_seq ?_
  refine cy_region ?_
  refine sy_move rfl rfl rfl ?_
  refine sy_move rfl rfl rfl ?_
  refine sy_call rfl call_31 rfl (botJ_c hg hN16 L2) rfl rfl ?_
  refine sy_move rfl rfl rfl ?_
  refine sy_call rfl call_29 rfl (leqJ_c hg hN16 L2 _ _) rfl rfl ?_
  refine sy_not rfl rfl rfl ?_
  refine sy_setF (d := 45) rfl rfl (by rw [(leq_ru L2.lon hxn).2 (L2.lol x hxn)]; rfl) ?_
  refine sy_move rfl rfl rfl ?_
  refine sy_move rfl rfl rfl ?_
  refine sy_move rfl rfl rfl ?_
  refine sy_move rfl rfl rfl ?_
  refine sy_call rfl call_32 rfl (topJ_c hg hN16 L2) rfl rfl ?_
  refine sy_call rfl call_29 rfl (leqJ_c hg hN16 L2 _ _) rfl rfl ?_
  refine sy_not rfl rfl rfl ?_
  refine sy_setF (d := 52) rfl rfl (by rw [(leq_ru hxn L2.hin).2 (L2.hir x hxn)]; rfl) ?_
  refine sy_pickF rfl rfl rfl rfl ?_
  refine sy_move rfl rfl rfl ?_
  refine sy_move rfl rfl rfl ?_
  refine sy_move rfl rfl rfl ?_
  refine sy_move rfl rfl rfl ?_
  refine sy_call rfl call_31 rfl (botJ_c hg hN16 L2) rfl rfl ?_
  refine sy_call rfl call_27 rfl (joinJ_c hg hN16 L2 hxn L2.lon) rfl rfl ?_
  refine sy_move rfl rfl rfl ?_
  refine sy_cmp rfl rfl rfl rfl rfl ?_
  refine sy_setF (d := 61) rfl rfl (by rw [cast_bne, L2.jq hxn L2.lon hxn (.refl x) (L2.lol x hxn) (fun _ _ h _ => h)]; simp) ?_
  refine sy_pickF rfl rfl rfl rfl ?_
  refine sy_move rfl rfl rfl ?_
  refine sy_move rfl rfl rfl ?_
  refine sy_move rfl rfl rfl ?_
  refine sy_move rfl rfl rfl ?_
  refine sy_call rfl call_32 rfl (topJ_c hg hN16 L2) rfl rfl ?_
  refine sy_call rfl call_28 rfl (meetJ_c hg hN16 L2 hxn L2.hin) rfl rfl ?_
  refine sy_move rfl rfl rfl ?_
  refine sy_cmp rfl rfl rfl rfl rfl ?_
  refine sy_setF (d := 70) rfl rfl (by rw [cast_bne, L2.mq hxn L2.hin hxn (.refl x) (L2.hir x hxn) (fun _ _ h _ => h)]; simp) ?_
  refine sy_pickF rfl rfl rfl rfl ?_
  refine sy_nil rfl ?_
  refine ny_next ?_
  refine cy_condF rfl ?_
  refine cy_skip ?_
  refine ny_next ?_
  refine cy_seq ?_
  refine cy_region ?_
  refine sy_move rfl rfl rfl ?_
  refine sy_call rfl call_26 rfl (len_c _ _ _ _ hg) rfl rfl ?_
  refine sy_addi (z := ((nb.toNat + 1 : Nat) : Int)) rfl rfl (by omega) (by omega) (by omega) rfl rfl ?_
  refine sy_buildSlice rfl (fun w => bsl_36_0_ w) rfl rfl (fun b76 hb76 hM76 => ?_) (by simp)
  refine sy_asRow 0 (l := 0) (sz := 2) rfl rfl (by decide) ?_
  refine sy_move rfl rfl rfl ?_
  have hq2 := hq.le hleh2
  refine sy_appendh 0 row_36 (by decide) rfl rfl rfl (fun hA => by rw [← hql]; exact hq2.none hA) (by rw [pairC_len, hql]) hq2.cells (pairC_ones _) (by omega) (by simp only [maxLen]; omega) rfl rfl (fun v78 => ?_)
  refine sy_move rfl rfl rfl ?_
  refine sy_call rfl call_32 rfl (topJ_c hg hN16 L2) rfl rfl ?_
  refine sy_move rfl rfl rfl ?_
  refine sy_call rfl call_26 rfl (len_c _ _ _ _ hg) rfl rfl ?_
  refine sy_build rfl (fun w => bld_46_0x1 w) rfl rfl ?_
  refine sy_buildSlice rfl (fun w => bsl_36_1_0 w) rfl rfl (fun b84 hb84 hM84 => ?_) (by simp)
  refine sy_append 1 0 row_36 (by decide) rfl rfl rfl rfl rfl rfl (by omega) (by simp only [maxLen]; omega) rfl rfl (fun v85 => ?_)
  refine sy_frzRow 0 rfl (fun _ _ => by simp) (fun A5 c5 h5 hv5 hlc5 hcm5 hlen5 hle5 hcell5 => ?_)
  subst hv5
  have hq5 : PairsAt h5 A5 (upn q hi nb.toNat) := pairs_row (by unfold upn; rw [pairC_append]; exact hcell5)
  have hg := hle5 _ _ hg
  refine sy_call rfl call_24 rfl (newArg_c ((nb.toNat + 1 : Nat) : Int) A5 _ c5 (upn q hi nb.toNat) _ (fun ha => by have := ha.2.1; omega) hq5 (by unfold upn; rw [List.length_append, hql]; simp) (by omega)) rfl rfl ?_
  refine sy_move rfl rfl rfl ?_
  refine sy_extract rfl rfl rfl rfl ?_
  refine sy_extract rfl rfl rfl rfl ?_
  refine sy_assign rfl rfl rfl ?_
  refine sy_assign rfl rfl rfl ?_
  refine sy_nil rfl ?_
  refine ny_next ?_
  refine cy_seq ?_
  refine cy_seq ?_
  refine cy_region ?_
  refine sy_move rfl rfl rfl ?_
  refine sy_call rfl call_26 rfl (len_c _ _ _ _ hg) rfl rfl ?_
  refine sy_cmp rfl rfl rfl rfl rfl ?_
  refine sy_setT (d := 91) rfl rfl (by rw [hfull]; rfl) ?_
  refine sy_nil rfl ?_
  refine ny_next ?_
  refine cy_condT rfl ?_
  refine cy_seq ?_
  refine cy_region ?_
  refine sy_move rfl rfl rfl ?_
  refine sy_move rfl rfl rfl ?_
  refine sy_setT (d := 93) rfl rfl (by first | rfl | decide | simp) ?_
  refine sy_move rfl rfl rfl ?_
  refine sy_cmp rfl rfl rfl rfl rfl ?_
  refine sy_setT (d := 95) rfl rfl rfl ?_
  refine sy_pickT rfl rfl rfl rfl ?_
  refine sy_assign rfl rfl rfl ?_
  refine sy_nil rfl ?_
  refine ny_next ?_
  refine cy_ret ?_
  refine ny_thenR ?_
  refine ny_finR (res1 rfl rfl) (fun w hs => ⟨?_, hs.frm⟩)
  rfl
set_option maxRecDepth 100000 in
theorem endsN_good (nb : UInt8) (A : Option Addr) (l c L : Nat) (q : List (Int × Int)) (ca : UInt8) (h : Hp) (hlc : l ≤ c) (hL : L = min l 100) (hq : PairsAt h A q) (hql : q.length = L) (x : Nat) (hx : x = ca.toNat % nb.toNat) (hF : Fine (nb.toNat : Int) q) (j m : Nat → Nat → Nat) (lo hi : Nat) (L2 : Lat2 nb.toNat q j m lo hi) (hfull : nb.toNat ≠ 16) : C0 Try.prog 13 [.int .u8 (nb.toNat : Int), .slice A l c, .int .u8 (ca.toNat : Int)] h (.bool true) := by
  have hnb := nb.toNat_lt
  have hN1 : 1 ≤ nb.toNat := by have := hF.1; omega
  have hN16 : nb.toNat ≤ 16 := by have := hF.2.1; omega
  have hxn : x < nb.toNat := by rw [hx]; exact Nat.mod_lt _ hN1
  have hca2 := ca.toNat_lt
  have hin : InR nb.toNat q := by have := hF.2.2.1; rwa [Int.toNat_natCast] at this
  refine enter0 Try.func13 rfl rfl rfl (fun w => ?_)
  refine cy_seq ?_
  refine cy_region ?_
  refine sy_assign rfl rfl rfl ?_
  refine sy_nil rfl ?_
  refine ny_next ?_
  refine cy_seq ?_
  refine cy_region ?_
  refine sy_call rfl call_23 rfl (shown_c _) rfl rfl ?_
  refine sy_assign rfl rfl rfl ?_
  refine sy_nil rfl ?_
  refine ny_next ?_
  refine cy_seq ?_
  refine cy_region ?_
  refine sy_move rfl rfl rfl ?_
  refine sy_call rfl call_25 rfl (show C0 Try.prog 25 [.slice A l c] _ (.slice A L c) from hL ▸ few_c A l c _ hlc) rfl rfl ?_
  refine sy_assign rfl rfl rfl ?_
  refine sy_nil rfl ?_
  refine ny_next ?_
  refine cy_seq ?_
  refine cy_region ?_
  refine sy_move rfl rfl rfl ?_
  refine sy_convi Try.underlying5 Try.underlying3 rfl (by omega) (by omega) rfl rfl ?_
  refine sy_move rfl rfl rfl ?_
  refine sy_callx call_24 rfl (newGood_c nb.toNat A L c q _ hF hq hql (by omega)) rfl rfl (fun g h2 hg hleh2 => ?_)
  refine sy_move rfl rfl rfl ?_
  refine sy_extract rfl rfl rfl rfl ?_
  refine sy_extract rfl rfl rfl rfl ?_
  refine sy_assign rfl rfl rfl ?_
  refine sy_assign rfl rfl rfl ?_
  refine sy_nil rfl ?_
  refine ny_next ?_
  refine cy_seq ?_
  refine cy_seq ?_
  refine cy_region ?_
  refine sy_move rfl rfl rfl ?_
  refine sy_cmp rfl rfl rfl rfl rfl ?_
  refine sy_setF (d := 25) rfl rfl rfl ?_
  refine sy_move rfl rfl rfl ?_
  refine sy_move rfl rfl rfl ?_
  refine sy_eqp Try.underlying37 rfl rfl rfl rfl rfl ?_
  refine sy_setF (d := 28) rfl rfl rfl ?_
  refine sy_pickF rfl rfl rfl rfl ?_
  refine sy_nil rfl ?_
  refine ny_next ?_
  refine cy_condF rfl ?_
  refine cy_skip ?_
  refine ny_next ?_
  refine cy_seq ?_
  refine cy_region ?_
  refine sy_move rfl rfl rfl ?_
  refine sy_convi Try.underlying5 Try.underlying3 rfl (by omega) (by omega) rfl rfl ?_
  refine sy_move rfl rfl rfl ?_
  refine sy_call rfl call_26 rfl (len_c _ _ _ _ hg) rfl rfl ?_
  refine sy_rem (z := ((x : Nat) : Int)) rfl rfl (by omega) (by omega) (by omega) (by omega) rfl rfl ?_
  refine sy_assign rfl rfl rfl ?_
  refine sy_nil rfl ?_
  refine ny_next ?_
  refine cy_seq ?_
  refine cy_seq ?_
  refine cy_region ?_
  refine sy_move rfl rfl rfl ?_
  refine sy_move rfl rfl rfl ?_
  refine sy_call rfl call_31 rfl (botJ_c hg hN16 L2) rfl rfl ?_
  refine sy_move rfl rfl rfl ?_
  refine sy_call rfl call_29 rfl (leqJ_c hg hN16 L2 _ _) rfl rfl ?_
  refine sy_not rfl rfl rfl ?_
  refine sy_setF (d := 45) rfl rfl (by rw [(leq_ru L2.lon hxn).2 (L2.lol x hxn)]; rfl) ?_
  refine sy_move rfl rfl rfl ?_
  refine sy_move rfl rfl rfl ?_
  refine sy_move rfl rfl rfl ?_
  refine sy_move rfl rfl rfl ?_
  refine sy_call rfl call_32 rfl (topJ_c hg hN16 L2) rfl rfl ?_
  refine sy_call rfl call_29 rfl (leqJ_c hg hN16 L2 _ _) rfl rfl ?_
  refine sy_not rfl rfl rfl ?_
  refine sy_setF (d := 52) rfl rfl (by rw [(leq_ru hxn L2.hin).2 (L2.hir x hxn)]; rfl) ?_
  refine sy_pickF rfl rfl rfl rfl ?_
  refine sy_move rfl rfl rfl ?_
  refine sy_move rfl rfl rfl ?_
  refine sy_move rfl rfl rfl ?_
  refine sy_move rfl rfl rfl ?_
  refine sy_call rfl call_31 rfl (botJ_c hg hN16 L2) rfl rfl ?_
  refine sy_call rfl call_27 rfl (joinJ_c hg hN16 L2 hxn L2.lon) rfl rfl ?_
  refine sy_move rfl rfl rfl ?_
  refine sy_cmp rfl rfl rfl rfl rfl ?_
  refine sy_setF (d := 61) rfl rfl (by rw [cast_bne, L2.jq hxn L2.lon hxn (.refl x) (L2.lol x hxn) (fun _ _ h _ => h)]; simp) ?_
  refine sy_pickF rfl rfl rfl rfl ?_
  refine sy_move rfl rfl rfl ?_
  refine sy_move rfl rfl rfl ?_
  refine sy_move rfl rfl rfl ?_
  refine sy_move rfl rfl rfl ?_
  refine sy_call rfl call_32 rfl (topJ_c hg hN16 L2) rfl rfl ?_
  refine sy_call rfl call_28 rfl (meetJ_c hg hN16 L2 hxn L2.hin) rfl rfl ?_
  refine sy_move rfl rfl rfl ?_
  refine sy_cmp rfl rfl rfl rfl rfl ?_
  refine sy_setF (d := 70) rfl rfl (by rw [cast_bne, L2.mq hxn L2.hin hxn (.refl x) (L2.hir x hxn) (fun _ _ h _ => h)]; simp) ?_
  refine sy_pickF rfl rfl rfl rfl ?_
  refine sy_nil rfl ?_
  refine ny_next ?_
  refine cy_condF rfl ?_
  refine cy_skip ?_
  refine ny_next ?_
  refine cy_seq ?_
  refine cy_region ?_
  refine sy_move rfl rfl rfl ?_
  refine sy_call rfl call_26 rfl (len_c _ _ _ _ hg) rfl rfl ?_
  refine sy_addi (z := ((nb.toNat + 1 : Nat) : Int)) rfl rfl (by omega) (by omega) (by omega) rfl rfl ?_
  refine sy_buildSlice rfl (fun w => bsl_36_0_ w) rfl rfl (fun b76 hb76 hM76 => ?_) (by simp)
  refine sy_asRow 0 (l := 0) (sz := 2) rfl rfl (by decide) ?_
  refine sy_move rfl rfl rfl ?_
  have hq2 := hq.le hleh2
  refine sy_appendh 0 row_36 (by decide) rfl rfl rfl (fun hA => by rw [← hql]; exact hq2.none hA) (by rw [pairC_len, hql]) hq2.cells (pairC_ones _) (by omega) (by simp only [maxLen]; omega) rfl rfl (fun v78 => ?_)
  refine sy_move rfl rfl rfl ?_
  refine sy_call rfl call_32 rfl (topJ_c hg hN16 L2) rfl rfl ?_
  refine sy_move rfl rfl rfl ?_
  refine sy_call rfl call_26 rfl (len_c _ _ _ _ hg) rfl rfl ?_
  refine sy_build rfl (fun w => bld_46_0x1 w) rfl rfl ?_
  refine sy_buildSlice rfl (fun w => bsl_36_1_0 w) rfl rfl (fun b84 hb84 hM84 => ?_) (by simp)
  refine sy_append 1 0 row_36 (by decide) rfl rfl rfl rfl rfl rfl (by omega) (by simp only [maxLen]; omega) rfl rfl (fun v85 => ?_)
  refine sy_frzRow 0 rfl (fun _ _ => by simp) (fun A5 c5 h5 hv5 hlc5 hcm5 hlen5 hle5 hcell5 => ?_)
  subst hv5
  have hq5 : PairsAt h5 A5 (upn q hi nb.toNat) := pairs_row (by unfold upn; rw [pairC_append]; exact hcell5)
  have hg := hle5 _ _ hg
  refine sy_callx call_24 rfl (newGood_c (nb.toNat + 1) A5 _ c5 (upn q hi nb.toNat) _ (upn_fine hin L2 (by omega)) hq5 (by unfold upn; rw [List.length_append, hql]; simp) (by omega)) rfl rfl (fun g6 h6 hg6 hle6 => ?_)
  have hg := hle6 _ _ hg
  refine sy_move rfl rfl rfl ?_
  refine sy_extract rfl rfl rfl rfl ?_
  refine sy_extract rfl rfl rfl rfl ?_
  refine sy_assign rfl rfl rfl ?_
  refine sy_assign rfl rfl rfl ?_
  refine sy_nil rfl ?_
  refine ny_next ?_
  refine cy_seq ?_
  refine cy_seq ?_
  refine cy_region ?_
  refine sy_move rfl rfl rfl ?_
  refine sy_call rfl call_26 rfl (len_c _ _ _ _ hg) rfl rfl ?_
  refine sy_cmp rfl rfl rfl rfl rfl ?_
  refine sy_setF (d := 91) rfl rfl (by rw [beq_eq_false_iff_ne]; omega) ?_
  refine sy_nil rfl ?_
  refine ny_next ?_
  refine cy_condF rfl ?_
  refine cy_skip ?_
  refine ny_next ?_
  refine cy_seq ?_
  refine cy_region ?_
  refine sy_move rfl rfl rfl ?_
  refine sy_move rfl rfl rfl ?_
  refine sy_setT (d := 98) rfl rfl (by first | rfl | decide | simp) ?_
  refine sy_move rfl rfl rfl ?_
  refine sy_cmp rfl rfl rfl rfl rfl ?_
  refine sy_setT (d := 100) rfl rfl rfl ?_
  refine sy_pickT rfl rfl rfl rfl ?_
  refine sy_move rfl rfl rfl ?_
  refine sy_move rfl rfl rfl ?_
  refine sy_eqp Try.underlying37 rfl rfl rfl rfl rfl ?_
  refine sy_setT (d := 104) rfl rfl rfl ?_
  refine sy_pickT rfl rfl rfl rfl ?_
  refine sy_move rfl rfl rfl ?_
  refine sy_move rfl rfl rfl ?_
  refine sy_call rfl call_32 rfl (topV_c hg6 (by omega) (by omega) (upn_top hin L2)) rfl rfl ?_
  refine sy_move rfl rfl rfl ?_
  refine sy_call rfl call_26 rfl (len_c _ _ _ _ hg) rfl rfl ?_
  refine sy_cmp rfl rfl rfl rfl rfl ?_
  refine sy_setT (d := 111) rfl rfl (by simp) ?_
  refine sy_pickT rfl rfl rfl rfl ?_
  refine sy_move rfl rfl rfl ?_
  refine sy_move rfl rfl rfl ?_
  refine sy_call rfl call_31 rfl (botV_c hg6 (by omega) (by omega) (upn_bot hin L2)) rfl rfl ?_
  refine sy_move rfl rfl rfl ?_
  refine sy_call rfl call_31 rfl (botJ_c hg hN16 L2) rfl rfl ?_
  refine sy_cmp rfl rfl rfl rfl rfl ?_
  refine sy_setT (d := 118) rfl rfl (by simp) ?_
  refine sy_pickT rfl rfl rfl rfl ?_
  refine sy_move rfl rfl rfl ?_
  refine sy_move rfl rfl rfl ?_
  refine sy_move rfl rfl rfl ?_
  refine sy_move rfl rfl rfl ?_
  refine sy_call rfl call_26 rfl (len_c _ _ _ _ hg) rfl rfl ?_
  refine sy_call rfl call_29 rfl (leqV_c hg6 (by omega) (by omega) (upn_leq hin L2 hxn)) rfl rfl ?_
  refine sy_setT (d := 125) rfl rfl rfl ?_
  refine sy_pickT rfl rfl rfl rfl ?_
  refine sy_assign rfl rfl rfl ?_
  refine sy_nil rfl ?_
  refine ny_next ?_
  refine cy_ret ?_
  refine ny_finR (res1 rfl rfl) (fun w hs => ⟨?_, hs.frm⟩)
  rfl
theorem ends_c (nb : UInt8) (A : Option Addr) (l c L : Nat) (q : List (Int × Int)) (ca : UInt8) (h : Hp) (hlc : l ≤ c) (hL : L = min l 100) (hq : PairsAt h A q) (hql : q.length = L) : C0 Try.prog 13 [.int .u8 (nb.toNat : Int), .slice A l c, .int .u8 (ca.toNat : Int)] h (.bool true) := by
  by_cases hF : Fine (nb.toNat : Int) q
  · obtain ⟨j, m, lo, hi, L2⟩ := IsLatt.two (n := nb.toNat) hF.2.2.2 (by have := hF.1; omega)
    by_cases hfull : nb.toNat = 16
    · exact endsF_good nb A l c L q ca h hlc hL hq hql _ rfl hF j m lo hi L2 hfull
    · exact endsN_good nb A l c L q ca h hlc hL hq hql _ rfl hF j m lo hi L2 hfull
  · obtain ⟨e, he, hb⟩ := newErr_c nb.toNat A L c q hql (by omega) hF
    exact ends_bad nb A l c L q ca h hlc hL hq hql e he hb
end Go.Proofs.Ytbeocnhbbhidaaa

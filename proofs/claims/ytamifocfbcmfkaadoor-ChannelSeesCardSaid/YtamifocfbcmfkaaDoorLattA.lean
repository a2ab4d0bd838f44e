/- The lattice's functions: what each returns. Conditions: none. Printed by a program of this session. -/
import Derived.Test.YtamifocfbcmfkaaDoorFactsA
import Derived.Test.YtamifocfbcmfkaaDoorLattMem
set_option linter.unusedVariables false
set_option linter.unusedSimpArgs false
namespace Go.Proofs.YtamifocfbcmfkaaDoor
open Go.RowKit Go.Proofs.YtamifocfbcmfkaaDoor.E Go.Proofs.YtamifocfbcmfkaaDoor.LattP
set_option maxRecDepth 100000 in
theorem is_c (g n : Nat) (u : U) (h : Hp) (hg : h g = some (lat 94 n u)) (a : Int) : C0 Tryd.prog 53 [.pointer (some ⟨g, 0, none⟩), .int .i64 a] h (.bool (isI n a)) := by
  refine enter0 Tryd.func53 rfl rfl rfl (fun w => ?_)
  refine cy_seq ?_
  refine cy_region ?_
  refine sy_assign rfl rfl rfl ?_
  refine sy_nil rfl ?_
  refine ny_next ?_
  refine cy_seq ?_
  refine cy_region ?_
  refine sy_move rfl rfl rfl ?_
  refine sy_eqp Tryd.underlying27 rfl rfl rfl rfl rfl ?_
  refine sy_setT (d := 6) rfl rfl rfl ?_
  refine sy_move rfl rfl rfl ?_
  refine sy_move rfl rfl rfl ?_
  refine sy_cmp rfl rfl rfl rfl rfl ?_
  refine sy_pickT rfl rfl rfl rfl ?_
  refine sy_move rfl rfl rfl ?_
  refine sy_cond (d := 11) _ rfl rfl (fun hg11 => ?_) (fun hg11 => ?_)
  · refine sy_move rfl rfl rfl ?_
    refine sy_move rfl rfl rfl ?_
    refine sy_nilCheck rfl rfl rfl ?_
    refine sy_field fld_94_0 rfl rfl rfl ?_
    refine sy_ldh one_3 rfl (lat_n hg) rfl rfl ?_
    refine sy_cmp rfl rfl rfl rfl rfl ?_
    refine sy_pickT rfl rfl rfl rfl ?_
    refine sy_assign rfl rfl rfl ?_
    refine sy_nil rfl ?_
    refine ny_next ?_
    refine cy_ret ?_
    refine ny_finR (res1 rfl rfl) (fun w hs => ⟨?_, hs.frm⟩)
    simp_all [isI] <;> omega
  · refine sy_skip rfl rfl rfl ?_
    refine sy_skip rfl rfl rfl ?_
    refine sy_skip rfl rfl rfl ?_
    refine sy_skip rfl rfl rfl ?_
    refine sy_skip rfl rfl rfl ?_
    refine sy_skip rfl rfl rfl ?_
    refine sy_pickF rfl rfl rfl rfl ?_
    refine sy_assign rfl rfl rfl ?_
    refine sy_nil rfl ?_
    refine ny_next ?_
    refine cy_ret ?_
    refine ny_finR (res1 rfl rfl) (fun w hs => ⟨?_, hs.frm⟩)
    simp_all [isI] <;> omega
set_option maxRecDepth 100000 in
theorem isn_c (h : Hp) (a : Int) : C0 Tryd.prog 53 [.pointer none, .int .i64 a] h (.bool false) := by
  refine enter0 Tryd.func53 rfl rfl rfl (fun w => ?_)
  refine cy_seq ?_
  refine cy_region ?_
  refine sy_assign rfl rfl rfl ?_
  refine sy_nil rfl ?_
  refine ny_next ?_
  refine cy_seq ?_
  refine cy_region ?_
  refine sy_move rfl rfl rfl ?_
  refine sy_eqp Tryd.underlying27 rfl rfl rfl rfl rfl ?_
  refine sy_setF (d := 6) rfl rfl rfl ?_
  refine sy_move rfl rfl rfl ?_
  refine sy_skip rfl rfl rfl ?_
  refine sy_skip rfl rfl rfl ?_
  refine sy_pickF rfl rfl rfl rfl ?_
  refine sy_move rfl rfl rfl ?_
  refine sy_skip rfl rfl rfl ?_
  refine sy_skip rfl rfl rfl ?_
  refine sy_skip rfl rfl rfl ?_
  refine sy_skip rfl rfl rfl ?_
  refine sy_skip rfl rfl rfl ?_
  refine sy_skip rfl rfl rfl ?_
  refine sy_pickF rfl rfl rfl rfl ?_
  refine sy_assign rfl rfl rfl ?_
  refine sy_nil rfl ?_
  refine ny_next ?_
  refine cy_ret ?_
  refine ny_finR (res1 rfl rfl) (fun w hs => ⟨?_, hs.frm⟩)
  rfl
set_option maxRecDepth 100000 in
theorem len_c (g n : Nat) (u : U) (h : Hp) (hg : h g = some (lat 94 n u)) : C0 Tryd.prog 21 [.pointer (some ⟨g, 0, none⟩)] h (.int .i64 (n : Int)) := by
  refine enter0 Tryd.func21 rfl rfl rfl (fun w => ?_)
  refine cy_seq ?_
  refine cy_region ?_
  refine sy_assign rfl rfl rfl ?_
  refine sy_nil rfl ?_
  refine ny_next ?_
  refine cy_seq ?_
  refine cy_seq ?_
  refine cy_region ?_
  refine sy_move rfl rfl rfl ?_
  refine sy_eqp Tryd.underlying27 rfl rfl rfl rfl rfl ?_
  refine sy_setF (d := 4) rfl rfl rfl ?_
  refine sy_nil rfl ?_
  refine ny_next ?_
  refine cy_condF rfl ?_
  refine cy_skip ?_
  refine ny_next ?_
  refine cy_seq ?_
  refine cy_region ?_
  refine sy_move rfl rfl rfl ?_
  refine sy_nilCheck rfl rfl rfl ?_
  refine sy_field fld_94_0 rfl rfl rfl ?_
  refine sy_ldh one_3 rfl (lat_n hg) rfl rfl ?_
  refine sy_assign rfl rfl rfl ?_
  refine sy_nil rfl ?_
  refine ny_next ?_
  refine cy_ret ?_
  refine ny_finR (res1 rfl rfl) (fun w hs => ⟨?_, hs.frm⟩)
  rfl
set_option maxRecDepth 100000 in
theorem lenn_c (h : Hp) : C0 Tryd.prog 21 [.pointer none] h (.int .i64 0) := by
  refine enter0 Tryd.func21 rfl rfl rfl (fun w => ?_)
  refine cy_seq ?_
  refine cy_region ?_
  refine sy_assign rfl rfl rfl ?_
  refine sy_nil rfl ?_
  refine ny_next ?_
  refine cy_seq ?_
  refine cy_seq ?_
  refine cy_region ?_
  refine sy_move rfl rfl rfl ?_
  refine sy_eqp Tryd.underlying27 rfl rfl rfl rfl rfl ?_
  refine sy_setT (d := 4) rfl rfl rfl ?_
  refine sy_nil rfl ?_
  refine ny_next ?_
  refine cy_condT rfl ?_
  refine cy_seq ?_
  refine cy_region ?_
  refine sy_assign rfl rfl rfl ?_
  refine sy_nil rfl ?_
  refine ny_next ?_
  refine cy_ret ?_
  refine ny_thenR ?_
  refine ny_finR (res1 rfl rfl) (fun w hs => ⟨?_, hs.frm⟩)
  rfl
set_option maxRecDepth 100000 in
theorem leq_c (g n : Nat) (u : U) (h : Hp) (hg : h g = some (lat 94 n u)) (hn1 : 1 ≤ n) (hn : n ≤ 16) (hu : ∀ a, u a < 65536) (a b : Int) : C0 Tryd.prog 23 [.pointer (some ⟨g, 0, none⟩), .int .i64 a, .int .i64 b] h (.bool (leqI n u a b)) := by
  refine enter0 Tryd.func23 rfl rfl rfl (fun w => ?_)
  refine cy_seq ?_
  refine cy_region ?_
  refine sy_assign rfl rfl rfl ?_
  refine sy_nil rfl ?_
  refine ny_next ?_
  refine cy_seq ?_
  refine cy_region ?_
  refine sy_move rfl rfl rfl ?_
  refine sy_move rfl rfl rfl ?_
  refine sy_call rfl call_53 rfl (is_c _ _ _ _ hg _) rfl rfl ?_
  refine sy_move rfl rfl rfl ?_
  refine sy_cond (d := 10) _ rfl rfl (fun hg10 => ?_) (fun hg10 => ?_)
  · refine sy_move rfl rfl rfl ?_
    refine sy_move rfl rfl rfl ?_
    refine sy_call rfl call_53 rfl (is_c _ _ _ _ hg _) rfl rfl ?_
    refine sy_pickT rfl rfl rfl rfl ?_
    refine sy_move rfl rfl rfl ?_
    refine sy_cond (d := 15) _ rfl rfl (fun hg15 => ?_) (fun hg15 => ?_)
    · obtain ⟨a, rfl, ha⟩ := isI_some hg10
      obtain ⟨b, rfl, hb⟩ := isI_some hg15
      have hua := hu a
      refine sy_move rfl rfl rfl ?_
      refine sy_move rfl rfl rfl ?_
      refine sy_nilCheck rfl rfl rfl ?_
      refine sy_field fld_94_1 rfl rfl rfl ?_
      refine sy_idxA arr_92 rfl rfl (by omega) (by omega) rfl rfl ?_
      refine sy_ldh one_91 rfl (lat_u hg (by omega)) rfl rfl ?_
      refine sy_move rfl rfl rfl ?_
      refine sy_convu Tryd.underlying3 Tryd.underlying91 rfl (by omega) rfl rfl ?_
      refine sy_shru rfl rfl (by omega) rfl rfl rfl ?_
      refine sy_andu (b := 1) rfl rfl (shr_lt hua) (by decide) rfl rfl rfl ?_
      refine sy_cmp rfl rfl rfl rfl rfl ?_
      refine sy_pickT rfl rfl rfl rfl ?_
      refine sy_assign rfl rfl rfl ?_
      refine sy_nil rfl ?_
      refine ny_next ?_
      refine cy_ret ?_
      refine ny_finR (res1 rfl rfl) (fun w hs => ⟨?_, hs.frm⟩)
      first | (rw [bit1]; simp_all [leqI, isI_nat]) | simp_all [leqI]
    · refine sy_skip rfl rfl rfl ?_
      refine sy_skip rfl rfl rfl ?_
      refine sy_skip rfl rfl rfl ?_
      refine sy_skip rfl rfl rfl ?_
      refine sy_skip rfl rfl rfl ?_
      refine sy_skip rfl rfl rfl ?_
      refine sy_skip rfl rfl rfl ?_
      refine sy_skip rfl rfl rfl ?_
      refine sy_skip rfl rfl rfl ?_
      refine sy_skip rfl rfl rfl ?_
      refine sy_skip rfl rfl rfl ?_
      refine sy_pickF rfl rfl rfl rfl ?_
      refine sy_assign rfl rfl rfl ?_
      refine sy_nil rfl ?_
      refine ny_next ?_
      refine cy_ret ?_
      refine ny_finR (res1 rfl rfl) (fun w hs => ⟨?_, hs.frm⟩)
      first | (rw [bit1]; simp_all [leqI, isI_nat]) | simp_all [leqI]
  · refine sy_skip rfl rfl rfl ?_
    refine sy_skip rfl rfl rfl ?_
    refine sy_skip rfl rfl rfl ?_
    refine sy_pickF rfl rfl rfl rfl ?_
    refine sy_move rfl rfl rfl ?_
    refine sy_skip rfl rfl rfl ?_
    refine sy_skip rfl rfl rfl ?_
    refine sy_skip rfl rfl rfl ?_
    refine sy_skip rfl rfl rfl ?_
    refine sy_skip rfl rfl rfl ?_
    refine sy_skip rfl rfl rfl ?_
    refine sy_skip rfl rfl rfl ?_
    refine sy_skip rfl rfl rfl ?_
    refine sy_skip rfl rfl rfl ?_
    refine sy_skip rfl rfl rfl ?_
    refine sy_skip rfl rfl rfl ?_
    refine sy_pickF rfl rfl rfl rfl ?_
    refine sy_assign rfl rfl rfl ?_
    refine sy_nil rfl ?_
    refine ny_next ?_
    refine cy_ret ?_
    refine ny_finR (res1 rfl rfl) (fun w hs => ⟨?_, hs.frm⟩)
    first | (rw [bit1]; simp_all [leqI, isI_nat]) | simp_all [leqI]
set_option maxRecDepth 100000 in
theorem leqn_c (h : Hp) (a b : Int) : C0 Tryd.prog 23 [.pointer none, .int .i64 a, .int .i64 b] h (.bool false) := by
  refine enter0 Tryd.func23 rfl rfl rfl (fun w => ?_)
  refine cy_seq ?_
  refine cy_region ?_
  refine sy_assign rfl rfl rfl ?_
  refine sy_nil rfl ?_
  refine ny_next ?_
  refine cy_seq ?_
  refine cy_region ?_
  refine sy_move rfl rfl rfl ?_
  refine sy_move rfl rfl rfl ?_
  refine sy_call rfl call_53 rfl (isn_c _ _) rfl rfl ?_
  refine sy_move rfl rfl rfl ?_
  refine sy_setF (d := 10) rfl rfl rfl ?_
  refine sy_skip rfl rfl rfl ?_
  refine sy_skip rfl rfl rfl ?_
  refine sy_skip rfl rfl rfl ?_
  refine sy_pickF rfl rfl rfl rfl ?_
  refine sy_move rfl rfl rfl ?_
  refine sy_skip rfl rfl rfl ?_
  refine sy_skip rfl rfl rfl ?_
  refine sy_skip rfl rfl rfl ?_
  refine sy_skip rfl rfl rfl ?_
  refine sy_skip rfl rfl rfl ?_
  refine sy_skip rfl rfl rfl ?_
  refine sy_skip rfl rfl rfl ?_
  refine sy_skip rfl rfl rfl ?_
  refine sy_skip rfl rfl rfl ?_
  refine sy_skip rfl rfl rfl ?_
  refine sy_skip rfl rfl rfl ?_
  refine sy_pickF rfl rfl rfl rfl ?_
  refine sy_assign rfl rfl rfl ?_
  refine sy_nil rfl ?_
  refine ny_next ?_
  refine cy_ret ?_
  refine ny_finR (res1 rfl rfl) (fun w hs => ⟨?_, hs.frm⟩)
  rfl
set_option maxRecDepth 100000 in
theorem join_c (g n : Nat) (u : U) (h : Hp) (hg : h g = some (lat 94 n u)) (hn1 : 1 ≤ n) (hn : n ≤ 16) (hu : ∀ a, u a < 65536) (a b : Int) : C0 Tryd.prog 36 [.pointer (some ⟨g, 0, none⟩), .int .i64 a, .int .i64 b] h (.int .i64 (joinI n u a b)) := by
  refine enter0 Tryd.func36 rfl rfl rfl (fun w => ?_)
  refine cy_seq ?_
  refine cy_region ?_
  refine sy_assign rfl rfl rfl ?_
  refine sy_nil rfl ?_
  refine ny_next ?_
  refine cy_seq ?_
  refine cy_seq ?_
  refine cy_region ?_
  refine sy_move rfl rfl rfl ?_
  refine sy_move rfl rfl rfl ?_
  refine sy_call rfl call_53 rfl (is_c _ _ _ _ hg _) rfl rfl ?_
  refine sy_not rfl rfl rfl ?_
  refine sy_move rfl rfl rfl ?_
  refine sy_cond (d := 13) _ rfl rfl (fun hg13 => ?_) (fun hg13 => ?_)
  · refine sy_skip rfl rfl rfl ?_
    refine sy_skip rfl rfl rfl ?_
    refine sy_skip rfl rfl rfl ?_
    refine sy_skip rfl rfl rfl ?_
    refine sy_pickT rfl rfl rfl rfl ?_
    refine sy_nil rfl ?_
    refine ny_next ?_
    refine cy_condT rfl ?_
    skip
    refine cy_seq ?_
    refine cy_region ?_
    refine sy_assign rfl rfl rfl ?_
    refine sy_nil rfl ?_
    refine ny_next ?_
    refine cy_ret ?_
    refine ny_thenR ?_
    refine ny_finR (res1 rfl rfl) (fun w hs => ⟨?_, hs.frm⟩)
    rw [join_out (by simp_all)]
  · refine sy_move rfl rfl rfl ?_
    refine sy_move rfl rfl rfl ?_
    refine sy_call rfl call_53 rfl (is_c _ _ _ _ hg _) rfl rfl ?_
    refine sy_not rfl rfl rfl ?_
    refine sy_pickF rfl rfl rfl rfl ?_
    refine sy_nil rfl ?_
    refine ny_next ?_
    refine cy_cond rfl (fun hc18 => ?_) (fun hc18 => ?_)
    · skip
      refine cy_seq ?_
      refine cy_region ?_
      refine sy_assign rfl rfl rfl ?_
      refine sy_nil rfl ?_
      refine ny_next ?_
      refine cy_ret ?_
      refine ny_thenR ?_
      refine ny_finR (res1 rfl rfl) (fun w hs => ⟨?_, hs.frm⟩)
      rw [join_out (by simp_all)]
    · refine cy_skip ?_
      refine ny_next ?_
      refine cy_seq ?_
      have hia : isI n a = true := by simp_all
      have hib : isI n b = true := by simp_all
      obtain ⟨a, rfl, ha⟩ := isI_some hia
      obtain ⟨b, rfl, hb⟩ := isI_some hib
      have hua := hu a
      have hub := hu b
      have hboth : u a &&& u b < 65536 := and_lt hua
      refine cy_regionQ mixedA (by kernel_rfl) ?_
      refine sy_move rfl rfl rfl ?_
      refine sy_move rfl rfl rfl ?_
      refine sy_nilCheck rfl rfl rfl ?_
      refine sy_field fld_94_1 rfl rfl rfl ?_
      refine sy_idxA arr_92 rfl rfl (by omega) (by omega) rfl rfl ?_
      refine sy_ldh one_91 rfl (lat_u hg (by omega)) rfl rfl ?_
      refine sy_move rfl rfl rfl ?_
      refine sy_move rfl rfl rfl ?_
      refine sy_nilCheck rfl rfl rfl ?_
      refine sy_field fld_94_1 rfl rfl rfl ?_
      refine sy_idxA arr_92 rfl rfl (by omega) (by omega) rfl rfl ?_
      refine sy_ldh one_91 rfl (lat_u hg (by omega)) rfl rfl ?_
      refine sy_andu rfl rfl (by omega) (by omega) rfl rfl rfl ?_
      refine sy_assign rfl rfl rfl ?_
      refine sy_nil rfl ?_
      refine ny_next ?_
      refine cy_seq ?_
      refine cy_seq ?_
      refine cy_region ?_
      refine sy_move rfl rfl rfl ?_
      refine sy_nilCheck rfl rfl rfl ?_
      refine sy_field fld_94_0 rfl rfl rfl ?_
      refine sy_ldh one_3 rfl (lat_n hg) rfl rfl ?_
      refine sy_move rfl rfl rfl ?_
      refine sy_nil rfl ?_
      refine ny_next ?_
      refine cy_block ?_
      refine cy_loop (ι := Nat) (fun i => i ≤ n ∧ ∀ c, c < i → lubB u (u a &&& u b) c = false) (fun i => n - i) (fun i => [(0, .pointer (some ⟨g, 0, none⟩)), (7, .int .u64 (((u a &&& u b) : Nat) : Int)), (35, .int .i64 (n : Int)), (36, .int .i64 (i : Int))]) (fun _ => h) (fun _ => []) 0 [] ⟨Nat.zero_le _, fun c hc => absurd hc (Nat.not_lt_zero c)⟩ ⟨rfl, rfl, rfl, rfl, trivial⟩ rfl rfl ?_
      rintro i ⟨hi, hprei⟩
      refine cy_seq ?_
      refine cy_region ?_
      refine sy_cmp rfl rfl rfl rfl rfl ?_
      refine sy_nil rfl ?_
      refine ny_next ?_
      refine cy_seq ?_
      refine cy_cond rfl (fun hc37 => ?_) (fun hc37 => ?_)
      · have hlti : i < n := by have := of_decide_eq_true hc37; omega
        have hui := hu i
        refine cy_skip ?_
        refine ny_next ?_
        refine cy_seq ?_
        refine cy_block ?_
        refine cy_seq ?_
        refine cy_region ?_
        refine sy_move rfl rfl rfl ?_
        refine sy_assign rfl rfl rfl ?_
        refine sy_nil rfl ?_
        refine ny_next ?_
        refine cy_seq ?_
        refine cy_region ?_
        refine sy_move rfl rfl rfl ?_
        refine sy_move rfl rfl rfl ?_
        refine sy_convu Tryd.underlying3 Tryd.underlying91 rfl (by omega) rfl rfl ?_
        refine sy_shru rfl rfl (by omega) rfl rfl rfl ?_
        refine sy_andu (b := 1) rfl rfl (shr_lt hboth) (by decide) rfl rfl rfl ?_
        refine sy_cmp rfl rfl rfl rfl rfl ?_
        refine sy_move rfl rfl rfl ?_
        refine sy_cond (d := 45) _ rfl rfl (fun hg45 => ?_) (fun hg45 => ?_)
        · refine sy_move rfl rfl rfl ?_
          refine sy_move rfl rfl rfl ?_
          refine sy_nilCheck rfl rfl rfl ?_
          refine sy_field fld_94_1 rfl rfl rfl ?_
          refine sy_idxA arr_92 rfl rfl (by omega) (by omega) rfl rfl ?_
          refine sy_ldh one_91 rfl (lat_u hg (by omega)) rfl rfl ?_
          refine sy_move rfl rfl rfl ?_
          refine sy_andu rfl rfl (by omega) (by omega) rfl rfl rfl ?_
          refine sy_move rfl rfl rfl ?_
          refine sy_cmp rfl rfl rfl rfl rfl ?_
          refine sy_pickT rfl rfl rfl rfl ?_
          refine sy_nil rfl ?_
          refine ny_next ?_
          refine cy_cond rfl (fun hc56 => ?_) (fun hc56 => ?_)
          · refine cy_seq ?_
            refine cy_region ?_
            refine sy_move rfl rfl rfl ?_
            refine sy_assign rfl rfl rfl ?_
            refine sy_nil rfl ?_
            refine ny_next ?_
            refine cy_ret ?_
            refine ny_blockR ?_
            refine ny_thenR ?_
            refine ny_thenR ?_
            refine ny_blockR ?_
            refine ny_thenR ?_
            refine ny_finR (res1 rfl rfl) (fun w hs => ⟨?_, hs.frm⟩)
            rw [join_at ha hb hlti (lubB_T hg45 hc56) hprei]
          · refine cy_skip ?_
            refine ny_blockN ?_
            refine ny_next ?_
            refine cy_region ?_
            refine sy_addi (z := ((i + 1 : Nat) : Int)) rfl rfl (by omega) (by omega) (by omega) rfl rfl ?_
            refine sy_move rfl rfl rfl ?_
            refine sy_nil rfl ?_
            refine ny_round (i + 1) [] ⟨by omega, ?_⟩ (show n - (i + 1) < n - i by omega) ⟨rfl, rfl, rfl, rfl, trivial⟩ rfl rfl
            intro c hc
            rcases Nat.lt_succ_iff_lt_or_eq.1 hc with hc | hc
            · exact hprei c hc
            · subst hc
              first | exact lubB_F2 hc56 | exact lubB_F1 hg45
        · refine sy_skip rfl rfl rfl ?_
          refine sy_skip rfl rfl rfl ?_
          refine sy_skip rfl rfl rfl ?_
          refine sy_skip rfl rfl rfl ?_
          refine sy_skip rfl rfl rfl ?_
          refine sy_skip rfl rfl rfl ?_
          refine sy_skip rfl rfl rfl ?_
          refine sy_skip rfl rfl rfl ?_
          refine sy_skip rfl rfl rfl ?_
          refine sy_skip rfl rfl rfl ?_
          refine sy_pickF rfl rfl rfl rfl ?_
          refine sy_nil rfl ?_
          refine ny_next ?_
          refine cy_condF rfl ?_
          refine cy_skip ?_
          refine ny_blockN ?_
          refine ny_next ?_
          refine cy_region ?_
          refine sy_addi (z := ((i + 1 : Nat) : Int)) rfl rfl (by omega) (by omega) (by omega) rfl rfl ?_
          refine sy_move rfl rfl rfl ?_
          refine sy_nil rfl ?_
          refine ny_round (i + 1) [] ⟨by omega, ?_⟩ (show n - (i + 1) < n - i by omega) ⟨rfl, rfl, rfl, rfl, trivial⟩ rfl rfl
          intro c hc
          rcases Nat.lt_succ_iff_lt_or_eq.1 hc with hc | hc
          · exact hprei c hc
          · subst hc
            first | exact lubB_F2 hc56 | exact lubB_F1 hg45
      · have hiei : n = i := by have := of_decide_eq_false hc37; omega
        subst hiei
        refine cy_exit ?_
        refine ny_thenE ?_
        refine ny_thenE ?_
        refine ny_blockX ?_
        refine ny_next ?_
        refine cy_seq ?_
        refine cy_region ?_
        refine sy_assign rfl rfl rfl ?_
        refine sy_nil rfl ?_
        refine ny_next ?_
        refine cy_ret ?_
        refine ny_finR (res1 rfl rfl) (fun w hs => ⟨?_, hs.frm⟩)
        rw [join_none ha hb hprei]
set_option maxRecDepth 100000 in
theorem joinn_c (h : Hp) (a b : Int) : C0 Tryd.prog 36 [.pointer none, .int .i64 a, .int .i64 b] h (.int .i64 (-1)) := by
  refine enter0 Tryd.func36 rfl rfl rfl (fun w => ?_)
  refine cy_seq ?_
  refine cy_region ?_
  refine sy_assign rfl rfl rfl ?_
  refine sy_nil rfl ?_
  refine ny_next ?_
  refine cy_seq ?_
  refine cy_seq ?_
  refine cy_region ?_
  refine sy_move rfl rfl rfl ?_
  refine sy_move rfl rfl rfl ?_
  refine sy_call rfl call_53 rfl (isn_c _ _) rfl rfl ?_
  refine sy_not rfl rfl rfl ?_
  refine sy_move rfl rfl rfl ?_
  refine sy_setT (d := 13) rfl rfl rfl ?_
  refine sy_skip rfl rfl rfl ?_
  refine sy_skip rfl rfl rfl ?_
  refine sy_skip rfl rfl rfl ?_
  refine sy_skip rfl rfl rfl ?_
  refine sy_pickT rfl rfl rfl rfl ?_
  refine sy_nil rfl ?_
  refine ny_next ?_
  refine cy_condT rfl ?_
  refine cy_seq ?_
  refine cy_region ?_
  refine sy_assign rfl rfl rfl ?_
  refine sy_nil rfl ?_
  refine ny_next ?_
  refine cy_ret ?_
  refine ny_thenR ?_
  refine ny_finR (res1 rfl rfl) (fun w hs => ⟨?_, hs.frm⟩)
  rfl
set_option maxRecDepth 100000 in
theorem meet_c (g n : Nat) (u : U) (h : Hp) (hg : h g = some (lat 94 n u)) (hn1 : 1 ≤ n) (hn : n ≤ 16) (hu : ∀ a, u a < 65536) (a b : Int) : C0 Tryd.prog 43 [.pointer (some ⟨g, 0, none⟩), .int .i64 a, .int .i64 b] h (.int .i64 (meetI n u a b)) := by
  refine enter0 Tryd.func43 rfl rfl rfl (fun w => ?_)
  refine cy_seq ?_
  refine cy_region ?_
  refine sy_assign rfl rfl rfl ?_
  refine sy_nil rfl ?_
  refine ny_next ?_
  refine cy_seq ?_
  refine cy_seq ?_
  refine cy_region ?_
  refine sy_move rfl rfl rfl ?_
  refine sy_move rfl rfl rfl ?_
  refine sy_call rfl call_53 rfl (is_c _ _ _ _ hg _) rfl rfl ?_
  refine sy_not rfl rfl rfl ?_
  refine sy_move rfl rfl rfl ?_
  refine sy_cond (d := 14) _ rfl rfl (fun hg14 => ?_) (fun hg14 => ?_)
  · refine sy_skip rfl rfl rfl ?_
    refine sy_skip rfl rfl rfl ?_
    refine sy_skip rfl rfl rfl ?_
    refine sy_skip rfl rfl rfl ?_
    refine sy_pickT rfl rfl rfl rfl ?_
    refine sy_nil rfl ?_
    refine ny_next ?_
    refine cy_condT rfl ?_
    refine cy_seq ?_
    refine cy_region ?_
    refine sy_assign rfl rfl rfl ?_
    refine sy_nil rfl ?_
    refine ny_next ?_
    refine cy_ret ?_
    refine ny_thenR ?_
    refine ny_finR (res1 rfl rfl) (fun w hs => ⟨?_, hs.frm⟩)
    rw [meet_out (by simp_all)]
  · refine sy_move rfl rfl rfl ?_
    refine sy_move rfl rfl rfl ?_
    refine sy_call rfl call_53 rfl (is_c _ _ _ _ hg _) rfl rfl ?_
    refine sy_not rfl rfl rfl ?_
    refine sy_pickF rfl rfl rfl rfl ?_
    refine sy_nil rfl ?_
    refine ny_next ?_
    refine cy_cond rfl (fun hc19 => ?_) (fun hc19 => ?_)
    · refine cy_seq ?_
      refine cy_region ?_
      refine sy_assign rfl rfl rfl ?_
      refine sy_nil rfl ?_
      refine ny_next ?_
      refine cy_ret ?_
      refine ny_thenR ?_
      refine ny_finR (res1 rfl rfl) (fun w hs => ⟨?_, hs.frm⟩)
      rw [meet_out (by simp_all)]
    · refine cy_skip ?_
      refine ny_next ?_
      refine cy_seq ?_
      refine cy_region ?_
      refine sy_assign rfl rfl rfl ?_
      refine sy_nil rfl ?_
      refine ny_next ?_
      refine cy_seq ?_
      refine cy_seq ?_
      refine cy_region ?_
      refine sy_move rfl rfl rfl ?_
      refine sy_nilCheck rfl rfl rfl ?_
      refine sy_field fld_94_0 rfl rfl rfl ?_
      refine sy_ldh one_3 rfl (lat_n hg) rfl rfl ?_
      refine sy_move rfl rfl rfl ?_
      refine sy_nil rfl ?_
      refine ny_next ?_
      refine cy_block ?_
      refine cy_loop (ι := Nat) (fun i => i ≤ n) (fun i => n - i) (fun i => [(0, .pointer (some ⟨g, 0, none⟩)), (1, .int .i64 a), (2, .int .i64 b), (7, .int .i64 (bestI (lowB n u a b) (leqI n u) i)), (23, .int .i64 (n : Int)), (24, .int .i64 (i : Int))]) (fun _ => h) (fun _ => []) 0 [] (Nat.zero_le _) ⟨rfl, rfl, rfl, rfl, rfl, rfl, trivial⟩ rfl rfl ?_
      rintro i hii
      refine cy_seq ?_
      refine cy_region ?_
      refine sy_cmp rfl rfl rfl rfl rfl ?_
      refine sy_nil rfl ?_
      refine ny_next ?_
      refine cy_seq ?_
      refine cy_cond rfl (fun hc25 => ?_) (fun hc25 => ?_)
      · have hlti : i < n := by have := of_decide_eq_true hc25; omega
        refine cy_skip ?_
        refine ny_next ?_
        refine cy_seq ?_
        refine cy_block ?_
        refine cy_seq ?_
        refine cy_region ?_
        refine sy_move rfl rfl rfl ?_
        refine sy_assign rfl rfl rfl ?_
        refine sy_nil rfl ?_
        refine ny_next ?_
        refine cy_seq ?_
        refine cy_region ?_
        refine sy_move rfl rfl rfl ?_
        refine sy_move rfl rfl rfl ?_
        refine sy_move rfl rfl rfl ?_
        refine sy_call rfl call_23 rfl (leq_c _ _ _ _ hg hn1 hn hu _ _) rfl rfl ?_
        refine sy_move rfl rfl rfl ?_
        refine sy_cond (d := 31) _ rfl rfl (fun hg31 => ?_) (fun hg31 => ?_)
        · refine sy_move rfl rfl rfl ?_
          refine sy_move rfl rfl rfl ?_
          refine sy_move rfl rfl rfl ?_
          refine sy_call rfl call_23 rfl (leq_c _ _ _ _ hg hn1 hn hu _ _) rfl rfl ?_
          refine sy_pickT rfl rfl rfl rfl ?_
          refine sy_move rfl rfl rfl ?_
          refine sy_cond (d := 37) _ rfl rfl (fun hg37 => ?_) (fun hg37 => ?_)
          · refine sy_move rfl rfl rfl ?_
            refine sy_cmp rfl rfl rfl rfl rfl ?_
            refine sy_move rfl rfl rfl ?_
            refine sy_cond (d := 40) _ rfl rfl (fun hg40 => ?_) (fun hg40 => ?_)
            · refine sy_skip rfl rfl rfl ?_
              refine sy_skip rfl rfl rfl ?_
              refine sy_skip rfl rfl rfl ?_
              refine sy_skip rfl rfl rfl ?_
              refine sy_pickT rfl rfl rfl rfl ?_
              refine sy_pickT rfl rfl rfl rfl ?_
              refine sy_nil rfl ?_
              refine ny_next ?_
              refine cy_condT rfl ?_
              refine cy_region ?_
              refine sy_move rfl rfl rfl ?_
              refine sy_assign rfl rfl rfl ?_
              refine sy_nil rfl ?_
              refine ny_blockN ?_
              refine ny_next ?_
              refine cy_region ?_
              refine sy_addi (z := ((i + 1 : Nat) : Int)) rfl rfl (by omega) (by omega) (by omega) rfl rfl ?_
              refine sy_move rfl rfl rfl ?_
              refine sy_nil rfl ?_
              refine ny_round (i + 1) [] (show i + 1 ≤ n by omega) (show n - (i + 1) < n - i by omega) ⟨rfl, rfl, rfl, (by first | (rw [best_yes hg31 hg37 (.inl hg40)]; rfl) | (rw [best_yes hg31 hg37 (.inr hc46)]; rfl) | (rw [best_no3 hg31 hg37 hg40 hc46]; rfl) | (rw [best_no2 hg31 hg37]; rfl) | (rw [best_no1 hg31]; rfl)), rfl, rfl, trivial⟩ rfl rfl
            · refine sy_move rfl rfl rfl ?_
              refine sy_move rfl rfl rfl ?_
              refine sy_move rfl rfl rfl ?_
              refine sy_call rfl call_23 rfl (leq_c _ _ _ _ hg hn1 hn hu _ _) rfl rfl ?_
              refine sy_pickF rfl rfl rfl rfl ?_
              refine sy_pickT rfl rfl rfl rfl ?_
              refine sy_nil rfl ?_
              refine ny_next ?_
              refine cy_cond rfl (fun hc46 => ?_) (fun hc46 => ?_)
              · refine cy_region ?_
                refine sy_move rfl rfl rfl ?_
                refine sy_assign rfl rfl rfl ?_
                refine sy_nil rfl ?_
                refine ny_blockN ?_
                refine ny_next ?_
                refine cy_region ?_
                refine sy_addi (z := ((i + 1 : Nat) : Int)) rfl rfl (by omega) (by omega) (by omega) rfl rfl ?_
                refine sy_move rfl rfl rfl ?_
                refine sy_nil rfl ?_
                refine ny_round (i + 1) [] (show i + 1 ≤ n by omega) (show n - (i + 1) < n - i by omega) ⟨rfl, rfl, rfl, (by first | (rw [best_yes hg31 hg37 (.inl hg40)]; rfl) | (rw [best_yes hg31 hg37 (.inr hc46)]; rfl) | (rw [best_no3 hg31 hg37 hg40 hc46]; rfl) | (rw [best_no2 hg31 hg37]; rfl) | (rw [best_no1 hg31]; rfl)), rfl, rfl, trivial⟩ rfl rfl
              · refine cy_skip ?_
                refine ny_blockN ?_
                refine ny_next ?_
                refine cy_region ?_
                refine sy_addi (z := ((i + 1 : Nat) : Int)) rfl rfl (by omega) (by omega) (by omega) rfl rfl ?_
                refine sy_move rfl rfl rfl ?_
                refine sy_nil rfl ?_
                refine ny_round (i + 1) [] (show i + 1 ≤ n by omega) (show n - (i + 1) < n - i by omega) ⟨rfl, rfl, rfl, (by first | (rw [best_yes hg31 hg37 (.inl hg40)]; rfl) | (rw [best_yes hg31 hg37 (.inr hc46)]; rfl) | (rw [best_no3 hg31 hg37 hg40 hc46]; rfl) | (rw [best_no2 hg31 hg37]; rfl) | (rw [best_no1 hg31]; rfl)), rfl, rfl, trivial⟩ rfl rfl
          · refine sy_skip rfl rfl rfl ?_
            refine sy_skip rfl rfl rfl ?_
            refine sy_skip rfl rfl rfl ?_
            refine sy_skip rfl rfl rfl ?_
            refine sy_skip rfl rfl rfl ?_
            refine sy_skip rfl rfl rfl ?_
            refine sy_skip rfl rfl rfl ?_
            refine sy_skip rfl rfl rfl ?_
            refine sy_pickF rfl rfl rfl rfl ?_
            refine sy_nil rfl ?_
            refine ny_next ?_
            refine cy_condF rfl ?_
            refine cy_skip ?_
            refine ny_blockN ?_
            refine ny_next ?_
            refine cy_region ?_
            refine sy_addi (z := ((i + 1 : Nat) : Int)) rfl rfl (by omega) (by omega) (by omega) rfl rfl ?_
            refine sy_move rfl rfl rfl ?_
            refine sy_nil rfl ?_
            refine ny_round (i + 1) [] (show i + 1 ≤ n by omega) (show n - (i + 1) < n - i by omega) ⟨rfl, rfl, rfl, (by first | (rw [best_yes hg31 hg37 (.inl hg40)]; rfl) | (rw [best_yes hg31 hg37 (.inr hc46)]; rfl) | (rw [best_no3 hg31 hg37 hg40 hc46]; rfl) | (rw [best_no2 hg31 hg37]; rfl) | (rw [best_no1 hg31]; rfl)), rfl, rfl, trivial⟩ rfl rfl
        · refine sy_skip rfl rfl rfl ?_
          refine sy_skip rfl rfl rfl ?_
          refine sy_skip rfl rfl rfl ?_
          refine sy_skip rfl rfl rfl ?_
          refine sy_pickF rfl rfl rfl rfl ?_
          refine sy_move rfl rfl rfl ?_
          refine sy_skip rfl rfl rfl ?_
          refine sy_skip rfl rfl rfl ?_
          refine sy_skip rfl rfl rfl ?_
          refine sy_skip rfl rfl rfl ?_
          refine sy_skip rfl rfl rfl ?_
          refine sy_skip rfl rfl rfl ?_
          refine sy_skip rfl rfl rfl ?_
          refine sy_skip rfl rfl rfl ?_
          refine sy_pickF rfl rfl rfl rfl ?_
          refine sy_nil rfl ?_
          refine ny_next ?_
          refine cy_condF rfl ?_
          refine cy_skip ?_
          refine ny_blockN ?_
          refine ny_next ?_
          refine cy_region ?_
          refine sy_addi (z := ((i + 1 : Nat) : Int)) rfl rfl (by omega) (by omega) (by omega) rfl rfl ?_
          refine sy_move rfl rfl rfl ?_
          refine sy_nil rfl ?_
          refine ny_round (i + 1) [] (show i + 1 ≤ n by omega) (show n - (i + 1) < n - i by omega) ⟨rfl, rfl, rfl, (by first | (rw [best_yes hg31 hg37 (.inl hg40)]; rfl) | (rw [best_yes hg31 hg37 (.inr hc46)]; rfl) | (rw [best_no3 hg31 hg37 hg40 hc46]; rfl) | (rw [best_no2 hg31 hg37]; rfl) | (rw [best_no1 hg31]; rfl)), rfl, rfl, trivial⟩ rfl rfl
      · have hiei : n = i := by have := of_decide_eq_false hc25; omega
        subst hiei
        refine cy_exit ?_
        refine ny_thenE ?_
        refine ny_thenE ?_
        refine ny_blockX ?_
        refine ny_next ?_
        refine cy_seq ?_
        refine cy_seq ?_
        refine cy_region ?_
        refine sy_move rfl rfl rfl ?_
        refine sy_nilCheck rfl rfl rfl ?_
        refine sy_field fld_94_0 rfl rfl rfl ?_
        refine sy_ldh one_3 rfl (lat_n hg) rfl rfl ?_
        refine sy_move rfl rfl rfl ?_
        refine sy_nil rfl ?_
        refine ny_next ?_
        refine cy_block ?_
        refine cy_loop (ι := Nat) (fun i => i ≤ n ∧ ∀ c, c < i → (!lowB n u a b c || leqI n u c (bestI (lowB n u a b) (leqI n u) n)) = true) (fun i => n - i) (fun i => [(0, .pointer (some ⟨g, 0, none⟩)), (1, .int .i64 a), (2, .int .i64 b), (7, .int .i64 (bestI (lowB n u a b) (leqI n u) n)), (52, .int .i64 (n : Int)), (53, .int .i64 (i : Int))]) (fun _ => h) (fun _ => []) 0 [] ⟨Nat.zero_le _, fun c hc => absurd hc (Nat.not_lt_zero c)⟩ ⟨rfl, rfl, rfl, rfl, rfl, rfl, trivial⟩ rfl rfl ?_
        rintro i ⟨hi, hprei⟩
        refine cy_seq ?_
        refine cy_region ?_
        refine sy_cmp rfl rfl rfl rfl rfl ?_
        refine sy_nil rfl ?_
        refine ny_next ?_
        refine cy_seq ?_
        refine cy_cond rfl (fun hc54 => ?_) (fun hc54 => ?_)
        · have hlti : i < n := by have := of_decide_eq_true hc54; omega
          refine cy_skip ?_
          refine ny_next ?_
          refine cy_seq ?_
          refine cy_block ?_
          refine cy_seq ?_
          refine cy_region ?_
          refine sy_move rfl rfl rfl ?_
          refine sy_assign rfl rfl rfl ?_
          refine sy_nil rfl ?_
          refine ny_next ?_
          refine cy_seq ?_
          refine cy_region ?_
          refine sy_move rfl rfl rfl ?_
          refine sy_move rfl rfl rfl ?_
          refine sy_move rfl rfl rfl ?_
          refine sy_call rfl call_23 rfl (leq_c _ _ _ _ hg hn1 hn hu _ _) rfl rfl ?_
          refine sy_move rfl rfl rfl ?_
          refine sy_cond (d := 60) _ rfl rfl (fun hg60 => ?_) (fun hg60 => ?_)
          · refine sy_move rfl rfl rfl ?_
            refine sy_move rfl rfl rfl ?_
            refine sy_move rfl rfl rfl ?_
            refine sy_call rfl call_23 rfl (leq_c _ _ _ _ hg hn1 hn hu _ _) rfl rfl ?_
            refine sy_pickT rfl rfl rfl rfl ?_
            refine sy_move rfl rfl rfl ?_
            refine sy_cond (d := 66) _ rfl rfl (fun hg66 => ?_) (fun hg66 => ?_)
            · refine sy_move rfl rfl rfl ?_
              refine sy_move rfl rfl rfl ?_
              refine sy_move rfl rfl rfl ?_
              refine sy_call rfl call_23 rfl (leq_c _ _ _ _ hg hn1 hn hu _ _) rfl rfl ?_
              refine sy_not rfl rfl rfl ?_
              refine sy_pickT rfl rfl rfl rfl ?_
              refine sy_nil rfl ?_
              refine ny_next ?_
              refine cy_cond rfl (fun hc72 => ?_) (fun hc72 => ?_)
              · refine cy_seq ?_
                refine cy_region ?_
                refine sy_assign rfl rfl rfl ?_
                refine sy_nil rfl ?_
                refine ny_next ?_
                refine cy_ret ?_
                refine ny_blockR ?_
                refine ny_thenR ?_
                refine ny_thenR ?_
                refine ny_blockR ?_
                refine ny_thenR ?_
                refine ny_finR (res1 rfl rfl) (fun w hs => ⟨?_, hs.frm⟩)
                rw [meet_bad (by simp_all) (by simp_all) hlti hg60 hg66 hc72]
              · refine cy_skip ?_
                refine ny_blockN ?_
                refine ny_next ?_
                refine cy_region ?_
                refine sy_addi (z := ((i + 1 : Nat) : Int)) rfl rfl (by omega) (by omega) (by omega) rfl rfl ?_
                refine sy_move rfl rfl rfl ?_
                refine sy_nil rfl ?_
                refine ny_round (i + 1) [] ⟨by omega, ?_⟩ (show n - (i + 1) < n - i by omega) ⟨rfl, rfl, rfl, rfl, rfl, rfl, trivial⟩ rfl rfl
                intro c hc
                rcases Nat.lt_succ_iff_lt_or_eq.1 hc with hc | hc
                · exact hprei c hc
                · subst hc
                  first | exact hold3 hg60 hg66 hc72 | exact hold2 hg60 hg66 | exact hold1 hg60
            · refine sy_skip rfl rfl rfl ?_
              refine sy_skip rfl rfl rfl ?_
              refine sy_skip rfl rfl rfl ?_
              refine sy_skip rfl rfl rfl ?_
              refine sy_skip rfl rfl rfl ?_
              refine sy_pickF rfl rfl rfl rfl ?_
              refine sy_nil rfl ?_
              refine ny_next ?_
              refine cy_condF rfl ?_
              refine cy_skip ?_
              refine ny_blockN ?_
              refine ny_next ?_
              refine cy_region ?_
              refine sy_addi (z := ((i + 1 : Nat) : Int)) rfl rfl (by omega) (by omega) (by omega) rfl rfl ?_
              refine sy_move rfl rfl rfl ?_
              refine sy_nil rfl ?_
              refine ny_round (i + 1) [] ⟨by omega, ?_⟩ (show n - (i + 1) < n - i by omega) ⟨rfl, rfl, rfl, rfl, rfl, rfl, trivial⟩ rfl rfl
              intro c hc
              rcases Nat.lt_succ_iff_lt_or_eq.1 hc with hc | hc
              · exact hprei c hc
              · subst hc
                first | exact hold3 hg60 hg66 hc72 | exact hold2 hg60 hg66 | exact hold1 hg60
          · refine sy_skip rfl rfl rfl ?_
            refine sy_skip rfl rfl rfl ?_
            refine sy_skip rfl rfl rfl ?_
            refine sy_skip rfl rfl rfl ?_
            refine sy_pickF rfl rfl rfl rfl ?_
            refine sy_move rfl rfl rfl ?_
            refine sy_skip rfl rfl rfl ?_
            refine sy_skip rfl rfl rfl ?_
            refine sy_skip rfl rfl rfl ?_
            refine sy_skip rfl rfl rfl ?_
            refine sy_skip rfl rfl rfl ?_
            refine sy_pickF rfl rfl rfl rfl ?_
            refine sy_nil rfl ?_
            refine ny_next ?_
            refine cy_condF rfl ?_
            refine cy_skip ?_
            refine ny_blockN ?_
            refine ny_next ?_
            refine cy_region ?_
            refine sy_addi (z := ((i + 1 : Nat) : Int)) rfl rfl (by omega) (by omega) (by omega) rfl rfl ?_
            refine sy_move rfl rfl rfl ?_
            refine sy_nil rfl ?_
            refine ny_round (i + 1) [] ⟨by omega, ?_⟩ (show n - (i + 1) < n - i by omega) ⟨rfl, rfl, rfl, rfl, rfl, rfl, trivial⟩ rfl rfl
            intro c hc
            rcases Nat.lt_succ_iff_lt_or_eq.1 hc with hc | hc
            · exact hprei c hc
            · subst hc
              first | exact hold3 hg60 hg66 hc72 | exact hold2 hg60 hg66 | exact hold1 hg60
        · have hiei : n = i := by have := of_decide_eq_false hc54; omega
          subst hiei
          refine cy_exit ?_
          refine ny_thenE ?_
          refine ny_thenE ?_
          refine ny_blockX ?_
          refine ny_next ?_
          refine cy_seq ?_
          refine cy_region ?_
          refine sy_move rfl rfl rfl ?_
          refine sy_assign rfl rfl rfl ?_
          refine sy_nil rfl ?_
          refine ny_next ?_
          refine cy_ret ?_
          refine ny_finR (res1 rfl rfl) (fun w hs => ⟨?_, hs.frm⟩)
          rw [meet_fine (by simp_all) (by simp_all) hprei]
set_option maxRecDepth 100000 in
theorem meetn_c (h : Hp) (a b : Int) : C0 Tryd.prog 43 [.pointer none, .int .i64 a, .int .i64 b] h (.int .i64 (-1)) := by
  refine enter0 Tryd.func43 rfl rfl rfl (fun w => ?_)
  refine cy_seq ?_
  refine cy_region ?_
  refine sy_assign rfl rfl rfl ?_
  refine sy_nil rfl ?_
  refine ny_next ?_
  refine cy_seq ?_
  refine cy_seq ?_
  refine cy_region ?_
  refine sy_move rfl rfl rfl ?_
  refine sy_move rfl rfl rfl ?_
  refine sy_call rfl call_53 rfl (isn_c _ _) rfl rfl ?_
  refine sy_not rfl rfl rfl ?_
  refine sy_move rfl rfl rfl ?_
  refine sy_setT (d := 14) rfl rfl rfl ?_
  refine sy_skip rfl rfl rfl ?_
  refine sy_skip rfl rfl rfl ?_
  refine sy_skip rfl rfl rfl ?_
  refine sy_skip rfl rfl rfl ?_
  refine sy_pickT rfl rfl rfl rfl ?_
  refine sy_nil rfl ?_
  refine ny_next ?_
  refine cy_condT rfl ?_
  refine cy_seq ?_
  refine cy_region ?_
  refine sy_assign rfl rfl rfl ?_
  refine sy_nil rfl ?_
  refine ny_next ?_
  refine cy_ret ?_
  refine ny_thenR ?_
  refine ny_finR (res1 rfl rfl) (fun w hs => ⟨?_, hs.frm⟩)
  rfl
set_option maxRecDepth 100000 in
theorem bot_c (g n : Nat) (u : U) (h : Hp) (hg : h g = some (lat 94 n u)) (hn1 : 1 ≤ n) (hn : n ≤ 16) (hu : ∀ a, u a < 65536) : C0 Tryd.prog 25 [.pointer (some ⟨g, 0, none⟩)] h (.int .i64 (botI n u)) := by
  refine enter0 Tryd.func25 rfl rfl rfl (fun w => ?_)
  refine cy_seq ?_
  refine cy_region ?_
  refine sy_assign rfl rfl rfl ?_
  refine sy_nil rfl ?_
  refine ny_next ?_
  refine cy_seq ?_
  refine cy_region ?_
  refine sy_assign rfl rfl rfl ?_
  refine sy_nil rfl ?_
  refine ny_next ?_
  refine cy_seq ?_
  refine cy_seq ?_
  refine cy_region ?_
  refine sy_move rfl rfl rfl ?_
  refine sy_call rfl call_21 rfl (len_c _ _ _ _ hg) rfl rfl ?_
  refine sy_move rfl rfl rfl ?_
  refine sy_nil rfl ?_
  refine ny_next ?_
  refine cy_block ?_
  refine cy_loop (ι := Nat) (fun i => i ≤ n) (fun i => n - i) (fun i => [(0, .pointer (some ⟨g, 0, none⟩)), (3, .int .i64 (bestI (fun _ => true) (fun x y => leqI n u y x) i)), (6, .int .i64 (n : Int)), (7, .int .i64 (i : Int))]) (fun _ => h) (fun _ => []) 0 [] (Nat.zero_le _) ⟨rfl, rfl, rfl, rfl, trivial⟩ rfl rfl ?_
  rintro i hii
  refine cy_seq ?_
  refine cy_region ?_
  refine sy_cmp rfl rfl rfl rfl rfl ?_
  refine sy_nil rfl ?_
  refine ny_next ?_
  refine cy_seq ?_
  refine cy_cond rfl (fun hc8 => ?_) (fun hc8 => ?_)
  · have hlti : i < n := by have := of_decide_eq_true hc8; omega
    refine cy_skip ?_
    refine ny_next ?_
    refine cy_seq ?_
    refine cy_block ?_
    refine cy_seq ?_
    refine cy_region ?_
    refine sy_move rfl rfl rfl ?_
    refine sy_assign rfl rfl rfl ?_
    refine sy_nil rfl ?_
    refine ny_next ?_
    refine cy_seq ?_
    refine cy_region ?_
    refine sy_move rfl rfl rfl ?_
    refine sy_cmp rfl rfl rfl rfl rfl ?_
    refine sy_move rfl rfl rfl ?_
    refine sy_cond (d := 12) _ rfl rfl (fun hg12 => ?_) (fun hg12 => ?_)
    · refine sy_skip rfl rfl rfl ?_
      refine sy_skip rfl rfl rfl ?_
      refine sy_skip rfl rfl rfl ?_
      refine sy_skip rfl rfl rfl ?_
      refine sy_pickT rfl rfl rfl rfl ?_
      refine sy_nil rfl ?_
      refine ny_next ?_
      refine cy_condT rfl ?_
      refine cy_region ?_
      refine sy_move rfl rfl rfl ?_
      refine sy_assign rfl rfl rfl ?_
      refine sy_nil rfl ?_
      refine ny_blockN ?_
      refine ny_next ?_
      refine cy_region ?_
      refine sy_addi (z := ((i + 1 : Nat) : Int)) rfl rfl (by omega) (by omega) (by omega) rfl rfl ?_
      refine sy_move rfl rfl rfl ?_
      refine sy_nil rfl ?_
      refine ny_round (i + 1) [] (show i + 1 ≤ n by omega) (show n - (i + 1) < n - i by omega) ⟨rfl, (by first | (rw [best_t (.inl hg12)]; rfl) | (rw [best_t (.inr hc17)]; rfl) | (rw [best_f hg12 hc17]; rfl)), rfl, rfl, trivial⟩ rfl rfl
    · refine sy_move rfl rfl rfl ?_
      refine sy_move rfl rfl rfl ?_
      refine sy_move rfl rfl rfl ?_
      refine sy_call rfl call_23 rfl (leq_c _ _ _ _ hg hn1 hn hu _ _) rfl rfl ?_
      refine sy_pickF rfl rfl rfl rfl ?_
      refine sy_nil rfl ?_
      refine ny_next ?_
      refine cy_cond rfl (fun hc17 => ?_) (fun hc17 => ?_)
      · refine cy_region ?_
        refine sy_move rfl rfl rfl ?_
        refine sy_assign rfl rfl rfl ?_
        refine sy_nil rfl ?_
        refine ny_blockN ?_
        refine ny_next ?_
        refine cy_region ?_
        refine sy_addi (z := ((i + 1 : Nat) : Int)) rfl rfl (by omega) (by omega) (by omega) rfl rfl ?_
        refine sy_move rfl rfl rfl ?_
        refine sy_nil rfl ?_
        refine ny_round (i + 1) [] (show i + 1 ≤ n by omega) (show n - (i + 1) < n - i by omega) ⟨rfl, (by first | (rw [best_t (.inl hg12)]; rfl) | (rw [best_t (.inr hc17)]; rfl) | (rw [best_f hg12 hc17]; rfl)), rfl, rfl, trivial⟩ rfl rfl
      · refine cy_skip ?_
        refine ny_blockN ?_
        refine ny_next ?_
        refine cy_region ?_
        refine sy_addi (z := ((i + 1 : Nat) : Int)) rfl rfl (by omega) (by omega) (by omega) rfl rfl ?_
        refine sy_move rfl rfl rfl ?_
        refine sy_nil rfl ?_
        refine ny_round (i + 1) [] (show i + 1 ≤ n by omega) (show n - (i + 1) < n - i by omega) ⟨rfl, (by first | (rw [best_t (.inl hg12)]; rfl) | (rw [best_t (.inr hc17)]; rfl) | (rw [best_f hg12 hc17]; rfl)), rfl, rfl, trivial⟩ rfl rfl
  · have hiei : n = i := by have := of_decide_eq_false hc8; omega
    subst hiei
    refine cy_exit ?_
    refine ny_thenE ?_
    refine ny_thenE ?_
    refine ny_blockX ?_
    refine ny_next ?_
    refine cy_seq ?_
    refine cy_region ?_
    refine sy_move rfl rfl rfl ?_
    refine sy_assign rfl rfl rfl ?_
    refine sy_nil rfl ?_
    refine ny_next ?_
    refine cy_ret ?_
    refine ny_finR (res1 rfl rfl) (fun w hs => ⟨?_, hs.frm⟩)
    rfl
set_option maxRecDepth 100000 in
theorem botn_c (h : Hp) : C0 Tryd.prog 25 [.pointer none] h (.int .i64 (-1)) := by
  refine enter0 Tryd.func25 rfl rfl rfl (fun w => ?_)
  refine cy_seq ?_
  refine cy_region ?_
  refine sy_assign rfl rfl rfl ?_
  refine sy_nil rfl ?_
  refine ny_next ?_
  refine cy_seq ?_
  refine cy_region ?_
  refine sy_assign rfl rfl rfl ?_
  refine sy_nil rfl ?_
  refine ny_next ?_
  refine cy_seq ?_
  refine cy_seq ?_
  refine cy_region ?_
  refine sy_move rfl rfl rfl ?_
  refine sy_call rfl call_21 rfl (lenn_c _) rfl rfl ?_
  refine sy_move rfl rfl rfl ?_
  refine sy_nil rfl ?_
  refine ny_next ?_
  refine cy_block ?_
  refine cy_loop (ι := Unit) (fun _ => True) (fun _ => 0) (fun _ => [(3, .int .i64 (-1)), (6, .int .i64 0), (7, .int .i64 0)]) (fun _ => h) (fun _ => []) () [] trivial ⟨rfl, rfl, rfl, trivial⟩ rfl rfl ?_
  rintro i hii
  refine cy_seq ?_
  refine cy_region ?_
  refine sy_cmp rfl rfl rfl rfl rfl ?_
  refine sy_nil rfl ?_
  refine ny_next ?_
  refine cy_seq ?_
  refine cy_cond rfl (fun hc8 => ?_) (fun hc8 => ?_)
  · cases hc8
  · refine cy_exit ?_
    refine ny_thenE ?_
    refine ny_thenE ?_
    refine ny_blockX ?_
    refine ny_next ?_
    refine cy_seq ?_
    refine cy_region ?_
    refine sy_move rfl rfl rfl ?_
    refine sy_assign rfl rfl rfl ?_
    refine sy_nil rfl ?_
    refine ny_next ?_
    refine cy_ret ?_
    refine ny_finR (res1 rfl rfl) (fun w hs => ⟨?_, hs.frm⟩)
    rfl
set_option maxRecDepth 100000 in
theorem top_c (g n : Nat) (u : U) (h : Hp) (hg : h g = some (lat 94 n u)) (hn1 : 1 ≤ n) (hn : n ≤ 16) (hu : ∀ a, u a < 65536) : C0 Tryd.prog 26 [.pointer (some ⟨g, 0, none⟩)] h (.int .i64 (topI n u)) := by
  refine enter0 Tryd.func26 rfl rfl rfl (fun w => ?_)
  refine cy_seq ?_
  refine cy_region ?_
  refine sy_assign rfl rfl rfl ?_
  refine sy_nil rfl ?_
  refine ny_next ?_
  refine cy_seq ?_
  refine cy_region ?_
  refine sy_assign rfl rfl rfl ?_
  refine sy_nil rfl ?_
  refine ny_next ?_
  refine cy_seq ?_
  refine cy_seq ?_
  refine cy_region ?_
  refine sy_move rfl rfl rfl ?_
  refine sy_call rfl call_21 rfl (len_c _ _ _ _ hg) rfl rfl ?_
  refine sy_move rfl rfl rfl ?_
  refine sy_nil rfl ?_
  refine ny_next ?_
  refine cy_block ?_
  refine cy_loop (ι := Nat) (fun i => i ≤ n) (fun i => n - i) (fun i => [(0, .pointer (some ⟨g, 0, none⟩)), (3, .int .i64 (bestI (fun _ => true) (leqI n u) i)), (6, .int .i64 (n : Int)), (7, .int .i64 (i : Int))]) (fun _ => h) (fun _ => []) 0 [] (Nat.zero_le _) ⟨rfl, rfl, rfl, rfl, trivial⟩ rfl rfl ?_
  rintro i hii
  refine cy_seq ?_
  refine cy_region ?_
  refine sy_cmp rfl rfl rfl rfl rfl ?_
  refine sy_nil rfl ?_
  refine ny_next ?_
  refine cy_seq ?_
  refine cy_cond rfl (fun hc8 => ?_) (fun hc8 => ?_)
  · have hlti : i < n := by have := of_decide_eq_true hc8; omega
    refine cy_skip ?_
    refine ny_next ?_
    refine cy_seq ?_
    refine cy_block ?_
    refine cy_seq ?_
    refine cy_region ?_
    refine sy_move rfl rfl rfl ?_
    refine sy_assign rfl rfl rfl ?_
    refine sy_nil rfl ?_
    refine ny_next ?_
    refine cy_seq ?_
    refine cy_region ?_
    refine sy_move rfl rfl rfl ?_
    refine sy_cmp rfl rfl rfl rfl rfl ?_
    refine sy_move rfl rfl rfl ?_
    refine sy_cond (d := 12) _ rfl rfl (fun hg12 => ?_) (fun hg12 => ?_)
    · refine sy_skip rfl rfl rfl ?_
      refine sy_skip rfl rfl rfl ?_
      refine sy_skip rfl rfl rfl ?_
      refine sy_skip rfl rfl rfl ?_
      refine sy_pickT rfl rfl rfl rfl ?_
      refine sy_nil rfl ?_
      refine ny_next ?_
      refine cy_condT rfl ?_
      refine cy_region ?_
      refine sy_move rfl rfl rfl ?_
      refine sy_assign rfl rfl rfl ?_
      refine sy_nil rfl ?_
      refine ny_blockN ?_
      refine ny_next ?_
      refine cy_region ?_
      refine sy_addi (z := ((i + 1 : Nat) : Int)) rfl rfl (by omega) (by omega) (by omega) rfl rfl ?_
      refine sy_move rfl rfl rfl ?_
      refine sy_nil rfl ?_
      refine ny_round (i + 1) [] (show i + 1 ≤ n by omega) (show n - (i + 1) < n - i by omega) ⟨rfl, (by first | (rw [best_t (.inl hg12)]; rfl) | (rw [best_t (.inr hc17)]; rfl) | (rw [best_f hg12 hc17]; rfl)), rfl, rfl, trivial⟩ rfl rfl
    · refine sy_move rfl rfl rfl ?_
      refine sy_move rfl rfl rfl ?_
      refine sy_move rfl rfl rfl ?_
      refine sy_call rfl call_23 rfl (leq_c _ _ _ _ hg hn1 hn hu _ _) rfl rfl ?_
      refine sy_pickF rfl rfl rfl rfl ?_
      refine sy_nil rfl ?_
      refine ny_next ?_
      refine cy_cond rfl (fun hc17 => ?_) (fun hc17 => ?_)
      · refine cy_region ?_
        refine sy_move rfl rfl rfl ?_
        refine sy_assign rfl rfl rfl ?_
        refine sy_nil rfl ?_
        refine ny_blockN ?_
        refine ny_next ?_
        refine cy_region ?_
        refine sy_addi (z := ((i + 1 : Nat) : Int)) rfl rfl (by omega) (by omega) (by omega) rfl rfl ?_
        refine sy_move rfl rfl rfl ?_
        refine sy_nil rfl ?_
        refine ny_round (i + 1) [] (show i + 1 ≤ n by omega) (show n - (i + 1) < n - i by omega) ⟨rfl, (by first | (rw [best_t (.inl hg12)]; rfl) | (rw [best_t (.inr hc17)]; rfl) | (rw [best_f hg12 hc17]; rfl)), rfl, rfl, trivial⟩ rfl rfl
      · refine cy_skip ?_
        refine ny_blockN ?_
        refine ny_next ?_
        refine cy_region ?_
        refine sy_addi (z := ((i + 1 : Nat) : Int)) rfl rfl (by omega) (by omega) (by omega) rfl rfl ?_
        refine sy_move rfl rfl rfl ?_
        refine sy_nil rfl ?_
        refine ny_round (i + 1) [] (show i + 1 ≤ n by omega) (show n - (i + 1) < n - i by omega) ⟨rfl, (by first | (rw [best_t (.inl hg12)]; rfl) | (rw [best_t (.inr hc17)]; rfl) | (rw [best_f hg12 hc17]; rfl)), rfl, rfl, trivial⟩ rfl rfl
  · have hiei : n = i := by have := of_decide_eq_false hc8; omega
    subst hiei
    refine cy_exit ?_
    refine ny_thenE ?_
    refine ny_thenE ?_
    refine ny_blockX ?_
    refine ny_next ?_
    refine cy_seq ?_
    refine cy_region ?_
    refine sy_move rfl rfl rfl ?_
    refine sy_assign rfl rfl rfl ?_
    refine sy_nil rfl ?_
    refine ny_next ?_
    refine cy_ret ?_
    refine ny_finR (res1 rfl rfl) (fun w hs => ⟨?_, hs.frm⟩)
    rfl
set_option maxRecDepth 100000 in
theorem topn_c (h : Hp) : C0 Tryd.prog 26 [.pointer none] h (.int .i64 (-1)) := by
  refine enter0 Tryd.func26 rfl rfl rfl (fun w => ?_)
  refine cy_seq ?_
  refine cy_region ?_
  refine sy_assign rfl rfl rfl ?_
  refine sy_nil rfl ?_
  refine ny_next ?_
  refine cy_seq ?_
  refine cy_region ?_
  refine sy_assign rfl rfl rfl ?_
  refine sy_nil rfl ?_
  refine ny_next ?_
  refine cy_seq ?_
  refine cy_seq ?_
  refine cy_region ?_
  refine sy_move rfl rfl rfl ?_
  refine sy_call rfl call_21 rfl (lenn_c _) rfl rfl ?_
  refine sy_move rfl rfl rfl ?_
  refine sy_nil rfl ?_
  refine ny_next ?_
  refine cy_block ?_
  refine cy_loop (ι := Unit) (fun _ => True) (fun _ => 0) (fun _ => [(3, .int .i64 (-1)), (6, .int .i64 0), (7, .int .i64 0)]) (fun _ => h) (fun _ => []) () [] trivial ⟨rfl, rfl, rfl, trivial⟩ rfl rfl ?_
  rintro i hii
  refine cy_seq ?_
  refine cy_region ?_
  refine sy_cmp rfl rfl rfl rfl rfl ?_
  refine sy_nil rfl ?_
  refine ny_next ?_
  refine cy_seq ?_
  refine cy_cond rfl (fun hc8 => ?_) (fun hc8 => ?_)
  · cases hc8
  · refine cy_exit ?_
    refine ny_thenE ?_
    refine ny_thenE ?_
    refine ny_blockX ?_
    refine ny_next ?_
    refine cy_seq ?_
    refine cy_region ?_
    refine sy_move rfl rfl rfl ?_
    refine sy_assign rfl rfl rfl ?_
    refine sy_nil rfl ?_
    refine ny_next ?_
    refine cy_ret ?_
    refine ny_finR (res1 rfl rfl) (fun w hs => ⟨?_, hs.frm⟩)
    rfl
set_option maxRecDepth 100000 in
theorem close_c (g n : Nat) (u0 : U) (p : List (Int × Int)) (h : Hp) (hn : n ≤ 16) (hp : InR n p) (hc0 : PreC n p u0) : CM Tryd.prog 54 [.pointer (some ⟨g, 0, none⟩)] h g (lat 94 n u0) (.tuple #[]) (lat 94 n (ru n p)) := by
  refine enter1 Tryd.func54 rfl rfl rfl (fun w hb0 => ?_)
  refine cy_jumps (ι := U) (fun u => PreC n p u) (fun u => msr u 16) (fun u => [(0, .pointer (some ⟨g, 0, none⟩))]) (fun _ => h) (fun u => [.blk g (lat 94 n u)]) u0 [0] rfl hc0 ⟨rfl, trivial⟩ rfl rfl ?_
  intro u hu
  refine cy_seq ?_
  refine cy_region ?_
  refine sy_move rfl rfl rfl ?_
  refine sy_nilCheck rfl rfl rfl ?_
  refine sy_field fld_94_0 rfl rfl rfl ?_
  refine sy_ldr 0 one_3 rfl rfl rfl rfl rfl ?_
  refine sy_move rfl rfl rfl ?_
  refine sy_nil rfl ?_
  refine ny_next ?_
  refine cy_block ?_
  refine cy_loop (ι := Nat) (fun a => a ≤ n ∧ ∀ c, c < a → ∀ d, d < n → shutB u c d) (fun a => n - a) (fun a => [(0, .pointer (some ⟨g, 0, none⟩)), (8, .int .i64 (n : Int)), (9, .int .i64 (a : Int))]) (fun _ => h) (fun _ => [.blk g (lat 94 n u)]) 0 [0] ⟨Nat.zero_le _, fun c hc => absurd hc (Nat.not_lt_zero c)⟩ ⟨rfl, rfl, rfl, trivial⟩ rfl rfl ?_
  rintro a ⟨haa, hprea⟩
  refine cy_seq ?_
  refine cy_region ?_
  refine sy_cmp rfl rfl rfl rfl rfl ?_
  refine sy_nil rfl ?_
  refine ny_next ?_
  refine cy_seq ?_
  refine cy_cond rfl (fun hc10 => ?_) (fun hc10 => ?_)
  · have hlta : a < n := by have := of_decide_eq_true hc10; omega
    have hua := hu.lt a
    refine cy_skip ?_
    refine ny_next ?_
    refine cy_seq ?_
    refine cy_block ?_
    refine cy_seq ?_
    refine cy_region ?_
    refine sy_move rfl rfl rfl ?_
    refine sy_assign rfl rfl rfl ?_
    refine sy_nil rfl ?_
    refine ny_next ?_
    refine cy_seq ?_
    refine cy_region ?_
    refine sy_move rfl rfl rfl ?_
    refine sy_nilCheck rfl rfl rfl ?_
    refine sy_field fld_94_0 rfl rfl rfl ?_
    refine sy_ldr 0 one_3 rfl rfl rfl rfl rfl ?_
    refine sy_move rfl rfl rfl ?_
    refine sy_nil rfl ?_
    refine ny_next ?_
    refine cy_block ?_
    refine cy_loop (ι := Nat) (fun b => b ≤ n ∧ ∀ d, d < b → shutB u a d) (fun b => n - b) (fun b => [(0, .pointer (some ⟨g, 0, none⟩)), (2, .int .i64 (a : Int)), (8, .int .i64 (n : Int)), (9, .int .i64 (a : Int)), (15, .int .i64 (n : Int)), (16, .int .i64 (b : Int))]) (fun _ => h) (fun _ => [.blk g (lat 94 n u)]) 0 [0] ⟨Nat.zero_le _, fun c hc => absurd hc (Nat.not_lt_zero c)⟩ ⟨rfl, rfl, rfl, rfl, rfl, rfl, trivial⟩ rfl rfl ?_
    rintro b ⟨hbb, hpreb⟩
    refine cy_seq ?_
    refine cy_region ?_
    refine sy_cmp rfl rfl rfl rfl rfl ?_
    refine sy_nil rfl ?_
    refine ny_next ?_
    refine cy_seq ?_
    refine cy_cond rfl (fun hc17 => ?_) (fun hc17 => ?_)
    · have hltb : b < n := by have := of_decide_eq_true hc17; omega
      have hub := hu.lt b
      refine cy_skip ?_
      refine ny_next ?_
      refine cy_seq ?_
      refine cy_block ?_
      refine cy_seq ?_
      refine cy_region ?_
      refine sy_move rfl rfl rfl ?_
      refine sy_assign rfl rfl rfl ?_
      refine sy_nil rfl ?_
      refine ny_next ?_
      refine cy_seq ?_
      refine cy_regionQ mixedA (by kernel_rfl) ?_
      refine sy_move rfl rfl rfl ?_
      refine sy_move rfl rfl rfl ?_
      refine sy_nilCheck rfl rfl rfl ?_
      refine sy_field fld_94_1 rfl rfl rfl ?_
      refine sy_idxA arr_92 rfl rfl (by omega) (by omega) rfl rfl ?_
      refine sy_ldr 0 one_91 rfl rfl (latC_u (by omega)) rfl rfl ?_
      refine sy_move rfl rfl rfl ?_
      refine sy_move rfl rfl rfl ?_
      refine sy_nilCheck rfl rfl rfl ?_
      refine sy_field fld_94_1 rfl rfl rfl ?_
      refine sy_idxA arr_92 rfl rfl (by omega) (by omega) rfl rfl ?_
      refine sy_ldr 0 one_91 rfl rfl (latC_u (by omega)) rfl rfl ?_
      refine sy_oru rfl rfl (by omega) (by omega) rfl rfl rfl ?_
      refine sy_assign rfl rfl rfl ?_
      refine sy_nil rfl ?_
      refine ny_next ?_
      refine cy_seq ?_
      refine cy_region ?_
      refine sy_move rfl rfl rfl ?_
      refine sy_move rfl rfl rfl ?_
      refine sy_nilCheck rfl rfl rfl ?_
      refine sy_field fld_94_1 rfl rfl rfl ?_
      refine sy_idxA arr_92 rfl rfl (by omega) (by omega) rfl rfl ?_
      refine sy_ldr 0 one_91 rfl rfl (latC_u (by omega)) rfl rfl ?_
      refine sy_move rfl rfl rfl ?_
      refine sy_convu Tryd.underlying3 Tryd.underlying91 rfl (by omega) rfl rfl ?_
      refine sy_shru rfl rfl (by omega) rfl rfl rfl ?_
      refine sy_andu (b := 1) rfl rfl (shr_lt hua) (by decide) rfl rfl rfl ?_
      refine sy_cmp rfl rfl rfl rfl rfl ?_
      refine sy_move rfl rfl rfl ?_
      refine sy_cond (d := 43) _ rfl rfl (fun hg43 => ?_) (fun hg43 => ?_)
      · refine sy_move rfl rfl rfl ?_
        refine sy_move rfl rfl rfl ?_
        refine sy_move rfl rfl rfl ?_
        refine sy_nilCheck rfl rfl rfl ?_
        refine sy_field fld_94_1 rfl rfl rfl ?_
        refine sy_idxA arr_92 rfl rfl (by omega) (by omega) rfl rfl ?_
        refine sy_ldr 0 one_91 rfl rfl (latC_u (by omega)) rfl rfl ?_
        refine sy_cmp rfl rfl rfl rfl rfl ?_
        refine sy_pickT rfl rfl rfl rfl ?_
        refine sy_nil rfl ?_
        refine ny_next ?_
        refine cy_cond rfl (fun hc52 => ?_) (fun hc52 => ?_)
        · refine cy_seq ?_
          refine cy_region ?_
          refine sy_move rfl rfl rfl ?_
          refine sy_move rfl rfl rfl ?_
          refine sy_move rfl rfl rfl ?_
          refine sy_nilCheck rfl rfl rfl ?_
          refine sy_field fld_94_1 rfl rfl rfl ?_
          refine sy_idxA arr_92 rfl rfl (by omega) (by omega) rfl rfl ?_
          refine sy_st 0 rfl rfl rfl rfl (sz_spec sz_91) rfl (by simp [latC_len]; omega) (lat_st (by omega)) rfl ?_
          refine sy_nil rfl ?_
          refine ny_next ?_
          refine cy_goto ?_
          refine ny_blockG ?_
          refine ny_thenG ?_
          refine ny_thenG ?_
          refine ny_blockG ?_
          refine ny_blockG ?_
          refine ny_thenG ?_
          refine ny_thenG ?_
          refine ny_blockG ?_
          have hne : u a ||| u b ≠ u a := by simpa [cast_bne] using hc52
          have hgt := or_gt hne
          have hm := hu.more hlta hltb (by rw [bit1] at hg43; exact hg43)
          have hmu := msr_lt hgt (or_lt (hu.lt a) (hu.lt b)) 16 (by omega)
          exact ny_jump (upd u a (u a ||| u b)) [0] hm hmu ⟨rfl, trivial⟩ rfl rfl
        · refine cy_skip ?_
          refine ny_blockN ?_
          refine ny_next ?_
          refine cy_region ?_
          refine sy_addi (z := ((b + 1 : Nat) : Int)) rfl rfl (by omega) (by omega) (by omega) rfl rfl ?_
          refine sy_move rfl rfl rfl ?_
          refine sy_nil rfl ?_
          refine ny_round (b + 1) [0] ⟨by omega, ?_⟩ (show n - (b + 1) < n - b by omega) ⟨rfl, rfl, rfl, rfl, rfl, rfl, trivial⟩ rfl rfl
          intro c hc
          rcases Nat.lt_succ_iff_lt_or_eq.1 hc with hc | hc
          · exact hpreb c hc
          · subst hc
            first | exact shut_same hc52 | exact shut_not hg43
      · refine sy_skip rfl rfl rfl ?_
        refine sy_skip rfl rfl rfl ?_
        refine sy_skip rfl rfl rfl ?_
        refine sy_skip rfl rfl rfl ?_
        refine sy_skip rfl rfl rfl ?_
        refine sy_skip rfl rfl rfl ?_
        refine sy_skip rfl rfl rfl ?_
        refine sy_skip rfl rfl rfl ?_
        refine sy_pickF rfl rfl rfl rfl ?_
        refine sy_nil rfl ?_
        refine ny_next ?_
        refine cy_condF rfl ?_
        refine cy_skip ?_
        refine ny_blockN ?_
        refine ny_next ?_
        refine cy_region ?_
        refine sy_addi (z := ((b + 1 : Nat) : Int)) rfl rfl (by omega) (by omega) (by omega) rfl rfl ?_
        refine sy_move rfl rfl rfl ?_
        refine sy_nil rfl ?_
        refine ny_round (b + 1) [0] ⟨by omega, ?_⟩ (show n - (b + 1) < n - b by omega) ⟨rfl, rfl, rfl, rfl, rfl, rfl, trivial⟩ rfl rfl
        intro c hc
        rcases Nat.lt_succ_iff_lt_or_eq.1 hc with hc | hc
        · exact hpreb c hc
        · subst hc
          first | exact shut_same hc52 | exact shut_not hg43
    · have hieb : n = b := by have := of_decide_eq_false hc17; omega
      subst hieb
      refine cy_exit ?_
      refine ny_thenE ?_
      refine ny_thenE ?_
      refine ny_blockX ?_
      refine ny_blockN ?_
      refine ny_next ?_
      refine cy_region ?_
      refine sy_addi (z := ((a + 1 : Nat) : Int)) rfl rfl (by omega) (by omega) (by omega) rfl rfl ?_
      refine sy_move rfl rfl rfl ?_
      refine sy_nil rfl ?_
      refine ny_round (a + 1) [0] ⟨by omega, ?_⟩ (show n - (a + 1) < n - a by omega) ⟨rfl, rfl, rfl, trivial⟩ rfl rfl
      intro c hc
      rcases Nat.lt_succ_iff_lt_or_eq.1 hc with hc | hc
      · exact hprea c hc
      · subst hc
        exact hpreb
  · have hie : a = n := by have := of_decide_eq_false hc10; omega
    have hend := hu.shut hp (by rw [← hie]; exact fun c hc d hd => hprea c hc d (by omega))
    refine cy_exit ?_
    refine ny_thenE ?_
    refine ny_thenE ?_
    refine ny_blockX ?_
    refine ny_jumpN ?_
    subst hend
    refine ny_fin (res0 rfl) (fun w hs => ⟨rfl, hs.frm, hs.ok _ (List.mem_cons_self)⟩)
set_option maxRecDepth 100000 in
theorem newBad_c (n : Int) (A : Option Addr) (l c : Nat) (p : List (Int × Int)) (h : Hp) (hn : ¬ (1 ≤ n ∧ n ≤ 16)) : CX Tryd.prog 18 [.int .i64 n, .slice A l c] h newV (NewR 94 n p) := by
  refine enterX Tryd.func18 rfl rfl rfl (fun w => ?_)
  refine cy_seq ?_
  refine cy_region ?_
  refine sy_assign rfl rfl rfl ?_
  refine sy_assign rfl rfl rfl ?_
  refine sy_nil rfl ?_
  refine ny_next ?_
  refine cy_seq ?_
  refine cy_seq ?_
  refine cy_region ?_
  refine sy_move rfl rfl rfl ?_
  refine sy_cmp rfl rfl rfl rfl rfl ?_
  refine sy_move rfl rfl rfl ?_
  refine sy_cond (d := 14) _ rfl rfl (fun hg14 => ?_) (fun hg14 => ?_)
  · refine sy_skip rfl rfl rfl ?_
    refine sy_skip rfl rfl rfl ?_
    refine sy_pickT rfl rfl rfl rfl ?_
    refine sy_nil rfl ?_
    refine ny_next ?_
    refine cy_condT rfl ?_
    refine cy_seq ?_
    refine cy_region ?_
    refine sy_assign rfl rfl rfl ?_
    refine sy_assign rfl rfl rfl ?_
    refine sy_nil rfl ?_
    refine ny_next ?_
    refine cy_ret ?_
    refine ny_thenR ?_
    exact ny_finR (res2 rfl rfl rfl) (fun w hs => ⟨(none, 1), _, rfl, .inr (.inl ⟨rfl, fun ha => hn ⟨ha.1, ha.2.1⟩⟩), hs.toGrow⟩)
  · skip
    refine sy_move rfl rfl rfl ?_
    refine sy_cmp rfl rfl rfl rfl rfl ?_
    refine sy_pickF rfl rfl rfl rfl ?_
    refine sy_nil rfl ?_
    refine ny_next ?_
    refine cy_cond rfl (fun hc17 => ?_) (fun hc17 => ?_)
    · refine cy_seq ?_
      refine cy_region ?_
      refine sy_assign rfl rfl rfl ?_
      refine sy_assign rfl rfl rfl ?_
      refine sy_nil rfl ?_
      refine ny_next ?_
      refine cy_ret ?_
      refine ny_thenR ?_
      exact ny_finR (res2 rfl rfl rfl) (fun w hs => ⟨(none, 1), _, rfl, .inr (.inl ⟨rfl, fun ha => hn ⟨ha.1, ha.2.1⟩⟩), hs.toGrow⟩)
    · exact absurd hn (by simp at hg14 hc17 ⊢; omega)
set_option maxRecDepth 100000 in
theorem newK_c (k : Nat) (A : Option Addr) (l c : Nat) (p : List (Int × Int)) (h : Hp) (hk1 : 1 ≤ k) (hk2 : k ≤ 16) (hp : PairsAt h A p) (hl : p.length = l) (hm : l ≤ 9223372036854775807) : CX Tryd.prog 18 [.int .i64 (k : Int), .slice A l c] h newV (NewR 94 (k : Int) p) := by
  refine enterX Tryd.func18 rfl rfl rfl (fun w => ?_)
  refine cy_seq ?_
  refine cy_region ?_
  refine sy_assign rfl rfl rfl ?_
  refine sy_assign rfl rfl rfl ?_
  refine sy_nil rfl ?_
  refine ny_next ?_
  refine cy_seq ?_
  refine cy_seq ?_
  refine cy_region ?_
  refine sy_move rfl rfl rfl ?_
  refine sy_cmp rfl rfl rfl rfl rfl ?_
  refine sy_setF (d := 13) rfl rfl (by simp; omega) ?_
  refine sy_move rfl rfl rfl ?_
  refine sy_move rfl rfl rfl ?_
  refine sy_cmp rfl rfl rfl rfl rfl ?_
  refine sy_setF (d := 16) rfl rfl (by simp; omega) ?_
  refine sy_pickF rfl rfl rfl rfl ?_
  refine sy_nil rfl ?_
  refine ny_next ?_
  refine cy_condF rfl ?_
  refine cy_skip ?_
  refine ny_next ?_
  refine cy_seq ?_
  refine cy_region ?_
  refine sy_move rfl rfl rfl ?_
  refine sy_build rfl (fun w => bld_94_0 w) rfl rfl ?_
  refine sy_box rfl rfl rfl rfl (fun b20 hb20 hM20 => ?_) (by simp)
  refine sy_assign rfl rfl rfl ?_
  refine sy_nil rfl ?_
  refine ny_next ?_
  refine cy_seq ?_
  refine cy_seq ?_
  refine cy_region ?_
  refine sy_move rfl rfl rfl ?_
  refine sy_move rfl rfl rfl ?_
  refine sy_nil rfl ?_
  refine ny_next ?_
  refine cy_block ?_
  refine cy_loop (ι := Nat) (fun i => i ≤ k) (fun i => k - i) (fun i => [(0, .int .i64 (k : Int)), (1, .slice A l c), (6, .pointer (some ⟨b20, 0, none⟩)), (21, .int .i64 (k : Int)), (22, .int .i64 (i : Int))]) (fun _ => h) (fun i => [.blk b20 (lat 94 k (fun a => if a < i then 2 ^ a else 0))]) 0 [0] (Nat.zero_le _) ⟨rfl, rfl, rfl, rfl, rfl, trivial⟩ rfl rfl ?_
  rintro i hii
  refine cy_seq ?_
  refine cy_region ?_
  refine sy_cmp rfl rfl rfl rfl rfl ?_
  refine sy_nil rfl ?_
  refine ny_next ?_
  refine cy_seq ?_
  refine cy_cond rfl (fun hc23 => ?_) (fun hc23 => ?_)
  · have hlti : i < k := by have := of_decide_eq_true hc23; omega
    refine cy_skip ?_
    refine ny_next ?_
    refine cy_seq ?_
    refine cy_block ?_
    refine cy_seq ?_
    refine cy_region ?_
    refine sy_move rfl rfl rfl ?_
    refine sy_assign rfl rfl rfl ?_
    refine sy_nil rfl ?_
    refine ny_next ?_
    refine cy_region ?_
    refine sy_move rfl rfl rfl ?_
    refine sy_move rfl rfl rfl ?_
    refine sy_move rfl rfl rfl ?_
    refine sy_convu Tryd.underlying3 Tryd.underlying91 rfl (by omega) rfl rfl ?_
    refine sy_shl1 rfl rfl (by omega) rfl rfl ?_
    refine sy_nilCheck rfl rfl rfl ?_
    refine sy_field fld_94_1 rfl rfl rfl ?_
    refine sy_idxA arr_92 rfl rfl (by omega) (by omega) rfl rfl ?_
    refine sy_st 0 rfl rfl rfl rfl (sz_spec sz_91) rfl (by rw [latC_len]; simp; omega) (lat_st (by omega)) rfl ?_
    rw [upd_pow]
    refine sy_nil rfl ?_
    refine ny_blockN ?_
    refine ny_next ?_
    refine cy_region ?_
    refine sy_addi (z := ((i + 1 : Nat) : Int)) rfl rfl (by omega) (by omega) (by omega) rfl rfl ?_
    refine sy_move rfl rfl rfl ?_
    refine sy_nil rfl ?_
    refine ny_round (i + 1) [0] (show i + 1 ≤ k by omega) (show k - (i + 1) < k - i by omega) ⟨rfl, rfl, rfl, rfl, rfl, trivial⟩ rfl rfl
  · have hiei : k = i := by have := of_decide_eq_false hc23; omega
    subst hiei
    refine cy_exit ?_
    refine ny_thenE ?_
    refine ny_thenE ?_
    refine ny_blockX ?_
    refine ny_next ?_
    refine cy_seq ?_
    refine cy_seq ?_
    refine cy_region ?_
    refine sy_move rfl rfl rfl ?_
    refine sy_len rfl (len_slice Tryd.underlying22 _ _ _) rfl rfl ?_
    refine sy_move rfl rfl rfl ?_
    refine sy_nil rfl ?_
    refine ny_next ?_
    refine cy_block ?_
    refine cy_loop (ι := Nat × U) (fun x => x.1 ≤ l ∧ PreC k (p.take x.1) x.2 ∧ InR k (p.take x.1)) (fun x => l - x.1) (fun x => [(0, .int .i64 (k : Int)), (6, .pointer (some ⟨b20, 0, none⟩)), (34, .slice A l c), (35, .int .i64 (l : Int)), (36, .int .i64 (x.1 : Int))]) (fun _ => h) (fun x => [.blk b20 (lat 94 k x.2)]) (0, fun a => if a < k then 2 ^ a else 0) [0] ⟨Nat.zero_le _, PreC.start hk2, fun x hx => by simp at hx⟩ ⟨rfl, rfl, rfl, rfl, rfl, trivial⟩ rfl rfl ?_
    rintro ⟨j, u⟩ ⟨hj, hPre, hInj⟩
    simp only at hj hPre hInj ⊢
    refine cy_seq ?_
    refine cy_region ?_
    refine sy_cmp rfl rfl rfl rfl rfl ?_
    refine sy_nil rfl ?_
    refine ny_next ?_
    refine cy_seq ?_
    refine cy_cond rfl (fun hc37 => ?_) (fun hc37 => ?_)
    · have hltj : j < l := by have := of_decide_eq_true hc37; omega
      obtain ⟨⟨x1, x2⟩, hx⟩ : ∃ x, p[j]? = some x := ⟨_, List.getElem?_eq_getElem (by omega)⟩
      obtain ⟨g, off, rfl, _⟩ := hp j _ hx
      refine cy_skip ?_
      refine ny_next ?_
      refine cy_seq ?_
      refine cy_block ?_
      refine cy_seq ?_
      refine cy_region ?_
      refine sy_idxS (ik := .i64) (i := (j : Int)) els_22 rfl rfl (by omega) (by omega) rfl rfl ?_
      refine sy_ldah (vs := [.int .i64 x1, .int .i64 x2]) agg_90 rfl rfl (hp.get hx) rfl rfl ?_
      refine sy_alloc zer_90 rfl rfl (fun b9 hb9 hM9 => ?_) (by simp)
      first | refine sy_stl 0 sz_90 rfl rfl rfl rfl rfl rfl rfl rfl ?_ | refine sy_stl 1 sz_90 rfl rfl rfl rfl rfl rfl rfl rfl ?_ | refine sy_stl 2 sz_90 rfl rfl rfl rfl rfl rfl rfl rfl ?_
      refine sy_nil rfl ?_
      refine ny_next ?_
      refine cy_seq ?_
      refine cy_seq ?_
      refine cy_region ?_
      refine sy_move rfl rfl rfl ?_
      refine sy_idxA arr_90 rfl rfl (by omega) (by omega) rfl rfl ?_
      first | refine sy_ldr 0 one_3 rfl rfl rfl rfl rfl ?_ | refine sy_ldr 1 one_3 rfl rfl rfl rfl rfl ?_ | refine sy_ldr 2 one_3 rfl rfl rfl rfl rfl ?_
      refine sy_callr 1 rfl call_53 rfl rfl (is_c _ _ _ _ (Hp.upd_same _ _ _) _) rfl rfl ?_
      refine sy_not rfl rfl rfl ?_
      refine sy_move rfl rfl rfl ?_
      refine sy_cond (d := 45) _ rfl rfl (fun hg45 => ?_) (fun hg45 => ?_)
      · refine sy_skip rfl rfl rfl ?_
        refine sy_skip rfl rfl rfl ?_
        refine sy_skip rfl rfl rfl ?_
        refine sy_skip rfl rfl rfl ?_
        refine sy_skip rfl rfl rfl ?_
        refine sy_pickT rfl rfl rfl rfl ?_
        refine sy_nil rfl ?_
        refine ny_next ?_
        refine cy_condT rfl ?_
        refine cy_seq ?_
        refine cy_region ?_
        refine sy_assign rfl rfl rfl ?_
        refine sy_assign rfl rfl rfl ?_
        refine sy_nil rfl ?_
        refine ny_next ?_
        refine cy_ret ?_
        refine ny_thenR ?_
        refine ny_blockR ?_
        refine ny_thenR ?_
        refine ny_thenR ?_
        refine ny_blockR ?_
        refine ny_thenR ?_
        refine ny_finR (res2 rfl rfl rfl) (fun w hs => ⟨(none, 1), _, rfl, .inr (.inl ⟨rfl, fun ha => ?_⟩), hs.toGrow⟩)
        have h9 := ha.2.2 _ (List.mem_of_getElem? hx)
        rw [Int.toNat_natCast] at h9
        simp only at h9
        first | exact absurd hg45 (by rw [h9.1]; decide) | exact absurd hc51 (by rw [h9.2]; decide)
      · refine sy_move rfl rfl rfl ?_
        refine sy_idxA arr_90 rfl rfl (by omega) (by omega) rfl rfl ?_
        first | refine sy_ldr 0 one_3 rfl rfl rfl rfl rfl ?_ | refine sy_ldr 1 one_3 rfl rfl rfl rfl rfl ?_ | refine sy_ldr 2 one_3 rfl rfl rfl rfl rfl ?_
        refine sy_callr 1 rfl call_53 rfl rfl (is_c _ _ _ _ (Hp.upd_same _ _ _) _) rfl rfl ?_
        refine sy_not rfl rfl rfl ?_
        refine sy_pickF rfl rfl rfl rfl ?_
        refine sy_nil rfl ?_
        refine ny_next ?_
        refine cy_cond rfl (fun hc51 => ?_) (fun hc51 => ?_)
        · refine cy_seq ?_
          refine cy_region ?_
          refine sy_assign rfl rfl rfl ?_
          refine sy_assign rfl rfl rfl ?_
          refine sy_nil rfl ?_
          refine ny_next ?_
          refine cy_ret ?_
          refine ny_thenR ?_
          refine ny_blockR ?_
          refine ny_thenR ?_
          refine ny_thenR ?_
          refine ny_blockR ?_
          refine ny_thenR ?_
          refine ny_finR (res2 rfl rfl rfl) (fun w hs => ⟨(none, 1), _, rfl, .inr (.inl ⟨rfl, fun ha => ?_⟩), hs.toGrow⟩)
          have h9 := ha.2.2 _ (List.mem_of_getElem? hx)
          rw [Int.toNat_natCast] at h9
          simp only at h9
          first | exact absurd hg45 (by rw [h9.1]; decide) | exact absurd hc51 (by rw [h9.2]; decide)
        · refine cy_skip ?_
          refine ny_next ?_
          have hi1 : isI k x1 = true := by simpa using hg45
          have hi2 : isI k x2 = true := by simpa using hc51
          obtain ⟨a, rfl, ha⟩ := isI_some hi1
          obtain ⟨b, rfl, hb⟩ := isI_some hi2
          have hua := hPre.lt a
          have h2b := two_lt (b := b) (by omega)
          refine cy_regionS 15 mixedA (by kernel_rfl) rfl ?_
          refine sy_move rfl rfl rfl ?_
          refine sy_idxA arr_90 rfl rfl (by omega) (by omega) rfl rfl ?_
          first | refine sy_ldr 0 one_3 rfl rfl rfl rfl rfl ?_ | refine sy_ldr 1 one_3 rfl rfl rfl rfl rfl ?_ | refine sy_ldr 2 one_3 rfl rfl rfl rfl rfl ?_
          refine sy_nilCheck rfl rfl rfl ?_
          refine sy_field fld_94_1 rfl rfl rfl ?_
          refine sy_idxA (ik := .i64) (i := (a : Int)) arr_92 rfl rfl (by omega) (by omega) rfl rfl ?_
          refine sy_ldr 1 one_91 rfl rfl (latC_u (by omega)) rfl rfl ?_
          refine sy_idxA arr_90 rfl rfl (by omega) (by omega) rfl rfl ?_
          first | refine sy_ldr 0 one_3 rfl rfl rfl rfl rfl ?_ | refine sy_ldr 1 one_3 rfl rfl rfl rfl rfl ?_ | refine sy_ldr 2 one_3 rfl rfl rfl rfl rfl ?_
          refine sy_convu Tryd.underlying3 Tryd.underlying91 rfl (by omega) rfl rfl ?_
          refine sy_shl1 rfl rfl (by omega) rfl rfl ?_
          refine sy_oru rfl rfl (by omega) (by omega) rfl rfl rfl ?_
          refine sy_nilCheck rfl rfl rfl ?_
          refine sy_field fld_94_1 rfl rfl rfl ?_
          refine sy_idxA (ik := .i64) (i := (a : Int)) arr_92 rfl rfl (by omega) (by omega) rfl rfl ?_
          refine sy_tail ?_
          refine sy_st 1 rfl rfl rfl rfl (sz_spec sz_91) rfl (by rw [latC_len]; simp; omega) (lat_st (by omega)) rfl ?_
          refine sy_nil rfl ?_
          refine ny_blockN ?_
          refine ny_next ?_
          refine cy_region ?_
          refine sy_addi (z := ((j + 1 : Nat) : Int)) rfl rfl (by omega) (by omega) (by omega) rfl rfl ?_
          refine sy_move rfl rfl rfl ?_
          refine sy_nil rfl ?_
          refine ny_round (j + 1, upd u a (u a ||| 2 ^ b)) [0] ⟨hltj, ?_, ?_⟩ (show l - (j + 1) < l - j by omega) ⟨rfl, rfl, rfl, rfl, rfl, trivial⟩ rfl rfl
          · show PreC k (p.take (j + 1)) _
            rw [take_snoc hx]
            exact hPre.pair hk2 ha hb
          · show InR k (p.take (j + 1))
            rw [take_snoc hx]
            exact hInj.snoc hi1 hi2
    · have hje : j = p.length := by have := of_decide_eq_false hc37; omega
      subst hje
      rw [List.take_length] at hPre hInj
      have hInR := hInj
      refine cy_exit ?_
      refine ny_thenE ?_
      refine ny_thenE ?_
      refine ny_blockX ?_
      refine ny_next ?_
      refine cy_seq ?_
      refine cy_region ?_
      refine sy_move rfl rfl rfl ?_
      refine sy_callm 0 call_54 rfl rfl (close_c _ _ _ p _ hk2 hInR hPre) rfl rfl ?_
      refine sy_nil rfl ?_
      refine ny_next ?_
      refine cy_seq ?_
      refine cy_seq ?_
      refine cy_region ?_
      refine sy_move rfl rfl rfl ?_
      refine sy_move rfl rfl rfl ?_
      refine sy_nil rfl ?_
      refine ny_next ?_
      refine cy_block ?_
      refine cy_loop (ι := Nat) (fun i => i ≤ k ∧ ∀ a, a < i → ∀ b, b < k → okB k (ru k p) a b = true) (fun i => k - i) (fun i => [(0, .int .i64 (k : Int)), (6, .pointer (some ⟨b20, 0, none⟩)), (70, .int .i64 (k : Int)), (71, .int .i64 (i : Int))]) (fun _ => h) (fun _ => [.blk b20 (lat 94 k (ru k p))]) 0 [0] ⟨Nat.zero_le _, fun c hc => absurd hc (Nat.not_lt_zero c)⟩ ⟨rfl, rfl, rfl, rfl, trivial⟩ rfl rfl ?_
      rintro i ⟨hii, hprei⟩
      refine cy_seq ?_
      refine cy_region ?_
      refine sy_cmp rfl rfl rfl rfl rfl ?_
      refine sy_nil rfl ?_
      refine ny_next ?_
      refine cy_seq ?_
      refine cy_cond rfl (fun hc72 => ?_) (fun hc72 => ?_)
      · have hlti : i < k := by have := of_decide_eq_true hc72; omega
        refine cy_skip ?_
        refine ny_next ?_
        refine cy_seq ?_
        refine cy_block ?_
        refine cy_seq ?_
        refine cy_region ?_
        refine sy_move rfl rfl rfl ?_
        refine sy_assign rfl rfl rfl ?_
        refine sy_nil rfl ?_
        refine ny_next ?_
        refine cy_seq ?_
        refine cy_region ?_
        refine sy_move rfl rfl rfl ?_
        refine sy_move rfl rfl rfl ?_
        refine sy_nil rfl ?_
        refine ny_next ?_
        refine cy_block ?_
        refine cy_loop (ι := Nat) (fun j => j ≤ k ∧ ∀ b, b < j → okB k (ru k p) i b = true) (fun j => k - j) (fun j => [(0, .int .i64 (k : Int)), (6, .pointer (some ⟨b20, 0, none⟩)), (10, .int .i64 (i : Int)), (70, .int .i64 (k : Int)), (71, .int .i64 (i : Int)), (74, .int .i64 (k : Int)), (75, .int .i64 (j : Int))]) (fun _ => h) (fun _ => [.blk b20 (lat 94 k (ru k p))]) 0 [0] ⟨Nat.zero_le _, fun c hc => absurd hc (Nat.not_lt_zero c)⟩ ⟨rfl, rfl, rfl, rfl, rfl, rfl, rfl, trivial⟩ rfl rfl ?_
        rintro j ⟨hjj, hprej⟩
        refine cy_seq ?_
        refine cy_region ?_
        refine sy_cmp rfl rfl rfl rfl rfl ?_
        refine sy_nil rfl ?_
        refine ny_next ?_
        refine cy_seq ?_
        refine cy_cond rfl (fun hc76 => ?_) (fun hc76 => ?_)
        · have hltj : j < k := by have := of_decide_eq_true hc76; omega
          refine cy_skip ?_
          refine ny_next ?_
          refine cy_seq ?_
          refine cy_block ?_
          refine cy_seq ?_
          refine cy_region ?_
          refine sy_move rfl rfl rfl ?_
          refine sy_assign rfl rfl rfl ?_
          refine sy_nil rfl ?_
          refine ny_next ?_
          refine cy_seq ?_
          refine cy_region ?_
          refine sy_move rfl rfl rfl ?_
          refine sy_move rfl rfl rfl ?_
          refine sy_cmp rfl rfl rfl rfl rfl ?_
          refine sy_move rfl rfl rfl ?_
          refine sy_cond (d := 81) _ rfl rfl (fun hg81 => ?_) (fun hg81 => ?_)
          · refine sy_move rfl rfl rfl ?_
            refine sy_move rfl rfl rfl ?_
            refine sy_move rfl rfl rfl ?_
            refine sy_callr 0 rfl call_23 rfl rfl (leq_c _ _ _ _ (Hp.upd_same _ _ _) hk1 hk2 (ru_lt hk2 p) _ _) rfl rfl ?_
            refine sy_pickT rfl rfl rfl rfl ?_
            refine sy_move rfl rfl rfl ?_
            refine sy_cond (d := 87) _ rfl rfl (fun hg87 => ?_) (fun hg87 => ?_)
            · refine sy_move rfl rfl rfl ?_
              refine sy_move rfl rfl rfl ?_
              refine sy_move rfl rfl rfl ?_
              refine sy_callr 0 rfl call_23 rfl rfl (leq_c _ _ _ _ (Hp.upd_same _ _ _) hk1 hk2 (ru_lt hk2 p) _ _) rfl rfl ?_
              refine sy_pickT rfl rfl rfl rfl ?_
              refine sy_move rfl rfl rfl ?_
              refine sy_cond (d := 93) _ rfl rfl (fun hg93 => ?_) (fun hg93 => ?_)
              · refine sy_skip rfl rfl rfl ?_
                refine sy_skip rfl rfl rfl ?_
                refine sy_skip rfl rfl rfl ?_
                refine sy_skip rfl rfl rfl ?_
                refine sy_skip rfl rfl rfl ?_
                refine sy_pickT rfl rfl rfl rfl ?_
                refine sy_move rfl rfl rfl ?_
                refine sy_skip rfl rfl rfl ?_
                refine sy_skip rfl rfl rfl ?_
                refine sy_skip rfl rfl rfl ?_
                refine sy_skip rfl rfl rfl ?_
                refine sy_skip rfl rfl rfl ?_
                refine sy_pickT rfl rfl rfl rfl ?_
                refine sy_nil rfl ?_
                refine ny_next ?_
                refine cy_condT rfl ?_
                refine cy_seq ?_
                refine cy_region ?_
                refine sy_assign rfl rfl rfl ?_
                refine sy_assign rfl rfl rfl ?_
                refine sy_nil rfl ?_
                refine ny_next ?_
                refine cy_ret ?_
                refine ny_blockR ?_
                refine ny_thenR ?_
                refine ny_thenR ?_
                refine ny_blockR ?_
                refine ny_blockR ?_
                refine ny_thenR ?_
                refine ny_thenR ?_
                refine ny_blockR ?_
                refine ny_thenR ?_
                refine ny_finR (res2 rfl rfl rfl) (fun w hs => ⟨(none, 4), _, rfl, .inr (.inr ⟨rfl, ⟨by omega, by omega, hInR⟩, ?_⟩), hs.toGrow⟩)
                exact not_latt hlti hltj (by first | exact ok_bad1 hg81 hg87 hg93 | exact ok_bad2 hg100 | exact ok_bad3 hc106)
              · refine sy_move rfl rfl rfl ?_
                refine sy_move rfl rfl rfl ?_
                refine sy_move rfl rfl rfl ?_
                refine sy_callr 0 rfl call_36 rfl rfl (join_c _ _ _ _ (Hp.upd_same _ _ _) hk1 hk2 (ru_lt hk2 p) _ _) rfl rfl ?_
                refine sy_cmp rfl rfl rfl rfl rfl ?_
                refine sy_pickF rfl rfl rfl rfl ?_
                refine sy_move rfl rfl rfl ?_
                refine sy_cond (d := 100) _ rfl rfl (fun hg100 => ?_) (fun hg100 => ?_)
                · refine sy_skip rfl rfl rfl ?_
                  refine sy_skip rfl rfl rfl ?_
                  refine sy_skip rfl rfl rfl ?_
                  refine sy_skip rfl rfl rfl ?_
                  refine sy_skip rfl rfl rfl ?_
                  refine sy_pickT rfl rfl rfl rfl ?_
                  refine sy_nil rfl ?_
                  refine ny_next ?_
                  refine cy_condT rfl ?_
                  refine cy_seq ?_
                  refine cy_region ?_
                  refine sy_assign rfl rfl rfl ?_
                  refine sy_assign rfl rfl rfl ?_
                  refine sy_nil rfl ?_
                  refine ny_next ?_
                  refine cy_ret ?_
                  refine ny_blockR ?_
                  refine ny_thenR ?_
                  refine ny_thenR ?_
                  refine ny_blockR ?_
                  refine ny_blockR ?_
                  refine ny_thenR ?_
                  refine ny_thenR ?_
                  refine ny_blockR ?_
                  refine ny_thenR ?_
                  refine ny_finR (res2 rfl rfl rfl) (fun w hs => ⟨(none, 4), _, rfl, .inr (.inr ⟨rfl, ⟨by omega, by omega, hInR⟩, ?_⟩), hs.toGrow⟩)
                  exact not_latt hlti hltj (by first | exact ok_bad1 hg81 hg87 hg93 | exact ok_bad2 hg100 | exact ok_bad3 hc106)
                · refine sy_move rfl rfl rfl ?_
                  refine sy_move rfl rfl rfl ?_
                  refine sy_move rfl rfl rfl ?_
                  refine sy_callr 0 rfl call_43 rfl rfl (meet_c _ _ _ _ (Hp.upd_same _ _ _) hk1 hk2 (ru_lt hk2 p) _ _) rfl rfl ?_
                  refine sy_cmp rfl rfl rfl rfl rfl ?_
                  refine sy_pickF rfl rfl rfl rfl ?_
                  refine sy_nil rfl ?_
                  refine ny_next ?_
                  refine cy_cond rfl (fun hc106 => ?_) (fun hc106 => ?_)
                  · refine cy_seq ?_
                    refine cy_region ?_
                    refine sy_assign rfl rfl rfl ?_
                    refine sy_assign rfl rfl rfl ?_
                    refine sy_nil rfl ?_
                    refine ny_next ?_
                    refine cy_ret ?_
                    refine ny_blockR ?_
                    refine ny_thenR ?_
                    refine ny_thenR ?_
                    refine ny_blockR ?_
                    refine ny_blockR ?_
                    refine ny_thenR ?_
                    refine ny_thenR ?_
                    refine ny_blockR ?_
                    refine ny_thenR ?_
                    refine ny_finR (res2 rfl rfl rfl) (fun w hs => ⟨(none, 4), _, rfl, .inr (.inr ⟨rfl, ⟨by omega, by omega, hInR⟩, ?_⟩), hs.toGrow⟩)
                    exact not_latt hlti hltj (by first | exact ok_bad1 hg81 hg87 hg93 | exact ok_bad2 hg100 | exact ok_bad3 hc106)
                  · refine cy_skip ?_
                    refine ny_blockN ?_
                    refine ny_next ?_
                    refine cy_region ?_
                    refine sy_addi (z := ((j + 1 : Nat) : Int)) rfl rfl (by omega) (by omega) (by omega) rfl rfl ?_
                    refine sy_move rfl rfl rfl ?_
                    refine sy_nil rfl ?_
                    refine ny_round (j + 1) [0] ⟨by omega, ?_⟩ (show k - (j + 1) < k - j by omega) ⟨rfl, rfl, rfl, rfl, rfl, rfl, rfl, trivial⟩ rfl rfl
                    intro c hc
                    rcases Nat.lt_succ_iff_lt_or_eq.1 hc with hc | hc
                    · exact hprej c hc
                    · subst hc
                      exact ok_yes (by first | exact .inl hg81 | exact .inr (.inl hg87) | exact .inr (.inr hg93)) hg100 hc106
            · refine sy_skip rfl rfl rfl ?_
              refine sy_skip rfl rfl rfl ?_
              refine sy_skip rfl rfl rfl ?_
              refine sy_skip rfl rfl rfl ?_
              refine sy_pickF rfl rfl rfl rfl ?_
              refine sy_move rfl rfl rfl ?_
              refine sy_move rfl rfl rfl ?_
              refine sy_move rfl rfl rfl ?_
              refine sy_move rfl rfl rfl ?_
              refine sy_callr 0 rfl call_36 rfl rfl (join_c _ _ _ _ (Hp.upd_same _ _ _) hk1 hk2 (ru_lt hk2 p) _ _) rfl rfl ?_
              refine sy_cmp rfl rfl rfl rfl rfl ?_
              refine sy_pickF rfl rfl rfl rfl ?_
              refine sy_move rfl rfl rfl ?_
              refine sy_cond (d := 100) _ rfl rfl (fun hg100 => ?_) (fun hg100 => ?_)
              · refine sy_skip rfl rfl rfl ?_
                refine sy_skip rfl rfl rfl ?_
                refine sy_skip rfl rfl rfl ?_
                refine sy_skip rfl rfl rfl ?_
                refine sy_skip rfl rfl rfl ?_
                refine sy_pickT rfl rfl rfl rfl ?_
                refine sy_nil rfl ?_
                refine ny_next ?_
                refine cy_condT rfl ?_
                refine cy_seq ?_
                refine cy_region ?_
                refine sy_assign rfl rfl rfl ?_
                refine sy_assign rfl rfl rfl ?_
                refine sy_nil rfl ?_
                refine ny_next ?_
                refine cy_ret ?_
                refine ny_blockR ?_
                refine ny_thenR ?_
                refine ny_thenR ?_
                refine ny_blockR ?_
                refine ny_blockR ?_
                refine ny_thenR ?_
                refine ny_thenR ?_
                refine ny_blockR ?_
                refine ny_thenR ?_
                refine ny_finR (res2 rfl rfl rfl) (fun w hs => ⟨(none, 4), _, rfl, .inr (.inr ⟨rfl, ⟨by omega, by omega, hInR⟩, ?_⟩), hs.toGrow⟩)
                exact not_latt hlti hltj (by first | exact ok_bad1 hg81 hg87 hg93 | exact ok_bad2 hg100 | exact ok_bad3 hc106)
              · refine sy_move rfl rfl rfl ?_
                refine sy_move rfl rfl rfl ?_
                refine sy_move rfl rfl rfl ?_
                refine sy_callr 0 rfl call_43 rfl rfl (meet_c _ _ _ _ (Hp.upd_same _ _ _) hk1 hk2 (ru_lt hk2 p) _ _) rfl rfl ?_
                refine sy_cmp rfl rfl rfl rfl rfl ?_
                refine sy_pickF rfl rfl rfl rfl ?_
                refine sy_nil rfl ?_
                refine ny_next ?_
                refine cy_cond rfl (fun hc106 => ?_) (fun hc106 => ?_)
                · refine cy_seq ?_
                  refine cy_region ?_
                  refine sy_assign rfl rfl rfl ?_
                  refine sy_assign rfl rfl rfl ?_
                  refine sy_nil rfl ?_
                  refine ny_next ?_
                  refine cy_ret ?_
                  refine ny_blockR ?_
                  refine ny_thenR ?_
                  refine ny_thenR ?_
                  refine ny_blockR ?_
                  refine ny_blockR ?_
                  refine ny_thenR ?_
                  refine ny_thenR ?_
                  refine ny_blockR ?_
                  refine ny_thenR ?_
                  refine ny_finR (res2 rfl rfl rfl) (fun w hs => ⟨(none, 4), _, rfl, .inr (.inr ⟨rfl, ⟨by omega, by omega, hInR⟩, ?_⟩), hs.toGrow⟩)
                  exact not_latt hlti hltj (by first | exact ok_bad1 hg81 hg87 hg93 | exact ok_bad2 hg100 | exact ok_bad3 hc106)
                · refine cy_skip ?_
                  refine ny_blockN ?_
                  refine ny_next ?_
                  refine cy_region ?_
                  refine sy_addi (z := ((j + 1 : Nat) : Int)) rfl rfl (by omega) (by omega) (by omega) rfl rfl ?_
                  refine sy_move rfl rfl rfl ?_
                  refine sy_nil rfl ?_
                  refine ny_round (j + 1) [0] ⟨by omega, ?_⟩ (show k - (j + 1) < k - j by omega) ⟨rfl, rfl, rfl, rfl, rfl, rfl, rfl, trivial⟩ rfl rfl
                  intro c hc
                  rcases Nat.lt_succ_iff_lt_or_eq.1 hc with hc | hc
                  · exact hprej c hc
                  · subst hc
                    exact ok_yes (by first | exact .inl hg81 | exact .inr (.inl hg87) | exact .inr (.inr hg93)) hg100 hc106
          · refine sy_skip rfl rfl rfl ?_
            refine sy_skip rfl rfl rfl ?_
            refine sy_skip rfl rfl rfl ?_
            refine sy_skip rfl rfl rfl ?_
            refine sy_pickF rfl rfl rfl rfl ?_
            refine sy_move rfl rfl rfl ?_
            refine sy_skip rfl rfl rfl ?_
            refine sy_skip rfl rfl rfl ?_
            refine sy_skip rfl rfl rfl ?_
            refine sy_skip rfl rfl rfl ?_
            refine sy_pickF rfl rfl rfl rfl ?_
            refine sy_move rfl rfl rfl ?_
            refine sy_move rfl rfl rfl ?_
            refine sy_move rfl rfl rfl ?_
            refine sy_move rfl rfl rfl ?_
            refine sy_callr 0 rfl call_36 rfl rfl (join_c _ _ _ _ (Hp.upd_same _ _ _) hk1 hk2 (ru_lt hk2 p) _ _) rfl rfl ?_
            refine sy_cmp rfl rfl rfl rfl rfl ?_
            refine sy_pickF rfl rfl rfl rfl ?_
            refine sy_move rfl rfl rfl ?_
            refine sy_cond (d := 100) _ rfl rfl (fun hg100 => ?_) (fun hg100 => ?_)
            · refine sy_skip rfl rfl rfl ?_
              refine sy_skip rfl rfl rfl ?_
              refine sy_skip rfl rfl rfl ?_
              refine sy_skip rfl rfl rfl ?_
              refine sy_skip rfl rfl rfl ?_
              refine sy_pickT rfl rfl rfl rfl ?_
              refine sy_nil rfl ?_
              refine ny_next ?_
              refine cy_condT rfl ?_
              refine cy_seq ?_
              refine cy_region ?_
              refine sy_assign rfl rfl rfl ?_
              refine sy_assign rfl rfl rfl ?_
              refine sy_nil rfl ?_
              refine ny_next ?_
              refine cy_ret ?_
              refine ny_blockR ?_
              refine ny_thenR ?_
              refine ny_thenR ?_
              refine ny_blockR ?_
              refine ny_blockR ?_
              refine ny_thenR ?_
              refine ny_thenR ?_
              refine ny_blockR ?_
              refine ny_thenR ?_
              refine ny_finR (res2 rfl rfl rfl) (fun w hs => ⟨(none, 4), _, rfl, .inr (.inr ⟨rfl, ⟨by omega, by omega, hInR⟩, ?_⟩), hs.toGrow⟩)
              exact not_latt hlti hltj (by first | exact ok_bad1 hg81 hg87 hg93 | exact ok_bad2 hg100 | exact ok_bad3 hc106)
            · refine sy_move rfl rfl rfl ?_
              refine sy_move rfl rfl rfl ?_
              refine sy_move rfl rfl rfl ?_
              refine sy_callr 0 rfl call_43 rfl rfl (meet_c _ _ _ _ (Hp.upd_same _ _ _) hk1 hk2 (ru_lt hk2 p) _ _) rfl rfl ?_
              refine sy_cmp rfl rfl rfl rfl rfl ?_
              refine sy_pickF rfl rfl rfl rfl ?_
              refine sy_nil rfl ?_
              refine ny_next ?_
              refine cy_cond rfl (fun hc106 => ?_) (fun hc106 => ?_)
              · refine cy_seq ?_
                refine cy_region ?_
                refine sy_assign rfl rfl rfl ?_
                refine sy_assign rfl rfl rfl ?_
                refine sy_nil rfl ?_
                refine ny_next ?_
                refine cy_ret ?_
                refine ny_blockR ?_
                refine ny_thenR ?_
                refine ny_thenR ?_
                refine ny_blockR ?_
                refine ny_blockR ?_
                refine ny_thenR ?_
                refine ny_thenR ?_
                refine ny_blockR ?_
                refine ny_thenR ?_
                refine ny_finR (res2 rfl rfl rfl) (fun w hs => ⟨(none, 4), _, rfl, .inr (.inr ⟨rfl, ⟨by omega, by omega, hInR⟩, ?_⟩), hs.toGrow⟩)
                exact not_latt hlti hltj (by first | exact ok_bad1 hg81 hg87 hg93 | exact ok_bad2 hg100 | exact ok_bad3 hc106)
              · refine cy_skip ?_
                refine ny_blockN ?_
                refine ny_next ?_
                refine cy_region ?_
                refine sy_addi (z := ((j + 1 : Nat) : Int)) rfl rfl (by omega) (by omega) (by omega) rfl rfl ?_
                refine sy_move rfl rfl rfl ?_
                refine sy_nil rfl ?_
                refine ny_round (j + 1) [0] ⟨by omega, ?_⟩ (show k - (j + 1) < k - j by omega) ⟨rfl, rfl, rfl, rfl, rfl, rfl, rfl, trivial⟩ rfl rfl
                intro c hc
                rcases Nat.lt_succ_iff_lt_or_eq.1 hc with hc | hc
                · exact hprej c hc
                · subst hc
                  exact ok_yes (by first | exact .inl hg81 | exact .inr (.inl hg87) | exact .inr (.inr hg93)) hg100 hc106
        · have hiej : k = j := by have := of_decide_eq_false hc76; omega
          subst hiej
          refine cy_exit ?_
          refine ny_thenE ?_
          refine ny_thenE ?_
          refine ny_blockX ?_
          refine ny_blockN ?_
          refine ny_next ?_
          refine cy_region ?_
          refine sy_addi (z := ((i + 1 : Nat) : Int)) rfl rfl (by omega) (by omega) (by omega) rfl rfl ?_
          refine sy_move rfl rfl rfl ?_
          refine sy_nil rfl ?_
          refine ny_round (i + 1) [0] ⟨by omega, ?_⟩ (show k - (i + 1) < k - i by omega) ⟨rfl, rfl, rfl, rfl, trivial⟩ rfl rfl
          intro c hc
          rcases Nat.lt_succ_iff_lt_or_eq.1 hc with hc | hc
          · exact hprei c hc
          · subst hc
            exact hprej
      · have hiei : k = i := by have := of_decide_eq_false hc72; omega
        subst hiei
        refine cy_exit ?_
        refine ny_thenE ?_
        refine ny_thenE ?_
        refine ny_blockX ?_
        refine ny_next ?_
        refine cy_seq ?_
        refine cy_region ?_
        refine sy_move rfl rfl rfl ?_
        refine sy_assign rfl rfl rfl ?_
        refine sy_assign rfl rfl rfl ?_
        refine sy_nil rfl ?_
        refine ny_next ?_
        refine cy_ret ?_
        refine ny_finR (res2 rfl rfl rfl) (fun w hs => ?_)
        obtain ⟨h2, hle2, hb2, hs2⟩ := frz 0 rfl (by simp) hs
        exact ⟨(some b20, 0), h2, rfl, .inl ⟨b20, rfl, ⟨by omega, by omega, hInR, ok_latt hprei⟩, hb2⟩, hs2.toGrow⟩
theorem new_c (n : Int) (A : Option Addr) (l c : Nat) (p : List (Int × Int)) (h : Hp) (hp : PairsAt h A p) (hl : p.length = l) (hm : l ≤ 9223372036854775807) : CX Tryd.prog 18 [.int .i64 n, .slice A l c] h newV (NewR 94 n p) := by
  by_cases hn : 1 ≤ n ∧ n ≤ 16
  · obtain ⟨k, rfl⟩ := Int.eq_ofNat_of_zero_le (show 0 ≤ n by omega)
    exact newK_c k A l c p h (by omega) (by omega) hp hl hm
  · exact newBad_c n A l c p h hn
end Go.Proofs.YtamifocfbcmfkaaDoor

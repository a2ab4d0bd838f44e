/- GrantTables: the walks. Conditions: as each says. Printed by a program of this session. -/
import Derived.Test.YtamifocfbcmfkaaDoorFactsQ
import Derived.Test.YtamifocfbcmfkaaDoorGrantC
import Derived.Test.YtamifocfbcmfkaaDoorTabPure
set_option linter.unusedVariables false
set_option linter.unusedSimpArgs false
namespace Go.Proofs.YtamifocfbcmfkaaDoor
open Go.RowKit Go.Proofs.YtamifocfbcmfkaaDoor.E Go.Proofs.YtamifocfbcmfkaaDoor.LattP Go.Proofs.YtamifocfbcmfkaaDoor.ChanP Go.Proofs.YtamifocfbcmfkaaDoor.GrantP
theorem rIsL_c (A : Option Addr) (n c : Nat) (p : List (Int × Int)) (a : Int) (h : Hp) : C0 Tryd.prog 64 [.agg #[.slice A n c], .int .i64 a] h (.bool (leqI n (ru n p) a a)) := by
  rw [← isI_refl]
  exact rIs_c A n c a h
theorem rLeqL_c (A : Option Addr) (n c : Nat) (p : List (Int × Int)) (a b : Int) (h : Hp) (hT : RefT h A n (tw p n)) (hin : InR n p) : C0 Tryd.prog 65 [.agg #[.slice A n c], .int .i64 a, .int .i64 b] h (.bool (leqI n (ru n p) a b)) := by
  rw [leq_eq (tw_tells hin)]
  exact rLeq_c A n c (tw p n) a b h hT
set_option maxRecDepth 100000 in
theorem rname_c (s : ByteArray) (h : Hp) (hs : s.size ≤ 9223372036854775807) : C0 Tryd.prog 63 [.string s] h (.bool (nameB s)) := by
  refine enter0 Tryd.func63 rfl rfl rfl (fun w => ?_)
  refine cy_seq ?_
  refine cy_region ?_
  refine sy_assign rfl rfl rfl ?_
  refine sy_nil rfl ?_
  refine ny_next ?_
  refine cy_seq ?_
  refine cy_seq ?_
  refine cy_region ?_
  refine sy_assign rfl rfl rfl ?_
  refine sy_nil rfl ?_
  refine ny_next ?_
  refine cy_block ?_
  refine cy_loopK (ι := Nat) [0] rfl (fun i => i ≤ s.size ∧ (s.data.toList.take i).all lettB = true) (fun i => s.size - i) (fun i => [(3, .int .i64 (i : Int))]) (fun i => h) (fun i => []) 0 [] ⟨Nat.zero_le _, by simp⟩ ⟨rfl, trivial⟩ rfl rfl ?_
  rintro i ⟨hI, hpre⟩
  refine cy_seq ?_
  refine cy_seq ?_
  refine cy_region ?_
  refine sy_move rfl rfl rfl ?_
  refine sy_move rfl rfl rfl ?_
  refine sy_len rfl (len_string Tryd.underlying9 _) rfl rfl ?_
  refine sy_cmp rfl rfl rfl rfl rfl ?_
  refine sy_nil rfl ?_
  refine ny_next ?_
  refine cy_cond rfl (fun hc7 => ?_) (fun hc7 => ?_)
  · have hlti : i < s.size := by have := of_decide_eq_true hc7; omega
    obtain ⟨e0, he0⟩ : ∃ e0, s.data.toList[i]? = some e0 := ⟨_, List.getElem?_eq_getElem (by show i < s.size; omega)⟩
    refine cy_skip ?_
    refine ny_next ?_
    refine cy_seq ?_
    refine cy_block ?_
    refine cy_seq ?_
    refine cy_region ?_
    refine sy_move rfl rfl rfl ?_
    refine sy_move rfl rfl rfl ?_
    refine sy_idxs (u := e0) Tryd.underlying9 rfl rfl (by omega) (ba_at he0) rfl rfl ?_
    refine sy_cmp rfl rfl rfl rfl rfl ?_
    refine sy_move rfl rfl rfl ?_
    refine sy_cond (d := 14) _ rfl rfl (fun hg14 => ?_) (fun hg14 => ?_)
    · have hlo : e0.toNat < 97 := by have := of_decide_eq_true hg14; omega
      refine sy_skip rfl rfl rfl ?_
      refine sy_skip rfl rfl rfl ?_
      refine sy_skip rfl rfl rfl ?_
      refine sy_skip rfl rfl rfl ?_
      refine sy_pickT rfl rfl rfl rfl ?_
      refine sy_nil rfl ?_
      refine ny_next ?_
      refine cy_condT rfl ?_
      refine cy_seq ?_
      refine cy_region ?_
      refine sy_assign rfl rfl rfl ?_
      refine sy_nil rfl ?_
      refine ny_next ?_
      refine cy_ret ?_
      refine ny_blockR ?_
      refine ny_thenR ?_
      refine ny_thenR ?_
      refine ny_blockR ?_
      refine ny_thenR ?_
      refine ny_finR (res1 rfl rfl) (fun w hs2 => ⟨?_, hs2.frm⟩)
      have hno : lettB e0 = false := by first | (unfold lettB; simp; omega) | (have := of_decide_eq_true hc19; unfold lettB; simp; omega)
      unfold nameB
      rw [all_no he0 hno]
      rfl
    · have hlo : ¬ e0.toNat < 97 := by have := of_decide_eq_false hg14; omega
      refine sy_move rfl rfl rfl ?_
      refine sy_move rfl rfl rfl ?_
      refine sy_idxs (u := e0) Tryd.underlying9 rfl rfl (by omega) (ba_at he0) rfl rfl ?_
      refine sy_cmp rfl rfl rfl rfl rfl ?_
      refine sy_pickF rfl rfl rfl rfl ?_
      refine sy_nil rfl ?_
      refine ny_next ?_
      refine cy_cond rfl (fun hc19 => ?_) (fun hc19 => ?_)
      · refine cy_seq ?_
        refine cy_region ?_
        refine sy_assign rfl rfl rfl ?_
        refine sy_nil rfl ?_
        refine ny_next ?_
        refine cy_ret ?_
        refine ny_blockR ?_
        refine ny_thenR ?_
        refine ny_thenR ?_
        refine ny_blockR ?_
        refine ny_thenR ?_
        refine ny_finR (res1 rfl rfl) (fun w hs2 => ⟨?_, hs2.frm⟩)
        have hno : lettB e0 = false := by first | (unfold lettB; simp; omega) | (have := of_decide_eq_true hc19; unfold lettB; simp; omega)
        unfold nameB
        rw [all_no he0 hno]
        rfl
      · have hhi : e0.toNat ≤ 122 := by have := of_decide_eq_false hc19; omega
        refine cy_skip ?_
        refine ny_blockN ?_
        refine ny_next ?_
        refine cy_region ?_
        refine sy_move rfl rfl rfl ?_
        refine sy_addi (z := ((i + 1 : Nat) : Int)) rfl rfl (by omega) (by omega) (by omega) rfl rfl ?_
        refine sy_assign rfl rfl rfl ?_
        refine sy_nil rfl ?_
        refine ny_roundK [0] (i + 1) [] ⟨by omega, by rw [all_take_succ he0, hpre]; simp [lettB]; omega⟩ (show s.size - (i + 1) < s.size - i by omega) rfl ⟨rfl, trivial⟩ rfl rfl
  · have hie : i = s.size := by have := of_decide_eq_false hc7; omega
    subst hie
    refine cy_exit ?_
    refine ny_thenE ?_
    refine ny_thenE ?_
    refine ny_blockX ?_
    refine ny_next ?_
    refine cy_seq ?_
    refine cy_region ?_
    refine sy_move rfl rfl rfl ?_
    refine sy_len rfl (len_string Tryd.underlying9 _) rfl rfl ?_
    refine sy_cmp rfl rfl rfl rfl rfl ?_
    refine sy_move rfl rfl rfl ?_
    refine sy_cond (d := 23) _ rfl rfl (fun hg23 => ?_) (fun hg23 => ?_)
    · refine sy_move rfl rfl rfl ?_
      refine sy_len rfl (len_string Tryd.underlying9 _) rfl rfl ?_
      refine sy_cmp rfl rfl rfl rfl rfl ?_
      refine sy_pickT rfl rfl rfl rfl ?_
      refine sy_assign rfl rfl rfl ?_
      refine sy_nil rfl ?_
      refine ny_next ?_
      refine cy_ret ?_
      refine ny_finR (res1 rfl rfl) (fun w hs2 => ⟨?_, hs2.frm⟩)
      have hp2 : s.data.toList.all lettB = true := by rw [← hpre]; congr 1; exact (List.take_of_length_le (Nat.le_refl _)).symm
      unfold nameB
      rw [hp2, Bool.true_and]
      first | (have h1 := of_decide_eq_true hg23; have e1 : decide (1 ≤ s.size) = true := decide_eq_true (by omega); rw [e1, Bool.true_and]; congr 2; exact decide_eq_decide.2 (by omega)) | (have h1 := of_decide_eq_false hg23; have e1 : decide (1 ≤ s.size) = false := decide_eq_false (by omega); rw [e1]; rfl)
    · refine sy_skip rfl rfl rfl ?_
      refine sy_skip rfl rfl rfl ?_
      refine sy_skip rfl rfl rfl ?_
      refine sy_pickF rfl rfl rfl rfl ?_
      refine sy_assign rfl rfl rfl ?_
      refine sy_nil rfl ?_
      refine ny_next ?_
      refine cy_ret ?_
      refine ny_finR (res1 rfl rfl) (fun w hs2 => ⟨?_, hs2.frm⟩)
      have hp2 : s.data.toList.all lettB = true := by rw [← hpre]; congr 1; exact (List.take_of_length_le (Nat.le_refl _)).symm
      unfold nameB
      rw [hp2, Bool.true_and]
      first | (have h1 := of_decide_eq_true hg23; have e1 : decide (1 ≤ s.size) = true := decide_eq_true (by omega); rw [e1, Bool.true_and]; congr 2; exact decide_eq_decide.2 (by omega)) | (have h1 := of_decide_eq_false hg23; have e1 : decide (1 ≤ s.size) = false := decide_eq_false (by omega); rw [e1]; rfl)
set_option maxRecDepth 100000 in
theorem rnewg_c (A : Option Addr) (n c : Nat) (p : List (Int × Int)) (h : Hp) (hT : RefT h A n (tw p n)) (hin : InR n p) (AG : Option Addr) (lG cG : Nat) (gs : List Gr) (hG : RowsAt h AG 3 (gs.map grC)) (hlG : gs.length = lG) (hcG : lG ≤ cG) (hBG : lG * 32 ≤ 140737488351232) (hok : ∀ g, g ∈ gs → g.s.size ≤ 140737488355328) : C0 Tryd.prog 31 [.agg #[.slice A n c], .slice AG lG cG] h (.int .i64 (newI n (ru n p) gs)) := by
  refine enter0 Tryd.func31 rfl rfl rfl (fun w => ?_)
  refine cy_seq ?_
  refine cy_region ?_
  refine sy_box rfl rfl rfl rfl (fun b2 hb2 hM2 => ?_) (by simp)
  refine sy_assign rfl rfl rfl ?_
  refine sy_nil rfl ?_
  refine ny_next ?_
  refine cy_seq ?_
  refine cy_seq ?_
  refine cy_frz 0 rfl (by simp) (fun h1 hle1 hbx => ?_)
  replace hT := hT.le hle1
  replace hG := hG.le hle1
  refine cy_region ?_
  refine sy_move rfl rfl rfl ?_
  refine sy_len rfl (len_slice Tryd.underlying25 _ _ _) rfl rfl ?_
  refine sy_cmp rfl rfl rfl rfl rfl ?_
  refine sy_nil rfl ?_
  refine ny_next ?_
  refine cy_cond rfl (fun hc8 => ?_) (fun hc8 => ?_)
  · refine cy_seq ?_
    refine cy_region ?_
    refine sy_assign rfl rfl rfl ?_
    refine sy_nil rfl ?_
    refine ny_next ?_
    refine cy_ret ?_
    refine ny_thenR ?_
    refine ny_finR (res1 rfl rfl) (fun w hs2 => ⟨?_, hs2.frm⟩)
    rw [newI_full (by have := of_decide_eq_true hc8; omega)]
  · have hl100 : lG ≤ 100 := by have := of_decide_eq_false hc8; omega
    refine cy_skip ?_
    refine ny_next ?_
    refine cy_seq ?_
    refine cy_seq ?_
    refine cy_region ?_
    refine sy_assign rfl rfl rfl ?_
    refine sy_nil rfl ?_
    refine ny_next ?_
    refine cy_block ?_
    refine cy_loopK (ι := Nat) [1, 2] rfl (fun i => i ≤ lG ∧ ∀ j x, j < i → gs[j]? = some x → wrongI n (ru n p) x = 0) (fun i => lG - i) (fun i => [(5, .int .i64 (i : Int))]) (fun i => h1) (fun i => []) 0 [] ⟨Nat.zero_le _, fun j x hj => absurd hj (Nat.not_lt_zero j)⟩ ⟨rfl, trivial⟩ rfl rfl ?_
    rintro i ⟨hI, hpre⟩
    refine cy_seq ?_
    refine cy_seq ?_
    refine cy_region ?_
    refine sy_move rfl rfl rfl ?_
    refine sy_move rfl rfl rfl ?_
    refine sy_len rfl (len_slice Tryd.underlying25 _ _ _) rfl rfl ?_
    refine sy_cmp rfl rfl rfl rfl rfl ?_
    refine sy_nil rfl ?_
    refine ny_next ?_
    refine cy_cond rfl (fun hc12 => ?_) (fun hc12 => ?_)
    · have hlti : i < lG := by have := of_decide_eq_true hc12; omega
      refine cy_skip ?_
      refine ny_next ?_
      refine cy_seq ?_
      refine cy_block ?_
      refine cy_seq ?_
      refine cy_seq ?_
      refine cy_region ?_
      refine sy_move rfl rfl rfl ?_
      refine sy_move rfl rfl rfl ?_
      refine sy_idxR (fc := grC) (es := gs) els_25 rfl rfl hG hlG (by omega) rfl rfl (fun e17 b17 o17 he17 hA17 hc17 => ?_)
      refine sy_field fld_38_0 rfl rfl rfl ?_
      refine sy_ldh one_9 rfl (hc17 0 _ rfl) rfl rfl ?_
      refine sy_call rfl call_63 rfl (rname_c e17.s _ (by have := hok _ (List.mem_of_getElem? he17); omega)) rfl rfl ?_
      refine sy_not rfl rfl rfl ?_
      refine sy_nil rfl ?_
      refine ny_next ?_
      refine cy_cond rfl (fun hc21 => ?_) (fun hc21 => ?_)
      · refine cy_seq ?_
        refine cy_region ?_
        refine sy_assign rfl rfl rfl ?_
        refine sy_nil rfl ?_
        refine ny_next ?_
        refine cy_ret ?_
        refine ny_thenR ?_
        refine ny_blockR ?_
        refine ny_thenR ?_
        refine ny_thenR ?_
        refine ny_blockR ?_
        refine ny_thenR ?_
        refine ny_finR (res1 rfl rfl) (fun w hs2 => ⟨?_, hs2.frm⟩)
        have hw : wrongI n (ru n p) e17 = 4 := wrong_name (by simpa using hc21)
        rw [newI_bad (by omega) he17 hpre (by rw [hw]; decide), hw]
      · refine cy_skip ?_
        refine ny_next ?_
        refine cy_seq ?_
        refine cy_regionA mixedA ?_
        refine zy_q 0 rfl (by kernel_rfl) (fun hB8_0 => ?_)
        refine sy_ldah (vs := [.slice A n c]) agg_52 rfl rfl (Hp.blk hbx) rfl rfl ?_
        refine sy_nil1 (ny_zq hB8_0 ?_)
        refine zy_q 1 rfl (by kernel_rfl) (fun hB8_1 => ?_)
        refine sy_move rfl rfl rfl ?_
        refine sy_nil1 (ny_zq hB8_1 ?_)
        refine zy_q 2 rfl (by kernel_rfl) (fun hB8_2 => ?_)
        refine sy_move rfl rfl rfl ?_
        refine sy_nil1 (ny_zq hB8_2 ?_)
        refine zy_q 3 rfl (by kernel_rfl) (fun hB8_3 => ?_)
        refine sy_idxR (fc := grC) (es := gs) els_25 rfl rfl hG hlG (by omega) rfl rfl (fun e25 b25 o25 he25 hA25 hc25 => ?_)
        obtain rfl : e17 = e25 := by rw [he17] at he25; injection he25
        refine sy_nil1 (ny_zq hB8_3 ?_)
        refine zy_q 4 rfl (by kernel_rfl) (fun hB8_4 => ?_)
        refine sy_field fld_38_1 rfl rfl rfl ?_
        refine sy_nil1 (ny_zq hB8_4 ?_)
        refine zy_q 5 rfl (by kernel_rfl) (fun hB8_5 => ?_)
        refine sy_ldh one_3 rfl (hc25 1 _ rfl) rfl rfl ?_
        refine sy_nil1 (ny_zq hB8_5 ?_)
        refine zy_1 6 (by kernel_rfl) ?_
        refine zop_run rfl rfl (fun hB8_6 => ?_)
        refine sy_call rfl call_64 rfl (rIsL_c A n c p _ _) rfl rfl ?_
        refine sy_nil rfl (ny_zy hB8_6 (Hp.Le.refl _) ?_)
        refine zy_q 7 rfl (by kernel_rfl) (fun hB8_7 => ?_)
        refine sy_not rfl rfl rfl ?_
        refine sy_nil1 (ny_zq hB8_7 ?_)
        refine zy_q 8 rfl (by kernel_rfl) (fun hB8_8 => ?_)
        refine sy_move rfl rfl rfl ?_
        refine sy_nil1 (ny_zq hB8_8 ?_)
        refine zy_cond (d := 30) _ rfl rfl (fun hg30 => ?_) (fun hg30 => ?_)
        · refine zy_q 9 rfl (by kernel_rfl) (fun hB8_9 => ?_)
          refine sy_skip rfl rfl rfl ?_
          refine sy_nil1 (ny_zq hB8_9 ?_)
          refine zy_q 10 rfl (by kernel_rfl) (fun hB8_10 => ?_)
          refine sy_skip rfl rfl rfl ?_
          refine sy_nil1 (ny_zq hB8_10 ?_)
          refine zy_q 11 rfl (by kernel_rfl) (fun hB8_11 => ?_)
          refine sy_skip rfl rfl rfl ?_
          refine sy_nil1 (ny_zq hB8_11 ?_)
          refine zy_q 12 rfl (by kernel_rfl) (fun hB8_12 => ?_)
          refine sy_skip rfl rfl rfl ?_
          refine sy_nil1 (ny_zq hB8_12 ?_)
          refine zy_q 13 rfl (by kernel_rfl) (fun hB8_13 => ?_)
          refine sy_skip rfl rfl rfl ?_
          refine sy_nil1 (ny_zq hB8_13 ?_)
          refine zy_q 14 rfl (by kernel_rfl) (fun hB8_14 => ?_)
          refine sy_skip rfl rfl rfl ?_
          refine sy_nil1 (ny_zq hB8_14 ?_)
          refine zy_1 15 (by kernel_rfl) ?_
          refine zop_skip rfl rfl rfl rfl ?_
          refine zy_q 16 rfl (by kernel_rfl) (fun hB8_16 => ?_)
          refine sy_skip rfl rfl rfl ?_
          refine sy_nil1 (ny_zq hB8_16 ?_)
          refine zy_q 17 rfl (by kernel_rfl) (fun hB8_17 => ?_)
          refine sy_pickT rfl rfl rfl rfl ?_
          refine sy_nil1 (ny_zq hB8_17 ?_)
          refine zy_done (by kernel_rfl) ?_
          refine ny_next ?_
          refine cy_condT rfl ?_
          refine cy_seq ?_
          refine cy_region ?_
          refine sy_assign rfl rfl rfl ?_
          refine sy_nil rfl ?_
          refine ny_next ?_
          refine cy_ret ?_
          refine ny_blockR ?_
          refine ny_thenR ?_
          refine ny_thenR ?_
          refine ny_blockR ?_
          refine ny_thenR ?_
          refine ny_finR (res1 rfl rfl) (fun w hs2 => ⟨?_, hs2.frm⟩)
          have hw : wrongI n (ru n p) e17 = 2 := by first | exact wrong_to (by simpa using hc21) (by simpa using hg30) (by simpa using hc39) | exact wrong_from (by simpa using hc21) (by simpa using hg30)
          rw [newI_bad (by omega) he17 hpre (by rw [hw]; decide), hw]
        · refine zy_q 9 rfl (by kernel_rfl) (fun hB8_9 => ?_)
          refine sy_ldah (vs := [.slice A n c]) agg_52 rfl rfl (Hp.blk hbx) rfl rfl ?_
          refine sy_nil1 (ny_zq hB8_9 ?_)
          refine zy_q 10 rfl (by kernel_rfl) (fun hB8_10 => ?_)
          refine sy_move rfl rfl rfl ?_
          refine sy_nil1 (ny_zq hB8_10 ?_)
          refine zy_q 11 rfl (by kernel_rfl) (fun hB8_11 => ?_)
          refine sy_move rfl rfl rfl ?_
          refine sy_nil1 (ny_zq hB8_11 ?_)
          refine zy_q 12 rfl (by kernel_rfl) (fun hB8_12 => ?_)
          refine sy_idxR (fc := grC) (es := gs) els_25 rfl rfl hG hlG (by omega) rfl rfl (fun e34 b34 o34 he34 hA34 hc34 => ?_)
          obtain rfl : e17 = e34 := by rw [he17] at he34; injection he34
          refine sy_nil1 (ny_zq hB8_12 ?_)
          refine zy_q 13 rfl (by kernel_rfl) (fun hB8_13 => ?_)
          refine sy_field fld_38_2 rfl rfl rfl ?_
          refine sy_nil1 (ny_zq hB8_13 ?_)
          refine zy_q 14 rfl (by kernel_rfl) (fun hB8_14 => ?_)
          refine sy_ldh one_3 rfl (hc34 2 _ rfl) rfl rfl ?_
          refine sy_nil1 (ny_zq hB8_14 ?_)
          refine zy_1 15 (by kernel_rfl) ?_
          refine zop_run rfl rfl (fun hB8_15 => ?_)
          refine sy_call rfl call_64 rfl (rIsL_c A n c p _ _) rfl rfl ?_
          refine sy_nil rfl (ny_zy hB8_15 (Hp.Le.refl _) ?_)
          refine zy_q 16 rfl (by kernel_rfl) (fun hB8_16 => ?_)
          refine sy_not rfl rfl rfl ?_
          refine sy_nil1 (ny_zq hB8_16 ?_)
          refine zy_q 17 rfl (by kernel_rfl) (fun hB8_17 => ?_)
          refine sy_pickF rfl rfl rfl rfl ?_
          refine sy_nil1 (ny_zq hB8_17 ?_)
          refine zy_done (by kernel_rfl) ?_
          refine ny_next ?_
          refine cy_cond rfl (fun hc39 => ?_) (fun hc39 => ?_)
          · refine cy_seq ?_
            refine cy_region ?_
            refine sy_assign rfl rfl rfl ?_
            refine sy_nil rfl ?_
            refine ny_next ?_
            refine cy_ret ?_
            refine ny_blockR ?_
            refine ny_thenR ?_
            refine ny_thenR ?_
            refine ny_blockR ?_
            refine ny_thenR ?_
            refine ny_finR (res1 rfl rfl) (fun w hs2 => ⟨?_, hs2.frm⟩)
            have hw : wrongI n (ru n p) e17 = 2 := by first | exact wrong_to (by simpa using hc21) (by simpa using hg30) (by simpa using hc39) | exact wrong_from (by simpa using hc21) (by simpa using hg30)
            rw [newI_bad (by omega) he17 hpre (by rw [hw]; decide), hw]
          · refine cy_skip ?_
            refine ny_blockN ?_
            refine ny_next ?_
            refine cy_region ?_
            refine sy_move rfl rfl rfl ?_
            refine sy_addi (z := ((i + 1 : Nat) : Int)) rfl rfl (by omega) (by omega) (by omega) rfl rfl ?_
            refine sy_assign rfl rfl rfl ?_
            refine sy_nil rfl ?_
            refine ny_roundK [1, 2] (i + 1) [] ⟨by omega, pre_succ hpre he17 (wrong_not (by simpa using hc21) (by simpa using hg30) (by simpa using hc39))⟩ (show lG - (i + 1) < lG - i by omega) rfl ⟨rfl, trivial⟩ rfl rfl
    · have hie : i = lG := by have := of_decide_eq_false hc12; omega
      subst hie
      refine cy_exit ?_
      refine ny_thenE ?_
      refine ny_thenE ?_
      refine ny_blockX ?_
      refine ny_next ?_
      refine cy_seq ?_
      refine cy_region ?_
      refine sy_assign rfl rfl rfl ?_
      refine sy_nil rfl ?_
      refine ny_next ?_
      refine cy_ret ?_
      refine ny_finR (res1 rfl rfl) (fun w hs2 => ⟨?_, hs2.frm⟩)
      rw [newI_fine (by omega) (by rw [hlG]; exact hpre)]
set_option maxRecDepth 100000 in
theorem rmay_c (A : Option Addr) (n c : Nat) (p : List (Int × Int)) (h : Hp) (hT : RefT h A n (tw p n)) (hin : InR n p) (AG : Option Addr) (lG cG : Nat) (gs : List Gr) (hG : RowsAt h AG 3 (gs.map grC)) (hlG : gs.length = lG) (hcG : lG ≤ cG) (hBG : lG * 32 ≤ 140737488351232) (o : ByteArray) (x y : Int) : C0 Tryd.prog 32 [.agg #[.slice A n c], .slice AG lG cG, .string o, .int .i64 x, .int .i64 y] h (.bool (gs.any (mayB n (ru n p) o x y))) := by
  subst hlG
  refine enter0 Tryd.func32 rfl rfl rfl (fun w => ?_)
  refine cy_seq ?_
  refine cy_region ?_
  refine sy_box rfl rfl rfl rfl (fun b5 hb5 hM5 => ?_) (by simp)
  refine sy_assign rfl rfl rfl ?_
  refine sy_nil rfl ?_
  refine ny_next ?_
  refine cy_seq ?_
  refine cy_seq ?_
  refine cy_frz 0 rfl (by simp) (fun h1 hle1 hbx => ?_)
  replace hT := hT.le hle1
  replace hG := hG.le hle1
  refine cy_region ?_
  refine sy_assign rfl rfl rfl ?_
  refine sy_nil rfl ?_
  refine ny_next ?_
  refine cy_block ?_
  refine cy_loopK (ι := Nat) [1, 2, 3, 4, 5] rfl (fun i => i ≤ gs.length ∧ (gs.take i).any (mayB n (ru n p) o x y) = false) (fun i => gs.length - i) (fun i => [(11, .int .i64 (i : Int))]) (fun i => h1) (fun i => []) 0 [] ⟨Nat.zero_le _, by simp⟩ ⟨rfl, trivial⟩ rfl rfl ?_
  rintro i ⟨hI, hpre⟩
  refine cy_seq ?_
  refine cy_seq ?_
  refine cy_region ?_
  refine sy_move rfl rfl rfl ?_
  refine sy_move rfl rfl rfl ?_
  refine sy_len rfl (len_slice Tryd.underlying25 _ _ _) rfl rfl ?_
  refine sy_cmp rfl rfl rfl rfl rfl ?_
  refine sy_nil rfl ?_
  refine ny_next ?_
  refine cy_cond rfl (fun hc16 => ?_) (fun hc16 => ?_)
  · have hlti : i < gs.length := by have := of_decide_eq_true hc16; omega
    refine cy_skip ?_
    refine ny_next ?_
    refine cy_seq ?_
    refine cy_block ?_
    refine cy_seq ?_
    refine cy_region ?_
    refine sy_move rfl rfl rfl ?_
    refine sy_move rfl rfl rfl ?_
    refine sy_idxR (fc := grC) (es := gs) els_25 rfl rfl hG rfl (by omega) rfl rfl (fun e21 b21 o21 he21 hA21 hc21 => ?_)
    refine sy_ldah (vs := grC e21) agg_38 rfl rfl hc21 rfl rfl ?_
    refine sy_alloc zer_38 rfl rfl (fun b12 hb12 hM12 => ?_) (by simp)
    first | refine sy_stl 0 sz_38 rfl rfl rfl rfl rfl rfl rfl rfl ?_ | refine sy_stl 1 sz_38 rfl rfl rfl rfl rfl rfl rfl rfl ?_
    refine sy_nil rfl ?_
    refine ny_next ?_
    refine cy_seq ?_
    refine cy_region ?_
    refine sy_field fld_38_0 rfl rfl rfl ?_
    first | refine sy_ldr 0 one_9 rfl rfl rfl rfl rfl ?_ | refine sy_ldr 1 one_9 rfl rfl rfl rfl rfl ?_
    refine sy_move rfl rfl rfl ?_
    refine sy_eqs rfl rfl rfl rfl ?_
    refine sy_move rfl rfl rfl ?_
    refine sy_cond (d := 27) _ rfl rfl (fun hg27 => ?_) (fun hg27 => ?_)
    · refine sy_ldah (vs := [.slice A n c]) agg_52 rfl rfl (Hp.blk hbx) rfl rfl ?_
      refine sy_move rfl rfl rfl ?_
      refine sy_field fld_38_1 rfl rfl rfl ?_
      first | refine sy_ldr 0 one_3 rfl rfl rfl rfl rfl ?_ | refine sy_ldr 1 one_3 rfl rfl rfl rfl rfl ?_
      refine sy_call rfl call_65 rfl (rLeqL_c A n c p _ _ _ hT hin) rfl rfl ?_
      refine sy_pickT rfl rfl rfl rfl ?_
      refine sy_move rfl rfl rfl ?_
      refine sy_cond (d := 34) _ rfl rfl (fun hg34 => ?_) (fun hg34 => ?_)
      · refine sy_ldah (vs := [.slice A n c]) agg_52 rfl rfl (Hp.blk hbx) rfl rfl ?_
        refine sy_field fld_38_2 rfl rfl rfl ?_
        first | refine sy_ldr 0 one_3 rfl rfl rfl rfl rfl ?_ | refine sy_ldr 1 one_3 rfl rfl rfl rfl rfl ?_
        refine sy_move rfl rfl rfl ?_
        refine sy_call rfl call_65 rfl (rLeqL_c A n c p _ _ _ hT hin) rfl rfl ?_
        refine sy_pickT rfl rfl rfl rfl ?_
        refine sy_nil rfl ?_
        refine ny_next ?_
        refine cy_cond rfl (fun hc40 => ?_) (fun hc40 => ?_)
        · refine cy_seq ?_
          refine cy_region ?_
          refine sy_assign rfl rfl rfl ?_
          refine sy_nil rfl ?_
          refine ny_next ?_
          refine cy_ret ?_
          refine ny_blockR ?_
          refine ny_thenR ?_
          refine ny_thenR ?_
          refine ny_blockR ?_
          refine ny_thenR ?_
          refine ny_finR (res1 rfl rfl) (fun w hs2 => ⟨?_, hs2.frm⟩)
          rw [any_yes he21 (by simp_all [mayB])]
        · refine cy_skip ?_
          refine ny_blockN ?_
          refine ny_next ?_
          refine cy_region ?_
          refine sy_move rfl rfl rfl ?_
          refine sy_addi (z := ((i + 1 : Nat) : Int)) rfl rfl (by omega) (by omega) (by omega) rfl rfl ?_
          refine sy_assign rfl rfl rfl ?_
          refine sy_nil rfl ?_
          refine ny_roundK [1, 2, 3, 4, 5] (i + 1) [] ⟨by omega, by rw [any_take_succ he21, hpre, Bool.false_or]; simp_all [mayB]⟩ (show gs.length - (i + 1) < gs.length - i by omega) rfl ⟨rfl, trivial⟩ rfl rfl
      · refine sy_skip rfl rfl rfl ?_
        refine sy_skip rfl rfl rfl ?_
        refine sy_skip rfl rfl rfl ?_
        refine sy_skip rfl rfl rfl ?_
        refine sy_skip rfl rfl rfl ?_
        refine sy_pickF rfl rfl rfl rfl ?_
        refine sy_nil rfl ?_
        refine ny_next ?_
        refine cy_condF rfl ?_
        refine cy_skip ?_
        refine ny_blockN ?_
        refine ny_next ?_
        refine cy_region ?_
        refine sy_move rfl rfl rfl ?_
        refine sy_addi (z := ((i + 1 : Nat) : Int)) rfl rfl (by omega) (by omega) (by omega) rfl rfl ?_
        refine sy_assign rfl rfl rfl ?_
        refine sy_nil rfl ?_
        refine ny_roundK [1, 2, 3, 4, 5] (i + 1) [] ⟨by omega, by rw [any_take_succ he21, hpre, Bool.false_or]; simp_all [mayB]⟩ (show gs.length - (i + 1) < gs.length - i by omega) rfl ⟨rfl, trivial⟩ rfl rfl
    · refine sy_skip rfl rfl rfl ?_
      refine sy_skip rfl rfl rfl ?_
      refine sy_skip rfl rfl rfl ?_
      refine sy_skip rfl rfl rfl ?_
      refine sy_skip rfl rfl rfl ?_
      refine sy_pickF rfl rfl rfl rfl ?_
      refine sy_move rfl rfl rfl ?_
      refine sy_skip rfl rfl rfl ?_
      refine sy_skip rfl rfl rfl ?_
      refine sy_skip rfl rfl rfl ?_
      refine sy_skip rfl rfl rfl ?_
      refine sy_skip rfl rfl rfl ?_
      refine sy_pickF rfl rfl rfl rfl ?_
      refine sy_nil rfl ?_
      refine ny_next ?_
      refine cy_condF rfl ?_
      refine cy_skip ?_
      refine ny_blockN ?_
      refine ny_next ?_
      refine cy_region ?_
      refine sy_move rfl rfl rfl ?_
      refine sy_addi (z := ((i + 1 : Nat) : Int)) rfl rfl (by omega) (by omega) (by omega) rfl rfl ?_
      refine sy_assign rfl rfl rfl ?_
      refine sy_nil rfl ?_
      refine ny_roundK [1, 2, 3, 4, 5] (i + 1) [] ⟨by omega, by rw [any_take_succ he21, hpre, Bool.false_or]; simp_all [mayB]⟩ (show gs.length - (i + 1) < gs.length - i by omega) rfl ⟨rfl, trivial⟩ rfl rfl
  · have hie : i = gs.length := by have := of_decide_eq_false hc16; omega
    subst hie
    rw [List.take_length] at hpre
    refine cy_exit ?_
    refine ny_thenE ?_
    refine ny_thenE ?_
    refine ny_blockX ?_
    refine ny_next ?_
    refine cy_seq ?_
    refine cy_region ?_
    refine sy_assign rfl rfl rfl ?_
    refine sy_nil rfl ?_
    refine ny_next ?_
    refine cy_ret ?_
    refine ny_finR (res1 rfl rfl) (fun w hs2 => ⟨?_, hs2.frm⟩)
    rw [hpre]
set_option maxRecDepth 100000 in
theorem rcross_c (A : Option Addr) (n c : Nat) (p : List (Int × Int)) (h : Hp) (hT : RefT h A n (tw p n)) (hin : InR n p) (AG : Option Addr) (lG cG : Nat) (gs : List Gr) (hG : RowsAt h AG 3 (gs.map grC)) (hlG : gs.length = lG) (hcG : lG ≤ cG) (hBG : lG * 32 ≤ 140737488351232) (x : Int) : C0 Tryd.prog 33 [.agg #[.slice A n c], .slice AG lG cG, .int .i64 x] h (.bool (leqI n (ru n p) x x && gs.any (crossB n (ru n p) x))) := by
  subst hlG
  rw [← crossE_any]
  refine enter0 Tryd.func33 rfl rfl rfl (fun w => ?_)
  refine cy_seq ?_
  refine cy_region ?_
  refine sy_box rfl rfl rfl rfl (fun b3 hb3 hM3 => ?_) (by simp)
  refine sy_assign rfl rfl rfl ?_
  refine sy_nil rfl ?_
  refine ny_next ?_
  refine cy_seq ?_
  refine cy_seq ?_
  refine cy_frz 0 rfl (by simp) (fun h1 hle1 hbx => ?_)
  replace hT := hT.le hle1
  replace hG := hG.le hle1
  refine cy_region ?_
  refine sy_assign rfl rfl rfl ?_
  refine sy_nil rfl ?_
  refine ny_next ?_
  refine cy_block ?_
  refine cy_loopK (ι := Nat) [1, 2, 3] rfl (fun i => i ≤ gs.length ∧ (gs.take i).any (crossE n (ru n p) x) = false) (fun i => gs.length - i) (fun i => [(7, .int .i64 (i : Int))]) (fun i => h1) (fun i => []) 0 [] ⟨Nat.zero_le _, by simp⟩ ⟨rfl, trivial⟩ rfl rfl ?_
  rintro i ⟨hI, hpre⟩
  refine cy_seq ?_
  refine cy_seq ?_
  refine cy_region ?_
  refine sy_move rfl rfl rfl ?_
  refine sy_move rfl rfl rfl ?_
  refine sy_len rfl (len_slice Tryd.underlying25 _ _ _) rfl rfl ?_
  refine sy_cmp rfl rfl rfl rfl rfl ?_
  refine sy_nil rfl ?_
  refine ny_next ?_
  refine cy_cond rfl (fun hc12 => ?_) (fun hc12 => ?_)
  · have hlti : i < gs.length := by have := of_decide_eq_true hc12; omega
    refine cy_skip ?_
    refine ny_next ?_
    refine cy_seq ?_
    refine cy_block ?_
    refine cy_seq ?_
    refine cy_region ?_
    refine sy_move rfl rfl rfl ?_
    refine sy_move rfl rfl rfl ?_
    refine sy_idxR (fc := grC) (es := gs) els_25 rfl rfl hG rfl (by omega) rfl rfl (fun e17 b17 o17 he17 hA17 hc17 => ?_)
    refine sy_ldah (vs := grC e17) agg_38 rfl rfl hc17 rfl rfl ?_
    refine sy_alloc zer_38 rfl rfl (fun b8 hb8 hM8 => ?_) (by simp)
    first | refine sy_stl 0 sz_38 rfl rfl rfl rfl rfl rfl rfl rfl ?_ | refine sy_stl 1 sz_38 rfl rfl rfl rfl rfl rfl rfl rfl ?_
    refine sy_nil rfl ?_
    refine ny_next ?_
    refine cy_seq ?_
    refine cy_region ?_
    refine sy_ldah (vs := [.slice A n c]) agg_52 rfl rfl (Hp.blk hbx) rfl rfl ?_
    refine sy_move rfl rfl rfl ?_
    refine sy_call rfl call_64 rfl (rIsL_c A n c p _ _) rfl rfl ?_
    refine sy_move rfl rfl rfl ?_
    refine sy_cond (d := 22) _ rfl rfl (fun hg22 => ?_) (fun hg22 => ?_)
    · refine sy_ldah (vs := [.slice A n c]) agg_52 rfl rfl (Hp.blk hbx) rfl rfl ?_
      refine sy_field fld_38_1 rfl rfl rfl ?_
      first | refine sy_ldr 0 one_3 rfl rfl rfl rfl rfl ?_ | refine sy_ldr 1 one_3 rfl rfl rfl rfl rfl ?_
      refine sy_move rfl rfl rfl ?_
      refine sy_call rfl call_65 rfl (rLeqL_c A n c p _ _ _ hT hin) rfl rfl ?_
      refine sy_not rfl rfl rfl ?_
      refine sy_pickT rfl rfl rfl rfl ?_
      refine sy_move rfl rfl rfl ?_
      refine sy_cond (d := 30) _ rfl rfl (fun hg30 => ?_) (fun hg30 => ?_)
      · refine sy_ldah (vs := [.slice A n c]) agg_52 rfl rfl (Hp.blk hbx) rfl rfl ?_
        refine sy_field fld_38_2 rfl rfl rfl ?_
        first | refine sy_ldr 0 one_3 rfl rfl rfl rfl rfl ?_ | refine sy_ldr 1 one_3 rfl rfl rfl rfl rfl ?_
        refine sy_move rfl rfl rfl ?_
        refine sy_call rfl call_65 rfl (rLeqL_c A n c p _ _ _ hT hin) rfl rfl ?_
        refine sy_pickT rfl rfl rfl rfl ?_
        refine sy_nil rfl ?_
        refine ny_next ?_
        refine cy_cond rfl (fun hc36 => ?_) (fun hc36 => ?_)
        · refine cy_seq ?_
          refine cy_region ?_
          refine sy_assign rfl rfl rfl ?_
          refine sy_nil rfl ?_
          refine ny_next ?_
          refine cy_ret ?_
          refine ny_blockR ?_
          refine ny_thenR ?_
          refine ny_thenR ?_
          refine ny_blockR ?_
          refine ny_thenR ?_
          refine ny_finR (res1 rfl rfl) (fun w hs2 => ⟨?_, hs2.frm⟩)
          rw [any_yes he17 (by simp_all [crossE, crossB])]
        · refine cy_skip ?_
          refine ny_blockN ?_
          refine ny_next ?_
          refine cy_region ?_
          refine sy_move rfl rfl rfl ?_
          refine sy_addi (z := ((i + 1 : Nat) : Int)) rfl rfl (by omega) (by omega) (by omega) rfl rfl ?_
          refine sy_assign rfl rfl rfl ?_
          refine sy_nil rfl ?_
          refine ny_roundK [1, 2, 3] (i + 1) [] ⟨by omega, by rw [any_take_succ he17, hpre, Bool.false_or]; simp_all [crossE, crossB]⟩ (show gs.length - (i + 1) < gs.length - i by omega) rfl ⟨rfl, trivial⟩ rfl rfl
      · refine sy_skip rfl rfl rfl ?_
        refine sy_skip rfl rfl rfl ?_
        refine sy_skip rfl rfl rfl ?_
        refine sy_skip rfl rfl rfl ?_
        refine sy_skip rfl rfl rfl ?_
        refine sy_pickF rfl rfl rfl rfl ?_
        refine sy_nil rfl ?_
        refine ny_next ?_
        refine cy_condF rfl ?_
        refine cy_skip ?_
        refine ny_blockN ?_
        refine ny_next ?_
        refine cy_region ?_
        refine sy_move rfl rfl rfl ?_
        refine sy_addi (z := ((i + 1 : Nat) : Int)) rfl rfl (by omega) (by omega) (by omega) rfl rfl ?_
        refine sy_assign rfl rfl rfl ?_
        refine sy_nil rfl ?_
        refine ny_roundK [1, 2, 3] (i + 1) [] ⟨by omega, by rw [any_take_succ he17, hpre, Bool.false_or]; simp_all [crossE, crossB]⟩ (show gs.length - (i + 1) < gs.length - i by omega) rfl ⟨rfl, trivial⟩ rfl rfl
    · refine sy_skip rfl rfl rfl ?_
      refine sy_skip rfl rfl rfl ?_
      refine sy_skip rfl rfl rfl ?_
      refine sy_skip rfl rfl rfl ?_
      refine sy_skip rfl rfl rfl ?_
      refine sy_skip rfl rfl rfl ?_
      refine sy_pickF rfl rfl rfl rfl ?_
      refine sy_move rfl rfl rfl ?_
      refine sy_skip rfl rfl rfl ?_
      refine sy_skip rfl rfl rfl ?_
      refine sy_skip rfl rfl rfl ?_
      refine sy_skip rfl rfl rfl ?_
      refine sy_skip rfl rfl rfl ?_
      refine sy_pickF rfl rfl rfl rfl ?_
      refine sy_nil rfl ?_
      refine ny_next ?_
      refine cy_condF rfl ?_
      refine cy_skip ?_
      refine ny_blockN ?_
      refine ny_next ?_
      refine cy_region ?_
      refine sy_move rfl rfl rfl ?_
      refine sy_addi (z := ((i + 1 : Nat) : Int)) rfl rfl (by omega) (by omega) (by omega) rfl rfl ?_
      refine sy_assign rfl rfl rfl ?_
      refine sy_nil rfl ?_
      refine ny_roundK [1, 2, 3] (i + 1) [] ⟨by omega, by rw [any_take_succ he17, hpre, Bool.false_or]; simp_all [crossE, crossB]⟩ (show gs.length - (i + 1) < gs.length - i by omega) rfl ⟨rfl, trivial⟩ rfl rfl
  · have hie : i = gs.length := by have := of_decide_eq_false hc12; omega
    subst hie
    rw [List.take_length] at hpre
    refine cy_exit ?_
    refine ny_thenE ?_
    refine ny_thenE ?_
    refine ny_blockX ?_
    refine ny_next ?_
    refine cy_seq ?_
    refine cy_region ?_
    refine sy_assign rfl rfl rfl ?_
    refine sy_nil rfl ?_
    refine ny_next ?_
    refine cy_ret ?_
    refine ny_finR (res1 rfl rfl) (fun w hs2 => ⟨?_, hs2.frm⟩)
    rw [hpre]
set_option maxRecDepth 100000 in
theorem tables_bad (n : Int) (o : ByteArray) (x y : Int)  (A : Option Addr) (l c L : Nat) (q : List (Int × Int)) (h : Hp) (hlc : l ≤ c) (hL : L = min l 60) (hq : PairsAt h A q) (hql : q.length = L) (AG : Option Addr) (lG cG : Nat) (ht : Tab10 h) (hh : Hdl h) (e9 : Int) (he : (e9 != 0) = true) (hb : ∀ h, PairsAt h A q → C0 Tryd.prog 18 [.int .i64 n, .slice A L c] h (newV (none, e9))) (hr : ∀ h, PairsAt h A q → C0 Tryd.prog 30 [.int .i64 n, .slice A L c] h (refV ((none, 0, 0), e9))) : C0 Tryd.prog 9 [.agg #[.int .i64 n, .slice A l c], .slice AG lG cG, .string o, .int .i64 x, .int .i64 y] h (.bool true) := by
  refine enter0 Tryd.func9 rfl rfl rfl (fun w => ?_)
  refine cy_seq ?_
  refine cy_region ?_
  refine sy_box rfl rfl rfl rfl (fun b5 hb5 hM5 => ?_) (by simp)
  refine sy_assign rfl rfl rfl ?_
  refine sy_nil rfl ?_
  refine ny_next ?_
  refine cy_seq ?_
  refine cy_region ?_
  refine sy_call rfl call_17 rfl (shown02_c _ ht) rfl rfl ?_
  refine sy_assign rfl rfl rfl ?_
  refine sy_nil rfl ?_
  refine ny_next ?_
  refine cy_seq ?_
  refine cy_frz 0 rfl (by simp) (fun hbx0 hlebx hbx => ?_)
  replace ht := ht.le hlebx
  replace hh := hh.le hlebx
  replace hq := hq.le hlebx
  refine cy_regionA mixedA ?_
  refine zy_q 0 rfl (by kernel_rfl) (fun hB2_0 => ?_)
  refine sy_field fld_24_0 rfl rfl rfl ?_
  refine sy_nil1 (ny_zq hB2_0 ?_)
  refine zy_q 1 rfl (by kernel_rfl) (fun hB2_1 => ?_)
  refine sy_ldh one_3 rfl (Hp.blk hbx 0 _ rfl) rfl rfl ?_
  refine sy_nil1 (ny_zq hB2_1 ?_)
  refine zy_q 2 rfl (by kernel_rfl) (fun hB2_2 => ?_)
  refine sy_ldah (vs := [.int .i64 n, .slice A l c]) agg_24 rfl rfl (Hp.blk hbx) rfl rfl ?_
  refine sy_nil1 (ny_zq hB2_2 ?_)
  refine zy_1 3 (by kernel_rfl) ?_
  refine zop_run rfl rfl (fun hB2_3 => ?_)
  refine sy_call rfl call_19 rfl (gfew_c n A l c L _ hlc hL) rfl rfl ?_
  refine sy_nil rfl (ny_zy hB2_3 (Hp.Le.refl _) ?_)
  refine zy_1 4 (by kernel_rfl) ?_
  refine zop_run rfl rfl (fun hB2_4 => ?_)
  refine sy_call rfl call_18 rfl (hb _ hq) rfl rfl ?_
  refine sy_nil rfl (ny_zy hB2_4 (Hp.Le.refl _) ?_)
  refine zy_q 5 rfl (by kernel_rfl) (fun hB2_5 => ?_)
  refine sy_move rfl rfl rfl ?_
  refine sy_nil1 (ny_zq hB2_5 ?_)
  refine zy_q 6 rfl (by kernel_rfl) (fun hB2_6 => ?_)
  refine sy_extract rfl rfl rfl rfl ?_
  refine sy_nil1 (ny_zq hB2_6 ?_)
  refine zy_q 7 rfl (by kernel_rfl) (fun hB2_7 => ?_)
  refine sy_extract rfl rfl rfl rfl ?_
  refine sy_nil1 (ny_zq hB2_7 ?_)
  refine zy_q 8 rfl (by kernel_rfl) (fun hB2_8 => ?_)
  refine sy_assign rfl rfl rfl ?_
  refine sy_nil1 (ny_zq hB2_8 ?_)
  refine zy_q 9 rfl (by kernel_rfl) (fun hB2_9 => ?_)
  refine sy_assign rfl rfl rfl ?_
  refine sy_nil1 (ny_zq hB2_9 ?_)
  refine zy_done (by kernel_rfl) ?_
  refine ny_next ?_
  refine cy_cut (ι := Nat) [1, 2, 3, 4, 5, 11, 12] rfl (fun v => True) (fun v => [(14, .pointer (some ⟨v, 0, none⟩)), (15, .int .i64 e9)]) (fun v => hbx0) (fun v => [.blk v (.cells [.slice none 0 0].toArray 52 (0, 0))]) ?_ ?_
  · refine cy_regionA mixedA ?_
    refine zy_q 0 rfl (by kernel_rfl) (fun hB3_0 => ?_)
    refine sy_field fld_24_0 rfl rfl rfl ?_
    refine sy_nil1 (ny_zq hB3_0 ?_)
    refine zy_q 1 rfl (by kernel_rfl) (fun hB3_1 => ?_)
    refine sy_ldh one_3 rfl (Hp.blk hbx 0 _ rfl) rfl rfl ?_
    refine sy_nil1 (ny_zq hB3_1 ?_)
    refine zy_q 2 rfl (by kernel_rfl) (fun hB3_2 => ?_)
    refine sy_ldah (vs := [.int .i64 n, .slice A l c]) agg_24 rfl rfl (Hp.blk hbx) rfl rfl ?_
    refine sy_nil1 (ny_zq hB3_2 ?_)
    refine zy_2 3 8 (by kernel_rfl) ?_ ?_
    · refine zop_run rfl rfl (fun hB3_3 => ?_)
      refine sy_call rfl call_19 rfl (gfew_c n A l c L _ hlc hL) rfl rfl ?_
      refine sy_nil rfl (ny_zy hB3_3 (Hp.Le.refl _) ?_)
      refine zy_2 4 8 (by kernel_rfl) ?_ ?_
      · refine zop_run rfl rfl (fun hB3_4 => ?_)
        refine sy_call rfl call_30 rfl (hr _ hq) rfl rfl ?_
        refine sy_nil rfl (ny_zy hB3_4 (Hp.Le.refl _) ?_)
        refine zy_q 5 rfl (by kernel_rfl) (fun hB3_5 => ?_)
        refine sy_move rfl rfl rfl ?_
        refine sy_nil1 (ny_zq hB3_5 ?_)
        refine zy_q 6 rfl (by kernel_rfl) (fun hB3_6 => ?_)
        refine sy_extract rfl rfl rfl rfl ?_
        refine sy_nil1 (ny_zq hB3_6 ?_)
        refine zy_q 7 rfl (by kernel_rfl) (fun hB3_7 => ?_)
        refine sy_extract rfl rfl rfl rfl ?_
        refine sy_nil1 (ny_zq hB3_7 ?_)
        refine zy_1 8 (by kernel_rfl) ?_
        refine zop_run rfl rfl (fun hB3_8 => ?_)
        refine sy_alloc zer_52 rfl rfl (fun b14 hb14 hM14 => ?_) (by simp)
        refine sy_nil rfl (ny_zy hB3_8 (Hp.Le.refl _) ?_)
        refine zy_1 9 (by kernel_rfl) ?_
        refine zop_run rfl rfl (fun hB3_9 => ?_)
        first | refine sy_stl 0 sz_52 rfl rfl rfl rfl rfl rfl rfl rfl ?_ | refine sy_stl 1 sz_52 rfl rfl rfl rfl rfl rfl rfl rfl ?_ | refine sy_stl 2 sz_52 rfl rfl rfl rfl rfl rfl rfl rfl ?_
        refine sy_nil rfl (ny_zy hB3_9 (Hp.Le.refl _) ?_)
        refine zy_q 10 rfl (by kernel_rfl) (fun hB3_10 => ?_)
        refine sy_assign rfl rfl rfl ?_
        refine sy_nil1 (ny_zq hB3_10 ?_)
        refine zy_done (by kernel_rfl) ?_
        refine ny_cut [1, 2, 3, 4, 5, 11, 12] b14 [0] trivial rfl ⟨rfl, rfl, trivial⟩ rfl rfl
      · refine zop_run rfl rfl (fun hB3_8 => ?_)
        refine sy_alloc zer_52 rfl rfl (fun b14 hb14 hM14 => ?_) (by simp)
        refine sy_nil rfl (ny_zy hB3_8 (Hp.Le.refl _) ?_)
        refine zy_1 4 (by kernel_rfl) ?_
        refine zop_run rfl rfl (fun hB3_4 => ?_)
        refine sy_call rfl call_30 rfl (hr _ hq) rfl rfl ?_
        refine sy_nil rfl (ny_zy hB3_4 (Hp.Le.refl _) ?_)
        refine zy_q 5 rfl (by kernel_rfl) (fun hB3_5 => ?_)
        refine sy_move rfl rfl rfl ?_
        refine sy_nil1 (ny_zq hB3_5 ?_)
        refine zy_q 6 rfl (by kernel_rfl) (fun hB3_6 => ?_)
        refine sy_extract rfl rfl rfl rfl ?_
        refine sy_nil1 (ny_zq hB3_6 ?_)
        refine zy_q 7 rfl (by kernel_rfl) (fun hB3_7 => ?_)
        refine sy_extract rfl rfl rfl rfl ?_
        refine sy_nil1 (ny_zq hB3_7 ?_)
        refine zy_1 9 (by kernel_rfl) ?_
        refine zop_run rfl rfl (fun hB3_9 => ?_)
        first | refine sy_stl 0 sz_52 rfl rfl rfl rfl rfl rfl rfl rfl ?_ | refine sy_stl 1 sz_52 rfl rfl rfl rfl rfl rfl rfl rfl ?_ | refine sy_stl 2 sz_52 rfl rfl rfl rfl rfl rfl rfl rfl ?_
        refine sy_nil rfl (ny_zy hB3_9 (Hp.Le.refl _) ?_)
        refine zy_q 10 rfl (by kernel_rfl) (fun hB3_10 => ?_)
        refine sy_assign rfl rfl rfl ?_
        refine sy_nil1 (ny_zq hB3_10 ?_)
        refine zy_done (by kernel_rfl) ?_
        refine ny_cut [1, 2, 3, 4, 5, 11, 12] b14 [0] trivial rfl ⟨rfl, rfl, trivial⟩ rfl rfl
    · refine zop_run rfl rfl (fun hB3_8 => ?_)
      refine sy_alloc zer_52 rfl rfl (fun b14 hb14 hM14 => ?_) (by simp)
      refine sy_nil rfl (ny_zy hB3_8 (Hp.Le.refl _) ?_)
      refine zy_1 3 (by kernel_rfl) ?_
      refine zop_run rfl rfl (fun hB3_3 => ?_)
      refine sy_call rfl call_19 rfl (gfew_c n A l c L _ hlc hL) rfl rfl ?_
      refine sy_nil rfl (ny_zy hB3_3 (Hp.Le.refl _) ?_)
      refine zy_1 4 (by kernel_rfl) ?_
      refine zop_run rfl rfl (fun hB3_4 => ?_)
      refine sy_call rfl call_30 rfl (hr _ hq) rfl rfl ?_
      refine sy_nil rfl (ny_zy hB3_4 (Hp.Le.refl _) ?_)
      refine zy_q 5 rfl (by kernel_rfl) (fun hB3_5 => ?_)
      refine sy_move rfl rfl rfl ?_
      refine sy_nil1 (ny_zq hB3_5 ?_)
      refine zy_q 6 rfl (by kernel_rfl) (fun hB3_6 => ?_)
      refine sy_extract rfl rfl rfl rfl ?_
      refine sy_nil1 (ny_zq hB3_6 ?_)
      refine zy_q 7 rfl (by kernel_rfl) (fun hB3_7 => ?_)
      refine sy_extract rfl rfl rfl rfl ?_
      refine sy_nil1 (ny_zq hB3_7 ?_)
      refine zy_1 9 (by kernel_rfl) ?_
      refine zop_run rfl rfl (fun hB3_9 => ?_)
      first | refine sy_stl 0 sz_52 rfl rfl rfl rfl rfl rfl rfl rfl ?_ | refine sy_stl 1 sz_52 rfl rfl rfl rfl rfl rfl rfl rfl ?_ | refine sy_stl 2 sz_52 rfl rfl rfl rfl rfl rfl rfl rfl ?_
      refine sy_nil rfl (ny_zy hB3_9 (Hp.Le.refl _) ?_)
      refine zy_q 10 rfl (by kernel_rfl) (fun hB3_10 => ?_)
      refine sy_assign rfl rfl rfl ?_
      refine sy_nil1 (ny_zq hB3_10 ?_)
      refine zy_done (by kernel_rfl) ?_
      refine ny_cut [1, 2, 3, 4, 5, 11, 12] b14 [0] trivial rfl ⟨rfl, rfl, trivial⟩ rfl rfl
  · rintro b14 -
    refine cy_frz 0 rfl (by simp) (fun h14 hle14 hb14 => ?_)
    replace ht := ht.le hle14
    replace hh := hh.le hle14
    refine cy_seq ?_
    refine cy_region ?_
    refine sy_move rfl rfl rfl ?_
    refine sy_move rfl rfl rfl ?_
    refine sy_call rfl call_20 rfl (gnewN_c _ _ _ _) rfl rfl ?_
    refine sy_move rfl rfl rfl ?_
    refine sy_extract rfl rfl rfl rfl ?_
    refine sy_extract rfl rfl rfl rfl ?_
    refine sy_assign rfl rfl rfl ?_
    refine sy_assign rfl rfl rfl ?_
    refine sy_nil rfl ?_
    refine ny_next ?_
    refine cy_seq ?_
    refine cy_seq ?_
    refine cy_region ?_
    refine sy_move rfl rfl rfl ?_
    refine sy_cmp rfl rfl rfl rfl rfl ?_
    refine sy_setT (d := 45) rfl rfl he ?_
    refine sy_nil rfl ?_
    refine ny_next ?_
    refine cy_condT rfl ?_
    refine cy_seq ?_
    refine cy_region ?_
    refine sy_move rfl rfl rfl ?_
    refine sy_move rfl rfl rfl ?_
    refine sy_setT (d := 47) rfl rfl (by first | rfl | decide | simp) ?_
    refine sy_move rfl rfl rfl ?_
    refine sy_call rfl call_29 rfl (codeR_c _ _ _ hh) rfl rfl ?_
    refine sy_cmp rfl rfl rfl rfl rfl ?_
    refine sy_pickT rfl rfl rfl rfl ?_
    refine sy_move rfl rfl rfl ?_
    refine sy_setT (d := 52) rfl rfl (by first | rfl | decide | simp) ?_
    refine sy_move rfl rfl rfl ?_
    refine sy_eqp Tryd.underlying32 rfl rfl rfl rfl rfl ?_
    refine sy_pickT rfl rfl rfl rfl ?_
    refine sy_move rfl rfl rfl ?_
    refine sy_setT (d := 56) rfl rfl (by first | rfl | decide | simp) ?_
    refine sy_move rfl rfl rfl ?_
    refine sy_move rfl rfl rfl ?_
    refine sy_move rfl rfl rfl ?_
    refine sy_move rfl rfl rfl ?_
    refine sy_call rfl call_22 rfl (gmayN_c _ _ _ _) rfl rfl ?_
    refine sy_not rfl rfl rfl ?_
    refine sy_pickT rfl rfl rfl rfl ?_
    refine sy_move rfl rfl rfl ?_
    refine sy_setT (d := 64) rfl rfl (by first | rfl | decide | simp) ?_
    refine sy_move rfl rfl rfl ?_
    refine sy_move rfl rfl rfl ?_
    refine sy_call rfl call_24 rfl (gcrossN_c _ _) rfl rfl ?_
    refine sy_not rfl rfl rfl ?_
    refine sy_pickT rfl rfl rfl rfl ?_
    refine sy_assign rfl rfl rfl ?_
    refine sy_nil rfl ?_
    refine ny_next ?_
    refine cy_ret ?_
    refine ny_thenR ?_
    exact ny_finR (res1 rfl rfl) (fun w hs => ⟨rfl, hs.frm⟩)
set_option maxRecDepth 100000 in
theorem tables_badg (k : Nat) (o : ByteArray) (x y : Int)  (A : Option Addr) (l c L : Nat) (q : List (Int × Int)) (h : Hp) (hlc : l ≤ c) (hL : L = min l 60) (hq : PairsAt h A q) (hql : q.length = L) (AG : Option Addr) (lG cG : Nat) (gs : List Gr) (hG : RowsAt h AG 3 (gs.map grC)) (hlG : gs.length = lG) (hcG : lG ≤ cG) (hBG : lG * 32 ≤ 140737488351232) (hokG : ∀ g, g ∈ gs → g.s.size ≤ 140737488355328) (ht : Tab10 h) (hh : Hdl h) (hF : Fine (k : Int) q) (h0 : newI k (ru k q) gs ≠ 0) : C0 Tryd.prog 9 [.agg #[.int .i64 (k : Int), .slice A l c], .slice AG lG cG, .string o, .int .i64 x, .int .i64 y] h (.bool true) := by
  have hk1 : 1 ≤ k := by have := hF.1; omega
  have hk2 : k ≤ 16 := by have := hF.2.1; omega
  have hin : InR k q := hF.2.2.1
  refine enter0 Tryd.func9 rfl rfl rfl (fun w => ?_)
  refine cy_seq ?_
  refine cy_region ?_
  refine sy_box rfl rfl rfl rfl (fun b5 hb5 hM5 => ?_) (by simp)
  refine sy_assign rfl rfl rfl ?_
  refine sy_nil rfl ?_
  refine ny_next ?_
  refine cy_seq ?_
  refine cy_region ?_
  refine sy_call rfl call_17 rfl (shown02_c _ ht) rfl rfl ?_
  refine sy_assign rfl rfl rfl ?_
  refine sy_nil rfl ?_
  refine ny_next ?_
  refine cy_seq ?_
  refine cy_frz 0 rfl (by simp) (fun hbx0 hlebx hbx => ?_)
  replace ht := ht.le hlebx
  replace hh := hh.le hlebx
  replace hq := hq.le hlebx
  replace hG := hG.le hlebx
  refine cy_regionA mixedA ?_
  refine zy_q 0 rfl (by kernel_rfl) (fun hB2_0 => ?_)
  refine sy_field fld_24_0 rfl rfl rfl ?_
  refine sy_nil1 (ny_zq hB2_0 ?_)
  refine zy_q 1 rfl (by kernel_rfl) (fun hB2_1 => ?_)
  refine sy_ldh one_3 rfl (Hp.blk hbx 0 _ rfl) rfl rfl ?_
  refine sy_nil1 (ny_zq hB2_1 ?_)
  refine zy_q 2 rfl (by kernel_rfl) (fun hB2_2 => ?_)
  refine sy_ldah (vs := [.int .i64 (k : Int), .slice A l c]) agg_24 rfl rfl (Hp.blk hbx) rfl rfl ?_
  refine sy_nil1 (ny_zq hB2_2 ?_)
  refine zy_1 3 (by kernel_rfl) ?_
  refine zop_run rfl rfl (fun hB2_3 => ?_)
  refine sy_call rfl call_19 rfl (gfew_c (k : Int) A l c L _ hlc hL) rfl rfl ?_
  refine sy_nil rfl (ny_zy hB2_3 (Hp.Le.refl _) ?_)
  refine zy_1 4 (by kernel_rfl) ?_
  refine zop_run rfl rfl (fun hB2_4 => ?_)
  refine sy_callx call_18 rfl (newGood_c k A _ c q _ hF hq hql (by omega)) rfl rfl (fun x27 h27 hx27 hle27 => ?_)
  have ht := ht.le hle27
  have hh := hh.le hle27
  have hG := hG.le hle27
  have hbx := hle27 _ _ hbx
  have hq := hq.le hle27
  revert hx27
  revert x27
  intro g hg
  refine sy_nil rfl (ny_zy hB2_4 hle27 ?_)
  refine zy_q 5 rfl (by kernel_rfl) (fun hB2_5 => ?_)
  refine sy_move rfl rfl rfl ?_
  refine sy_nil1 (ny_zq hB2_5 ?_)
  refine zy_q 6 rfl (by kernel_rfl) (fun hB2_6 => ?_)
  refine sy_extract rfl rfl rfl rfl ?_
  refine sy_nil1 (ny_zq hB2_6 ?_)
  refine zy_q 7 rfl (by kernel_rfl) (fun hB2_7 => ?_)
  refine sy_extract rfl rfl rfl rfl ?_
  refine sy_nil1 (ny_zq hB2_7 ?_)
  refine zy_q 8 rfl (by kernel_rfl) (fun hB2_8 => ?_)
  refine sy_assign rfl rfl rfl ?_
  refine sy_nil1 (ny_zq hB2_8 ?_)
  refine zy_q 9 rfl (by kernel_rfl) (fun hB2_9 => ?_)
  refine sy_assign rfl rfl rfl ?_
  refine sy_nil1 (ny_zq hB2_9 ?_)
  refine zy_done (by kernel_rfl) ?_
  refine ny_next ?_
  refine cy_cut (ι := Hp × Option Addr × Nat × Nat) [1, 2, 3, 4, 5, 11, 12] rfl (fun v => h27.Le v.1 ∧ RefT v.1 v.2.1 k (tw q k)) (fun v => [(14, .pointer (some ⟨v.2.2.2, 0, none⟩)), (15, .int .i64 0)]) (fun v => v.1) (fun v => [.blk v.2.2.2 (.cells [.slice v.2.1 k v.2.2.1].toArray 52 (0, 0))]) ?_ ?_
  · refine cy_regionA mixedA ?_
    refine zy_q 0 rfl (by kernel_rfl) (fun hB3_0 => ?_)
    refine sy_field fld_24_0 rfl rfl rfl ?_
    refine sy_nil1 (ny_zq hB3_0 ?_)
    refine zy_q 1 rfl (by kernel_rfl) (fun hB3_1 => ?_)
    refine sy_ldh one_3 rfl (Hp.blk hbx 0 _ rfl) rfl rfl ?_
    refine sy_nil1 (ny_zq hB3_1 ?_)
    refine zy_q 2 rfl (by kernel_rfl) (fun hB3_2 => ?_)
    refine sy_ldah (vs := [.int .i64 (k : Int), .slice A l c]) agg_24 rfl rfl (Hp.blk hbx) rfl rfl ?_
    refine sy_nil1 (ny_zq hB3_2 ?_)
    refine zy_2 3 8 (by kernel_rfl) ?_ ?_
    · refine zop_run rfl rfl (fun hB3_3 => ?_)
      refine sy_call rfl call_19 rfl (gfew_c (k : Int) A l c L _ hlc hL) rfl rfl ?_
      refine sy_nil rfl (ny_zy hB3_3 (Hp.Le.refl _) ?_)
      refine zy_2 4 8 (by kernel_rfl) ?_ ?_
      · refine zop_run rfl rfl (fun hB3_4 => ?_)
        refine sy_callx call_30 rfl (rNewGood_c k A _ c q _ hF hq hql (by omega)) rfl rfl (fun x35 h35 hx35 hle35 => ?_)
        have ht := ht.le hle35
        have hh := hh.le hle35
        have hG := hG.le hle35
        have hbx := hle35 _ _ hbx
        have hq := hq.le hle35
        have hg := hle35 _ _ hg
        refine sy_nil rfl (ny_zy hB3_4 hle35 ?_)
        refine zy_q 5 rfl (by kernel_rfl) (fun hB3_5 => ?_)
        refine sy_move rfl rfl rfl ?_
        refine sy_nil1 (ny_zq hB3_5 ?_)
        refine zy_q 6 rfl (by kernel_rfl) (fun hB3_6 => ?_)
        refine sy_extract rfl rfl rfl rfl ?_
        refine sy_nil1 (ny_zq hB3_6 ?_)
        refine zy_q 7 rfl (by kernel_rfl) (fun hB3_7 => ?_)
        refine sy_extract rfl rfl rfl rfl ?_
        refine sy_nil1 (ny_zq hB3_7 ?_)
        refine zy_1 8 (by kernel_rfl) ?_
        refine zop_run rfl rfl (fun hB3_8 => ?_)
        refine sy_alloc zer_52 rfl rfl (fun b14 hb14 hM14 => ?_) (by simp)
        refine sy_nil rfl (ny_zy hB3_8 (Hp.Le.refl _) ?_)
        refine zy_1 9 (by kernel_rfl) ?_
        refine zop_run rfl rfl (fun hB3_9 => ?_)
        first | refine sy_stl 0 sz_52 rfl rfl rfl rfl rfl rfl rfl rfl ?_ | refine sy_stl 1 sz_52 rfl rfl rfl rfl rfl rfl rfl rfl ?_ | refine sy_stl 2 sz_52 rfl rfl rfl rfl rfl rfl rfl rfl ?_
        refine sy_nil rfl (ny_zy hB3_9 (Hp.Le.refl _) ?_)
        refine zy_q 10 rfl (by kernel_rfl) (fun hB3_10 => ?_)
        refine sy_assign rfl rfl rfl ?_
        refine sy_nil1 (ny_zq hB3_10 ?_)
        refine zy_done (by kernel_rfl) ?_
        refine ny_cut [1, 2, 3, 4, 5, 11, 12] (h35, x35.1, x35.2, b14) [0] ⟨hle35, hx35⟩ rfl ⟨rfl, rfl, trivial⟩ rfl rfl
      · refine zop_run rfl rfl (fun hB3_8 => ?_)
        refine sy_alloc zer_52 rfl rfl (fun b14 hb14 hM14 => ?_) (by simp)
        refine sy_nil rfl (ny_zy hB3_8 (Hp.Le.refl _) ?_)
        refine zy_1 4 (by kernel_rfl) ?_
        refine zop_run rfl rfl (fun hB3_4 => ?_)
        refine sy_callx call_30 rfl (rNewGood_c k A _ c q _ hF hq hql (by omega)) rfl rfl (fun x35 h35 hx35 hle35 => ?_)
        have ht := ht.le hle35
        have hh := hh.le hle35
        have hG := hG.le hle35
        have hbx := hle35 _ _ hbx
        have hq := hq.le hle35
        have hg := hle35 _ _ hg
        refine sy_nil rfl (ny_zy hB3_4 hle35 ?_)
        refine zy_q 5 rfl (by kernel_rfl) (fun hB3_5 => ?_)
        refine sy_move rfl rfl rfl ?_
        refine sy_nil1 (ny_zq hB3_5 ?_)
        refine zy_q 6 rfl (by kernel_rfl) (fun hB3_6 => ?_)
        refine sy_extract rfl rfl rfl rfl ?_
        refine sy_nil1 (ny_zq hB3_6 ?_)
        refine zy_q 7 rfl (by kernel_rfl) (fun hB3_7 => ?_)
        refine sy_extract rfl rfl rfl rfl ?_
        refine sy_nil1 (ny_zq hB3_7 ?_)
        refine zy_1 9 (by kernel_rfl) ?_
        refine zop_run rfl rfl (fun hB3_9 => ?_)
        first | refine sy_stl 0 sz_52 rfl rfl rfl rfl rfl rfl rfl rfl ?_ | refine sy_stl 1 sz_52 rfl rfl rfl rfl rfl rfl rfl rfl ?_ | refine sy_stl 2 sz_52 rfl rfl rfl rfl rfl rfl rfl rfl ?_
        refine sy_nil rfl (ny_zy hB3_9 (Hp.Le.refl _) ?_)
        refine zy_q 10 rfl (by kernel_rfl) (fun hB3_10 => ?_)
        refine sy_assign rfl rfl rfl ?_
        refine sy_nil1 (ny_zq hB3_10 ?_)
        refine zy_done (by kernel_rfl) ?_
        refine ny_cut [1, 2, 3, 4, 5, 11, 12] (h35, x35.1, x35.2, b14) [0] ⟨hle35, hx35⟩ rfl ⟨rfl, rfl, trivial⟩ rfl rfl
    · refine zop_run rfl rfl (fun hB3_8 => ?_)
      refine sy_alloc zer_52 rfl rfl (fun b14 hb14 hM14 => ?_) (by simp)
      refine sy_nil rfl (ny_zy hB3_8 (Hp.Le.refl _) ?_)
      refine zy_1 3 (by kernel_rfl) ?_
      refine zop_run rfl rfl (fun hB3_3 => ?_)
      refine sy_call rfl call_19 rfl (gfew_c (k : Int) A l c L _ hlc hL) rfl rfl ?_
      refine sy_nil rfl (ny_zy hB3_3 (Hp.Le.refl _) ?_)
      refine zy_1 4 (by kernel_rfl) ?_
      refine zop_run rfl rfl (fun hB3_4 => ?_)
      refine sy_callx call_30 rfl (rNewGood_c k A _ c q _ hF hq hql (by omega)) rfl rfl (fun x35 h35 hx35 hle35 => ?_)
      have ht := ht.le hle35
      have hh := hh.le hle35
      have hG := hG.le hle35
      have hbx := hle35 _ _ hbx
      have hq := hq.le hle35
      have hg := hle35 _ _ hg
      refine sy_nil rfl (ny_zy hB3_4 hle35 ?_)
      refine zy_q 5 rfl (by kernel_rfl) (fun hB3_5 => ?_)
      refine sy_move rfl rfl rfl ?_
      refine sy_nil1 (ny_zq hB3_5 ?_)
      refine zy_q 6 rfl (by kernel_rfl) (fun hB3_6 => ?_)
      refine sy_extract rfl rfl rfl rfl ?_
      refine sy_nil1 (ny_zq hB3_6 ?_)
      refine zy_q 7 rfl (by kernel_rfl) (fun hB3_7 => ?_)
      refine sy_extract rfl rfl rfl rfl ?_
      refine sy_nil1 (ny_zq hB3_7 ?_)
      refine zy_1 9 (by kernel_rfl) ?_
      refine zop_run rfl rfl (fun hB3_9 => ?_)
      first | refine sy_stl 0 sz_52 rfl rfl rfl rfl rfl rfl rfl rfl ?_ | refine sy_stl 1 sz_52 rfl rfl rfl rfl rfl rfl rfl rfl ?_ | refine sy_stl 2 sz_52 rfl rfl rfl rfl rfl rfl rfl rfl ?_
      refine sy_nil rfl (ny_zy hB3_9 (Hp.Le.refl _) ?_)
      refine zy_q 10 rfl (by kernel_rfl) (fun hB3_10 => ?_)
      refine sy_assign rfl rfl rfl ?_
      refine sy_nil1 (ny_zq hB3_10 ?_)
      refine zy_done (by kernel_rfl) ?_
      refine ny_cut [1, 2, 3, 4, 5, 11, 12] (h35, x35.1, x35.2, b14) [0] ⟨hle35, hx35⟩ rfl ⟨rfl, rfl, trivial⟩ rfl rfl
  · rintro ⟨h35, A5, c5, b14⟩ ⟨hle35, hT5⟩
    simp only at hle35 hT5 ⊢
    replace ht := ht.le hle35
    replace hh := hh.le hle35
    replace hq := hq.le hle35
    replace hG := hG.le hle35
    replace hg := hle35 _ _ hg
    replace hbx := hle35 _ _ hbx
    refine cy_frz 0 rfl (by simp) (fun h14 hle14 hb14 => ?_)
    replace ht := ht.le hle14
    replace hh := hh.le hle14
    replace hq := hq.le hle14
    replace hG := hG.le hle14
    replace hg := hle14 _ _ hg
    replace hbx := hle14 _ _ hbx
    replace hT5 := hT5.le hle14
    refine cy_seq ?_
    refine cy_region ?_
    refine sy_move rfl rfl rfl ?_
    refine sy_move rfl rfl rfl ?_
    refine sy_callx call_20 rfl (gnewBad_c g k (ru k q) _ hg hk1 hk2 (ru_lt hk2 q) AG lG cG gs hG hlG hcG hBG ht hokG h0) rfl rfl (fun x41 h41 hx41 hle41 => ?_)
    have ht := ht.le hle41
    have hh := hh.le hle41
    have hG := hG.le hle41
    have hbx := hle41 _ _ hbx
    have hq := hq.le hle41
    have hg := hle41 _ _ hg
    have hT5 := hT5.le hle41
    have hb14 := hle41 _ _ hb14
    skip
    refine sy_move rfl rfl rfl ?_
    refine sy_extract rfl rfl rfl rfl ?_
    refine sy_extract rfl rfl rfl rfl ?_
    refine sy_assign rfl rfl rfl ?_
    refine sy_assign rfl rfl rfl ?_
    refine sy_nil rfl ?_
    refine ny_next ?_
    refine cy_seq ?_
    refine cy_seq ?_
    refine cy_region ?_
    refine sy_move rfl rfl rfl ?_
    refine sy_cmp rfl rfl rfl rfl rfl ?_
    refine sy_setF (d := 45) rfl rfl rfl ?_
    refine sy_nil rfl ?_
    refine ny_next ?_
    refine cy_condF rfl ?_
    refine cy_skip ?_
    refine ny_next ?_
    refine cy_seq ?_
    refine cy_region ?_
    refine sy_ldah (vs := [.slice A5 k c5]) agg_52 rfl rfl (Hp.blk hb14) rfl rfl ?_
    refine sy_move rfl rfl rfl ?_
    refine sy_call rfl call_31 rfl (rnewg_c A5 k c5 q _ hT5 hin AG lG cG gs hG hlG hcG hBG hokG) rfl rfl ?_
    refine sy_assign rfl rfl rfl ?_
    refine sy_nil rfl ?_
    refine ny_next ?_
    refine cy_seq ?_
    refine cy_seq ?_
    refine cy_region ?_
    refine sy_move rfl rfl rfl ?_
    refine sy_call rfl call_29 rfl (codeR_c _ _ _ hh) rfl rfl ?_
    refine sy_move rfl rfl rfl ?_
    refine sy_cmp rfl rfl rfl rfl rfl ?_
    refine sy_setF (d := 76) rfl rfl (by simp) ?_
    refine sy_move rfl rfl rfl ?_
    refine sy_move rfl rfl rfl ?_
    refine sy_eqp Tryd.underlying32 rfl rfl rfl rfl rfl ?_
    refine sy_setT (d := 79) rfl rfl rfl ?_
    refine sy_move rfl rfl rfl ?_
    refine sy_cmp rfl rfl rfl rfl rfl ?_
    refine sy_setT (d := 81) rfl rfl (by simpa using h0) ?_
    refine sy_neb Tryd.underlying4 rfl rfl rfl rfl ?_
    refine sy_setF (d := 82) rfl rfl rfl ?_
    refine sy_pickF rfl rfl rfl rfl ?_
    refine sy_nil rfl ?_
    refine ny_next ?_
    refine cy_condF rfl ?_
    refine cy_skip ?_
    refine ny_next ?_
    refine cy_seq ?_
    refine cy_seq ?_
    refine cy_region ?_
    refine sy_move rfl rfl rfl ?_
    refine sy_eqp Tryd.underlying32 rfl rfl rfl rfl rfl ?_
    refine sy_setT (d := 85) rfl rfl rfl ?_
    refine sy_nil rfl ?_
    refine ny_next ?_
    refine cy_condT rfl ?_
    refine cy_seq ?_
    refine cy_region ?_
    refine sy_move rfl rfl rfl ?_
    refine sy_assign rfl rfl rfl ?_
    refine sy_nil rfl ?_
    refine ny_next ?_
    refine cy_ret ?_
    refine ny_thenR ?_
    exact ny_finR (res1 rfl rfl) (fun w hs => ⟨rfl, hs.frm⟩)
set_option maxRecDepth 100000 in
theorem tables_good (k : Nat) (o : ByteArray) (x y : Int)  (A : Option Addr) (l c L : Nat) (q : List (Int × Int)) (h : Hp) (hlc : l ≤ c) (hL : L = min l 60) (hq : PairsAt h A q) (hql : q.length = L) (AG : Option Addr) (lG cG : Nat) (gs : List Gr) (hG : RowsAt h AG 3 (gs.map grC)) (hlG : gs.length = lG) (hcG : lG ≤ cG) (hBG : lG * 32 ≤ 140737488351232) (hokG : ∀ g, g ∈ gs → g.s.size ≤ 140737488355328) (ht : Tab10 h) (hh : Hdl h) (hF : Fine (k : Int) q) (h0 : newI k (ru k q) gs = 0) : C0 Tryd.prog 9 [.agg #[.int .i64 (k : Int), .slice A l c], .slice AG lG cG, .string o, .int .i64 x, .int .i64 y] h (.bool true) := by
  have hk1 : 1 ≤ k := by have := hF.1; omega
  have hk2 : k ≤ 16 := by have := hF.2.1; omega
  have hin : InR k q := hF.2.2.1
  have hl100 : gs.length ≤ 100 := by have := (newI_zero.1 h0).1; omega
  refine enter0 Tryd.func9 rfl rfl rfl (fun w => ?_)
  refine cy_seq ?_
  refine cy_region ?_
  refine sy_box rfl rfl rfl rfl (fun b5 hb5 hM5 => ?_) (by simp)
  refine sy_assign rfl rfl rfl ?_
  refine sy_nil rfl ?_
  refine ny_next ?_
  refine cy_seq ?_
  refine cy_region ?_
  refine sy_call rfl call_17 rfl (shown02_c _ ht) rfl rfl ?_
  refine sy_assign rfl rfl rfl ?_
  refine sy_nil rfl ?_
  refine ny_next ?_
  refine cy_seq ?_
  refine cy_frz 0 rfl (by simp) (fun hbx0 hlebx hbx => ?_)
  replace ht := ht.le hlebx
  replace hh := hh.le hlebx
  replace hq := hq.le hlebx
  replace hG := hG.le hlebx
  refine cy_regionA mixedA ?_
  refine zy_q 0 rfl (by kernel_rfl) (fun hB2_0 => ?_)
  refine sy_field fld_24_0 rfl rfl rfl ?_
  refine sy_nil1 (ny_zq hB2_0 ?_)
  refine zy_q 1 rfl (by kernel_rfl) (fun hB2_1 => ?_)
  refine sy_ldh one_3 rfl (Hp.blk hbx 0 _ rfl) rfl rfl ?_
  refine sy_nil1 (ny_zq hB2_1 ?_)
  refine zy_q 2 rfl (by kernel_rfl) (fun hB2_2 => ?_)
  refine sy_ldah (vs := [.int .i64 (k : Int), .slice A l c]) agg_24 rfl rfl (Hp.blk hbx) rfl rfl ?_
  refine sy_nil1 (ny_zq hB2_2 ?_)
  refine zy_1 3 (by kernel_rfl) ?_
  refine zop_run rfl rfl (fun hB2_3 => ?_)
  refine sy_call rfl call_19 rfl (gfew_c (k : Int) A l c L _ hlc hL) rfl rfl ?_
  refine sy_nil rfl (ny_zy hB2_3 (Hp.Le.refl _) ?_)
  refine zy_1 4 (by kernel_rfl) ?_
  refine zop_run rfl rfl (fun hB2_4 => ?_)
  refine sy_callx call_18 rfl (newGood_c k A _ c q _ hF hq hql (by omega)) rfl rfl (fun x27 h27 hx27 hle27 => ?_)
  have ht := ht.le hle27
  have hh := hh.le hle27
  have hG := hG.le hle27
  have hbx := hle27 _ _ hbx
  have hq := hq.le hle27
  revert hx27
  revert x27
  intro g hg
  refine sy_nil rfl (ny_zy hB2_4 hle27 ?_)
  refine zy_q 5 rfl (by kernel_rfl) (fun hB2_5 => ?_)
  refine sy_move rfl rfl rfl ?_
  refine sy_nil1 (ny_zq hB2_5 ?_)
  refine zy_q 6 rfl (by kernel_rfl) (fun hB2_6 => ?_)
  refine sy_extract rfl rfl rfl rfl ?_
  refine sy_nil1 (ny_zq hB2_6 ?_)
  refine zy_q 7 rfl (by kernel_rfl) (fun hB2_7 => ?_)
  refine sy_extract rfl rfl rfl rfl ?_
  refine sy_nil1 (ny_zq hB2_7 ?_)
  refine zy_q 8 rfl (by kernel_rfl) (fun hB2_8 => ?_)
  refine sy_assign rfl rfl rfl ?_
  refine sy_nil1 (ny_zq hB2_8 ?_)
  refine zy_q 9 rfl (by kernel_rfl) (fun hB2_9 => ?_)
  refine sy_assign rfl rfl rfl ?_
  refine sy_nil1 (ny_zq hB2_9 ?_)
  refine zy_done (by kernel_rfl) ?_
  refine ny_next ?_
  refine cy_cut (ι := Hp × Option Addr × Nat × Nat) [1, 2, 3, 4, 5, 11, 12] rfl (fun v => h27.Le v.1 ∧ RefT v.1 v.2.1 k (tw q k)) (fun v => [(14, .pointer (some ⟨v.2.2.2, 0, none⟩)), (15, .int .i64 0)]) (fun v => v.1) (fun v => [.blk v.2.2.2 (.cells [.slice v.2.1 k v.2.2.1].toArray 52 (0, 0))]) ?_ ?_
  · refine cy_regionA mixedA ?_
    refine zy_q 0 rfl (by kernel_rfl) (fun hB3_0 => ?_)
    refine sy_field fld_24_0 rfl rfl rfl ?_
    refine sy_nil1 (ny_zq hB3_0 ?_)
    refine zy_q 1 rfl (by kernel_rfl) (fun hB3_1 => ?_)
    refine sy_ldh one_3 rfl (Hp.blk hbx 0 _ rfl) rfl rfl ?_
    refine sy_nil1 (ny_zq hB3_1 ?_)
    refine zy_q 2 rfl (by kernel_rfl) (fun hB3_2 => ?_)
    refine sy_ldah (vs := [.int .i64 (k : Int), .slice A l c]) agg_24 rfl rfl (Hp.blk hbx) rfl rfl ?_
    refine sy_nil1 (ny_zq hB3_2 ?_)
    refine zy_2 3 8 (by kernel_rfl) ?_ ?_
    · refine zop_run rfl rfl (fun hB3_3 => ?_)
      refine sy_call rfl call_19 rfl (gfew_c (k : Int) A l c L _ hlc hL) rfl rfl ?_
      refine sy_nil rfl (ny_zy hB3_3 (Hp.Le.refl _) ?_)
      refine zy_2 4 8 (by kernel_rfl) ?_ ?_
      · refine zop_run rfl rfl (fun hB3_4 => ?_)
        refine sy_callx call_30 rfl (rNewGood_c k A _ c q _ hF hq hql (by omega)) rfl rfl (fun x35 h35 hx35 hle35 => ?_)
        have ht := ht.le hle35
        have hh := hh.le hle35
        have hG := hG.le hle35
        have hbx := hle35 _ _ hbx
        have hq := hq.le hle35
        have hg := hle35 _ _ hg
        refine sy_nil rfl (ny_zy hB3_4 hle35 ?_)
        refine zy_q 5 rfl (by kernel_rfl) (fun hB3_5 => ?_)
        refine sy_move rfl rfl rfl ?_
        refine sy_nil1 (ny_zq hB3_5 ?_)
        refine zy_q 6 rfl (by kernel_rfl) (fun hB3_6 => ?_)
        refine sy_extract rfl rfl rfl rfl ?_
        refine sy_nil1 (ny_zq hB3_6 ?_)
        refine zy_q 7 rfl (by kernel_rfl) (fun hB3_7 => ?_)
        refine sy_extract rfl rfl rfl rfl ?_
        refine sy_nil1 (ny_zq hB3_7 ?_)
        refine zy_1 8 (by kernel_rfl) ?_
        refine zop_run rfl rfl (fun hB3_8 => ?_)
        refine sy_alloc zer_52 rfl rfl (fun b14 hb14 hM14 => ?_) (by simp)
        refine sy_nil rfl (ny_zy hB3_8 (Hp.Le.refl _) ?_)
        refine zy_1 9 (by kernel_rfl) ?_
        refine zop_run rfl rfl (fun hB3_9 => ?_)
        first | refine sy_stl 0 sz_52 rfl rfl rfl rfl rfl rfl rfl rfl ?_ | refine sy_stl 1 sz_52 rfl rfl rfl rfl rfl rfl rfl rfl ?_ | refine sy_stl 2 sz_52 rfl rfl rfl rfl rfl rfl rfl rfl ?_
        refine sy_nil rfl (ny_zy hB3_9 (Hp.Le.refl _) ?_)
        refine zy_q 10 rfl (by kernel_rfl) (fun hB3_10 => ?_)
        refine sy_assign rfl rfl rfl ?_
        refine sy_nil1 (ny_zq hB3_10 ?_)
        refine zy_done (by kernel_rfl) ?_
        refine ny_cut [1, 2, 3, 4, 5, 11, 12] (h35, x35.1, x35.2, b14) [0] ⟨hle35, hx35⟩ rfl ⟨rfl, rfl, trivial⟩ rfl rfl
      · refine zop_run rfl rfl (fun hB3_8 => ?_)
        refine sy_alloc zer_52 rfl rfl (fun b14 hb14 hM14 => ?_) (by simp)
        refine sy_nil rfl (ny_zy hB3_8 (Hp.Le.refl _) ?_)
        refine zy_1 4 (by kernel_rfl) ?_
        refine zop_run rfl rfl (fun hB3_4 => ?_)
        refine sy_callx call_30 rfl (rNewGood_c k A _ c q _ hF hq hql (by omega)) rfl rfl (fun x35 h35 hx35 hle35 => ?_)
        have ht := ht.le hle35
        have hh := hh.le hle35
        have hG := hG.le hle35
        have hbx := hle35 _ _ hbx
        have hq := hq.le hle35
        have hg := hle35 _ _ hg
        refine sy_nil rfl (ny_zy hB3_4 hle35 ?_)
        refine zy_q 5 rfl (by kernel_rfl) (fun hB3_5 => ?_)
        refine sy_move rfl rfl rfl ?_
        refine sy_nil1 (ny_zq hB3_5 ?_)
        refine zy_q 6 rfl (by kernel_rfl) (fun hB3_6 => ?_)
        refine sy_extract rfl rfl rfl rfl ?_
        refine sy_nil1 (ny_zq hB3_6 ?_)
        refine zy_q 7 rfl (by kernel_rfl) (fun hB3_7 => ?_)
        refine sy_extract rfl rfl rfl rfl ?_
        refine sy_nil1 (ny_zq hB3_7 ?_)
        refine zy_1 9 (by kernel_rfl) ?_
        refine zop_run rfl rfl (fun hB3_9 => ?_)
        first | refine sy_stl 0 sz_52 rfl rfl rfl rfl rfl rfl rfl rfl ?_ | refine sy_stl 1 sz_52 rfl rfl rfl rfl rfl rfl rfl rfl ?_ | refine sy_stl 2 sz_52 rfl rfl rfl rfl rfl rfl rfl rfl ?_
        refine sy_nil rfl (ny_zy hB3_9 (Hp.Le.refl _) ?_)
        refine zy_q 10 rfl (by kernel_rfl) (fun hB3_10 => ?_)
        refine sy_assign rfl rfl rfl ?_
        refine sy_nil1 (ny_zq hB3_10 ?_)
        refine zy_done (by kernel_rfl) ?_
        refine ny_cut [1, 2, 3, 4, 5, 11, 12] (h35, x35.1, x35.2, b14) [0] ⟨hle35, hx35⟩ rfl ⟨rfl, rfl, trivial⟩ rfl rfl
    · refine zop_run rfl rfl (fun hB3_8 => ?_)
      refine sy_alloc zer_52 rfl rfl (fun b14 hb14 hM14 => ?_) (by simp)
      refine sy_nil rfl (ny_zy hB3_8 (Hp.Le.refl _) ?_)
      refine zy_1 3 (by kernel_rfl) ?_
      refine zop_run rfl rfl (fun hB3_3 => ?_)
      refine sy_call rfl call_19 rfl (gfew_c (k : Int) A l c L _ hlc hL) rfl rfl ?_
      refine sy_nil rfl (ny_zy hB3_3 (Hp.Le.refl _) ?_)
      refine zy_1 4 (by kernel_rfl) ?_
      refine zop_run rfl rfl (fun hB3_4 => ?_)
      refine sy_callx call_30 rfl (rNewGood_c k A _ c q _ hF hq hql (by omega)) rfl rfl (fun x35 h35 hx35 hle35 => ?_)
      have ht := ht.le hle35
      have hh := hh.le hle35
      have hG := hG.le hle35
      have hbx := hle35 _ _ hbx
      have hq := hq.le hle35
      have hg := hle35 _ _ hg
      refine sy_nil rfl (ny_zy hB3_4 hle35 ?_)
      refine zy_q 5 rfl (by kernel_rfl) (fun hB3_5 => ?_)
      refine sy_move rfl rfl rfl ?_
      refine sy_nil1 (ny_zq hB3_5 ?_)
      refine zy_q 6 rfl (by kernel_rfl) (fun hB3_6 => ?_)
      refine sy_extract rfl rfl rfl rfl ?_
      refine sy_nil1 (ny_zq hB3_6 ?_)
      refine zy_q 7 rfl (by kernel_rfl) (fun hB3_7 => ?_)
      refine sy_extract rfl rfl rfl rfl ?_
      refine sy_nil1 (ny_zq hB3_7 ?_)
      refine zy_1 9 (by kernel_rfl) ?_
      refine zop_run rfl rfl (fun hB3_9 => ?_)
      first | refine sy_stl 0 sz_52 rfl rfl rfl rfl rfl rfl rfl rfl ?_ | refine sy_stl 1 sz_52 rfl rfl rfl rfl rfl rfl rfl rfl ?_ | refine sy_stl 2 sz_52 rfl rfl rfl rfl rfl rfl rfl rfl ?_
      refine sy_nil rfl (ny_zy hB3_9 (Hp.Le.refl _) ?_)
      refine zy_q 10 rfl (by kernel_rfl) (fun hB3_10 => ?_)
      refine sy_assign rfl rfl rfl ?_
      refine sy_nil1 (ny_zq hB3_10 ?_)
      refine zy_done (by kernel_rfl) ?_
      refine ny_cut [1, 2, 3, 4, 5, 11, 12] (h35, x35.1, x35.2, b14) [0] ⟨hle35, hx35⟩ rfl ⟨rfl, rfl, trivial⟩ rfl rfl
  · rintro ⟨h35, A5, c5, b14⟩ ⟨hle35, hT5⟩
    simp only at hle35 hT5 ⊢
    replace ht := ht.le hle35
    replace hh := hh.le hle35
    replace hq := hq.le hle35
    replace hG := hG.le hle35
    replace hg := hle35 _ _ hg
    replace hbx := hle35 _ _ hbx
    refine cy_frz 0 rfl (by simp) (fun h14 hle14 hb14 => ?_)
    replace ht := ht.le hle14
    replace hh := hh.le hle14
    replace hq := hq.le hle14
    replace hG := hG.le hle14
    replace hg := hle14 _ _ hg
    replace hbx := hle14 _ _ hbx
    replace hT5 := hT5.le hle14
    refine cy_seq ?_
    refine cy_region ?_
    refine sy_move rfl rfl rfl ?_
    refine sy_move rfl rfl rfl ?_
    refine sy_callx call_20 rfl (gnewGood_c g k (ru k q) _ hg hk1 hk2 (ru_lt hk2 q) AG lG cG gs hG hlG hcG hBG ht hokG h0) rfl rfl (fun x41 h41 hx41 hle41 => ?_)
    have ht := ht.le hle41
    have hh := hh.le hle41
    have hG := hG.le hle41
    have hbx := hle41 _ _ hbx
    have hq := hq.le hle41
    have hg := hle41 _ _ hg
    have hT5 := hT5.le hle41
    have hb14 := hle41 _ _ hb14
    revert hx41
    revert x41
    intro tb41 hT41
    refine sy_move rfl rfl rfl ?_
    refine sy_extract rfl rfl rfl rfl ?_
    refine sy_extract rfl rfl rfl rfl ?_
    refine sy_assign rfl rfl rfl ?_
    refine sy_assign rfl rfl rfl ?_
    refine sy_nil rfl ?_
    refine ny_next ?_
    refine cy_seq ?_
    refine cy_seq ?_
    refine cy_region ?_
    refine sy_move rfl rfl rfl ?_
    refine sy_cmp rfl rfl rfl rfl rfl ?_
    refine sy_setF (d := 45) rfl rfl rfl ?_
    refine sy_nil rfl ?_
    refine ny_next ?_
    refine cy_condF rfl ?_
    refine cy_skip ?_
    refine ny_next ?_
    refine cy_seq ?_
    refine cy_region ?_
    refine sy_ldah (vs := [.slice A5 k c5]) agg_52 rfl rfl (Hp.blk hb14) rfl rfl ?_
    refine sy_move rfl rfl rfl ?_
    refine sy_call rfl call_31 rfl (rnewg_c A5 k c5 q _ hT5 hin AG lG cG gs hG hlG hcG hBG hokG) rfl rfl ?_
    refine sy_assign rfl rfl rfl ?_
    refine sy_nil rfl ?_
    refine ny_next ?_
    refine cy_seq ?_
    refine cy_seq ?_
    refine cy_region ?_
    refine sy_move rfl rfl rfl ?_
    refine sy_call rfl call_29 rfl (codeN_c _) rfl rfl ?_
    refine sy_move rfl rfl rfl ?_
    refine sy_cmp rfl rfl rfl rfl rfl ?_
    refine sy_setF (d := 76) rfl rfl (by rw [h0]; rfl) ?_
    refine sy_move rfl rfl rfl ?_
    refine sy_move rfl rfl rfl ?_
    refine sy_eqp Tryd.underlying32 rfl rfl rfl rfl rfl ?_
    refine sy_setF (d := 79) rfl rfl rfl ?_
    refine sy_move rfl rfl rfl ?_
    refine sy_cmp rfl rfl rfl rfl rfl ?_
    refine sy_setF (d := 81) rfl rfl (by rw [h0]; rfl) ?_
    refine sy_neb Tryd.underlying4 rfl rfl rfl rfl ?_
    refine sy_setF (d := 82) rfl rfl rfl ?_
    refine sy_pickF rfl rfl rfl rfl ?_
    refine sy_nil rfl ?_
    refine ny_next ?_
    refine cy_condF rfl ?_
    refine cy_skip ?_
    refine ny_next ?_
    refine cy_seq ?_
    refine cy_seq ?_
    refine cy_region ?_
    refine sy_move rfl rfl rfl ?_
    refine sy_eqp Tryd.underlying32 rfl rfl rfl rfl rfl ?_
    refine sy_setF (d := 85) rfl rfl rfl ?_
    refine sy_nil rfl ?_
    refine ny_next ?_
    refine cy_condF rfl ?_
    refine cy_skip ?_
    refine ny_next ?_
    refine cy_seq ?_
    refine cy_seq ?_
    refine cy_region ?_
    refine sy_assign rfl rfl rfl ?_
    refine sy_nil rfl ?_
    refine ny_next ?_
    refine cy_block ?_
    refine cy_loopK (ι := Nat) [1, 2, 3, 4, 5, 11, 14, 16] rfl (fun i => i ≤ k + 2) (fun i => k + 2 - i) (fun i => [(19, .int .i64 ((i : Int) - 1))]) (fun i => h41) (fun i => []) 0 [] (Nat.zero_le _) ⟨rfl, trivial⟩ rfl rfl ?_
    rintro i hI
    refine cy_seq ?_
    refine cy_seq ?_
    refine cy_region ?_
    refine sy_move rfl rfl rfl ?_
    refine sy_field fld_24_0 rfl rfl rfl ?_
    refine sy_ldh one_3 rfl (Hp.blk hbx 0 _ rfl) rfl rfl ?_
    refine sy_cmp rfl rfl rfl rfl rfl ?_
    refine sy_nil rfl ?_
    refine ny_next ?_
    refine cy_cond rfl (fun hc90 => ?_) (fun hc90 => ?_)
    · have hlti : i < k + 2 := by have := of_decide_eq_true hc90; omega
      refine cy_skip ?_
      refine ny_next ?_
      refine cy_seq ?_
      refine cy_block ?_
      refine cy_seq ?_
      refine cy_seq ?_
      refine cy_region ?_
      refine sy_assign rfl rfl rfl ?_
      refine sy_nil rfl ?_
      refine ny_next ?_
      refine cy_block ?_
      refine cy_loopK (ι := Nat) [1, 2, 3, 4, 5, 11, 14, 16, 19] rfl (fun jj => jj ≤ k + 2) (fun jj => k + 2 - jj) (fun jj => [(20, .int .i64 ((jj : Int) - 1))]) (fun jj => h41) (fun jj => []) 0 [] (Nat.zero_le _) ⟨rfl, trivial⟩ rfl rfl ?_
      rintro jj hJJ
      refine cy_seq ?_
      refine cy_seq ?_
      refine cy_region ?_
      refine sy_move rfl rfl rfl ?_
      refine sy_field fld_24_0 rfl rfl rfl ?_
      refine sy_ldh one_3 rfl (Hp.blk hbx 0 _ rfl) rfl rfl ?_
      refine sy_cmp rfl rfl rfl rfl rfl ?_
      refine sy_nil rfl ?_
      refine ny_next ?_
      refine cy_cond rfl (fun hc96 => ?_) (fun hc96 => ?_)
      · have hltj : jj < k + 2 := by have := of_decide_eq_true hc96; omega
        refine cy_skip ?_
        refine ny_next ?_
        refine cy_seq ?_
        refine cy_block ?_
        refine cy_seq ?_
        refine cy_regionA mixedA ?_
        refine zy_q 0 rfl (by kernel_rfl) (fun hB18_0 => ?_)
        refine sy_move rfl rfl rfl ?_
        refine sy_nil1 (ny_zq hB18_0 ?_)
        refine zy_q 1 rfl (by kernel_rfl) (fun hB18_1 => ?_)
        refine sy_move rfl rfl rfl ?_
        refine sy_nil1 (ny_zq hB18_1 ?_)
        refine zy_q 2 rfl (by kernel_rfl) (fun hB18_2 => ?_)
        refine sy_move rfl rfl rfl ?_
        refine sy_nil1 (ny_zq hB18_2 ?_)
        refine zy_q 3 rfl (by kernel_rfl) (fun hB18_3 => ?_)
        refine sy_move rfl rfl rfl ?_
        refine sy_nil1 (ny_zq hB18_3 ?_)
        refine zy_q 5 rfl (by kernel_rfl) (fun hB18_5 => ?_)
        refine sy_ldah (vs := [.slice A5 k c5]) agg_52 rfl rfl (Hp.blk hb14) rfl rfl ?_
        refine sy_nil1 (ny_zq hB18_5 ?_)
        refine zy_q 6 rfl (by kernel_rfl) (fun hB18_6 => ?_)
        refine sy_move rfl rfl rfl ?_
        refine sy_nil1 (ny_zq hB18_6 ?_)
        refine zy_q 7 rfl (by kernel_rfl) (fun hB18_7 => ?_)
        refine sy_move rfl rfl rfl ?_
        refine sy_nil1 (ny_zq hB18_7 ?_)
        refine zy_q 8 rfl (by kernel_rfl) (fun hB18_8 => ?_)
        refine sy_move rfl rfl rfl ?_
        refine sy_nil1 (ny_zq hB18_8 ?_)
        refine zy_q 9 rfl (by kernel_rfl) (fun hB18_9 => ?_)
        refine sy_move rfl rfl rfl ?_
        refine sy_nil1 (ny_zq hB18_9 ?_)
        refine zy_1 4 (by kernel_rfl) ?_
        refine zop_run rfl rfl (fun hB18_4 => ?_)
        refine sy_call rfl call_22 rfl (gmay_c g k (ru k q) _ hg hk1 hk2 (ru_lt hk2 q) tb41 gs hT41 hl100 _ _ _) rfl rfl ?_
        refine sy_nil rfl (ny_zy hB18_4 (Hp.Le.refl _) ?_)
        refine zy_1 10 (by kernel_rfl) ?_
        refine zop_run rfl rfl (fun hB18_10 => ?_)
        refine sy_call rfl call_32 rfl (rmay_c A5 k c5 q _ hT5 hin AG lG cG gs hG hlG hcG hBG _ _ _) rfl rfl ?_
        refine sy_nil rfl (ny_zy hB18_10 (Hp.Le.refl _) ?_)
        refine zy_q 11 rfl (by kernel_rfl) (fun hB18_11 => ?_)
        refine sy_neb Tryd.underlying4 rfl rfl rfl rfl ?_
        refine sy_setF (d := 110) rfl rfl (by simp) ?_
        refine sy_nil1 (ny_zq hB18_11 ?_)
        refine zy_done (by kernel_rfl) ?_
        refine ny_next ?_
        refine cy_condF rfl ?_
        refine cy_skip ?_
        refine ny_blockN ?_
        refine ny_next ?_
        refine cy_region ?_
        refine sy_move rfl rfl rfl ?_
        refine sy_addi (z := ((jj + 1 : Nat) : Int) - 1) rfl rfl (by omega) (by omega) (by omega) rfl rfl ?_
        refine sy_assign rfl rfl rfl ?_
        refine sy_nil rfl ?_
        refine ny_roundK [1, 2, 3, 4, 5, 11, 14, 16, 19] (jj + 1) [] (show jj + 1 ≤ k + 2 by omega) (show k + 2 - (jj + 1) < k + 2 - jj by omega) rfl ⟨rfl, trivial⟩ rfl rfl
      · refine cy_exit ?_
        refine ny_thenE ?_
        refine ny_thenE ?_
        refine ny_blockX ?_
        refine ny_next ?_
        refine cy_seq ?_
        refine cy_regionA mixedA ?_
        refine zy_q 0 rfl (by kernel_rfl) (fun hB20_0 => ?_)
        refine sy_move rfl rfl rfl ?_
        refine sy_nil1 (ny_zq hB20_0 ?_)
        refine zy_q 1 rfl (by kernel_rfl) (fun hB20_1 => ?_)
        refine sy_move rfl rfl rfl ?_
        refine sy_nil1 (ny_zq hB20_1 ?_)
        refine zy_q 3 rfl (by kernel_rfl) (fun hB20_3 => ?_)
        refine sy_ldah (vs := [.slice A5 k c5]) agg_52 rfl rfl (Hp.blk hb14) rfl rfl ?_
        refine sy_nil1 (ny_zq hB20_3 ?_)
        refine zy_q 4 rfl (by kernel_rfl) (fun hB20_4 => ?_)
        refine sy_move rfl rfl rfl ?_
        refine sy_nil1 (ny_zq hB20_4 ?_)
        refine zy_q 5 rfl (by kernel_rfl) (fun hB20_5 => ?_)
        refine sy_move rfl rfl rfl ?_
        refine sy_nil1 (ny_zq hB20_5 ?_)
        refine zy_1 2 (by kernel_rfl) ?_
        refine zop_run rfl rfl (fun hB20_2 => ?_)
        refine sy_call rfl call_24 rfl (gcross_c g k (ru k q) _ hg hk1 hk2 (ru_lt hk2 q) tb41 gs hT41 hl100 _) rfl rfl ?_
        refine sy_nil rfl (ny_zy hB20_2 (Hp.Le.refl _) ?_)
        refine zy_1 6 (by kernel_rfl) ?_
        refine zop_run rfl rfl (fun hB20_6 => ?_)
        refine sy_call rfl call_33 rfl (rcross_c A5 k c5 q _ hT5 hin AG lG cG gs hG hlG hcG hBG _) rfl rfl ?_
        refine sy_nil rfl (ny_zy hB20_6 (Hp.Le.refl _) ?_)
        refine zy_q 7 rfl (by kernel_rfl) (fun hB20_7 => ?_)
        refine sy_neb Tryd.underlying4 rfl rfl rfl rfl ?_
        refine sy_setF (d := 118) rfl rfl (by simp) ?_
        refine sy_nil1 (ny_zq hB20_7 ?_)
        refine zy_done (by kernel_rfl) ?_
        refine ny_next ?_
        refine cy_condF rfl ?_
        refine cy_skip ?_
        refine ny_blockN ?_
        refine ny_next ?_
        refine cy_region ?_
        refine sy_move rfl rfl rfl ?_
        refine sy_addi (z := ((i + 1 : Nat) : Int) - 1) rfl rfl (by omega) (by omega) (by omega) rfl rfl ?_
        refine sy_assign rfl rfl rfl ?_
        refine sy_nil rfl ?_
        refine ny_roundK [1, 2, 3, 4, 5, 11, 14, 16] (i + 1) [] (show i + 1 ≤ k + 2 by omega) (show k + 2 - (i + 1) < k + 2 - i by omega) rfl ⟨rfl, trivial⟩ rfl rfl
    · refine cy_exit ?_
      refine ny_thenE ?_
      refine ny_thenE ?_
      refine ny_blockX ?_
      refine ny_next ?_
      refine cy_seq ?_
      refine cy_regionA mixedA ?_
      refine zy_q 0 rfl (by kernel_rfl) (fun hB22_0 => ?_)
      refine sy_move rfl rfl rfl ?_
      refine sy_nil1 (ny_zq hB22_0 ?_)
      refine zy_q 1 rfl (by kernel_rfl) (fun hB22_1 => ?_)
      refine sy_move rfl rfl rfl ?_
      refine sy_nil1 (ny_zq hB22_1 ?_)
      refine zy_q 2 rfl (by kernel_rfl) (fun hB22_2 => ?_)
      refine sy_setT (d := 120) rfl rfl (by first | rfl | decide | simp) ?_
      refine sy_move rfl rfl rfl ?_
      refine sy_nil1 (ny_zq hB22_2 ?_)
      refine zy_q 3 rfl (by kernel_rfl) (fun hB22_3 => ?_)
      refine sy_move rfl rfl rfl ?_
      refine sy_nil1 (ny_zq hB22_3 ?_)
      refine zy_q 4 rfl (by kernel_rfl) (fun hB22_4 => ?_)
      refine sy_move rfl rfl rfl ?_
      refine sy_nil1 (ny_zq hB22_4 ?_)
      refine zy_q 5 rfl (by kernel_rfl) (fun hB22_5 => ?_)
      refine sy_move rfl rfl rfl ?_
      refine sy_nil1 (ny_zq hB22_5 ?_)
      refine zy_q 7 rfl (by kernel_rfl) (fun hB22_7 => ?_)
      refine sy_ldah (vs := [.slice A5 k c5]) agg_52 rfl rfl (Hp.blk hb14) rfl rfl ?_
      refine sy_nil1 (ny_zq hB22_7 ?_)
      refine zy_q 8 rfl (by kernel_rfl) (fun hB22_8 => ?_)
      refine sy_move rfl rfl rfl ?_
      refine sy_nil1 (ny_zq hB22_8 ?_)
      refine zy_q 9 rfl (by kernel_rfl) (fun hB22_9 => ?_)
      refine sy_move rfl rfl rfl ?_
      refine sy_nil1 (ny_zq hB22_9 ?_)
      refine zy_q 10 rfl (by kernel_rfl) (fun hB22_10 => ?_)
      refine sy_move rfl rfl rfl ?_
      refine sy_nil1 (ny_zq hB22_10 ?_)
      refine zy_q 11 rfl (by kernel_rfl) (fun hB22_11 => ?_)
      refine sy_move rfl rfl rfl ?_
      refine sy_nil1 (ny_zq hB22_11 ?_)
      refine zy_1 6 (by kernel_rfl) ?_
      refine zop_run rfl rfl (fun hB22_6 => ?_)
      refine sy_call rfl call_22 rfl (gmay_c g k (ru k q) _ hg hk1 hk2 (ru_lt hk2 q) tb41 gs hT41 hl100 _ _ _) rfl rfl ?_
      refine sy_nil rfl (ny_zy hB22_6 (Hp.Le.refl _) ?_)
      refine zy_1 12 (by kernel_rfl) ?_
      refine zop_run rfl rfl (fun hB22_12 => ?_)
      refine sy_call rfl call_32 rfl (rmay_c A5 k c5 q _ hT5 hin AG lG cG gs hG hlG hcG hBG _ _ _) rfl rfl ?_
      refine sy_nil rfl (ny_zy hB22_12 (Hp.Le.refl _) ?_)
      refine zy_q 13 rfl (by kernel_rfl) (fun hB22_13 => ?_)
      refine sy_eqb Tryd.underlying4 rfl rfl rfl rfl ?_
      refine sy_setT (d := 132) rfl rfl (by simp) ?_
      refine sy_nil1 (ny_zq hB22_13 ?_)
      refine zy_q 14 rfl (by kernel_rfl) (fun hB22_14 => ?_)
      refine sy_pickT rfl rfl rfl rfl ?_
      refine sy_nil1 (ny_zq hB22_14 ?_)
      refine zy_q 15 rfl (by kernel_rfl) (fun hB22_15 => ?_)
      refine sy_assign rfl rfl rfl ?_
      refine sy_nil1 (ny_zq hB22_15 ?_)
      refine zy_done (by kernel_rfl) ?_
      refine ny_next ?_
      refine cy_ret ?_
      exact ny_finR (res1 rfl rfl) (fun w hs => ⟨rfl, hs.frm⟩)
theorem tables02_c (n : Int) (o : ByteArray) (x y : Int)  (A : Option Addr) (l c L : Nat) (q : List (Int × Int)) (h : Hp) (hlc : l ≤ c) (hL : L = min l 60) (hq : PairsAt h A q) (hql : q.length = L) (AG : Option Addr) (lG cG : Nat) (gs : List Gr) (hG : RowsAt h AG 3 (gs.map grC)) (hlG : gs.length = lG) (hcG : lG ≤ cG) (hBG : lG * 32 ≤ 140737488351232) (hokG : ∀ g, g ∈ gs → g.s.size ≤ 140737488355328) (ht : Tab10 h) (hh : Hdl h) : C0 Tryd.prog 9 [.agg #[.int .i64 n, .slice A l c], .slice AG lG cG, .string o, .int .i64 x, .int .i64 y] h (.bool true) := by
  by_cases hF : Fine n q
  · obtain ⟨k, rfl⟩ := Int.eq_ofNat_of_zero_le (show 0 ≤ n by have := hF.1; omega)
    by_cases h0 : newI k (ru k q) gs = 0
    · exact tables_good k o x y A l c L q h hlc hL hq hql AG lG cG gs hG hlG hcG hBG hokG ht hh hF h0
    · exact tables_badg k o x y A l c L q h hlc hL hq hql AG lG cG gs hG hlG hcG hBG hokG ht hh hF h0
  · obtain ⟨e9, he, hb, hr⟩ := both_c n A L c q hql (by omega) hF
    exact tables_bad n o x y A l c L q h hlc hL hq hql AG lG cG ht hh e9 he hb hr
end Go.Proofs.YtamifocfbcmfkaaDoor

/- The scanner: numbers: the walk. Conditions: as each says. Printed by a program of this session. -/
import Derived.Test.YtdbeiaohibgmeaaFactsI
import Derived.Test.YtdbeiaohibgmeaaTokC
import Derived.Test.YtdbeiaohibgmeaaNumPure
set_option linter.unusedVariables false
set_option linter.unusedSimpArgs false
namespace Go.Proofs.Ytdbeiaohibgmeaa
open Go.RowKit Go.Proofs.Ytdbeiaohibgmeaa.E Go.Proofs.Ytdbeiaohibgmeaa.ReplP Go.Proofs.Ytdbeiaohibgmeaa.TokP
set_option maxRecDepth 100000 in
theorem number_c (s : ByteArray) (h : Hp) (hs : s.size ≤ 70368744177600) : C0 Try.prog 26 [.string s] h (ansV 44 (numA s.data.toList)) := by
  refine enter0 Try.func26 rfl rfl rfl (fun w => ?_)
  refine cy_seq ?_
  refine cy_region ?_
  refine sy_alloc zer_31 rfl rfl (fun b2 hb2 hM2 => ?_) (by simp)
  refine sy_assign rfl rfl rfl ?_
  refine sy_assign rfl rfl rfl ?_
  refine sy_nil rfl ?_
  refine ny_next ?_
  refine cy_seq ?_
  refine cy_region ?_
  refine sy_move rfl rfl rfl ?_
  have hrl := runB_le digitB s.data.toList
  have hsz0 : s.data.toList.length = s.size := rfl
  refine sy_call rfl call_19 rfl (row_c s 25 digitB _ (by omega) call_25 (fun c h => digit_c c h)) rfl rfl ?_
  refine sy_assign rfl rfl rfl ?_
  refine sy_nil rfl ?_
  refine ny_next ?_
  refine cy_seq ?_
  refine cy_seq ?_
  refine cy_region ?_
  refine sy_move rfl rfl rfl ?_
  refine sy_addi rfl rfl rfl (by omega) (by omega) rfl rfl ?_
  refine sy_move rfl rfl rfl ?_
  refine sy_len rfl (len_string Try.underlying9 _) rfl rfl ?_
  refine sy_cmp rfl rfl rfl rfl rfl ?_
  refine sy_move rfl rfl rfl ?_
  refine sy_cond (d := 17) _ rfl rfl (fun hg17 => ?_) (fun hg17 => ?_)
  · have hsz : s.data.toList.length = s.size := rfl
    have h17 : ((runB digitB s.data.toList) : Int) + 1 < (s.size : Int) := of_decide_eq_true hg17
    obtain ⟨e0, he0⟩ : ∃ e0, s.data.toList[(runB digitB s.data.toList)]? = some e0 := ⟨_, List.getElem?_eq_getElem (by omega)⟩
    obtain ⟨e1, he1⟩ : ∃ e1, s.data.toList[(runB digitB s.data.toList) + 1]? = some e1 := ⟨_, List.getElem?_eq_getElem (by omega)⟩
    refine sy_move rfl rfl rfl ?_
    refine sy_move rfl rfl rfl ?_
    refine sy_idxs (u := e0) Try.underlying9 rfl rfl (by omega) (ba_at he0) rfl rfl ?_
    refine sy_cmp rfl rfl rfl rfl rfl ?_
    refine sy_pickT rfl rfl rfl rfl ?_
    refine sy_move rfl rfl rfl ?_
    refine sy_cond (d := 23) _ rfl rfl (fun hg23 => ?_) (fun hg23 => ?_)
    · refine sy_move rfl rfl rfl ?_
      refine sy_move rfl rfl rfl ?_
      refine sy_addi (z := (((runB digitB s.data.toList) + 1 : Nat) : Int)) rfl rfl (by omega) (by omega) (by omega) rfl rfl ?_
      refine sy_idxs (u := e1) Try.underlying9 rfl rfl (by omega) (ba_at he1) rfl rfl ?_
      refine sy_call rfl call_25 rfl (digit_c e1 _) rfl rfl ?_
      refine sy_pickT rfl rfl rfl rfl ?_
      refine sy_nil rfl ?_
      refine ny_next ?_
      refine cy_cond rfl (fun hc29 => ?_) (fun hc29 => ?_)
      · have hdot : dottedB s.data.toList (runB digitB s.data.toList) = true := by
          have h7 : decide ((((runB digitB s.data.toList) : Nat) : Int) + 1 < (s.data.toList.length : Int)) = decide ((((runB digitB s.data.toList) : Nat) : Int) + 1 < (s.size : Int)) := rfl
          unfold dottedB
          rw [h7]
          first | (rw [hg17, he0, he1]; show ((true && ((e0.toNat : Int) == 46)) && digitB e1) = _; first | (rw [hg23, hc29]; rfl) | (rw [hg23]; rfl)) | (rw [hg17]; rfl)
        refine cy_seq ?_
        refine cy_region ?_
        refine sy_build rfl (fun w => bld_31_ w) rfl rfl ?_
        refine sy_call rfl call_13 rfl (bad_c _ _ _) rfl rfl ?_
        first | refine sy_stl 0 sz_31 rfl rfl rfl rfl rfl rfl rfl rfl ?_ | refine sy_stl 1 sz_31 rfl rfl rfl rfl rfl rfl rfl rfl ?_ | refine sy_stl 2 sz_31 rfl rfl rfl rfl rfl rfl rfl rfl ?_
        refine sy_assign rfl rfl rfl ?_
        refine sy_assign rfl rfl rfl ?_
        refine sy_nil rfl ?_
        refine ny_next ?_
        refine cy_ret ?_
        refine ny_thenR ?_
        first | refine ny_finR (rescT 0 rfl agg_31 rfl rfl rfl rfl rfl) (fun w hs2 => ⟨?_, hs2.frm⟩) | refine ny_finR (rescT 1 rfl agg_31 rfl rfl rfl rfl rfl) (fun w hs2 => ⟨?_, hs2.frm⟩) | refine ny_finR (rescT 2 rfl agg_31 rfl rfl rfl rfl rfl) (fun w hs2 => ⟨?_, hs2.frm⟩)
        unfold numA
        rw [if_pos hdot]
        rfl
      · have hdot : dottedB s.data.toList (runB digitB s.data.toList) = false := by
          have h7 : decide ((((runB digitB s.data.toList) : Nat) : Int) + 1 < (s.data.toList.length : Int)) = decide ((((runB digitB s.data.toList) : Nat) : Int) + 1 < (s.size : Int)) := rfl
          unfold dottedB
          rw [h7]
          first | (rw [hg17, he0, he1]; show ((true && ((e0.toNat : Int) == 46)) && digitB e1) = _; first | (rw [hg23, hc29]; rfl) | (rw [hg23]; rfl)) | (rw [hg17]; rfl)
        refine cy_skip ?_
        refine ny_next ?_
        refine cy_seq ?_
        refine cy_region ?_
        refine sy_assign rfl rfl rfl ?_
        refine sy_nil rfl ?_
        refine ny_next ?_
        refine cy_seq ?_
        refine cy_seq ?_
        refine cy_region ?_
        refine sy_move rfl rfl rfl ?_
        refine sy_move rfl rfl rfl ?_
        refine sy_strto Try.underlying9 rfl rfl (by omega) rfl rfl ?_
        refine sy_strbytes Try.underlying9 Try.underlying65 Try.underlying5 rfl rfl rfl (fun b35 c35 h35 hle35 hr35 => ?_) (by simp)
        rw [ext_to] at hr35
        have hfl := figs_len s.data.toList
        have hxs : (s.extract 0 (runB digitB s.data.toList)).size = (runB digitB s.data.toList) := by
          have h9 : (s.extract 0 (runB digitB s.data.toList)).size = (s.extract 0 (runB digitB s.data.toList)).data.toList.length := rfl
          rw [h9, ext_to]
          exact hfl
        rw [hxs]
        refine sy_len rfl (len_slice Try.underlying65 _ _ _) rfl rfl ?_
        refine sy_move rfl rfl rfl ?_
        refine sy_nil rfl ?_
        refine ny_next ?_
        refine cy_block ?_
        refine cy_loopK (ι := Nat) [2, 5, 35, 36] rfl (fun i => i ≤ (runB digitB s.data.toList) ∧ valN ((figs s.data.toList).take i) ≤ 9223372036854775808) (fun i => (runB digitB s.data.toList) - i) (fun i => [(6, .int .u64 ((valN ((figs s.data.toList).take i) : Nat) : Int)), (37, .int .i64 (i : Int))]) (fun i => h35) (fun i => [.blk b2 (.cells [.int .i64 0, .string ⟨#[]⟩, .int .i64 0, .bool false, .bool false].toArray 31 (0, 0))]) 0 [0] ⟨Nat.zero_le _, by simp [valN]⟩ ⟨rfl, rfl, trivial⟩ rfl rfl ?_
        rintro i ⟨hI, hpre⟩
        refine cy_seq ?_
        refine cy_region ?_
        refine sy_cmp rfl rfl rfl rfl rfl ?_
        refine sy_nil rfl ?_
        refine ny_next ?_
        refine cy_seq ?_
        refine cy_cond rfl (fun hc38 => ?_) (fun hc38 => ?_)
        · have hlti : i < (runB digitB s.data.toList) := by have := of_decide_eq_true hc38; omega
          refine cy_skip ?_
          refine ny_next ?_
          refine cy_seq ?_
          refine cy_block ?_
          refine cy_seq ?_
          refine cy_region ?_
          refine sy_idxR (fc := byteC) (es := (figs s.data.toList)) els_65 rfl rfl hr35 hfl (by omega) rfl rfl (fun e39 b39 o39 he39 hA39 hc39 => ?_)
          refine sy_ldh one_5 rfl (hc39 0 _ rfl) rfl rfl ?_
          have hdg := figs_dig he39
          refine sy_assign rfl rfl rfl ?_
          refine sy_nil rfl ?_
          refine ny_next ?_
          refine cy_seq ?_
          refine cy_region ?_
          refine sy_move rfl rfl rfl ?_
          refine sy_subK (z := ((e39.toNat - 48 : Nat) : Int)) rfl rfl (by rw [IntWalk.u8_in _ ⟨by omega, by omega⟩]; omega) rfl rfl ?_
          refine sy_convK (z := ((e39.toNat - 48 : Nat) : Int)) Try.underlying5 Try.underlying64 rfl (by rw [IntWalk.u64_in _ ⟨by omega, by omega⟩]) rfl rfl ?_
          refine sy_assign rfl rfl rfl ?_
          refine sy_nil rfl ?_
          refine ny_next ?_
          refine cy_seq ?_
          refine cy_seq ?_
          refine cy_region ?_
          refine sy_move rfl rfl rfl ?_
          refine sy_move rfl rfl rfl ?_
          refine sy_subK (z := ((9223372036854775808 - (e39.toNat - 48) : Nat) : Int)) rfl rfl (by rw [IntWalk.u64_in _ ⟨by omega, by omega⟩]; omega) rfl rfl ?_
          refine sy_quoU (z := (((9223372036854775808 - (e39.toNat - 48)) / 10 : Nat) : Int)) rfl rfl (by decide) rfl (by omega) (by omega) rfl rfl ?_
          refine sy_cmp rfl rfl rfl rfl rfl ?_
          refine sy_nil rfl ?_
          refine ny_next ?_
          refine cy_cond rfl (fun hc48 => ?_) (fun hc48 => ?_)
          · have hbig : 9223372036854775808 < valN (figs s.data.toList) := by
              have h9 := of_decide_eq_true hc48
              have h8 := valN_le (figs s.data.toList) (i + 1)
              rw [valN_succ he39] at h8
              omega
            refine cy_seq ?_
            refine cy_region ?_
            refine sy_build rfl (fun w => bld_31_ w) rfl rfl ?_
            refine sy_call rfl call_13 rfl (bad_c _ _ _) rfl rfl ?_
            first | refine sy_stl 0 sz_31 rfl rfl rfl rfl rfl rfl rfl rfl ?_ | refine sy_stl 1 sz_31 rfl rfl rfl rfl rfl rfl rfl rfl ?_ | refine sy_stl 2 sz_31 rfl rfl rfl rfl rfl rfl rfl rfl ?_
            refine sy_assign rfl rfl rfl ?_
            refine sy_assign rfl rfl rfl ?_
            refine sy_nil rfl ?_
            refine ny_next ?_
            refine cy_ret ?_
            refine ny_thenR ?_
            refine ny_blockR ?_
            refine ny_thenR ?_
            refine ny_thenR ?_
            refine ny_blockR ?_
            refine ny_thenR ?_
            first | refine ny_finR (rescT 0 rfl agg_31 rfl rfl rfl rfl rfl) (fun w hs2 => ⟨?_, hs2.frm⟩) | refine ny_finR (rescT 1 rfl agg_31 rfl rfl rfl rfl rfl) (fun w hs2 => ⟨?_, hs2.frm⟩) | refine ny_finR (rescT 2 rfl agg_31 rfl rfl rfl rfl rfl) (fun w hs2 => ⟨?_, hs2.frm⟩)
            unfold numA
            rw [hdot, if_neg (by decide), if_pos hbig]
            rfl
          · have hok := of_decide_eq_false hc48
            refine cy_skip ?_
            refine ny_next ?_
            refine cy_region ?_
            refine sy_move rfl rfl rfl ?_
            refine sy_mulK (z := ((10 * valN ((figs s.data.toList).take i) : Nat) : Int)) rfl rfl (by rw [IntWalk.u64_in _ ⟨by omega, by omega⟩]; omega) rfl rfl ?_
            refine sy_move rfl rfl rfl ?_
            refine sy_addK (z := ((10 * valN ((figs s.data.toList).take i) + (e39.toNat - 48) : Nat) : Int)) rfl rfl (by rw [IntWalk.u64_in _ ⟨by omega, by omega⟩]; omega) rfl rfl ?_
            refine sy_assign rfl rfl rfl ?_
            refine sy_nil rfl ?_
            refine ny_blockN ?_
            refine ny_next ?_
            refine cy_region ?_
            refine sy_addi (z := ((i + 1 : Nat) : Int)) rfl rfl (by omega) (by omega) (by omega) rfl rfl ?_
            refine sy_move rfl rfl rfl ?_
            refine sy_nil rfl ?_
            refine ny_roundK [2, 5, 35, 36] (i + 1) [0] ⟨by omega, by rw [valN_succ he39]; omega⟩ (show (runB digitB s.data.toList) - (i + 1) < (runB digitB s.data.toList) - i by omega) rfl ⟨congrArg (fun z : Nat => some (Value.int .u64 (z : Int))) (valN_succ he39).symm, rfl, trivial⟩ rfl rfl
        · have hie : i = (runB digitB s.data.toList) := by have := of_decide_eq_false hc38; omega
          have htk : (figs s.data.toList).take i = (figs s.data.toList) := List.take_of_length_le (by omega)
          rw [htk] at hpre ⊢
          refine cy_exit ?_
          refine ny_thenE ?_
          refine ny_thenE ?_
          refine ny_blockX ?_
          refine ny_next ?_
          refine cy_seq ?_
          refine cy_region ?_
          refine sy_move rfl rfl rfl ?_
          refine sy_convK Try.underlying64 Try.underlying2 rfl rfl rfl rfl ?_
          refine sy_build rfl (fun w => bld_31_0x2 w) rfl rfl ?_
          refine sy_move rfl rfl rfl ?_
          first | refine sy_stl 0 sz_31 rfl rfl rfl rfl rfl rfl rfl rfl ?_ | refine sy_stl 1 sz_31 rfl rfl rfl rfl rfl rfl rfl rfl ?_ | refine sy_stl 2 sz_31 rfl rfl rfl rfl rfl rfl rfl rfl ?_
          refine sy_assign rfl rfl rfl ?_
          refine sy_assign rfl rfl rfl ?_
          refine sy_nil rfl ?_
          refine ny_next ?_
          refine cy_ret ?_
          first | refine ny_finR (rescT 0 rfl agg_31 rfl rfl rfl rfl rfl) (fun w hs2 => ⟨?_, hs2.frm⟩) | refine ny_finR (rescT 1 rfl agg_31 rfl rfl rfl rfl rfl) (fun w hs2 => ⟨?_, hs2.frm⟩) | refine ny_finR (rescT 2 rfl agg_31 rfl rfl rfl rfl rfl) (fun w hs2 => ⟨?_, hs2.frm⟩)
          unfold numA
          rw [hdot, if_neg (by decide), if_neg (by omega)]
          rfl
    · refine sy_skip rfl rfl rfl ?_
      refine sy_skip rfl rfl rfl ?_
      refine sy_skip rfl rfl rfl ?_
      refine sy_skip rfl rfl rfl ?_
      refine sy_skip rfl rfl rfl ?_
      refine sy_pickF rfl rfl rfl rfl ?_
      refine sy_nil rfl ?_
      refine ny_next ?_
      refine cy_condF rfl ?_
      have hdot : dottedB s.data.toList (runB digitB s.data.toList) = false := by
        have h7 : decide ((((runB digitB s.data.toList) : Nat) : Int) + 1 < (s.data.toList.length : Int)) = decide ((((runB digitB s.data.toList) : Nat) : Int) + 1 < (s.size : Int)) := rfl
        unfold dottedB
        rw [h7]
        first | (rw [hg17, he0, he1]; show ((true && ((e0.toNat : Int) == 46)) && digitB e1) = _; first | (rw [hg23, hc29]; rfl) | (rw [hg23]; rfl)) | (rw [hg17]; rfl)
      refine cy_skip ?_
      refine ny_next ?_
      refine cy_seq ?_
      refine cy_region ?_
      refine sy_assign rfl rfl rfl ?_
      refine sy_nil rfl ?_
      refine ny_next ?_
      refine cy_seq ?_
      refine cy_seq ?_
      refine cy_region ?_
      refine sy_move rfl rfl rfl ?_
      refine sy_move rfl rfl rfl ?_
      refine sy_strto Try.underlying9 rfl rfl (by omega) rfl rfl ?_
      refine sy_strbytes Try.underlying9 Try.underlying65 Try.underlying5 rfl rfl rfl (fun b35 c35 h35 hle35 hr35 => ?_) (by simp)
      rw [ext_to] at hr35
      have hfl := figs_len s.data.toList
      have hxs : (s.extract 0 (runB digitB s.data.toList)).size = (runB digitB s.data.toList) := by
        have h9 : (s.extract 0 (runB digitB s.data.toList)).size = (s.extract 0 (runB digitB s.data.toList)).data.toList.length := rfl
        rw [h9, ext_to]
        exact hfl
      rw [hxs]
      refine sy_len rfl (len_slice Try.underlying65 _ _ _) rfl rfl ?_
      refine sy_move rfl rfl rfl ?_
      refine sy_nil rfl ?_
      refine ny_next ?_
      refine cy_block ?_
      refine cy_loopK (ι := Nat) [2, 5, 35, 36] rfl (fun i => i ≤ (runB digitB s.data.toList) ∧ valN ((figs s.data.toList).take i) ≤ 9223372036854775808) (fun i => (runB digitB s.data.toList) - i) (fun i => [(6, .int .u64 ((valN ((figs s.data.toList).take i) : Nat) : Int)), (37, .int .i64 (i : Int))]) (fun i => h35) (fun i => [.blk b2 (.cells [.int .i64 0, .string ⟨#[]⟩, .int .i64 0, .bool false, .bool false].toArray 31 (0, 0))]) 0 [0] ⟨Nat.zero_le _, by simp [valN]⟩ ⟨rfl, rfl, trivial⟩ rfl rfl ?_
      rintro i ⟨hI, hpre⟩
      refine cy_seq ?_
      refine cy_region ?_
      refine sy_cmp rfl rfl rfl rfl rfl ?_
      refine sy_nil rfl ?_
      refine ny_next ?_
      refine cy_seq ?_
      refine cy_cond rfl (fun hc38 => ?_) (fun hc38 => ?_)
      · have hlti : i < (runB digitB s.data.toList) := by have := of_decide_eq_true hc38; omega
        refine cy_skip ?_
        refine ny_next ?_
        refine cy_seq ?_
        refine cy_block ?_
        refine cy_seq ?_
        refine cy_region ?_
        refine sy_idxR (fc := byteC) (es := (figs s.data.toList)) els_65 rfl rfl hr35 hfl (by omega) rfl rfl (fun e39 b39 o39 he39 hA39 hc39 => ?_)
        refine sy_ldh one_5 rfl (hc39 0 _ rfl) rfl rfl ?_
        have hdg := figs_dig he39
        refine sy_assign rfl rfl rfl ?_
        refine sy_nil rfl ?_
        refine ny_next ?_
        refine cy_seq ?_
        refine cy_region ?_
        refine sy_move rfl rfl rfl ?_
        refine sy_subK (z := ((e39.toNat - 48 : Nat) : Int)) rfl rfl (by rw [IntWalk.u8_in _ ⟨by omega, by omega⟩]; omega) rfl rfl ?_
        refine sy_convK (z := ((e39.toNat - 48 : Nat) : Int)) Try.underlying5 Try.underlying64 rfl (by rw [IntWalk.u64_in _ ⟨by omega, by omega⟩]) rfl rfl ?_
        refine sy_assign rfl rfl rfl ?_
        refine sy_nil rfl ?_
        refine ny_next ?_
        refine cy_seq ?_
        refine cy_seq ?_
        refine cy_region ?_
        refine sy_move rfl rfl rfl ?_
        refine sy_move rfl rfl rfl ?_
        refine sy_subK (z := ((9223372036854775808 - (e39.toNat - 48) : Nat) : Int)) rfl rfl (by rw [IntWalk.u64_in _ ⟨by omega, by omega⟩]; omega) rfl rfl ?_
        refine sy_quoU (z := (((9223372036854775808 - (e39.toNat - 48)) / 10 : Nat) : Int)) rfl rfl (by decide) rfl (by omega) (by omega) rfl rfl ?_
        refine sy_cmp rfl rfl rfl rfl rfl ?_
        refine sy_nil rfl ?_
        refine ny_next ?_
        refine cy_cond rfl (fun hc48 => ?_) (fun hc48 => ?_)
        · have hbig : 9223372036854775808 < valN (figs s.data.toList) := by
            have h9 := of_decide_eq_true hc48
            have h8 := valN_le (figs s.data.toList) (i + 1)
            rw [valN_succ he39] at h8
            omega
          refine cy_seq ?_
          refine cy_region ?_
          refine sy_build rfl (fun w => bld_31_ w) rfl rfl ?_
          refine sy_call rfl call_13 rfl (bad_c _ _ _) rfl rfl ?_
          first | refine sy_stl 0 sz_31 rfl rfl rfl rfl rfl rfl rfl rfl ?_ | refine sy_stl 1 sz_31 rfl rfl rfl rfl rfl rfl rfl rfl ?_ | refine sy_stl 2 sz_31 rfl rfl rfl rfl rfl rfl rfl rfl ?_
          refine sy_assign rfl rfl rfl ?_
          refine sy_assign rfl rfl rfl ?_
          refine sy_nil rfl ?_
          refine ny_next ?_
          refine cy_ret ?_
          refine ny_thenR ?_
          refine ny_blockR ?_
          refine ny_thenR ?_
          refine ny_thenR ?_
          refine ny_blockR ?_
          refine ny_thenR ?_
          first | refine ny_finR (rescT 0 rfl agg_31 rfl rfl rfl rfl rfl) (fun w hs2 => ⟨?_, hs2.frm⟩) | refine ny_finR (rescT 1 rfl agg_31 rfl rfl rfl rfl rfl) (fun w hs2 => ⟨?_, hs2.frm⟩) | refine ny_finR (rescT 2 rfl agg_31 rfl rfl rfl rfl rfl) (fun w hs2 => ⟨?_, hs2.frm⟩)
          unfold numA
          rw [hdot, if_neg (by decide), if_pos hbig]
          rfl
        · have hok := of_decide_eq_false hc48
          refine cy_skip ?_
          refine ny_next ?_
          refine cy_region ?_
          refine sy_move rfl rfl rfl ?_
          refine sy_mulK (z := ((10 * valN ((figs s.data.toList).take i) : Nat) : Int)) rfl rfl (by rw [IntWalk.u64_in _ ⟨by omega, by omega⟩]; omega) rfl rfl ?_
          refine sy_move rfl rfl rfl ?_
          refine sy_addK (z := ((10 * valN ((figs s.data.toList).take i) + (e39.toNat - 48) : Nat) : Int)) rfl rfl (by rw [IntWalk.u64_in _ ⟨by omega, by omega⟩]; omega) rfl rfl ?_
          refine sy_assign rfl rfl rfl ?_
          refine sy_nil rfl ?_
          refine ny_blockN ?_
          refine ny_next ?_
          refine cy_region ?_
          refine sy_addi (z := ((i + 1 : Nat) : Int)) rfl rfl (by omega) (by omega) (by omega) rfl rfl ?_
          refine sy_move rfl rfl rfl ?_
          refine sy_nil rfl ?_
          refine ny_roundK [2, 5, 35, 36] (i + 1) [0] ⟨by omega, by rw [valN_succ he39]; omega⟩ (show (runB digitB s.data.toList) - (i + 1) < (runB digitB s.data.toList) - i by omega) rfl ⟨congrArg (fun z : Nat => some (Value.int .u64 (z : Int))) (valN_succ he39).symm, rfl, trivial⟩ rfl rfl
      · have hie : i = (runB digitB s.data.toList) := by have := of_decide_eq_false hc38; omega
        have htk : (figs s.data.toList).take i = (figs s.data.toList) := List.take_of_length_le (by omega)
        rw [htk] at hpre ⊢
        refine cy_exit ?_
        refine ny_thenE ?_
        refine ny_thenE ?_
        refine ny_blockX ?_
        refine ny_next ?_
        refine cy_seq ?_
        refine cy_region ?_
        refine sy_move rfl rfl rfl ?_
        refine sy_convK Try.underlying64 Try.underlying2 rfl rfl rfl rfl ?_
        refine sy_build rfl (fun w => bld_31_0x2 w) rfl rfl ?_
        refine sy_move rfl rfl rfl ?_
        first | refine sy_stl 0 sz_31 rfl rfl rfl rfl rfl rfl rfl rfl ?_ | refine sy_stl 1 sz_31 rfl rfl rfl rfl rfl rfl rfl rfl ?_ | refine sy_stl 2 sz_31 rfl rfl rfl rfl rfl rfl rfl rfl ?_
        refine sy_assign rfl rfl rfl ?_
        refine sy_assign rfl rfl rfl ?_
        refine sy_nil rfl ?_
        refine ny_next ?_
        refine cy_ret ?_
        first | refine ny_finR (rescT 0 rfl agg_31 rfl rfl rfl rfl rfl) (fun w hs2 => ⟨?_, hs2.frm⟩) | refine ny_finR (rescT 1 rfl agg_31 rfl rfl rfl rfl rfl) (fun w hs2 => ⟨?_, hs2.frm⟩) | refine ny_finR (rescT 2 rfl agg_31 rfl rfl rfl rfl rfl) (fun w hs2 => ⟨?_, hs2.frm⟩)
        unfold numA
        rw [hdot, if_neg (by decide), if_neg (by omega)]
        rfl
  · refine sy_skip rfl rfl rfl ?_
    refine sy_skip rfl rfl rfl ?_
    refine sy_skip rfl rfl rfl ?_
    refine sy_skip rfl rfl rfl ?_
    refine sy_pickF rfl rfl rfl rfl ?_
    refine sy_move rfl rfl rfl ?_
    refine sy_skip rfl rfl rfl ?_
    refine sy_skip rfl rfl rfl ?_
    refine sy_skip rfl rfl rfl ?_
    refine sy_skip rfl rfl rfl ?_
    refine sy_skip rfl rfl rfl ?_
    refine sy_pickF rfl rfl rfl rfl ?_
    refine sy_nil rfl ?_
    refine ny_next ?_
    refine cy_condF rfl ?_
    have hdot : dottedB s.data.toList (runB digitB s.data.toList) = false := by
      have h7 : decide ((((runB digitB s.data.toList) : Nat) : Int) + 1 < (s.data.toList.length : Int)) = decide ((((runB digitB s.data.toList) : Nat) : Int) + 1 < (s.size : Int)) := rfl
      unfold dottedB
      rw [h7]
      first | (rw [hg17, he0, he1]; show ((true && ((e0.toNat : Int) == 46)) && digitB e1) = _; first | (rw [hg23, hc29]; rfl) | (rw [hg23]; rfl)) | (rw [hg17]; rfl)
    refine cy_skip ?_
    refine ny_next ?_
    refine cy_seq ?_
    refine cy_region ?_
    refine sy_assign rfl rfl rfl ?_
    refine sy_nil rfl ?_
    refine ny_next ?_
    refine cy_seq ?_
    refine cy_seq ?_
    refine cy_region ?_
    refine sy_move rfl rfl rfl ?_
    refine sy_move rfl rfl rfl ?_
    refine sy_strto Try.underlying9 rfl rfl (by omega) rfl rfl ?_
    refine sy_strbytes Try.underlying9 Try.underlying65 Try.underlying5 rfl rfl rfl (fun b35 c35 h35 hle35 hr35 => ?_) (by simp)
    rw [ext_to] at hr35
    have hfl := figs_len s.data.toList
    have hxs : (s.extract 0 (runB digitB s.data.toList)).size = (runB digitB s.data.toList) := by
      have h9 : (s.extract 0 (runB digitB s.data.toList)).size = (s.extract 0 (runB digitB s.data.toList)).data.toList.length := rfl
      rw [h9, ext_to]
      exact hfl
    rw [hxs]
    refine sy_len rfl (len_slice Try.underlying65 _ _ _) rfl rfl ?_
    refine sy_move rfl rfl rfl ?_
    refine sy_nil rfl ?_
    refine ny_next ?_
    refine cy_block ?_
    refine cy_loopK (ι := Nat) [2, 5, 35, 36] rfl (fun i => i ≤ (runB digitB s.data.toList) ∧ valN ((figs s.data.toList).take i) ≤ 9223372036854775808) (fun i => (runB digitB s.data.toList) - i) (fun i => [(6, .int .u64 ((valN ((figs s.data.toList).take i) : Nat) : Int)), (37, .int .i64 (i : Int))]) (fun i => h35) (fun i => [.blk b2 (.cells [.int .i64 0, .string ⟨#[]⟩, .int .i64 0, .bool false, .bool false].toArray 31 (0, 0))]) 0 [0] ⟨Nat.zero_le _, by simp [valN]⟩ ⟨rfl, rfl, trivial⟩ rfl rfl ?_
    rintro i ⟨hI, hpre⟩
    refine cy_seq ?_
    refine cy_region ?_
    refine sy_cmp rfl rfl rfl rfl rfl ?_
    refine sy_nil rfl ?_
    refine ny_next ?_
    refine cy_seq ?_
    refine cy_cond rfl (fun hc38 => ?_) (fun hc38 => ?_)
    · have hlti : i < (runB digitB s.data.toList) := by have := of_decide_eq_true hc38; omega
      refine cy_skip ?_
      refine ny_next ?_
      refine cy_seq ?_
      refine cy_block ?_
      refine cy_seq ?_
      refine cy_region ?_
      refine sy_idxR (fc := byteC) (es := (figs s.data.toList)) els_65 rfl rfl hr35 hfl (by omega) rfl rfl (fun e39 b39 o39 he39 hA39 hc39 => ?_)
      refine sy_ldh one_5 rfl (hc39 0 _ rfl) rfl rfl ?_
      have hdg := figs_dig he39
      refine sy_assign rfl rfl rfl ?_
      refine sy_nil rfl ?_
      refine ny_next ?_
      refine cy_seq ?_
      refine cy_region ?_
      refine sy_move rfl rfl rfl ?_
      refine sy_subK (z := ((e39.toNat - 48 : Nat) : Int)) rfl rfl (by rw [IntWalk.u8_in _ ⟨by omega, by omega⟩]; omega) rfl rfl ?_
      refine sy_convK (z := ((e39.toNat - 48 : Nat) : Int)) Try.underlying5 Try.underlying64 rfl (by rw [IntWalk.u64_in _ ⟨by omega, by omega⟩]) rfl rfl ?_
      refine sy_assign rfl rfl rfl ?_
      refine sy_nil rfl ?_
      refine ny_next ?_
      refine cy_seq ?_
      refine cy_seq ?_
      refine cy_region ?_
      refine sy_move rfl rfl rfl ?_
      refine sy_move rfl rfl rfl ?_
      refine sy_subK (z := ((9223372036854775808 - (e39.toNat - 48) : Nat) : Int)) rfl rfl (by rw [IntWalk.u64_in _ ⟨by omega, by omega⟩]; omega) rfl rfl ?_
      refine sy_quoU (z := (((9223372036854775808 - (e39.toNat - 48)) / 10 : Nat) : Int)) rfl rfl (by decide) rfl (by omega) (by omega) rfl rfl ?_
      refine sy_cmp rfl rfl rfl rfl rfl ?_
      refine sy_nil rfl ?_
      refine ny_next ?_
      refine cy_cond rfl (fun hc48 => ?_) (fun hc48 => ?_)
      · have hbig : 9223372036854775808 < valN (figs s.data.toList) := by
          have h9 := of_decide_eq_true hc48
          have h8 := valN_le (figs s.data.toList) (i + 1)
          rw [valN_succ he39] at h8
          omega
        refine cy_seq ?_
        refine cy_region ?_
        refine sy_build rfl (fun w => bld_31_ w) rfl rfl ?_
        refine sy_call rfl call_13 rfl (bad_c _ _ _) rfl rfl ?_
        first | refine sy_stl 0 sz_31 rfl rfl rfl rfl rfl rfl rfl rfl ?_ | refine sy_stl 1 sz_31 rfl rfl rfl rfl rfl rfl rfl rfl ?_ | refine sy_stl 2 sz_31 rfl rfl rfl rfl rfl rfl rfl rfl ?_
        refine sy_assign rfl rfl rfl ?_
        refine sy_assign rfl rfl rfl ?_
        refine sy_nil rfl ?_
        refine ny_next ?_
        refine cy_ret ?_
        refine ny_thenR ?_
        refine ny_blockR ?_
        refine ny_thenR ?_
        refine ny_thenR ?_
        refine ny_blockR ?_
        refine ny_thenR ?_
        first | refine ny_finR (rescT 0 rfl agg_31 rfl rfl rfl rfl rfl) (fun w hs2 => ⟨?_, hs2.frm⟩) | refine ny_finR (rescT 1 rfl agg_31 rfl rfl rfl rfl rfl) (fun w hs2 => ⟨?_, hs2.frm⟩) | refine ny_finR (rescT 2 rfl agg_31 rfl rfl rfl rfl rfl) (fun w hs2 => ⟨?_, hs2.frm⟩)
        unfold numA
        rw [hdot, if_neg (by decide), if_pos hbig]
        rfl
      · have hok := of_decide_eq_false hc48
        refine cy_skip ?_
        refine ny_next ?_
        refine cy_region ?_
        refine sy_move rfl rfl rfl ?_
        refine sy_mulK (z := ((10 * valN ((figs s.data.toList).take i) : Nat) : Int)) rfl rfl (by rw [IntWalk.u64_in _ ⟨by omega, by omega⟩]; omega) rfl rfl ?_
        refine sy_move rfl rfl rfl ?_
        refine sy_addK (z := ((10 * valN ((figs s.data.toList).take i) + (e39.toNat - 48) : Nat) : Int)) rfl rfl (by rw [IntWalk.u64_in _ ⟨by omega, by omega⟩]; omega) rfl rfl ?_
        refine sy_assign rfl rfl rfl ?_
        refine sy_nil rfl ?_
        refine ny_blockN ?_
        refine ny_next ?_
        refine cy_region ?_
        refine sy_addi (z := ((i + 1 : Nat) : Int)) rfl rfl (by omega) (by omega) (by omega) rfl rfl ?_
        refine sy_move rfl rfl rfl ?_
        refine sy_nil rfl ?_
        refine ny_roundK [2, 5, 35, 36] (i + 1) [0] ⟨by omega, by rw [valN_succ he39]; omega⟩ (show (runB digitB s.data.toList) - (i + 1) < (runB digitB s.data.toList) - i by omega) rfl ⟨congrArg (fun z : Nat => some (Value.int .u64 (z : Int))) (valN_succ he39).symm, rfl, trivial⟩ rfl rfl
    · have hie : i = (runB digitB s.data.toList) := by have := of_decide_eq_false hc38; omega
      have htk : (figs s.data.toList).take i = (figs s.data.toList) := List.take_of_length_le (by omega)
      rw [htk] at hpre ⊢
      refine cy_exit ?_
      refine ny_thenE ?_
      refine ny_thenE ?_
      refine ny_blockX ?_
      refine ny_next ?_
      refine cy_seq ?_
      refine cy_region ?_
      refine sy_move rfl rfl rfl ?_
      refine sy_convK Try.underlying64 Try.underlying2 rfl rfl rfl rfl ?_
      refine sy_build rfl (fun w => bld_31_0x2 w) rfl rfl ?_
      refine sy_move rfl rfl rfl ?_
      first | refine sy_stl 0 sz_31 rfl rfl rfl rfl rfl rfl rfl rfl ?_ | refine sy_stl 1 sz_31 rfl rfl rfl rfl rfl rfl rfl rfl ?_ | refine sy_stl 2 sz_31 rfl rfl rfl rfl rfl rfl rfl rfl ?_
      refine sy_assign rfl rfl rfl ?_
      refine sy_assign rfl rfl rfl ?_
      refine sy_nil rfl ?_
      refine ny_next ?_
      refine cy_ret ?_
      first | refine ny_finR (rescT 0 rfl agg_31 rfl rfl rfl rfl rfl) (fun w hs2 => ⟨?_, hs2.frm⟩) | refine ny_finR (rescT 1 rfl agg_31 rfl rfl rfl rfl rfl) (fun w hs2 => ⟨?_, hs2.frm⟩) | refine ny_finR (rescT 2 rfl agg_31 rfl rfl rfl rfl rfl) (fun w hs2 => ⟨?_, hs2.frm⟩)
      unfold numA
      rw [hdot, if_neg (by decide), if_neg (by omega)]
      rfl
end Go.Proofs.Ytdbeiaohibgmeaa

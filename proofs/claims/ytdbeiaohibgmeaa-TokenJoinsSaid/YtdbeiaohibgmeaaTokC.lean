/- The scanner: what is passed over: the walk. Conditions: as each says. Printed by a program of this session. -/
import Derived.Test.YtdbeiaohibgmeaaFactsG
import Derived.Test.YtdbeiaohibgmeaaTokB
import Derived.Test.YtdbeiaohibgmeaaSkipPure
set_option linter.unusedVariables false
set_option linter.unusedSimpArgs false
namespace Go.Proofs.Ytdbeiaohibgmeaa
open Go.RowKit Go.Proofs.Ytdbeiaohibgmeaa.E Go.Proofs.Ytdbeiaohibgmeaa.ReplP Go.Proofs.Ytdbeiaohibgmeaa.TokP
set_option maxRecDepth 100000 in
theorem skip_c (s : ByteArray) (h : Hp) (hs : s.size ≤ 70368744177600) : C0 Try.prog 14 [.string s] h (.int .i64 ((skipN s.data.toList : Nat) : Int)) := by
  refine enter0 Try.func14 rfl rfl rfl (fun w => ?_)
  refine cy_seq ?_
  refine cy_region ?_
  refine sy_assign rfl rfl rfl ?_
  refine sy_nil rfl ?_
  refine ny_next ?_
  refine cy_seq ?_
  refine cy_region ?_
  refine sy_assign rfl rfl rfl ?_
  refine sy_nil rfl ?_
  refine ny_next ?_
  refine cy_seq ?_
  refine cy_block ?_
  refine cy_loopK (ι := Nat) [0] rfl (fun i => i ≤ s.size ∧ i + skipN (s.data.toList.drop i) = skipN s.data.toList) (fun i => s.size - i) (fun i => [(3, .int .i64 (i : Int))]) (fun i => h) (fun i => []) 0 [] ⟨Nat.zero_le _, by simp⟩ ⟨rfl, trivial⟩ rfl rfl ?_
  rintro i ⟨hI, hpre⟩
  have hsz : s.data.toList.length = s.size := rfl
  refine cy_seq ?_
  refine cy_seq ?_
  refine cy_region ?_
  refine sy_move rfl rfl rfl ?_
  refine sy_move rfl rfl rfl ?_
  refine sy_len rfl (len_string Try.underlying9 _) rfl rfl ?_
  refine sy_cmp rfl rfl rfl rfl rfl ?_
  refine sy_nil rfl ?_
  refine ny_next ?_
  refine cy_cond rfl (fun hc8 => ?_) (fun hc8 => ?_)
  · have hlti : i < s.size := by have := of_decide_eq_true hc8; omega
    obtain ⟨e0, he0⟩ : ∃ e0, s.data.toList[i]? = some e0 := ⟨_, List.getElem?_eq_getElem (by show i < s.size; omega)⟩
    refine cy_skip ?_
    refine ny_next ?_
    refine cy_block ?_
    refine cy_seq ?_
    refine cy_region ?_
    refine sy_move rfl rfl rfl ?_
    refine sy_move rfl rfl rfl ?_
    refine sy_idxs (u := e0) Try.underlying9 rfl rfl (by omega) (ba_at he0) rfl rfl ?_
    refine sy_assign rfl rfl rfl ?_
    refine sy_nil rfl ?_
    refine ny_next ?_
    refine cy_block ?_
    refine cy_seq ?_
    refine cy_block ?_
    refine cy_seq ?_
    refine cy_block ?_
    refine cy_seq ?_
    refine cy_block ?_
    refine cy_seq ?_
    refine cy_seq ?_
    refine cy_seq ?_
    refine cy_region ?_
    refine sy_move rfl rfl rfl ?_
    refine sy_cmp rfl rfl rfl rfl rfl ?_
    refine sy_assign rfl rfl rfl ?_
    refine sy_nil rfl ?_
    refine ny_next ?_
    refine cy_cond rfl (fun hc12 => ?_) (fun hc12 => ?_)
    · have h37 : e0 = 37 := UInt8.toNat_inj.1 (by have h9 : (e0.toNat : Int) = 37 := (by simpa using hc12); show e0.toNat = 37; omega)
      refine cy_exit ?_
      refine ny_thenE ?_
      refine ny_thenE ?_
      refine ny_blockX ?_
      refine ny_next ?_
      refine cy_seq ?_
      refine cy_region ?_
      refine sy_move rfl rfl rfl ?_
      refine sy_move rfl rfl rfl ?_
      refine sy_move rfl rfl rfl ?_
      refine sy_strfrom Try.underlying9 rfl rfl (by omega) rfl rfl ?_
      have hxs : (s.extract i s.size).size ≤ 140737488355328 := by
        have h9 : (s.extract i s.size).size = (s.extract i s.size).data.toList.length := rfl
        rw [h9, ext_from, List.length_drop]
        omega
      refine sy_call rfl call_19 rfl (row_c (s.extract i s.size) 22 lineB _ hxs call_22 (fun c h => line_c c h)) rfl rfl ?_
      rw [ext_from]
      have hrl := runB_le lineB (s.data.toList.drop i)
      rw [List.length_drop] at hrl
      refine sy_addi (z := ((i + runB lineB (s.data.toList.drop i) : Nat) : Int)) rfl rfl (by omega) (by omega) (by omega) rfl rfl ?_
      refine sy_assign rfl rfl rfl ?_
      refine sy_nil rfl ?_
      refine ny_next ?_
      refine cy_seq ?_
      refine cy_region ?_
      refine sy_move rfl rfl rfl ?_
      refine sy_move rfl rfl rfl ?_
      refine sy_len rfl (len_string Try.underlying9 _) rfl rfl ?_
      refine sy_cmp rfl rfl rfl rfl rfl ?_
      refine sy_nil rfl ?_
      refine ny_next ?_
      refine cy_cond rfl (fun hc27 => ?_) (fun hc27 => ?_)
      · refine cy_seq ?_
        refine cy_region ?_
        refine sy_move rfl rfl rfl ?_
        refine sy_assign rfl rfl rfl ?_
        refine sy_nil rfl ?_
        refine ny_next ?_
        refine cy_ret ?_
        refine ny_blockR ?_
        refine ny_thenR ?_
        refine ny_blockR ?_
        refine ny_thenR ?_
        refine ny_blockR ?_
        refine ny_blockR ?_
        refine ny_thenR ?_
        refine ny_blockR ?_
        refine ny_thenR ?_
        refine ny_finR (res1 rfl rfl) (fun w hs2 => ⟨?_, hs2.frm⟩)
        refine congrArg (fun z : Nat => Ending.returned (Value.int .i64 (z : Int))) ?_
        have hnl : i + runB lineB (s.data.toList.drop i) = s.size := by have h9 := eq_of_beq hc27; omega
        have h8 := skip_last he0 h37 hnl
        omega
      · have hnl : ¬ i + runB lineB (s.data.toList.drop i) = s.size := by
          intro h9
          rw [h9] at hc27
          simp at hc27
        have hsk := skip_remark he0 h37 hnl
        refine cy_skip ?_
        refine ny_blockN ?_
        refine ny_next ?_
        refine cy_seq ?_
        refine cy_region ?_
        refine sy_move rfl rfl rfl ?_
        refine sy_addi (z := ((i + runB lineB (s.data.toList.drop i) + 1 : Nat) : Int)) rfl rfl (by omega) (by omega) (by omega) rfl rfl ?_
        refine sy_assign rfl rfl rfl ?_
        refine sy_nil rfl ?_
        refine ny_next ?_
        refine cy_exit ?_
        refine ny_blockY rfl ?_
        refine ny_thenE ?_
        refine ny_blockX ?_
        refine ny_blockN ?_
        refine ny_roundK [0] (i + runB lineB (s.data.toList.drop i) + 1) [] ⟨hsk.1, hsk.2.trans hpre⟩ (by have := hsk.1; show s.size - (i + runB lineB (s.data.toList.drop i) + 1) < s.size - i; omega) rfl ⟨rfl, trivial⟩ rfl rfl
    · have h37 : ¬ e0 = 37 := by
        intro h9
        rw [h9] at hc12
        simp at hc12
      refine cy_skip ?_
      refine ny_next ?_
      refine cy_seq ?_
      refine cy_region ?_
      refine sy_move rfl rfl rfl ?_
      refine sy_call rfl call_23 rfl (blank_c e0 _) rfl rfl ?_
      refine sy_assign rfl rfl rfl ?_
      refine sy_nil rfl ?_
      refine ny_next ?_
      refine cy_cond rfl (fun hc15 => ?_) (fun hc15 => ?_)
      · refine cy_exit ?_
        refine ny_thenE ?_
        refine ny_blockY rfl ?_
        refine ny_thenE ?_
        refine ny_blockX ?_
        refine ny_next ?_
        refine cy_seq ?_
        refine cy_region ?_
        refine sy_move rfl rfl rfl ?_
        refine sy_addi (z := ((i + 1 : Nat) : Int)) rfl rfl (by omega) (by omega) (by omega) rfl rfl ?_
        refine sy_assign rfl rfl rfl ?_
        refine sy_nil rfl ?_
        refine ny_next ?_
        refine cy_exit ?_
        refine ny_blockY rfl ?_
        refine ny_thenE ?_
        refine ny_blockX ?_
        refine ny_blockN ?_
        refine ny_roundK [0] (i + 1) [] ⟨by omega, (skip_blank he0 h37 hc15).trans hpre⟩ (show s.size - (i + 1) < s.size - i by omega) rfl ⟨rfl, trivial⟩ rfl rfl
      · refine cy_skip ?_
        refine ny_next ?_
        refine cy_exit ?_
        refine ny_blockY rfl ?_
        refine ny_thenE ?_
        refine ny_blockY rfl ?_
        refine ny_thenE ?_
        refine ny_blockX ?_
        refine ny_next ?_
        refine cy_seq ?_
        refine cy_seq ?_
        refine cy_region ?_
        refine sy_move rfl rfl rfl ?_
        refine sy_assign rfl rfl rfl ?_
        refine sy_nil rfl ?_
        refine ny_next ?_
        refine cy_ret ?_
        refine ny_thenR ?_
        refine ny_blockR ?_
        refine ny_blockR ?_
        refine ny_thenR ?_
        refine ny_blockR ?_
        refine ny_thenR ?_
        refine ny_finR (res1 rfl rfl) (fun w hs2 => ⟨?_, hs2.frm⟩)
        refine congrArg (fun z : Nat => Ending.returned (Value.int .i64 (z : Int))) ?_
        have h8 := skip_stop he0 h37 hc15
        omega
  · have hie : i = s.size := by have := of_decide_eq_false hc8; omega
    subst hie
    refine cy_exit ?_
    refine ny_thenE ?_
    refine ny_thenE ?_
    refine ny_blockX ?_
    refine ny_next ?_
    refine cy_seq ?_
    refine cy_region ?_
    refine sy_move rfl rfl rfl ?_
    refine sy_assign rfl rfl rfl ?_
    refine sy_nil rfl ?_
    refine ny_next ?_
    refine cy_ret ?_
    refine ny_finR (res1 rfl rfl) (fun w hs2 => ⟨?_, hs2.frm⟩)
    refine congrArg (fun z : Nat => Ending.returned (Value.int .i64 (z : Int))) ?_
    rw [show s.data.toList.drop s.size = [] from List.drop_eq_nil_of_le (Nat.le_refl _), skip_nil] at hpre
    exact hpre
set_option maxRecDepth 100000 in
theorem hp2_c (s : ByteArray) (h : Hp) (hs : s.size ≤ 70368744177600) : C0 Try.prog 39 [.string s, .string ⟨#[46]⟩] h (.bool (pointB s.data.toList)) := by
  refine enter0 Try.func39 rfl rfl rfl (fun w => ?_)
  refine cy_seq ?_
  refine cy_region ?_
  refine sy_assign rfl rfl rfl ?_
  refine sy_nil rfl ?_
  refine ny_next ?_
  refine cy_seq ?_
  refine cy_region ?_
  refine sy_move rfl rfl rfl ?_
  refine sy_len rfl (len_string Try.underlying9 _) rfl rfl ?_
  refine sy_move rfl rfl rfl ?_
  refine sy_len rfl (len_string Try.underlying9 _) rfl rfl ?_
  refine sy_cmp rfl rfl rfl rfl rfl ?_
  refine sy_move rfl rfl rfl ?_
  refine sy_cond (d := 10) _ rfl rfl (fun hg10 => ?_) (fun hg10 => ?_)
  · refine sy_move rfl rfl rfl ?_
    refine sy_move rfl rfl rfl ?_
    refine sy_len rfl (len_string Try.underlying9 _) rfl rfl ?_
    refine sy_strto (hi := 1) Try.underlying9 rfl rfl (by have := of_decide_eq_true hg10; have h8 : (⟨#[46]⟩ : ByteArray).size = 1 := rfl; omega) rfl rfl ?_
    refine sy_move rfl rfl rfl ?_
    refine sy_eqs rfl rfl rfl rfl ?_
    refine sy_pickT rfl rfl rfl rfl ?_
    refine sy_assign rfl rfl rfl ?_
    refine sy_nil rfl ?_
    refine ny_next ?_
    refine cy_ret ?_
    refine ny_finR (res1 rfl rfl) (fun w hs2 => ⟨?_, hs2.frm⟩)
    refine congrArg (fun b => Ending.returned (Value.bool b)) ?_
    first | (rw [ext_to]; exact point_take _) | exact (point_nil (by have h9 := of_decide_eq_false hg10; have h8 : (⟨#[46]⟩ : ByteArray).size = 1 := rfl; have h7 : s.data.toList.length = s.size := rfl; omega)).symm
  · refine sy_skip rfl rfl rfl ?_
    refine sy_skip rfl rfl rfl ?_
    refine sy_skip rfl rfl rfl ?_
    refine sy_skip rfl rfl rfl ?_
    refine sy_skip rfl rfl rfl ?_
    refine sy_skip rfl rfl rfl ?_
    refine sy_pickF rfl rfl rfl rfl ?_
    refine sy_assign rfl rfl rfl ?_
    refine sy_nil rfl ?_
    refine ny_next ?_
    refine cy_ret ?_
    refine ny_finR (res1 rfl rfl) (fun w hs2 => ⟨?_, hs2.frm⟩)
    refine congrArg (fun b => Ending.returned (Value.bool b)) ?_
    first | (rw [ext_to]; exact point_take _) | exact (point_nil (by have h9 := of_decide_eq_false hg10; have h8 : (⟨#[46]⟩ : ByteArray).size = 1 := rfl; have h7 : s.data.toList.length = s.size := rfl; omega)).symm
set_option maxRecDepth 100000 in
theorem hp_c (s : ByteArray) (h : Hp) (hs : s.size ≤ 70368744177600) : C0 Try.prog 34 [.string s, .string ⟨#[46]⟩] h (.bool (pointB s.data.toList)) := by
  refine enter0 Try.func34 rfl rfl rfl (fun w => ?_)
  refine cy_seq ?_
  refine cy_region ?_
  refine sy_assign rfl rfl rfl ?_
  refine sy_nil rfl ?_
  refine ny_next ?_
  refine cy_seq ?_
  refine cy_region ?_
  refine sy_move rfl rfl rfl ?_
  refine sy_move rfl rfl rfl ?_
  refine sy_call rfl call_39 rfl (hp2_c s _ hs) rfl rfl ?_
  refine sy_assign rfl rfl rfl ?_
  refine sy_nil rfl ?_
  refine ny_next ?_
  refine cy_ret ?_
  refine ny_finR (res1 rfl rfl) (fun w hs => ⟨?_, hs.frm⟩)
  rfl
set_option maxRecDepth 100000 in
theorem ends_c (s : ByteArray) (h : Hp) (hs : s.size ≤ 70368744177600) : C0 Try.prog 29 [.string s] h (.bool (endsB s.data.toList)) := by
  refine enter0 Try.func29 rfl rfl rfl (fun w => ?_)
  refine cy_seq ?_
  refine cy_region ?_
  refine sy_assign rfl rfl rfl ?_
  refine sy_nil rfl ?_
  refine ny_next ?_
  refine cy_seq ?_
  refine cy_region ?_
  refine sy_move rfl rfl rfl ?_
  refine sy_call rfl call_34 rfl (hp_c s _ hs) rfl rfl ?_
  refine sy_move rfl rfl rfl ?_
  refine sy_cond (d := 5) _ rfl rfl (fun hg5 => ?_) (fun hg5 => ?_)
  · refine sy_move rfl rfl rfl ?_
    refine sy_len rfl (len_string Try.underlying9 _) rfl rfl ?_
    refine sy_cmp rfl rfl rfl rfl rfl ?_
    refine sy_move rfl rfl rfl ?_
    refine sy_cond (d := 9) _ rfl rfl (fun hg9 => ?_) (fun hg9 => ?_)
    · refine sy_skip rfl rfl rfl ?_
      refine sy_skip rfl rfl rfl ?_
      refine sy_skip rfl rfl rfl ?_
      refine sy_pickT rfl rfl rfl rfl ?_
      refine sy_move rfl rfl rfl ?_
      refine sy_skip rfl rfl rfl ?_
      refine sy_skip rfl rfl rfl ?_
      refine sy_skip rfl rfl rfl ?_
      refine sy_pickT rfl rfl rfl rfl ?_
      refine sy_pickT rfl rfl rfl rfl ?_
      refine sy_assign rfl rfl rfl ?_
      refine sy_nil rfl ?_
      refine ny_next ?_
      refine cy_ret ?_
      refine ny_finR (res1 rfl rfl) (fun w hs2 => ⟨?_, hs2.frm⟩)
      refine congrArg (fun b => Ending.returned (Value.bool b)) ?_
      have h7 : ((s.data.toList.length : Int) == 1) = ((s.size : Int) == 1) := rfl
      unfold endsB
      rw [h7, hg5]
      first | rfl | (rw [hg9, he0]; show _ = (true && (false || (blankB e0 || ((e0.toNat : Int) == 37)))); rw [hg14]; rfl) | (rw [hg9]; rfl)
    · have hsz1 : s.data.toList.length = s.size := rfl
      have hp1 := point_some hg5
      obtain ⟨e0, he0⟩ : ∃ e0, s.data.toList[1]? = some e0 := ⟨_, List.getElem?_eq_getElem (by have h9 : ¬ (s.size : Int) = 1 := (by simpa using hg9); omega)⟩
      refine sy_move rfl rfl rfl ?_
      refine sy_idxs (u := e0) Try.underlying9 rfl rfl (by omega) (ba_at (i := 1) he0) rfl rfl ?_
      refine sy_call rfl call_23 rfl (blank_c e0 _) rfl rfl ?_
      refine sy_pickF rfl rfl rfl rfl ?_
      refine sy_move rfl rfl rfl ?_
      refine sy_cond (d := 14) _ rfl rfl (fun hg14 => ?_) (fun hg14 => ?_)
      · refine sy_skip rfl rfl rfl ?_
        refine sy_skip rfl rfl rfl ?_
        refine sy_skip rfl rfl rfl ?_
        refine sy_pickT rfl rfl rfl rfl ?_
        refine sy_pickT rfl rfl rfl rfl ?_
        refine sy_assign rfl rfl rfl ?_
        refine sy_nil rfl ?_
        refine ny_next ?_
        refine cy_ret ?_
        refine ny_finR (res1 rfl rfl) (fun w hs2 => ⟨?_, hs2.frm⟩)
        refine congrArg (fun b => Ending.returned (Value.bool b)) ?_
        have h7 : ((s.data.toList.length : Int) == 1) = ((s.size : Int) == 1) := rfl
        unfold endsB
        rw [h7, hg5]
        first | rfl | (rw [hg9, he0]; show _ = (true && (false || (blankB e0 || ((e0.toNat : Int) == 37)))); rw [hg14]; rfl) | (rw [hg9]; rfl)
      · refine sy_move rfl rfl rfl ?_
        refine sy_idxs (u := e0) Try.underlying9 rfl rfl (by omega) (ba_at (i := 1) he0) rfl rfl ?_
        refine sy_cmp rfl rfl rfl rfl rfl ?_
        refine sy_pickF rfl rfl rfl rfl ?_
        refine sy_pickT rfl rfl rfl rfl ?_
        refine sy_assign rfl rfl rfl ?_
        refine sy_nil rfl ?_
        refine ny_next ?_
        refine cy_ret ?_
        refine ny_finR (res1 rfl rfl) (fun w hs2 => ⟨?_, hs2.frm⟩)
        refine congrArg (fun b => Ending.returned (Value.bool b)) ?_
        have h7 : ((s.data.toList.length : Int) == 1) = ((s.size : Int) == 1) := rfl
        unfold endsB
        rw [h7, hg5]
        first | rfl | (rw [hg9, he0]; show _ = (true && (false || (blankB e0 || ((e0.toNat : Int) == 37)))); rw [hg14]; rfl) | (rw [hg9]; rfl)
  · refine sy_skip rfl rfl rfl ?_
    refine sy_skip rfl rfl rfl ?_
    refine sy_skip rfl rfl rfl ?_
    refine sy_skip rfl rfl rfl ?_
    refine sy_skip rfl rfl rfl ?_
    refine sy_skip rfl rfl rfl ?_
    refine sy_skip rfl rfl rfl ?_
    refine sy_skip rfl rfl rfl ?_
    refine sy_skip rfl rfl rfl ?_
    refine sy_skip rfl rfl rfl ?_
    refine sy_skip rfl rfl rfl ?_
    refine sy_skip rfl rfl rfl ?_
    refine sy_skip rfl rfl rfl ?_
    refine sy_pickF rfl rfl rfl rfl ?_
    refine sy_assign rfl rfl rfl ?_
    refine sy_nil rfl ?_
    refine ny_next ?_
    refine cy_ret ?_
    refine ny_finR (res1 rfl rfl) (fun w hs2 => ⟨?_, hs2.frm⟩)
    refine congrArg (fun b => Ending.returned (Value.bool b)) ?_
    have h7 : ((s.data.toList.length : Int) == 1) = ((s.size : Int) == 1) := rfl
    unfold endsB
    rw [h7, hg5]
    first | rfl | (rw [hg9, he0]; show _ = (true && (false || (blankB e0 || ((e0.toNat : Int) == 37)))); rw [hg14]; rfl) | (rw [hg9]; rfl)
set_option maxRecDepth 100000 in
theorem esc_c (c : UInt8) (h : Hp) : C0 Try.prog 32 [.int .u8 (c.toNat : Int)] h (.tuple #[.int .u8 (((esc c).getD 0).toNat : Int), .bool (esc c).isSome]) := by
  refine enter0 Try.func32 rfl rfl rfl (fun w => ?_)
  refine cy_seq ?_
  refine cy_region ?_
  refine sy_assign rfl rfl rfl ?_
  refine sy_assign rfl rfl rfl ?_
  refine sy_nil rfl ?_
  refine ny_next ?_
  refine cy_seq ?_
  refine cy_seq ?_
  refine cy_region ?_
  refine sy_move rfl rfl rfl ?_
  refine sy_nil rfl ?_
  refine ny_next ?_
  refine cy_block ?_
  refine cy_seq ?_
  refine cy_seq ?_
  refine cy_region ?_
  refine sy_cmp rfl rfl rfl rfl rfl ?_
  refine sy_assign rfl rfl rfl ?_
  refine sy_nil rfl ?_
  refine ny_next ?_
  refine cy_cond rfl (fun hc5 => ?_) (fun hc5 => ?_)
  · refine cy_skip ?_
    refine ny_next ?_
    refine cy_cond rfl (fun hc5 => ?_) (fun hc5 => ?_)
    · refine cy_seq ?_
      refine cy_region ?_
      refine sy_move rfl rfl rfl ?_
      refine sy_assign rfl rfl rfl ?_
      refine sy_assign rfl rfl rfl ?_
      refine sy_nil rfl ?_
      refine ny_next ?_
      refine cy_ret ?_
      refine ny_blockR ?_
      refine ny_thenR ?_
      refine ny_finR (res2 rfl rfl rfl) (fun w hs2 => ⟨?_, hs2.frm⟩)
      unfold esc
      first | (rw [if_pos (by assumption)]; done) | (simp_all; done)
    · refine cy_seq ?_
      refine cy_region ?_
      refine sy_cmp rfl rfl rfl rfl rfl ?_
      refine sy_assign rfl rfl rfl ?_
      refine sy_nil rfl ?_
      refine ny_next ?_
      refine cy_cond rfl (fun hc9 => ?_) (fun hc9 => ?_)
      · refine cy_seq ?_
        refine cy_region ?_
        refine sy_assign rfl rfl rfl ?_
        refine sy_assign rfl rfl rfl ?_
        refine sy_nil rfl ?_
        refine ny_next ?_
        refine cy_ret ?_
        refine ny_blockR ?_
        refine ny_thenR ?_
        refine ny_finR (res2 rfl rfl rfl) (fun w hs2 => ⟨?_, hs2.frm⟩)
        unfold esc
        first | (rw [if_pos (by assumption)]; done) | (simp_all; done)
      · refine cy_skip ?_
        refine ny_blockN ?_
        refine ny_next ?_
        refine cy_seq ?_
        refine cy_region ?_
        refine sy_assign rfl rfl rfl ?_
        refine sy_assign rfl rfl rfl ?_
        refine sy_nil rfl ?_
        refine ny_next ?_
        refine cy_ret ?_
        refine ny_finR (res2 rfl rfl rfl) (fun w hs2 => ⟨?_, hs2.frm⟩)
        unfold esc
        first | (rw [if_pos (by assumption)]; done) | (simp_all; done)
  · refine cy_region ?_
    refine sy_cmp rfl rfl rfl rfl rfl ?_
    refine sy_assign rfl rfl rfl ?_
    refine sy_nil rfl ?_
    refine ny_next ?_
    refine cy_cond rfl (fun hc5 => ?_) (fun hc5 => ?_)
    · refine cy_seq ?_
      refine cy_region ?_
      refine sy_move rfl rfl rfl ?_
      refine sy_assign rfl rfl rfl ?_
      refine sy_assign rfl rfl rfl ?_
      refine sy_nil rfl ?_
      refine ny_next ?_
      refine cy_ret ?_
      refine ny_blockR ?_
      refine ny_thenR ?_
      refine ny_finR (res2 rfl rfl rfl) (fun w hs2 => ⟨?_, hs2.frm⟩)
      unfold esc
      first | (rw [if_pos (by assumption)]; done) | (simp_all; done)
    · refine cy_seq ?_
      refine cy_region ?_
      refine sy_cmp rfl rfl rfl rfl rfl ?_
      refine sy_assign rfl rfl rfl ?_
      refine sy_nil rfl ?_
      refine ny_next ?_
      refine cy_cond rfl (fun hc9 => ?_) (fun hc9 => ?_)
      · refine cy_seq ?_
        refine cy_region ?_
        refine sy_assign rfl rfl rfl ?_
        refine sy_assign rfl rfl rfl ?_
        refine sy_nil rfl ?_
        refine ny_next ?_
        refine cy_ret ?_
        refine ny_blockR ?_
        refine ny_thenR ?_
        refine ny_finR (res2 rfl rfl rfl) (fun w hs2 => ⟨?_, hs2.frm⟩)
        unfold esc
        first | (rw [if_pos (by assumption)]; done) | (simp_all; done)
      · refine cy_skip ?_
        refine ny_blockN ?_
        refine ny_next ?_
        refine cy_seq ?_
        refine cy_region ?_
        refine sy_assign rfl rfl rfl ?_
        refine sy_assign rfl rfl rfl ?_
        refine sy_nil rfl ?_
        refine ny_next ?_
        refine cy_ret ?_
        refine ny_finR (res2 rfl rfl rfl) (fun w hs2 => ⟨?_, hs2.frm⟩)
        unfold esc
        first | (rw [if_pos (by assumption)]; done) | (simp_all; done)
set_option maxRecDepth 100000 in
theorem bad_c (w : ByteArray) (e : Int) (h : Hp) : C0 Try.prog 13 [.string w, .int .i64 e] h (.iface 44 (.agg #[.string w, .int .i64 e])) := by
  refine enter0 Try.func13 rfl rfl rfl (fun w => ?_)
  refine cy_seq ?_
  refine cy_region ?_
  refine sy_assign rfl rfl rfl ?_
  refine sy_nil rfl ?_
  refine ny_next ?_
  refine cy_seq ?_
  refine cy_region ?_
  refine sy_move rfl rfl rfl ?_
  refine sy_move rfl rfl rfl ?_
  refine sy_build rfl (fun w => bld_44_0x1 w) rfl rfl ?_
  refine sy_iface Try.underlying44 rfl rfl rfl rfl ?_
  refine sy_assign rfl rfl rfl ?_
  refine sy_nil rfl ?_
  refine ny_next ?_
  refine cy_ret ?_
  refine ny_finR (res1 rfl rfl) (fun w hs => ⟨?_, hs.frm⟩)
  rfl
end Go.Proofs.Ytdbeiaohibgmeaa

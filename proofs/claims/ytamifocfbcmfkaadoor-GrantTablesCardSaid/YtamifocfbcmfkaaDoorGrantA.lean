/- The grants' functions: the walks. Conditions: as each says. Printed by a program of this session. -/
import Derived.Test.YtamifocfbcmfkaaDoorFactsW
import Derived.Test.YtamifocfbcmfkaaDoorChanB
import Derived.Test.YtamifocfbcmfkaaDoorGrantPure
set_option linter.unusedVariables false
set_option linter.unusedSimpArgs false
namespace Go.Proofs.YtamifocfbcmfkaaDoor
open Go.RowKit Go.Proofs.YtamifocfbcmfkaaDoor.E Go.Proofs.YtamifocfbcmfkaaDoor.LattP Go.Proofs.YtamifocfbcmfkaaDoor.ChanP Go.Proofs.YtamifocfbcmfkaaDoor.GrantP
def gtxt (o : ByteArray) (x y : Int) : ByteArray := (((o ++ ⟨#[32]⟩) ++ ⟨(Lib.itoa x).toArray⟩) ++ ⟨#[62]⟩) ++ ⟨(Lib.itoa y).toArray⟩
theorem size1b : (⟨#[62]⟩ : ByteArray).size = 1 := rfl
set_option maxRecDepth 100000 in
theorem gname_c (s : ByteArray) (h : Hp) (hs : s.size ≤ 9223372036854775807) : C0 Tryd.prog 76 [.string s] h (.bool (nameB s)) := by
  refine enter0 Tryd.func76 rfl rfl rfl (fun w => ?_)
  refine cy_seq ?_
  refine cy_region ?_
  refine sy_assign rfl rfl rfl ?_
  refine sy_nil rfl ?_
  refine ny_next ?_
  refine cy_seq ?_
  refine cy_seq ?_
  refine cy_region ?_
  refine sy_move rfl rfl rfl ?_
  refine sy_strbytes Tryd.underlying9 Tryd.underlying118 Tryd.underlying5 rfl rfl rfl (fun b6 c6 h6 hle6 hr6 => ?_) (by simp)
  refine sy_len rfl (len_slice Tryd.underlying118 _ _ _) rfl rfl ?_
  refine sy_move rfl rfl rfl ?_
  refine sy_nil rfl ?_
  refine ny_next ?_
  refine cy_block ?_
  refine cy_loopK (ι := Nat) [0, 6, 7] rfl (fun i => i ≤ s.size ∧ (s.data.toList.take i).all lettB = true) (fun i => s.size - i) (fun i => [(8, .int .i64 (i : Int))]) (fun i => h6) (fun i => []) 0 [] ⟨Nat.zero_le _, by simp⟩ ⟨rfl, trivial⟩ rfl rfl ?_
  rintro i ⟨hI, hpre⟩
  refine cy_seq ?_
  refine cy_region ?_
  refine sy_cmp rfl rfl rfl rfl rfl ?_
  refine sy_nil rfl ?_
  refine ny_next ?_
  refine cy_seq ?_
  refine cy_cond rfl (fun hc9 => ?_) (fun hc9 => ?_)
  · have hlti : i < s.size := by have := of_decide_eq_true hc9; omega
    refine cy_skip ?_
    refine ny_next ?_
    refine cy_seq ?_
    refine cy_block ?_
    refine cy_seq ?_
    refine cy_region ?_
    refine sy_idxR (fc := byteC) (es := s.data.toList) els_118 rfl rfl hr6 rfl (by omega) rfl rfl (fun e10 b10 o10 he10 hA10 hc10 => ?_)
    refine sy_ldh one_5 rfl (hc10 0 _ rfl) rfl rfl ?_
    refine sy_assign rfl rfl rfl ?_
    refine sy_nil rfl ?_
    refine ny_next ?_
    refine cy_seq ?_
    refine cy_region ?_
    refine sy_move rfl rfl rfl ?_
    refine sy_cmp rfl rfl rfl rfl rfl ?_
    refine sy_move rfl rfl rfl ?_
    refine sy_cond (d := 14) _ rfl rfl (fun hg14 => ?_) (fun hg14 => ?_)
    · have hlo : e10.toNat < 97 := by have := of_decide_eq_true hg14; omega
      refine sy_skip rfl rfl rfl ?_
      refine sy_skip rfl rfl rfl ?_
      refine sy_pickT rfl rfl rfl rfl ?_
      refine sy_nil rfl ?_
      refine ny_next ?_
      refine cy_condT rfl ?_
      refine cy_seq ?_
      refine cy_region ?_
      refine sy_assign rfl rfl rfl ?_
      refine sy_nil rfl ?_
      refine ny_next ?_
      refine cy_ret ?_
      refine ny_blockR ?_
      refine ny_thenR ?_
      refine ny_thenR ?_
      refine ny_blockR ?_
      refine ny_thenR ?_
      refine ny_finR (res1 rfl rfl) (fun w hs2 => ⟨?_, hs2.frm⟩)
      have hno : lettB e10 = false := by first | (unfold lettB; simp; omega) | (have := of_decide_eq_true hc17; unfold lettB; simp; omega)
      unfold nameB
      rw [all_no he10 hno]
      rfl
    · have hlo : ¬ e10.toNat < 97 := by have := of_decide_eq_false hg14; omega
      refine sy_move rfl rfl rfl ?_
      refine sy_cmp rfl rfl rfl rfl rfl ?_
      refine sy_pickF rfl rfl rfl rfl ?_
      refine sy_nil rfl ?_
      refine ny_next ?_
      refine cy_cond rfl (fun hc17 => ?_) (fun hc17 => ?_)
      · skip
        refine cy_seq ?_
        refine cy_region ?_
        refine sy_assign rfl rfl rfl ?_
        refine sy_nil rfl ?_
        refine ny_next ?_
        refine cy_ret ?_
        refine ny_blockR ?_
        refine ny_thenR ?_
        refine ny_thenR ?_
        refine ny_blockR ?_
        refine ny_thenR ?_
        refine ny_finR (res1 rfl rfl) (fun w hs2 => ⟨?_, hs2.frm⟩)
        have hno : lettB e10 = false := by first | (unfold lettB; simp; omega) | (have := of_decide_eq_true hc17; unfold lettB; simp; omega)
        unfold nameB
        rw [all_no he10 hno]
        rfl
      · have hhi : e10.toNat ≤ 122 := by have := of_decide_eq_false hc17; omega
        refine cy_skip ?_
        refine ny_blockN ?_
        refine ny_next ?_
        refine cy_region ?_
        refine sy_addi (z := ((i + 1 : Nat) : Int)) rfl rfl (by omega) (by omega) (by omega) rfl rfl ?_
        refine sy_move rfl rfl rfl ?_
        refine sy_nil rfl ?_
        refine ny_roundK [0, 6, 7] (i + 1) [] ⟨by omega, by rw [all_take_succ he10, hpre]; simp [lettB]; omega⟩ (show s.size - (i + 1) < s.size - i by omega) rfl ⟨rfl, trivial⟩ rfl rfl
  · have hie : i = s.size := by have := of_decide_eq_false hc9; omega
    subst hie
    refine cy_exit ?_
    refine ny_thenE ?_
    refine ny_thenE ?_
    refine ny_blockX ?_
    refine ny_next ?_
    refine cy_seq ?_
    refine cy_region ?_
    refine sy_move rfl rfl rfl ?_
    refine sy_nes rfl rfl rfl rfl ?_
    refine sy_move rfl rfl rfl ?_
    refine sy_cond (d := 21) _ rfl rfl (fun hg21 => ?_) (fun hg21 => ?_)
    · refine sy_move rfl rfl rfl ?_
      refine sy_len rfl (len_string Tryd.underlying9 _) rfl rfl ?_
      refine sy_cmp rfl rfl rfl rfl rfl ?_
      refine sy_pickT rfl rfl rfl rfl ?_
      refine sy_assign rfl rfl rfl ?_
      refine sy_nil rfl ?_
      refine ny_next ?_
      refine cy_ret ?_
      refine ny_finR (res1 rfl rfl) (fun w hs2 => ⟨?_, hs2.frm⟩)
      have hp2 : s.data.toList.all lettB = true := by rw [← hpre]; congr 1; exact (List.take_of_length_le (Nat.le_refl _)).symm
      rw [name_end hp2, hg21]
      rfl
    · refine sy_skip rfl rfl rfl ?_
      refine sy_skip rfl rfl rfl ?_
      refine sy_skip rfl rfl rfl ?_
      refine sy_pickF rfl rfl rfl rfl ?_
      refine sy_assign rfl rfl rfl ?_
      refine sy_nil rfl ?_
      refine ny_next ?_
      refine cy_ret ?_
      refine ny_finR (res1 rfl rfl) (fun w hs2 => ⟨?_, hs2.frm⟩)
      have hp2 : s.data.toList.all lettB = true := by rw [← hpre]; congr 1; exact (List.take_of_length_le (Nat.le_refl _)).symm
      rw [name_end hp2, hg21]
      rfl
set_option maxRecDepth 100000 in
theorem gwrong_c (g n : Nat) (u : U) (h : Hp) (hg : h g = some (lat 94 n u)) (hn1 : 1 ≤ n) (hn : n ≤ 16) (hu : ∀ a, u a < 65536) (e : Gr) (hs : e.s.size ≤ 140737488355328) : C0 Tryd.prog 56 [.pointer (some ⟨g, 0, none⟩), .agg (grC e).toArray] h (.int .i64 (wrongI n u e)) := by
  refine enter0 Tryd.func56 rfl rfl rfl (fun w => ?_)
  refine cy_seq ?_
  refine cy_region ?_
  refine sy_box rfl rfl rfl rfl (fun b3 hb3 hM3 => ?_) (by simp)
  refine sy_assign rfl rfl rfl ?_
  refine sy_nil rfl ?_
  refine ny_next ?_
  refine cy_seq ?_
  refine cy_block ?_
  refine cy_seq ?_
  refine cy_block ?_
  refine cy_block ?_
  refine cy_seq ?_
  refine cy_block ?_
  refine cy_seq ?_
  refine cy_seq ?_
  refine cy_seq ?_
  refine cy_region ?_
  refine sy_field fld_38_0 rfl rfl rfl ?_
  first | refine sy_ldr 0 one_9 rfl rfl rfl rfl rfl ?_
  refine sy_call rfl call_76 rfl (gname_c e.s _ (by omega)) rfl rfl ?_
  refine sy_not rfl rfl rfl ?_
  refine sy_assign rfl rfl rfl ?_
  refine sy_nil rfl ?_
  refine ny_next ?_
  refine cy_cond rfl (fun hc5 => ?_) (fun hc5 => ?_)
  · refine cy_exit ?_
    refine ny_thenE ?_
    refine ny_thenE ?_
    refine ny_blockX ?_
    refine ny_next ?_
    refine cy_seq ?_
    refine cy_seq ?_
    refine cy_region ?_
    refine sy_assign rfl rfl rfl ?_
    refine sy_nil rfl ?_
    refine ny_next ?_
    refine cy_ret ?_
    refine ny_thenR ?_
    refine ny_blockR ?_
    refine ny_blockR ?_
    refine ny_thenR ?_
    refine ny_blockR ?_
    refine ny_thenR ?_
    refine ny_finR (res1 rfl rfl) (fun w hs2 => ⟨?_, hs2.frm⟩)
    unfold wrongI
    simp_all
  · refine cy_skip ?_
    refine ny_next ?_
    refine cy_seq ?_
    refine cy_seq ?_
    refine cy_region ?_
    refine sy_move rfl rfl rfl ?_
    refine sy_field fld_38_1 rfl rfl rfl ?_
    first | refine sy_ldr 0 one_3 rfl rfl rfl rfl rfl ?_
    refine sy_field fld_38_1 rfl rfl rfl ?_
    first | refine sy_ldr 0 one_3 rfl rfl rfl rfl rfl ?_
    refine sy_call rfl call_23 rfl (leq_c _ _ _ _ hg hn1 hn hu _ _) rfl rfl ?_
    refine sy_not rfl rfl rfl ?_
    refine sy_assign rfl rfl rfl ?_
    refine sy_nil rfl ?_
    refine ny_next ?_
    refine cy_cond rfl (fun hc10 => ?_) (fun hc10 => ?_)
    · refine cy_exit ?_
      refine ny_thenE ?_
      refine ny_thenE ?_
      refine ny_blockY rfl ?_
      refine ny_thenE ?_
      refine ny_blockX ?_
      refine ny_blockN ?_
      refine ny_next ?_
      refine cy_seq ?_
      refine cy_seq ?_
      refine cy_region ?_
      refine sy_assign rfl rfl rfl ?_
      refine sy_nil rfl ?_
      refine ny_next ?_
      refine cy_ret ?_
      refine ny_thenR ?_
      refine ny_blockR ?_
      refine ny_thenR ?_
      refine ny_finR (res1 rfl rfl) (fun w hs2 => ⟨?_, hs2.frm⟩)
      unfold wrongI
      simp_all
    · refine cy_skip ?_
      refine ny_next ?_
      refine cy_seq ?_
      refine cy_region ?_
      refine sy_move rfl rfl rfl ?_
      refine sy_field fld_38_2 rfl rfl rfl ?_
      first | refine sy_ldr 0 one_3 rfl rfl rfl rfl rfl ?_
      refine sy_field fld_38_2 rfl rfl rfl ?_
      first | refine sy_ldr 0 one_3 rfl rfl rfl rfl rfl ?_
      refine sy_call rfl call_23 rfl (leq_c _ _ _ _ hg hn1 hn hu _ _) rfl rfl ?_
      refine sy_not rfl rfl rfl ?_
      refine sy_assign rfl rfl rfl ?_
      refine sy_nil rfl ?_
      refine ny_next ?_
      refine cy_cond rfl (fun hc18 => ?_) (fun hc18 => ?_)
      · refine cy_exit ?_
        refine ny_thenE ?_
        refine ny_blockY rfl ?_
        refine ny_thenE ?_
        refine ny_blockY rfl ?_
        refine ny_blockX ?_
        refine ny_next ?_
        refine cy_seq ?_
        refine cy_seq ?_
        refine cy_region ?_
        refine sy_assign rfl rfl rfl ?_
        refine sy_nil rfl ?_
        refine ny_next ?_
        refine cy_ret ?_
        refine ny_thenR ?_
        refine ny_blockR ?_
        refine ny_thenR ?_
        refine ny_finR (res1 rfl rfl) (fun w hs2 => ⟨?_, hs2.frm⟩)
        unfold wrongI
        simp_all
      · refine cy_skip ?_
        refine ny_next ?_
        refine cy_exit ?_
        refine ny_blockY rfl ?_
        refine ny_thenE ?_
        refine ny_blockY rfl ?_
        refine ny_blockY rfl ?_
        refine ny_thenE ?_
        refine ny_blockX ?_
        refine ny_next ?_
        refine cy_seq ?_
        refine cy_region ?_
        refine sy_assign rfl rfl rfl ?_
        refine sy_nil rfl ?_
        refine ny_next ?_
        refine cy_ret ?_
        refine ny_finR (res1 rfl rfl) (fun w hs2 => ⟨?_, hs2.frm⟩)
        unfold wrongI
        simp_all
set_option maxRecDepth 100000 in
theorem gnewN_c (A : Option Addr) (l c : Nat) (h : Hp) : C0 Tryd.prog 20 [.pointer none, .slice A l c] h (.tuple #[.pointer none, .iface 96 (.agg #[.string ⟨#[110, 111, 32, 108, 97, 116, 116, 105, 99, 101]⟩, .int .i64 1])]) := by
  refine enter0 Tryd.func20 rfl rfl rfl (fun w => ?_)
  refine cy_seq ?_
  refine cy_region ?_
  refine sy_assign rfl rfl rfl ?_
  refine sy_assign rfl rfl rfl ?_
  refine sy_nil rfl ?_
  refine ny_next ?_
  refine cy_seq ?_
  refine cy_block ?_
  refine cy_seq ?_
  refine cy_region ?_
  refine sy_move rfl rfl rfl ?_
  refine sy_eqp Tryd.underlying27 rfl rfl rfl rfl rfl ?_
  refine sy_assign rfl rfl rfl ?_
  refine sy_setT (d := 9) rfl rfl rfl ?_
  refine sy_nil rfl ?_
  refine ny_next ?_
  refine cy_condT rfl ?_
  refine cy_seq ?_
  refine cy_region ?_
  refine sy_build rfl (fun w => bld_96_0x1 w) rfl rfl ?_
  refine sy_iface Tryd.underlying96 rfl rfl rfl rfl ?_
  refine sy_assign rfl rfl rfl ?_
  refine sy_assign rfl rfl rfl ?_
  refine sy_nil rfl ?_
  refine ny_next ?_
  refine cy_ret ?_
  refine ny_blockR ?_
  refine ny_thenR ?_
  refine ny_finR (res2 rfl rfl rfl) (fun w hs2 => ⟨rfl, hs2.frm⟩)
set_option maxRecDepth 100000 in
theorem gnew_c (g n : Nat) (u : U) (h : Hp) (hg : h g = some (lat 94 n u)) (hn1 : 1 ≤ n) (hn : n ≤ 16) (hu : ∀ a, u a < 65536) (AG : Option Addr) (lG cG : Nat) (gs : List Gr) (hG : RowsAt h AG 3 (gs.map grC)) (hlG : gs.length = lG) (hcG : lG ≤ cG) (hBG : lG * 32 ≤ 140737488351232) (ht : Tab10 h) (hok : ∀ g, g ∈ gs → g.s.size ≤ 140737488355328) : CX Tryd.prog 20 [.pointer (some ⟨g, 0, none⟩), .slice AG lG cG] h (fun x : Nat ⊕ (ByteArray × Int) => match x with | .inl tb => .tuple #[.pointer (some ⟨tb, 0, none⟩), .nilIface] | .inr x => .tuple #[.pointer none, .iface 96 (.agg #[.string x.1, .int .i64 x.2])]) (fun x h' => match x with | .inl tb => newI n u gs = 0 ∧ TableAt h' 100 tb g gs | .inr x => x.2 = newI n u gs ∧ x.2 ≠ 0) := by
  refine enterX Tryd.func20 rfl rfl rfl (fun w => ?_)
  refine cy_seq ?_
  refine cy_region ?_
  refine sy_assign rfl rfl rfl ?_
  refine sy_assign rfl rfl rfl ?_
  refine sy_nil rfl ?_
  refine ny_next ?_
  refine cy_seq ?_
  refine cy_block ?_
  refine cy_seq ?_
  refine cy_region ?_
  refine sy_move rfl rfl rfl ?_
  refine sy_eqp Tryd.underlying27 rfl rfl rfl rfl rfl ?_
  refine sy_assign rfl rfl rfl ?_
  refine sy_setF (d := 9) rfl rfl rfl ?_
  refine sy_nil rfl ?_
  refine ny_next ?_
  refine cy_condF rfl ?_
  refine cy_seq ?_
  refine cy_region ?_
  refine sy_move rfl rfl rfl ?_
  refine sy_len rfl (len_slice Tryd.underlying25 _ _ _) rfl rfl ?_
  refine sy_cmp rfl rfl rfl rfl rfl ?_
  refine sy_assign rfl rfl rfl ?_
  refine sy_nil rfl ?_
  refine ny_next ?_
  refine cy_cond rfl (fun hc14 => ?_) (fun hc14 => ?_)
  · refine cy_seq ?_
    refine cy_region ?_
    refine sy_move rfl rfl rfl ?_
    refine sy_len rfl (len_slice Tryd.underlying25 _ _ _) rfl rfl ?_
    refine sy_call rfl call_55 rfl (itoa_c _ _ (by omega) (by omega) ht) rfl rfl ?_
    refine sy_cat rfl rfl (by have := itoa_size (lG : Int) (by omega) (by omega); show (⟨(Lib.itoa (lG : Int)).toArray⟩ : ByteArray).size + 7 ≤ _; omega) rfl rfl ?_
    refine sy_build rfl (fun w => bld_96_0x1 w) rfl rfl ?_
    refine sy_iface Tryd.underlying96 rfl rfl rfl rfl ?_
    refine sy_assign rfl rfl rfl ?_
    refine sy_assign rfl rfl rfl ?_
    refine sy_nil rfl ?_
    refine ny_next ?_
    refine cy_ret ?_
    refine ny_blockR ?_
    refine ny_thenR ?_
    refine ny_finR (res2 rfl rfl rfl) (fun w hs2 => ⟨.inr (_, 3), _, rfl, ?_, hs2.toGrow⟩)
    exact ⟨(newI_full (by have := of_decide_eq_true hc14; omega)).symm, show (3 : Int) ≠ 0 by decide⟩
  · have hl100 : lG ≤ 100 := by have := of_decide_eq_false hc14; omega
    refine cy_skip ?_
    refine ny_blockN ?_
    refine ny_next ?_
    refine cy_seq ?_
    refine cy_seq ?_
    refine cy_region ?_
    refine sy_move rfl rfl rfl ?_
    refine sy_len rfl (len_slice Tryd.underlying25 _ _ _) rfl rfl ?_
    refine sy_move rfl rfl rfl ?_
    refine sy_nil rfl ?_
    refine ny_next ?_
    refine cy_block ?_
    refine cy_loopK (ι := Nat) [0, 1, 24, 25] rfl (fun i => i ≤ lG ∧ ∀ j x, j < i → gs[j]? = some x → wrongI n u x = 0) (fun i => lG - i) (fun i => [(26, .int .i64 (i : Int))]) (fun i => h) (fun i => []) 0 [] ⟨Nat.zero_le _, fun j x hj => absurd hj (Nat.not_lt_zero j)⟩ ⟨rfl, trivial⟩ rfl rfl ?_
    rintro i ⟨hI, hpre⟩
    refine cy_seq ?_
    refine cy_region ?_
    refine sy_cmp rfl rfl rfl rfl rfl ?_
    refine sy_nil rfl ?_
    refine ny_next ?_
    refine cy_seq ?_
    refine cy_cond rfl (fun hc27 => ?_) (fun hc27 => ?_)
    · have hlti : i < lG := by have := of_decide_eq_true hc27; omega
      refine cy_skip ?_
      refine ny_next ?_
      refine cy_seq ?_
      refine cy_block ?_
      refine cy_seq ?_
      refine cy_region ?_
      refine sy_move rfl rfl rfl ?_
      refine sy_idxR (fc := grC) (es := gs) els_25 rfl rfl hG hlG (by omega) rfl rfl (fun e29 b29 o29 he29 hA29 hc29 => ?_)
      refine sy_ldah (vs := grC e29) agg_38 rfl rfl hc29 rfl rfl ?_
      refine sy_alloc zer_38 rfl rfl (fun b7 hb7 hM7 => ?_) (by simp)
      refine sy_assign rfl rfl rfl ?_
      first | refine sy_stl 0 sz_38 rfl rfl rfl rfl rfl rfl rfl rfl ?_ | refine sy_stl 1 sz_38 rfl rfl rfl rfl rfl rfl rfl rfl ?_ | refine sy_stl 2 sz_38 rfl rfl rfl rfl rfl rfl rfl rfl ?_
      refine sy_nil rfl ?_
      refine ny_next ?_
      refine cy_seq ?_
      refine cy_region ?_
      refine sy_move rfl rfl rfl ?_
      first | refine sy_ldar 0 agg_38 rfl rfl rfl rfl rfl ?_ | refine sy_ldar 1 agg_38 rfl rfl rfl rfl rfl ?_ | refine sy_ldar 2 agg_38 rfl rfl rfl rfl rfl ?_
      refine sy_call rfl call_56 rfl (gwrong_c g n u _ hg hn1 hn hu e29 (hok _ (List.mem_of_getElem? he29))) rfl rfl ?_
      refine sy_assign rfl rfl rfl ?_
      refine sy_nil rfl ?_
      refine ny_next ?_
      refine cy_seq ?_
      refine cy_region ?_
      refine sy_move rfl rfl rfl ?_
      refine sy_cmp rfl rfl rfl rfl rfl ?_
      refine sy_nil rfl ?_
      refine ny_next ?_
      refine cy_cond rfl (fun hc35 => ?_) (fun hc35 => ?_)
      · refine cy_seq ?_
        refine cy_region ?_
        refine sy_move rfl rfl rfl ?_
        refine sy_call rfl call_55 rfl (itoa_c _ _ (by omega) (by omega) ht) rfl rfl ?_
        refine sy_cat rfl rfl (by have := itoa_size (i : Int) (by omega) (by omega); show 6 + (⟨(Lib.itoa (i : Int)).toArray⟩ : ByteArray).size ≤ _; omega) rfl rfl ?_
        refine sy_move rfl rfl rfl ?_
        refine sy_build rfl (fun w => bld_96_0x1 w) rfl rfl ?_
        refine sy_iface Tryd.underlying96 rfl rfl rfl rfl ?_
        refine sy_assign rfl rfl rfl ?_
        refine sy_assign rfl rfl rfl ?_
        refine sy_nil rfl ?_
        refine ny_next ?_
        refine cy_ret ?_
        refine ny_blockR ?_
        refine ny_thenR ?_
        refine ny_thenR ?_
        refine ny_blockR ?_
        refine ny_thenR ?_
        have hwr : wrongI n u e29 ≠ 0 := by simpa using hc35
        have hnw : newI n u gs = wrongI n u e29 := newI_bad (by have := of_decide_eq_false hc14; omega) he29 hpre hwr
        refine ny_finR (res2 rfl rfl rfl) (fun w hs2 => ⟨.inr (_, wrongI n u e29), _, rfl, ?_, hs2.toGrow⟩)
        exact ⟨hnw.symm, hwr⟩
      · refine cy_skip ?_
        refine ny_blockN ?_
        refine ny_next ?_
        refine cy_region ?_
        refine sy_addi (z := ((i + 1 : Nat) : Int)) rfl rfl (by omega) (by omega) (by omega) rfl rfl ?_
        refine sy_move rfl rfl rfl ?_
        refine sy_nil rfl ?_
        refine ny_roundK [0, 1, 24, 25] (i + 1) [] ⟨by omega, fun j x hj hx => ?_⟩ (show lG - (i + 1) < lG - i by omega) rfl ⟨rfl, trivial⟩ rfl rfl
        rcases Nat.lt_succ_iff_lt_or_eq.1 hj with hj | hj
        · exact hpre j x hj hx
        · subst hj
          rw [he29] at hx
          injection hx with hx
          subst hx
          simpa using hc35
    · have hie : i = lG := by have := of_decide_eq_false hc27; omega
      subst hie
      refine cy_exit ?_
      refine ny_thenE ?_
      refine ny_thenE ?_
      refine ny_blockX ?_
      refine ny_next ?_
      refine cy_seq ?_
      refine cy_region ?_
      refine sy_move rfl rfl rfl ?_
      refine sy_buildSlice (cs := []) rfl (fun w => bsl_25_0_ w) rfl rfl (fun b44 hb44 hM44 => ?_) (by simp)
      refine sy_move rfl rfl rfl ?_
      refine sy_asRow (l := 0) (sz := 3) (cs := []) 0 rfl rfl (Nat.zero_le _) ?_
      refine sy_appendh (news := (gs.map grC).flatten) 0 row_25 (by decide) rfl rfl rfl (fun hA => by have := hG.none hA; simp only [List.length_map] at this; omega) (by rw [flat_len (grC_len gs)]; simp [hlG]) (hG.cells (by decide) (grC_len gs)) (grC_ones gs) (by omega) (by simp only [maxLen]; omega) rfl rfl (fun v46 => ?_)
      refine sy_frzRow 0 rfl (fun _ _ => by simp) (fun A46 c46 h46 hv46 hlc46 hcm46 _ hle46 hcell46 => ?_)
      subst hv46
      rw [Nat.zero_add]
      have hr46 : RowsAt h46 A46 3 (gs.map grC) := by
        rw [List.nil_append] at hcell46
        exact rows_row (by decide) (grC_len _) hcell46
      refine sy_build rfl (fun w => bld_100_0x1 w) rfl rfl ?_
      refine sy_box rfl rfl rfl rfl (fun b48 hb48 hM48 => ?_) (by simp)
      refine sy_assign rfl rfl rfl ?_
      refine sy_assign rfl rfl rfl ?_
      refine sy_nil rfl ?_
      refine ny_next ?_
      refine cy_ret ?_
      refine ny_finR (res2 rfl rfl rfl) (fun w hs2 => ?_)
      obtain ⟨h8, hle8, hb8, hs8⟩ := frz 0 rfl (by simp) hs2
      exact ⟨.inl b48, h8, rfl, ⟨newI_fine (by have := of_decide_eq_false hc14; omega) (by rw [hlG]; exact hpre), A46, c46, by rw [hlG]; exact hb8, hr46.le hle8⟩, hs8.toGrow⟩
theorem gnewGood_c (g n : Nat) (u : U) (h : Hp) (hg : h g = some (lat 94 n u)) (hn1 : 1 ≤ n) (hn : n ≤ 16) (hu : ∀ a, u a < 65536) (AG : Option Addr) (lG cG : Nat) (gs : List Gr) (hG : RowsAt h AG 3 (gs.map grC)) (hlG : gs.length = lG) (hcG : lG ≤ cG) (hBG : lG * 32 ≤ 140737488351232) (ht : Tab10 h) (hok : ∀ g, g ∈ gs → g.s.size ≤ 140737488355328) (h0 : newI n u gs = 0) : CX Tryd.prog 20 [.pointer (some ⟨g, 0, none⟩), .slice AG lG cG] h (fun tb : Nat => .tuple #[.pointer (some ⟨tb, 0, none⟩), .nilIface]) (fun tb h' => TableAt h' 100 tb g gs) := fun w hw => by
  refine (gnew_c g n u h hg hn1 hn hu AG lG cG gs hG hlG hcG hBG ht hok w hw).mono fun e w' ⟨x, h', he, hx, hgr⟩ => ?_
  cases x with
  | inl tb => exact ⟨tb, h', he, hx.2, hgr⟩
  | inr x => exact absurd (hx.1.trans h0) hx.2
theorem gnewBad_c (g n : Nat) (u : U) (h : Hp) (hg : h g = some (lat 94 n u)) (hn1 : 1 ≤ n) (hn : n ≤ 16) (hu : ∀ a, u a < 65536) (AG : Option Addr) (lG cG : Nat) (gs : List Gr) (hG : RowsAt h AG 3 (gs.map grC)) (hlG : gs.length = lG) (hcG : lG ≤ cG) (hBG : lG * 32 ≤ 140737488351232) (ht : Tab10 h) (hok : ∀ g, g ∈ gs → g.s.size ≤ 140737488355328) (h0 : newI n u gs ≠ 0) : CX Tryd.prog 20 [.pointer (some ⟨g, 0, none⟩), .slice AG lG cG] h (fun x : ByteArray => .tuple #[.pointer none, .iface 96 (.agg #[.string x, .int .i64 (newI n u gs)])]) (fun _ _ => True) := fun w hw => by
  refine (gnew_c g n u h hg hn1 hn hu AG lG cG gs hG hlG hcG hBG ht hok w hw).mono fun e w' ⟨x, h', he, hx, hgr⟩ => ?_
  cases x with
  | inl tb => exact absurd hx.1 h0
  | inr x => exact ⟨x.1, h', by rw [← hx.1]; exact he, trivial, hgr⟩
set_option maxRecDepth 100000 in
theorem gmay_c (g n : Nat) (u : U) (h : Hp) (hg : h g = some (lat 94 n u)) (hn1 : 1 ≤ n) (hn : n ≤ 16) (hu : ∀ a, u a < 65536) (tb : Nat) (gs : List Gr) (hT : TableAt h 100 tb g gs) (hlm : gs.length ≤ 100) (o : ByteArray) (x y : Int) : C0 Tryd.prog 22 [.pointer (some ⟨tb, 0, none⟩), .string o, .int .i64 x, .int .i64 y] h (.bool (gs.any (mayB n u o x y))) := by
  obtain ⟨A, c, hT1, hT2⟩ := hT
  refine enter0 Tryd.func22 rfl rfl rfl (fun w => ?_)
  refine cy_seq ?_
  refine cy_region ?_
  refine sy_assign rfl rfl rfl ?_
  refine sy_nil rfl ?_
  refine ny_next ?_
  refine cy_seq ?_
  refine cy_seq ?_
  refine cy_region ?_
  refine sy_move rfl rfl rfl ?_
  refine sy_eqp Tryd.underlying32 rfl rfl rfl rfl rfl ?_
  refine sy_setF (d := 12) rfl rfl rfl ?_
  refine sy_nil rfl ?_
  refine ny_next ?_
  refine cy_condF rfl ?_
  refine cy_skip ?_
  refine ny_next ?_
  refine cy_seq ?_
  refine cy_seq ?_
  refine cy_region ?_
  refine sy_move rfl rfl rfl ?_
  refine sy_nilCheck rfl rfl rfl ?_
  refine sy_field fld_100_1 rfl rfl rfl ?_
  refine sy_ldh one_25 rfl (Hp.blk hT1 1 _ rfl) rfl rfl ?_
  refine sy_len rfl (len_slice Tryd.underlying25 _ _ _) rfl rfl ?_
  refine sy_move rfl rfl rfl ?_
  refine sy_nil rfl ?_
  refine ny_next ?_
  refine cy_block ?_
  refine cy_loopK (ι := Nat) [0, 1, 2, 3, 16, 17] rfl (fun i => i ≤ gs.length ∧ (gs.take i).any (mayB n u o x y) = false) (fun i => gs.length - i) (fun i => [(18, .int .i64 (i : Int))]) (fun i => h) (fun i => []) 0 [] ⟨Nat.zero_le _, by simp⟩ ⟨rfl, trivial⟩ rfl rfl ?_
  rintro i ⟨hI, hpre⟩
  refine cy_seq ?_
  refine cy_region ?_
  refine sy_cmp rfl rfl rfl rfl rfl ?_
  refine sy_nil rfl ?_
  refine ny_next ?_
  refine cy_seq ?_
  refine cy_cond rfl (fun hc19 => ?_) (fun hc19 => ?_)
  · have hlti : i < gs.length := by have := of_decide_eq_true hc19; omega
    refine cy_skip ?_
    refine ny_next ?_
    refine cy_seq ?_
    refine cy_block ?_
    refine cy_seq ?_
    refine cy_region ?_
    refine sy_idxR (fc := grC) (es := gs) els_25 rfl rfl hT2 rfl (by omega) rfl rfl (fun e20 b20 o20 he20 hA20 hc20 => ?_)
    refine sy_ldah (vs := grC e20) agg_38 rfl rfl hc20 rfl rfl ?_
    refine sy_alloc zer_38 rfl rfl (fun b10 hb10 hM10 => ?_) (by simp)
    first | refine sy_stl 0 sz_38 rfl rfl rfl rfl rfl rfl rfl rfl ?_
    refine sy_nil rfl ?_
    refine ny_next ?_
    refine cy_seq ?_
    refine cy_regionQ mixedA (by kernel_rfl) ?_
    refine sy_field fld_38_0 rfl rfl rfl ?_
    first | refine sy_ldr 0 one_9 rfl rfl rfl rfl rfl ?_
    refine sy_move rfl rfl rfl ?_
    refine sy_eqs rfl rfl rfl rfl ?_
    refine sy_move rfl rfl rfl ?_
    refine sy_cond (d := 26) _ rfl rfl (fun hg26 => ?_) (fun hg26 => ?_)
    · refine sy_move rfl rfl rfl ?_
      refine sy_nilCheck rfl rfl rfl ?_
      refine sy_field fld_100_0 rfl rfl rfl ?_
      refine sy_ldh one_27 rfl (Hp.blk hT1 0 _ rfl) rfl rfl ?_
      refine sy_move rfl rfl rfl ?_
      refine sy_field fld_38_1 rfl rfl rfl ?_
      first | refine sy_ldr 0 one_3 rfl rfl rfl rfl rfl ?_
      refine sy_call rfl call_23 rfl (leq_c _ _ _ _ hg hn1 hn hu _ _) rfl rfl ?_
      refine sy_pickT rfl rfl rfl rfl ?_
      refine sy_move rfl rfl rfl ?_
      refine sy_cond (d := 36) _ rfl rfl (fun hg36 => ?_) (fun hg36 => ?_)
      · refine sy_move rfl rfl rfl ?_
        refine sy_nilCheck rfl rfl rfl ?_
        refine sy_field fld_100_0 rfl rfl rfl ?_
        refine sy_ldh one_27 rfl (Hp.blk hT1 0 _ rfl) rfl rfl ?_
        refine sy_field fld_38_2 rfl rfl rfl ?_
        first | refine sy_ldr 0 one_3 rfl rfl rfl rfl rfl ?_
        refine sy_move rfl rfl rfl ?_
        refine sy_call rfl call_23 rfl (leq_c _ _ _ _ hg hn1 hn hu _ _) rfl rfl ?_
        refine sy_pickT rfl rfl rfl rfl ?_
        refine sy_nil rfl ?_
        refine ny_next ?_
        refine cy_cond rfl (fun hc45 => ?_) (fun hc45 => ?_)
        · refine cy_seq ?_
          refine cy_region ?_
          refine sy_assign rfl rfl rfl ?_
          refine sy_nil rfl ?_
          refine ny_next ?_
          refine cy_ret ?_
          refine ny_blockR ?_
          refine ny_thenR ?_
          refine ny_thenR ?_
          refine ny_blockR ?_
          refine ny_thenR ?_
          refine ny_finR (res1 rfl rfl) (fun w hs2 => ⟨?_, hs2.frm⟩)
          rw [any_yes he20 (by simp_all [mayB])]
        · refine cy_skip ?_
          refine ny_blockN ?_
          refine ny_next ?_
          refine cy_region ?_
          refine sy_addi (z := ((i + 1 : Nat) : Int)) rfl rfl (by omega) (by omega) (by omega) rfl rfl ?_
          refine sy_move rfl rfl rfl ?_
          refine sy_nil rfl ?_
          refine ny_roundK [0, 1, 2, 3, 16, 17] (i + 1) [] ⟨by omega, by rw [any_take_succ he20, hpre, Bool.false_or]; simp_all [mayB]⟩ (show gs.length - (i + 1) < gs.length - i by omega) rfl ⟨rfl, trivial⟩ rfl rfl
      · refine sy_skip rfl rfl rfl ?_
        refine sy_skip rfl rfl rfl ?_
        refine sy_skip rfl rfl rfl ?_
        refine sy_skip rfl rfl rfl ?_
        refine sy_skip rfl rfl rfl ?_
        refine sy_skip rfl rfl rfl ?_
        refine sy_skip rfl rfl rfl ?_
        refine sy_skip rfl rfl rfl ?_
        refine sy_pickF rfl rfl rfl rfl ?_
        refine sy_nil rfl ?_
        refine ny_next ?_
        refine cy_condF rfl ?_
        refine cy_skip ?_
        refine ny_blockN ?_
        refine ny_next ?_
        refine cy_region ?_
        refine sy_addi (z := ((i + 1 : Nat) : Int)) rfl rfl (by omega) (by omega) (by omega) rfl rfl ?_
        refine sy_move rfl rfl rfl ?_
        refine sy_nil rfl ?_
        refine ny_roundK [0, 1, 2, 3, 16, 17] (i + 1) [] ⟨by omega, by rw [any_take_succ he20, hpre, Bool.false_or]; simp_all [mayB]⟩ (show gs.length - (i + 1) < gs.length - i by omega) rfl ⟨rfl, trivial⟩ rfl rfl
    · refine sy_skip rfl rfl rfl ?_
      refine sy_skip rfl rfl rfl ?_
      refine sy_skip rfl rfl rfl ?_
      refine sy_skip rfl rfl rfl ?_
      refine sy_skip rfl rfl rfl ?_
      refine sy_skip rfl rfl rfl ?_
      refine sy_skip rfl rfl rfl ?_
      refine sy_skip rfl rfl rfl ?_
      refine sy_pickF rfl rfl rfl rfl ?_
      refine sy_move rfl rfl rfl ?_
      refine sy_skip rfl rfl rfl ?_
      refine sy_skip rfl rfl rfl ?_
      refine sy_skip rfl rfl rfl ?_
      refine sy_skip rfl rfl rfl ?_
      refine sy_skip rfl rfl rfl ?_
      refine sy_skip rfl rfl rfl ?_
      refine sy_skip rfl rfl rfl ?_
      refine sy_skip rfl rfl rfl ?_
      refine sy_pickF rfl rfl rfl rfl ?_
      refine sy_nil rfl ?_
      refine ny_next ?_
      refine cy_condF rfl ?_
      refine cy_skip ?_
      refine ny_blockN ?_
      refine ny_next ?_
      refine cy_region ?_
      refine sy_addi (z := ((i + 1 : Nat) : Int)) rfl rfl (by omega) (by omega) (by omega) rfl rfl ?_
      refine sy_move rfl rfl rfl ?_
      refine sy_nil rfl ?_
      refine ny_roundK [0, 1, 2, 3, 16, 17] (i + 1) [] ⟨by omega, by rw [any_take_succ he20, hpre, Bool.false_or]; simp_all [mayB]⟩ (show gs.length - (i + 1) < gs.length - i by omega) rfl ⟨rfl, trivial⟩ rfl rfl
  · have hie : i = gs.length := by have := of_decide_eq_false hc19; omega
    subst hie
    rw [List.take_length] at hpre
    refine cy_exit ?_
    refine ny_thenE ?_
    refine ny_thenE ?_
    refine ny_blockX ?_
    refine ny_next ?_
    refine cy_seq ?_
    refine cy_region ?_
    refine sy_assign rfl rfl rfl ?_
    refine sy_nil rfl ?_
    refine ny_next ?_
    refine cy_ret ?_
    refine ny_finR (res1 rfl rfl) (fun w hs2 => ⟨?_, hs2.frm⟩)
    rw [hpre]
set_option maxRecDepth 100000 in
theorem gmayN_c (h : Hp) (o : ByteArray) (x y : Int) : C0 Tryd.prog 22 [.pointer none, .string o, .int .i64 x, .int .i64 y] h (.bool false) := by
  refine enter0 Tryd.func22 rfl rfl rfl (fun w => ?_)
  refine cy_seq ?_
  refine cy_region ?_
  refine sy_assign rfl rfl rfl ?_
  refine sy_nil rfl ?_
  refine ny_next ?_
  refine cy_seq ?_
  refine cy_seq ?_
  refine cy_region ?_
  refine sy_move rfl rfl rfl ?_
  refine sy_eqp Tryd.underlying32 rfl rfl rfl rfl rfl ?_
  refine sy_setT (d := 12) rfl rfl rfl ?_
  refine sy_nil rfl ?_
  refine ny_next ?_
  refine cy_condT rfl ?_
  refine cy_seq ?_
  refine cy_region ?_
  refine sy_assign rfl rfl rfl ?_
  refine sy_nil rfl ?_
  refine ny_next ?_
  refine cy_ret ?_
  refine ny_thenR ?_
  refine ny_finR (res1 rfl rfl) (fun w hs => ⟨?_, hs.frm⟩)
  rfl
set_option maxRecDepth 100000 in
theorem gcross_c (g n : Nat) (u : U) (h : Hp) (hg : h g = some (lat 94 n u)) (hn1 : 1 ≤ n) (hn : n ≤ 16) (hu : ∀ a, u a < 65536) (tb : Nat) (gs : List Gr) (hT : TableAt h 100 tb g gs) (hlm : gs.length ≤ 100) (x : Int) : C0 Tryd.prog 24 [.pointer (some ⟨tb, 0, none⟩), .int .i64 x] h (.bool (leqI n u x x && gs.any (crossB n u x))) := by
  obtain ⟨A, c, hT1, hT2⟩ := hT
  refine enter0 Tryd.func24 rfl rfl rfl (fun w => ?_)
  refine cy_seq ?_
  refine cy_region ?_
  refine sy_assign rfl rfl rfl ?_
  refine sy_nil rfl ?_
  refine ny_next ?_
  refine cy_seq ?_
  refine cy_seq ?_
  refine cy_region ?_
  refine sy_move rfl rfl rfl ?_
  refine sy_eqp Tryd.underlying32 rfl rfl rfl rfl rfl ?_
  refine sy_setF (d := 8) rfl rfl rfl ?_
  refine sy_move rfl rfl rfl ?_
  refine sy_move rfl rfl rfl ?_
  refine sy_nilCheck rfl rfl rfl ?_
  refine sy_field fld_100_0 rfl rfl rfl ?_
  refine sy_ldh one_27 rfl (Hp.blk hT1 0 _ rfl) rfl rfl ?_
  refine sy_move rfl rfl rfl ?_
  refine sy_move rfl rfl rfl ?_
  refine sy_call rfl call_23 rfl (leq_c _ _ _ _ hg hn1 hn hu _ _) rfl rfl ?_
  refine sy_not rfl rfl rfl ?_
  refine sy_pickF rfl rfl rfl rfl ?_
  refine sy_nil rfl ?_
  refine ny_next ?_
  refine cy_cond rfl (fun hc18 => ?_) (fun hc18 => ?_)
  · refine cy_seq ?_
    refine cy_region ?_
    refine sy_assign rfl rfl rfl ?_
    refine sy_nil rfl ?_
    refine ny_next ?_
    refine cy_ret ?_
    refine ny_thenR ?_
    refine ny_finR (res1 rfl rfl) (fun w hs2 => ⟨?_, hs2.frm⟩)
    have hlx : leqI n u x x = false := by simpa using hc18
    rw [hlx]
    rfl
  · refine cy_skip ?_
    refine ny_next ?_
    refine cy_seq ?_
    refine cy_seq ?_
    refine cy_region ?_
    refine sy_move rfl rfl rfl ?_
    refine sy_nilCheck rfl rfl rfl ?_
    refine sy_field fld_100_1 rfl rfl rfl ?_
    refine sy_ldh one_25 rfl (Hp.blk hT1 1 _ rfl) rfl rfl ?_
    refine sy_len rfl (len_slice Tryd.underlying25 _ _ _) rfl rfl ?_
    refine sy_move rfl rfl rfl ?_
    refine sy_nil rfl ?_
    refine ny_next ?_
    refine cy_block ?_
    refine cy_loopK (ι := Nat) [0, 1, 22, 23] rfl (fun i => i ≤ gs.length ∧ (gs.take i).any (crossB n u x) = false) (fun i => gs.length - i) (fun i => [(24, .int .i64 (i : Int))]) (fun i => h) (fun i => []) 0 [] ⟨Nat.zero_le _, by simp⟩ ⟨rfl, trivial⟩ rfl rfl ?_
    rintro i ⟨hI, hpre⟩
    refine cy_seq ?_
    refine cy_region ?_
    refine sy_cmp rfl rfl rfl rfl rfl ?_
    refine sy_nil rfl ?_
    refine ny_next ?_
    refine cy_seq ?_
    refine cy_cond rfl (fun hc25 => ?_) (fun hc25 => ?_)
    · have hlti : i < gs.length := by have := of_decide_eq_true hc25; omega
      refine cy_skip ?_
      refine ny_next ?_
      refine cy_seq ?_
      refine cy_block ?_
      refine cy_seq ?_
      refine cy_region ?_
      refine sy_idxR (fc := grC) (es := gs) els_25 rfl rfl hT2 rfl (by omega) rfl rfl (fun e26 b26 o26 he26 hA26 hc26 => ?_)
      refine sy_ldah (vs := grC e26) agg_38 rfl rfl hc26 rfl rfl ?_
      refine sy_alloc zer_38 rfl rfl (fun b6 hb6 hM6 => ?_) (by simp)
      first | refine sy_stl 0 sz_38 rfl rfl rfl rfl rfl rfl rfl rfl ?_
      refine sy_nil rfl ?_
      refine ny_next ?_
      refine cy_seq ?_
      refine cy_regionQ mixedA (by kernel_rfl) ?_
      refine sy_move rfl rfl rfl ?_
      refine sy_nilCheck rfl rfl rfl ?_
      refine sy_field fld_100_0 rfl rfl rfl ?_
      refine sy_ldh one_27 rfl (Hp.blk hT1 0 _ rfl) rfl rfl ?_
      refine sy_field fld_38_1 rfl rfl rfl ?_
      first | refine sy_ldr 0 one_3 rfl rfl rfl rfl rfl ?_
      refine sy_move rfl rfl rfl ?_
      refine sy_call rfl call_23 rfl (leq_c _ _ _ _ hg hn1 hn hu _ _) rfl rfl ?_
      refine sy_not rfl rfl rfl ?_
      refine sy_move rfl rfl rfl ?_
      refine sy_cond (d := 37) _ rfl rfl (fun hg37 => ?_) (fun hg37 => ?_)
      · refine sy_move rfl rfl rfl ?_
        refine sy_nilCheck rfl rfl rfl ?_
        refine sy_field fld_100_0 rfl rfl rfl ?_
        refine sy_ldh one_27 rfl (Hp.blk hT1 0 _ rfl) rfl rfl ?_
        refine sy_field fld_38_2 rfl rfl rfl ?_
        first | refine sy_ldr 0 one_3 rfl rfl rfl rfl rfl ?_
        refine sy_move rfl rfl rfl ?_
        refine sy_call rfl call_23 rfl (leq_c _ _ _ _ hg hn1 hn hu _ _) rfl rfl ?_
        refine sy_pickT rfl rfl rfl rfl ?_
        refine sy_nil rfl ?_
        refine ny_next ?_
        refine cy_cond rfl (fun hc46 => ?_) (fun hc46 => ?_)
        · refine cy_seq ?_
          refine cy_region ?_
          refine sy_assign rfl rfl rfl ?_
          refine sy_nil rfl ?_
          refine ny_next ?_
          refine cy_ret ?_
          refine ny_blockR ?_
          refine ny_thenR ?_
          refine ny_thenR ?_
          refine ny_blockR ?_
          refine ny_thenR ?_
          refine ny_finR (res1 rfl rfl) (fun w hs2 => ⟨?_, hs2.frm⟩)
          have hlx : leqI n u x x = true := by simpa using hc18
          rw [hlx, any_yes he26 (by simp_all [crossB])]
          rfl
        · refine cy_skip ?_
          refine ny_blockN ?_
          refine ny_next ?_
          refine cy_region ?_
          refine sy_addi (z := ((i + 1 : Nat) : Int)) rfl rfl (by omega) (by omega) (by omega) rfl rfl ?_
          refine sy_move rfl rfl rfl ?_
          refine sy_nil rfl ?_
          refine ny_roundK [0, 1, 22, 23] (i + 1) [] ⟨by omega, by rw [any_take_succ he26, hpre, Bool.false_or]; simp_all [crossB]⟩ (show gs.length - (i + 1) < gs.length - i by omega) rfl ⟨rfl, trivial⟩ rfl rfl
      · refine sy_skip rfl rfl rfl ?_
        refine sy_skip rfl rfl rfl ?_
        refine sy_skip rfl rfl rfl ?_
        refine sy_skip rfl rfl rfl ?_
        refine sy_skip rfl rfl rfl ?_
        refine sy_skip rfl rfl rfl ?_
        refine sy_skip rfl rfl rfl ?_
        refine sy_skip rfl rfl rfl ?_
        refine sy_pickF rfl rfl rfl rfl ?_
        refine sy_nil rfl ?_
        refine ny_next ?_
        refine cy_condF rfl ?_
        refine cy_skip ?_
        refine ny_blockN ?_
        refine ny_next ?_
        refine cy_region ?_
        refine sy_addi (z := ((i + 1 : Nat) : Int)) rfl rfl (by omega) (by omega) (by omega) rfl rfl ?_
        refine sy_move rfl rfl rfl ?_
        refine sy_nil rfl ?_
        refine ny_roundK [0, 1, 22, 23] (i + 1) [] ⟨by omega, by rw [any_take_succ he26, hpre, Bool.false_or]; simp_all [crossB]⟩ (show gs.length - (i + 1) < gs.length - i by omega) rfl ⟨rfl, trivial⟩ rfl rfl
    · have hie : i = gs.length := by have := of_decide_eq_false hc25; omega
      subst hie
      rw [List.take_length] at hpre
      refine cy_exit ?_
      refine ny_thenE ?_
      refine ny_thenE ?_
      refine ny_blockX ?_
      refine ny_next ?_
      refine cy_seq ?_
      refine cy_region ?_
      refine sy_assign rfl rfl rfl ?_
      refine sy_nil rfl ?_
      refine ny_next ?_
      refine cy_ret ?_
      refine ny_finR (res1 rfl rfl) (fun w hs2 => ⟨?_, hs2.frm⟩)
      have hlx : leqI n u x x = true := by simpa using hc18
      rw [hlx, hpre]
      rfl
set_option maxRecDepth 100000 in
theorem gcrossN_c (h : Hp) (x : Int) : C0 Tryd.prog 24 [.pointer none, .int .i64 x] h (.bool false) := by
  refine enter0 Tryd.func24 rfl rfl rfl (fun w => ?_)
  refine cy_seq ?_
  refine cy_region ?_
  refine sy_assign rfl rfl rfl ?_
  refine sy_nil rfl ?_
  refine ny_next ?_
  refine cy_seq ?_
  refine cy_seq ?_
  refine cy_region ?_
  refine sy_move rfl rfl rfl ?_
  refine sy_eqp Tryd.underlying32 rfl rfl rfl rfl rfl ?_
  refine sy_setT (d := 8) rfl rfl rfl ?_
  refine sy_move rfl rfl rfl ?_
  refine sy_skip rfl rfl rfl ?_
  refine sy_skip rfl rfl rfl ?_
  refine sy_skip rfl rfl rfl ?_
  refine sy_skip rfl rfl rfl ?_
  refine sy_skip rfl rfl rfl ?_
  refine sy_skip rfl rfl rfl ?_
  refine sy_skip rfl rfl rfl ?_
  refine sy_skip rfl rfl rfl ?_
  refine sy_pickT rfl rfl rfl rfl ?_
  refine sy_setT (d := 18) rfl rfl rfl ?_
  refine sy_nil rfl ?_
  refine ny_next ?_
  refine cy_condT rfl ?_
  refine cy_seq ?_
  refine cy_region ?_
  refine sy_assign rfl rfl rfl ?_
  refine sy_nil rfl ?_
  refine ny_next ?_
  refine cy_ret ?_
  refine ny_thenR ?_
  refine ny_finR (res1 rfl rfl) (fun w hs => ⟨?_, hs.frm⟩)
  rfl
set_option maxRecDepth 100000 in
theorem gtext_c (o : ByteArray) (x y : Int) (h : Hp) (ht : Tab10 h) (ho : o.size ≤ 140737488355328) (hx0 : -9223372036854775808 ≤ x) (hx1 : x ≤ 9223372036854775807) (hy0 : -9223372036854775808 ≤ y) (hy1 : y ≤ 9223372036854775807) : C0 Tryd.prog 27 [.string o, .int .i64 x, .int .i64 y] h (.string (gtxt o x y)) := by
  refine enter0 Tryd.func27 rfl rfl rfl (fun w => ?_)
  refine cy_seq ?_
  refine cy_region ?_
  refine sy_assign rfl rfl rfl ?_
  refine sy_nil rfl ?_
  refine ny_next ?_
  refine cy_seq ?_
  refine cy_region ?_
  refine sy_move rfl rfl rfl ?_
  refine sy_cat rfl rfl (by simp only [size1]; omega) rfl rfl ?_
  refine sy_move rfl rfl rfl ?_
  refine sy_call rfl call_55 rfl (itoa_c _ _ hx0 hx1 ht) rfl rfl ?_
  refine sy_cat rfl rfl (by have h1 := itoa_size x hx0 hx1; have h2 := itoa_size y hy0 hy1; simp only [ByteArray.size_append, size1, size1b]; omega) rfl rfl ?_
  refine sy_cat rfl rfl (by have h1 := itoa_size x hx0 hx1; have h2 := itoa_size y hy0 hy1; simp only [ByteArray.size_append, size1, size1b]; omega) rfl rfl ?_
  refine sy_move rfl rfl rfl ?_
  refine sy_call rfl call_55 rfl (itoa_c _ _ hy0 hy1 ht) rfl rfl ?_
  refine sy_cat rfl rfl (by have h1 := itoa_size x hx0 hx1; have h2 := itoa_size y hy0 hy1; simp only [ByteArray.size_append, size1, size1b]; omega) rfl rfl ?_
  refine sy_assign rfl rfl rfl ?_
  refine sy_nil rfl ?_
  refine ny_next ?_
  refine cy_ret ?_
  refine ny_finR (res1 rfl rfl) (fun w hs => ⟨?_, hs.frm⟩)
  rfl
set_option maxRecDepth 100000 in
theorem gfew_c (n : Int) (A : Option Addr) (l c L : Nat) (h : Hp) (hlc : l ≤ c) (hL : L = min l 60) : C0 Tryd.prog 19 [.agg #[.int .i64 n, .slice A l c]] h (.slice A L c) := by
  refine enter0 Tryd.func19 rfl rfl rfl (fun w => ?_)
  refine cy_seq ?_
  refine cy_region ?_
  refine sy_box rfl rfl rfl rfl (fun b1 hb1 hM1 => ?_) (by simp)
  refine sy_assign rfl rfl rfl ?_
  refine sy_nil rfl ?_
  refine ny_next ?_
  refine cy_seq ?_
  refine cy_seq ?_
  refine cy_region ?_
  refine sy_field fld_24_1 rfl rfl rfl ?_
  first | refine sy_ldr 0 one_22 rfl rfl rfl rfl rfl ?_
  refine sy_len rfl (len_slice Tryd.underlying22 _ _ _) rfl rfl ?_
  refine sy_cmp rfl rfl rfl rfl rfl ?_
  refine sy_nil rfl ?_
  refine ny_next ?_
  refine cy_cond rfl (fun hc6 => ?_) (fun hc6 => ?_)
  · obtain rfl : L = 60 := by have := of_decide_eq_true hc6; omega
    refine cy_seq ?_
    refine cy_region ?_
    refine sy_field fld_24_1 rfl rfl rfl ?_
    first | refine sy_ldr 0 one_22 rfl rfl rfl rfl rfl ?_
    refine sy_cutTo (k0 := 60) els_22 rfl rfl (by have := of_decide_eq_true hc6; omega) rfl rfl ?_
    refine sy_assign rfl rfl rfl ?_
    refine sy_nil rfl ?_
    refine ny_next ?_
    refine cy_ret ?_
    refine ny_thenR ?_
    refine ny_finR (res1 rfl rfl) (fun w hs => ⟨?_, hs.frm⟩)
    rfl
  · obtain rfl : L = l := by have := of_decide_eq_false hc6; omega
    refine cy_skip ?_
    refine ny_next ?_
    refine cy_seq ?_
    refine cy_region ?_
    refine sy_field fld_24_1 rfl rfl rfl ?_
    first | refine sy_ldr 0 one_22 rfl rfl rfl rfl rfl ?_
    refine sy_assign rfl rfl rfl ?_
    refine sy_nil rfl ?_
    refine ny_next ?_
    refine cy_ret ?_
    refine ny_finR (res1 rfl rfl) (fun w hs => ⟨?_, hs.frm⟩)
    rfl
end Go.Proofs.YtamifocfbcmfkaaDoor

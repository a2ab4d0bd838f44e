/- The scanner's small functions: the walks. Conditions: as each says. Printed by a program of this session. -/
import Derived.Test.YtdbeiaohibgmeaaFactsE
import Derived.Test.YtdbeiaohibgmeaaReplD
import Derived.Test.YtdbeiaohibgmeaaTokPure
set_option linter.unusedVariables false
set_option linter.unusedSimpArgs false
namespace Go.Proofs.Ytdbeiaohibgmeaa
open Go.RowKit Go.Proofs.Ytdbeiaohibgmeaa.E Go.Proofs.Ytdbeiaohibgmeaa.ReplP Go.Proofs.Ytdbeiaohibgmeaa.TokP
set_option maxRecDepth 100000 in
theorem small_c (c : UInt8) (h : Hp) : C0 Try.prog 18 [.int .u8 (c.toNat : Int)] h (.bool (smallB c)) := by
  refine enter0 Try.func18 rfl rfl rfl (fun w => ?_)
  refine cy_seq ?_
  refine cy_region ?_
  refine sy_assign rfl rfl rfl ?_
  refine sy_nil rfl ?_
  refine ny_next ?_
  refine cy_seq ?_
  refine cy_region ?_
  refine sy_move rfl rfl rfl ?_
  refine sy_cmp rfl rfl rfl rfl rfl ?_
  refine sy_move rfl rfl rfl ?_
  refine sy_cond (d := 5) _ rfl rfl (fun hg5 => ?_) (fun hg5 => ?_)
  · refine sy_move rfl rfl rfl ?_
    refine sy_cmp rfl rfl rfl rfl rfl ?_
    refine sy_pickT rfl rfl rfl rfl ?_
    refine sy_assign rfl rfl rfl ?_
    refine sy_nil rfl ?_
    refine ny_next ?_
    refine cy_ret ?_
    refine ny_finR (res1 rfl rfl) (fun w hs => ⟨?_, hs.frm⟩)
    refine congrArg (fun b => Ending.returned (Value.bool b)) ?_
    unfold smallB
    first | rfl | (simp_all; done) | (simp_all; omega)
  · refine sy_skip rfl rfl rfl ?_
    refine sy_skip rfl rfl rfl ?_
    refine sy_pickF rfl rfl rfl rfl ?_
    refine sy_assign rfl rfl rfl ?_
    refine sy_nil rfl ?_
    refine ny_next ?_
    refine cy_ret ?_
    refine ny_finR (res1 rfl rfl) (fun w hs => ⟨?_, hs.frm⟩)
    refine congrArg (fun b => Ending.returned (Value.bool b)) ?_
    unfold smallB
    first | rfl | (simp_all; done) | (simp_all; omega)
set_option maxRecDepth 100000 in
theorem big_c (c : UInt8) (h : Hp) : C0 Try.prog 24 [.int .u8 (c.toNat : Int)] h (.bool (bigB c)) := by
  refine enter0 Try.func24 rfl rfl rfl (fun w => ?_)
  refine cy_seq ?_
  refine cy_region ?_
  refine sy_assign rfl rfl rfl ?_
  refine sy_nil rfl ?_
  refine ny_next ?_
  refine cy_seq ?_
  refine cy_region ?_
  refine sy_move rfl rfl rfl ?_
  refine sy_cmp rfl rfl rfl rfl rfl ?_
  refine sy_move rfl rfl rfl ?_
  refine sy_cond (d := 5) _ rfl rfl (fun hg5 => ?_) (fun hg5 => ?_)
  · refine sy_move rfl rfl rfl ?_
    refine sy_cmp rfl rfl rfl rfl rfl ?_
    refine sy_pickT rfl rfl rfl rfl ?_
    refine sy_move rfl rfl rfl ?_
    refine sy_cond (d := 9) _ rfl rfl (fun hg9 => ?_) (fun hg9 => ?_)
    · refine sy_skip rfl rfl rfl ?_
      refine sy_skip rfl rfl rfl ?_
      refine sy_pickT rfl rfl rfl rfl ?_
      refine sy_assign rfl rfl rfl ?_
      refine sy_nil rfl ?_
      refine ny_next ?_
      refine cy_ret ?_
      refine ny_finR (res1 rfl rfl) (fun w hs => ⟨?_, hs.frm⟩)
      refine congrArg (fun b => Ending.returned (Value.bool b)) ?_
      unfold bigB
      first | rfl | (simp_all; done) | (simp_all; omega)
    · refine sy_move rfl rfl rfl ?_
      refine sy_cmp rfl rfl rfl rfl rfl ?_
      refine sy_pickF rfl rfl rfl rfl ?_
      refine sy_assign rfl rfl rfl ?_
      refine sy_nil rfl ?_
      refine ny_next ?_
      refine cy_ret ?_
      refine ny_finR (res1 rfl rfl) (fun w hs => ⟨?_, hs.frm⟩)
      refine congrArg (fun b => Ending.returned (Value.bool b)) ?_
      unfold bigB
      first | rfl | (simp_all; done) | (simp_all; omega)
  · refine sy_skip rfl rfl rfl ?_
    refine sy_skip rfl rfl rfl ?_
    refine sy_pickF rfl rfl rfl rfl ?_
    refine sy_move rfl rfl rfl ?_
    refine sy_move rfl rfl rfl ?_
    refine sy_cmp rfl rfl rfl rfl rfl ?_
    refine sy_pickF rfl rfl rfl rfl ?_
    refine sy_assign rfl rfl rfl ?_
    refine sy_nil rfl ?_
    refine ny_next ?_
    refine cy_ret ?_
    refine ny_finR (res1 rfl rfl) (fun w hs => ⟨?_, hs.frm⟩)
    refine congrArg (fun b => Ending.returned (Value.bool b)) ?_
    unfold bigB
    first | rfl | (simp_all; done) | (simp_all; omega)
set_option maxRecDepth 100000 in
theorem digit_c (c : UInt8) (h : Hp) : C0 Try.prog 25 [.int .u8 (c.toNat : Int)] h (.bool (digitB c)) := by
  refine enter0 Try.func25 rfl rfl rfl (fun w => ?_)
  refine cy_seq ?_
  refine cy_region ?_
  refine sy_assign rfl rfl rfl ?_
  refine sy_nil rfl ?_
  refine ny_next ?_
  refine cy_seq ?_
  refine cy_region ?_
  refine sy_move rfl rfl rfl ?_
  refine sy_cmp rfl rfl rfl rfl rfl ?_
  refine sy_move rfl rfl rfl ?_
  refine sy_cond (d := 5) _ rfl rfl (fun hg5 => ?_) (fun hg5 => ?_)
  · refine sy_move rfl rfl rfl ?_
    refine sy_cmp rfl rfl rfl rfl rfl ?_
    refine sy_pickT rfl rfl rfl rfl ?_
    refine sy_assign rfl rfl rfl ?_
    refine sy_nil rfl ?_
    refine ny_next ?_
    refine cy_ret ?_
    refine ny_finR (res1 rfl rfl) (fun w hs => ⟨?_, hs.frm⟩)
    refine congrArg (fun b => Ending.returned (Value.bool b)) ?_
    unfold digitB
    first | rfl | (simp_all; done) | (simp_all; omega)
  · refine sy_skip rfl rfl rfl ?_
    refine sy_skip rfl rfl rfl ?_
    refine sy_pickF rfl rfl rfl rfl ?_
    refine sy_assign rfl rfl rfl ?_
    refine sy_nil rfl ?_
    refine ny_next ?_
    refine cy_ret ?_
    refine ny_finR (res1 rfl rfl) (fun w hs => ⟨?_, hs.frm⟩)
    refine congrArg (fun b => Ending.returned (Value.bool b)) ?_
    unfold digitB
    first | rfl | (simp_all; done) | (simp_all; omega)
set_option maxRecDepth 100000 in
theorem blank_c (c : UInt8) (h : Hp) : C0 Try.prog 23 [.int .u8 (c.toNat : Int)] h (.bool (blankB c)) := by
  refine enter0 Try.func23 rfl rfl rfl (fun w => ?_)
  refine cy_seq ?_
  refine cy_region ?_
  refine sy_assign rfl rfl rfl ?_
  refine sy_nil rfl ?_
  refine ny_next ?_
  refine cy_seq ?_
  refine cy_region ?_
  refine sy_move rfl rfl rfl ?_
  refine sy_cmp rfl rfl rfl rfl rfl ?_
  refine sy_move rfl rfl rfl ?_
  refine sy_cond (d := 5) _ rfl rfl (fun hg5 => ?_) (fun hg5 => ?_)
  · refine sy_skip rfl rfl rfl ?_
    refine sy_skip rfl rfl rfl ?_
    refine sy_pickT rfl rfl rfl rfl ?_
    refine sy_move rfl rfl rfl ?_
    refine sy_skip rfl rfl rfl ?_
    refine sy_skip rfl rfl rfl ?_
    refine sy_pickT rfl rfl rfl rfl ?_
    refine sy_move rfl rfl rfl ?_
    refine sy_skip rfl rfl rfl ?_
    refine sy_skip rfl rfl rfl ?_
    refine sy_pickT rfl rfl rfl rfl ?_
    refine sy_assign rfl rfl rfl ?_
    refine sy_nil rfl ?_
    refine ny_next ?_
    refine cy_ret ?_
    refine ny_finR (res1 rfl rfl) (fun w hs => ⟨?_, hs.frm⟩)
    refine congrArg (fun b => Ending.returned (Value.bool b)) ?_
    unfold blankB
    first | rfl | (simp_all; done) | (simp_all; omega)
  · refine sy_move rfl rfl rfl ?_
    refine sy_cmp rfl rfl rfl rfl rfl ?_
    refine sy_pickF rfl rfl rfl rfl ?_
    refine sy_move rfl rfl rfl ?_
    refine sy_cond (d := 9) _ rfl rfl (fun hg9 => ?_) (fun hg9 => ?_)
    · refine sy_skip rfl rfl rfl ?_
      refine sy_skip rfl rfl rfl ?_
      refine sy_pickT rfl rfl rfl rfl ?_
      refine sy_move rfl rfl rfl ?_
      refine sy_skip rfl rfl rfl ?_
      refine sy_skip rfl rfl rfl ?_
      refine sy_pickT rfl rfl rfl rfl ?_
      refine sy_assign rfl rfl rfl ?_
      refine sy_nil rfl ?_
      refine ny_next ?_
      refine cy_ret ?_
      refine ny_finR (res1 rfl rfl) (fun w hs => ⟨?_, hs.frm⟩)
      refine congrArg (fun b => Ending.returned (Value.bool b)) ?_
      unfold blankB
      first | rfl | (simp_all; done) | (simp_all; omega)
    · refine sy_move rfl rfl rfl ?_
      refine sy_cmp rfl rfl rfl rfl rfl ?_
      refine sy_pickF rfl rfl rfl rfl ?_
      refine sy_move rfl rfl rfl ?_
      refine sy_cond (d := 13) _ rfl rfl (fun hg13 => ?_) (fun hg13 => ?_)
      · refine sy_skip rfl rfl rfl ?_
        refine sy_skip rfl rfl rfl ?_
        refine sy_pickT rfl rfl rfl rfl ?_
        refine sy_assign rfl rfl rfl ?_
        refine sy_nil rfl ?_
        refine ny_next ?_
        refine cy_ret ?_
        refine ny_finR (res1 rfl rfl) (fun w hs => ⟨?_, hs.frm⟩)
        refine congrArg (fun b => Ending.returned (Value.bool b)) ?_
        unfold blankB
        first | rfl | (simp_all; done) | (simp_all; omega)
      · refine sy_move rfl rfl rfl ?_
        refine sy_cmp rfl rfl rfl rfl rfl ?_
        refine sy_pickF rfl rfl rfl rfl ?_
        refine sy_assign rfl rfl rfl ?_
        refine sy_nil rfl ?_
        refine ny_next ?_
        refine cy_ret ?_
        refine ny_finR (res1 rfl rfl) (fun w hs => ⟨?_, hs.frm⟩)
        refine congrArg (fun b => Ending.returned (Value.bool b)) ?_
        unfold blankB
        first | rfl | (simp_all; done) | (simp_all; omega)
set_option maxRecDepth 100000 in
theorem line_c (c : UInt8) (h : Hp) : C0 Try.prog 22 [.int .u8 (c.toNat : Int)] h (.bool (lineB c)) := by
  refine enter0 Try.func22 rfl rfl rfl (fun w => ?_)
  refine cy_seq ?_
  refine cy_region ?_
  refine sy_assign rfl rfl rfl ?_
  refine sy_nil rfl ?_
  refine ny_next ?_
  refine cy_seq ?_
  refine cy_region ?_
  refine sy_move rfl rfl rfl ?_
  refine sy_cmp rfl rfl rfl rfl rfl ?_
  refine sy_assign rfl rfl rfl ?_
  refine sy_nil rfl ?_
  refine ny_next ?_
  refine cy_ret ?_
  refine ny_finR (res1 rfl rfl) (fun w hs => ⟨?_, hs.frm⟩)
  refine congrArg (fun b => Ending.returned (Value.bool b)) ?_
  unfold lineB
  first | rfl | (simp_all; done) | (simp_all; omega)
set_option maxRecDepth 100000 in
theorem letter_c (c : UInt8) (h : Hp) : C0 Try.prog 20 [.int .u8 (c.toNat : Int)] h (.bool (letterB c)) := by
  refine enter0 Try.func20 rfl rfl rfl (fun w => ?_)
  refine cy_seq ?_
  refine cy_region ?_
  refine sy_assign rfl rfl rfl ?_
  refine sy_nil rfl ?_
  refine ny_next ?_
  refine cy_seq ?_
  refine cy_region ?_
  refine sy_move rfl rfl rfl ?_
  refine sy_call rfl call_18 rfl (small_c c _) rfl rfl ?_
  refine sy_move rfl rfl rfl ?_
  refine sy_cond (d := 5) _ rfl rfl (fun hg5 => ?_) (fun hg5 => ?_)
  · refine sy_skip rfl rfl rfl ?_
    refine sy_skip rfl rfl rfl ?_
    refine sy_pickT rfl rfl rfl rfl ?_
    refine sy_move rfl rfl rfl ?_
    refine sy_skip rfl rfl rfl ?_
    refine sy_skip rfl rfl rfl ?_
    refine sy_pickT rfl rfl rfl rfl ?_
    refine sy_assign rfl rfl rfl ?_
    refine sy_nil rfl ?_
    refine ny_next ?_
    refine cy_ret ?_
    refine ny_finR (res1 rfl rfl) (fun w hs => ⟨?_, hs.frm⟩)
    refine congrArg (fun b => Ending.returned (Value.bool b)) ?_
    unfold letterB
    first | rfl | (simp_all; done) | (simp_all; omega)
  · refine sy_move rfl rfl rfl ?_
    refine sy_call rfl call_24 rfl (big_c c _) rfl rfl ?_
    refine sy_pickF rfl rfl rfl rfl ?_
    refine sy_move rfl rfl rfl ?_
    refine sy_cond (d := 9) _ rfl rfl (fun hg9 => ?_) (fun hg9 => ?_)
    · refine sy_skip rfl rfl rfl ?_
      refine sy_skip rfl rfl rfl ?_
      refine sy_pickT rfl rfl rfl rfl ?_
      refine sy_assign rfl rfl rfl ?_
      refine sy_nil rfl ?_
      refine ny_next ?_
      refine cy_ret ?_
      refine ny_finR (res1 rfl rfl) (fun w hs => ⟨?_, hs.frm⟩)
      refine congrArg (fun b => Ending.returned (Value.bool b)) ?_
      unfold letterB
      first | rfl | (simp_all; done) | (simp_all; omega)
    · refine sy_move rfl rfl rfl ?_
      refine sy_call rfl call_25 rfl (digit_c c _) rfl rfl ?_
      refine sy_pickF rfl rfl rfl rfl ?_
      refine sy_assign rfl rfl rfl ?_
      refine sy_nil rfl ?_
      refine ny_next ?_
      refine cy_ret ?_
      refine ny_finR (res1 rfl rfl) (fun w hs => ⟨?_, hs.frm⟩)
      refine congrArg (fun b => Ending.returned (Value.bool b)) ?_
      unfold letterB
      first | rfl | (simp_all; done) | (simp_all; omega)
theorem ibX (s : ByteArray) (c : UInt8) (w : World) : (callFunc 38 #[.string s, .int .u8 (c.toNat : Int)]).run Try.prog w = .ok (.value (.int .i64 (Lib.indexByte s.data.toList c))) w := by
  have h1 := Lib.run_indexByteString (P := Try.prog) s (c.toNat : Int) w
  have e : (c.toNat : Int).toNat.toUInt8 = c := by simp
  rw [e] at h1
  exact ext_run Try.func38 (by kernel_rfl) (by kernel_rfl) (by kernel_rfl) (by kernel_rfl) h1
set_option maxRecDepth 100000 in
theorem ib2_c (s : ByteArray) (c : UInt8) (h : Hp) : C0 Try.prog 33 [.string s, .int .u8 (c.toNat : Int)] h (.int .i64 (Lib.indexByte s.data.toList c)) := by
  refine enter0 Try.func33 rfl rfl rfl (fun w => ?_)
  refine cy_seq ?_
  refine cy_region ?_
  refine sy_assign rfl rfl rfl ?_
  refine sy_nil rfl ?_
  refine ny_next ?_
  refine cy_seq ?_
  refine cy_region ?_
  refine sy_move rfl rfl rfl ?_
  refine sy_move rfl rfl rfl ?_
  refine sy_exq rfl (fun w hs => ibX s c w) rfl rfl ?_
  refine sy_assign rfl rfl rfl ?_
  refine sy_nil rfl ?_
  refine ny_next ?_
  refine cy_ret ?_
  refine ny_finR (res1 rfl rfl) (fun w hs => ⟨?_, hs.frm⟩)
  rfl
set_option maxRecDepth 100000 in
theorem ib_c (s : ByteArray) (c : UInt8) (h : Hp) : C0 Try.prog 28 [.string s, .int .u8 (c.toNat : Int)] h (.int .i64 (Lib.indexByte s.data.toList c)) := by
  refine enter0 Try.func28 rfl rfl rfl (fun w => ?_)
  refine cy_seq ?_
  refine cy_region ?_
  refine sy_assign rfl rfl rfl ?_
  refine sy_nil rfl ?_
  refine ny_next ?_
  refine cy_seq ?_
  refine cy_region ?_
  refine sy_move rfl rfl rfl ?_
  refine sy_move rfl rfl rfl ?_
  refine sy_call rfl call_33 rfl (ib2_c s c _) rfl rfl ?_
  refine sy_assign rfl rfl rfl ?_
  refine sy_nil rfl ?_
  refine ny_next ?_
  refine cy_ret ?_
  refine ny_finR (res1 rfl rfl) (fun w hs => ⟨?_, hs.frm⟩)
  rfl
set_option maxRecDepth 100000 in
theorem sign_c (c : UInt8) (h : Hp) : C0 Try.prog 21 [.int .u8 (c.toNat : Int)] h (.bool (signB c)) := by
  refine enter0 Try.func21 rfl rfl rfl (fun w => ?_)
  refine cy_seq ?_
  refine cy_region ?_
  refine sy_assign rfl rfl rfl ?_
  refine sy_nil rfl ?_
  refine ny_next ?_
  refine cy_seq ?_
  refine cy_region ?_
  refine sy_move rfl rfl rfl ?_
  refine sy_call rfl call_28 rfl (ib_c _ c _) rfl rfl ?_
  refine sy_cmp rfl rfl rfl rfl rfl ?_
  refine sy_assign rfl rfl rfl ?_
  refine sy_nil rfl ?_
  refine ny_next ?_
  refine cy_ret ?_
  refine ny_finR (res1 rfl rfl) (fun w hs => ⟨?_, hs.frm⟩)
  exact congrArg (fun b => Ending.returned (Value.bool b)) (idx_has signL c)
set_option maxRecDepth 100000 in
theorem row_c (s : ByteArray) (F : Nat) (p : UInt8 → Bool) (h : Hp) (hs : s.size ≤ 140737488355328) (hFB : callB Try.prog F = true) (hF : ∀ c h, C0 Try.prog F [.int .u8 (c.toNat : Int)] h (.bool (p c))) : C0 Try.prog 19 [.string s, .func (.func F) #[] #[]] h (.int .i64 ((runB p s.data.toList : Nat) : Int)) := by
  refine enter0 Try.func19 rfl rfl rfl (fun w => ?_)
  refine cy_seq ?_
  refine cy_region ?_
  refine sy_assign rfl rfl rfl ?_
  refine sy_nil rfl ?_
  refine ny_next ?_
  refine cy_seq ?_
  refine cy_region ?_
  refine sy_assign rfl rfl rfl ?_
  refine sy_nil rfl ?_
  refine ny_next ?_
  refine cy_seq ?_
  refine cy_block ?_
  refine cy_loopK (ι := Nat) [0, 1] rfl (fun i => i ≤ s.size ∧ (s.data.toList.take i).all p = true) (fun i => s.size - i) (fun i => [(5, .int .i64 (i : Int))]) (fun i => h) (fun i => []) 0 [] ⟨Nat.zero_le _, by simp⟩ ⟨rfl, trivial⟩ rfl rfl ?_
  rintro i ⟨hI, hpre⟩
  refine cy_seq ?_
  refine cy_seq ?_
  refine cy_region ?_
  refine sy_move rfl rfl rfl ?_
  refine sy_move rfl rfl rfl ?_
  refine sy_len rfl (len_string Try.underlying9 _) rfl rfl ?_
  refine sy_cmp rfl rfl rfl rfl rfl ?_
  refine sy_move rfl rfl rfl ?_
  refine sy_cond (d := 10) _ rfl rfl (fun hg10 => ?_) (fun hg10 => ?_)
  · have hlti : i < s.size := by have := of_decide_eq_true hg10; omega
    obtain ⟨e0, he0⟩ : ∃ e0, s.data.toList[i]? = some e0 := ⟨_, List.getElem?_eq_getElem (by show i < s.size; omega)⟩
    refine sy_move rfl rfl rfl ?_
    refine sy_move rfl rfl rfl ?_
    refine sy_move rfl rfl rfl ?_
    refine sy_idxs (u := e0) Try.underlying9 rfl rfl (by omega) (ba_at he0) rfl rfl ?_
    refine sy_callv rfl hFB (caps := []) rfl rfl (hF e0 _) rfl rfl ?_
    refine sy_pickT rfl rfl rfl rfl ?_
    refine sy_nil rfl ?_
    refine ny_next ?_
    refine cy_cond rfl (fun hc16 => ?_) (fun hc16 => ?_)
    · refine cy_skip ?_
      refine ny_next ?_
      refine cy_block ?_
      refine cy_region ?_
      refine sy_move rfl rfl rfl ?_
      refine sy_addi (z := ((i + 1 : Nat) : Int)) rfl rfl (by omega) (by omega) (by omega) rfl rfl ?_
      refine sy_assign rfl rfl rfl ?_
      refine sy_nil rfl ?_
      refine ny_blockN ?_
      refine ny_roundK [0, 1] (i + 1) [] ⟨by omega, by rw [all_snoc he0, hpre, hc16]; rfl⟩ (show s.size - (i + 1) < s.size - i by omega) rfl ⟨rfl, trivial⟩ rfl rfl
    · refine cy_exit ?_
      refine ny_thenE ?_
      refine ny_thenE ?_
      refine ny_blockX ?_
      refine ny_next ?_
      refine cy_seq ?_
      refine cy_region ?_
      refine sy_move rfl rfl rfl ?_
      refine sy_assign rfl rfl rfl ?_
      refine sy_nil rfl ?_
      refine ny_next ?_
      refine cy_ret ?_
      refine ny_finR (res1 rfl rfl) (fun w hs2 => ⟨?_, hs2.frm⟩)
      first | (rw [run_at hpre he0 hc16]) | (rw [run_end hpre (by show s.size ≤ i; exact hge)]; refine congrArg (fun z : Nat => Ending.returned (Value.int .i64 (z : Int))) ?_; show i = s.size; omega)
  · have hge : s.size ≤ i := by have := of_decide_eq_false hg10; omega
    refine sy_skip rfl rfl rfl ?_
    refine sy_skip rfl rfl rfl ?_
    refine sy_skip rfl rfl rfl ?_
    refine sy_skip rfl rfl rfl ?_
    refine sy_skip rfl rfl rfl ?_
    refine sy_pickF rfl rfl rfl rfl ?_
    refine sy_nil rfl ?_
    refine ny_next ?_
    refine cy_condF rfl ?_
    refine cy_exit ?_
    refine ny_thenE ?_
    refine ny_thenE ?_
    refine ny_blockX ?_
    refine ny_next ?_
    refine cy_seq ?_
    refine cy_region ?_
    refine sy_move rfl rfl rfl ?_
    refine sy_assign rfl rfl rfl ?_
    refine sy_nil rfl ?_
    refine ny_next ?_
    refine cy_ret ?_
    refine ny_finR (res1 rfl rfl) (fun w hs2 => ⟨?_, hs2.frm⟩)
    first | (rw [run_at hpre he0 hc16]) | (rw [run_end hpre (by show s.size ≤ i; exact hge)]; refine congrArg (fun z : Nat => Ending.returned (Value.int .i64 (z : Int))) ?_; show i = s.size; omega)
set_option maxRecDepth 100000 in
theorem plain_c (s : ByteArray) (h : Hp) (hs : s.size ≤ 140737488355328) : C0 Try.prog 11 [.string s] h (.bool (plainB s.data.toList)) := by
  refine enter0 Try.func11 rfl rfl rfl (fun w => ?_)
  refine cy_seq ?_
  refine cy_region ?_
  refine sy_assign rfl rfl rfl ?_
  refine sy_nil rfl ?_
  refine ny_next ?_
  refine cy_seq ?_
  refine cy_block ?_
  refine cy_seq ?_
  refine cy_region ?_
  refine sy_move rfl rfl rfl ?_
  refine sy_eqs rfl rfl rfl rfl ?_
  refine sy_move rfl rfl rfl ?_
  refine sy_cond (d := 6) _ rfl rfl (fun hg6 => ?_) (fun hg6 => ?_)
  · refine sy_skip rfl rfl rfl ?_
    refine sy_skip rfl rfl rfl ?_
    refine sy_pickT rfl rfl rfl rfl ?_
    refine sy_assign rfl rfl rfl ?_
    refine sy_nil rfl ?_
    refine ny_next ?_
    refine cy_condT rfl ?_
    refine cy_seq ?_
    refine cy_region ?_
    refine sy_assign rfl rfl rfl ?_
    refine sy_nil rfl ?_
    refine ny_next ?_
    refine cy_ret ?_
    refine ny_blockR ?_
    refine ny_thenR ?_
    refine ny_finR (res1 rfl rfl) (fun w hs2 => ⟨?_, hs2.frm⟩)
    refine congrArg (fun b => Ending.returned (Value.bool b)) ?_
    unfold plainB
    simp_all
  · refine sy_move rfl rfl rfl ?_
    refine sy_eqs rfl rfl rfl rfl ?_
    refine sy_pickF rfl rfl rfl rfl ?_
    refine sy_assign rfl rfl rfl ?_
    refine sy_nil rfl ?_
    refine ny_next ?_
    refine cy_cond rfl (fun hc3 => ?_) (fun hc3 => ?_)
    · refine cy_seq ?_
      refine cy_region ?_
      refine sy_assign rfl rfl rfl ?_
      refine sy_nil rfl ?_
      refine ny_next ?_
      refine cy_ret ?_
      refine ny_blockR ?_
      refine ny_thenR ?_
      refine ny_finR (res1 rfl rfl) (fun w hs2 => ⟨?_, hs2.frm⟩)
      refine congrArg (fun b => Ending.returned (Value.bool b)) ?_
      unfold plainB
      simp_all
    · refine cy_seq ?_
      refine cy_region ?_
      refine sy_move rfl rfl rfl ?_
      refine sy_eqs rfl rfl rfl rfl ?_
      refine sy_move rfl rfl rfl ?_
      refine sy_cond (d := 13) _ rfl rfl (fun hg13 => ?_) (fun hg13 => ?_)
      · refine sy_skip rfl rfl rfl ?_
        refine sy_skip rfl rfl rfl ?_
        refine sy_pickT rfl rfl rfl rfl ?_
        refine sy_move rfl rfl rfl ?_
        refine sy_skip rfl rfl rfl ?_
        refine sy_skip rfl rfl rfl ?_
        refine sy_pickT rfl rfl rfl rfl ?_
        refine sy_assign rfl rfl rfl ?_
        refine sy_nil rfl ?_
        refine ny_next ?_
        refine cy_condT rfl ?_
        refine cy_seq ?_
        refine cy_region ?_
        refine sy_assign rfl rfl rfl ?_
        refine sy_nil rfl ?_
        refine ny_next ?_
        refine cy_ret ?_
        refine ny_blockR ?_
        refine ny_thenR ?_
        refine ny_finR (res1 rfl rfl) (fun w hs2 => ⟨?_, hs2.frm⟩)
        refine congrArg (fun b => Ending.returned (Value.bool b)) ?_
        unfold plainB
        simp_all
      · refine sy_move rfl rfl rfl ?_
        refine sy_eqs rfl rfl rfl rfl ?_
        refine sy_pickF rfl rfl rfl rfl ?_
        refine sy_move rfl rfl rfl ?_
        refine sy_cond (d := 17) _ rfl rfl (fun hg17 => ?_) (fun hg17 => ?_)
        · refine sy_skip rfl rfl rfl ?_
          refine sy_skip rfl rfl rfl ?_
          refine sy_pickT rfl rfl rfl rfl ?_
          refine sy_assign rfl rfl rfl ?_
          refine sy_nil rfl ?_
          refine ny_next ?_
          refine cy_condT rfl ?_
          refine cy_seq ?_
          refine cy_region ?_
          refine sy_assign rfl rfl rfl ?_
          refine sy_nil rfl ?_
          refine ny_next ?_
          refine cy_ret ?_
          refine ny_blockR ?_
          refine ny_thenR ?_
          refine ny_finR (res1 rfl rfl) (fun w hs2 => ⟨?_, hs2.frm⟩)
          refine congrArg (fun b => Ending.returned (Value.bool b)) ?_
          unfold plainB
          simp_all
        · refine sy_move rfl rfl rfl ?_
          refine sy_eqs rfl rfl rfl rfl ?_
          refine sy_pickF rfl rfl rfl rfl ?_
          refine sy_assign rfl rfl rfl ?_
          refine sy_nil rfl ?_
          refine ny_next ?_
          refine cy_cond rfl (fun hc10 => ?_) (fun hc10 => ?_)
          · refine cy_seq ?_
            refine cy_region ?_
            refine sy_assign rfl rfl rfl ?_
            refine sy_nil rfl ?_
            refine ny_next ?_
            refine cy_ret ?_
            refine ny_blockR ?_
            refine ny_thenR ?_
            refine ny_finR (res1 rfl rfl) (fun w hs2 => ⟨?_, hs2.frm⟩)
            refine congrArg (fun b => Ending.returned (Value.bool b)) ?_
            unfold plainB
            simp_all
          · refine cy_skip ?_
            refine ny_blockN ?_
            refine ny_next ?_
            refine cy_seq ?_
            have hne : s.data.toList ≠ [] := by
              intro h9
              simp_all
            obtain ⟨e0, r0, hl0⟩ : ∃ e0 r0, s.data.toList = e0 :: r0 := List.exists_cons_of_ne_nil hne
            have he0 : s.data.toList[0]? = some e0 := by rw [hl0]; rfl
            refine cy_region ?_
            refine sy_move rfl rfl rfl ?_
            refine sy_idxs (u := e0) Try.underlying9 rfl rfl (by omega) (ba_at (i := 0) he0) rfl rfl ?_
            refine sy_call rfl call_18 rfl (small_c e0 _) rfl rfl ?_
            refine sy_move rfl rfl rfl ?_
            refine sy_cond (d := 24) _ rfl rfl (fun hg24 => ?_) (fun hg24 => ?_)
            · refine sy_move rfl rfl rfl ?_
              refine sy_call rfl call_19 rfl (row_c s 20 letterB _ hs call_20 (fun c h => letter_c c h)) rfl rfl ?_
              refine sy_move rfl rfl rfl ?_
              refine sy_len rfl (len_string Try.underlying9 _) rfl rfl ?_
              refine sy_cmp rfl rfl rfl rfl rfl ?_
              refine sy_pickT rfl rfl rfl rfl ?_
              refine sy_move rfl rfl rfl ?_
              refine sy_cond (d := 31) _ rfl rfl (fun hg31 => ?_) (fun hg31 => ?_)
              · refine sy_skip rfl rfl rfl ?_
                refine sy_skip rfl rfl rfl ?_
                refine sy_skip rfl rfl rfl ?_
                refine sy_skip rfl rfl rfl ?_
                refine sy_skip rfl rfl rfl ?_
                refine sy_pickT rfl rfl rfl rfl ?_
                refine sy_assign rfl rfl rfl ?_
                refine sy_nil rfl ?_
                refine ny_next ?_
                refine cy_ret ?_
                refine ny_finR (res1 rfl rfl) (fun w hs2 => ⟨?_, hs2.frm⟩)
                refine congrArg (fun b => Ending.returned (Value.bool b)) ?_
                have q1 := run_all letterB s.data.toList
                have q2 := run_all signB s.data.toList
                have q3 : firstB smallB s.data.toList = smallB e0 := by rw [hl0]; rfl
                have q4 : s.data.toList.length = s.size := rfl
                rw [q4] at q1 q2
                show _ = plainB s.data.toList
                rw [plain_end hg6 hc3 hg13 hg17 hc10, q3, ← q1, ← q2]
                first | (rw [hg24, hg31]; rfl) | (rw [hg24]; rfl)
              · refine sy_move rfl rfl rfl ?_
                refine sy_call rfl call_19 rfl (row_c s 21 signB _ hs call_21 (fun c h => sign_c c h)) rfl rfl ?_
                refine sy_move rfl rfl rfl ?_
                refine sy_len rfl (len_string Try.underlying9 _) rfl rfl ?_
                refine sy_cmp rfl rfl rfl rfl rfl ?_
                refine sy_pickF rfl rfl rfl rfl ?_
                refine sy_assign rfl rfl rfl ?_
                refine sy_nil rfl ?_
                refine ny_next ?_
                refine cy_ret ?_
                refine ny_finR (res1 rfl rfl) (fun w hs2 => ⟨?_, hs2.frm⟩)
                refine congrArg (fun b => Ending.returned (Value.bool b)) ?_
                have q1 := run_all letterB s.data.toList
                have q2 := run_all signB s.data.toList
                have q3 : firstB smallB s.data.toList = smallB e0 := by rw [hl0]; rfl
                have q4 : s.data.toList.length = s.size := rfl
                rw [q4] at q1 q2
                show _ = plainB s.data.toList
                rw [plain_end hg6 hc3 hg13 hg17 hc10, q3, ← q1, ← q2]
                first | (rw [hg24, hg31]; rfl) | (rw [hg24]; rfl)
            · refine sy_skip rfl rfl rfl ?_
              refine sy_skip rfl rfl rfl ?_
              refine sy_skip rfl rfl rfl ?_
              refine sy_skip rfl rfl rfl ?_
              refine sy_skip rfl rfl rfl ?_
              refine sy_pickF rfl rfl rfl rfl ?_
              refine sy_move rfl rfl rfl ?_
              refine sy_move rfl rfl rfl ?_
              refine sy_call rfl call_19 rfl (row_c s 21 signB _ hs call_21 (fun c h => sign_c c h)) rfl rfl ?_
              refine sy_move rfl rfl rfl ?_
              refine sy_len rfl (len_string Try.underlying9 _) rfl rfl ?_
              refine sy_cmp rfl rfl rfl rfl rfl ?_
              refine sy_pickF rfl rfl rfl rfl ?_
              refine sy_assign rfl rfl rfl ?_
              refine sy_nil rfl ?_
              refine ny_next ?_
              refine cy_ret ?_
              refine ny_finR (res1 rfl rfl) (fun w hs2 => ⟨?_, hs2.frm⟩)
              refine congrArg (fun b => Ending.returned (Value.bool b)) ?_
              have q1 := run_all letterB s.data.toList
              have q2 := run_all signB s.data.toList
              have q3 : firstB smallB s.data.toList = smallB e0 := by rw [hl0]; rfl
              have q4 : s.data.toList.length = s.size := rfl
              rw [q4] at q1 q2
              show _ = plainB s.data.toList
              rw [plain_end hg6 hc3 hg13 hg17 hc10, q3, ← q1, ← q2]
              first | (rw [hg24, hg31]; rfl) | (rw [hg24]; rfl)
end Go.Proofs.Ytdbeiaohibgmeaa

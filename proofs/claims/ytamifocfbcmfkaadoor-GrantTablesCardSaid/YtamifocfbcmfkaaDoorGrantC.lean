/- The laws on grants that ask for an error's number: the walks. Conditions: as each says. Printed by a program of this session. -/
import Derived.Test.YtamifocfbcmfkaaDoorFactsZ
import Derived.Test.YtamifocfbcmfkaaDoorGrantB
import Derived.Test.YtamifocfbcmfkaaDoorErrB
import Derived.Test.YtamifocfbcmfkaaDoorFigPure
import Derived.Test.YtamifocfbcmfkaaDoorNamePure
set_option linter.unusedVariables false
set_option linter.unusedSimpArgs false
namespace Go.Proofs.YtamifocfbcmfkaaDoor
open Go.RowKit Go.Proofs.YtamifocfbcmfkaaDoor.E Go.Proofs.YtamifocfbcmfkaaDoor.LattP Go.Proofs.YtamifocfbcmfkaaDoor.ChanP Go.Proofs.YtamifocfbcmfkaaDoor.GrantP
def Hdl (h : Hp) : Prop := h.cell ⟨0, 0, none⟩ = some (.iface 135 (.agg #[.pointer (some ⟨4, 34, none⟩)]))
theorem Hdl.le {h h' : Hp} (hh : Hdl h) (hl : h.Le h') : Hdl h' := hl.cell hh
set_option maxRecDepth 100000 in
theorem figs_c (m : Nat) : ∀ (x : Int) (h : Hp), x.natAbs = m → -9223372036854775808 ≤ x → x ≤ 9223372036854775807 → C0 Tryd.prog 57 [.int .i64 x] h (.string ⟨(Lib.itoa x).toArray⟩) := by
  induction m using Nat.strongRecOn
  rename_i m ih
  intro x h hmx hxl hxu
  refine enter0 Tryd.func57 rfl rfl rfl (fun w => ?_)
  refine cy_seq ?_
  refine cy_region ?_
  refine sy_assign rfl rfl rfl ?_
  refine sy_nil rfl ?_
  refine ny_next ?_
  refine cy_seq ?_
  refine cy_seq ?_
  refine cy_region ?_
  refine sy_move rfl rfl rfl ?_
  refine sy_cmp rfl rfl rfl rfl rfl ?_
  refine sy_nil rfl ?_
  refine ny_next ?_
  refine cy_cond rfl (fun hc5 => ?_) (fun hc5 => ?_)
  · have hx0 : x < 0 := by simpa using hc5
    obtain ⟨hm1, hd1⟩ := neg_ten hx0
    refine cy_seq ?_
    refine cy_region ?_
    refine sy_move rfl rfl rfl ?_
    refine sy_remt rfl rfl (by decide) (by decide) hm1 rfl rfl ?_
    refine sy_negi Tryd.underlying2 rfl (by omega) (by omega) rfl rfl ?_
    refine sy_assign rfl rfl rfl ?_
    refine sy_nil rfl ?_
    refine ny_next ?_
    refine cy_seq ?_
    refine cy_seq ?_
    refine cy_region ?_
    refine sy_move rfl rfl rfl ?_
    refine sy_cmp rfl rfl rfl rfl rfl ?_
    refine sy_nil rfl ?_
    refine ny_next ?_
    refine cy_cond rfl (fun hc10 => ?_) (fun hc10 => ?_)
    · have hx1 : -10 < x := by simpa using hc10
      refine cy_seq ?_
      refine cy_region ?_
      refine sy_move rfl rfl rfl ?_
      refine sy_addi (z := ((48 + (x.natAbs % 10) : Nat) : Int)) rfl rfl (by omega) (by omega) (by omega) rfl rfl ?_
      refine sy_conv8 Tryd.underlying2 Tryd.underlying5 rfl (by omega) (by omega) rfl rfl ?_
      refine sy_buildSlice rfl (fun w => bsl_118_1_0 w) rfl rfl (fun b14 hb14 hM14 => ?_) (by simp)
      refine sy_byte1 (u := UInt8.ofNat (48 + (x.natAbs % 10))) 0 Tryd.underlying118 Tryd.underlying5 Tryd.underlying9 rfl rfl (dg_nat (by omega)) rfl rfl ?_
      refine sy_cat rfl rfl (by show 1 + 1 ≤ _; decide) rfl rfl ?_
      refine sy_assign rfl rfl rfl ?_
      refine sy_nil rfl ?_
      refine ny_next ?_
      refine cy_ret ?_
      refine ny_thenR ?_
      refine ny_thenR ?_
      refine ny_finR (res1 rfl rfl) (fun w hs => ⟨?_, hs.frm⟩)
      rw [itoa_n1 hx0 hx1]
    · have hx1 : ¬ -10 < x := by simpa using hc10
      refine cy_skip ?_
      refine ny_next ?_
      refine cy_seq ?_
      refine cy_regionA mixedA ?_
      refine zy_q 0 rfl (by kernel_rfl) (fun hB5_0 => ?_)
      refine sy_move rfl rfl rfl ?_
      refine sy_nil1 (ny_zq hB5_0 ?_)
      refine zy_q 1 rfl (by kernel_rfl) (fun hB5_1 => ?_)
      refine sy_quo rfl rfl (by decide) rfl (by omega) (by omega) rfl rfl ?_
      refine sy_nil1 (ny_zq hB5_1 ?_)
      refine zy_q 3 rfl (by kernel_rfl) (fun hB5_3 => ?_)
      refine sy_move rfl rfl rfl ?_
      refine sy_nil1 (ny_zq hB5_3 ?_)
      refine zy_q 4 rfl (by kernel_rfl) (fun hB5_4 => ?_)
      refine sy_addi (z := ((48 + (x.natAbs % 10) : Nat) : Int)) rfl rfl (by omega) (by omega) (by omega) rfl rfl ?_
      refine sy_nil1 (ny_zq hB5_4 ?_)
      refine zy_q 5 rfl (by kernel_rfl) (fun hB5_5 => ?_)
      refine sy_conv8 Tryd.underlying2 Tryd.underlying5 rfl (by omega) (by omega) rfl rfl ?_
      refine sy_nil1 (ny_zq hB5_5 ?_)
      refine zy_2 2 6 (by kernel_rfl) ?_ ?_
      · refine zop_run rfl rfl (fun hB5_2 => ?_)
        refine sy_call rfl call_57 rfl (ih (x.tdiv 10).natAbs (by omega) (x.tdiv 10) _ rfl (by omega) (by omega)) rfl rfl ?_
        refine sy_nil rfl (ny_zy hB5_2 (Hp.Le.refl _) ?_)
        refine zy_1 6 (by kernel_rfl) ?_
        refine zop_run rfl rfl (fun hB5_6 => ?_)
        refine sy_buildSlice rfl (fun w => bsl_118_1_0 w) rfl rfl (fun b23 hb23 hM23 => ?_) (by simp)
        refine sy_nil rfl (ny_zy hB5_6 (Hp.Le.refl _) ?_)
        refine zy_1 7 (by kernel_rfl) ?_
        refine zop_run rfl rfl (fun hB5_7 => ?_)
        refine sy_byte1 (u := UInt8.ofNat (48 + (x.natAbs % 10))) 0 Tryd.underlying118 Tryd.underlying5 Tryd.underlying9 rfl rfl (dg_nat (by omega)) rfl rfl ?_
        refine sy_nil rfl (ny_zy hB5_7 (Hp.Le.refl _) ?_)
        refine zy_q 8 rfl (by kernel_rfl) (fun hB5_8 => ?_)
        refine sy_cat rfl rfl (by have h1 := itoa_size (x.tdiv 10) (by omega) (by omega); show (⟨(Lib.itoa (x.tdiv 10)).toArray⟩ : ByteArray).size + 1 ≤ _; omega) rfl rfl ?_
        refine sy_nil1 (ny_zq hB5_8 ?_)
        refine zy_q 9 rfl (by kernel_rfl) (fun hB5_9 => ?_)
        refine sy_assign rfl rfl rfl ?_
        refine sy_nil1 (ny_zq hB5_9 ?_)
        refine zy_done (by kernel_rfl) ?_
        refine ny_next ?_
        refine cy_ret ?_
        refine ny_thenR ?_
        refine ny_finR (res1 rfl rfl) (fun w hs => ⟨?_, hs.frm⟩)
        rw [itoa_nR hx0 hx1]
      · refine zop_run rfl rfl (fun hB5_6 => ?_)
        refine sy_buildSlice rfl (fun w => bsl_118_1_0 w) rfl rfl (fun b23 hb23 hM23 => ?_) (by simp)
        refine sy_nil rfl (ny_zy hB5_6 (Hp.Le.refl _) ?_)
        refine zy_2 2 7 (by kernel_rfl) ?_ ?_
        · refine zop_run rfl rfl (fun hB5_2 => ?_)
          refine sy_call rfl call_57 rfl (ih (x.tdiv 10).natAbs (by omega) (x.tdiv 10) _ rfl (by omega) (by omega)) rfl rfl ?_
          refine sy_nil rfl (ny_zy hB5_2 (Hp.Le.refl _) ?_)
          refine zy_1 7 (by kernel_rfl) ?_
          refine zop_run rfl rfl (fun hB5_7 => ?_)
          refine sy_byte1 (u := UInt8.ofNat (48 + (x.natAbs % 10))) 0 Tryd.underlying118 Tryd.underlying5 Tryd.underlying9 rfl rfl (dg_nat (by omega)) rfl rfl ?_
          refine sy_nil rfl (ny_zy hB5_7 (Hp.Le.refl _) ?_)
          refine zy_q 8 rfl (by kernel_rfl) (fun hB5_8 => ?_)
          refine sy_cat rfl rfl (by have h1 := itoa_size (x.tdiv 10) (by omega) (by omega); show (⟨(Lib.itoa (x.tdiv 10)).toArray⟩ : ByteArray).size + 1 ≤ _; omega) rfl rfl ?_
          refine sy_nil1 (ny_zq hB5_8 ?_)
          refine zy_q 9 rfl (by kernel_rfl) (fun hB5_9 => ?_)
          refine sy_assign rfl rfl rfl ?_
          refine sy_nil1 (ny_zq hB5_9 ?_)
          refine zy_done (by kernel_rfl) ?_
          refine ny_next ?_
          refine cy_ret ?_
          refine ny_thenR ?_
          refine ny_finR (res1 rfl rfl) (fun w hs => ⟨?_, hs.frm⟩)
          rw [itoa_nR hx0 hx1]
        · refine zop_run rfl rfl (fun hB5_7 => ?_)
          refine sy_byte1 (u := UInt8.ofNat (48 + (x.natAbs % 10))) 0 Tryd.underlying118 Tryd.underlying5 Tryd.underlying9 rfl rfl (dg_nat (by omega)) rfl rfl ?_
          refine sy_nil rfl (ny_zy hB5_7 (Hp.Le.refl _) ?_)
          refine zy_1 2 (by kernel_rfl) ?_
          refine zop_run rfl rfl (fun hB5_2 => ?_)
          refine sy_call rfl call_57 rfl (ih (x.tdiv 10).natAbs (by omega) (x.tdiv 10) _ rfl (by omega) (by omega)) rfl rfl ?_
          refine sy_nil rfl (ny_zy hB5_2 (Hp.Le.refl _) ?_)
          refine zy_q 8 rfl (by kernel_rfl) (fun hB5_8 => ?_)
          refine sy_cat rfl rfl (by have h1 := itoa_size (x.tdiv 10) (by omega) (by omega); show (⟨(Lib.itoa (x.tdiv 10)).toArray⟩ : ByteArray).size + 1 ≤ _; omega) rfl rfl ?_
          refine sy_nil1 (ny_zq hB5_8 ?_)
          refine zy_q 9 rfl (by kernel_rfl) (fun hB5_9 => ?_)
          refine sy_assign rfl rfl rfl ?_
          refine sy_nil1 (ny_zq hB5_9 ?_)
          refine zy_done (by kernel_rfl) ?_
          refine ny_next ?_
          refine cy_ret ?_
          refine ny_thenR ?_
          refine ny_finR (res1 rfl rfl) (fun w hs => ⟨?_, hs.frm⟩)
          rw [itoa_nR hx0 hx1]
  · have hx0 : 0 ≤ x := by simpa using hc5
    obtain ⟨hm1, hd1⟩ := pos_ten hx0
    refine cy_skip ?_
    refine ny_next ?_
    refine cy_seq ?_
    refine cy_seq ?_
    refine cy_region ?_
    refine sy_move rfl rfl rfl ?_
    refine sy_cmp rfl rfl rfl rfl rfl ?_
    refine sy_nil rfl ?_
    refine ny_next ?_
    refine cy_cond rfl (fun hc27 => ?_) (fun hc27 => ?_)
    · have hx1 : x < 10 := by simpa using hc27
      refine cy_seq ?_
      refine cy_region ?_
      refine sy_move rfl rfl rfl ?_
      refine sy_addi (z := ((48 + x.natAbs : Nat) : Int)) rfl rfl (by omega) (by omega) (by omega) rfl rfl ?_
      refine sy_conv8 Tryd.underlying2 Tryd.underlying5 rfl (by omega) (by omega) rfl rfl ?_
      refine sy_buildSlice rfl (fun w => bsl_118_1_0 w) rfl rfl (fun b31 hb31 hM31 => ?_) (by simp)
      refine sy_byte1 (u := UInt8.ofNat (48 + x.natAbs)) 0 Tryd.underlying118 Tryd.underlying5 Tryd.underlying9 rfl rfl (dg_nat (by omega)) rfl rfl ?_
      refine sy_assign rfl rfl rfl ?_
      refine sy_nil rfl ?_
      refine ny_next ?_
      refine cy_ret ?_
      refine ny_thenR ?_
      refine ny_finR (res1 rfl rfl) (fun w hs => ⟨?_, hs.frm⟩)
      rw [itoa_p1 hx0 hx1]
    · have hx1 : ¬ x < 10 := by simpa using hc27
      refine cy_skip ?_
      refine ny_next ?_
      refine cy_seq ?_
      refine cy_regionA mixedA ?_
      refine zy_q 0 rfl (by kernel_rfl) (fun hB8_0 => ?_)
      refine sy_move rfl rfl rfl ?_
      refine sy_nil1 (ny_zq hB8_0 ?_)
      refine zy_q 1 rfl (by kernel_rfl) (fun hB8_1 => ?_)
      refine sy_quo rfl rfl (by decide) rfl (by omega) (by omega) rfl rfl ?_
      refine sy_nil1 (ny_zq hB8_1 ?_)
      refine zy_q 3 rfl (by kernel_rfl) (fun hB8_3 => ?_)
      refine sy_move rfl rfl rfl ?_
      refine sy_nil1 (ny_zq hB8_3 ?_)
      refine zy_q 4 rfl (by kernel_rfl) (fun hB8_4 => ?_)
      refine sy_remt rfl rfl (by decide) (by decide) hm1 rfl rfl ?_
      refine sy_nil1 (ny_zq hB8_4 ?_)
      refine zy_q 5 rfl (by kernel_rfl) (fun hB8_5 => ?_)
      refine sy_addi (z := ((48 + (x.natAbs % 10) : Nat) : Int)) rfl rfl (by omega) (by omega) (by omega) rfl rfl ?_
      refine sy_nil1 (ny_zq hB8_5 ?_)
      refine zy_q 6 rfl (by kernel_rfl) (fun hB8_6 => ?_)
      refine sy_conv8 Tryd.underlying2 Tryd.underlying5 rfl (by omega) (by omega) rfl rfl ?_
      refine sy_nil1 (ny_zq hB8_6 ?_)
      refine zy_2 2 7 (by kernel_rfl) ?_ ?_
      · refine zop_run rfl rfl (fun hB8_2 => ?_)
        refine sy_call rfl call_57 rfl (ih (x.tdiv 10).natAbs (by omega) (x.tdiv 10) _ rfl (by omega) (by omega)) rfl rfl ?_
        refine sy_nil rfl (ny_zy hB8_2 (Hp.Le.refl _) ?_)
        refine zy_1 7 (by kernel_rfl) ?_
        refine zop_run rfl rfl (fun hB8_7 => ?_)
        refine sy_buildSlice rfl (fun w => bsl_118_1_0 w) rfl rfl (fun b40 hb40 hM40 => ?_) (by simp)
        refine sy_nil rfl (ny_zy hB8_7 (Hp.Le.refl _) ?_)
        refine zy_1 8 (by kernel_rfl) ?_
        refine zop_run rfl rfl (fun hB8_8 => ?_)
        refine sy_byte1 (u := UInt8.ofNat (48 + (x.natAbs % 10))) 0 Tryd.underlying118 Tryd.underlying5 Tryd.underlying9 rfl rfl (dg_nat (by omega)) rfl rfl ?_
        refine sy_nil rfl (ny_zy hB8_8 (Hp.Le.refl _) ?_)
        refine zy_q 9 rfl (by kernel_rfl) (fun hB8_9 => ?_)
        refine sy_cat rfl rfl (by have h1 := itoa_size (x.tdiv 10) (by omega) (by omega); show (⟨(Lib.itoa (x.tdiv 10)).toArray⟩ : ByteArray).size + 1 ≤ _; omega) rfl rfl ?_
        refine sy_nil1 (ny_zq hB8_9 ?_)
        refine zy_q 10 rfl (by kernel_rfl) (fun hB8_10 => ?_)
        refine sy_assign rfl rfl rfl ?_
        refine sy_nil1 (ny_zq hB8_10 ?_)
        refine zy_done (by kernel_rfl) ?_
        refine ny_next ?_
        refine cy_ret ?_
        refine ny_finR (res1 rfl rfl) (fun w hs => ⟨?_, hs.frm⟩)
        rw [itoa_pR hx0 hx1]
      · refine zop_run rfl rfl (fun hB8_7 => ?_)
        refine sy_buildSlice rfl (fun w => bsl_118_1_0 w) rfl rfl (fun b40 hb40 hM40 => ?_) (by simp)
        refine sy_nil rfl (ny_zy hB8_7 (Hp.Le.refl _) ?_)
        refine zy_2 2 8 (by kernel_rfl) ?_ ?_
        · refine zop_run rfl rfl (fun hB8_2 => ?_)
          refine sy_call rfl call_57 rfl (ih (x.tdiv 10).natAbs (by omega) (x.tdiv 10) _ rfl (by omega) (by omega)) rfl rfl ?_
          refine sy_nil rfl (ny_zy hB8_2 (Hp.Le.refl _) ?_)
          refine zy_1 8 (by kernel_rfl) ?_
          refine zop_run rfl rfl (fun hB8_8 => ?_)
          refine sy_byte1 (u := UInt8.ofNat (48 + (x.natAbs % 10))) 0 Tryd.underlying118 Tryd.underlying5 Tryd.underlying9 rfl rfl (dg_nat (by omega)) rfl rfl ?_
          refine sy_nil rfl (ny_zy hB8_8 (Hp.Le.refl _) ?_)
          refine zy_q 9 rfl (by kernel_rfl) (fun hB8_9 => ?_)
          refine sy_cat rfl rfl (by have h1 := itoa_size (x.tdiv 10) (by omega) (by omega); show (⟨(Lib.itoa (x.tdiv 10)).toArray⟩ : ByteArray).size + 1 ≤ _; omega) rfl rfl ?_
          refine sy_nil1 (ny_zq hB8_9 ?_)
          refine zy_q 10 rfl (by kernel_rfl) (fun hB8_10 => ?_)
          refine sy_assign rfl rfl rfl ?_
          refine sy_nil1 (ny_zq hB8_10 ?_)
          refine zy_done (by kernel_rfl) ?_
          refine ny_next ?_
          refine cy_ret ?_
          refine ny_finR (res1 rfl rfl) (fun w hs => ⟨?_, hs.frm⟩)
          rw [itoa_pR hx0 hx1]
        · refine zop_run rfl rfl (fun hB8_8 => ?_)
          refine sy_byte1 (u := UInt8.ofNat (48 + (x.natAbs % 10))) 0 Tryd.underlying118 Tryd.underlying5 Tryd.underlying9 rfl rfl (dg_nat (by omega)) rfl rfl ?_
          refine sy_nil rfl (ny_zy hB8_8 (Hp.Le.refl _) ?_)
          refine zy_1 2 (by kernel_rfl) ?_
          refine zop_run rfl rfl (fun hB8_2 => ?_)
          refine sy_call rfl call_57 rfl (ih (x.tdiv 10).natAbs (by omega) (x.tdiv 10) _ rfl (by omega) (by omega)) rfl rfl ?_
          refine sy_nil rfl (ny_zy hB8_2 (Hp.Le.refl _) ?_)
          refine zy_q 9 rfl (by kernel_rfl) (fun hB8_9 => ?_)
          refine sy_cat rfl rfl (by have h1 := itoa_size (x.tdiv 10) (by omega) (by omega); show (⟨(Lib.itoa (x.tdiv 10)).toArray⟩ : ByteArray).size + 1 ≤ _; omega) rfl rfl ?_
          refine sy_nil1 (ny_zq hB8_9 ?_)
          refine zy_q 10 rfl (by kernel_rfl) (fun hB8_10 => ?_)
          refine sy_assign rfl rfl rfl ?_
          refine sy_nil1 (ny_zq hB8_10 ?_)
          refine zy_done (by kernel_rfl) ?_
          refine ny_next ?_
          refine cy_ret ?_
          refine ny_finR (res1 rfl rfl) (fun w hs => ⟨?_, hs.frm⟩)
          rw [itoa_pR hx0 hx1]
set_option maxRecDepth 100000 in
theorem rtext_c (o : ByteArray) (x y : Int) (h : Hp) (ho : o.size ≤ 140737488355328) (hx0 : -9223372036854775808 ≤ x) (hx1 : x ≤ 9223372036854775807) (hy0 : -9223372036854775808 ≤ y) (hy1 : y ≤ 9223372036854775807) : C0 Tryd.prog 28 [.string o, .int .i64 x, .int .i64 y] h (.string (gtxt o x y)) := by
  refine enter0 Tryd.func28 rfl rfl rfl (fun w => ?_)
  refine cy_seq ?_
  refine cy_region ?_
  refine sy_assign rfl rfl rfl ?_
  refine sy_nil rfl ?_
  refine ny_next ?_
  refine cy_seq ?_
  refine cy_region ?_
  refine sy_move rfl rfl rfl ?_
  refine sy_cat rfl rfl (by simp only [size1]; omega) rfl rfl ?_
  refine sy_move rfl rfl rfl ?_
  refine sy_call rfl call_57 rfl (figs_c _ x _ rfl (by omega) (by omega)) rfl rfl ?_
  refine sy_cat rfl rfl (by have h1 := itoa_size x hx0 hx1; have h2 := itoa_size y hy0 hy1; simp only [ByteArray.size_append, size1, size1b]; omega) rfl rfl ?_
  refine sy_cat rfl rfl (by have h1 := itoa_size x hx0 hx1; have h2 := itoa_size y hy0 hy1; simp only [ByteArray.size_append, size1, size1b]; omega) rfl rfl ?_
  refine sy_move rfl rfl rfl ?_
  refine sy_call rfl call_57 rfl (figs_c _ y _ rfl (by omega) (by omega)) rfl rfl ?_
  refine sy_cat rfl rfl (by have h1 := itoa_size x hx0 hx1; have h2 := itoa_size y hy0 hy1; simp only [ByteArray.size_append, size1, size1b]; omega) rfl rfl ?_
  refine sy_assign rfl rfl rfl ?_
  refine sy_nil rfl ?_
  refine ny_next ?_
  refine cy_ret ?_
  refine ny_finR (res1 rfl rfl) (fun w hs => ⟨?_, hs.frm⟩)
  rfl
set_option maxRecDepth 100000 in
theorem texts02_c (o : ByteArray) (x y : Int) (h : Hp) (ht : Tab10 h) (hh : Hdl h) (ho : o.size ≤ 140737488355328) (hx0 : -9223372036854775808 ≤ x) (hx1 : x ≤ 9223372036854775807) (hy0 : -9223372036854775808 ≤ y) (hy1 : y ≤ 9223372036854775807) : C0 Tryd.prog 7 [.string o, .int .i64 x, .int .i64 y] h (.bool true) := by
  refine enter0 Tryd.func7 rfl rfl rfl (fun w => ?_)
  refine cy_seq ?_
  refine cy_region ?_
  refine sy_assign rfl rfl rfl ?_
  refine sy_nil rfl ?_
  refine ny_next ?_
  refine cy_seq ?_
  refine cy_region ?_
  refine sy_call rfl call_17 rfl (shown02_c _ ht) rfl rfl ?_
  refine sy_assign rfl rfl rfl ?_
  refine sy_nil rfl ?_
  refine ny_next ?_
  refine cy_seq ?_
  refine cy_region ?_
  refine sy_move rfl rfl rfl ?_
  refine sy_move rfl rfl rfl ?_
  refine sy_setT (d := 10) rfl rfl (by first | rfl | decide | simp) ?_
  refine sy_move rfl rfl rfl ?_
  refine sy_move rfl rfl rfl ?_
  refine sy_move rfl rfl rfl ?_
  refine sy_call rfl call_27 rfl (gtext_c _ _ _ _ ht ho hx0 hx1 hy0 hy1) rfl rfl ?_
  refine sy_move rfl rfl rfl ?_
  refine sy_move rfl rfl rfl ?_
  refine sy_move rfl rfl rfl ?_
  refine sy_call rfl call_28 rfl (rtext_c _ _ _ _ ho hx0 hx1 hy0 hy1) rfl rfl ?_
  refine sy_eqs rfl rfl rfl rfl ?_
  refine sy_setT (d := 19) rfl rfl (by simp) ?_
  refine sy_pickT rfl rfl rfl rfl ?_
  refine sy_move rfl rfl rfl ?_
  refine sy_call rfl call_29 rfl (codeN_c _) rfl rfl ?_
  refine sy_cmp rfl rfl rfl rfl rfl ?_
  refine sy_pickT rfl rfl rfl rfl ?_
  refine sy_move rfl rfl rfl ?_
  refine sy_setT (d := 25) rfl rfl (by first | rfl | decide | simp) ?_
  refine sy_iface Tryd.underlying28 rfl rfl rfl rfl ?_
  refine sy_call rfl call_29 rfl (codeE_c 7 _ hh) rfl rfl ?_
  refine sy_cmp rfl rfl rfl rfl rfl ?_
  refine sy_pickT rfl rfl rfl rfl ?_
  refine sy_assign rfl rfl rfl ?_
  refine sy_nil rfl ?_
  refine ny_next ?_
  refine cy_ret ?_
  exact ny_finR (res1 rfl rfl) (fun w hs => ⟨rfl, hs.frm⟩)
set_option maxRecDepth 100000 in
theorem names11_c (s : ByteArray) (c : UInt8) (h : Hp) (ht : Tab10 h) (hh : Hdl h) (hs : s.size ≤ 140737488355328) (hnm : nameB s = true) (hc : c.toNat ≤ 100) : C0 Tryd.prog 8 [.string s, .int .u8 (c.toNat : Int)] h (.bool true) := by
  have hct := c.toNat_lt
  have h0 := names_fine hnm
  have h1 := many_fine hc
  refine enter0 Tryd.func8 rfl rfl rfl (fun w => ?_)
  refine cy_seq ?_
  refine cy_region ?_
  refine sy_assign rfl rfl rfl ?_
  refine sy_nil rfl ?_
  refine ny_next ?_
  refine cy_seq ?_
  refine cy_region ?_
  refine sy_call rfl call_17 rfl (shown02_c _ ht) rfl rfl ?_
  refine sy_assign rfl rfl rfl ?_
  refine sy_nil rfl ?_
  refine ny_next ?_
  refine cy_seq ?_
  refine cy_region ?_
  refine sy_callx call_18 rfl (newGood_c 1 none 0 0 [] _ one_fine pairs_none rfl (by decide)) rfl rfl (fun x18 h18 hx18 hle18 => ?_)
  have ht := ht.le hle18
  have hh := hh.le hle18
  revert hx18
  revert x18
  intro g hg
  refine sy_move rfl rfl rfl ?_
  refine sy_extract rfl rfl rfl rfl ?_
  refine sy_extract rfl rfl rfl rfl ?_
  refine sy_assign rfl rfl rfl ?_
  refine sy_assign rfl rfl rfl ?_
  refine sy_nil rfl ?_
  refine ny_next ?_
  refine cy_seq ?_
  refine cy_seq ?_
  refine cy_region ?_
  refine sy_move rfl rfl rfl ?_
  refine sy_cmp rfl rfl rfl rfl rfl ?_
  refine sy_setF (d := 22) rfl rfl rfl ?_
  refine sy_move rfl rfl rfl ?_
  refine sy_move rfl rfl rfl ?_
  refine sy_eqp Tryd.underlying27 rfl rfl rfl rfl rfl ?_
  refine sy_setF (d := 25) rfl rfl rfl ?_
  refine sy_pickF rfl rfl rfl rfl ?_
  refine sy_setF (d := 26) rfl rfl rfl ?_
  refine sy_nil rfl ?_
  refine ny_next ?_
  refine cy_condF rfl ?_
  refine cy_skip ?_
  refine ny_next ?_
  refine cy_seq ?_
  refine cy_region ?_
  refine sy_move rfl rfl rfl ?_
  refine sy_len rfl (len_string Tryd.underlying9 _) rfl rfl ?_
  refine sy_cmp rfl rfl rfl rfl rfl ?_
  refine sy_move rfl rfl rfl ?_
  refine sy_cond (d := 30) _ rfl rfl (fun hg30 => ?_) (fun hg30 => ?_)
  · refine sy_move rfl rfl rfl ?_
    refine sy_len rfl (len_string Tryd.underlying9 _) rfl rfl ?_
    refine sy_cmp rfl rfl rfl rfl rfl ?_
    refine sy_pickT rfl rfl rfl rfl ?_
    refine sy_assign rfl rfl rfl ?_
    refine sy_nil rfl ?_
    refine ny_next ?_
    refine cy_seq ?_
    refine cy_seq ?_
    refine cy_region ?_
    refine sy_assign rfl rfl rfl ?_
    refine sy_nil rfl ?_
    refine ny_next ?_
    refine cy_block ?_
    refine cy_loopK (ι := Nat) [0, 1, 5, 6] rfl (fun i => i ≤ s.size) (fun i => s.size - i) (fun i => [(8, .bool (fineB s i)), (9, .int .i64 (i : Int))]) (fun i => h18) (fun i => []) 0 [] (Nat.zero_le _) ⟨congrArg (fun b => some (Value.bool b)) (by rw [fine_zero]; unfold sizeB; rw [hg30]; rfl), rfl, trivial⟩ rfl rfl ?_
    rintro i hI
    refine cy_seq ?_
    refine cy_seq ?_
    refine cy_region ?_
    refine sy_move rfl rfl rfl ?_
    refine sy_move rfl rfl rfl ?_
    refine sy_len rfl (len_string Tryd.underlying9 _) rfl rfl ?_
    refine sy_cmp rfl rfl rfl rfl rfl ?_
    refine sy_nil rfl ?_
    refine ny_next ?_
    refine cy_cond rfl (fun hc38 => ?_) (fun hc38 => ?_)
    · have hlti : i < s.size := by have := of_decide_eq_true hc38; omega
      obtain ⟨e0, he0⟩ : ∃ e0, s.data.toList[i]? = some e0 := ⟨_, List.getElem?_eq_getElem (by show i < s.size; omega)⟩
      refine cy_skip ?_
      refine ny_next ?_
      refine cy_seq ?_
      refine cy_block ?_
      refine cy_region ?_
      refine sy_move rfl rfl rfl ?_
      refine sy_move rfl rfl rfl ?_
      refine sy_cond (d := 42) _ rfl rfl (fun hg42 => ?_) (fun hg42 => ?_)
      · refine sy_move rfl rfl rfl ?_
        refine sy_move rfl rfl rfl ?_
        refine sy_idxs (u := e0) Tryd.underlying9 rfl rfl (by omega) (ba_at he0) rfl rfl ?_
        refine sy_cmp rfl rfl rfl rfl rfl ?_
        refine sy_pickT rfl rfl rfl rfl ?_
        refine sy_move rfl rfl rfl ?_
        refine sy_cond (d := 48) _ rfl rfl (fun hg48 => ?_) (fun hg48 => ?_)
        · refine sy_move rfl rfl rfl ?_
          refine sy_move rfl rfl rfl ?_
          refine sy_idxs (u := e0) Tryd.underlying9 rfl rfl (by omega) (ba_at he0) rfl rfl ?_
          refine sy_cmp rfl rfl rfl rfl rfl ?_
          refine sy_pickT rfl rfl rfl rfl ?_
          refine sy_assign rfl rfl rfl ?_
          refine sy_nil rfl ?_
          refine ny_blockN ?_
          refine ny_next ?_
          refine cy_region ?_
          refine sy_move rfl rfl rfl ?_
          refine sy_addi (z := ((i + 1 : Nat) : Int)) rfl rfl (by omega) (by omega) (by omega) rfl rfl ?_
          refine sy_assign rfl rfl rfl ?_
          refine sy_nil rfl ?_
          refine ny_roundK [0, 1, 5, 6] (i + 1) [] (show i + 1 ≤ s.size by omega) (show s.size - (i + 1) < s.size - i by omega) rfl ⟨congrArg (fun b => some (Value.bool b)) (by first | (rw [fine_succ he0, hg42, hg48]; rfl) | (rw [fine_succ he0, hg42]; rfl)), rfl, trivial⟩ rfl rfl
        · refine sy_skip rfl rfl rfl ?_
          refine sy_skip rfl rfl rfl ?_
          refine sy_skip rfl rfl rfl ?_
          refine sy_skip rfl rfl rfl ?_
          refine sy_pickF rfl rfl rfl rfl ?_
          refine sy_assign rfl rfl rfl ?_
          refine sy_nil rfl ?_
          refine ny_blockN ?_
          refine ny_next ?_
          refine cy_region ?_
          refine sy_move rfl rfl rfl ?_
          refine sy_addi (z := ((i + 1 : Nat) : Int)) rfl rfl (by omega) (by omega) (by omega) rfl rfl ?_
          refine sy_assign rfl rfl rfl ?_
          refine sy_nil rfl ?_
          refine ny_roundK [0, 1, 5, 6] (i + 1) [] (show i + 1 ≤ s.size by omega) (show s.size - (i + 1) < s.size - i by omega) rfl ⟨congrArg (fun b => some (Value.bool b)) (by first | (rw [fine_succ he0, hg42, hg48]; rfl) | (rw [fine_succ he0, hg42]; rfl)), rfl, trivial⟩ rfl rfl
      · refine sy_skip rfl rfl rfl ?_
        refine sy_skip rfl rfl rfl ?_
        refine sy_skip rfl rfl rfl ?_
        refine sy_skip rfl rfl rfl ?_
        refine sy_pickF rfl rfl rfl rfl ?_
        refine sy_move rfl rfl rfl ?_
        refine sy_skip rfl rfl rfl ?_
        refine sy_skip rfl rfl rfl ?_
        refine sy_skip rfl rfl rfl ?_
        refine sy_skip rfl rfl rfl ?_
        refine sy_pickF rfl rfl rfl rfl ?_
        refine sy_assign rfl rfl rfl ?_
        refine sy_nil rfl ?_
        refine ny_blockN ?_
        refine ny_next ?_
        refine cy_region ?_
        refine sy_move rfl rfl rfl ?_
        refine sy_addi (z := ((i + 1 : Nat) : Int)) rfl rfl (by omega) (by omega) (by omega) rfl rfl ?_
        refine sy_assign rfl rfl rfl ?_
        refine sy_nil rfl ?_
        refine ny_roundK [0, 1, 5, 6] (i + 1) [] (show i + 1 ≤ s.size by omega) (show s.size - (i + 1) < s.size - i by omega) rfl ⟨congrArg (fun b => some (Value.bool b)) (by first | (rw [fine_succ he0, hg42, hg48]; rfl) | (rw [fine_succ he0, hg42]; rfl)), rfl, trivial⟩ rfl rfl
    · have hie : i = s.size := by have := of_decide_eq_false hc38; omega
      subst hie
      rw [fine_end, hnm]
      refine cy_exit ?_
      refine ny_thenE ?_
      refine ny_thenE ?_
      refine ny_blockX ?_
      refine ny_next ?_
      refine cy_seq ?_
      refine cy_region ?_
      refine sy_move rfl rfl rfl ?_
      refine sy_move rfl rfl rfl ?_
      refine sy_build rfl (fun w => bld_38_0 w) rfl rfl ?_
      refine sy_buildSlice rfl (fun w => bsl_25_1_0 w) rfl rfl (fun b58 hb58 hM58 => ?_) (by simp)
      refine sy_frz 0 rfl (by simp) (fun h58 hle58 hb58 => ?_)
      have hG58 : RowsAt h58 (some ⟨b58, 0, none⟩) 3 ([(⟨s, 0, 0⟩ : Gr)].map grC) := rows_blk (by decide) (grC_len [(⟨s, 0, 0⟩ : Gr)]) hb58
      replace ht := ht.le hle58
      replace hh := hh.le hle58
      replace hg := hle58 _ _ hg
      refine sy_callx call_20 rfl (gnewGood_c g 1 (ru 1 []) _ hg (by decide) (by decide) (ru_lt (by decide) _) (some ⟨b58, 0, none⟩) 1 1 [⟨s, 0, 0⟩] hG58 rfl (Nat.le_refl _) (by decide) ht (fun g hg => by simp only [List.mem_cons, List.not_mem_nil, or_false] at hg; subst hg; exact hs) h0) rfl rfl (fun x59 h59 hx59 hle59 => ?_)
      have ht := ht.le hle59
      have hh := hh.le hle59
      have hg := hle59 _ _ hg
      skip
      refine sy_move rfl rfl rfl ?_
      refine sy_extract rfl rfl rfl rfl ?_
      refine sy_extract rfl rfl rfl rfl ?_
      refine sy_assign rfl rfl rfl ?_
      refine sy_assign rfl rfl rfl ?_
      refine sy_nil rfl ?_
      refine ny_next ?_
      refine cy_seq ?_
      refine cy_region ?_
      refine sy_assign rfl rfl rfl ?_
      refine sy_nil rfl ?_
      refine ny_next ?_
      refine cy_seq ?_
      refine cy_seq ?_
      refine cy_region ?_
      refine sy_assign rfl rfl rfl ?_
      refine sy_nil rfl ?_
      refine ny_next ?_
      refine cy_block ?_
      refine cy_nilRow 38 3 ?_
      refine cy_loopK (ι := Nat × Value) [1, 5, 6, 8, 11] rfl (fun z => z.1 ≤ c.toNat) (fun z => c.toNat - z.1) (fun z => [(12, z.2), (13, .int .i64 (z.1 : Int))]) (fun z => h59) (fun z => [Res.row z.2 38 3 z.1 (((List.replicate z.1 ga).map grC).flatten)]) (0, .slice none 0 0) [0] (Nat.zero_le _) ⟨rfl, rfl, trivial⟩ rfl rfl ?_
      rintro ⟨i, v12⟩ hI
      simp only at hI ⊢
      refine cy_seq ?_
      refine cy_seq ?_
      refine cy_region ?_
      refine sy_move rfl rfl rfl ?_
      refine sy_move rfl rfl rfl ?_
      refine sy_convi Tryd.underlying5 Tryd.underlying3 rfl (by omega) (by omega) rfl rfl ?_
      refine sy_cmp rfl rfl rfl rfl rfl ?_
      refine sy_nil rfl ?_
      refine ny_next ?_
      refine cy_cond rfl (fun hc65 => ?_) (fun hc65 => ?_)
      · have hlti : i < c.toNat := by have := of_decide_eq_true hc65; omega
        refine cy_skip ?_
        refine ny_next ?_
        refine cy_seq ?_
        refine cy_block ?_
        refine cy_region ?_
        refine sy_move rfl rfl rfl ?_
        refine sy_build rfl (fun w => bld_38_0 w) rfl rfl ?_
        refine sy_buildSlice rfl (fun w => bsl_25_1_0 w) rfl rfl (fun b70 hb70 hM70 => ?_) (by simp)
        refine sy_append 1 0 row_25 (by decide) rfl rfl rfl rfl rfl rfl (by omega) (by simp only [maxLen]; omega) rfl rfl (fun v71 => ?_)
        refine sy_assign rfl rfl rfl ?_
        refine sy_nil rfl ?_
        refine ny_blockN ?_
        refine ny_next ?_
        refine cy_region ?_
        refine sy_move rfl rfl rfl ?_
        refine sy_addi (z := ((i + 1 : Nat) : Int)) rfl rfl (by omega) (by omega) (by omega) rfl rfl ?_
        refine sy_assign rfl rfl rfl ?_
        refine sy_nil rfl ?_
        refine ny_roundK [1, 5, 6, 8, 11] (i + 1, v71) [0] (show i + 1 ≤ c.toNat by omega) (show c.toNat - (i + 1) < c.toNat - i by omega) rfl ⟨rfl, rfl, trivial⟩ rfl (by rw [many_snoc]; rfl)
      · have hie : i = c.toNat := by have := of_decide_eq_false hc65; omega
        subst hie
        refine cy_exit ?_
        refine ny_thenE ?_
        refine ny_thenE ?_
        refine ny_blockX ?_
        refine ny_next ?_
        refine cy_seq ?_
        refine cy_frzRow 0 rfl (fun _ _ => by simp) (fun A12 c12 h12 hv12 hlc12 hcm12 _ hle12 hcell12 => ?_)
        subst hv12
        have hr12 : RowsAt h12 A12 3 ((List.replicate c.toNat ga).map grC) := rows_row (by decide) (grC_len _) hcell12
        replace ht := ht.le hle12
        replace hh := hh.le hle12
        replace hg := hle12 _ _ hg
        refine cy_region ?_
        refine sy_move rfl rfl rfl ?_
        refine sy_move rfl rfl rfl ?_
        refine sy_callx call_20 rfl (gnewGood_c g 1 (ru 1 []) _ hg (by decide) (by decide) (ru_lt (by decide) _) A12 _ c12 (List.replicate c.toNat ga) hr12 (List.length_replicate) hlc12 (by omega) ht many_ok h1) rfl rfl (fun x75 h75 hx75 hle75 => ?_)
        have ht := ht.le hle75
        have hh := hh.le hle75
        have hg := hle75 _ _ hg
        skip
        refine sy_move rfl rfl rfl ?_
        refine sy_extract rfl rfl rfl rfl ?_
        refine sy_extract rfl rfl rfl rfl ?_
        refine sy_assign rfl rfl rfl ?_
        refine sy_assign rfl rfl rfl ?_
        refine sy_nil rfl ?_
        refine ny_next ?_
        refine cy_seq ?_
        refine cy_region ?_
        refine sy_move rfl rfl rfl ?_
        refine sy_move rfl rfl rfl ?_
        refine sy_setT (d := 79) rfl rfl (by first | rfl | decide | simp) ?_
        refine sy_move rfl rfl rfl ?_
        refine sy_eqn Tryd.underlying34 rfl rfl rfl rfl rfl ?_
        refine sy_setT (d := 81) rfl rfl rfl ?_
        refine sy_move rfl rfl rfl ?_
        refine sy_setT (d := 82) rfl rfl rfl ?_
        refine sy_eqb Tryd.underlying4 rfl rfl rfl rfl ?_
        refine sy_pickT rfl rfl rfl rfl ?_
        refine sy_move rfl rfl rfl ?_
        refine sy_setT (d := 85) rfl rfl (by first | rfl | decide | simp) ?_
        refine sy_move rfl rfl rfl ?_
        refine sy_setT (d := 86) rfl rfl rfl ?_
        refine sy_move rfl rfl rfl ?_
        refine sy_skip rfl rfl rfl ?_
        refine sy_skip rfl rfl rfl ?_
        refine sy_skip rfl rfl rfl ?_
        refine sy_pickT rfl rfl rfl rfl ?_
        refine sy_pickT rfl rfl rfl rfl ?_
        refine sy_move rfl rfl rfl ?_
        refine sy_move rfl rfl rfl ?_
        refine sy_eqn Tryd.underlying34 rfl rfl rfl rfl rfl ?_
        refine sy_setT (d := 95) rfl rfl rfl ?_
        refine sy_move rfl rfl rfl ?_
        refine sy_cmp rfl rfl rfl rfl rfl ?_
        refine sy_setT (d := 97) rfl rfl (by simp; omega) ?_
        refine sy_eqb Tryd.underlying4 rfl rfl rfl rfl ?_
        refine sy_pickT rfl rfl rfl rfl ?_
        refine sy_move rfl rfl rfl ?_
        refine sy_setT (d := 100) rfl rfl (by first | rfl | decide | simp) ?_
        refine sy_move rfl rfl rfl ?_
        refine sy_eqn Tryd.underlying34 rfl rfl rfl rfl rfl ?_
        refine sy_setT (d := 102) rfl rfl rfl ?_
        refine sy_move rfl rfl rfl ?_
        refine sy_skip rfl rfl rfl ?_
        refine sy_skip rfl rfl rfl ?_
        refine sy_skip rfl rfl rfl ?_
        refine sy_pickT rfl rfl rfl rfl ?_
        refine sy_pickT rfl rfl rfl rfl ?_
        refine sy_assign rfl rfl rfl ?_
        refine sy_nil rfl ?_
        refine ny_next ?_
        refine cy_ret ?_
        exact ny_finR (res1 rfl rfl) (fun w hs => ⟨rfl, hs.frm⟩)
  · refine sy_skip rfl rfl rfl ?_
    refine sy_skip rfl rfl rfl ?_
    refine sy_skip rfl rfl rfl ?_
    refine sy_pickF rfl rfl rfl rfl ?_
    refine sy_assign rfl rfl rfl ?_
    refine sy_nil rfl ?_
    refine ny_next ?_
    refine cy_seq ?_
    refine cy_seq ?_
    refine cy_region ?_
    refine sy_assign rfl rfl rfl ?_
    refine sy_nil rfl ?_
    refine ny_next ?_
    refine cy_block ?_
    refine cy_loopK (ι := Nat) [0, 1, 5, 6] rfl (fun i => i ≤ s.size) (fun i => s.size - i) (fun i => [(8, .bool (fineB s i)), (9, .int .i64 (i : Int))]) (fun i => h18) (fun i => []) 0 [] (Nat.zero_le _) ⟨congrArg (fun b => some (Value.bool b)) (by rw [fine_zero]; unfold sizeB; rw [hg30]; rfl), rfl, trivial⟩ rfl rfl ?_
    rintro i hI
    refine cy_seq ?_
    refine cy_seq ?_
    refine cy_region ?_
    refine sy_move rfl rfl rfl ?_
    refine sy_move rfl rfl rfl ?_
    refine sy_len rfl (len_string Tryd.underlying9 _) rfl rfl ?_
    refine sy_cmp rfl rfl rfl rfl rfl ?_
    refine sy_nil rfl ?_
    refine ny_next ?_
    refine cy_cond rfl (fun hc38 => ?_) (fun hc38 => ?_)
    · have hlti : i < s.size := by have := of_decide_eq_true hc38; omega
      obtain ⟨e0, he0⟩ : ∃ e0, s.data.toList[i]? = some e0 := ⟨_, List.getElem?_eq_getElem (by show i < s.size; omega)⟩
      refine cy_skip ?_
      refine ny_next ?_
      refine cy_seq ?_
      refine cy_block ?_
      refine cy_region ?_
      refine sy_move rfl rfl rfl ?_
      refine sy_move rfl rfl rfl ?_
      refine sy_cond (d := 42) _ rfl rfl (fun hg42 => ?_) (fun hg42 => ?_)
      · refine sy_move rfl rfl rfl ?_
        refine sy_move rfl rfl rfl ?_
        refine sy_idxs (u := e0) Tryd.underlying9 rfl rfl (by omega) (ba_at he0) rfl rfl ?_
        refine sy_cmp rfl rfl rfl rfl rfl ?_
        refine sy_pickT rfl rfl rfl rfl ?_
        refine sy_move rfl rfl rfl ?_
        refine sy_cond (d := 48) _ rfl rfl (fun hg48 => ?_) (fun hg48 => ?_)
        · refine sy_move rfl rfl rfl ?_
          refine sy_move rfl rfl rfl ?_
          refine sy_idxs (u := e0) Tryd.underlying9 rfl rfl (by omega) (ba_at he0) rfl rfl ?_
          refine sy_cmp rfl rfl rfl rfl rfl ?_
          refine sy_pickT rfl rfl rfl rfl ?_
          refine sy_assign rfl rfl rfl ?_
          refine sy_nil rfl ?_
          refine ny_blockN ?_
          refine ny_next ?_
          refine cy_region ?_
          refine sy_move rfl rfl rfl ?_
          refine sy_addi (z := ((i + 1 : Nat) : Int)) rfl rfl (by omega) (by omega) (by omega) rfl rfl ?_
          refine sy_assign rfl rfl rfl ?_
          refine sy_nil rfl ?_
          refine ny_roundK [0, 1, 5, 6] (i + 1) [] (show i + 1 ≤ s.size by omega) (show s.size - (i + 1) < s.size - i by omega) rfl ⟨congrArg (fun b => some (Value.bool b)) (by first | (rw [fine_succ he0, hg42, hg48]; rfl) | (rw [fine_succ he0, hg42]; rfl)), rfl, trivial⟩ rfl rfl
        · refine sy_skip rfl rfl rfl ?_
          refine sy_skip rfl rfl rfl ?_
          refine sy_skip rfl rfl rfl ?_
          refine sy_skip rfl rfl rfl ?_
          refine sy_pickF rfl rfl rfl rfl ?_
          refine sy_assign rfl rfl rfl ?_
          refine sy_nil rfl ?_
          refine ny_blockN ?_
          refine ny_next ?_
          refine cy_region ?_
          refine sy_move rfl rfl rfl ?_
          refine sy_addi (z := ((i + 1 : Nat) : Int)) rfl rfl (by omega) (by omega) (by omega) rfl rfl ?_
          refine sy_assign rfl rfl rfl ?_
          refine sy_nil rfl ?_
          refine ny_roundK [0, 1, 5, 6] (i + 1) [] (show i + 1 ≤ s.size by omega) (show s.size - (i + 1) < s.size - i by omega) rfl ⟨congrArg (fun b => some (Value.bool b)) (by first | (rw [fine_succ he0, hg42, hg48]; rfl) | (rw [fine_succ he0, hg42]; rfl)), rfl, trivial⟩ rfl rfl
      · refine sy_skip rfl rfl rfl ?_
        refine sy_skip rfl rfl rfl ?_
        refine sy_skip rfl rfl rfl ?_
        refine sy_skip rfl rfl rfl ?_
        refine sy_pickF rfl rfl rfl rfl ?_
        refine sy_move rfl rfl rfl ?_
        refine sy_skip rfl rfl rfl ?_
        refine sy_skip rfl rfl rfl ?_
        refine sy_skip rfl rfl rfl ?_
        refine sy_skip rfl rfl rfl ?_
        refine sy_pickF rfl rfl rfl rfl ?_
        refine sy_assign rfl rfl rfl ?_
        refine sy_nil rfl ?_
        refine ny_blockN ?_
        refine ny_next ?_
        refine cy_region ?_
        refine sy_move rfl rfl rfl ?_
        refine sy_addi (z := ((i + 1 : Nat) : Int)) rfl rfl (by omega) (by omega) (by omega) rfl rfl ?_
        refine sy_assign rfl rfl rfl ?_
        refine sy_nil rfl ?_
        refine ny_roundK [0, 1, 5, 6] (i + 1) [] (show i + 1 ≤ s.size by omega) (show s.size - (i + 1) < s.size - i by omega) rfl ⟨congrArg (fun b => some (Value.bool b)) (by first | (rw [fine_succ he0, hg42, hg48]; rfl) | (rw [fine_succ he0, hg42]; rfl)), rfl, trivial⟩ rfl rfl
    · have hie : i = s.size := by have := of_decide_eq_false hc38; omega
      subst hie
      rw [fine_end, hnm]
      refine cy_exit ?_
      refine ny_thenE ?_
      refine ny_thenE ?_
      refine ny_blockX ?_
      refine ny_next ?_
      refine cy_seq ?_
      refine cy_region ?_
      refine sy_move rfl rfl rfl ?_
      refine sy_move rfl rfl rfl ?_
      refine sy_build rfl (fun w => bld_38_0 w) rfl rfl ?_
      refine sy_buildSlice rfl (fun w => bsl_25_1_0 w) rfl rfl (fun b58 hb58 hM58 => ?_) (by simp)
      refine sy_frz 0 rfl (by simp) (fun h58 hle58 hb58 => ?_)
      have hG58 : RowsAt h58 (some ⟨b58, 0, none⟩) 3 ([(⟨s, 0, 0⟩ : Gr)].map grC) := rows_blk (by decide) (grC_len [(⟨s, 0, 0⟩ : Gr)]) hb58
      replace ht := ht.le hle58
      replace hh := hh.le hle58
      replace hg := hle58 _ _ hg
      refine sy_callx call_20 rfl (gnewGood_c g 1 (ru 1 []) _ hg (by decide) (by decide) (ru_lt (by decide) _) (some ⟨b58, 0, none⟩) 1 1 [⟨s, 0, 0⟩] hG58 rfl (Nat.le_refl _) (by decide) ht (fun g hg => by simp only [List.mem_cons, List.not_mem_nil, or_false] at hg; subst hg; exact hs) h0) rfl rfl (fun x59 h59 hx59 hle59 => ?_)
      have ht := ht.le hle59
      have hh := hh.le hle59
      have hg := hle59 _ _ hg
      skip
      refine sy_move rfl rfl rfl ?_
      refine sy_extract rfl rfl rfl rfl ?_
      refine sy_extract rfl rfl rfl rfl ?_
      refine sy_assign rfl rfl rfl ?_
      refine sy_assign rfl rfl rfl ?_
      refine sy_nil rfl ?_
      refine ny_next ?_
      refine cy_seq ?_
      refine cy_region ?_
      refine sy_assign rfl rfl rfl ?_
      refine sy_nil rfl ?_
      refine ny_next ?_
      refine cy_seq ?_
      refine cy_seq ?_
      refine cy_region ?_
      refine sy_assign rfl rfl rfl ?_
      refine sy_nil rfl ?_
      refine ny_next ?_
      refine cy_block ?_
      refine cy_nilRow 38 3 ?_
      refine cy_loopK (ι := Nat × Value) [1, 5, 6, 8, 11] rfl (fun z => z.1 ≤ c.toNat) (fun z => c.toNat - z.1) (fun z => [(12, z.2), (13, .int .i64 (z.1 : Int))]) (fun z => h59) (fun z => [Res.row z.2 38 3 z.1 (((List.replicate z.1 ga).map grC).flatten)]) (0, .slice none 0 0) [0] (Nat.zero_le _) ⟨rfl, rfl, trivial⟩ rfl rfl ?_
      rintro ⟨i, v12⟩ hI
      simp only at hI ⊢
      refine cy_seq ?_
      refine cy_seq ?_
      refine cy_region ?_
      refine sy_move rfl rfl rfl ?_
      refine sy_move rfl rfl rfl ?_
      refine sy_convi Tryd.underlying5 Tryd.underlying3 rfl (by omega) (by omega) rfl rfl ?_
      refine sy_cmp rfl rfl rfl rfl rfl ?_
      refine sy_nil rfl ?_
      refine ny_next ?_
      refine cy_cond rfl (fun hc65 => ?_) (fun hc65 => ?_)
      · have hlti : i < c.toNat := by have := of_decide_eq_true hc65; omega
        refine cy_skip ?_
        refine ny_next ?_
        refine cy_seq ?_
        refine cy_block ?_
        refine cy_region ?_
        refine sy_move rfl rfl rfl ?_
        refine sy_build rfl (fun w => bld_38_0 w) rfl rfl ?_
        refine sy_buildSlice rfl (fun w => bsl_25_1_0 w) rfl rfl (fun b70 hb70 hM70 => ?_) (by simp)
        refine sy_append 1 0 row_25 (by decide) rfl rfl rfl rfl rfl rfl (by omega) (by simp only [maxLen]; omega) rfl rfl (fun v71 => ?_)
        refine sy_assign rfl rfl rfl ?_
        refine sy_nil rfl ?_
        refine ny_blockN ?_
        refine ny_next ?_
        refine cy_region ?_
        refine sy_move rfl rfl rfl ?_
        refine sy_addi (z := ((i + 1 : Nat) : Int)) rfl rfl (by omega) (by omega) (by omega) rfl rfl ?_
        refine sy_assign rfl rfl rfl ?_
        refine sy_nil rfl ?_
        refine ny_roundK [1, 5, 6, 8, 11] (i + 1, v71) [0] (show i + 1 ≤ c.toNat by omega) (show c.toNat - (i + 1) < c.toNat - i by omega) rfl ⟨rfl, rfl, trivial⟩ rfl (by rw [many_snoc]; rfl)
      · have hie : i = c.toNat := by have := of_decide_eq_false hc65; omega
        subst hie
        refine cy_exit ?_
        refine ny_thenE ?_
        refine ny_thenE ?_
        refine ny_blockX ?_
        refine ny_next ?_
        refine cy_seq ?_
        refine cy_frzRow 0 rfl (fun _ _ => by simp) (fun A12 c12 h12 hv12 hlc12 hcm12 _ hle12 hcell12 => ?_)
        subst hv12
        have hr12 : RowsAt h12 A12 3 ((List.replicate c.toNat ga).map grC) := rows_row (by decide) (grC_len _) hcell12
        replace ht := ht.le hle12
        replace hh := hh.le hle12
        replace hg := hle12 _ _ hg
        refine cy_region ?_
        refine sy_move rfl rfl rfl ?_
        refine sy_move rfl rfl rfl ?_
        refine sy_callx call_20 rfl (gnewGood_c g 1 (ru 1 []) _ hg (by decide) (by decide) (ru_lt (by decide) _) A12 _ c12 (List.replicate c.toNat ga) hr12 (List.length_replicate) hlc12 (by omega) ht many_ok h1) rfl rfl (fun x75 h75 hx75 hle75 => ?_)
        have ht := ht.le hle75
        have hh := hh.le hle75
        have hg := hle75 _ _ hg
        skip
        refine sy_move rfl rfl rfl ?_
        refine sy_extract rfl rfl rfl rfl ?_
        refine sy_extract rfl rfl rfl rfl ?_
        refine sy_assign rfl rfl rfl ?_
        refine sy_assign rfl rfl rfl ?_
        refine sy_nil rfl ?_
        refine ny_next ?_
        refine cy_seq ?_
        refine cy_region ?_
        refine sy_move rfl rfl rfl ?_
        refine sy_move rfl rfl rfl ?_
        refine sy_setT (d := 79) rfl rfl (by first | rfl | decide | simp) ?_
        refine sy_move rfl rfl rfl ?_
        refine sy_eqn Tryd.underlying34 rfl rfl rfl rfl rfl ?_
        refine sy_setT (d := 81) rfl rfl rfl ?_
        refine sy_move rfl rfl rfl ?_
        refine sy_setT (d := 82) rfl rfl rfl ?_
        refine sy_eqb Tryd.underlying4 rfl rfl rfl rfl ?_
        refine sy_pickT rfl rfl rfl rfl ?_
        refine sy_move rfl rfl rfl ?_
        refine sy_setT (d := 85) rfl rfl (by first | rfl | decide | simp) ?_
        refine sy_move rfl rfl rfl ?_
        refine sy_setT (d := 86) rfl rfl rfl ?_
        refine sy_move rfl rfl rfl ?_
        refine sy_skip rfl rfl rfl ?_
        refine sy_skip rfl rfl rfl ?_
        refine sy_skip rfl rfl rfl ?_
        refine sy_pickT rfl rfl rfl rfl ?_
        refine sy_pickT rfl rfl rfl rfl ?_
        refine sy_move rfl rfl rfl ?_
        refine sy_move rfl rfl rfl ?_
        refine sy_eqn Tryd.underlying34 rfl rfl rfl rfl rfl ?_
        refine sy_setT (d := 95) rfl rfl rfl ?_
        refine sy_move rfl rfl rfl ?_
        refine sy_cmp rfl rfl rfl rfl rfl ?_
        refine sy_setT (d := 97) rfl rfl (by simp; omega) ?_
        refine sy_eqb Tryd.underlying4 rfl rfl rfl rfl ?_
        refine sy_pickT rfl rfl rfl rfl ?_
        refine sy_move rfl rfl rfl ?_
        refine sy_setT (d := 100) rfl rfl (by first | rfl | decide | simp) ?_
        refine sy_move rfl rfl rfl ?_
        refine sy_eqn Tryd.underlying34 rfl rfl rfl rfl rfl ?_
        refine sy_setT (d := 102) rfl rfl rfl ?_
        refine sy_move rfl rfl rfl ?_
        refine sy_skip rfl rfl rfl ?_
        refine sy_skip rfl rfl rfl ?_
        refine sy_skip rfl rfl rfl ?_
        refine sy_pickT rfl rfl rfl rfl ?_
        refine sy_pickT rfl rfl rfl rfl ?_
        refine sy_assign rfl rfl rfl ?_
        refine sy_nil rfl ?_
        refine ny_next ?_
        refine cy_ret ?_
        exact ny_finR (res1 rfl rfl) (fun w hs => ⟨rfl, hs.frm⟩)
set_option maxRecDepth 100000 in
theorem names10_c (s : ByteArray) (c : UInt8) (h : Hp) (ht : Tab10 h) (hh : Hdl h) (hs : s.size ≤ 140737488355328) (hnm : nameB s = true) (hc : ¬ c.toNat ≤ 100) : C0 Tryd.prog 8 [.string s, .int .u8 (c.toNat : Int)] h (.bool true) := by
  have hct := c.toNat_lt
  have h0 := names_fine hnm
  have h10 := many_full hc
  have h1 : newI 1 (ru 1 []) (List.replicate c.toNat ga) ≠ 0 := by rw [h10]; decide
  refine enter0 Tryd.func8 rfl rfl rfl (fun w => ?_)
  refine cy_seq ?_
  refine cy_region ?_
  refine sy_assign rfl rfl rfl ?_
  refine sy_nil rfl ?_
  refine ny_next ?_
  refine cy_seq ?_
  refine cy_region ?_
  refine sy_call rfl call_17 rfl (shown02_c _ ht) rfl rfl ?_
  refine sy_assign rfl rfl rfl ?_
  refine sy_nil rfl ?_
  refine ny_next ?_
  refine cy_seq ?_
  refine cy_region ?_
  refine sy_callx call_18 rfl (newGood_c 1 none 0 0 [] _ one_fine pairs_none rfl (by decide)) rfl rfl (fun x18 h18 hx18 hle18 => ?_)
  have ht := ht.le hle18
  have hh := hh.le hle18
  revert hx18
  revert x18
  intro g hg
  refine sy_move rfl rfl rfl ?_
  refine sy_extract rfl rfl rfl rfl ?_
  refine sy_extract rfl rfl rfl rfl ?_
  refine sy_assign rfl rfl rfl ?_
  refine sy_assign rfl rfl rfl ?_
  refine sy_nil rfl ?_
  refine ny_next ?_
  refine cy_seq ?_
  refine cy_seq ?_
  refine cy_region ?_
  refine sy_move rfl rfl rfl ?_
  refine sy_cmp rfl rfl rfl rfl rfl ?_
  refine sy_setF (d := 22) rfl rfl rfl ?_
  refine sy_move rfl rfl rfl ?_
  refine sy_move rfl rfl rfl ?_
  refine sy_eqp Tryd.underlying27 rfl rfl rfl rfl rfl ?_
  refine sy_setF (d := 25) rfl rfl rfl ?_
  refine sy_pickF rfl rfl rfl rfl ?_
  refine sy_setF (d := 26) rfl rfl rfl ?_
  refine sy_nil rfl ?_
  refine ny_next ?_
  refine cy_condF rfl ?_
  refine cy_skip ?_
  refine ny_next ?_
  refine cy_seq ?_
  refine cy_region ?_
  refine sy_move rfl rfl rfl ?_
  refine sy_len rfl (len_string Tryd.underlying9 _) rfl rfl ?_
  refine sy_cmp rfl rfl rfl rfl rfl ?_
  refine sy_move rfl rfl rfl ?_
  refine sy_cond (d := 30) _ rfl rfl (fun hg30 => ?_) (fun hg30 => ?_)
  · refine sy_move rfl rfl rfl ?_
    refine sy_len rfl (len_string Tryd.underlying9 _) rfl rfl ?_
    refine sy_cmp rfl rfl rfl rfl rfl ?_
    refine sy_pickT rfl rfl rfl rfl ?_
    refine sy_assign rfl rfl rfl ?_
    refine sy_nil rfl ?_
    refine ny_next ?_
    refine cy_seq ?_
    refine cy_seq ?_
    refine cy_region ?_
    refine sy_assign rfl rfl rfl ?_
    refine sy_nil rfl ?_
    refine ny_next ?_
    refine cy_block ?_
    refine cy_loopK (ι := Nat) [0, 1, 5, 6] rfl (fun i => i ≤ s.size) (fun i => s.size - i) (fun i => [(8, .bool (fineB s i)), (9, .int .i64 (i : Int))]) (fun i => h18) (fun i => []) 0 [] (Nat.zero_le _) ⟨congrArg (fun b => some (Value.bool b)) (by rw [fine_zero]; unfold sizeB; rw [hg30]; rfl), rfl, trivial⟩ rfl rfl ?_
    rintro i hI
    refine cy_seq ?_
    refine cy_seq ?_
    refine cy_region ?_
    refine sy_move rfl rfl rfl ?_
    refine sy_move rfl rfl rfl ?_
    refine sy_len rfl (len_string Tryd.underlying9 _) rfl rfl ?_
    refine sy_cmp rfl rfl rfl rfl rfl ?_
    refine sy_nil rfl ?_
    refine ny_next ?_
    refine cy_cond rfl (fun hc38 => ?_) (fun hc38 => ?_)
    · have hlti : i < s.size := by have := of_decide_eq_true hc38; omega
      obtain ⟨e0, he0⟩ : ∃ e0, s.data.toList[i]? = some e0 := ⟨_, List.getElem?_eq_getElem (by show i < s.size; omega)⟩
      refine cy_skip ?_
      refine ny_next ?_
      refine cy_seq ?_
      refine cy_block ?_
      refine cy_region ?_
      refine sy_move rfl rfl rfl ?_
      refine sy_move rfl rfl rfl ?_
      refine sy_cond (d := 42) _ rfl rfl (fun hg42 => ?_) (fun hg42 => ?_)
      · refine sy_move rfl rfl rfl ?_
        refine sy_move rfl rfl rfl ?_
        refine sy_idxs (u := e0) Tryd.underlying9 rfl rfl (by omega) (ba_at he0) rfl rfl ?_
        refine sy_cmp rfl rfl rfl rfl rfl ?_
        refine sy_pickT rfl rfl rfl rfl ?_
        refine sy_move rfl rfl rfl ?_
        refine sy_cond (d := 48) _ rfl rfl (fun hg48 => ?_) (fun hg48 => ?_)
        · refine sy_move rfl rfl rfl ?_
          refine sy_move rfl rfl rfl ?_
          refine sy_idxs (u := e0) Tryd.underlying9 rfl rfl (by omega) (ba_at he0) rfl rfl ?_
          refine sy_cmp rfl rfl rfl rfl rfl ?_
          refine sy_pickT rfl rfl rfl rfl ?_
          refine sy_assign rfl rfl rfl ?_
          refine sy_nil rfl ?_
          refine ny_blockN ?_
          refine ny_next ?_
          refine cy_region ?_
          refine sy_move rfl rfl rfl ?_
          refine sy_addi (z := ((i + 1 : Nat) : Int)) rfl rfl (by omega) (by omega) (by omega) rfl rfl ?_
          refine sy_assign rfl rfl rfl ?_
          refine sy_nil rfl ?_
          refine ny_roundK [0, 1, 5, 6] (i + 1) [] (show i + 1 ≤ s.size by omega) (show s.size - (i + 1) < s.size - i by omega) rfl ⟨congrArg (fun b => some (Value.bool b)) (by first | (rw [fine_succ he0, hg42, hg48]; rfl) | (rw [fine_succ he0, hg42]; rfl)), rfl, trivial⟩ rfl rfl
        · refine sy_skip rfl rfl rfl ?_
          refine sy_skip rfl rfl rfl ?_
          refine sy_skip rfl rfl rfl ?_
          refine sy_skip rfl rfl rfl ?_
          refine sy_pickF rfl rfl rfl rfl ?_
          refine sy_assign rfl rfl rfl ?_
          refine sy_nil rfl ?_
          refine ny_blockN ?_
          refine ny_next ?_
          refine cy_region ?_
          refine sy_move rfl rfl rfl ?_
          refine sy_addi (z := ((i + 1 : Nat) : Int)) rfl rfl (by omega) (by omega) (by omega) rfl rfl ?_
          refine sy_assign rfl rfl rfl ?_
          refine sy_nil rfl ?_
          refine ny_roundK [0, 1, 5, 6] (i + 1) [] (show i + 1 ≤ s.size by omega) (show s.size - (i + 1) < s.size - i by omega) rfl ⟨congrArg (fun b => some (Value.bool b)) (by first | (rw [fine_succ he0, hg42, hg48]; rfl) | (rw [fine_succ he0, hg42]; rfl)), rfl, trivial⟩ rfl rfl
      · refine sy_skip rfl rfl rfl ?_
        refine sy_skip rfl rfl rfl ?_
        refine sy_skip rfl rfl rfl ?_
        refine sy_skip rfl rfl rfl ?_
        refine sy_pickF rfl rfl rfl rfl ?_
        refine sy_move rfl rfl rfl ?_
        refine sy_skip rfl rfl rfl ?_
        refine sy_skip rfl rfl rfl ?_
        refine sy_skip rfl rfl rfl ?_
        refine sy_skip rfl rfl rfl ?_
        refine sy_pickF rfl rfl rfl rfl ?_
        refine sy_assign rfl rfl rfl ?_
        refine sy_nil rfl ?_
        refine ny_blockN ?_
        refine ny_next ?_
        refine cy_region ?_
        refine sy_move rfl rfl rfl ?_
        refine sy_addi (z := ((i + 1 : Nat) : Int)) rfl rfl (by omega) (by omega) (by omega) rfl rfl ?_
        refine sy_assign rfl rfl rfl ?_
        refine sy_nil rfl ?_
        refine ny_roundK [0, 1, 5, 6] (i + 1) [] (show i + 1 ≤ s.size by omega) (show s.size - (i + 1) < s.size - i by omega) rfl ⟨congrArg (fun b => some (Value.bool b)) (by first | (rw [fine_succ he0, hg42, hg48]; rfl) | (rw [fine_succ he0, hg42]; rfl)), rfl, trivial⟩ rfl rfl
    · have hie : i = s.size := by have := of_decide_eq_false hc38; omega
      subst hie
      rw [fine_end, hnm]
      refine cy_exit ?_
      refine ny_thenE ?_
      refine ny_thenE ?_
      refine ny_blockX ?_
      refine ny_next ?_
      refine cy_seq ?_
      refine cy_region ?_
      refine sy_move rfl rfl rfl ?_
      refine sy_move rfl rfl rfl ?_
      refine sy_build rfl (fun w => bld_38_0 w) rfl rfl ?_
      refine sy_buildSlice rfl (fun w => bsl_25_1_0 w) rfl rfl (fun b58 hb58 hM58 => ?_) (by simp)
      refine sy_frz 0 rfl (by simp) (fun h58 hle58 hb58 => ?_)
      have hG58 : RowsAt h58 (some ⟨b58, 0, none⟩) 3 ([(⟨s, 0, 0⟩ : Gr)].map grC) := rows_blk (by decide) (grC_len [(⟨s, 0, 0⟩ : Gr)]) hb58
      replace ht := ht.le hle58
      replace hh := hh.le hle58
      replace hg := hle58 _ _ hg
      refine sy_callx call_20 rfl (gnewGood_c g 1 (ru 1 []) _ hg (by decide) (by decide) (ru_lt (by decide) _) (some ⟨b58, 0, none⟩) 1 1 [⟨s, 0, 0⟩] hG58 rfl (Nat.le_refl _) (by decide) ht (fun g hg => by simp only [List.mem_cons, List.not_mem_nil, or_false] at hg; subst hg; exact hs) h0) rfl rfl (fun x59 h59 hx59 hle59 => ?_)
      have ht := ht.le hle59
      have hh := hh.le hle59
      have hg := hle59 _ _ hg
      skip
      refine sy_move rfl rfl rfl ?_
      refine sy_extract rfl rfl rfl rfl ?_
      refine sy_extract rfl rfl rfl rfl ?_
      refine sy_assign rfl rfl rfl ?_
      refine sy_assign rfl rfl rfl ?_
      refine sy_nil rfl ?_
      refine ny_next ?_
      refine cy_seq ?_
      refine cy_region ?_
      refine sy_assign rfl rfl rfl ?_
      refine sy_nil rfl ?_
      refine ny_next ?_
      refine cy_seq ?_
      refine cy_seq ?_
      refine cy_region ?_
      refine sy_assign rfl rfl rfl ?_
      refine sy_nil rfl ?_
      refine ny_next ?_
      refine cy_block ?_
      refine cy_nilRow 38 3 ?_
      refine cy_loopK (ι := Nat × Value) [1, 5, 6, 8, 11] rfl (fun z => z.1 ≤ c.toNat) (fun z => c.toNat - z.1) (fun z => [(12, z.2), (13, .int .i64 (z.1 : Int))]) (fun z => h59) (fun z => [Res.row z.2 38 3 z.1 (((List.replicate z.1 ga).map grC).flatten)]) (0, .slice none 0 0) [0] (Nat.zero_le _) ⟨rfl, rfl, trivial⟩ rfl rfl ?_
      rintro ⟨i, v12⟩ hI
      simp only at hI ⊢
      refine cy_seq ?_
      refine cy_seq ?_
      refine cy_region ?_
      refine sy_move rfl rfl rfl ?_
      refine sy_move rfl rfl rfl ?_
      refine sy_convi Tryd.underlying5 Tryd.underlying3 rfl (by omega) (by omega) rfl rfl ?_
      refine sy_cmp rfl rfl rfl rfl rfl ?_
      refine sy_nil rfl ?_
      refine ny_next ?_
      refine cy_cond rfl (fun hc65 => ?_) (fun hc65 => ?_)
      · have hlti : i < c.toNat := by have := of_decide_eq_true hc65; omega
        refine cy_skip ?_
        refine ny_next ?_
        refine cy_seq ?_
        refine cy_block ?_
        refine cy_region ?_
        refine sy_move rfl rfl rfl ?_
        refine sy_build rfl (fun w => bld_38_0 w) rfl rfl ?_
        refine sy_buildSlice rfl (fun w => bsl_25_1_0 w) rfl rfl (fun b70 hb70 hM70 => ?_) (by simp)
        refine sy_append 1 0 row_25 (by decide) rfl rfl rfl rfl rfl rfl (by omega) (by simp only [maxLen]; omega) rfl rfl (fun v71 => ?_)
        refine sy_assign rfl rfl rfl ?_
        refine sy_nil rfl ?_
        refine ny_blockN ?_
        refine ny_next ?_
        refine cy_region ?_
        refine sy_move rfl rfl rfl ?_
        refine sy_addi (z := ((i + 1 : Nat) : Int)) rfl rfl (by omega) (by omega) (by omega) rfl rfl ?_
        refine sy_assign rfl rfl rfl ?_
        refine sy_nil rfl ?_
        refine ny_roundK [1, 5, 6, 8, 11] (i + 1, v71) [0] (show i + 1 ≤ c.toNat by omega) (show c.toNat - (i + 1) < c.toNat - i by omega) rfl ⟨rfl, rfl, trivial⟩ rfl (by rw [many_snoc]; rfl)
      · have hie : i = c.toNat := by have := of_decide_eq_false hc65; omega
        subst hie
        refine cy_exit ?_
        refine ny_thenE ?_
        refine ny_thenE ?_
        refine ny_blockX ?_
        refine ny_next ?_
        refine cy_seq ?_
        refine cy_frzRow 0 rfl (fun _ _ => by simp) (fun A12 c12 h12 hv12 hlc12 hcm12 _ hle12 hcell12 => ?_)
        subst hv12
        have hr12 : RowsAt h12 A12 3 ((List.replicate c.toNat ga).map grC) := rows_row (by decide) (grC_len _) hcell12
        replace ht := ht.le hle12
        replace hh := hh.le hle12
        replace hg := hle12 _ _ hg
        refine cy_region ?_
        refine sy_move rfl rfl rfl ?_
        refine sy_move rfl rfl rfl ?_
        refine sy_callx call_20 rfl (gnewBad_c g 1 (ru 1 []) _ hg (by decide) (by decide) (ru_lt (by decide) _) A12 _ c12 (List.replicate c.toNat ga) hr12 (List.length_replicate) hlc12 (by omega) ht many_ok h1) rfl rfl (fun x75 h75 hx75 hle75 => ?_)
        have ht := ht.le hle75
        have hh := hh.le hle75
        have hg := hle75 _ _ hg
        skip
        refine sy_move rfl rfl rfl ?_
        refine sy_extract rfl rfl rfl rfl ?_
        refine sy_extract rfl rfl rfl rfl ?_
        refine sy_assign rfl rfl rfl ?_
        refine sy_assign rfl rfl rfl ?_
        refine sy_nil rfl ?_
        refine ny_next ?_
        refine cy_seq ?_
        refine cy_region ?_
        refine sy_move rfl rfl rfl ?_
        refine sy_move rfl rfl rfl ?_
        refine sy_setT (d := 79) rfl rfl (by first | rfl | decide | simp) ?_
        refine sy_move rfl rfl rfl ?_
        refine sy_eqn Tryd.underlying34 rfl rfl rfl rfl rfl ?_
        refine sy_setT (d := 81) rfl rfl rfl ?_
        refine sy_move rfl rfl rfl ?_
        refine sy_setT (d := 82) rfl rfl rfl ?_
        refine sy_eqb Tryd.underlying4 rfl rfl rfl rfl ?_
        refine sy_pickT rfl rfl rfl rfl ?_
        refine sy_move rfl rfl rfl ?_
        refine sy_setT (d := 85) rfl rfl (by first | rfl | decide | simp) ?_
        refine sy_move rfl rfl rfl ?_
        refine sy_setT (d := 86) rfl rfl rfl ?_
        refine sy_move rfl rfl rfl ?_
        refine sy_skip rfl rfl rfl ?_
        refine sy_skip rfl rfl rfl ?_
        refine sy_skip rfl rfl rfl ?_
        refine sy_pickT rfl rfl rfl rfl ?_
        refine sy_pickT rfl rfl rfl rfl ?_
        refine sy_move rfl rfl rfl ?_
        refine sy_move rfl rfl rfl ?_
        refine sy_eqn Tryd.underlying34 rfl rfl rfl rfl rfl ?_
        refine sy_setF (d := 95) rfl rfl rfl ?_
        refine sy_move rfl rfl rfl ?_
        refine sy_cmp rfl rfl rfl rfl rfl ?_
        refine sy_setF (d := 97) rfl rfl (by simp; omega) ?_
        refine sy_eqb Tryd.underlying4 rfl rfl rfl rfl ?_
        refine sy_pickT rfl rfl rfl rfl ?_
        refine sy_move rfl rfl rfl ?_
        refine sy_setT (d := 100) rfl rfl (by first | rfl | decide | simp) ?_
        refine sy_move rfl rfl rfl ?_
        refine sy_eqn Tryd.underlying34 rfl rfl rfl rfl rfl ?_
        refine sy_setF (d := 102) rfl rfl rfl ?_
        refine sy_move rfl rfl rfl ?_
        refine sy_move rfl rfl rfl ?_
        refine sy_call rfl call_29 rfl (codeR_c _ _ _ hh) rfl rfl ?_
        refine sy_cmp rfl rfl rfl rfl rfl ?_
        refine sy_setT (d := 106) rfl rfl (by rw [h10]; rfl) ?_
        refine sy_pickF rfl rfl rfl rfl ?_
        refine sy_pickT rfl rfl rfl rfl ?_
        refine sy_assign rfl rfl rfl ?_
        refine sy_nil rfl ?_
        refine ny_next ?_
        refine cy_ret ?_
        exact ny_finR (res1 rfl rfl) (fun w hs => ⟨rfl, hs.frm⟩)
  · refine sy_skip rfl rfl rfl ?_
    refine sy_skip rfl rfl rfl ?_
    refine sy_skip rfl rfl rfl ?_
    refine sy_pickF rfl rfl rfl rfl ?_
    refine sy_assign rfl rfl rfl ?_
    refine sy_nil rfl ?_
    refine ny_next ?_
    refine cy_seq ?_
    refine cy_seq ?_
    refine cy_region ?_
    refine sy_assign rfl rfl rfl ?_
    refine sy_nil rfl ?_
    refine ny_next ?_
    refine cy_block ?_
    refine cy_loopK (ι := Nat) [0, 1, 5, 6] rfl (fun i => i ≤ s.size) (fun i => s.size - i) (fun i => [(8, .bool (fineB s i)), (9, .int .i64 (i : Int))]) (fun i => h18) (fun i => []) 0 [] (Nat.zero_le _) ⟨congrArg (fun b => some (Value.bool b)) (by rw [fine_zero]; unfold sizeB; rw [hg30]; rfl), rfl, trivial⟩ rfl rfl ?_
    rintro i hI
    refine cy_seq ?_
    refine cy_seq ?_
    refine cy_region ?_
    refine sy_move rfl rfl rfl ?_
    refine sy_move rfl rfl rfl ?_
    refine sy_len rfl (len_string Tryd.underlying9 _) rfl rfl ?_
    refine sy_cmp rfl rfl rfl rfl rfl ?_
    refine sy_nil rfl ?_
    refine ny_next ?_
    refine cy_cond rfl (fun hc38 => ?_) (fun hc38 => ?_)
    · have hlti : i < s.size := by have := of_decide_eq_true hc38; omega
      obtain ⟨e0, he0⟩ : ∃ e0, s.data.toList[i]? = some e0 := ⟨_, List.getElem?_eq_getElem (by show i < s.size; omega)⟩
      refine cy_skip ?_
      refine ny_next ?_
      refine cy_seq ?_
      refine cy_block ?_
      refine cy_region ?_
      refine sy_move rfl rfl rfl ?_
      refine sy_move rfl rfl rfl ?_
      refine sy_cond (d := 42) _ rfl rfl (fun hg42 => ?_) (fun hg42 => ?_)
      · refine sy_move rfl rfl rfl ?_
        refine sy_move rfl rfl rfl ?_
        refine sy_idxs (u := e0) Tryd.underlying9 rfl rfl (by omega) (ba_at he0) rfl rfl ?_
        refine sy_cmp rfl rfl rfl rfl rfl ?_
        refine sy_pickT rfl rfl rfl rfl ?_
        refine sy_move rfl rfl rfl ?_
        refine sy_cond (d := 48) _ rfl rfl (fun hg48 => ?_) (fun hg48 => ?_)
        · refine sy_move rfl rfl rfl ?_
          refine sy_move rfl rfl rfl ?_
          refine sy_idxs (u := e0) Tryd.underlying9 rfl rfl (by omega) (ba_at he0) rfl rfl ?_
          refine sy_cmp rfl rfl rfl rfl rfl ?_
          refine sy_pickT rfl rfl rfl rfl ?_
          refine sy_assign rfl rfl rfl ?_
          refine sy_nil rfl ?_
          refine ny_blockN ?_
          refine ny_next ?_
          refine cy_region ?_
          refine sy_move rfl rfl rfl ?_
          refine sy_addi (z := ((i + 1 : Nat) : Int)) rfl rfl (by omega) (by omega) (by omega) rfl rfl ?_
          refine sy_assign rfl rfl rfl ?_
          refine sy_nil rfl ?_
          refine ny_roundK [0, 1, 5, 6] (i + 1) [] (show i + 1 ≤ s.size by omega) (show s.size - (i + 1) < s.size - i by omega) rfl ⟨congrArg (fun b => some (Value.bool b)) (by first | (rw [fine_succ he0, hg42, hg48]; rfl) | (rw [fine_succ he0, hg42]; rfl)), rfl, trivial⟩ rfl rfl
        · refine sy_skip rfl rfl rfl ?_
          refine sy_skip rfl rfl rfl ?_
          refine sy_skip rfl rfl rfl ?_
          refine sy_skip rfl rfl rfl ?_
          refine sy_pickF rfl rfl rfl rfl ?_
          refine sy_assign rfl rfl rfl ?_
          refine sy_nil rfl ?_
          refine ny_blockN ?_
          refine ny_next ?_
          refine cy_region ?_
          refine sy_move rfl rfl rfl ?_
          refine sy_addi (z := ((i + 1 : Nat) : Int)) rfl rfl (by omega) (by omega) (by omega) rfl rfl ?_
          refine sy_assign rfl rfl rfl ?_
          refine sy_nil rfl ?_
          refine ny_roundK [0, 1, 5, 6] (i + 1) [] (show i + 1 ≤ s.size by omega) (show s.size - (i + 1) < s.size - i by omega) rfl ⟨congrArg (fun b => some (Value.bool b)) (by first | (rw [fine_succ he0, hg42, hg48]; rfl) | (rw [fine_succ he0, hg42]; rfl)), rfl, trivial⟩ rfl rfl
      · refine sy_skip rfl rfl rfl ?_
        refine sy_skip rfl rfl rfl ?_
        refine sy_skip rfl rfl rfl ?_
        refine sy_skip rfl rfl rfl ?_
        refine sy_pickF rfl rfl rfl rfl ?_
        refine sy_move rfl rfl rfl ?_
        refine sy_skip rfl rfl rfl ?_
        refine sy_skip rfl rfl rfl ?_
        refine sy_skip rfl rfl rfl ?_
        refine sy_skip rfl rfl rfl ?_
        refine sy_pickF rfl rfl rfl rfl ?_
        refine sy_assign rfl rfl rfl ?_
        refine sy_nil rfl ?_
        refine ny_blockN ?_
        refine ny_next ?_
        refine cy_region ?_
        refine sy_move rfl rfl rfl ?_
        refine sy_addi (z := ((i + 1 : Nat) : Int)) rfl rfl (by omega) (by omega) (by omega) rfl rfl ?_
        refine sy_assign rfl rfl rfl ?_
        refine sy_nil rfl ?_
        refine ny_roundK [0, 1, 5, 6] (i + 1) [] (show i + 1 ≤ s.size by omega) (show s.size - (i + 1) < s.size - i by omega) rfl ⟨congrArg (fun b => some (Value.bool b)) (by first | (rw [fine_succ he0, hg42, hg48]; rfl) | (rw [fine_succ he0, hg42]; rfl)), rfl, trivial⟩ rfl rfl
    · have hie : i = s.size := by have := of_decide_eq_false hc38; omega
      subst hie
      rw [fine_end, hnm]
      refine cy_exit ?_
      refine ny_thenE ?_
      refine ny_thenE ?_
      refine ny_blockX ?_
      refine ny_next ?_
      refine cy_seq ?_
      refine cy_region ?_
      refine sy_move rfl rfl rfl ?_
      refine sy_move rfl rfl rfl ?_
      refine sy_build rfl (fun w => bld_38_0 w) rfl rfl ?_
      refine sy_buildSlice rfl (fun w => bsl_25_1_0 w) rfl rfl (fun b58 hb58 hM58 => ?_) (by simp)
      refine sy_frz 0 rfl (by simp) (fun h58 hle58 hb58 => ?_)
      have hG58 : RowsAt h58 (some ⟨b58, 0, none⟩) 3 ([(⟨s, 0, 0⟩ : Gr)].map grC) := rows_blk (by decide) (grC_len [(⟨s, 0, 0⟩ : Gr)]) hb58
      replace ht := ht.le hle58
      replace hh := hh.le hle58
      replace hg := hle58 _ _ hg
      refine sy_callx call_20 rfl (gnewGood_c g 1 (ru 1 []) _ hg (by decide) (by decide) (ru_lt (by decide) _) (some ⟨b58, 0, none⟩) 1 1 [⟨s, 0, 0⟩] hG58 rfl (Nat.le_refl _) (by decide) ht (fun g hg => by simp only [List.mem_cons, List.not_mem_nil, or_false] at hg; subst hg; exact hs) h0) rfl rfl (fun x59 h59 hx59 hle59 => ?_)
      have ht := ht.le hle59
      have hh := hh.le hle59
      have hg := hle59 _ _ hg
      skip
      refine sy_move rfl rfl rfl ?_
      refine sy_extract rfl rfl rfl rfl ?_
      refine sy_extract rfl rfl rfl rfl ?_
      refine sy_assign rfl rfl rfl ?_
      refine sy_assign rfl rfl rfl ?_
      refine sy_nil rfl ?_
      refine ny_next ?_
      refine cy_seq ?_
      refine cy_region ?_
      refine sy_assign rfl rfl rfl ?_
      refine sy_nil rfl ?_
      refine ny_next ?_
      refine cy_seq ?_
      refine cy_seq ?_
      refine cy_region ?_
      refine sy_assign rfl rfl rfl ?_
      refine sy_nil rfl ?_
      refine ny_next ?_
      refine cy_block ?_
      refine cy_nilRow 38 3 ?_
      refine cy_loopK (ι := Nat × Value) [1, 5, 6, 8, 11] rfl (fun z => z.1 ≤ c.toNat) (fun z => c.toNat - z.1) (fun z => [(12, z.2), (13, .int .i64 (z.1 : Int))]) (fun z => h59) (fun z => [Res.row z.2 38 3 z.1 (((List.replicate z.1 ga).map grC).flatten)]) (0, .slice none 0 0) [0] (Nat.zero_le _) ⟨rfl, rfl, trivial⟩ rfl rfl ?_
      rintro ⟨i, v12⟩ hI
      simp only at hI ⊢
      refine cy_seq ?_
      refine cy_seq ?_
      refine cy_region ?_
      refine sy_move rfl rfl rfl ?_
      refine sy_move rfl rfl rfl ?_
      refine sy_convi Tryd.underlying5 Tryd.underlying3 rfl (by omega) (by omega) rfl rfl ?_
      refine sy_cmp rfl rfl rfl rfl rfl ?_
      refine sy_nil rfl ?_
      refine ny_next ?_
      refine cy_cond rfl (fun hc65 => ?_) (fun hc65 => ?_)
      · have hlti : i < c.toNat := by have := of_decide_eq_true hc65; omega
        refine cy_skip ?_
        refine ny_next ?_
        refine cy_seq ?_
        refine cy_block ?_
        refine cy_region ?_
        refine sy_move rfl rfl rfl ?_
        refine sy_build rfl (fun w => bld_38_0 w) rfl rfl ?_
        refine sy_buildSlice rfl (fun w => bsl_25_1_0 w) rfl rfl (fun b70 hb70 hM70 => ?_) (by simp)
        refine sy_append 1 0 row_25 (by decide) rfl rfl rfl rfl rfl rfl (by omega) (by simp only [maxLen]; omega) rfl rfl (fun v71 => ?_)
        refine sy_assign rfl rfl rfl ?_
        refine sy_nil rfl ?_
        refine ny_blockN ?_
        refine ny_next ?_
        refine cy_region ?_
        refine sy_move rfl rfl rfl ?_
        refine sy_addi (z := ((i + 1 : Nat) : Int)) rfl rfl (by omega) (by omega) (by omega) rfl rfl ?_
        refine sy_assign rfl rfl rfl ?_
        refine sy_nil rfl ?_
        refine ny_roundK [1, 5, 6, 8, 11] (i + 1, v71) [0] (show i + 1 ≤ c.toNat by omega) (show c.toNat - (i + 1) < c.toNat - i by omega) rfl ⟨rfl, rfl, trivial⟩ rfl (by rw [many_snoc]; rfl)
      · have hie : i = c.toNat := by have := of_decide_eq_false hc65; omega
        subst hie
        refine cy_exit ?_
        refine ny_thenE ?_
        refine ny_thenE ?_
        refine ny_blockX ?_
        refine ny_next ?_
        refine cy_seq ?_
        refine cy_frzRow 0 rfl (fun _ _ => by simp) (fun A12 c12 h12 hv12 hlc12 hcm12 _ hle12 hcell12 => ?_)
        subst hv12
        have hr12 : RowsAt h12 A12 3 ((List.replicate c.toNat ga).map grC) := rows_row (by decide) (grC_len _) hcell12
        replace ht := ht.le hle12
        replace hh := hh.le hle12
        replace hg := hle12 _ _ hg
        refine cy_region ?_
        refine sy_move rfl rfl rfl ?_
        refine sy_move rfl rfl rfl ?_
        refine sy_callx call_20 rfl (gnewBad_c g 1 (ru 1 []) _ hg (by decide) (by decide) (ru_lt (by decide) _) A12 _ c12 (List.replicate c.toNat ga) hr12 (List.length_replicate) hlc12 (by omega) ht many_ok h1) rfl rfl (fun x75 h75 hx75 hle75 => ?_)
        have ht := ht.le hle75
        have hh := hh.le hle75
        have hg := hle75 _ _ hg
        skip
        refine sy_move rfl rfl rfl ?_
        refine sy_extract rfl rfl rfl rfl ?_
        refine sy_extract rfl rfl rfl rfl ?_
        refine sy_assign rfl rfl rfl ?_
        refine sy_assign rfl rfl rfl ?_
        refine sy_nil rfl ?_
        refine ny_next ?_
        refine cy_seq ?_
        refine cy_region ?_
        refine sy_move rfl rfl rfl ?_
        refine sy_move rfl rfl rfl ?_
        refine sy_setT (d := 79) rfl rfl (by first | rfl | decide | simp) ?_
        refine sy_move rfl rfl rfl ?_
        refine sy_eqn Tryd.underlying34 rfl rfl rfl rfl rfl ?_
        refine sy_setT (d := 81) rfl rfl rfl ?_
        refine sy_move rfl rfl rfl ?_
        refine sy_setT (d := 82) rfl rfl rfl ?_
        refine sy_eqb Tryd.underlying4 rfl rfl rfl rfl ?_
        refine sy_pickT rfl rfl rfl rfl ?_
        refine sy_move rfl rfl rfl ?_
        refine sy_setT (d := 85) rfl rfl (by first | rfl | decide | simp) ?_
        refine sy_move rfl rfl rfl ?_
        refine sy_setT (d := 86) rfl rfl rfl ?_
        refine sy_move rfl rfl rfl ?_
        refine sy_skip rfl rfl rfl ?_
        refine sy_skip rfl rfl rfl ?_
        refine sy_skip rfl rfl rfl ?_
        refine sy_pickT rfl rfl rfl rfl ?_
        refine sy_pickT rfl rfl rfl rfl ?_
        refine sy_move rfl rfl rfl ?_
        refine sy_move rfl rfl rfl ?_
        refine sy_eqn Tryd.underlying34 rfl rfl rfl rfl rfl ?_
        refine sy_setF (d := 95) rfl rfl rfl ?_
        refine sy_move rfl rfl rfl ?_
        refine sy_cmp rfl rfl rfl rfl rfl ?_
        refine sy_setF (d := 97) rfl rfl (by simp; omega) ?_
        refine sy_eqb Tryd.underlying4 rfl rfl rfl rfl ?_
        refine sy_pickT rfl rfl rfl rfl ?_
        refine sy_move rfl rfl rfl ?_
        refine sy_setT (d := 100) rfl rfl (by first | rfl | decide | simp) ?_
        refine sy_move rfl rfl rfl ?_
        refine sy_eqn Tryd.underlying34 rfl rfl rfl rfl rfl ?_
        refine sy_setF (d := 102) rfl rfl rfl ?_
        refine sy_move rfl rfl rfl ?_
        refine sy_move rfl rfl rfl ?_
        refine sy_call rfl call_29 rfl (codeR_c _ _ _ hh) rfl rfl ?_
        refine sy_cmp rfl rfl rfl rfl rfl ?_
        refine sy_setT (d := 106) rfl rfl (by rw [h10]; rfl) ?_
        refine sy_pickF rfl rfl rfl rfl ?_
        refine sy_pickT rfl rfl rfl rfl ?_
        refine sy_assign rfl rfl rfl ?_
        refine sy_nil rfl ?_
        refine ny_next ?_
        refine cy_ret ?_
        exact ny_finR (res1 rfl rfl) (fun w hs => ⟨rfl, hs.frm⟩)
set_option maxRecDepth 100000 in
theorem names01_c (s : ByteArray) (c : UInt8) (h : Hp) (ht : Tab10 h) (hh : Hdl h) (hs : s.size ≤ 140737488355328) (hnm : nameB s = false) (hc : c.toNat ≤ 100) : C0 Tryd.prog 8 [.string s, .int .u8 (c.toNat : Int)] h (.bool true) := by
  have hct := c.toNat_lt
  have h00 := names_bad hnm
  have h0 : newI 1 (ru 1 []) [⟨s, 0, 0⟩] ≠ 0 := by rw [h00]; decide
  have h1 := many_fine hc
  refine enter0 Tryd.func8 rfl rfl rfl (fun w => ?_)
  refine cy_seq ?_
  refine cy_region ?_
  refine sy_assign rfl rfl rfl ?_
  refine sy_nil rfl ?_
  refine ny_next ?_
  refine cy_seq ?_
  refine cy_region ?_
  refine sy_call rfl call_17 rfl (shown02_c _ ht) rfl rfl ?_
  refine sy_assign rfl rfl rfl ?_
  refine sy_nil rfl ?_
  refine ny_next ?_
  refine cy_seq ?_
  refine cy_region ?_
  refine sy_callx call_18 rfl (newGood_c 1 none 0 0 [] _ one_fine pairs_none rfl (by decide)) rfl rfl (fun x18 h18 hx18 hle18 => ?_)
  have ht := ht.le hle18
  have hh := hh.le hle18
  revert hx18
  revert x18
  intro g hg
  refine sy_move rfl rfl rfl ?_
  refine sy_extract rfl rfl rfl rfl ?_
  refine sy_extract rfl rfl rfl rfl ?_
  refine sy_assign rfl rfl rfl ?_
  refine sy_assign rfl rfl rfl ?_
  refine sy_nil rfl ?_
  refine ny_next ?_
  refine cy_seq ?_
  refine cy_seq ?_
  refine cy_region ?_
  refine sy_move rfl rfl rfl ?_
  refine sy_cmp rfl rfl rfl rfl rfl ?_
  refine sy_setF (d := 22) rfl rfl rfl ?_
  refine sy_move rfl rfl rfl ?_
  refine sy_move rfl rfl rfl ?_
  refine sy_eqp Tryd.underlying27 rfl rfl rfl rfl rfl ?_
  refine sy_setF (d := 25) rfl rfl rfl ?_
  refine sy_pickF rfl rfl rfl rfl ?_
  refine sy_setF (d := 26) rfl rfl rfl ?_
  refine sy_nil rfl ?_
  refine ny_next ?_
  refine cy_condF rfl ?_
  refine cy_skip ?_
  refine ny_next ?_
  refine cy_seq ?_
  refine cy_region ?_
  refine sy_move rfl rfl rfl ?_
  refine sy_len rfl (len_string Tryd.underlying9 _) rfl rfl ?_
  refine sy_cmp rfl rfl rfl rfl rfl ?_
  refine sy_move rfl rfl rfl ?_
  refine sy_cond (d := 30) _ rfl rfl (fun hg30 => ?_) (fun hg30 => ?_)
  · refine sy_move rfl rfl rfl ?_
    refine sy_len rfl (len_string Tryd.underlying9 _) rfl rfl ?_
    refine sy_cmp rfl rfl rfl rfl rfl ?_
    refine sy_pickT rfl rfl rfl rfl ?_
    refine sy_assign rfl rfl rfl ?_
    refine sy_nil rfl ?_
    refine ny_next ?_
    refine cy_seq ?_
    refine cy_seq ?_
    refine cy_region ?_
    refine sy_assign rfl rfl rfl ?_
    refine sy_nil rfl ?_
    refine ny_next ?_
    refine cy_block ?_
    refine cy_loopK (ι := Nat) [0, 1, 5, 6] rfl (fun i => i ≤ s.size) (fun i => s.size - i) (fun i => [(8, .bool (fineB s i)), (9, .int .i64 (i : Int))]) (fun i => h18) (fun i => []) 0 [] (Nat.zero_le _) ⟨congrArg (fun b => some (Value.bool b)) (by rw [fine_zero]; unfold sizeB; rw [hg30]; rfl), rfl, trivial⟩ rfl rfl ?_
    rintro i hI
    refine cy_seq ?_
    refine cy_seq ?_
    refine cy_region ?_
    refine sy_move rfl rfl rfl ?_
    refine sy_move rfl rfl rfl ?_
    refine sy_len rfl (len_string Tryd.underlying9 _) rfl rfl ?_
    refine sy_cmp rfl rfl rfl rfl rfl ?_
    refine sy_nil rfl ?_
    refine ny_next ?_
    refine cy_cond rfl (fun hc38 => ?_) (fun hc38 => ?_)
    · have hlti : i < s.size := by have := of_decide_eq_true hc38; omega
      obtain ⟨e0, he0⟩ : ∃ e0, s.data.toList[i]? = some e0 := ⟨_, List.getElem?_eq_getElem (by show i < s.size; omega)⟩
      refine cy_skip ?_
      refine ny_next ?_
      refine cy_seq ?_
      refine cy_block ?_
      refine cy_region ?_
      refine sy_move rfl rfl rfl ?_
      refine sy_move rfl rfl rfl ?_
      refine sy_cond (d := 42) _ rfl rfl (fun hg42 => ?_) (fun hg42 => ?_)
      · refine sy_move rfl rfl rfl ?_
        refine sy_move rfl rfl rfl ?_
        refine sy_idxs (u := e0) Tryd.underlying9 rfl rfl (by omega) (ba_at he0) rfl rfl ?_
        refine sy_cmp rfl rfl rfl rfl rfl ?_
        refine sy_pickT rfl rfl rfl rfl ?_
        refine sy_move rfl rfl rfl ?_
        refine sy_cond (d := 48) _ rfl rfl (fun hg48 => ?_) (fun hg48 => ?_)
        · refine sy_move rfl rfl rfl ?_
          refine sy_move rfl rfl rfl ?_
          refine sy_idxs (u := e0) Tryd.underlying9 rfl rfl (by omega) (ba_at he0) rfl rfl ?_
          refine sy_cmp rfl rfl rfl rfl rfl ?_
          refine sy_pickT rfl rfl rfl rfl ?_
          refine sy_assign rfl rfl rfl ?_
          refine sy_nil rfl ?_
          refine ny_blockN ?_
          refine ny_next ?_
          refine cy_region ?_
          refine sy_move rfl rfl rfl ?_
          refine sy_addi (z := ((i + 1 : Nat) : Int)) rfl rfl (by omega) (by omega) (by omega) rfl rfl ?_
          refine sy_assign rfl rfl rfl ?_
          refine sy_nil rfl ?_
          refine ny_roundK [0, 1, 5, 6] (i + 1) [] (show i + 1 ≤ s.size by omega) (show s.size - (i + 1) < s.size - i by omega) rfl ⟨congrArg (fun b => some (Value.bool b)) (by first | (rw [fine_succ he0, hg42, hg48]; rfl) | (rw [fine_succ he0, hg42]; rfl)), rfl, trivial⟩ rfl rfl
        · refine sy_skip rfl rfl rfl ?_
          refine sy_skip rfl rfl rfl ?_
          refine sy_skip rfl rfl rfl ?_
          refine sy_skip rfl rfl rfl ?_
          refine sy_pickF rfl rfl rfl rfl ?_
          refine sy_assign rfl rfl rfl ?_
          refine sy_nil rfl ?_
          refine ny_blockN ?_
          refine ny_next ?_
          refine cy_region ?_
          refine sy_move rfl rfl rfl ?_
          refine sy_addi (z := ((i + 1 : Nat) : Int)) rfl rfl (by omega) (by omega) (by omega) rfl rfl ?_
          refine sy_assign rfl rfl rfl ?_
          refine sy_nil rfl ?_
          refine ny_roundK [0, 1, 5, 6] (i + 1) [] (show i + 1 ≤ s.size by omega) (show s.size - (i + 1) < s.size - i by omega) rfl ⟨congrArg (fun b => some (Value.bool b)) (by first | (rw [fine_succ he0, hg42, hg48]; rfl) | (rw [fine_succ he0, hg42]; rfl)), rfl, trivial⟩ rfl rfl
      · refine sy_skip rfl rfl rfl ?_
        refine sy_skip rfl rfl rfl ?_
        refine sy_skip rfl rfl rfl ?_
        refine sy_skip rfl rfl rfl ?_
        refine sy_pickF rfl rfl rfl rfl ?_
        refine sy_move rfl rfl rfl ?_
        refine sy_skip rfl rfl rfl ?_
        refine sy_skip rfl rfl rfl ?_
        refine sy_skip rfl rfl rfl ?_
        refine sy_skip rfl rfl rfl ?_
        refine sy_pickF rfl rfl rfl rfl ?_
        refine sy_assign rfl rfl rfl ?_
        refine sy_nil rfl ?_
        refine ny_blockN ?_
        refine ny_next ?_
        refine cy_region ?_
        refine sy_move rfl rfl rfl ?_
        refine sy_addi (z := ((i + 1 : Nat) : Int)) rfl rfl (by omega) (by omega) (by omega) rfl rfl ?_
        refine sy_assign rfl rfl rfl ?_
        refine sy_nil rfl ?_
        refine ny_roundK [0, 1, 5, 6] (i + 1) [] (show i + 1 ≤ s.size by omega) (show s.size - (i + 1) < s.size - i by omega) rfl ⟨congrArg (fun b => some (Value.bool b)) (by first | (rw [fine_succ he0, hg42, hg48]; rfl) | (rw [fine_succ he0, hg42]; rfl)), rfl, trivial⟩ rfl rfl
    · have hie : i = s.size := by have := of_decide_eq_false hc38; omega
      subst hie
      rw [fine_end, hnm]
      refine cy_exit ?_
      refine ny_thenE ?_
      refine ny_thenE ?_
      refine ny_blockX ?_
      refine ny_next ?_
      refine cy_seq ?_
      refine cy_region ?_
      refine sy_move rfl rfl rfl ?_
      refine sy_move rfl rfl rfl ?_
      refine sy_build rfl (fun w => bld_38_0 w) rfl rfl ?_
      refine sy_buildSlice rfl (fun w => bsl_25_1_0 w) rfl rfl (fun b58 hb58 hM58 => ?_) (by simp)
      refine sy_frz 0 rfl (by simp) (fun h58 hle58 hb58 => ?_)
      have hG58 : RowsAt h58 (some ⟨b58, 0, none⟩) 3 ([(⟨s, 0, 0⟩ : Gr)].map grC) := rows_blk (by decide) (grC_len [(⟨s, 0, 0⟩ : Gr)]) hb58
      replace ht := ht.le hle58
      replace hh := hh.le hle58
      replace hg := hle58 _ _ hg
      refine sy_callx call_20 rfl (gnewBad_c g 1 (ru 1 []) _ hg (by decide) (by decide) (ru_lt (by decide) _) (some ⟨b58, 0, none⟩) 1 1 [⟨s, 0, 0⟩] hG58 rfl (Nat.le_refl _) (by decide) ht (fun g hg => by simp only [List.mem_cons, List.not_mem_nil, or_false] at hg; subst hg; exact hs) h0) rfl rfl (fun x59 h59 hx59 hle59 => ?_)
      have ht := ht.le hle59
      have hh := hh.le hle59
      have hg := hle59 _ _ hg
      skip
      refine sy_move rfl rfl rfl ?_
      refine sy_extract rfl rfl rfl rfl ?_
      refine sy_extract rfl rfl rfl rfl ?_
      refine sy_assign rfl rfl rfl ?_
      refine sy_assign rfl rfl rfl ?_
      refine sy_nil rfl ?_
      refine ny_next ?_
      refine cy_seq ?_
      refine cy_region ?_
      refine sy_assign rfl rfl rfl ?_
      refine sy_nil rfl ?_
      refine ny_next ?_
      refine cy_seq ?_
      refine cy_seq ?_
      refine cy_region ?_
      refine sy_assign rfl rfl rfl ?_
      refine sy_nil rfl ?_
      refine ny_next ?_
      refine cy_block ?_
      refine cy_nilRow 38 3 ?_
      refine cy_loopK (ι := Nat × Value) [1, 5, 6, 8, 11] rfl (fun z => z.1 ≤ c.toNat) (fun z => c.toNat - z.1) (fun z => [(12, z.2), (13, .int .i64 (z.1 : Int))]) (fun z => h59) (fun z => [Res.row z.2 38 3 z.1 (((List.replicate z.1 ga).map grC).flatten)]) (0, .slice none 0 0) [0] (Nat.zero_le _) ⟨rfl, rfl, trivial⟩ rfl rfl ?_
      rintro ⟨i, v12⟩ hI
      simp only at hI ⊢
      refine cy_seq ?_
      refine cy_seq ?_
      refine cy_region ?_
      refine sy_move rfl rfl rfl ?_
      refine sy_move rfl rfl rfl ?_
      refine sy_convi Tryd.underlying5 Tryd.underlying3 rfl (by omega) (by omega) rfl rfl ?_
      refine sy_cmp rfl rfl rfl rfl rfl ?_
      refine sy_nil rfl ?_
      refine ny_next ?_
      refine cy_cond rfl (fun hc65 => ?_) (fun hc65 => ?_)
      · have hlti : i < c.toNat := by have := of_decide_eq_true hc65; omega
        refine cy_skip ?_
        refine ny_next ?_
        refine cy_seq ?_
        refine cy_block ?_
        refine cy_region ?_
        refine sy_move rfl rfl rfl ?_
        refine sy_build rfl (fun w => bld_38_0 w) rfl rfl ?_
        refine sy_buildSlice rfl (fun w => bsl_25_1_0 w) rfl rfl (fun b70 hb70 hM70 => ?_) (by simp)
        refine sy_append 1 0 row_25 (by decide) rfl rfl rfl rfl rfl rfl (by omega) (by simp only [maxLen]; omega) rfl rfl (fun v71 => ?_)
        refine sy_assign rfl rfl rfl ?_
        refine sy_nil rfl ?_
        refine ny_blockN ?_
        refine ny_next ?_
        refine cy_region ?_
        refine sy_move rfl rfl rfl ?_
        refine sy_addi (z := ((i + 1 : Nat) : Int)) rfl rfl (by omega) (by omega) (by omega) rfl rfl ?_
        refine sy_assign rfl rfl rfl ?_
        refine sy_nil rfl ?_
        refine ny_roundK [1, 5, 6, 8, 11] (i + 1, v71) [0] (show i + 1 ≤ c.toNat by omega) (show c.toNat - (i + 1) < c.toNat - i by omega) rfl ⟨rfl, rfl, trivial⟩ rfl (by rw [many_snoc]; rfl)
      · have hie : i = c.toNat := by have := of_decide_eq_false hc65; omega
        subst hie
        refine cy_exit ?_
        refine ny_thenE ?_
        refine ny_thenE ?_
        refine ny_blockX ?_
        refine ny_next ?_
        refine cy_seq ?_
        refine cy_frzRow 0 rfl (fun _ _ => by simp) (fun A12 c12 h12 hv12 hlc12 hcm12 _ hle12 hcell12 => ?_)
        subst hv12
        have hr12 : RowsAt h12 A12 3 ((List.replicate c.toNat ga).map grC) := rows_row (by decide) (grC_len _) hcell12
        replace ht := ht.le hle12
        replace hh := hh.le hle12
        replace hg := hle12 _ _ hg
        refine cy_region ?_
        refine sy_move rfl rfl rfl ?_
        refine sy_move rfl rfl rfl ?_
        refine sy_callx call_20 rfl (gnewGood_c g 1 (ru 1 []) _ hg (by decide) (by decide) (ru_lt (by decide) _) A12 _ c12 (List.replicate c.toNat ga) hr12 (List.length_replicate) hlc12 (by omega) ht many_ok h1) rfl rfl (fun x75 h75 hx75 hle75 => ?_)
        have ht := ht.le hle75
        have hh := hh.le hle75
        have hg := hle75 _ _ hg
        skip
        refine sy_move rfl rfl rfl ?_
        refine sy_extract rfl rfl rfl rfl ?_
        refine sy_extract rfl rfl rfl rfl ?_
        refine sy_assign rfl rfl rfl ?_
        refine sy_assign rfl rfl rfl ?_
        refine sy_nil rfl ?_
        refine ny_next ?_
        refine cy_seq ?_
        refine cy_region ?_
        refine sy_move rfl rfl rfl ?_
        refine sy_move rfl rfl rfl ?_
        refine sy_setT (d := 79) rfl rfl (by first | rfl | decide | simp) ?_
        refine sy_move rfl rfl rfl ?_
        refine sy_eqn Tryd.underlying34 rfl rfl rfl rfl rfl ?_
        refine sy_setF (d := 81) rfl rfl rfl ?_
        refine sy_move rfl rfl rfl ?_
        refine sy_setF (d := 82) rfl rfl rfl ?_
        refine sy_eqb Tryd.underlying4 rfl rfl rfl rfl ?_
        refine sy_pickT rfl rfl rfl rfl ?_
        refine sy_move rfl rfl rfl ?_
        refine sy_setT (d := 85) rfl rfl (by first | rfl | decide | simp) ?_
        refine sy_move rfl rfl rfl ?_
        refine sy_setF (d := 86) rfl rfl rfl ?_
        refine sy_move rfl rfl rfl ?_
        refine sy_move rfl rfl rfl ?_
        refine sy_call rfl call_29 rfl (codeR_c _ _ _ hh) rfl rfl ?_
        refine sy_cmp rfl rfl rfl rfl rfl ?_
        refine sy_setT (d := 90) rfl rfl (by rw [h00]; rfl) ?_
        refine sy_pickF rfl rfl rfl rfl ?_
        refine sy_pickT rfl rfl rfl rfl ?_
        refine sy_move rfl rfl rfl ?_
        refine sy_move rfl rfl rfl ?_
        refine sy_eqn Tryd.underlying34 rfl rfl rfl rfl rfl ?_
        refine sy_setT (d := 95) rfl rfl rfl ?_
        refine sy_move rfl rfl rfl ?_
        refine sy_cmp rfl rfl rfl rfl rfl ?_
        refine sy_setT (d := 97) rfl rfl (by simp; omega) ?_
        refine sy_eqb Tryd.underlying4 rfl rfl rfl rfl ?_
        refine sy_pickT rfl rfl rfl rfl ?_
        refine sy_move rfl rfl rfl ?_
        refine sy_setT (d := 100) rfl rfl (by first | rfl | decide | simp) ?_
        refine sy_move rfl rfl rfl ?_
        refine sy_eqn Tryd.underlying34 rfl rfl rfl rfl rfl ?_
        refine sy_setT (d := 102) rfl rfl rfl ?_
        refine sy_move rfl rfl rfl ?_
        refine sy_skip rfl rfl rfl ?_
        refine sy_skip rfl rfl rfl ?_
        refine sy_skip rfl rfl rfl ?_
        refine sy_pickT rfl rfl rfl rfl ?_
        refine sy_pickT rfl rfl rfl rfl ?_
        refine sy_assign rfl rfl rfl ?_
        refine sy_nil rfl ?_
        refine ny_next ?_
        refine cy_ret ?_
        exact ny_finR (res1 rfl rfl) (fun w hs => ⟨rfl, hs.frm⟩)
  · refine sy_skip rfl rfl rfl ?_
    refine sy_skip rfl rfl rfl ?_
    refine sy_skip rfl rfl rfl ?_
    refine sy_pickF rfl rfl rfl rfl ?_
    refine sy_assign rfl rfl rfl ?_
    refine sy_nil rfl ?_
    refine ny_next ?_
    refine cy_seq ?_
    refine cy_seq ?_
    refine cy_region ?_
    refine sy_assign rfl rfl rfl ?_
    refine sy_nil rfl ?_
    refine ny_next ?_
    refine cy_block ?_
    refine cy_loopK (ι := Nat) [0, 1, 5, 6] rfl (fun i => i ≤ s.size) (fun i => s.size - i) (fun i => [(8, .bool (fineB s i)), (9, .int .i64 (i : Int))]) (fun i => h18) (fun i => []) 0 [] (Nat.zero_le _) ⟨congrArg (fun b => some (Value.bool b)) (by rw [fine_zero]; unfold sizeB; rw [hg30]; rfl), rfl, trivial⟩ rfl rfl ?_
    rintro i hI
    refine cy_seq ?_
    refine cy_seq ?_
    refine cy_region ?_
    refine sy_move rfl rfl rfl ?_
    refine sy_move rfl rfl rfl ?_
    refine sy_len rfl (len_string Tryd.underlying9 _) rfl rfl ?_
    refine sy_cmp rfl rfl rfl rfl rfl ?_
    refine sy_nil rfl ?_
    refine ny_next ?_
    refine cy_cond rfl (fun hc38 => ?_) (fun hc38 => ?_)
    · have hlti : i < s.size := by have := of_decide_eq_true hc38; omega
      obtain ⟨e0, he0⟩ : ∃ e0, s.data.toList[i]? = some e0 := ⟨_, List.getElem?_eq_getElem (by show i < s.size; omega)⟩
      refine cy_skip ?_
      refine ny_next ?_
      refine cy_seq ?_
      refine cy_block ?_
      refine cy_region ?_
      refine sy_move rfl rfl rfl ?_
      refine sy_move rfl rfl rfl ?_
      refine sy_cond (d := 42) _ rfl rfl (fun hg42 => ?_) (fun hg42 => ?_)
      · refine sy_move rfl rfl rfl ?_
        refine sy_move rfl rfl rfl ?_
        refine sy_idxs (u := e0) Tryd.underlying9 rfl rfl (by omega) (ba_at he0) rfl rfl ?_
        refine sy_cmp rfl rfl rfl rfl rfl ?_
        refine sy_pickT rfl rfl rfl rfl ?_
        refine sy_move rfl rfl rfl ?_
        refine sy_cond (d := 48) _ rfl rfl (fun hg48 => ?_) (fun hg48 => ?_)
        · refine sy_move rfl rfl rfl ?_
          refine sy_move rfl rfl rfl ?_
          refine sy_idxs (u := e0) Tryd.underlying9 rfl rfl (by omega) (ba_at he0) rfl rfl ?_
          refine sy_cmp rfl rfl rfl rfl rfl ?_
          refine sy_pickT rfl rfl rfl rfl ?_
          refine sy_assign rfl rfl rfl ?_
          refine sy_nil rfl ?_
          refine ny_blockN ?_
          refine ny_next ?_
          refine cy_region ?_
          refine sy_move rfl rfl rfl ?_
          refine sy_addi (z := ((i + 1 : Nat) : Int)) rfl rfl (by omega) (by omega) (by omega) rfl rfl ?_
          refine sy_assign rfl rfl rfl ?_
          refine sy_nil rfl ?_
          refine ny_roundK [0, 1, 5, 6] (i + 1) [] (show i + 1 ≤ s.size by omega) (show s.size - (i + 1) < s.size - i by omega) rfl ⟨congrArg (fun b => some (Value.bool b)) (by first | (rw [fine_succ he0, hg42, hg48]; rfl) | (rw [fine_succ he0, hg42]; rfl)), rfl, trivial⟩ rfl rfl
        · refine sy_skip rfl rfl rfl ?_
          refine sy_skip rfl rfl rfl ?_
          refine sy_skip rfl rfl rfl ?_
          refine sy_skip rfl rfl rfl ?_
          refine sy_pickF rfl rfl rfl rfl ?_
          refine sy_assign rfl rfl rfl ?_
          refine sy_nil rfl ?_
          refine ny_blockN ?_
          refine ny_next ?_
          refine cy_region ?_
          refine sy_move rfl rfl rfl ?_
          refine sy_addi (z := ((i + 1 : Nat) : Int)) rfl rfl (by omega) (by omega) (by omega) rfl rfl ?_
          refine sy_assign rfl rfl rfl ?_
          refine sy_nil rfl ?_
          refine ny_roundK [0, 1, 5, 6] (i + 1) [] (show i + 1 ≤ s.size by omega) (show s.size - (i + 1) < s.size - i by omega) rfl ⟨congrArg (fun b => some (Value.bool b)) (by first | (rw [fine_succ he0, hg42, hg48]; rfl) | (rw [fine_succ he0, hg42]; rfl)), rfl, trivial⟩ rfl rfl
      · refine sy_skip rfl rfl rfl ?_
        refine sy_skip rfl rfl rfl ?_
        refine sy_skip rfl rfl rfl ?_
        refine sy_skip rfl rfl rfl ?_
        refine sy_pickF rfl rfl rfl rfl ?_
        refine sy_move rfl rfl rfl ?_
        refine sy_skip rfl rfl rfl ?_
        refine sy_skip rfl rfl rfl ?_
        refine sy_skip rfl rfl rfl ?_
        refine sy_skip rfl rfl rfl ?_
        refine sy_pickF rfl rfl rfl rfl ?_
        refine sy_assign rfl rfl rfl ?_
        refine sy_nil rfl ?_
        refine ny_blockN ?_
        refine ny_next ?_
        refine cy_region ?_
        refine sy_move rfl rfl rfl ?_
        refine sy_addi (z := ((i + 1 : Nat) : Int)) rfl rfl (by omega) (by omega) (by omega) rfl rfl ?_
        refine sy_assign rfl rfl rfl ?_
        refine sy_nil rfl ?_
        refine ny_roundK [0, 1, 5, 6] (i + 1) [] (show i + 1 ≤ s.size by omega) (show s.size - (i + 1) < s.size - i by omega) rfl ⟨congrArg (fun b => some (Value.bool b)) (by first | (rw [fine_succ he0, hg42, hg48]; rfl) | (rw [fine_succ he0, hg42]; rfl)), rfl, trivial⟩ rfl rfl
    · have hie : i = s.size := by have := of_decide_eq_false hc38; omega
      subst hie
      rw [fine_end, hnm]
      refine cy_exit ?_
      refine ny_thenE ?_
      refine ny_thenE ?_
      refine ny_blockX ?_
      refine ny_next ?_
      refine cy_seq ?_
      refine cy_region ?_
      refine sy_move rfl rfl rfl ?_
      refine sy_move rfl rfl rfl ?_
      refine sy_build rfl (fun w => bld_38_0 w) rfl rfl ?_
      refine sy_buildSlice rfl (fun w => bsl_25_1_0 w) rfl rfl (fun b58 hb58 hM58 => ?_) (by simp)
      refine sy_frz 0 rfl (by simp) (fun h58 hle58 hb58 => ?_)
      have hG58 : RowsAt h58 (some ⟨b58, 0, none⟩) 3 ([(⟨s, 0, 0⟩ : Gr)].map grC) := rows_blk (by decide) (grC_len [(⟨s, 0, 0⟩ : Gr)]) hb58
      replace ht := ht.le hle58
      replace hh := hh.le hle58
      replace hg := hle58 _ _ hg
      refine sy_callx call_20 rfl (gnewBad_c g 1 (ru 1 []) _ hg (by decide) (by decide) (ru_lt (by decide) _) (some ⟨b58, 0, none⟩) 1 1 [⟨s, 0, 0⟩] hG58 rfl (Nat.le_refl _) (by decide) ht (fun g hg => by simp only [List.mem_cons, List.not_mem_nil, or_false] at hg; subst hg; exact hs) h0) rfl rfl (fun x59 h59 hx59 hle59 => ?_)
      have ht := ht.le hle59
      have hh := hh.le hle59
      have hg := hle59 _ _ hg
      skip
      refine sy_move rfl rfl rfl ?_
      refine sy_extract rfl rfl rfl rfl ?_
      refine sy_extract rfl rfl rfl rfl ?_
      refine sy_assign rfl rfl rfl ?_
      refine sy_assign rfl rfl rfl ?_
      refine sy_nil rfl ?_
      refine ny_next ?_
      refine cy_seq ?_
      refine cy_region ?_
      refine sy_assign rfl rfl rfl ?_
      refine sy_nil rfl ?_
      refine ny_next ?_
      refine cy_seq ?_
      refine cy_seq ?_
      refine cy_region ?_
      refine sy_assign rfl rfl rfl ?_
      refine sy_nil rfl ?_
      refine ny_next ?_
      refine cy_block ?_
      refine cy_nilRow 38 3 ?_
      refine cy_loopK (ι := Nat × Value) [1, 5, 6, 8, 11] rfl (fun z => z.1 ≤ c.toNat) (fun z => c.toNat - z.1) (fun z => [(12, z.2), (13, .int .i64 (z.1 : Int))]) (fun z => h59) (fun z => [Res.row z.2 38 3 z.1 (((List.replicate z.1 ga).map grC).flatten)]) (0, .slice none 0 0) [0] (Nat.zero_le _) ⟨rfl, rfl, trivial⟩ rfl rfl ?_
      rintro ⟨i, v12⟩ hI
      simp only at hI ⊢
      refine cy_seq ?_
      refine cy_seq ?_
      refine cy_region ?_
      refine sy_move rfl rfl rfl ?_
      refine sy_move rfl rfl rfl ?_
      refine sy_convi Tryd.underlying5 Tryd.underlying3 rfl (by omega) (by omega) rfl rfl ?_
      refine sy_cmp rfl rfl rfl rfl rfl ?_
      refine sy_nil rfl ?_
      refine ny_next ?_
      refine cy_cond rfl (fun hc65 => ?_) (fun hc65 => ?_)
      · have hlti : i < c.toNat := by have := of_decide_eq_true hc65; omega
        refine cy_skip ?_
        refine ny_next ?_
        refine cy_seq ?_
        refine cy_block ?_
        refine cy_region ?_
        refine sy_move rfl rfl rfl ?_
        refine sy_build rfl (fun w => bld_38_0 w) rfl rfl ?_
        refine sy_buildSlice rfl (fun w => bsl_25_1_0 w) rfl rfl (fun b70 hb70 hM70 => ?_) (by simp)
        refine sy_append 1 0 row_25 (by decide) rfl rfl rfl rfl rfl rfl (by omega) (by simp only [maxLen]; omega) rfl rfl (fun v71 => ?_)
        refine sy_assign rfl rfl rfl ?_
        refine sy_nil rfl ?_
        refine ny_blockN ?_
        refine ny_next ?_
        refine cy_region ?_
        refine sy_move rfl rfl rfl ?_
        refine sy_addi (z := ((i + 1 : Nat) : Int)) rfl rfl (by omega) (by omega) (by omega) rfl rfl ?_
        refine sy_assign rfl rfl rfl ?_
        refine sy_nil rfl ?_
        refine ny_roundK [1, 5, 6, 8, 11] (i + 1, v71) [0] (show i + 1 ≤ c.toNat by omega) (show c.toNat - (i + 1) < c.toNat - i by omega) rfl ⟨rfl, rfl, trivial⟩ rfl (by rw [many_snoc]; rfl)
      · have hie : i = c.toNat := by have := of_decide_eq_false hc65; omega
        subst hie
        refine cy_exit ?_
        refine ny_thenE ?_
        refine ny_thenE ?_
        refine ny_blockX ?_
        refine ny_next ?_
        refine cy_seq ?_
        refine cy_frzRow 0 rfl (fun _ _ => by simp) (fun A12 c12 h12 hv12 hlc12 hcm12 _ hle12 hcell12 => ?_)
        subst hv12
        have hr12 : RowsAt h12 A12 3 ((List.replicate c.toNat ga).map grC) := rows_row (by decide) (grC_len _) hcell12
        replace ht := ht.le hle12
        replace hh := hh.le hle12
        replace hg := hle12 _ _ hg
        refine cy_region ?_
        refine sy_move rfl rfl rfl ?_
        refine sy_move rfl rfl rfl ?_
        refine sy_callx call_20 rfl (gnewGood_c g 1 (ru 1 []) _ hg (by decide) (by decide) (ru_lt (by decide) _) A12 _ c12 (List.replicate c.toNat ga) hr12 (List.length_replicate) hlc12 (by omega) ht many_ok h1) rfl rfl (fun x75 h75 hx75 hle75 => ?_)
        have ht := ht.le hle75
        have hh := hh.le hle75
        have hg := hle75 _ _ hg
        skip
        refine sy_move rfl rfl rfl ?_
        refine sy_extract rfl rfl rfl rfl ?_
        refine sy_extract rfl rfl rfl rfl ?_
        refine sy_assign rfl rfl rfl ?_
        refine sy_assign rfl rfl rfl ?_
        refine sy_nil rfl ?_
        refine ny_next ?_
        refine cy_seq ?_
        refine cy_region ?_
        refine sy_move rfl rfl rfl ?_
        refine sy_move rfl rfl rfl ?_
        refine sy_setT (d := 79) rfl rfl (by first | rfl | decide | simp) ?_
        refine sy_move rfl rfl rfl ?_
        refine sy_eqn Tryd.underlying34 rfl rfl rfl rfl rfl ?_
        refine sy_setF (d := 81) rfl rfl rfl ?_
        refine sy_move rfl rfl rfl ?_
        refine sy_setF (d := 82) rfl rfl rfl ?_
        refine sy_eqb Tryd.underlying4 rfl rfl rfl rfl ?_
        refine sy_pickT rfl rfl rfl rfl ?_
        refine sy_move rfl rfl rfl ?_
        refine sy_setT (d := 85) rfl rfl (by first | rfl | decide | simp) ?_
        refine sy_move rfl rfl rfl ?_
        refine sy_setF (d := 86) rfl rfl rfl ?_
        refine sy_move rfl rfl rfl ?_
        refine sy_move rfl rfl rfl ?_
        refine sy_call rfl call_29 rfl (codeR_c _ _ _ hh) rfl rfl ?_
        refine sy_cmp rfl rfl rfl rfl rfl ?_
        refine sy_setT (d := 90) rfl rfl (by rw [h00]; rfl) ?_
        refine sy_pickF rfl rfl rfl rfl ?_
        refine sy_pickT rfl rfl rfl rfl ?_
        refine sy_move rfl rfl rfl ?_
        refine sy_move rfl rfl rfl ?_
        refine sy_eqn Tryd.underlying34 rfl rfl rfl rfl rfl ?_
        refine sy_setT (d := 95) rfl rfl rfl ?_
        refine sy_move rfl rfl rfl ?_
        refine sy_cmp rfl rfl rfl rfl rfl ?_
        refine sy_setT (d := 97) rfl rfl (by simp; omega) ?_
        refine sy_eqb Tryd.underlying4 rfl rfl rfl rfl ?_
        refine sy_pickT rfl rfl rfl rfl ?_
        refine sy_move rfl rfl rfl ?_
        refine sy_setT (d := 100) rfl rfl (by first | rfl | decide | simp) ?_
        refine sy_move rfl rfl rfl ?_
        refine sy_eqn Tryd.underlying34 rfl rfl rfl rfl rfl ?_
        refine sy_setT (d := 102) rfl rfl rfl ?_
        refine sy_move rfl rfl rfl ?_
        refine sy_skip rfl rfl rfl ?_
        refine sy_skip rfl rfl rfl ?_
        refine sy_skip rfl rfl rfl ?_
        refine sy_pickT rfl rfl rfl rfl ?_
        refine sy_pickT rfl rfl rfl rfl ?_
        refine sy_assign rfl rfl rfl ?_
        refine sy_nil rfl ?_
        refine ny_next ?_
        refine cy_ret ?_
        exact ny_finR (res1 rfl rfl) (fun w hs => ⟨rfl, hs.frm⟩)
set_option maxRecDepth 100000 in
theorem names00_c (s : ByteArray) (c : UInt8) (h : Hp) (ht : Tab10 h) (hh : Hdl h) (hs : s.size ≤ 140737488355328) (hnm : nameB s = false) (hc : ¬ c.toNat ≤ 100) : C0 Tryd.prog 8 [.string s, .int .u8 (c.toNat : Int)] h (.bool true) := by
  have hct := c.toNat_lt
  have h00 := names_bad hnm
  have h0 : newI 1 (ru 1 []) [⟨s, 0, 0⟩] ≠ 0 := by rw [h00]; decide
  have h10 := many_full hc
  have h1 : newI 1 (ru 1 []) (List.replicate c.toNat ga) ≠ 0 := by rw [h10]; decide
  refine enter0 Tryd.func8 rfl rfl rfl (fun w => ?_)
  refine cy_seq ?_
  refine cy_region ?_
  refine sy_assign rfl rfl rfl ?_
  refine sy_nil rfl ?_
  refine ny_next ?_
  refine cy_seq ?_
  refine cy_region ?_
  refine sy_call rfl call_17 rfl (shown02_c _ ht) rfl rfl ?_
  refine sy_assign rfl rfl rfl ?_
  refine sy_nil rfl ?_
  refine ny_next ?_
  refine cy_seq ?_
  refine cy_region ?_
  refine sy_callx call_18 rfl (newGood_c 1 none 0 0 [] _ one_fine pairs_none rfl (by decide)) rfl rfl (fun x18 h18 hx18 hle18 => ?_)
  have ht := ht.le hle18
  have hh := hh.le hle18
  revert hx18
  revert x18
  intro g hg
  refine sy_move rfl rfl rfl ?_
  refine sy_extract rfl rfl rfl rfl ?_
  refine sy_extract rfl rfl rfl rfl ?_
  refine sy_assign rfl rfl rfl ?_
  refine sy_assign rfl rfl rfl ?_
  refine sy_nil rfl ?_
  refine ny_next ?_
  refine cy_seq ?_
  refine cy_seq ?_
  refine cy_region ?_
  refine sy_move rfl rfl rfl ?_
  refine sy_cmp rfl rfl rfl rfl rfl ?_
  refine sy_setF (d := 22) rfl rfl rfl ?_
  refine sy_move rfl rfl rfl ?_
  refine sy_move rfl rfl rfl ?_
  refine sy_eqp Tryd.underlying27 rfl rfl rfl rfl rfl ?_
  refine sy_setF (d := 25) rfl rfl rfl ?_
  refine sy_pickF rfl rfl rfl rfl ?_
  refine sy_setF (d := 26) rfl rfl rfl ?_
  refine sy_nil rfl ?_
  refine ny_next ?_
  refine cy_condF rfl ?_
  refine cy_skip ?_
  refine ny_next ?_
  refine cy_seq ?_
  refine cy_region ?_
  refine sy_move rfl rfl rfl ?_
  refine sy_len rfl (len_string Tryd.underlying9 _) rfl rfl ?_
  refine sy_cmp rfl rfl rfl rfl rfl ?_
  refine sy_move rfl rfl rfl ?_
  refine sy_cond (d := 30) _ rfl rfl (fun hg30 => ?_) (fun hg30 => ?_)
  · refine sy_move rfl rfl rfl ?_
    refine sy_len rfl (len_string Tryd.underlying9 _) rfl rfl ?_
    refine sy_cmp rfl rfl rfl rfl rfl ?_
    refine sy_pickT rfl rfl rfl rfl ?_
    refine sy_assign rfl rfl rfl ?_
    refine sy_nil rfl ?_
    refine ny_next ?_
    refine cy_seq ?_
    refine cy_seq ?_
    refine cy_region ?_
    refine sy_assign rfl rfl rfl ?_
    refine sy_nil rfl ?_
    refine ny_next ?_
    refine cy_block ?_
    refine cy_loopK (ι := Nat) [0, 1, 5, 6] rfl (fun i => i ≤ s.size) (fun i => s.size - i) (fun i => [(8, .bool (fineB s i)), (9, .int .i64 (i : Int))]) (fun i => h18) (fun i => []) 0 [] (Nat.zero_le _) ⟨congrArg (fun b => some (Value.bool b)) (by rw [fine_zero]; unfold sizeB; rw [hg30]; rfl), rfl, trivial⟩ rfl rfl ?_
    rintro i hI
    refine cy_seq ?_
    refine cy_seq ?_
    refine cy_region ?_
    refine sy_move rfl rfl rfl ?_
    refine sy_move rfl rfl rfl ?_
    refine sy_len rfl (len_string Tryd.underlying9 _) rfl rfl ?_
    refine sy_cmp rfl rfl rfl rfl rfl ?_
    refine sy_nil rfl ?_
    refine ny_next ?_
    refine cy_cond rfl (fun hc38 => ?_) (fun hc38 => ?_)
    · have hlti : i < s.size := by have := of_decide_eq_true hc38; omega
      obtain ⟨e0, he0⟩ : ∃ e0, s.data.toList[i]? = some e0 := ⟨_, List.getElem?_eq_getElem (by show i < s.size; omega)⟩
      refine cy_skip ?_
      refine ny_next ?_
      refine cy_seq ?_
      refine cy_block ?_
      refine cy_region ?_
      refine sy_move rfl rfl rfl ?_
      refine sy_move rfl rfl rfl ?_
      refine sy_cond (d := 42) _ rfl rfl (fun hg42 => ?_) (fun hg42 => ?_)
      · refine sy_move rfl rfl rfl ?_
        refine sy_move rfl rfl rfl ?_
        refine sy_idxs (u := e0) Tryd.underlying9 rfl rfl (by omega) (ba_at he0) rfl rfl ?_
        refine sy_cmp rfl rfl rfl rfl rfl ?_
        refine sy_pickT rfl rfl rfl rfl ?_
        refine sy_move rfl rfl rfl ?_
        refine sy_cond (d := 48) _ rfl rfl (fun hg48 => ?_) (fun hg48 => ?_)
        · refine sy_move rfl rfl rfl ?_
          refine sy_move rfl rfl rfl ?_
          refine sy_idxs (u := e0) Tryd.underlying9 rfl rfl (by omega) (ba_at he0) rfl rfl ?_
          refine sy_cmp rfl rfl rfl rfl rfl ?_
          refine sy_pickT rfl rfl rfl rfl ?_
          refine sy_assign rfl rfl rfl ?_
          refine sy_nil rfl ?_
          refine ny_blockN ?_
          refine ny_next ?_
          refine cy_region ?_
          refine sy_move rfl rfl rfl ?_
          refine sy_addi (z := ((i + 1 : Nat) : Int)) rfl rfl (by omega) (by omega) (by omega) rfl rfl ?_
          refine sy_assign rfl rfl rfl ?_
          refine sy_nil rfl ?_
          refine ny_roundK [0, 1, 5, 6] (i + 1) [] (show i + 1 ≤ s.size by omega) (show s.size - (i + 1) < s.size - i by omega) rfl ⟨congrArg (fun b => some (Value.bool b)) (by first | (rw [fine_succ he0, hg42, hg48]; rfl) | (rw [fine_succ he0, hg42]; rfl)), rfl, trivial⟩ rfl rfl
        · refine sy_skip rfl rfl rfl ?_
          refine sy_skip rfl rfl rfl ?_
          refine sy_skip rfl rfl rfl ?_
          refine sy_skip rfl rfl rfl ?_
          refine sy_pickF rfl rfl rfl rfl ?_
          refine sy_assign rfl rfl rfl ?_
          refine sy_nil rfl ?_
          refine ny_blockN ?_
          refine ny_next ?_
          refine cy_region ?_
          refine sy_move rfl rfl rfl ?_
          refine sy_addi (z := ((i + 1 : Nat) : Int)) rfl rfl (by omega) (by omega) (by omega) rfl rfl ?_
          refine sy_assign rfl rfl rfl ?_
          refine sy_nil rfl ?_
          refine ny_roundK [0, 1, 5, 6] (i + 1) [] (show i + 1 ≤ s.size by omega) (show s.size - (i + 1) < s.size - i by omega) rfl ⟨congrArg (fun b => some (Value.bool b)) (by first | (rw [fine_succ he0, hg42, hg48]; rfl) | (rw [fine_succ he0, hg42]; rfl)), rfl, trivial⟩ rfl rfl
      · refine sy_skip rfl rfl rfl ?_
        refine sy_skip rfl rfl rfl ?_
        refine sy_skip rfl rfl rfl ?_
        refine sy_skip rfl rfl rfl ?_
        refine sy_pickF rfl rfl rfl rfl ?_
        refine sy_move rfl rfl rfl ?_
        refine sy_skip rfl rfl rfl ?_
        refine sy_skip rfl rfl rfl ?_
        refine sy_skip rfl rfl rfl ?_
        refine sy_skip rfl rfl rfl ?_
        refine sy_pickF rfl rfl rfl rfl ?_
        refine sy_assign rfl rfl rfl ?_
        refine sy_nil rfl ?_
        refine ny_blockN ?_
        refine ny_next ?_
        refine cy_region ?_
        refine sy_move rfl rfl rfl ?_
        refine sy_addi (z := ((i + 1 : Nat) : Int)) rfl rfl (by omega) (by omega) (by omega) rfl rfl ?_
        refine sy_assign rfl rfl rfl ?_
        refine sy_nil rfl ?_
        refine ny_roundK [0, 1, 5, 6] (i + 1) [] (show i + 1 ≤ s.size by omega) (show s.size - (i + 1) < s.size - i by omega) rfl ⟨congrArg (fun b => some (Value.bool b)) (by first | (rw [fine_succ he0, hg42, hg48]; rfl) | (rw [fine_succ he0, hg42]; rfl)), rfl, trivial⟩ rfl rfl
    · have hie : i = s.size := by have := of_decide_eq_false hc38; omega
      subst hie
      rw [fine_end, hnm]
      refine cy_exit ?_
      refine ny_thenE ?_
      refine ny_thenE ?_
      refine ny_blockX ?_
      refine ny_next ?_
      refine cy_seq ?_
      refine cy_region ?_
      refine sy_move rfl rfl rfl ?_
      refine sy_move rfl rfl rfl ?_
      refine sy_build rfl (fun w => bld_38_0 w) rfl rfl ?_
      refine sy_buildSlice rfl (fun w => bsl_25_1_0 w) rfl rfl (fun b58 hb58 hM58 => ?_) (by simp)
      refine sy_frz 0 rfl (by simp) (fun h58 hle58 hb58 => ?_)
      have hG58 : RowsAt h58 (some ⟨b58, 0, none⟩) 3 ([(⟨s, 0, 0⟩ : Gr)].map grC) := rows_blk (by decide) (grC_len [(⟨s, 0, 0⟩ : Gr)]) hb58
      replace ht := ht.le hle58
      replace hh := hh.le hle58
      replace hg := hle58 _ _ hg
      refine sy_callx call_20 rfl (gnewBad_c g 1 (ru 1 []) _ hg (by decide) (by decide) (ru_lt (by decide) _) (some ⟨b58, 0, none⟩) 1 1 [⟨s, 0, 0⟩] hG58 rfl (Nat.le_refl _) (by decide) ht (fun g hg => by simp only [List.mem_cons, List.not_mem_nil, or_false] at hg; subst hg; exact hs) h0) rfl rfl (fun x59 h59 hx59 hle59 => ?_)
      have ht := ht.le hle59
      have hh := hh.le hle59
      have hg := hle59 _ _ hg
      skip
      refine sy_move rfl rfl rfl ?_
      refine sy_extract rfl rfl rfl rfl ?_
      refine sy_extract rfl rfl rfl rfl ?_
      refine sy_assign rfl rfl rfl ?_
      refine sy_assign rfl rfl rfl ?_
      refine sy_nil rfl ?_
      refine ny_next ?_
      refine cy_seq ?_
      refine cy_region ?_
      refine sy_assign rfl rfl rfl ?_
      refine sy_nil rfl ?_
      refine ny_next ?_
      refine cy_seq ?_
      refine cy_seq ?_
      refine cy_region ?_
      refine sy_assign rfl rfl rfl ?_
      refine sy_nil rfl ?_
      refine ny_next ?_
      refine cy_block ?_
      refine cy_nilRow 38 3 ?_
      refine cy_loopK (ι := Nat × Value) [1, 5, 6, 8, 11] rfl (fun z => z.1 ≤ c.toNat) (fun z => c.toNat - z.1) (fun z => [(12, z.2), (13, .int .i64 (z.1 : Int))]) (fun z => h59) (fun z => [Res.row z.2 38 3 z.1 (((List.replicate z.1 ga).map grC).flatten)]) (0, .slice none 0 0) [0] (Nat.zero_le _) ⟨rfl, rfl, trivial⟩ rfl rfl ?_
      rintro ⟨i, v12⟩ hI
      simp only at hI ⊢
      refine cy_seq ?_
      refine cy_seq ?_
      refine cy_region ?_
      refine sy_move rfl rfl rfl ?_
      refine sy_move rfl rfl rfl ?_
      refine sy_convi Tryd.underlying5 Tryd.underlying3 rfl (by omega) (by omega) rfl rfl ?_
      refine sy_cmp rfl rfl rfl rfl rfl ?_
      refine sy_nil rfl ?_
      refine ny_next ?_
      refine cy_cond rfl (fun hc65 => ?_) (fun hc65 => ?_)
      · have hlti : i < c.toNat := by have := of_decide_eq_true hc65; omega
        refine cy_skip ?_
        refine ny_next ?_
        refine cy_seq ?_
        refine cy_block ?_
        refine cy_region ?_
        refine sy_move rfl rfl rfl ?_
        refine sy_build rfl (fun w => bld_38_0 w) rfl rfl ?_
        refine sy_buildSlice rfl (fun w => bsl_25_1_0 w) rfl rfl (fun b70 hb70 hM70 => ?_) (by simp)
        refine sy_append 1 0 row_25 (by decide) rfl rfl rfl rfl rfl rfl (by omega) (by simp only [maxLen]; omega) rfl rfl (fun v71 => ?_)
        refine sy_assign rfl rfl rfl ?_
        refine sy_nil rfl ?_
        refine ny_blockN ?_
        refine ny_next ?_
        refine cy_region ?_
        refine sy_move rfl rfl rfl ?_
        refine sy_addi (z := ((i + 1 : Nat) : Int)) rfl rfl (by omega) (by omega) (by omega) rfl rfl ?_
        refine sy_assign rfl rfl rfl ?_
        refine sy_nil rfl ?_
        refine ny_roundK [1, 5, 6, 8, 11] (i + 1, v71) [0] (show i + 1 ≤ c.toNat by omega) (show c.toNat - (i + 1) < c.toNat - i by omega) rfl ⟨rfl, rfl, trivial⟩ rfl (by rw [many_snoc]; rfl)
      · have hie : i = c.toNat := by have := of_decide_eq_false hc65; omega
        subst hie
        refine cy_exit ?_
        refine ny_thenE ?_
        refine ny_thenE ?_
        refine ny_blockX ?_
        refine ny_next ?_
        refine cy_seq ?_
        refine cy_frzRow 0 rfl (fun _ _ => by simp) (fun A12 c12 h12 hv12 hlc12 hcm12 _ hle12 hcell12 => ?_)
        subst hv12
        have hr12 : RowsAt h12 A12 3 ((List.replicate c.toNat ga).map grC) := rows_row (by decide) (grC_len _) hcell12
        replace ht := ht.le hle12
        replace hh := hh.le hle12
        replace hg := hle12 _ _ hg
        refine cy_region ?_
        refine sy_move rfl rfl rfl ?_
        refine sy_move rfl rfl rfl ?_
        refine sy_callx call_20 rfl (gnewBad_c g 1 (ru 1 []) _ hg (by decide) (by decide) (ru_lt (by decide) _) A12 _ c12 (List.replicate c.toNat ga) hr12 (List.length_replicate) hlc12 (by omega) ht many_ok h1) rfl rfl (fun x75 h75 hx75 hle75 => ?_)
        have ht := ht.le hle75
        have hh := hh.le hle75
        have hg := hle75 _ _ hg
        skip
        refine sy_move rfl rfl rfl ?_
        refine sy_extract rfl rfl rfl rfl ?_
        refine sy_extract rfl rfl rfl rfl ?_
        refine sy_assign rfl rfl rfl ?_
        refine sy_assign rfl rfl rfl ?_
        refine sy_nil rfl ?_
        refine ny_next ?_
        refine cy_seq ?_
        refine cy_region ?_
        refine sy_move rfl rfl rfl ?_
        refine sy_move rfl rfl rfl ?_
        refine sy_setT (d := 79) rfl rfl (by first | rfl | decide | simp) ?_
        refine sy_move rfl rfl rfl ?_
        refine sy_eqn Tryd.underlying34 rfl rfl rfl rfl rfl ?_
        refine sy_setF (d := 81) rfl rfl rfl ?_
        refine sy_move rfl rfl rfl ?_
        refine sy_setF (d := 82) rfl rfl rfl ?_
        refine sy_eqb Tryd.underlying4 rfl rfl rfl rfl ?_
        refine sy_pickT rfl rfl rfl rfl ?_
        refine sy_move rfl rfl rfl ?_
        refine sy_setT (d := 85) rfl rfl (by first | rfl | decide | simp) ?_
        refine sy_move rfl rfl rfl ?_
        refine sy_setF (d := 86) rfl rfl rfl ?_
        refine sy_move rfl rfl rfl ?_
        refine sy_move rfl rfl rfl ?_
        refine sy_call rfl call_29 rfl (codeR_c _ _ _ hh) rfl rfl ?_
        refine sy_cmp rfl rfl rfl rfl rfl ?_
        refine sy_setT (d := 90) rfl rfl (by rw [h00]; rfl) ?_
        refine sy_pickF rfl rfl rfl rfl ?_
        refine sy_pickT rfl rfl rfl rfl ?_
        refine sy_move rfl rfl rfl ?_
        refine sy_move rfl rfl rfl ?_
        refine sy_eqn Tryd.underlying34 rfl rfl rfl rfl rfl ?_
        refine sy_setF (d := 95) rfl rfl rfl ?_
        refine sy_move rfl rfl rfl ?_
        refine sy_cmp rfl rfl rfl rfl rfl ?_
        refine sy_setF (d := 97) rfl rfl (by simp; omega) ?_
        refine sy_eqb Tryd.underlying4 rfl rfl rfl rfl ?_
        refine sy_pickT rfl rfl rfl rfl ?_
        refine sy_move rfl rfl rfl ?_
        refine sy_setT (d := 100) rfl rfl (by first | rfl | decide | simp) ?_
        refine sy_move rfl rfl rfl ?_
        refine sy_eqn Tryd.underlying34 rfl rfl rfl rfl rfl ?_
        refine sy_setF (d := 102) rfl rfl rfl ?_
        refine sy_move rfl rfl rfl ?_
        refine sy_move rfl rfl rfl ?_
        refine sy_call rfl call_29 rfl (codeR_c _ _ _ hh) rfl rfl ?_
        refine sy_cmp rfl rfl rfl rfl rfl ?_
        refine sy_setT (d := 106) rfl rfl (by rw [h10]; rfl) ?_
        refine sy_pickF rfl rfl rfl rfl ?_
        refine sy_pickT rfl rfl rfl rfl ?_
        refine sy_assign rfl rfl rfl ?_
        refine sy_nil rfl ?_
        refine ny_next ?_
        refine cy_ret ?_
        exact ny_finR (res1 rfl rfl) (fun w hs => ⟨rfl, hs.frm⟩)
  · refine sy_skip rfl rfl rfl ?_
    refine sy_skip rfl rfl rfl ?_
    refine sy_skip rfl rfl rfl ?_
    refine sy_pickF rfl rfl rfl rfl ?_
    refine sy_assign rfl rfl rfl ?_
    refine sy_nil rfl ?_
    refine ny_next ?_
    refine cy_seq ?_
    refine cy_seq ?_
    refine cy_region ?_
    refine sy_assign rfl rfl rfl ?_
    refine sy_nil rfl ?_
    refine ny_next ?_
    refine cy_block ?_
    refine cy_loopK (ι := Nat) [0, 1, 5, 6] rfl (fun i => i ≤ s.size) (fun i => s.size - i) (fun i => [(8, .bool (fineB s i)), (9, .int .i64 (i : Int))]) (fun i => h18) (fun i => []) 0 [] (Nat.zero_le _) ⟨congrArg (fun b => some (Value.bool b)) (by rw [fine_zero]; unfold sizeB; rw [hg30]; rfl), rfl, trivial⟩ rfl rfl ?_
    rintro i hI
    refine cy_seq ?_
    refine cy_seq ?_
    refine cy_region ?_
    refine sy_move rfl rfl rfl ?_
    refine sy_move rfl rfl rfl ?_
    refine sy_len rfl (len_string Tryd.underlying9 _) rfl rfl ?_
    refine sy_cmp rfl rfl rfl rfl rfl ?_
    refine sy_nil rfl ?_
    refine ny_next ?_
    refine cy_cond rfl (fun hc38 => ?_) (fun hc38 => ?_)
    · have hlti : i < s.size := by have := of_decide_eq_true hc38; omega
      obtain ⟨e0, he0⟩ : ∃ e0, s.data.toList[i]? = some e0 := ⟨_, List.getElem?_eq_getElem (by show i < s.size; omega)⟩
      refine cy_skip ?_
      refine ny_next ?_
      refine cy_seq ?_
      refine cy_block ?_
      refine cy_region ?_
      refine sy_move rfl rfl rfl ?_
      refine sy_move rfl rfl rfl ?_
      refine sy_cond (d := 42) _ rfl rfl (fun hg42 => ?_) (fun hg42 => ?_)
      · refine sy_move rfl rfl rfl ?_
        refine sy_move rfl rfl rfl ?_
        refine sy_idxs (u := e0) Tryd.underlying9 rfl rfl (by omega) (ba_at he0) rfl rfl ?_
        refine sy_cmp rfl rfl rfl rfl rfl ?_
        refine sy_pickT rfl rfl rfl rfl ?_
        refine sy_move rfl rfl rfl ?_
        refine sy_cond (d := 48) _ rfl rfl (fun hg48 => ?_) (fun hg48 => ?_)
        · refine sy_move rfl rfl rfl ?_
          refine sy_move rfl rfl rfl ?_
          refine sy_idxs (u := e0) Tryd.underlying9 rfl rfl (by omega) (ba_at he0) rfl rfl ?_
          refine sy_cmp rfl rfl rfl rfl rfl ?_
          refine sy_pickT rfl rfl rfl rfl ?_
          refine sy_assign rfl rfl rfl ?_
          refine sy_nil rfl ?_
          refine ny_blockN ?_
          refine ny_next ?_
          refine cy_region ?_
          refine sy_move rfl rfl rfl ?_
          refine sy_addi (z := ((i + 1 : Nat) : Int)) rfl rfl (by omega) (by omega) (by omega) rfl rfl ?_
          refine sy_assign rfl rfl rfl ?_
          refine sy_nil rfl ?_
          refine ny_roundK [0, 1, 5, 6] (i + 1) [] (show i + 1 ≤ s.size by omega) (show s.size - (i + 1) < s.size - i by omega) rfl ⟨congrArg (fun b => some (Value.bool b)) (by first | (rw [fine_succ he0, hg42, hg48]; rfl) | (rw [fine_succ he0, hg42]; rfl)), rfl, trivial⟩ rfl rfl
        · refine sy_skip rfl rfl rfl ?_
          refine sy_skip rfl rfl rfl ?_
          refine sy_skip rfl rfl rfl ?_
          refine sy_skip rfl rfl rfl ?_
          refine sy_pickF rfl rfl rfl rfl ?_
          refine sy_assign rfl rfl rfl ?_
          refine sy_nil rfl ?_
          refine ny_blockN ?_
          refine ny_next ?_
          refine cy_region ?_
          refine sy_move rfl rfl rfl ?_
          refine sy_addi (z := ((i + 1 : Nat) : Int)) rfl rfl (by omega) (by omega) (by omega) rfl rfl ?_
          refine sy_assign rfl rfl rfl ?_
          refine sy_nil rfl ?_
          refine ny_roundK [0, 1, 5, 6] (i + 1) [] (show i + 1 ≤ s.size by omega) (show s.size - (i + 1) < s.size - i by omega) rfl ⟨congrArg (fun b => some (Value.bool b)) (by first | (rw [fine_succ he0, hg42, hg48]; rfl) | (rw [fine_succ he0, hg42]; rfl)), rfl, trivial⟩ rfl rfl
      · refine sy_skip rfl rfl rfl ?_
        refine sy_skip rfl rfl rfl ?_
        refine sy_skip rfl rfl rfl ?_
        refine sy_skip rfl rfl rfl ?_
        refine sy_pickF rfl rfl rfl rfl ?_
        refine sy_move rfl rfl rfl ?_
        refine sy_skip rfl rfl rfl ?_
        refine sy_skip rfl rfl rfl ?_
        refine sy_skip rfl rfl rfl ?_
        refine sy_skip rfl rfl rfl ?_
        refine sy_pickF rfl rfl rfl rfl ?_
        refine sy_assign rfl rfl rfl ?_
        refine sy_nil rfl ?_
        refine ny_blockN ?_
        refine ny_next ?_
        refine cy_region ?_
        refine sy_move rfl rfl rfl ?_
        refine sy_addi (z := ((i + 1 : Nat) : Int)) rfl rfl (by omega) (by omega) (by omega) rfl rfl ?_
        refine sy_assign rfl rfl rfl ?_
        refine sy_nil rfl ?_
        refine ny_roundK [0, 1, 5, 6] (i + 1) [] (show i + 1 ≤ s.size by omega) (show s.size - (i + 1) < s.size - i by omega) rfl ⟨congrArg (fun b => some (Value.bool b)) (by first | (rw [fine_succ he0, hg42, hg48]; rfl) | (rw [fine_succ he0, hg42]; rfl)), rfl, trivial⟩ rfl rfl
    · have hie : i = s.size := by have := of_decide_eq_false hc38; omega
      subst hie
      rw [fine_end, hnm]
      refine cy_exit ?_
      refine ny_thenE ?_
      refine ny_thenE ?_
      refine ny_blockX ?_
      refine ny_next ?_
      refine cy_seq ?_
      refine cy_region ?_
      refine sy_move rfl rfl rfl ?_
      refine sy_move rfl rfl rfl ?_
      refine sy_build rfl (fun w => bld_38_0 w) rfl rfl ?_
      refine sy_buildSlice rfl (fun w => bsl_25_1_0 w) rfl rfl (fun b58 hb58 hM58 => ?_) (by simp)
      refine sy_frz 0 rfl (by simp) (fun h58 hle58 hb58 => ?_)
      have hG58 : RowsAt h58 (some ⟨b58, 0, none⟩) 3 ([(⟨s, 0, 0⟩ : Gr)].map grC) := rows_blk (by decide) (grC_len [(⟨s, 0, 0⟩ : Gr)]) hb58
      replace ht := ht.le hle58
      replace hh := hh.le hle58
      replace hg := hle58 _ _ hg
      refine sy_callx call_20 rfl (gnewBad_c g 1 (ru 1 []) _ hg (by decide) (by decide) (ru_lt (by decide) _) (some ⟨b58, 0, none⟩) 1 1 [⟨s, 0, 0⟩] hG58 rfl (Nat.le_refl _) (by decide) ht (fun g hg => by simp only [List.mem_cons, List.not_mem_nil, or_false] at hg; subst hg; exact hs) h0) rfl rfl (fun x59 h59 hx59 hle59 => ?_)
      have ht := ht.le hle59
      have hh := hh.le hle59
      have hg := hle59 _ _ hg
      skip
      refine sy_move rfl rfl rfl ?_
      refine sy_extract rfl rfl rfl rfl ?_
      refine sy_extract rfl rfl rfl rfl ?_
      refine sy_assign rfl rfl rfl ?_
      refine sy_assign rfl rfl rfl ?_
      refine sy_nil rfl ?_
      refine ny_next ?_
      refine cy_seq ?_
      refine cy_region ?_
      refine sy_assign rfl rfl rfl ?_
      refine sy_nil rfl ?_
      refine ny_next ?_
      refine cy_seq ?_
      refine cy_seq ?_
      refine cy_region ?_
      refine sy_assign rfl rfl rfl ?_
      refine sy_nil rfl ?_
      refine ny_next ?_
      refine cy_block ?_
      refine cy_nilRow 38 3 ?_
      refine cy_loopK (ι := Nat × Value) [1, 5, 6, 8, 11] rfl (fun z => z.1 ≤ c.toNat) (fun z => c.toNat - z.1) (fun z => [(12, z.2), (13, .int .i64 (z.1 : Int))]) (fun z => h59) (fun z => [Res.row z.2 38 3 z.1 (((List.replicate z.1 ga).map grC).flatten)]) (0, .slice none 0 0) [0] (Nat.zero_le _) ⟨rfl, rfl, trivial⟩ rfl rfl ?_
      rintro ⟨i, v12⟩ hI
      simp only at hI ⊢
      refine cy_seq ?_
      refine cy_seq ?_
      refine cy_region ?_
      refine sy_move rfl rfl rfl ?_
      refine sy_move rfl rfl rfl ?_
      refine sy_convi Tryd.underlying5 Tryd.underlying3 rfl (by omega) (by omega) rfl rfl ?_
      refine sy_cmp rfl rfl rfl rfl rfl ?_
      refine sy_nil rfl ?_
      refine ny_next ?_
      refine cy_cond rfl (fun hc65 => ?_) (fun hc65 => ?_)
      · have hlti : i < c.toNat := by have := of_decide_eq_true hc65; omega
        refine cy_skip ?_
        refine ny_next ?_
        refine cy_seq ?_
        refine cy_block ?_
        refine cy_region ?_
        refine sy_move rfl rfl rfl ?_
        refine sy_build rfl (fun w => bld_38_0 w) rfl rfl ?_
        refine sy_buildSlice rfl (fun w => bsl_25_1_0 w) rfl rfl (fun b70 hb70 hM70 => ?_) (by simp)
        refine sy_append 1 0 row_25 (by decide) rfl rfl rfl rfl rfl rfl (by omega) (by simp only [maxLen]; omega) rfl rfl (fun v71 => ?_)
        refine sy_assign rfl rfl rfl ?_
        refine sy_nil rfl ?_
        refine ny_blockN ?_
        refine ny_next ?_
        refine cy_region ?_
        refine sy_move rfl rfl rfl ?_
        refine sy_addi (z := ((i + 1 : Nat) : Int)) rfl rfl (by omega) (by omega) (by omega) rfl rfl ?_
        refine sy_assign rfl rfl rfl ?_
        refine sy_nil rfl ?_
        refine ny_roundK [1, 5, 6, 8, 11] (i + 1, v71) [0] (show i + 1 ≤ c.toNat by omega) (show c.toNat - (i + 1) < c.toNat - i by omega) rfl ⟨rfl, rfl, trivial⟩ rfl (by rw [many_snoc]; rfl)
      · have hie : i = c.toNat := by have := of_decide_eq_false hc65; omega
        subst hie
        refine cy_exit ?_
        refine ny_thenE ?_
        refine ny_thenE ?_
        refine ny_blockX ?_
        refine ny_next ?_
        refine cy_seq ?_
        refine cy_frzRow 0 rfl (fun _ _ => by simp) (fun A12 c12 h12 hv12 hlc12 hcm12 _ hle12 hcell12 => ?_)
        subst hv12
        have hr12 : RowsAt h12 A12 3 ((List.replicate c.toNat ga).map grC) := rows_row (by decide) (grC_len _) hcell12
        replace ht := ht.le hle12
        replace hh := hh.le hle12
        replace hg := hle12 _ _ hg
        refine cy_region ?_
        refine sy_move rfl rfl rfl ?_
        refine sy_move rfl rfl rfl ?_
        refine sy_callx call_20 rfl (gnewBad_c g 1 (ru 1 []) _ hg (by decide) (by decide) (ru_lt (by decide) _) A12 _ c12 (List.replicate c.toNat ga) hr12 (List.length_replicate) hlc12 (by omega) ht many_ok h1) rfl rfl (fun x75 h75 hx75 hle75 => ?_)
        have ht := ht.le hle75
        have hh := hh.le hle75
        have hg := hle75 _ _ hg
        skip
        refine sy_move rfl rfl rfl ?_
        refine sy_extract rfl rfl rfl rfl ?_
        refine sy_extract rfl rfl rfl rfl ?_
        refine sy_assign rfl rfl rfl ?_
        refine sy_assign rfl rfl rfl ?_
        refine sy_nil rfl ?_
        refine ny_next ?_
        refine cy_seq ?_
        refine cy_region ?_
        refine sy_move rfl rfl rfl ?_
        refine sy_move rfl rfl rfl ?_
        refine sy_setT (d := 79) rfl rfl (by first | rfl | decide | simp) ?_
        refine sy_move rfl rfl rfl ?_
        refine sy_eqn Tryd.underlying34 rfl rfl rfl rfl rfl ?_
        refine sy_setF (d := 81) rfl rfl rfl ?_
        refine sy_move rfl rfl rfl ?_
        refine sy_setF (d := 82) rfl rfl rfl ?_
        refine sy_eqb Tryd.underlying4 rfl rfl rfl rfl ?_
        refine sy_pickT rfl rfl rfl rfl ?_
        refine sy_move rfl rfl rfl ?_
        refine sy_setT (d := 85) rfl rfl (by first | rfl | decide | simp) ?_
        refine sy_move rfl rfl rfl ?_
        refine sy_setF (d := 86) rfl rfl rfl ?_
        refine sy_move rfl rfl rfl ?_
        refine sy_move rfl rfl rfl ?_
        refine sy_call rfl call_29 rfl (codeR_c _ _ _ hh) rfl rfl ?_
        refine sy_cmp rfl rfl rfl rfl rfl ?_
        refine sy_setT (d := 90) rfl rfl (by rw [h00]; rfl) ?_
        refine sy_pickF rfl rfl rfl rfl ?_
        refine sy_pickT rfl rfl rfl rfl ?_
        refine sy_move rfl rfl rfl ?_
        refine sy_move rfl rfl rfl ?_
        refine sy_eqn Tryd.underlying34 rfl rfl rfl rfl rfl ?_
        refine sy_setF (d := 95) rfl rfl rfl ?_
        refine sy_move rfl rfl rfl ?_
        refine sy_cmp rfl rfl rfl rfl rfl ?_
        refine sy_setF (d := 97) rfl rfl (by simp; omega) ?_
        refine sy_eqb Tryd.underlying4 rfl rfl rfl rfl ?_
        refine sy_pickT rfl rfl rfl rfl ?_
        refine sy_move rfl rfl rfl ?_
        refine sy_setT (d := 100) rfl rfl (by first | rfl | decide | simp) ?_
        refine sy_move rfl rfl rfl ?_
        refine sy_eqn Tryd.underlying34 rfl rfl rfl rfl rfl ?_
        refine sy_setF (d := 102) rfl rfl rfl ?_
        refine sy_move rfl rfl rfl ?_
        refine sy_move rfl rfl rfl ?_
        refine sy_call rfl call_29 rfl (codeR_c _ _ _ hh) rfl rfl ?_
        refine sy_cmp rfl rfl rfl rfl rfl ?_
        refine sy_setT (d := 106) rfl rfl (by rw [h10]; rfl) ?_
        refine sy_pickF rfl rfl rfl rfl ?_
        refine sy_pickT rfl rfl rfl rfl ?_
        refine sy_assign rfl rfl rfl ?_
        refine sy_nil rfl ?_
        refine ny_next ?_
        refine cy_ret ?_
        exact ny_finR (res1 rfl rfl) (fun w hs => ⟨rfl, hs.frm⟩)
theorem names02_c (s : ByteArray) (c : UInt8) (h : Hp) (ht : Tab10 h) (hh : Hdl h) (hs : s.size ≤ 140737488355328) : C0 Tryd.prog 8 [.string s, .int .u8 (c.toNat : Int)] h (.bool true) := by
  cases hnm : nameB s <;> by_cases hc : c.toNat ≤ 100
  · exact names01_c s c h ht hh hs hnm hc
  · exact names00_c s c h ht hh hs hnm hc
  · exact names11_c s c h ht hh hs hnm hc
  · exact names10_c s c h ht hh hs hnm hc
end Go.Proofs.YtamifocfbcmfkaaDoor

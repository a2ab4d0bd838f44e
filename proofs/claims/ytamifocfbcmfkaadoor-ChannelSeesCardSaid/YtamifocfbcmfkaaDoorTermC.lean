/- What the document says of events and terms: the walks. Conditions: as each says. Printed by a program of this session. -/
import Derived.Test.YtamifocfbcmfkaaDoorFactsN
import Derived.Test.YtamifocfbcmfkaaDoorTermA
import Derived.Test.YtamifocfbcmfkaaDoorFigPure
import Derived.Test.YtamifocfbcmfkaaDoorChanLaw
set_option linter.unusedVariables false
set_option linter.unusedSimpArgs false
namespace Go.Proofs.YtamifocfbcmfkaaDoor
open Go.RowKit Go.Proofs.YtamifocfbcmfkaaDoor.E Go.Proofs.YtamifocfbcmfkaaDoor.LattP Go.Proofs.YtamifocfbcmfkaaDoor.ChanP Go.Proofs.YtamifocfbcmfkaaDoor.TermP
set_option maxRecDepth 100000 in
theorem figT_c (m : Nat) : ∀ (x : Int) (h : Hp), x.natAbs = m → -9223372036854775808 ≤ x → x ≤ 9223372036854775807 → C0 Tryd.prog 57 [.int .i64 x] h (.string ⟨(Lib.itoa x).toArray⟩) := by
  induction m using Nat.strongRecOn
  rename_i m ih
  intro x h hmx hxl hxu
  refine enter0 Tryd.func57 rfl rfl rfl (fun w => ?_)
  refine cy_seq ?_
  refine cy_region ?_
  refine sy_assign rfl rfl rfl ?_
  refine sy_nil rfl ?_
  refine ny_next ?_
  refine cy_seq ?_
  refine cy_seq ?_
  refine cy_region ?_
  refine sy_move rfl rfl rfl ?_
  refine sy_cmp rfl rfl rfl rfl rfl ?_
  refine sy_nil rfl ?_
  refine ny_next ?_
  refine cy_cond rfl (fun hc5 => ?_) (fun hc5 => ?_)
  · have hx0 : x < 0 := by simpa using hc5
    obtain ⟨hm1, hd1⟩ := neg_ten hx0
    refine cy_seq ?_
    refine cy_region ?_
    refine sy_move rfl rfl rfl ?_
    refine sy_remt rfl rfl (by decide) (by decide) hm1 rfl rfl ?_
    refine sy_negi Tryd.underlying2 rfl (by omega) (by omega) rfl rfl ?_
    refine sy_assign rfl rfl rfl ?_
    refine sy_nil rfl ?_
    refine ny_next ?_
    refine cy_seq ?_
    refine cy_seq ?_
    refine cy_region ?_
    refine sy_move rfl rfl rfl ?_
    refine sy_cmp rfl rfl rfl rfl rfl ?_
    refine sy_nil rfl ?_
    refine ny_next ?_
    refine cy_cond rfl (fun hc10 => ?_) (fun hc10 => ?_)
    · have hx1 : -10 < x := by simpa using hc10
      refine cy_seq ?_
      refine cy_region ?_
      refine sy_move rfl rfl rfl ?_
      refine sy_addi (z := ((48 + (x.natAbs % 10) : Nat) : Int)) rfl rfl (by omega) (by omega) (by omega) rfl rfl ?_
      refine sy_conv8 Tryd.underlying2 Tryd.underlying5 rfl (by omega) (by omega) rfl rfl ?_
      refine sy_buildSlice rfl (fun w => bsl_118_1_0 w) rfl rfl (fun b14 hb14 hM14 => ?_) (by simp)
      refine sy_byte1 (u := UInt8.ofNat (48 + (x.natAbs % 10))) 0 Tryd.underlying118 Tryd.underlying5 Tryd.underlying9 rfl rfl (dg_nat (by omega)) rfl rfl ?_
      refine sy_cat rfl rfl (by show 1 + 1 ≤ _; decide) rfl rfl ?_
      refine sy_assign rfl rfl rfl ?_
      refine sy_nil rfl ?_
      refine ny_next ?_
      refine cy_ret ?_
      refine ny_thenR ?_
      refine ny_thenR ?_
      refine ny_finR (res1 rfl rfl) (fun w hs => ⟨?_, hs.frm⟩)
      rw [itoa_n1 hx0 hx1]
    · have hx1 : ¬ -10 < x := by simpa using hc10
      refine cy_skip ?_
      refine ny_next ?_
      refine cy_seq ?_
      refine cy_regionA mixedA ?_
      refine zy_q 0 rfl (by kernel_rfl) (fun hB5_0 => ?_)
      refine sy_move rfl rfl rfl ?_
      refine sy_nil1 (ny_zq hB5_0 ?_)
      refine zy_q 1 rfl (by kernel_rfl) (fun hB5_1 => ?_)
      refine sy_quo rfl rfl (by decide) rfl (by omega) (by omega) rfl rfl ?_
      refine sy_nil1 (ny_zq hB5_1 ?_)
      refine zy_q 3 rfl (by kernel_rfl) (fun hB5_3 => ?_)
      refine sy_move rfl rfl rfl ?_
      refine sy_nil1 (ny_zq hB5_3 ?_)
      refine zy_q 4 rfl (by kernel_rfl) (fun hB5_4 => ?_)
      refine sy_addi (z := ((48 + (x.natAbs % 10) : Nat) : Int)) rfl rfl (by omega) (by omega) (by omega) rfl rfl ?_
      refine sy_nil1 (ny_zq hB5_4 ?_)
      refine zy_q 5 rfl (by kernel_rfl) (fun hB5_5 => ?_)
      refine sy_conv8 Tryd.underlying2 Tryd.underlying5 rfl (by omega) (by omega) rfl rfl ?_
      refine sy_nil1 (ny_zq hB5_5 ?_)
      refine zy_2 2 6 (by kernel_rfl) ?_ ?_
      · refine zop_run rfl rfl (fun hB5_2 => ?_)
        refine sy_call rfl call_57 rfl (ih (x.tdiv 10).natAbs (by omega) (x.tdiv 10) _ rfl (by omega) (by omega)) rfl rfl ?_
        refine sy_nil rfl (ny_zy hB5_2 (Hp.Le.refl _) ?_)
        refine zy_1 6 (by kernel_rfl) ?_
        refine zop_run rfl rfl (fun hB5_6 => ?_)
        refine sy_buildSlice rfl (fun w => bsl_118_1_0 w) rfl rfl (fun b23 hb23 hM23 => ?_) (by simp)
        refine sy_nil rfl (ny_zy hB5_6 (Hp.Le.refl _) ?_)
        refine zy_1 7 (by kernel_rfl) ?_
        refine zop_run rfl rfl (fun hB5_7 => ?_)
        refine sy_byte1 (u := UInt8.ofNat (48 + (x.natAbs % 10))) 0 Tryd.underlying118 Tryd.underlying5 Tryd.underlying9 rfl rfl (dg_nat (by omega)) rfl rfl ?_
        refine sy_nil rfl (ny_zy hB5_7 (Hp.Le.refl _) ?_)
        refine zy_q 8 rfl (by kernel_rfl) (fun hB5_8 => ?_)
        refine sy_cat rfl rfl (by have h1 := itoa_size (x.tdiv 10) (by omega) (by omega); show (⟨(Lib.itoa (x.tdiv 10)).toArray⟩ : ByteArray).size + 1 ≤ _; omega) rfl rfl ?_
        refine sy_nil1 (ny_zq hB5_8 ?_)
        refine zy_q 9 rfl (by kernel_rfl) (fun hB5_9 => ?_)
        refine sy_assign rfl rfl rfl ?_
        refine sy_nil1 (ny_zq hB5_9 ?_)
        refine zy_done (by kernel_rfl) ?_
        refine ny_next ?_
        refine cy_ret ?_
        refine ny_thenR ?_
        refine ny_finR (res1 rfl rfl) (fun w hs => ⟨?_, hs.frm⟩)
        rw [itoa_nR hx0 hx1]
      · refine zop_run rfl rfl (fun hB5_6 => ?_)
        refine sy_buildSlice rfl (fun w => bsl_118_1_0 w) rfl rfl (fun b23 hb23 hM23 => ?_) (by simp)
        refine sy_nil rfl (ny_zy hB5_6 (Hp.Le.refl _) ?_)
        refine zy_2 2 7 (by kernel_rfl) ?_ ?_
        · refine zop_run rfl rfl (fun hB5_2 => ?_)
          refine sy_call rfl call_57 rfl (ih (x.tdiv 10).natAbs (by omega) (x.tdiv 10) _ rfl (by omega) (by omega)) rfl rfl ?_
          refine sy_nil rfl (ny_zy hB5_2 (Hp.Le.refl _) ?_)
          refine zy_1 7 (by kernel_rfl) ?_
          refine zop_run rfl rfl (fun hB5_7 => ?_)
          refine sy_byte1 (u := UInt8.ofNat (48 + (x.natAbs % 10))) 0 Tryd.underlying118 Tryd.underlying5 Tryd.underlying9 rfl rfl (dg_nat (by omega)) rfl rfl ?_
          refine sy_nil rfl (ny_zy hB5_7 (Hp.Le.refl _) ?_)
          refine zy_q 8 rfl (by kernel_rfl) (fun hB5_8 => ?_)
          refine sy_cat rfl rfl (by have h1 := itoa_size (x.tdiv 10) (by omega) (by omega); show (⟨(Lib.itoa (x.tdiv 10)).toArray⟩ : ByteArray).size + 1 ≤ _; omega) rfl rfl ?_
          refine sy_nil1 (ny_zq hB5_8 ?_)
          refine zy_q 9 rfl (by kernel_rfl) (fun hB5_9 => ?_)
          refine sy_assign rfl rfl rfl ?_
          refine sy_nil1 (ny_zq hB5_9 ?_)
          refine zy_done (by kernel_rfl) ?_
          refine ny_next ?_
          refine cy_ret ?_
          refine ny_thenR ?_
          refine ny_finR (res1 rfl rfl) (fun w hs => ⟨?_, hs.frm⟩)
          rw [itoa_nR hx0 hx1]
        · refine zop_run rfl rfl (fun hB5_7 => ?_)
          refine sy_byte1 (u := UInt8.ofNat (48 + (x.natAbs % 10))) 0 Tryd.underlying118 Tryd.underlying5 Tryd.underlying9 rfl rfl (dg_nat (by omega)) rfl rfl ?_
          refine sy_nil rfl (ny_zy hB5_7 (Hp.Le.refl _) ?_)
          refine zy_1 2 (by kernel_rfl) ?_
          refine zop_run rfl rfl (fun hB5_2 => ?_)
          refine sy_call rfl call_57 rfl (ih (x.tdiv 10).natAbs (by omega) (x.tdiv 10) _ rfl (by omega) (by omega)) rfl rfl ?_
          refine sy_nil rfl (ny_zy hB5_2 (Hp.Le.refl _) ?_)
          refine zy_q 8 rfl (by kernel_rfl) (fun hB5_8 => ?_)
          refine sy_cat rfl rfl (by have h1 := itoa_size (x.tdiv 10) (by omega) (by omega); show (⟨(Lib.itoa (x.tdiv 10)).toArray⟩ : ByteArray).size + 1 ≤ _; omega) rfl rfl ?_
          refine sy_nil1 (ny_zq hB5_8 ?_)
          refine zy_q 9 rfl (by kernel_rfl) (fun hB5_9 => ?_)
          refine sy_assign rfl rfl rfl ?_
          refine sy_nil1 (ny_zq hB5_9 ?_)
          refine zy_done (by kernel_rfl) ?_
          refine ny_next ?_
          refine cy_ret ?_
          refine ny_thenR ?_
          refine ny_finR (res1 rfl rfl) (fun w hs => ⟨?_, hs.frm⟩)
          rw [itoa_nR hx0 hx1]
  · have hx0 : 0 ≤ x := by simpa using hc5
    obtain ⟨hm1, hd1⟩ := pos_ten hx0
    refine cy_skip ?_
    refine ny_next ?_
    refine cy_seq ?_
    refine cy_seq ?_
    refine cy_region ?_
    refine sy_move rfl rfl rfl ?_
    refine sy_cmp rfl rfl rfl rfl rfl ?_
    refine sy_nil rfl ?_
    refine ny_next ?_
    refine cy_cond rfl (fun hc27 => ?_) (fun hc27 => ?_)
    · have hx1 : x < 10 := by simpa using hc27
      refine cy_seq ?_
      refine cy_region ?_
      refine sy_move rfl rfl rfl ?_
      refine sy_addi (z := ((48 + x.natAbs : Nat) : Int)) rfl rfl (by omega) (by omega) (by omega) rfl rfl ?_
      refine sy_conv8 Tryd.underlying2 Tryd.underlying5 rfl (by omega) (by omega) rfl rfl ?_
      refine sy_buildSlice rfl (fun w => bsl_118_1_0 w) rfl rfl (fun b31 hb31 hM31 => ?_) (by simp)
      refine sy_byte1 (u := UInt8.ofNat (48 + x.natAbs)) 0 Tryd.underlying118 Tryd.underlying5 Tryd.underlying9 rfl rfl (dg_nat (by omega)) rfl rfl ?_
      refine sy_assign rfl rfl rfl ?_
      refine sy_nil rfl ?_
      refine ny_next ?_
      refine cy_ret ?_
      refine ny_thenR ?_
      refine ny_finR (res1 rfl rfl) (fun w hs => ⟨?_, hs.frm⟩)
      rw [itoa_p1 hx0 hx1]
    · have hx1 : ¬ x < 10 := by simpa using hc27
      refine cy_skip ?_
      refine ny_next ?_
      refine cy_seq ?_
      refine cy_regionA mixedA ?_
      refine zy_q 0 rfl (by kernel_rfl) (fun hB8_0 => ?_)
      refine sy_move rfl rfl rfl ?_
      refine sy_nil1 (ny_zq hB8_0 ?_)
      refine zy_q 1 rfl (by kernel_rfl) (fun hB8_1 => ?_)
      refine sy_quo rfl rfl (by decide) rfl (by omega) (by omega) rfl rfl ?_
      refine sy_nil1 (ny_zq hB8_1 ?_)
      refine zy_q 3 rfl (by kernel_rfl) (fun hB8_3 => ?_)
      refine sy_move rfl rfl rfl ?_
      refine sy_nil1 (ny_zq hB8_3 ?_)
      refine zy_q 4 rfl (by kernel_rfl) (fun hB8_4 => ?_)
      refine sy_remt rfl rfl (by decide) (by decide) hm1 rfl rfl ?_
      refine sy_nil1 (ny_zq hB8_4 ?_)
      refine zy_q 5 rfl (by kernel_rfl) (fun hB8_5 => ?_)
      refine sy_addi (z := ((48 + (x.natAbs % 10) : Nat) : Int)) rfl rfl (by omega) (by omega) (by omega) rfl rfl ?_
      refine sy_nil1 (ny_zq hB8_5 ?_)
      refine zy_q 6 rfl (by kernel_rfl) (fun hB8_6 => ?_)
      refine sy_conv8 Tryd.underlying2 Tryd.underlying5 rfl (by omega) (by omega) rfl rfl ?_
      refine sy_nil1 (ny_zq hB8_6 ?_)
      refine zy_2 2 7 (by kernel_rfl) ?_ ?_
      · refine zop_run rfl rfl (fun hB8_2 => ?_)
        refine sy_call rfl call_57 rfl (ih (x.tdiv 10).natAbs (by omega) (x.tdiv 10) _ rfl (by omega) (by omega)) rfl rfl ?_
        refine sy_nil rfl (ny_zy hB8_2 (Hp.Le.refl _) ?_)
        refine zy_1 7 (by kernel_rfl) ?_
        refine zop_run rfl rfl (fun hB8_7 => ?_)
        refine sy_buildSlice rfl (fun w => bsl_118_1_0 w) rfl rfl (fun b40 hb40 hM40 => ?_) (by simp)
        refine sy_nil rfl (ny_zy hB8_7 (Hp.Le.refl _) ?_)
        refine zy_1 8 (by kernel_rfl) ?_
        refine zop_run rfl rfl (fun hB8_8 => ?_)
        refine sy_byte1 (u := UInt8.ofNat (48 + (x.natAbs % 10))) 0 Tryd.underlying118 Tryd.underlying5 Tryd.underlying9 rfl rfl (dg_nat (by omega)) rfl rfl ?_
        refine sy_nil rfl (ny_zy hB8_8 (Hp.Le.refl _) ?_)
        refine zy_q 9 rfl (by kernel_rfl) (fun hB8_9 => ?_)
        refine sy_cat rfl rfl (by have h1 := itoa_size (x.tdiv 10) (by omega) (by omega); show (⟨(Lib.itoa (x.tdiv 10)).toArray⟩ : ByteArray).size + 1 ≤ _; omega) rfl rfl ?_
        refine sy_nil1 (ny_zq hB8_9 ?_)
        refine zy_q 10 rfl (by kernel_rfl) (fun hB8_10 => ?_)
        refine sy_assign rfl rfl rfl ?_
        refine sy_nil1 (ny_zq hB8_10 ?_)
        refine zy_done (by kernel_rfl) ?_
        refine ny_next ?_
        refine cy_ret ?_
        refine ny_finR (res1 rfl rfl) (fun w hs => ⟨?_, hs.frm⟩)
        rw [itoa_pR hx0 hx1]
      · refine zop_run rfl rfl (fun hB8_7 => ?_)
        refine sy_buildSlice rfl (fun w => bsl_118_1_0 w) rfl rfl (fun b40 hb40 hM40 => ?_) (by simp)
        refine sy_nil rfl (ny_zy hB8_7 (Hp.Le.refl _) ?_)
        refine zy_2 2 8 (by kernel_rfl) ?_ ?_
        · refine zop_run rfl rfl (fun hB8_2 => ?_)
          refine sy_call rfl call_57 rfl (ih (x.tdiv 10).natAbs (by omega) (x.tdiv 10) _ rfl (by omega) (by omega)) rfl rfl ?_
          refine sy_nil rfl (ny_zy hB8_2 (Hp.Le.refl _) ?_)
          refine zy_1 8 (by kernel_rfl) ?_
          refine zop_run rfl rfl (fun hB8_8 => ?_)
          refine sy_byte1 (u := UInt8.ofNat (48 + (x.natAbs % 10))) 0 Tryd.underlying118 Tryd.underlying5 Tryd.underlying9 rfl rfl (dg_nat (by omega)) rfl rfl ?_
          refine sy_nil rfl (ny_zy hB8_8 (Hp.Le.refl _) ?_)
          refine zy_q 9 rfl (by kernel_rfl) (fun hB8_9 => ?_)
          refine sy_cat rfl rfl (by have h1 := itoa_size (x.tdiv 10) (by omega) (by omega); show (⟨(Lib.itoa (x.tdiv 10)).toArray⟩ : ByteArray).size + 1 ≤ _; omega) rfl rfl ?_
          refine sy_nil1 (ny_zq hB8_9 ?_)
          refine zy_q 10 rfl (by kernel_rfl) (fun hB8_10 => ?_)
          refine sy_assign rfl rfl rfl ?_
          refine sy_nil1 (ny_zq hB8_10 ?_)
          refine zy_done (by kernel_rfl) ?_
          refine ny_next ?_
          refine cy_ret ?_
          refine ny_finR (res1 rfl rfl) (fun w hs => ⟨?_, hs.frm⟩)
          rw [itoa_pR hx0 hx1]
        · refine zop_run rfl rfl (fun hB8_8 => ?_)
          refine sy_byte1 (u := UInt8.ofNat (48 + (x.natAbs % 10))) 0 Tryd.underlying118 Tryd.underlying5 Tryd.underlying9 rfl rfl (dg_nat (by omega)) rfl rfl ?_
          refine sy_nil rfl (ny_zy hB8_8 (Hp.Le.refl _) ?_)
          refine zy_1 2 (by kernel_rfl) ?_
          refine zop_run rfl rfl (fun hB8_2 => ?_)
          refine sy_call rfl call_57 rfl (ih (x.tdiv 10).natAbs (by omega) (x.tdiv 10) _ rfl (by omega) (by omega)) rfl rfl ?_
          refine sy_nil rfl (ny_zy hB8_2 (Hp.Le.refl _) ?_)
          refine zy_q 9 rfl (by kernel_rfl) (fun hB8_9 => ?_)
          refine sy_cat rfl rfl (by have h1 := itoa_size (x.tdiv 10) (by omega) (by omega); show (⟨(Lib.itoa (x.tdiv 10)).toArray⟩ : ByteArray).size + 1 ≤ _; omega) rfl rfl ?_
          refine sy_nil1 (ny_zq hB8_9 ?_)
          refine zy_q 10 rfl (by kernel_rfl) (fun hB8_10 => ?_)
          refine sy_assign rfl rfl rfl ?_
          refine sy_nil1 (ny_zq hB8_10 ?_)
          refine zy_done (by kernel_rfl) ?_
          refine ny_next ?_
          refine cy_ret ?_
          refine ny_finR (res1 rfl rfl) (fun w hs => ⟨?_, hs.frm⟩)
          rw [itoa_pR hx0 hx1]
theorem rLeqT_c (A : Option Addr) (n c : Nat) (q : List (Int × Int)) (hn : n ≤ 16) (hin : InR n q) (a b : Int) (h : Hp) (hT : RefT h A n (tw q n)) : C0 Tryd.prog 65 [.agg #[.slice A n c], .int .i64 a, .int .i64 b] h (.bool (leqI n (ru n q) a b)) := by
  rw [leq_eq (tw_tells hin)]
  exact rLeq_c A n c (tw q n) a b h hT
theorem rTopT_c (A : Option Addr) (n c : Nat) (q : List (Int × Int)) (hn : n ≤ 16) (hin : InR n q) (j m2 : Nat → Nat → Nat) (lo hi : Nat) (L : Lat2 n q j m2 lo hi) (h : Hp) (hT : RefT h A n (tw q n)) : C0 Tryd.prog 71 [.agg #[.slice A n c]] h (.int .i64 (hi : Int)) := by
  rw [← L.hie, top_eq (tw_tells hin) L]
  exact rTop_c A n c (tw q n) h hT hn
theorem rBotT_c (A : Option Addr) (n c : Nat) (q : List (Int × Int)) (hn : n ≤ 16) (hin : InR n q) (j m2 : Nat → Nat → Nat) (lo hi : Nat) (L : Lat2 n q j m2 lo hi) (h : Hp) (hT : RefT h A n (tw q n)) : C0 Tryd.prog 83 [.agg #[.slice A n c]] h (.int .i64 (lo : Int)) := by
  rw [← L.loe, bot_eq (tw_tells hin) L]
  exact rBot_c A n c (tw q n) h hT hn
theorem rJoinT_c (A : Option Addr) (n c : Nat) (q : List (Int × Int)) (hn : n ≤ 16) (hin : InR n q) (j m2 : Nat → Nat → Nat) (lo hi : Nat) (L : Lat2 n q j m2 lo hi) (a b : Int) (h : Hp) (hT : RefT h A n (tw q n)) : C0 Tryd.prog 61 [.agg #[.slice A n c], .int .i64 a, .int .i64 b] h (.int .i64 (joinI n (ru n q) a b)) := by
  rw [join_eq (tw_tells hin) L.anti]
  exact rJoin_c A n c (tw q n) a b h hT hn
theorem rJoinN_c (A : Option Addr) (n c : Nat) (q : List (Int × Int)) (hn : n ≤ 16) (hin : InR n q) (j m2 : Nat → Nat → Nat) (lo hi : Nat) (L : Lat2 n q j m2 lo hi) {a b : Nat} (ha : a < n) (hb : b < n) (h : Hp) (hT : RefT h A n (tw q n)) : C0 Tryd.prog 61 [.agg #[.slice A n c], .int .i64 (a : Int), .int .i64 (b : Int)] h (.int .i64 ((j a b : Nat) : Int)) := by
  rw [← L.je a b ha hb]
  exact rJoinT_c A n c q hn hin j m2 lo hi L _ _ h hT
set_option maxRecDepth 100000 in
theorem rlev4_c (A : Option Addr) (n c : Nat) (q : List (Int × Int)) (hn : n ≤ 16) (hin : InR n q) (j m2 : Nat → Nat → Nat) (lo hi : Nat) (L : Lat2 n q j m2 lo hi) (t : GT) (h : Hp) (hT : RefT h A n (tw q n)) : C0 Tryd.prog 84 [.agg #[.slice A n c], .agg (GT.cells t).toArray] h (.int .i64 ((levN n hi t.n : Nat) : Int)) := by
  show C0 Tryd.prog 84 [.agg #[.slice A n c], .agg #[.int .i64 t.k, .int .i64 t.n, .string t.s, .slice t.A t.kids.length t.c]] h _
  refine enter0 Tryd.func84 rfl rfl rfl (fun w => ?_)
  refine cy_seq ?_
  refine cy_region ?_
  refine sy_box rfl rfl rfl rfl (fun b2 hb2 hM2 => ?_) (by simp)
  refine sy_box rfl rfl rfl rfl (fun b3 hb3 hM3 => ?_) (by simp)
  refine sy_assign rfl rfl rfl ?_
  refine sy_nil rfl ?_
  refine ny_next ?_
  refine cy_seq ?_
  refine cy_seq ?_
  refine cy_region ?_
  refine sy_field fld_79_1 rfl rfl rfl ?_
  first | refine sy_ldr 0 one_2 rfl rfl rfl rfl rfl ?_ | refine sy_ldr 1 one_2 rfl rfl rfl rfl rfl ?_ | refine sy_ldr 2 one_2 rfl rfl rfl rfl rfl ?_
  refine sy_cmp rfl rfl rfl rfl rfl ?_
  refine sy_move rfl rfl rfl ?_
  refine sy_cond (d := 8) _ rfl rfl (fun hg8 => ?_) (fun hg8 => ?_)
  · refine sy_field fld_79_1 rfl rfl rfl ?_
    first | refine sy_ldr 0 one_2 rfl rfl rfl rfl rfl ?_ | refine sy_ldr 1 one_2 rfl rfl rfl rfl rfl ?_ | refine sy_ldr 2 one_2 rfl rfl rfl rfl rfl ?_
    refine sy_field fld_52_0 rfl rfl rfl ?_
    first | refine sy_ldr 0 one_50 rfl rfl rfl rfl rfl ?_ | refine sy_ldr 1 one_50 rfl rfl rfl rfl rfl ?_ | refine sy_ldr 2 one_50 rfl rfl rfl rfl rfl ?_
    refine sy_len rfl (len_slice Tryd.underlying50 _ _ _) rfl rfl ?_
    refine sy_cmp rfl rfl rfl rfl rfl ?_
    refine sy_pickT rfl rfl rfl rfl ?_
    refine sy_nil rfl ?_
    refine ny_next ?_
    refine cy_cond rfl (fun hc15 => ?_) (fun hc15 => ?_)
    · refine cy_seq ?_
      refine cy_region ?_
      refine sy_field fld_79_1 rfl rfl rfl ?_
      first | refine sy_ldr 0 one_2 rfl rfl rfl rfl rfl ?_ | refine sy_ldr 1 one_2 rfl rfl rfl rfl rfl ?_ | refine sy_ldr 2 one_2 rfl rfl rfl rfl rfl ?_
      refine sy_assign rfl rfl rfl ?_
      refine sy_nil rfl ?_
      refine ny_next ?_
      refine cy_ret ?_
      refine ny_thenR ?_
      refine ny_finR (res1 rfl rfl) (fun w hs2 => ⟨?_, hs2.frm⟩)
      have hyes : isI n t.n = true := by have h8 := of_decide_eq_true hg8; have h9 := of_decide_eq_true hc15; unfold isI; simp; omega
      rw [levN_yes hyes]
    · refine cy_skip ?_
      refine ny_next ?_
      refine cy_seq ?_
      refine cy_region ?_
      first | refine sy_ldar 0 agg_52 rfl rfl rfl rfl rfl ?_ | refine sy_ldar 1 agg_52 rfl rfl rfl rfl rfl ?_ | refine sy_ldar 2 agg_52 rfl rfl rfl rfl rfl ?_
      refine sy_call rfl call_71 rfl (rTopT_c A n c q hn hin j m2 lo hi L _ hT) rfl rfl ?_
      refine sy_assign rfl rfl rfl ?_
      refine sy_nil rfl ?_
      refine ny_next ?_
      refine cy_ret ?_
      refine ny_finR (res1 rfl rfl) (fun w hs2 => ⟨?_, hs2.frm⟩)
      have hno : isI n t.n = false := by first | (have h9 := of_decide_eq_false hg8; unfold isI; simp; omega) | (have h9 := of_decide_eq_false hc15; unfold isI; simp; omega)
      rw [levN_no hno]
  · refine sy_skip rfl rfl rfl ?_
    refine sy_skip rfl rfl rfl ?_
    refine sy_skip rfl rfl rfl ?_
    refine sy_skip rfl rfl rfl ?_
    refine sy_skip rfl rfl rfl ?_
    refine sy_skip rfl rfl rfl ?_
    refine sy_pickF rfl rfl rfl rfl ?_
    refine sy_nil rfl ?_
    refine ny_next ?_
    refine cy_condF rfl ?_
    refine cy_skip ?_
    refine ny_next ?_
    refine cy_seq ?_
    refine cy_region ?_
    first | refine sy_ldar 0 agg_52 rfl rfl rfl rfl rfl ?_ | refine sy_ldar 1 agg_52 rfl rfl rfl rfl rfl ?_ | refine sy_ldar 2 agg_52 rfl rfl rfl rfl rfl ?_
    refine sy_call rfl call_71 rfl (rTopT_c A n c q hn hin j m2 lo hi L _ hT) rfl rfl ?_
    refine sy_assign rfl rfl rfl ?_
    refine sy_nil rfl ?_
    refine ny_next ?_
    refine cy_ret ?_
    refine ny_finR (res1 rfl rfl) (fun w hs2 => ⟨?_, hs2.frm⟩)
    have hno : isI n t.n = false := by first | (have h9 := of_decide_eq_false hg8; unfold isI; simp; omega) | (have h9 := of_decide_eq_false hc15; unfold isI; simp; omega)
    rw [levN_no hno]
set_option maxRecDepth 100000 in
theorem rlev15_c (A : Option Addr) (n c : Nat) (q : List (Int × Int)) (hn : n ≤ 16) (hin : InR n q) (j m2 : Nat → Nat → Nat) (lo hi : Nat) (L : Lat2 n q j m2 lo hi) (x : Int) (h : Hp) (hT : RefT h A n (tw q n)) : C0 Tryd.prog 46 [.agg #[.slice A n c], .int .i64 x] h (.int .i64 (if isI n x then x else topI n (ru n q))) := by
  refine enter0 Tryd.func46 rfl rfl rfl (fun w => ?_)
  refine cy_seq ?_
  refine cy_region ?_
  refine sy_box rfl rfl rfl rfl (fun b2 hb2 hM2 => ?_) (by simp)
  refine sy_assign rfl rfl rfl ?_
  refine sy_nil rfl ?_
  refine ny_next ?_
  refine cy_seq ?_
  refine cy_seq ?_
  refine cy_region ?_
  refine sy_move rfl rfl rfl ?_
  refine sy_cmp rfl rfl rfl rfl rfl ?_
  refine sy_move rfl rfl rfl ?_
  refine sy_cond (d := 7) _ rfl rfl (fun hg7 => ?_) (fun hg7 => ?_)
  · refine sy_move rfl rfl rfl ?_
    refine sy_field fld_52_0 rfl rfl rfl ?_
    first | refine sy_ldr 0 one_50 rfl rfl rfl rfl rfl ?_ | refine sy_ldr 1 one_50 rfl rfl rfl rfl rfl ?_ | refine sy_ldr 2 one_50 rfl rfl rfl rfl rfl ?_
    refine sy_len rfl (len_slice Tryd.underlying50 _ _ _) rfl rfl ?_
    refine sy_cmp rfl rfl rfl rfl rfl ?_
    refine sy_pickT rfl rfl rfl rfl ?_
    refine sy_nil rfl ?_
    refine ny_next ?_
    refine cy_cond rfl (fun hc13 => ?_) (fun hc13 => ?_)
    · refine cy_seq ?_
      refine cy_region ?_
      refine sy_move rfl rfl rfl ?_
      refine sy_assign rfl rfl rfl ?_
      refine sy_nil rfl ?_
      refine ny_next ?_
      refine cy_ret ?_
      refine ny_thenR ?_
      refine ny_finR (res1 rfl rfl) (fun w hs2 => ⟨?_, hs2.frm⟩)
      have hyes : isI n x = true := by have h8 := of_decide_eq_true hg7; have h9 := of_decide_eq_true hc13; unfold isI; simp; omega
      rw [if_pos hyes]
    · refine cy_skip ?_
      refine ny_next ?_
      refine cy_seq ?_
      refine cy_region ?_
      first | refine sy_ldar 0 agg_52 rfl rfl rfl rfl rfl ?_ | refine sy_ldar 1 agg_52 rfl rfl rfl rfl rfl ?_ | refine sy_ldar 2 agg_52 rfl rfl rfl rfl rfl ?_
      refine sy_call rfl call_71 rfl (rTopT_c A n c q hn hin j m2 lo hi L _ hT) rfl rfl ?_
      refine sy_assign rfl rfl rfl ?_
      refine sy_nil rfl ?_
      refine ny_next ?_
      refine cy_ret ?_
      refine ny_finR (res1 rfl rfl) (fun w hs2 => ⟨?_, hs2.frm⟩)
      have hno : isI n x = false := by first | (have h9 := of_decide_eq_false hg7; unfold isI; simp; omega) | (have h9 := of_decide_eq_false hc13; unfold isI; simp; omega)
      rw [hno, L.hie]
      rfl
  · refine sy_skip rfl rfl rfl ?_
    refine sy_skip rfl rfl rfl ?_
    refine sy_skip rfl rfl rfl ?_
    refine sy_skip rfl rfl rfl ?_
    refine sy_skip rfl rfl rfl ?_
    refine sy_pickF rfl rfl rfl rfl ?_
    refine sy_nil rfl ?_
    refine ny_next ?_
    refine cy_condF rfl ?_
    refine cy_skip ?_
    refine ny_next ?_
    refine cy_seq ?_
    refine cy_region ?_
    first | refine sy_ldar 0 agg_52 rfl rfl rfl rfl rfl ?_ | refine sy_ldar 1 agg_52 rfl rfl rfl rfl rfl ?_ | refine sy_ldar 2 agg_52 rfl rfl rfl rfl rfl ?_
    refine sy_call rfl call_71 rfl (rTopT_c A n c q hn hin j m2 lo hi L _ hT) rfl rfl ?_
    refine sy_assign rfl rfl rfl ?_
    refine sy_nil rfl ?_
    refine ny_next ?_
    refine cy_ret ?_
    refine ny_finR (res1 rfl rfl) (fun w hs2 => ⟨?_, hs2.frm⟩)
    have hno : isI n x = false := by first | (have h9 := of_decide_eq_false hg7; unfold isI; simp; omega) | (have h9 := of_decide_eq_false hc13; unfold isI; simp; omega)
    rw [hno, L.hie]
    rfl
set_option maxRecDepth 100000 in
theorem rsjoin_c (A : Option Addr) (n c : Nat) (q : List (Int × Int)) (hn : n ≤ 16) (hin : InR n q) (j m2 : Nat → Nat → Nat) (lo hi : Nat) (L : Lat2 n q j m2 lo hi) (t : GT) : ∀ h, Lies h t → Fits t → RefT h A n (tw q n) → C0 Tryd.prog 72 [.agg #[.slice A n c], .agg (GT.cells t).toArray] h (.int .i64 ((sj n lo hi j t : Nat) : Int)) := by
  induction t using GT.ind
  rename_i tk tn ts tA tc kids ih
  intro h hl hf hT
  have hroom := hf.room
  show C0 Tryd.prog 72 [.agg #[.slice A n c], .agg #[.int .i64 tk, .int .i64 tn, .string ts, .slice tA kids.length tc]] h (.int .i64 ((sj n lo hi j (GT.mk tk tn ts tA tc kids) : Nat) : Int))
  refine enter0 Tryd.func72 rfl rfl rfl (fun w => ?_)
  refine cy_seq ?_
  refine cy_region ?_
  refine sy_box rfl rfl rfl rfl (fun b2 hb2 hM2 => ?_) (by simp)
  refine sy_box rfl rfl rfl rfl (fun b3 hb3 hM3 => ?_) (by simp)
  refine sy_assign rfl rfl rfl ?_
  refine sy_nil rfl ?_
  refine ny_next ?_
  refine cy_seq ?_
  refine cy_frz 0 rfl (by simp) (fun h1 hle1 hbx => ?_)
  refine cy_frz 0 rfl (by simp) (fun h2 hle2 hby => ?_)
  replace hbx := hle2 _ _ hbx
  have hle3 := hle1.trans hle2
  replace hl := hl.le hle3
  replace hT := hT.le hle3
  have hr := hl.rows
  refine cy_region ?_
  refine sy_ldah (vs := [.slice A n c]) agg_52 rfl rfl (Hp.blk hby) rfl rfl ?_
  refine sy_call rfl call_83 rfl (rBotT_c A n c q hn hin j m2 lo hi L _ hT) rfl rfl ?_
  refine sy_assign rfl rfl rfl ?_
  refine sy_nil rfl ?_
  refine ny_next ?_
  refine cy_seq ?_
  refine cy_seq ?_
  refine cy_region ?_
  refine sy_field fld_79_0 rfl rfl rfl ?_
  refine sy_ldh one_3 rfl (Hp.blk hbx 0 _ rfl) rfl rfl ?_
  refine sy_cmp rfl rfl rfl rfl rfl ?_
  refine sy_nil rfl ?_
  refine ny_next ?_
  refine cy_cond rfl (fun hc11 => ?_) (fun hc11 => ?_)
  · refine cy_region ?_
    refine sy_ldah (vs := [.slice A n c]) agg_52 rfl rfl (Hp.blk hby) rfl rfl ?_
    refine sy_ldah (vs := [.int .i64 tk, .int .i64 tn, .string ts, .slice tA kids.length tc]) agg_79 rfl rfl (Hp.blk hbx) rfl rfl ?_
    refine sy_call rfl call_84 rfl (rlev4_c A n c q hn hin j m2 lo hi L (GT.mk tk tn ts tA tc kids) _ hT) rfl rfl ?_
    refine sy_assign rfl rfl rfl ?_
    refine sy_nil rfl ?_
    refine ny_next ?_
    refine cy_seq ?_
    refine cy_seq ?_
    refine cy_region ?_
    refine sy_assign rfl rfl rfl ?_
    refine sy_nil rfl ?_
    refine ny_next ?_
    refine cy_block ?_
    refine cy_loopK (ι := Nat) [2, 3] rfl (fun i => i ≤ kids.length) (fun i => kids.length - i) (fun i => [(5, .int .i64 ((sjs n lo hi j (if tk = 4 then levN n hi tn else lo) (kids.take i) : Nat) : Int)), (6, .int .i64 (i : Int))]) (fun i => h2) (fun i => []) 0 [] (Nat.zero_le _) ⟨congrArg (fun z : Nat => some (Value.int .i64 (z : Int))) (by first | (rw [if_pos (by simpa using hc11)]; rfl) | (rw [if_neg (by simpa using hc11)]; rfl)), rfl, trivial⟩ rfl rfl ?_
    rintro i hI
    refine cy_seq ?_
    refine cy_seq ?_
    refine cy_region ?_
    refine sy_move rfl rfl rfl ?_
    refine sy_field fld_79_3 rfl rfl rfl ?_
    refine sy_ldh one_77 rfl (Hp.blk hbx 3 _ rfl) rfl rfl ?_
    refine sy_len rfl (len_slice Tryd.underlying77 _ _ _) rfl rfl ?_
    refine sy_cmp rfl rfl rfl rfl rfl ?_
    refine sy_nil rfl ?_
    refine ny_next ?_
    refine cy_cond rfl (fun hc19 => ?_) (fun hc19 => ?_)
    · have hlti : i < kids.length := by have := of_decide_eq_true hc19; omega
      refine cy_skip ?_
      refine ny_next ?_
      refine cy_seq ?_
      refine cy_block ?_
      refine cy_regionQ mixedA (by kernel_rfl) ?_
      refine sy_ldah (vs := [.slice A n c]) agg_52 rfl rfl (Hp.blk hby) rfl rfl ?_
      refine sy_move rfl rfl rfl ?_
      refine sy_ldah (vs := [.slice A n c]) agg_52 rfl rfl (Hp.blk hby) rfl rfl ?_
      refine sy_field fld_79_3 rfl rfl rfl ?_
      refine sy_ldh one_77 rfl (Hp.blk hbx 3 _ rfl) rfl rfl ?_
      refine sy_move rfl rfl rfl ?_
      refine sy_idxR (fc := GT.cells) (es := kids) els_77 rfl rfl hr rfl (by omega) rfl rfl (fun e28 b28 o28 he28 hA28 hc28 => ?_)
      refine sy_ldah (vs := GT.cells e28) agg_79 rfl rfl hc28 rfl rfl ?_
      refine sy_call rfl call_72 rfl (ih e28 (List.mem_of_getElem? he28) _ (hl.at he28) (hf.at he28) hT) rfl rfl ?_
      refine sy_call rfl call_61 rfl (rJoinN_c A n c q hn hin j m2 lo hi L (sjs_at L kids _ i (start_lt L tk tn)) (sj_lt L e28) _ hT) rfl rfl ?_
      refine sy_assign rfl rfl rfl ?_
      refine sy_nil rfl ?_
      refine ny_blockN ?_
      refine ny_next ?_
      refine cy_region ?_
      refine sy_move rfl rfl rfl ?_
      refine sy_addi (z := ((i + 1 : Nat) : Int)) rfl rfl (by omega) (by omega) (by omega) rfl rfl ?_
      refine sy_assign rfl rfl rfl ?_
      refine sy_nil rfl ?_
      refine ny_roundK [2, 3] (i + 1) [] (show i + 1 ≤ kids.length by omega) (show kids.length - (i + 1) < kids.length - i by omega) rfl ⟨congrArg (fun z : Nat => some (Value.int .i64 (z : Int))) (sjs_succ he28), rfl, trivial⟩ rfl rfl
    · have hie : i = kids.length := by have := of_decide_eq_false hc19; omega
      subst hie
      refine cy_exit ?_
      refine ny_thenE ?_
      refine ny_thenE ?_
      refine ny_blockX ?_
      refine ny_next ?_
      refine cy_seq ?_
      refine cy_region ?_
      refine sy_move rfl rfl rfl ?_
      refine sy_assign rfl rfl rfl ?_
      refine sy_nil rfl ?_
      refine ny_next ?_
      refine cy_ret ?_
      refine ny_finR (res1 rfl rfl) (fun w hs => ⟨?_, hs.frm⟩)
      rw [List.take_length, sj]
  · refine cy_skip ?_
    refine ny_next ?_
    refine cy_seq ?_
    refine cy_seq ?_
    refine cy_region ?_
    refine sy_assign rfl rfl rfl ?_
    refine sy_nil rfl ?_
    refine ny_next ?_
    refine cy_block ?_
    refine cy_loopK (ι := Nat) [2, 3] rfl (fun i => i ≤ kids.length) (fun i => kids.length - i) (fun i => [(5, .int .i64 ((sjs n lo hi j (if tk = 4 then levN n hi tn else lo) (kids.take i) : Nat) : Int)), (6, .int .i64 (i : Int))]) (fun i => h2) (fun i => []) 0 [] (Nat.zero_le _) ⟨congrArg (fun z : Nat => some (Value.int .i64 (z : Int))) (by first | (rw [if_pos (by simpa using hc11)]; rfl) | (rw [if_neg (by simpa using hc11)]; rfl)), rfl, trivial⟩ rfl rfl ?_
    rintro i hI
    refine cy_seq ?_
    refine cy_seq ?_
    refine cy_region ?_
    refine sy_move rfl rfl rfl ?_
    refine sy_field fld_79_3 rfl rfl rfl ?_
    refine sy_ldh one_77 rfl (Hp.blk hbx 3 _ rfl) rfl rfl ?_
    refine sy_len rfl (len_slice Tryd.underlying77 _ _ _) rfl rfl ?_
    refine sy_cmp rfl rfl rfl rfl rfl ?_
    refine sy_nil rfl ?_
    refine ny_next ?_
    refine cy_cond rfl (fun hc19 => ?_) (fun hc19 => ?_)
    · have hlti : i < kids.length := by have := of_decide_eq_true hc19; omega
      refine cy_skip ?_
      refine ny_next ?_
      refine cy_seq ?_
      refine cy_block ?_
      refine cy_regionQ mixedA (by kernel_rfl) ?_
      refine sy_ldah (vs := [.slice A n c]) agg_52 rfl rfl (Hp.blk hby) rfl rfl ?_
      refine sy_move rfl rfl rfl ?_
      refine sy_ldah (vs := [.slice A n c]) agg_52 rfl rfl (Hp.blk hby) rfl rfl ?_
      refine sy_field fld_79_3 rfl rfl rfl ?_
      refine sy_ldh one_77 rfl (Hp.blk hbx 3 _ rfl) rfl rfl ?_
      refine sy_move rfl rfl rfl ?_
      refine sy_idxR (fc := GT.cells) (es := kids) els_77 rfl rfl hr rfl (by omega) rfl rfl (fun e28 b28 o28 he28 hA28 hc28 => ?_)
      refine sy_ldah (vs := GT.cells e28) agg_79 rfl rfl hc28 rfl rfl ?_
      refine sy_call rfl call_72 rfl (ih e28 (List.mem_of_getElem? he28) _ (hl.at he28) (hf.at he28) hT) rfl rfl ?_
      refine sy_call rfl call_61 rfl (rJoinN_c A n c q hn hin j m2 lo hi L (sjs_at L kids _ i (start_lt L tk tn)) (sj_lt L e28) _ hT) rfl rfl ?_
      refine sy_assign rfl rfl rfl ?_
      refine sy_nil rfl ?_
      refine ny_blockN ?_
      refine ny_next ?_
      refine cy_region ?_
      refine sy_move rfl rfl rfl ?_
      refine sy_addi (z := ((i + 1 : Nat) : Int)) rfl rfl (by omega) (by omega) (by omega) rfl rfl ?_
      refine sy_assign rfl rfl rfl ?_
      refine sy_nil rfl ?_
      refine ny_roundK [2, 3] (i + 1) [] (show i + 1 ≤ kids.length by omega) (show kids.length - (i + 1) < kids.length - i by omega) rfl ⟨congrArg (fun z : Nat => some (Value.int .i64 (z : Int))) (sjs_succ he28), rfl, trivial⟩ rfl rfl
    · have hie : i = kids.length := by have := of_decide_eq_false hc19; omega
      subst hie
      refine cy_exit ?_
      refine ny_thenE ?_
      refine ny_thenE ?_
      refine ny_blockX ?_
      refine ny_next ?_
      refine cy_seq ?_
      refine cy_region ?_
      refine sy_move rfl rfl rfl ?_
      refine sy_assign rfl rfl rfl ?_
      refine sy_nil rfl ?_
      refine ny_next ?_
      refine cy_ret ?_
      refine ny_finR (res1 rfl rfl) (fun w hs => ⟨?_, hs.frm⟩)
      rw [List.take_length, sj]
set_option maxRecDepth 100000 in
theorem rmay15_c (A : Option Addr) (n c : Nat) (q : List (Int × Int)) (hn : n ≤ 16) (hin : InR n q) (j m2 : Nat → Nat → Nat) (lo hi : Nat) (L : Lat2 n q j m2 lo hi) (t : GT) (now lv : Int) (h : Hp) (hl : Lies h t) (hf : Fits t) (hT : RefT h A n (tw q n)) : C0 Tryd.prog 48 [.agg #[.slice A n c], .int .i64 now, .agg (GT.cells t).toArray, .int .i64 lv] h (.bool (mayT n (ru n q) now (sj n lo hi j t) lv)) := by
  refine enter0 Tryd.func48 rfl rfl rfl (fun w => ?_)
  refine cy_seq ?_
  refine cy_region ?_
  refine sy_box rfl rfl rfl rfl (fun b4 hb4 hM4 => ?_) (by simp)
  refine sy_box rfl rfl rfl rfl (fun b6 hb6 hM6 => ?_) (by simp)
  refine sy_assign rfl rfl rfl ?_
  refine sy_nil rfl ?_
  refine ny_next ?_
  refine cy_seq ?_
  refine cy_regionQ mixedA (by kernel_rfl) ?_
  first | refine sy_ldar 0 agg_52 rfl rfl rfl rfl rfl ?_ | refine sy_ldar 1 agg_52 rfl rfl rfl rfl rfl ?_ | refine sy_ldar 2 agg_52 rfl rfl rfl rfl rfl ?_
  first | refine sy_ldar 0 agg_52 rfl rfl rfl rfl rfl ?_ | refine sy_ldar 1 agg_52 rfl rfl rfl rfl rfl ?_ | refine sy_ldar 2 agg_52 rfl rfl rfl rfl rfl ?_
  refine sy_move rfl rfl rfl ?_
  first | refine sy_ldar 0 agg_52 rfl rfl rfl rfl rfl ?_ | refine sy_ldar 1 agg_52 rfl rfl rfl rfl rfl ?_ | refine sy_ldar 2 agg_52 rfl rfl rfl rfl rfl ?_
  first | refine sy_ldar 0 agg_79 rfl rfl rfl rfl rfl ?_ | refine sy_ldar 1 agg_79 rfl rfl rfl rfl rfl ?_ | refine sy_ldar 2 agg_79 rfl rfl rfl rfl rfl ?_
  refine sy_call rfl call_72 rfl (rsjoin_c A n c q hn hin j m2 lo hi L t _ hl hf hT) rfl rfl ?_
  refine sy_call rfl call_61 rfl (rJoinT_c A n c q hn hin j m2 lo hi L _ _ _ hT) rfl rfl ?_
  refine sy_move rfl rfl rfl ?_
  refine sy_call rfl call_65 rfl (rLeqT_c A n c q hn hin _ _ _ hT) rfl rfl ?_
  refine sy_assign rfl rfl rfl ?_
  refine sy_nil rfl ?_
  refine ny_next ?_
  refine cy_ret ?_
  refine ny_finR (res1 rfl rfl) (fun w hs => ⟨?_, hs.frm⟩)
  rfl
set_option maxRecDepth 100000 in
theorem rvis_c (A : Option Addr) (n c : Nat) (q : List (Int × Int)) (hn : n ≤ 16) (hin : InR n q) (h : Hp) (hT : RefT h A n (tw q n)) (AE : Option Addr) (lE cE : Nat) (es : List Ev) (hE : RowsAt h AE 3 (es.map evC)) (hlE : es.length = lE) (hcE : lE ≤ cE) (hBE : lE * 32 ≤ 140737488355328) (lv : Int) : CX Tryd.prog 49 [.agg #[.slice A n c], .slice AE lE cE, .int .i64 lv] h (fun x : Option Addr × Nat => .slice x.1 (vis n (ru n q) es lv).length x.2) (fun x h' => RowsAt h' x.1 3 ((vis n (ru n q) es lv).map evC) ∧ (vis n (ru n q) es lv).length ≤ x.2) := by
  refine enterX Tryd.func49 rfl rfl rfl (fun w => ?_)
  refine cy_seq ?_
  refine cy_region ?_
  refine sy_box rfl rfl rfl rfl (fun b3 hb3 hM3 => ?_) (by simp)
  refine sy_assign rfl rfl rfl ?_
  refine sy_nil rfl ?_
  refine ny_next ?_
  refine cy_seq ?_
  refine cy_frz 0 rfl (by simp) (fun h1 hle1 hby => ?_)
  replace hE := hE.le hle1
  replace hT := hT.le hle1
  refine cy_region ?_
  refine sy_assign rfl rfl rfl ?_
  refine sy_nil rfl ?_
  refine ny_next ?_
  refine cy_seq ?_
  refine cy_seq ?_
  refine cy_region ?_
  refine sy_assign rfl rfl rfl ?_
  refine sy_nil rfl ?_
  refine ny_next ?_
  refine cy_block ?_
  refine cy_nilRow 65 3 ?_
  refine cy_loopK (ι := Nat × Value) [1, 2, 3] rfl (fun z => z.1 ≤ lE) (fun z => lE - z.1) (fun z => [(7, z.2), (8, .int .i64 (z.1 : Int))]) (fun z => h1) (fun z => [Res.row z.2 65 3 (flt (fun e => leqI n (ru n q) e.l lv) es z.1).length (((flt (fun e => leqI n (ru n q) e.l lv) es z.1).map evC).flatten)]) (0, .slice none 0 0) [0] (Nat.zero_le _) ⟨rfl, rfl, trivial⟩ rfl rfl ?_
  rintro ⟨i, v7⟩ hI
  simp only at hI ⊢
  have hfl := flt_len (fun e => leqI n (ru n q) e.l lv) es i
  refine cy_seq ?_
  refine cy_seq ?_
  refine cy_region ?_
  refine sy_move rfl rfl rfl ?_
  refine sy_move rfl rfl rfl ?_
  refine sy_len rfl (len_slice Tryd.underlying59 _ _ _) rfl rfl ?_
  refine sy_cmp rfl rfl rfl rfl rfl ?_
  refine sy_nil rfl ?_
  refine ny_next ?_
  refine cy_cond rfl (fun hc12 => ?_) (fun hc12 => ?_)
  · have hlti : i < lE := by have := of_decide_eq_true hc12; omega
    refine cy_skip ?_
    refine ny_next ?_
    refine cy_seq ?_
    refine cy_block ?_
    refine cy_seq ?_
    refine cy_regionQ mixedA (by kernel_rfl) ?_
    refine sy_ldah (vs := [.slice A n c]) agg_52 rfl rfl (Hp.blk hby) rfl rfl ?_
    refine sy_move rfl rfl rfl ?_
    refine sy_move rfl rfl rfl ?_
    refine sy_idxR (fc := evC) (es := es) els_59 rfl rfl hE hlE (by omega) rfl rfl (fun e18 b18 o18 he18 hA18 hc18 => ?_)
    refine sy_field fld_65_1 rfl rfl rfl ?_
    refine sy_ldh one_3 rfl (hc18 1 _ rfl) rfl rfl ?_
    refine sy_move rfl rfl rfl ?_
    refine sy_call rfl call_65 rfl (rLeqT_c A n c q hn hin _ _ _ hT) rfl rfl ?_
    refine sy_nil rfl ?_
    refine ny_next ?_
    refine cy_cond rfl (fun hc22 => ?_) (fun hc22 => ?_)
    · refine cy_region ?_
      refine sy_move rfl rfl rfl ?_
      refine sy_move rfl rfl rfl ?_
      refine sy_move rfl rfl rfl ?_
      refine sy_idxR (fc := evC) (es := es) els_59 rfl rfl hE hlE (by omega) rfl rfl (fun e26 b26 o26 he26 hA26 hc26 => ?_)
      obtain rfl : e26 = e18 := by rw [he26] at he18; injection he18
      refine sy_ldah (vs := evC e26) agg_65 rfl rfl hc26 rfl rfl ?_
      refine sy_buildSlice rfl (fun w => bsl_59_1_0 w) rfl rfl (fun b28 hb28 hM28 => ?_) (by simp)
      refine sy_append 1 0 row_59 (by decide) rfl rfl rfl rfl rfl rfl (by omega) (by simp only [maxLen]; omega) rfl rfl (fun v29 => ?_)
      refine sy_assign rfl rfl rfl ?_
      refine sy_nil rfl ?_
      refine ny_blockN ?_
      refine ny_next ?_
      refine cy_region ?_
      refine sy_move rfl rfl rfl ?_
      refine sy_addi (z := ((i + 1 : Nat) : Int)) rfl rfl (by omega) (by omega) (by omega) rfl rfl ?_
      refine sy_assign rfl rfl rfl ?_
      refine sy_nil rfl ?_
      refine ny_roundK [1, 2, 3] (i + 1, v29) [0] (show i + 1 ≤ lE by omega) (show lE - (i + 1) < lE - i by omega) rfl ⟨rfl, rfl, trivial⟩ rfl (by show _ = some [Res.row v29 65 3 (flt (fun e => leqI n (ru n q) e.l lv) es (i + 1)).length (((flt (fun e => leqI n (ru n q) e.l lv) es (i + 1)).map evC).flatten)]; rw [flt_yes (pr := (fun e => leqI n (ru n q) e.l lv)) he18 hc22, List.length_append, evs_snoc]; rfl)
    · refine cy_skip ?_
      refine ny_blockN ?_
      refine ny_next ?_
      refine cy_region ?_
      refine sy_move rfl rfl rfl ?_
      refine sy_addi (z := ((i + 1 : Nat) : Int)) rfl rfl (by omega) (by omega) (by omega) rfl rfl ?_
      refine sy_assign rfl rfl rfl ?_
      refine sy_nil rfl ?_
      refine ny_roundK [1, 2, 3] (i + 1, v7) [0] (show i + 1 ≤ lE by omega) (show lE - (i + 1) < lE - i by omega) rfl ⟨rfl, rfl, trivial⟩ rfl (by show _ = some [Res.row v7 65 3 (flt (fun e => leqI n (ru n q) e.l lv) es (i + 1)).length (((flt (fun e => leqI n (ru n q) e.l lv) es (i + 1)).map evC).flatten)]; rw [flt_no (pr := (fun e => leqI n (ru n q) e.l lv)) he18 hc22]; rfl)
  · have hie : i = es.length := by have := of_decide_eq_false hc12; omega
    subst hie
    refine cy_exit ?_
    refine ny_thenE ?_
    refine ny_thenE ?_
    refine ny_blockX ?_
    refine ny_next ?_
    refine cy_seq ?_
    refine cy_region ?_
    refine sy_move rfl rfl rfl ?_
    refine sy_assign rfl rfl rfl ?_
    refine sy_nil rfl ?_
    refine ny_next ?_
    refine cy_ret ?_
    refine ny_finR (res1 rfl rfl) (fun w hs => ?_)
    obtain ⟨A2, c2, h9, rfl, hlc, hcm, hlen, hle, hcell, hpos, hs2⟩ := frzRow 0 rfl (fun _ _ => by simp) hs
    rw [flt_all] at *
    exact ⟨(A2, c2), h9, rfl, ⟨rows_row (by decide) (evC_len _) hcell, hlc⟩, hs2.toGrow⟩
theorem evEq_symm (e f : Ev) : evEq e f = evEq f e := by
  unfold evEq
  rw [Bool.eq_iff_iff]
  simp only [Bool.and_eq_true, beq_iff_eq, decide_eq_true_eq]
  constructor <;> (intro h; simp_all)
theorem besideN_symm (es fs : List Ev) (i : Nat) : besideN es fs i = besideN fs es i := by
  unfold besideN
  congr 1
  funext j
  cases es[j]? <;> cases fs[j]? <;> simp [evEq_symm]
theorem begins_or (es fs : List Ev) : ((decide (es.length ≤ fs.length) && besideN es fs es.length) || (decide (fs.length ≤ es.length) && besideN fs es fs.length)) = besideB es fs := by
  unfold besideB
  rcases Nat.lt_trichotomy es.length fs.length with h | h | h
  · rw [Nat.min_eq_left (by omega), decide_eq_true (show es.length ≤ fs.length by omega), decide_eq_false (show ¬ fs.length ≤ es.length by omega)]
    simp
  · rw [Nat.min_eq_left (by omega), besideN_symm fs es, ← h]
    simp
  · rw [Nat.min_eq_right (by omega), decide_eq_false (show ¬ es.length ≤ fs.length by omega), decide_eq_true (show fs.length ≤ es.length by omega), besideN_symm fs es]
    simp
set_option maxRecDepth 100000 in
theorem rbes_c (h : Hp) (AE : Option Addr) (lE cE : Nat) (es : List Ev) (hE : RowsAt h AE 3 (es.map evC)) (hlE : es.length = lE) (hcE : lE ≤ cE) (hBE : lE * 32 ≤ 140737488355328) (AX : Option Addr) (lX cX : Nat) (fs : List Ev) (hX : RowsAt h AX 3 (fs.map evC)) (hlX : fs.length = lX) (hcX : lX ≤ cX) (hBX : lX * 32 ≤ 140737488355328) : C0 Tryd.prog 50 [.slice AE lE cE, .slice AX lX cX] h (.bool (besideB es fs)) := by
  refine enter0 Tryd.func50 rfl rfl rfl (fun w => ?_)
  refine cy_seq ?_
  refine cy_region ?_
  refine sy_assign rfl rfl rfl ?_
  refine sy_nil rfl ?_
  refine ny_next ?_
  refine cy_seq ?_
  refine cy_region ?_
  refine sy_move rfl rfl rfl ?_
  refine sy_move rfl rfl rfl ?_
  refine sy_call rfl call_68 rfl (begins_c AE AX lE cE lX cX es fs _ hE hlE hX hlX (by omega) (by omega)) rfl rfl ?_
  refine sy_move rfl rfl rfl ?_
  refine sy_cond (d := 8) _ rfl rfl (fun hg8 => ?_) (fun hg8 => ?_)
  · refine sy_skip rfl rfl rfl ?_
    refine sy_skip rfl rfl rfl ?_
    refine sy_skip rfl rfl rfl ?_
    refine sy_pickT rfl rfl rfl rfl ?_
    refine sy_assign rfl rfl rfl ?_
    refine sy_nil rfl ?_
    refine ny_next ?_
    refine cy_ret ?_
    refine ny_finR (res1 rfl rfl) (fun w hs2 => ⟨?_, hs2.frm⟩)
    subst hlE hlX
    rw [← begins_or, hg8]
    first | rfl | (rw [Bool.true_or]) | (rw [Bool.false_or])
  · refine sy_move rfl rfl rfl ?_
    refine sy_move rfl rfl rfl ?_
    refine sy_call rfl call_68 rfl (begins_c AX AE lX cX lE cE fs es _ hX hlX hE hlE (by omega) (by omega)) rfl rfl ?_
    refine sy_pickF rfl rfl rfl rfl ?_
    refine sy_assign rfl rfl rfl ?_
    refine sy_nil rfl ?_
    refine ny_next ?_
    refine cy_ret ?_
    refine ny_finR (res1 rfl rfl) (fun w hs2 => ⟨?_, hs2.frm⟩)
    subst hlE hlX
    rw [← begins_or, hg8]
    first | rfl | (rw [Bool.true_or]) | (rw [Bool.false_or])
set_option maxRecDepth 100000 in
theorem rtexts_c (h : Hp) (AE : Option Addr) (lE cE : Nat) (es : List Ev) (hE : RowsAt h AE 3 (es.map evC)) (hlE : es.length = lE) (hcE : lE ≤ cE) (hBE : lE * 32 ≤ 140737488355328) (hk : ∀ e, e ∈ es → okE e) : CX Tryd.prog 45 [.slice AE lE cE] h (fun x : Option Addr × Nat => .slice x.1 es.length x.2) (fun x h' => RowsAt h' x.1 1 (es.map fun e => [Value.string (txt e)]) ∧ es.length ≤ x.2) := by
  refine enterX Tryd.func45 rfl rfl rfl (fun w => ?_)
  refine cy_seq ?_
  refine cy_region ?_
  refine sy_assign rfl rfl rfl ?_
  refine sy_nil rfl ?_
  refine ny_next ?_
  refine cy_seq ?_
  refine cy_region ?_
  refine sy_assign rfl rfl rfl ?_
  refine sy_nil rfl ?_
  refine ny_next ?_
  refine cy_seq ?_
  refine cy_seq ?_
  refine cy_region ?_
  refine sy_assign rfl rfl rfl ?_
  refine sy_nil rfl ?_
  refine ny_next ?_
  refine cy_block ?_
  refine cy_nilRow 9 1 ?_
  refine cy_loopK (ι := Nat × Value) [0] rfl (fun z => z.1 ≤ lE) (fun z => lE - z.1) (fun z => [(3, z.2), (4, .int .i64 (z.1 : Int))]) (fun z => h) (fun z => [Res.row z.2 9 1 z.1 (((es.take z.1).map fun e => [Value.string (txt e)]).flatten)]) (0, .slice none 0 0) [0] (Nat.zero_le _) ⟨rfl, rfl, trivial⟩ rfl rfl ?_
  rintro ⟨i, v3⟩ hI
  simp only at hI ⊢
  refine cy_seq ?_
  refine cy_seq ?_
  refine cy_region ?_
  refine sy_move rfl rfl rfl ?_
  refine sy_move rfl rfl rfl ?_
  refine sy_len rfl (len_slice Tryd.underlying59 _ _ _) rfl rfl ?_
  refine sy_cmp rfl rfl rfl rfl rfl ?_
  refine sy_nil rfl ?_
  refine ny_next ?_
  refine cy_cond rfl (fun hc8 => ?_) (fun hc8 => ?_)
  · have hlti : i < lE := by have := of_decide_eq_true hc8; omega
    refine cy_skip ?_
    refine ny_next ?_
    refine cy_seq ?_
    refine cy_block ?_
    refine cy_regionA mixedA ?_
    refine zy_q 0 rfl (by kernel_rfl) (fun hB5_0 => ?_)
    refine sy_move rfl rfl rfl ?_
    refine sy_nil1 (ny_zq hB5_0 ?_)
    refine zy_q 1 rfl (by kernel_rfl) (fun hB5_1 => ?_)
    refine sy_move rfl rfl rfl ?_
    refine sy_nil1 (ny_zq hB5_1 ?_)
    refine zy_q 2 rfl (by kernel_rfl) (fun hB5_2 => ?_)
    refine sy_move rfl rfl rfl ?_
    refine sy_nil1 (ny_zq hB5_2 ?_)
    refine zy_q 3 rfl (by kernel_rfl) (fun hB5_3 => ?_)
    refine sy_idxR (fc := evC) (es := es) els_59 rfl rfl hE hlE (by omega) rfl rfl (fun e14 b14 o14 he14 hA14 hc14 => ?_)
    refine sy_nil1 (ny_zq hB5_3 ?_)
    refine zy_q 4 rfl (by kernel_rfl) (fun hB5_4 => ?_)
    refine sy_field fld_65_0 rfl rfl rfl ?_
    refine sy_nil1 (ny_zq hB5_4 ?_)
    refine zy_q 5 rfl (by kernel_rfl) (fun hB5_5 => ?_)
    refine sy_ldh one_3 rfl (hc14 0 _ rfl) rfl rfl ?_
    refine sy_nil1 (ny_zq hB5_5 ?_)
    refine zy_q 8 rfl (by kernel_rfl) (fun hB5_8 => ?_)
    refine sy_move rfl rfl rfl ?_
    refine sy_nil1 (ny_zq hB5_8 ?_)
    refine zy_q 9 rfl (by kernel_rfl) (fun hB5_9 => ?_)
    refine sy_move rfl rfl rfl ?_
    refine sy_nil1 (ny_zq hB5_9 ?_)
    refine zy_q 10 rfl (by kernel_rfl) (fun hB5_10 => ?_)
    refine sy_idxR (fc := evC) (es := es) els_59 rfl rfl hE hlE (by omega) rfl rfl (fun e21 b21 o21 he21 hA21 hc21 => ?_)
    obtain rfl : e14 = e21 := by rw [he14] at he21; injection he21
    refine sy_nil1 (ny_zq hB5_10 ?_)
    refine zy_q 11 rfl (by kernel_rfl) (fun hB5_11 => ?_)
    refine sy_field fld_65_2 rfl rfl rfl ?_
    refine sy_nil1 (ny_zq hB5_11 ?_)
    refine zy_q 12 rfl (by kernel_rfl) (fun hB5_12 => ?_)
    refine sy_ldh one_9 rfl (hc21 2 _ rfl) rfl rfl ?_
    refine sy_nil1 (ny_zq hB5_12 ?_)
    refine zy_1 6 (by kernel_rfl) ?_
    refine zop_run rfl rfl (fun hB5_6 => ?_)
    have hk9 := hk e14 (List.mem_of_getElem? he14)
    refine sy_call rfl call_57 rfl (figT_c _ e14.k _ rfl hk9.k0 hk9.k1) rfl rfl ?_
    refine sy_nil rfl (ny_zy hB5_6 (Hp.Le.refl _) ?_)
    refine zy_q 7 rfl (by kernel_rfl) (fun hB5_7 => ?_)
    refine sy_cat rfl rfl (by have := itoa_size e14.k hk9.k0 hk9.k1; simp only [size1]; omega) rfl rfl ?_
    refine sy_nil1 (ny_zq hB5_7 ?_)
    refine zy_q 13 rfl (by kernel_rfl) (fun hB5_13 => ?_)
    refine sy_cat rfl rfl (by have := itoa_size e14.k hk9.k0 hk9.k1; have := hk9.s0; simp only [ByteArray.size_append, size1]; omega) rfl rfl ?_
    refine sy_nil1 (ny_zq hB5_13 ?_)
    refine zy_1 14 (by kernel_rfl) ?_
    refine zop_run rfl rfl (fun hB5_14 => ?_)
    refine sy_buildSlice rfl (fun w => bsl_72_1_0 w) rfl rfl (fun b25 hb25 hM25 => ?_) (by simp)
    refine sy_nil rfl (ny_zy hB5_14 (Hp.Le.refl _) ?_)
    refine zy_1 15 (by kernel_rfl) ?_
    refine zop_run rfl rfl (fun hB5_15 => ?_)
    refine sy_append 1 0 row_72 (by decide) rfl rfl rfl rfl rfl rfl (by omega) (by simp only [maxLen]; omega) rfl rfl (fun v26 => ?_)
    refine sy_nil rfl (ny_zy hB5_15 (Hp.Le.refl _) ?_)
    refine zy_q 16 rfl (by kernel_rfl) (fun hB5_16 => ?_)
    refine sy_assign rfl rfl rfl ?_
    refine sy_nil1 (ny_zq hB5_16 ?_)
    refine zy_done (by kernel_rfl) ?_
    refine ny_blockN ?_
    refine ny_next ?_
    refine cy_region ?_
    refine sy_move rfl rfl rfl ?_
    refine sy_addi (z := ((i + 1 : Nat) : Int)) rfl rfl (by omega) (by omega) (by omega) rfl rfl ?_
    refine sy_assign rfl rfl rfl ?_
    refine sy_nil rfl ?_
    refine ny_roundK [0] (i + 1, v26) [0] (show i + 1 ≤ lE by omega) (show lE - (i + 1) < lE - i by omega) rfl ⟨rfl, rfl, trivial⟩ rfl (by show _ = some [Res.row v26 9 1 (i + 1) (((es.take (i + 1)).map fun e => [Value.string (txt e)]).flatten)]; rw [strs_snoc he14]; rfl)
  · have hie : i = es.length := by have := of_decide_eq_false hc8; omega
    subst hie
    refine cy_exit ?_
    refine ny_thenE ?_
    refine ny_thenE ?_
    refine ny_blockX ?_
    refine ny_next ?_
    refine cy_seq ?_
    refine cy_region ?_
    refine sy_move rfl rfl rfl ?_
    refine sy_assign rfl rfl rfl ?_
    refine sy_nil rfl ?_
    refine ny_next ?_
    refine cy_ret ?_
    refine ny_finR (res1 rfl rfl) (fun w hs => ?_)
    obtain ⟨A2, c2, h2, rfl, hlc, hcm, hlen, hle, hcell, hpos, hs2⟩ := frzRow 0 rfl (fun _ _ => by simp) hs
    rw [List.take_length] at hcell
    exact ⟨(A2, c2), h2, rfl, ⟨rows_row (by decide) (str_len _ _) hcell, hlc⟩, hs2.toGrow⟩
set_option maxRecDepth 100000 in
theorem sees_bad (n : Int) (AE : Option Addr) (lE cE : Nat) (AX : Option Addr) (lX cX : Nat) (t : GT) (n0 n1 n2 : Int) (A : Option Addr) (l c L : Nat) (q : List (Int × Int)) (h : Hp) (hlc : l ≤ c) (hL : L = min l 60) (hq : PairsAt h A q) (hql : q.length = L) (ht : Tab10 h) (e : Int) (hb : ∀ h, PairsAt h A q → C0 Tryd.prog 18 [.int .i64 n, .slice A L c] h (newV (none, e))) (hr : ∀ h, PairsAt h A q → C0 Tryd.prog 30 [.int .i64 n, .slice A L c] h (refV ((none, 0, 0), e))) : C0 Tryd.prog 15 [.agg #[.int .i64 n, .slice A l c], .slice AE lE cE, .slice AX lX cX, .agg (GT.cells t).toArray, .agg #[.int .i64 n0, .int .i64 n1, .int .i64 n2]] h (.bool true) := by
  refine enter0 Tryd.func15 rfl rfl rfl (fun w => ?_)
  refine cy_seq ?_
  refine cy_region ?_
  refine sy_box rfl rfl rfl rfl (fun b5 hb5 hM5 => ?_) (by simp)
  refine sy_box rfl rfl rfl rfl (fun b8 hb8 hM8 => ?_) (by simp)
  refine sy_box rfl rfl rfl rfl (fun b9 hb9 hM9 => ?_) (by simp)
  refine sy_assign rfl rfl rfl ?_
  refine sy_nil rfl ?_
  refine ny_next ?_
  refine cy_seq ?_
  refine cy_region ?_
  refine sy_call rfl call_34 rfl (shown15_c _ ht) rfl rfl ?_
  refine sy_assign rfl rfl rfl ?_
  refine sy_nil rfl ?_
  refine ny_next ?_
  refine cy_seq ?_
  refine cy_region ?_
  first | refine sy_ldar 0 agg_24 rfl rfl rfl rfl rfl ?_ | refine sy_ldar 1 agg_24 rfl rfl rfl rfl rfl ?_ | refine sy_ldar 2 agg_24 rfl rfl rfl rfl rfl ?_
  refine sy_call rfl call_35 rfl (of_bad n A l c L q _ hlc hL hq hql e hb hr) rfl rfl ?_
  refine sy_move rfl rfl rfl ?_
  refine sy_extract rfl rfl rfl rfl ?_
  refine sy_extract rfl rfl rfl rfl ?_
  refine sy_alloc zer_52 rfl rfl (fun b13 hb13 hM13 => ?_) (by simp)
  refine sy_assign rfl rfl rfl ?_
  first | refine sy_stl 0 sz_52 rfl rfl rfl rfl rfl rfl rfl rfl ?_ | refine sy_stl 1 sz_52 rfl rfl rfl rfl rfl rfl rfl rfl ?_ | refine sy_stl 2 sz_52 rfl rfl rfl rfl rfl rfl rfl rfl ?_
  refine sy_nil rfl ?_
  refine ny_next ?_
  refine cy_seq ?_
  refine cy_seq ?_
  refine cy_region ?_
  refine sy_move rfl rfl rfl ?_
  refine sy_eqp Tryd.underlying27 rfl rfl rfl rfl rfl ?_
  refine sy_setT (d := 23) rfl rfl rfl ?_
  refine sy_move rfl rfl rfl ?_
  refine sy_skip rfl rfl rfl ?_
  refine sy_skip rfl rfl rfl ?_
  refine sy_skip rfl rfl rfl ?_
  refine sy_pickT rfl rfl rfl rfl ?_
  refine sy_nil rfl ?_
  refine ny_next ?_
  refine cy_condT rfl ?_
  refine cy_seq ?_
  refine cy_region ?_
  refine sy_move rfl rfl rfl ?_
  refine sy_assign rfl rfl rfl ?_
  refine sy_nil rfl ?_
  refine ny_next ?_
  refine cy_ret ?_
  refine ny_thenR ?_
  exact ny_finR (res1 rfl rfl) (fun w hs => ⟨rfl, hs.frm⟩)
set_option maxRecDepth 100000 in
theorem sees_good (k : Nat) (t : GT) (n0 n1 n2 : Int) (A : Option Addr) (l c L : Nat) (q : List (Int × Int)) (h : Hp) (hlc : l ≤ c) (hL : L = min l 60) (hq : PairsAt h A q) (hql : q.length = L) (AE : Option Addr) (lE cE : Nat) (es : List Ev) (hE : RowsAt h AE 3 (es.map evC)) (hlE : es.length = lE) (hcE : lE ≤ cE) (hBE : lE * 32 ≤ 140737488355328) (AX : Option Addr) (lX cX : Nat) (fs : List Ev) (hX : RowsAt h AX 3 (fs.map evC)) (hlX : fs.length = lX) (hcX : lX ≤ cX) (hBX : lX * 32 ≤ 140737488355328) (hokE : ∀ e, e ∈ es → okE e) (ht : Tab10 h) (hF : Fine (k : Int) q) (j m2 : Nat → Nat → Nat) (lo hi : Nat) (L2 : Lat2 k q j m2 lo hi) (hlt : Lies h t) (hft : Fits t) : C0 Tryd.prog 15 [.agg #[.int .i64 (k : Int), .slice A l c], .slice AE lE cE, .slice AX lX cX, .agg (GT.cells t).toArray, .agg #[.int .i64 n0, .int .i64 n1, .int .i64 n2]] h (.bool true) := by
  have hk1 : 1 ≤ k := by have := hF.1; omega
  have hk2 : k ≤ 16 := by have := hF.2.1; omega
  have hin : InR k q := hF.2.2.1
  refine enter0 Tryd.func15 rfl rfl rfl (fun w => ?_)
  refine cy_seq ?_
  refine cy_region ?_
  refine sy_box rfl rfl rfl rfl (fun b5 hb5 hM5 => ?_) (by simp)
  refine sy_box rfl rfl rfl rfl (fun b8 hb8 hM8 => ?_) (by simp)
  refine sy_box rfl rfl rfl rfl (fun b9 hb9 hM9 => ?_) (by simp)
  refine sy_assign rfl rfl rfl ?_
  refine sy_nil rfl ?_
  refine ny_next ?_
  refine cy_seq ?_
  refine cy_region ?_
  refine sy_call rfl call_34 rfl (shown15_c _ ht) rfl rfl ?_
  refine sy_assign rfl rfl rfl ?_
  refine sy_nil rfl ?_
  refine ny_next ?_
  refine cy_seq ?_
  refine cy_region ?_
  first | refine sy_ldar 0 agg_24 rfl rfl rfl rfl rfl ?_ | refine sy_ldar 1 agg_24 rfl rfl rfl rfl rfl ?_ | refine sy_ldar 2 agg_24 rfl rfl rfl rfl rfl ?_ | refine sy_ldar 3 agg_24 rfl rfl rfl rfl rfl ?_ | refine sy_ldar 4 agg_24 rfl rfl rfl rfl rfl ?_
  refine sy_callx call_35 rfl (of_good k A l c L q _ hlc hL hq hql hF) rfl rfl (fun x19 h19 hx19 hle19 => ?_)
  have ht := ht.le hle19
  have hlt := hlt.le hle19
  have hE := hE.le hle19
  have hX := hX.le hle19
  obtain ⟨g, A5, c5⟩ := x19
  obtain ⟨hg, hT⟩ := hx19
  simp only at hg hT ⊢
  refine sy_move rfl rfl rfl ?_
  refine sy_extract rfl rfl rfl rfl ?_
  refine sy_extract rfl rfl rfl rfl ?_
  refine sy_alloc zer_52 rfl rfl (fun b13 hb13 hM13 => ?_) (by simp)
  refine sy_assign rfl rfl rfl ?_
  first | refine sy_stl 0 sz_52 rfl rfl rfl rfl rfl rfl rfl rfl ?_ | refine sy_stl 1 sz_52 rfl rfl rfl rfl rfl rfl rfl rfl ?_ | refine sy_stl 2 sz_52 rfl rfl rfl rfl rfl rfl rfl rfl ?_ | refine sy_stl 3 sz_52 rfl rfl rfl rfl rfl rfl rfl rfl ?_ | refine sy_stl 4 sz_52 rfl rfl rfl rfl rfl rfl rfl rfl ?_
  refine sy_nil rfl ?_
  refine ny_next ?_
  refine cy_seq ?_
  refine cy_seq ?_
  refine cy_region ?_
  refine sy_move rfl rfl rfl ?_
  refine sy_eqp Tryd.underlying27 rfl rfl rfl rfl rfl ?_
  refine sy_setF (d := 23) rfl rfl rfl ?_
  refine sy_move rfl rfl rfl ?_
  first | refine sy_ldar 0 agg_79 rfl rfl rfl rfl rfl ?_ | refine sy_ldar 1 agg_79 rfl rfl rfl rfl rfl ?_ | refine sy_ldar 2 agg_79 rfl rfl rfl rfl rfl ?_ | refine sy_ldar 3 agg_79 rfl rfl rfl rfl rfl ?_ | refine sy_ldar 4 agg_79 rfl rfl rfl rfl rfl ?_
  refine sy_call rfl call_44 rfl (size_c t _ hlt hft) rfl rfl ?_
  refine sy_cmp rfl rfl rfl rfl rfl ?_
  refine sy_pickF rfl rfl rfl rfl ?_
  refine sy_nil rfl ?_
  refine ny_next ?_
  refine cy_cond rfl (fun hc28 => ?_) (fun hc28 => ?_)
  · refine cy_seq ?_
    refine cy_region ?_
    refine sy_move rfl rfl rfl ?_
    refine sy_assign rfl rfl rfl ?_
    refine sy_nil rfl ?_
    refine ny_next ?_
    refine cy_ret ?_
    refine ny_thenR ?_
    exact ny_finR (res1 rfl rfl) (fun w hs => ⟨rfl, hs.frm⟩)
  · refine cy_skip ?_
    refine ny_next ?_
    refine cy_seq ?_
    refine cy_region ?_
    refine sy_move rfl rfl rfl ?_
    refine sy_callx call_41 rfl (texts_c AE lE cE es _ hE hlE hBE hokE ht) rfl rfl (fun x31 h31 hx31 hle31 => ?_)
    have ht := ht.le hle31
    have hlt := hlt.le hle31
    have hE := hE.le hle31
    have hX := hX.le hle31
    have hg := hle31 _ _ hg
    have hT := hT.le hle31
    obtain ⟨A31, c31⟩ := x31
    obtain ⟨hv31, hvc31⟩ := hx31
    simp only at hv31 hvc31 ⊢
    refine sy_assign rfl rfl rfl ?_
    refine sy_nil rfl ?_
    refine ny_next ?_
    refine cy_seq ?_
    refine cy_region ?_
    refine sy_move rfl rfl rfl ?_
    refine sy_callx call_45 rfl (rtexts_c _ AE lE cE es hE hlE hcE hBE hokE) rfl rfl (fun x33 h33 hx33 hle33 => ?_)
    have ht := ht.le hle33
    have hlt := hlt.le hle33
    have hE := hE.le hle33
    have hX := hX.le hle33
    have hg := hle33 _ _ hg
    have hT := hT.le hle33
    have hv31 := hv31.le hle33
    obtain ⟨A33, c33⟩ := x33
    obtain ⟨hv33, hvc33⟩ := hx33
    simp only at hv33 hvc33 ⊢
    refine sy_assign rfl rfl rfl ?_
    refine sy_nil rfl ?_
    refine ny_next ?_
    refine cy_seq ?_
    refine cy_frz 0 rfl (by simp) (fun hp13 hle13z hb13 => ?_)
    replace ht := ht.le hle13z
    replace hlt := hlt.le hle13z
    replace hE := hE.le hle13z
    replace hX := hX.le hle13z
    replace hT := hT.le hle13z
    replace hv31 := hv31.le hle13z
    replace hv33 := hv33.le hle13z
    replace hg := hle13z _ _ hg
    refine cy_frz 0 rfl (by simp) (fun hp9 hle9z hb9 => ?_)
    replace ht := ht.le hle9z
    replace hlt := hlt.le hle9z
    replace hE := hE.le hle9z
    replace hX := hX.le hle9z
    replace hT := hT.le hle9z
    replace hv31 := hv31.le hle9z
    replace hv33 := hv33.le hle9z
    replace hg := hle9z _ _ hg
    replace hb13 := hle9z _ _ hb13
    refine cy_frz 0 rfl (by simp) (fun hp8 hle8z hb8 => ?_)
    replace ht := ht.le hle8z
    replace hlt := hlt.le hle8z
    replace hE := hE.le hle8z
    replace hX := hX.le hle8z
    replace hT := hT.le hle8z
    replace hv31 := hv31.le hle8z
    replace hv33 := hv33.le hle8z
    replace hg := hle8z _ _ hg
    replace hb13 := hle8z _ _ hb13
    replace hb9 := hle8z _ _ hb9
    refine cy_regionA mixedA ?_
    refine zy_q 0 rfl (by kernel_rfl) (fun hB7_0 => ?_)
    refine sy_move rfl rfl rfl ?_
    refine sy_nil1 (ny_zq hB7_0 ?_)
    refine zy_q 1 rfl (by kernel_rfl) (fun hB7_1 => ?_)
    refine sy_move rfl rfl rfl ?_
    refine sy_nil1 (ny_zq hB7_1 ?_)
    refine zy_q 2 rfl (by kernel_rfl) (fun hB7_2 => ?_)
    refine sy_setT (d := 35) rfl rfl (by first | rfl | decide | simp) ?_
    refine sy_move rfl rfl rfl ?_
    refine sy_nil1 (ny_zq hB7_2 ?_)
    refine zy_q 3 rfl (by kernel_rfl) (fun hB7_3 => ?_)
    refine sy_idxA (i := 0) arr_80 rfl rfl (by decide) (by decide) rfl rfl ?_
    refine sy_nil1 (ny_zq hB7_3 ?_)
    refine zy_q 4 rfl (by kernel_rfl) (fun hB7_4 => ?_)
    refine sy_ldh one_3 rfl (Hp.blk hb9 0 _ rfl) rfl rfl ?_
    refine sy_nil1 (ny_zq hB7_4 ?_)
    refine zy_q 6 rfl (by kernel_rfl) (fun hB7_6 => ?_)
    refine sy_ldah (vs := [.slice A5 k c5]) agg_52 rfl rfl (Hp.blk hb13) rfl rfl ?_
    refine sy_nil1 (ny_zq hB7_6 ?_)
    refine zy_q 7 rfl (by kernel_rfl) (fun hB7_7 => ?_)
    refine sy_idxA (i := 0) arr_80 rfl rfl (by decide) (by decide) rfl rfl ?_
    refine sy_nil1 (ny_zq hB7_7 ?_)
    refine zy_q 8 rfl (by kernel_rfl) (fun hB7_8 => ?_)
    refine sy_ldh one_3 rfl (Hp.blk hb9 0 _ rfl) rfl rfl ?_
    refine sy_nil1 (ny_zq hB7_8 ?_)
    refine zy_1 5 (by kernel_rfl) ?_
    refine zop_run rfl rfl (fun hB7_5 => ?_)
    refine sy_call rfl call_40 rfl (level_c _ _ _ _ hg hk1 hk2 (ru_lt hk2 q) _) rfl rfl ?_
    refine sy_nil rfl (ny_zy hB7_5 (Hp.Le.refl _) ?_)
    refine zy_1 9 (by kernel_rfl) ?_
    refine zop_run rfl rfl (fun hB7_9 => ?_)
    refine sy_call rfl call_46 rfl (rlev15_c A5 k c5 q hk2 hin j m2 lo hi L2 _ _ hT) rfl rfl ?_
    refine sy_nil rfl (ny_zy hB7_9 (Hp.Le.refl _) ?_)
    refine zy_q 10 rfl (by kernel_rfl) (fun hB7_10 => ?_)
    refine sy_cmp rfl rfl rfl rfl rfl ?_
    refine sy_setT (d := 44) rfl rfl (by simp) ?_
    refine sy_nil1 (ny_zq hB7_10 ?_)
    refine zy_q 11 rfl (by kernel_rfl) (fun hB7_11 => ?_)
    refine sy_pickT rfl rfl rfl rfl ?_
    refine sy_nil1 (ny_zq hB7_11 ?_)
    refine zy_q 12 rfl (by kernel_rfl) (fun hB7_12 => ?_)
    refine sy_move rfl rfl rfl ?_
    refine sy_nil1 (ny_zq hB7_12 ?_)
    refine zy_q 13 rfl (by kernel_rfl) (fun hB7_13 => ?_)
    refine sy_move rfl rfl rfl ?_
    refine sy_nil1 (ny_zq hB7_13 ?_)
    refine zy_q 14 rfl (by kernel_rfl) (fun hB7_14 => ?_)
    refine sy_idxA (i := 1) arr_80 rfl rfl (by decide) (by decide) rfl rfl ?_
    refine sy_nil1 (ny_zq hB7_14 ?_)
    refine zy_q 15 rfl (by kernel_rfl) (fun hB7_15 => ?_)
    refine sy_ldh one_3 rfl (Hp.blk hb9 1 _ rfl) rfl rfl ?_
    refine sy_nil1 (ny_zq hB7_15 ?_)
    refine zy_q 16 rfl (by kernel_rfl) (fun hB7_16 => ?_)
    refine sy_ldah (vs := GT.cells t) agg_79 rfl rfl (Hp.blk hb8) rfl rfl ?_
    refine sy_nil1 (ny_zq hB7_16 ?_)
    refine zy_q 17 rfl (by kernel_rfl) (fun hB7_17 => ?_)
    refine sy_idxA (i := 2) arr_80 rfl rfl (by decide) (by decide) rfl rfl ?_
    refine sy_nil1 (ny_zq hB7_17 ?_)
    refine zy_q 18 rfl (by kernel_rfl) (fun hB7_18 => ?_)
    refine sy_ldh one_3 rfl (Hp.blk hb9 2 _ rfl) rfl rfl ?_
    refine sy_nil1 (ny_zq hB7_18 ?_)
    refine zy_q 20 rfl (by kernel_rfl) (fun hB7_20 => ?_)
    refine sy_ldah (vs := [.slice A5 k c5]) agg_52 rfl rfl (Hp.blk hb13) rfl rfl ?_
    refine sy_nil1 (ny_zq hB7_20 ?_)
    refine zy_q 21 rfl (by kernel_rfl) (fun hB7_21 => ?_)
    refine sy_idxA (i := 1) arr_80 rfl rfl (by decide) (by decide) rfl rfl ?_
    refine sy_nil1 (ny_zq hB7_21 ?_)
    refine zy_q 22 rfl (by kernel_rfl) (fun hB7_22 => ?_)
    refine sy_ldh one_3 rfl (Hp.blk hb9 1 _ rfl) rfl rfl ?_
    refine sy_nil1 (ny_zq hB7_22 ?_)
    refine zy_q 23 rfl (by kernel_rfl) (fun hB7_23 => ?_)
    refine sy_ldah (vs := GT.cells t) agg_79 rfl rfl (Hp.blk hb8) rfl rfl ?_
    refine sy_nil1 (ny_zq hB7_23 ?_)
    refine zy_q 24 rfl (by kernel_rfl) (fun hB7_24 => ?_)
    refine sy_idxA (i := 2) arr_80 rfl rfl (by decide) (by decide) rfl rfl ?_
    refine sy_nil1 (ny_zq hB7_24 ?_)
    refine zy_q 25 rfl (by kernel_rfl) (fun hB7_25 => ?_)
    refine sy_ldh one_3 rfl (Hp.blk hb9 2 _ rfl) rfl rfl ?_
    refine sy_nil1 (ny_zq hB7_25 ?_)
    refine zy_1 19 (by kernel_rfl) ?_
    refine zop_run rfl rfl (fun hB7_19 => ?_)
    refine sy_call rfl call_47 rfl (cmay_c g k q j m2 lo hi hk2 L2 t _ _ _ hlt hft hg) rfl rfl ?_
    refine sy_nil rfl (ny_zy hB7_19 (Hp.Le.refl _) ?_)
    refine zy_1 26 (by kernel_rfl) ?_
    refine zop_run rfl rfl (fun hB7_26 => ?_)
    refine sy_call rfl call_48 rfl (rmay15_c A5 k c5 q hk2 hin j m2 lo hi L2 t _ _ _ hlt hft hT) rfl rfl ?_
    refine sy_nil rfl (ny_zy hB7_26 (Hp.Le.refl _) ?_)
    refine zy_q 27 rfl (by kernel_rfl) (fun hB7_27 => ?_)
    refine sy_eqb Tryd.underlying4 rfl rfl rfl rfl ?_
    refine sy_setT (d := 61) rfl rfl (by simp) ?_
    refine sy_nil1 (ny_zq hB7_27 ?_)
    refine zy_q 28 rfl (by kernel_rfl) (fun hB7_28 => ?_)
    refine sy_pickT rfl rfl rfl rfl ?_
    refine sy_nil1 (ny_zq hB7_28 ?_)
    refine zy_q 29 rfl (by kernel_rfl) (fun hB7_29 => ?_)
    refine sy_move rfl rfl rfl ?_
    refine sy_nil1 (ny_zq hB7_29 ?_)
    refine zy_q 30 rfl (by kernel_rfl) (fun hB7_30 => ?_)
    refine sy_move rfl rfl rfl ?_
    refine sy_nil1 (ny_zq hB7_30 ?_)
    refine zy_q 31 rfl (by kernel_rfl) (fun hB7_31 => ?_)
    refine sy_move rfl rfl rfl ?_
    refine sy_nil1 (ny_zq hB7_31 ?_)
    refine zy_q 32 rfl (by kernel_rfl) (fun hB7_32 => ?_)
    refine sy_idxA (i := 2) arr_80 rfl rfl (by decide) (by decide) rfl rfl ?_
    refine sy_nil1 (ny_zq hB7_32 ?_)
    refine zy_q 33 rfl (by kernel_rfl) (fun hB7_33 => ?_)
    refine sy_ldh one_3 rfl (Hp.blk hb9 2 _ rfl) rfl rfl ?_
    refine sy_nil1 (ny_zq hB7_33 ?_)
    refine zy_q 35 rfl (by kernel_rfl) (fun hB7_35 => ?_)
    refine sy_ldah (vs := [.slice A5 k c5]) agg_52 rfl rfl (Hp.blk hb13) rfl rfl ?_
    refine sy_nil1 (ny_zq hB7_35 ?_)
    refine zy_q 36 rfl (by kernel_rfl) (fun hB7_36 => ?_)
    refine sy_move rfl rfl rfl ?_
    refine sy_nil1 (ny_zq hB7_36 ?_)
    refine zy_q 37 rfl (by kernel_rfl) (fun hB7_37 => ?_)
    refine sy_idxA (i := 2) arr_80 rfl rfl (by decide) (by decide) rfl rfl ?_
    refine sy_nil1 (ny_zq hB7_37 ?_)
    refine zy_q 38 rfl (by kernel_rfl) (fun hB7_38 => ?_)
    refine sy_ldh one_3 rfl (Hp.blk hb9 2 _ rfl) rfl rfl ?_
    refine sy_nil1 (ny_zq hB7_38 ?_)
    refine zy_1 34 (by kernel_rfl) ?_
    refine zop_run rfl rfl (fun hB7_34 => ?_)
    refine sy_callx call_37 rfl (visible_c g k (ru k q) _ hg hk1 hk2 (ru_lt hk2 q) AE lE cE es n2 hE hlE hBE) rfl rfl (fun x68 h68 hx68 hle68 => ?_)
    have ht := ht.le hle68
    have hlt := hlt.le hle68
    have hE := hE.le hle68
    have hX := hX.le hle68
    have hg := hle68 _ _ hg
    have hT := hT.le hle68
    have hv31 := hv31.le hle68
    have hv33 := hv33.le hle68
    have hb13 := hle68 _ _ hb13
    have hb9 := hle68 _ _ hb9
    have hb8 := hle68 _ _ hb8
    obtain ⟨A68, c68⟩ := x68
    obtain ⟨hv68, hvc68⟩ := hx68
    simp only at hv68 hvc68 ⊢
    refine sy_nil rfl (ny_zy hB7_34 hle68 ?_)
    refine zy_1 39 (by kernel_rfl) ?_
    refine zop_run rfl rfl (fun hB7_39 => ?_)
    refine sy_callx call_49 rfl (rvis_c A5 k c5 q hk2 hin _ hT AE lE cE es hE hlE hcE hBE n2) rfl rfl (fun x73 h73 hx73 hle73 => ?_)
    have ht := ht.le hle73
    have hlt := hlt.le hle73
    have hE := hE.le hle73
    have hX := hX.le hle73
    have hg := hle73 _ _ hg
    have hT := hT.le hle73
    have hv31 := hv31.le hle73
    have hv33 := hv33.le hle73
    have hb13 := hle73 _ _ hb13
    have hb9 := hle73 _ _ hb9
    have hb8 := hle73 _ _ hb8
    have hv68 := hv68.le hle73
    obtain ⟨A73, c73⟩ := x73
    obtain ⟨hv73, hvc73⟩ := hx73
    simp only at hv73 hvc73 ⊢
    refine sy_nil rfl (ny_zy hB7_39 hle73 ?_)
    refine zy_1 40 (by kernel_rfl) ?_
    refine zop_run rfl rfl (fun hB7_40 => ?_)
    refine sy_call rfl call_38 rfl (same_c A68 A73 (vis k (ru k q) es n2).length c68 (vis k (ru k q) es n2).length c73 (vis k (ru k q) es n2) (vis k (ru k q) es n2) _ hv68 rfl hv73 rfl (by have h1 : (vis k (ru k q) es n2).length ≤ es.length := vis_le; omega) (by have h1 : (vis k (ru k q) es n2).length ≤ es.length := vis_le; omega)) rfl rfl ?_
    refine sy_setT (d := 74) rfl rfl (sameB_refl _) ?_
    refine sy_nil rfl (ny_zy hB7_40 (Hp.Le.refl _) ?_)
    refine zy_q 41 rfl (by kernel_rfl) (fun hB7_41 => ?_)
    refine sy_pickT rfl rfl rfl rfl ?_
    refine sy_nil1 (ny_zq hB7_41 ?_)
    refine zy_q 42 rfl (by kernel_rfl) (fun hB7_42 => ?_)
    refine sy_move rfl rfl rfl ?_
    refine sy_nil1 (ny_zq hB7_42 ?_)
    refine zy_q 43 rfl (by kernel_rfl) (fun hB7_43 => ?_)
    refine sy_move rfl rfl rfl ?_
    refine sy_nil1 (ny_zq hB7_43 ?_)
    refine zy_q 44 rfl (by kernel_rfl) (fun hB7_44 => ?_)
    refine sy_move rfl rfl rfl ?_
    refine sy_nil1 (ny_zq hB7_44 ?_)
    refine zy_q 46 rfl (by kernel_rfl) (fun hB7_46 => ?_)
    refine sy_move rfl rfl rfl ?_
    refine sy_nil1 (ny_zq hB7_46 ?_)
    refine zy_q 47 rfl (by kernel_rfl) (fun hB7_47 => ?_)
    refine sy_move rfl rfl rfl ?_
    refine sy_nil1 (ny_zq hB7_47 ?_)
    refine zy_1 45 (by kernel_rfl) ?_
    refine zop_run rfl rfl (fun hB7_45 => ?_)
    refine sy_call rfl call_39 rfl (beside_c AE AX lE cE lX cX es fs _ hE hlE hX hlX (by omega) (by omega)) rfl rfl ?_
    refine sy_nil rfl (ny_zy hB7_45 (Hp.Le.refl _) ?_)
    refine zy_1 48 (by kernel_rfl) ?_
    refine zop_run rfl rfl (fun hB7_48 => ?_)
    refine sy_call rfl call_50 rfl (rbes_c _ AE lE cE es hE hlE hcE hBE AX lX cX fs hX hlX hcX hBX) rfl rfl ?_
    refine sy_nil rfl (ny_zy hB7_48 (Hp.Le.refl _) ?_)
    refine zy_q 49 rfl (by kernel_rfl) (fun hB7_49 => ?_)
    refine sy_eqb Tryd.underlying4 rfl rfl rfl rfl ?_
    refine sy_setT (d := 83) rfl rfl (by simp) ?_
    refine sy_nil1 (ny_zq hB7_49 ?_)
    refine zy_q 50 rfl (by kernel_rfl) (fun hB7_50 => ?_)
    refine sy_pickT rfl rfl rfl rfl ?_
    refine sy_nil1 (ny_zq hB7_50 ?_)
    refine zy_q 51 rfl (by kernel_rfl) (fun hB7_51 => ?_)
    refine sy_move rfl rfl rfl ?_
    refine sy_nil1 (ny_zq hB7_51 ?_)
    refine zy_q 52 rfl (by kernel_rfl) (fun hB7_52 => ?_)
    refine sy_move rfl rfl rfl ?_
    refine sy_nil1 (ny_zq hB7_52 ?_)
    refine zy_q 53 rfl (by kernel_rfl) (fun hB7_53 => ?_)
    refine sy_len rfl (len_slice Tryd.underlying72 _ _ _) rfl rfl ?_
    refine sy_nil1 (ny_zq hB7_53 ?_)
    refine zy_q 54 rfl (by kernel_rfl) (fun hB7_54 => ?_)
    refine sy_move rfl rfl rfl ?_
    refine sy_nil1 (ny_zq hB7_54 ?_)
    refine zy_q 55 rfl (by kernel_rfl) (fun hB7_55 => ?_)
    refine sy_len rfl (len_slice Tryd.underlying72 _ _ _) rfl rfl ?_
    refine sy_nil1 (ny_zq hB7_55 ?_)
    refine zy_q 56 rfl (by kernel_rfl) (fun hB7_56 => ?_)
    refine sy_cmp rfl rfl rfl rfl rfl ?_
    refine sy_setT (d := 90) rfl rfl (by simp) ?_
    refine sy_nil1 (ny_zq hB7_56 ?_)
    refine zy_q 57 rfl (by kernel_rfl) (fun hB7_57 => ?_)
    refine sy_pickT rfl rfl rfl rfl ?_
    refine sy_nil1 (ny_zq hB7_57 ?_)
    refine zy_q 58 rfl (by kernel_rfl) (fun hB7_58 => ?_)
    refine sy_move rfl rfl rfl ?_
    refine sy_nil1 (ny_zq hB7_58 ?_)
    refine zy_q 59 rfl (by kernel_rfl) (fun hB7_59 => ?_)
    refine sy_move rfl rfl rfl ?_
    refine sy_nil1 (ny_zq hB7_59 ?_)
    refine zy_q 60 rfl (by kernel_rfl) (fun hB7_60 => ?_)
    refine sy_move rfl rfl rfl ?_
    refine sy_nil1 (ny_zq hB7_60 ?_)
    refine zy_1 61 (by kernel_rfl) ?_
    refine zop_run rfl rfl (fun hB7_61 => ?_)
    refine sy_call rfl call_42 rfl (strings_c A31 A33 es.length c31 es.length c33 (es.map txt) (es.map txt) _ (by rw [List.map_map]; exact hv31) (by simp) (by rw [List.map_map]; exact hv33) (by simp) (by omega) (by omega)) rfl rfl ?_
    refine sy_setT (d := 95) rfl rfl (by rw [strsN_self _ (by simp)]; simp) ?_
    refine sy_nil rfl (ny_zy hB7_61 (Hp.Le.refl _) ?_)
    refine zy_q 62 rfl (by kernel_rfl) (fun hB7_62 => ?_)
    refine sy_pickT rfl rfl rfl rfl ?_
    refine sy_nil1 (ny_zq hB7_62 ?_)
    refine zy_q 63 rfl (by kernel_rfl) (fun hB7_63 => ?_)
    refine sy_assign rfl rfl rfl ?_
    refine sy_nil1 (ny_zq hB7_63 ?_)
    refine zy_done (by kernel_rfl) ?_
    refine ny_next ?_
    refine cy_ret ?_
    exact ny_finR (res1 rfl rfl) (fun w hs => ⟨rfl, hs.frm⟩)
theorem sees_c (n : Int) (t : GT) (n0 n1 n2 : Int) (A : Option Addr) (l c L : Nat) (q : List (Int × Int)) (h : Hp) (hlc : l ≤ c) (hL : L = min l 60) (hq : PairsAt h A q) (hql : q.length = L) (AE : Option Addr) (lE cE : Nat) (es : List Ev) (hE : RowsAt h AE 3 (es.map evC)) (hlE : es.length = lE) (hcE : lE ≤ cE) (hBE : lE * 32 ≤ 140737488355328) (AX : Option Addr) (lX cX : Nat) (fs : List Ev) (hX : RowsAt h AX 3 (fs.map evC)) (hlX : fs.length = lX) (hcX : lX ≤ cX) (hBX : lX * 32 ≤ 140737488355328) (hokE : ∀ e, e ∈ es → okE e) (ht : Tab10 h) (hlt : Lies h t) (hft : Fits t) : C0 Tryd.prog 15 [.agg #[.int .i64 n, .slice A l c], .slice AE lE cE, .slice AX lX cX, .agg (GT.cells t).toArray, .agg #[.int .i64 n0, .int .i64 n1, .int .i64 n2]] h (.bool true) := by
  by_cases hF : Fine n q
  · obtain ⟨k, rfl⟩ := Int.eq_ofNat_of_zero_le (show 0 ≤ n by have := hF.1; omega)
    obtain ⟨j, m2, lo, hi, L2⟩ := IsLatt.two (n := k) hF.2.2.2 (by have := hF.1; omega)
    exact sees_good k t n0 n1 n2 A l c L q h hlc hL hq hql AE lE cE es hE hlE hcE hBE AX lX cX fs hX hlX hcX hBX hokE ht hF j m2 lo hi L2 hlt hft
  · obtain ⟨e, he, hb, hr⟩ := both_c n A L c q hql (by omega) hF
    exact sees_bad n AE lE cE AX lX cX t n0 n1 n2 A l c L q h hlc hL hq hql ht e hb hr
end Go.Proofs.YtamifocfbcmfkaaDoor

/- The laws on tokens: the walks. Conditions: as each says. Printed by a program of this session. -/
import Derived.Test.YtdbeiaohibgmeaaFactsQ
import Derived.Test.YtdbeiaohibgmeaaTokI
set_option linter.unusedVariables false
set_option linter.unusedSimpArgs false
namespace Go.Proofs.Ytdbeiaohibgmeaa
open Go.RowKit Go.Proofs.Ytdbeiaohibgmeaa.E Go.Proofs.Ytdbeiaohibgmeaa.ReplP Go.Proofs.Ytdbeiaohibgmeaa.TokP
set_option maxRecDepth 100000 in
theorem may_c (s : ByteArray) (h : Hp) (hs : s.size ≤ 9223372036854775807) : C0 Try.prog 8 [.string s] h (.bool (mayB s.data.toList)) := by
  refine enter0 Try.func8 rfl rfl rfl (fun w => ?_)
  refine cy_seq ?_
  refine cy_region ?_
  refine sy_assign rfl rfl rfl ?_
  refine sy_nil rfl ?_
  refine ny_next ?_
  refine cy_seq ?_
  refine cy_seq ?_
  refine cy_region ?_
  refine sy_assign rfl rfl rfl ?_
  refine sy_nil rfl ?_
  refine ny_next ?_
  refine cy_block ?_
  refine cy_loopK (ι := Nat) [0] rfl (fun i => i ≤ s.size ∧ (s.data.toList.take i).all okB = true) (fun i => s.size - i) (fun i => [(3, .int .i64 (i : Int))]) (fun i => h) (fun i => []) 0 [] ⟨Nat.zero_le _, by simp⟩ ⟨rfl, trivial⟩ rfl rfl ?_
  rintro i ⟨hI, hpre⟩
  refine cy_seq ?_
  refine cy_seq ?_
  refine cy_region ?_
  refine sy_move rfl rfl rfl ?_
  refine sy_move rfl rfl rfl ?_
  refine sy_len rfl (len_string Try.underlying9 _) rfl rfl ?_
  refine sy_cmp rfl rfl rfl rfl rfl ?_
  refine sy_nil rfl ?_
  refine ny_next ?_
  refine cy_cond rfl (fun hc7 => ?_) (fun hc7 => ?_)
  · have hlti : i < s.size := by have := of_decide_eq_true hc7; omega
    obtain ⟨e0, he0⟩ : ∃ e0, s.data.toList[i]? = some e0 := ⟨_, List.getElem?_eq_getElem (by show i < s.size; omega)⟩
    refine cy_skip ?_
    refine ny_next ?_
    refine cy_seq ?_
    refine cy_block ?_
    refine cy_seq ?_
    refine cy_region ?_
    refine sy_move rfl rfl rfl ?_
    refine sy_move rfl rfl rfl ?_
    refine sy_idxs (u := e0) Try.underlying9 rfl rfl (by omega) (ba_at he0) rfl rfl ?_
    refine sy_cmp rfl rfl rfl rfl rfl ?_
    refine sy_move rfl rfl rfl ?_
    refine sy_cond (d := 14) _ rfl rfl (fun hg14 => ?_) (fun hg14 => ?_)
    · refine sy_move rfl rfl rfl ?_
      refine sy_move rfl rfl rfl ?_
      refine sy_idxs (u := e0) Try.underlying9 rfl rfl (by omega) (ba_at he0) rfl rfl ?_
      refine sy_cmp rfl rfl rfl rfl rfl ?_
      refine sy_pickT rfl rfl rfl rfl ?_
      refine sy_nil rfl ?_
      refine ny_next ?_
      refine cy_cond rfl (fun hc19 => ?_) (fun hc19 => ?_)
      · have hno : okB e0 = false := by
          unfold okB
          have q2 : ¬ (e0.toNat : Int) = 10 := by simpa using hc19
          have q3 : (e0 == 10) = false := by
            rw [beq_eq_false_iff_ne]
            intro h9
            rw [h9] at q2
            exact q2 rfl
          rw [q3, Bool.or_false]
          have q4 := of_decide_eq_true hg14
          exact decide_eq_false (fun h9 => h9 q4)
        have hall : s.data.toList.all okB = false := by
          rw [List.all_eq_false]
          exact ⟨e0, List.mem_of_getElem? he0, by rw [hno]; decide⟩
        refine cy_seq ?_
        refine cy_region ?_
        refine sy_assign rfl rfl rfl ?_
        refine sy_nil rfl ?_
        refine ny_next ?_
        refine cy_ret ?_
        refine ny_blockR ?_
        refine ny_thenR ?_
        refine ny_thenR ?_
        refine ny_blockR ?_
        refine ny_thenR ?_
        refine ny_finR (res1 rfl rfl) (fun w hs2 => ⟨?_, hs2.frm⟩)
        refine congrArg (fun b => Ending.returned (Value.bool b)) ?_
        unfold mayB
        rw [hall]
        rfl
      · have hok : okB e0 = true := by
          unfold okB
          have q2 : (e0.toNat : Int) = 10 := by simpa using hc19
          have q3 : e0 = 10 := UInt8.toNat_inj.1 (by show e0.toNat = 10; omega)
          rw [q3]
          rfl
        refine cy_skip ?_
        refine ny_blockN ?_
        refine ny_next ?_
        refine cy_region ?_
        refine sy_move rfl rfl rfl ?_
        refine sy_addi (z := ((i + 1 : Nat) : Int)) rfl rfl (by omega) (by omega) (by omega) rfl rfl ?_
        refine sy_assign rfl rfl rfl ?_
        refine sy_nil rfl ?_
        refine ny_roundK [0] (i + 1) [] ⟨by omega, by rw [all_snoc he0, hpre, hok]; rfl⟩ (show s.size - (i + 1) < s.size - i by omega) rfl ⟨rfl, trivial⟩ rfl rfl
    · have hok : okB e0 = true := by
        unfold okB
        rw [decide_eq_true (of_decide_eq_false hg14)]
        rfl
      refine sy_skip rfl rfl rfl ?_
      refine sy_skip rfl rfl rfl ?_
      refine sy_skip rfl rfl rfl ?_
      refine sy_skip rfl rfl rfl ?_
      refine sy_pickF rfl rfl rfl rfl ?_
      refine sy_nil rfl ?_
      refine ny_next ?_
      refine cy_condF rfl ?_
      refine cy_skip ?_
      refine ny_blockN ?_
      refine ny_next ?_
      refine cy_region ?_
      refine sy_move rfl rfl rfl ?_
      refine sy_addi (z := ((i + 1 : Nat) : Int)) rfl rfl (by omega) (by omega) (by omega) rfl rfl ?_
      refine sy_assign rfl rfl rfl ?_
      refine sy_nil rfl ?_
      refine ny_roundK [0] (i + 1) [] ⟨by omega, by rw [all_snoc he0, hpre, hok]; rfl⟩ (show s.size - (i + 1) < s.size - i by omega) rfl ⟨rfl, trivial⟩ rfl rfl
  · have hie : i = s.size := by have := of_decide_eq_false hc7; omega
    subst hie
    have htk : s.data.toList.take s.size = s.data.toList := List.take_of_length_le (Nat.le_refl _)
    rw [htk] at hpre
    refine cy_exit ?_
    refine ny_thenE ?_
    refine ny_thenE ?_
    refine ny_blockX ?_
    refine ny_next ?_
    refine cy_seq ?_
    refine cy_region ?_
    refine sy_move rfl rfl rfl ?_
    refine sy_len rfl (len_string Try.underlying9 _) rfl rfl ?_
    refine sy_cmp rfl rfl rfl rfl rfl ?_
    refine sy_assign rfl rfl rfl ?_
    refine sy_nil rfl ?_
    refine ny_next ?_
    refine cy_ret ?_
    refine ny_finR (res1 rfl rfl) (fun w hs2 => ⟨?_, hs2.frm⟩)
    refine congrArg (fun b => Ending.returned (Value.bool b)) ?_
    unfold mayB
    rw [hpre, Bool.true_and]
    rfl
set_option maxRecDepth 100000 in
theorem back_c (s : ByteArray) (h : Hp) (hs : s.size ≤ 9223372036854775807) : C0 Try.prog 3 [.string s] h (.bool true) := by
  refine enter0 Try.func3 rfl rfl rfl (fun w => ?_)
  refine cy_seq ?_
  refine cy_region ?_
  refine sy_assign rfl rfl rfl ?_
  refine sy_nil rfl ?_
  refine ny_next ?_
  refine cy_seq ?_
  refine cy_region ?_
  refine sy_call rfl call_7 rfl (shown05_c _) rfl rfl ?_
  refine sy_assign rfl rfl rfl ?_
  refine sy_nil rfl ?_
  refine ny_next ?_
  refine cy_seq ?_
  refine cy_seq ?_
  refine cy_region ?_
  refine sy_move rfl rfl rfl ?_
  refine sy_call rfl call_8 rfl (may_c s _ hs) rfl rfl ?_
  refine sy_not rfl rfl rfl ?_
  refine sy_move rfl rfl rfl ?_
  refine sy_cond (d := 11) _ rfl rfl (fun hg11 => ?_) (fun hg11 => ?_)
  · refine sy_skip rfl rfl rfl ?_
    refine sy_skip rfl rfl rfl ?_
    refine sy_pickT rfl rfl rfl rfl ?_
    refine sy_nil rfl ?_
    refine ny_next ?_
    refine cy_condT rfl ?_
    refine cy_seq ?_
    refine cy_region ?_
    refine sy_move rfl rfl rfl ?_
    refine sy_assign rfl rfl rfl ?_
    refine sy_nil rfl ?_
    refine ny_next ?_
    refine cy_ret ?_
    refine ny_thenR ?_
    refine ny_finR (res1 rfl rfl) (fun w hs2 => ⟨?_, hs2.frm⟩)
    rfl
  · refine sy_move rfl rfl rfl ?_
    refine sy_eqs rfl rfl rfl rfl ?_
    refine sy_pickF rfl rfl rfl rfl ?_
    refine sy_nil rfl ?_
    refine ny_next ?_
    refine cy_cond rfl (fun hc14 => ?_) (fun hc14 => ?_)
    · refine cy_seq ?_
      refine cy_region ?_
      refine sy_move rfl rfl rfl ?_
      refine sy_assign rfl rfl rfl ?_
      refine sy_nil rfl ?_
      refine ny_next ?_
      refine cy_ret ?_
      refine ny_thenR ?_
      refine ny_finR (res1 rfl rfl) (fun w hs2 => ⟨?_, hs2.frm⟩)
      rfl
    · have hmy : mayB s.data.toList = true := by simpa using hg11
      have hmy2 := (Bool.and_eq_true _ _ ▸ hmy : _ ∧ _)
      have hlen : s.data.toList.length ≤ 64 := by have := of_decide_eq_true hmy2.2; omega
      have hne : ¬ s.data.toList = [91, 93] := by
        intro h9
        have h8 : s = ⟨#[91, 93]⟩ := by rw [← ba_eta s, h9]
        rw [h8] at hc14
        exact absurd hc14 (by decide)
      obtain ⟨a, hlx, hka, hsa, hqa⟩ := back_all hmy2.1 hne hlen false
      have hsa2 : a.str = s := hsa.trans (ba_eta s)
      have hss : s.data.toList.length = s.size := rfl
      have hql : (quoteB s (plainB s.data.toList)).data.toList = quoteL s.data.toList (plainB s.data.toList) := by
        unfold quoteB quoteL
        split
        · rfl
        · simp
      have hqs : (quoteB s (plainB s.data.toList)).size ≤ 130 := by
        show (quoteB s (plainB s.data.toList)).data.toList.length ≤ 130
        rw [hql]
        unfold quoteL
        have := repl_le s.data.toList
        split <;> (try simp only [List.length_append, List.length_cons, List.length_nil]) <;> omega
      have hsc : scanA (quoteL s.data.toList (plainB s.data.toList) ++ [32]) = .ok [⟨a, false⟩] := scan_ok (by rw [← hql, List.length_append]; show (quoteB s (plainB s.data.toList)).size + 1 ≤ 4096; omega) hlx
      refine cy_skip ?_
      refine ny_next ?_
      refine cy_seq ?_
      refine cy_region ?_
      refine sy_move rfl rfl rfl ?_
      refine sy_call rfl call_10 rfl (quote_c s _ _ (by omega) (fun h => plain_c s h (by omega))) rfl rfl ?_
      refine sy_cat rfl rfl (by (try simp only [ByteArray.size_append]); have e1 : (⟨#[10]⟩ : ByteArray).size = 1 := rfl; have e2 : (⟨#[10, 37]⟩ : ByteArray).size = 2 := rfl; have e3 : (⟨#[32]⟩ : ByteArray).size = 1 := rfl; omega) rfl rfl ?_
      refine sy_callx call_9 rfl (scan3_c _ (quoteL s.data.toList (plainB s.data.toList) ++ [32]) (by rw [ba_cat, hql]) _) rfl rfl (fun x20 h20 hx20 hle20 => ?_)
      obtain ⟨A20, c20⟩ := x20
      obtain ⟨hr20, hq20⟩ := hx20
      simp only at hr20 hq20 ⊢
      rw [hsc] at hr20 ⊢
      refine sy_move rfl rfl rfl ?_
      refine sy_extract rfl rfl rfl rfl ?_
      refine sy_extract rfl rfl rfl rfl ?_
      refine sy_extract rfl rfl rfl rfl ?_
      refine sy_assign rfl rfl rfl ?_
      refine sy_assign rfl rfl rfl ?_
      refine sy_assign rfl rfl rfl ?_
      refine sy_nil rfl ?_
      refine ny_next ?_
      refine cy_seq ?_
      refine cy_regionQ mixed (by kernel_rfl) ?_
      refine sy_move rfl rfl rfl ?_
      refine sy_move rfl rfl rfl ?_
      refine sy_setT (d := 25) rfl rfl (by first | rfl | (simp [hka]; done) | (simp [hsa2]; done) | (simp [hqa]; done)) ?_
      refine sy_move rfl rfl rfl ?_
      refine sy_eqn (e := true) Try.underlying26 rfl rfl rfl rfl rfl ?_
      refine sy_pickT rfl rfl rfl rfl ?_
      refine sy_move rfl rfl rfl ?_
      refine sy_setT (d := 29) rfl rfl (by first | rfl | (simp [hka]; done) | (simp [hsa2]; done) | (simp [hqa]; done)) ?_
      refine sy_move rfl rfl rfl ?_
      refine sy_len rfl (len_slice Try.underlying24 _ _ _) rfl rfl ?_
      refine sy_cmp rfl rfl rfl rfl rfl ?_
      refine sy_pickT rfl rfl rfl rfl ?_
      refine sy_move rfl rfl rfl ?_
      refine sy_setT (d := 34) rfl rfl (by first | rfl | (simp [hka]; done) | (simp [hsa2]; done) | (simp [hqa]; done)) ?_
      refine sy_move rfl rfl rfl ?_
      refine sy_idxR (i := 0) (fc := tkC) (es := [(⟨a, false⟩ : Tk)]) els_24 rfl rfl hr20 rfl (by show 0 < 1; omega) rfl rfl (fun e36 b36 o36 he36 hA36 hc36 => ?_)
      obtain rfl := Option.some.inj (show some ⟨a, false⟩ = some e36 from he36)
      refine sy_field fld_31_0 rfl rfl rfl ?_
      refine sy_ldh one_3 rfl (hc36 0 _ rfl) rfl rfl ?_
      refine sy_cmp rfl rfl rfl rfl rfl ?_
      refine sy_pickT rfl rfl rfl rfl ?_
      refine sy_move rfl rfl rfl ?_
      refine sy_setT (d := 41) rfl rfl (by first | rfl | (simp [hka]; done) | (simp [hsa2]; done) | (simp [hqa]; done)) ?_
      refine sy_move rfl rfl rfl ?_
      refine sy_idxR (i := 0) (fc := tkC) (es := [(⟨a, false⟩ : Tk)]) els_24 rfl rfl hr20 rfl (by show 0 < 1; omega) rfl rfl (fun e43 b43 o43 he43 hA43 hc43 => ?_)
      obtain rfl := Option.some.inj (show some ⟨a, false⟩ = some e43 from he43)
      refine sy_field fld_31_1 rfl rfl rfl ?_
      refine sy_ldh one_9 rfl (hc43 1 _ rfl) rfl rfl ?_
      refine sy_move rfl rfl rfl ?_
      refine sy_eqs rfl rfl rfl rfl ?_
      refine sy_pickT rfl rfl rfl rfl ?_
      refine sy_move rfl rfl rfl ?_
      refine sy_setT (d := 49) rfl rfl (by first | rfl | (simp [hka]; done) | (simp [hsa2]; done) | (simp [hqa]; done)) ?_
      refine sy_move rfl rfl rfl ?_
      refine sy_idxR (i := 0) (fc := tkC) (es := [(⟨a, false⟩ : Tk)]) els_24 rfl rfl hr20 rfl (by show 0 < 1; omega) rfl rfl (fun e51 b51 o51 he51 hA51 hc51 => ?_)
      obtain rfl := Option.some.inj (show some ⟨a, false⟩ = some e51 from he51)
      refine sy_field fld_31_3 rfl rfl rfl ?_
      refine sy_ldh one_4 rfl (hc51 3 _ rfl) rfl rfl ?_
      refine sy_move rfl rfl rfl ?_
      refine sy_call rfl call_11 rfl (plain_c s _ (by omega)) rfl rfl ?_
      refine sy_not rfl rfl rfl ?_
      refine sy_eqb Try.underlying4 rfl rfl rfl rfl ?_
      refine sy_pickT rfl rfl rfl rfl ?_
      refine sy_assign rfl rfl rfl ?_
      refine sy_nil rfl ?_
      refine ny_next ?_
      refine cy_ret ?_
      refine ny_finR (res1 rfl rfl) (fun w hs2 => ⟨?_, hs2.frm⟩)
      refine congrArg (fun b => Ending.returned (Value.bool b)) ?_
      simp [hqa]
theorem tk_ones (l : List Tk) : ∀ u ∈ (l.map tkC).flatten, u.oneCell' = true := fun u hu => by
  obtain ⟨c, hc, hu⟩ := List.mem_flatten.1 hu
  obtain ⟨e, _, rfl⟩ := List.mem_map.1 hc
  simp only [tkC, List.mem_cons, List.not_mem_nil, or_false] at hu
  rcases hu with rfl | rfl | rfl | rfl | rfl <;> rfl
set_option maxRecDepth 100000 in
theorem joins_c (s t : ByteArray) (h : Hp) : C0 Try.prog 4 [.string s, .string t] h (.bool true) := by
  refine enter0 Try.func4 rfl rfl rfl (fun w => ?_)
  refine cy_seq ?_
  refine cy_region ?_
  refine sy_assign rfl rfl rfl ?_
  refine sy_nil rfl ?_
  refine ny_next ?_
  refine cy_seq ?_
  refine cy_region ?_
  refine sy_call rfl call_7 rfl (shown05_c _) rfl rfl ?_
  refine sy_assign rfl rfl rfl ?_
  refine sy_nil rfl ?_
  refine ny_next ?_
  refine cy_seq ?_
  refine cy_seq ?_
  refine cy_region ?_
  refine sy_move rfl rfl rfl ?_
  refine sy_len rfl (len_string Try.underlying9 _) rfl rfl ?_
  refine sy_cmp rfl rfl rfl rfl rfl ?_
  refine sy_move rfl rfl rfl ?_
  refine sy_cond (d := 19) _ rfl rfl (fun hg19 => ?_) (fun hg19 => ?_)
  · refine sy_skip rfl rfl rfl ?_
    refine sy_skip rfl rfl rfl ?_
    refine sy_skip rfl rfl rfl ?_
    refine sy_pickT rfl rfl rfl rfl ?_
    refine sy_nil rfl ?_
    refine ny_next ?_
    refine cy_condT rfl ?_
    refine cy_seq ?_
    refine cy_region ?_
    refine sy_move rfl rfl rfl ?_
    refine sy_assign rfl rfl rfl ?_
    refine sy_nil rfl ?_
    refine ny_next ?_
    refine cy_ret ?_
    refine ny_thenR ?_
    refine ny_finR (res1 rfl rfl) (fun w hs2 => ⟨?_, hs2.frm⟩)
    rfl
  · refine sy_move rfl rfl rfl ?_
    refine sy_len rfl (len_string Try.underlying9 _) rfl rfl ?_
    refine sy_cmp rfl rfl rfl rfl rfl ?_
    refine sy_pickF rfl rfl rfl rfl ?_
    refine sy_nil rfl ?_
    refine ny_next ?_
    refine cy_cond rfl (fun hc23 => ?_) (fun hc23 => ?_)
    · refine cy_seq ?_
      refine cy_region ?_
      refine sy_move rfl rfl rfl ?_
      refine sy_assign rfl rfl rfl ?_
      refine sy_nil rfl ?_
      refine ny_next ?_
      refine cy_ret ?_
      refine ny_thenR ?_
      refine ny_finR (res1 rfl rfl) (fun w hs2 => ⟨?_, hs2.frm⟩)
      rfl
    · have hs1 : s.size ≤ 1500 := by have := of_decide_eq_false hg19; omega
      have ht1 : t.size ≤ 1500 := by have := of_decide_eq_false hc23; omega
      have hs2 : s.data.toList.length ≤ 2000 := by show s.size ≤ 2000; omega
      have ht2 : t.data.toList.length ≤ 2000 := by show t.size ≤ 2000; omega
      refine cy_skip ?_
      refine ny_next ?_
      refine cy_seq ?_
      refine cy_region ?_
      refine sy_move rfl rfl rfl ?_
      refine sy_cat rfl rfl (by (try simp only [ByteArray.size_append]); have e1 : (⟨#[10]⟩ : ByteArray).size = 1 := rfl; have e2 : (⟨#[10, 37]⟩ : ByteArray).size = 2 := rfl; have e3 : (⟨#[32]⟩ : ByteArray).size = 1 := rfl; omega) rfl rfl ?_
      refine sy_callx call_9 rfl (scan3_c _ (s.data.toList ++ [10]) (by simp [ba_cat]) _) rfl rfl (fun x28 h28 hx28 hle28 => ?_)
      obtain ⟨A28, c28⟩ := x28
      obtain ⟨hr28, hq28⟩ := hx28
      simp only at hr28 hq28 ⊢
      refine sy_move rfl rfl rfl ?_
      refine sy_extract rfl rfl rfl rfl ?_
      refine sy_extract rfl rfl rfl rfl ?_
      refine sy_extract rfl rfl rfl rfl ?_
      refine sy_assign rfl rfl rfl ?_
      refine sy_assign rfl rfl rfl ?_
      refine sy_assign rfl rfl rfl ?_
      refine sy_nil rfl ?_
      refine ny_next ?_
      refine cy_seq ?_
      refine cy_region ?_
      refine sy_move rfl rfl rfl ?_
      refine sy_callx call_9 rfl (scan3_c _ (t.data.toList) rfl _) rfl rfl (fun x34 h34 hx34 hle34 => ?_)
      obtain ⟨A34, c34⟩ := x34
      obtain ⟨hr34, hq34⟩ := hx34
      simp only at hr34 hq34 ⊢
      replace hr28 := hr28.le hle34
      refine sy_move rfl rfl rfl ?_
      refine sy_extract rfl rfl rfl rfl ?_
      refine sy_extract rfl rfl rfl rfl ?_
      refine sy_extract rfl rfl rfl rfl ?_
      refine sy_assign rfl rfl rfl ?_
      refine sy_assign rfl rfl rfl ?_
      refine sy_assign rfl rfl rfl ?_
      refine sy_nil rfl ?_
      refine ny_next ?_
      refine cy_seq ?_
      refine cy_region ?_
      refine sy_move rfl rfl rfl ?_
      refine sy_cat rfl rfl (by (try simp only [ByteArray.size_append]); have e1 : (⟨#[10]⟩ : ByteArray).size = 1 := rfl; have e2 : (⟨#[10, 37]⟩ : ByteArray).size = 2 := rfl; have e3 : (⟨#[32]⟩ : ByteArray).size = 1 := rfl; omega) rfl rfl ?_
      refine sy_move rfl rfl rfl ?_
      refine sy_cat rfl rfl (by (try simp only [ByteArray.size_append]); have e1 : (⟨#[10]⟩ : ByteArray).size = 1 := rfl; have e2 : (⟨#[10, 37]⟩ : ByteArray).size = 2 := rfl; have e3 : (⟨#[32]⟩ : ByteArray).size = 1 := rfl; omega) rfl rfl ?_
      refine sy_callx call_9 rfl (scan3_c _ (s.data.toList ++ 10 :: t.data.toList) (by simp [ba_cat]) _) rfl rfl (fun x43 h43 hx43 hle43 => ?_)
      obtain ⟨A43, c43⟩ := x43
      obtain ⟨hr43, hq43⟩ := hx43
      simp only at hr43 hq43 ⊢
      replace hr28 := hr28.le hle43
      replace hr34 := hr34.le hle43
      refine sy_move rfl rfl rfl ?_
      refine sy_extract rfl rfl rfl rfl ?_
      refine sy_extract rfl rfl rfl rfl ?_
      refine sy_extract rfl rfl rfl rfl ?_
      refine sy_assign rfl rfl rfl ?_
      refine sy_assign rfl rfl rfl ?_
      refine sy_assign rfl rfl rfl ?_
      refine sy_nil rfl ?_
      refine ny_next ?_
      refine cy_seq ?_
      refine cy_seq ?_
      refine cy_region ?_
      refine sy_move rfl rfl rfl ?_
      refine sy_eqn (e := (scE (scanA (s.data.toList ++ [10]))).isNone) Try.underlying26 rfl (nilB_err _ _) rfl rfl rfl ?_
      refine sy_move rfl rfl rfl ?_
      refine sy_cond (d := 49) _ rfl rfl (fun hg49 => ?_) (fun hg49 => ?_)
      · have hbad : ¬ scE (scanA (s.data.toList ++ 10 :: t.data.toList)) = none := join_bad hs2 ht2 (fun h9 => by rw [h9.1] at hg49; exact absurd hg49 (by decide))
        refine sy_skip rfl rfl rfl ?_
        refine sy_skip rfl rfl rfl ?_
        refine sy_pickT rfl rfl rfl rfl ?_
        refine sy_nil rfl ?_
        refine ny_next ?_
        refine cy_condT rfl ?_
        refine cy_seq ?_
        refine cy_region ?_
        refine sy_move rfl rfl rfl ?_
        refine sy_move rfl rfl rfl ?_
        refine sy_setT (d := 54) rfl rfl (by first | rfl | decide | kernel_rfl | (simp; done) | (simp_all; done)) ?_
        refine sy_move rfl rfl rfl ?_
        refine sy_eqn (e := (scE (scanA (s.data.toList ++ 10 :: t.data.toList))).isNone) Try.underlying26 rfl (nilB_err _ _) rfl rfl rfl ?_
        refine sy_pickT rfl rfl rfl rfl ?_
        refine sy_assign rfl rfl rfl ?_
        refine sy_nil rfl ?_
        refine ny_next ?_
        refine cy_ret ?_
        refine ny_thenR ?_
        refine ny_finR (res1 rfl rfl) (fun w hs2 => ⟨?_, hs2.frm⟩)
        refine congrArg (fun b => Ending.returned (Value.bool b)) ?_
        show (!(scE (scanA (s.data.toList ++ 10 :: t.data.toList))).isNone) = true
        cases h9 : scE (scanA (s.data.toList ++ 10 :: t.data.toList)) with
        | none => exact absurd h9 hbad
        | some x => rfl
      · refine sy_move rfl rfl rfl ?_
        refine sy_eqn (e := (scE (scanA (t.data.toList))).isNone) Try.underlying26 rfl (nilB_err _ _) rfl rfl rfl ?_
        refine sy_pickF rfl rfl rfl rfl ?_
        refine sy_nil rfl ?_
        refine ny_next ?_
        refine cy_cond rfl (fun hc52 => ?_) (fun hc52 => ?_)
        · have hbad : ¬ scE (scanA (s.data.toList ++ 10 :: t.data.toList)) = none := join_bad hs2 ht2 (fun h9 => by rw [h9.2] at hc52; exact absurd hc52 (by decide))
          refine cy_seq ?_
          refine cy_region ?_
          refine sy_move rfl rfl rfl ?_
          refine sy_move rfl rfl rfl ?_
          refine sy_setT (d := 54) rfl rfl (by first | rfl | decide | kernel_rfl | (simp; done) | (simp_all; done)) ?_
          refine sy_move rfl rfl rfl ?_
          refine sy_eqn (e := (scE (scanA (s.data.toList ++ 10 :: t.data.toList))).isNone) Try.underlying26 rfl (nilB_err _ _) rfl rfl rfl ?_
          refine sy_pickT rfl rfl rfl rfl ?_
          refine sy_assign rfl rfl rfl ?_
          refine sy_nil rfl ?_
          refine ny_next ?_
          refine cy_ret ?_
          refine ny_thenR ?_
          refine ny_finR (res1 rfl rfl) (fun w hs2 => ⟨?_, hs2.frm⟩)
          refine congrArg (fun b => Ending.returned (Value.bool b)) ?_
          show (!(scE (scanA (s.data.toList ++ 10 :: t.data.toList))).isNone) = true
          cases h9 : scE (scanA (s.data.toList ++ 10 :: t.data.toList)) with
          | none => exact absurd h9 hbad
          | some x => rfl
        · have hok1 : scE (scanA (s.data.toList ++ [10])) = none := Option.isNone_iff_eq_none.1 (by simpa using hg49)
          have hok2 : scE (scanA (t.data.toList)) = none := Option.isNone_iff_eq_none.1 (by simpa using hc52)
          have hjo := join_ok hs2 ht2 hok1 hok2
          have hf1 := (scan_fair hok1).2.2.1
          have hf2 := (scan_fair hok2).2.2.1
          rw [List.length_append, List.length_cons, List.length_nil] at hf1
          rw [hjo] at hr43 ⊢
          refine cy_skip ?_
          refine ny_next ?_
          refine cy_seq ?_
          refine cy_region ?_
          refine sy_move rfl rfl rfl ?_
          refine sy_move rfl rfl rfl ?_
          refine sy_setT (d := 59) rfl rfl (by first | rfl | decide | kernel_rfl | (simp; done) | (simp_all; done)) ?_
          refine sy_move rfl rfl rfl ?_
          refine sy_eqn (e := true) Try.underlying26 rfl rfl rfl rfl rfl ?_
          refine sy_pickT rfl rfl rfl rfl ?_
          refine sy_move rfl rfl rfl ?_
          refine sy_setT (d := 63) rfl rfl (by first | rfl | decide | kernel_rfl | (simp; done) | (simp_all; done)) ?_
          refine sy_move rfl rfl rfl ?_
          refine sy_buildSlice (cs := []) rfl (fun w => bsl_24_0_ w) rfl rfl (fun b65 hb65 hM65 => ?_) (by simp)
          refine sy_asRow (l := 0) (sz := 5) (cs := []) 0 rfl rfl (Nat.zero_le _) ?_
          refine sy_move rfl rfl rfl ?_
          refine sy_appendh (news := ((scTs (scanA (s.data.toList ++ [10]))).map tkC).flatten) 0 row_24 (by decide) rfl rfl rfl (fun hA => by have := hr28.none hA; simpa using this) (by rw [flat_len (tkC_len _), List.length_map]) (hr28.cells (by decide) (tkC_len _)) (tk_ones _) (by omega) (by simp only [maxLen]; omega) rfl rfl (fun v67 => ?_)
          refine sy_move rfl rfl rfl ?_
          refine sy_appendh (news := ((scTs (scanA t.data.toList)).map tkC).flatten) 0 row_24 (by decide) rfl rfl rfl (fun hA => by have := hr34.none hA; simpa using this) (by rw [flat_len (tkC_len _), List.length_map]) (hr34.cells (by decide) (tkC_len _)) (tk_ones _) (by omega) (by simp only [maxLen]; omega) rfl rfl (fun v69 => ?_)
          refine sy_frzRow 0 rfl (fun _ _ => by simp) (fun A69 c69 h69 hv69 hlc69 hcm69 _ hle69 hcell69 => ?_)
          subst hv69
          rw [List.nil_append, ← List.flatten_append, ← List.map_append] at hcell69
          have hr69 : RowsAt h69 A69 5 ((scTs (scanA (s.data.toList ++ [10])) ++ scTs (scanA t.data.toList)).map tkC) := rows_row (by decide) (tkC_len _) hcell69
          replace hr43 := hr43.le hle69
          refine sy_call rfl call_12 rfl (same_c2 (scTs (scanA (s.data.toList ++ [10])) ++ scTs (scanA t.data.toList)) A43 A69 _ _ c43 c69 _ _ hr43 hr69 rfl (by rw [List.length_append]; omega) (by rw [List.length_append]; omega)) rfl rfl ?_
          refine sy_pickT rfl rfl rfl rfl ?_
          refine sy_assign rfl rfl rfl ?_
          refine sy_nil rfl ?_
          refine ny_next ?_
          refine cy_ret ?_
          refine ny_finR (res1 rfl rfl) (fun w hs2 => ⟨?_, hs2.frm⟩)
          rfl
set_option maxRecDepth 100000 in
theorem kinds_c (s : ByteArray) (h : Hp) : C0 Try.prog 5 [.string s] h (.bool true) := by
  refine enter0 Try.func5 rfl rfl rfl (fun w => ?_)
  refine cy_seq ?_
  refine cy_region ?_
  refine sy_assign rfl rfl rfl ?_
  refine sy_nil rfl ?_
  refine ny_next ?_
  refine cy_seq ?_
  refine cy_region ?_
  refine sy_call rfl call_7 rfl (shown05_c _) rfl rfl ?_
  refine sy_assign rfl rfl rfl ?_
  refine sy_nil rfl ?_
  refine ny_next ?_
  refine cy_seq ?_
  refine cy_region ?_
  refine sy_move rfl rfl rfl ?_
  refine sy_callx call_9 rfl (scan3_c _ (s.data.toList) rfl _) rfl rfl (fun x13 h13 hx13 hle13 => ?_)
  obtain ⟨A13, c13⟩ := x13
  obtain ⟨hr13, hq13⟩ := hx13
  simp only at hr13 hq13 ⊢
  refine sy_move rfl rfl rfl ?_
  refine sy_extract rfl rfl rfl rfl ?_
  refine sy_extract rfl rfl rfl rfl ?_
  refine sy_extract rfl rfl rfl rfl ?_
  refine sy_assign rfl rfl rfl ?_
  refine sy_assign rfl rfl rfl ?_
  refine sy_assign rfl rfl rfl ?_
  refine sy_nil rfl ?_
  refine ny_next ?_
  refine cy_seq ?_
  refine cy_seq ?_
  refine cy_region ?_
  refine sy_move rfl rfl rfl ?_
  refine sy_eqn (e := (scE (scanA (s.data.toList))).isNone) Try.underlying26 rfl (nilB_err _ _) rfl rfl rfl ?_
  refine sy_nil rfl ?_
  refine ny_next ?_
  refine cy_cond rfl (fun hc18 => ?_) (fun hc18 => ?_)
  · have hno : (scTs (scanA s.data.toList)) = [] := sc_no (fun h9 => by rw [h9] at hc18; exact absurd hc18 (by decide))
    rw [hno]
    refine cy_seq ?_
    refine cy_region ?_
    refine sy_move rfl rfl rfl ?_
    refine sy_move rfl rfl rfl ?_
    refine sy_setT (d := 20) rfl rfl (by first | rfl | (simp; done)) ?_
    refine sy_move rfl rfl rfl ?_
    refine sy_len rfl (len_slice Try.underlying24 _ _ _) rfl rfl ?_
    refine sy_cmp rfl rfl rfl rfl rfl ?_
    refine sy_pickT rfl rfl rfl rfl ?_
    refine sy_assign rfl rfl rfl ?_
    refine sy_nil rfl ?_
    refine ny_next ?_
    refine cy_ret ?_
    refine ny_thenR ?_
    refine ny_finR (res1 rfl rfl) (fun w hs2 => ⟨?_, hs2.frm⟩)
    rfl
  · have hok : scE (scanA s.data.toList) = none := Option.isNone_iff_eq_none.1 (by simpa using hc18)
    obtain ⟨hfa, hsm, hln, htg, hls⟩ := scan_fair hok
    have hss : s.data.toList.length = s.size := rfl
    refine cy_skip ?_
    refine ny_next ?_
    refine cy_seq ?_
    refine cy_region ?_
    refine sy_assign rfl rfl rfl ?_
    refine sy_nil rfl ?_
    refine ny_next ?_
    refine cy_seq ?_
    refine cy_seq ?_
    refine cy_region ?_
    refine sy_assign rfl rfl rfl ?_
    refine sy_nil rfl ?_
    refine ny_next ?_
    refine cy_block ?_
    refine cy_loopK (ι := Nat) [0, 3, 4] rfl (fun i => i ≤ (scTs (scanA s.data.toList)).length) (fun i => (scTs (scanA s.data.toList)).length - i) (fun i => [(7, .int .i64 ((sumT ((scTs (scanA s.data.toList)).take i) : Nat) : Int)), (8, .int .i64 (i : Int))]) (fun i => h13) (fun i => []) 0 [] (Nat.zero_le _) ⟨rfl, rfl, trivial⟩ rfl rfl ?_
    rintro i hI
    have hsu := sum_le (scTs (scanA s.data.toList)) i
    refine cy_seq ?_
    refine cy_seq ?_
    refine cy_region ?_
    refine sy_move rfl rfl rfl ?_
    refine sy_move rfl rfl rfl ?_
    refine sy_len rfl (len_slice Try.underlying24 _ _ _) rfl rfl ?_
    refine sy_cmp rfl rfl rfl rfl rfl ?_
    refine sy_nil rfl ?_
    refine ny_next ?_
    refine cy_cond rfl (fun hc28 => ?_) (fun hc28 => ?_)
    · have hlti : i < (scTs (scanA s.data.toList)).length := by have := of_decide_eq_true hc28; omega
      refine cy_skip ?_
      refine ny_next ?_
      refine cy_seq ?_
      refine cy_block ?_
      refine cy_seq ?_
      refine cy_region ?_
      refine sy_move rfl rfl rfl ?_
      refine sy_move rfl rfl rfl ?_
      refine sy_idxR (fc := tkC) (es := (scTs (scanA s.data.toList))) els_24 rfl rfl hr13 rfl (by omega) rfl rfl (fun e33 b33 o33 he33 hA33 hc33 => ?_)
      have hF := hfa e33 (List.mem_of_getElem? he33)
      refine sy_ldah (vs := tkC e33) agg_31 rfl rfl hc33 rfl rfl ?_
      refine sy_alloc zer_31 rfl rfl (fun b9 hb9 hM9 => ?_) (by simp)
      first | refine sy_stl 0 sz_31 rfl rfl rfl rfl rfl rfl rfl rfl ?_ | refine sy_stl 1 sz_31 rfl rfl rfl rfl rfl rfl rfl rfl ?_
      refine sy_nil rfl ?_
      refine ny_next ?_
      refine cy_seq ?_
      refine cy_seq ?_
      refine cy_region ?_
      refine sy_field fld_31_0 rfl rfl rfl ?_
      first | refine sy_ldr 0 one_3 rfl rfl rfl rfl rfl ?_ | refine sy_ldr 1 one_3 rfl rfl rfl rfl rfl ?_
      refine sy_cmp rfl rfl rfl rfl rfl ?_
      refine sy_move rfl rfl rfl ?_
      refine sy_setF (d := 38) rfl rfl (by have := hF.kind; exact decide_eq_false (by omega)) ?_
      refine sy_field fld_31_0 rfl rfl rfl ?_
      first | refine sy_ldr 0 one_3 rfl rfl rfl rfl rfl ?_ | refine sy_ldr 1 one_3 rfl rfl rfl rfl rfl ?_
      refine sy_cmp rfl rfl rfl rfl rfl ?_
      refine sy_pickF rfl rfl rfl rfl ?_
      refine sy_move rfl rfl rfl ?_
      refine sy_setF (d := 43) rfl rfl (by have := hF.kind; exact decide_eq_false (by omega)) ?_
      refine sy_field fld_31_0 rfl rfl rfl ?_
      first | refine sy_ldr 0 one_3 rfl rfl rfl rfl rfl ?_ | refine sy_ldr 1 one_3 rfl rfl rfl rfl rfl ?_
      refine sy_cmp rfl rfl rfl rfl rfl ?_
      refine sy_move rfl rfl rfl ?_
      refine sy_cond (d := 47) _ rfl rfl (fun hg47 => ?_) (fun hg47 => ?_)
      · refine sy_field fld_31_2 rfl rfl rfl ?_
        first | refine sy_ldr 0 one_2 rfl rfl rfl rfl rfl ?_ | refine sy_ldr 1 one_2 rfl rfl rfl rfl rfl ?_
        refine sy_cmp rfl rfl rfl rfl rfl ?_
        refine sy_pickT rfl rfl rfl rfl ?_
        refine sy_pickF rfl rfl rfl rfl ?_
        refine sy_move rfl rfl rfl ?_
        refine sy_setF (d := 53) rfl rfl (by rw [hF.num (by simpa using hg47)]; rfl) ?_
        refine sy_field fld_31_0 rfl rfl rfl ?_
        first | refine sy_ldr 0 one_3 rfl rfl rfl rfl rfl ?_ | refine sy_ldr 1 one_3 rfl rfl rfl rfl rfl ?_
        refine sy_cmp rfl rfl rfl rfl rfl ?_
        refine sy_move rfl rfl rfl ?_
        refine sy_setF (d := 57) rfl rfl (by simpa using hg47) ?_
        refine sy_skip rfl rfl rfl ?_
        refine sy_skip rfl rfl rfl ?_
        refine sy_skip rfl rfl rfl ?_
        refine sy_pickF rfl rfl rfl rfl ?_
        refine sy_pickF rfl rfl rfl rfl ?_
        refine sy_move rfl rfl rfl ?_
        refine sy_setF (d := 63) rfl rfl rfl ?_
        refine sy_field fld_31_3 rfl rfl rfl ?_
        first | refine sy_ldr 0 one_4 rfl rfl rfl rfl rfl ?_ | refine sy_ldr 1 one_4 rfl rfl rfl rfl rfl ?_
        refine sy_move rfl rfl rfl ?_
        refine sy_cond (d := 66) _ rfl rfl (fun hg66 => ?_) (fun hg66 => ?_)
        · refine sy_field fld_31_0 rfl rfl rfl ?_
          first | refine sy_ldr 0 one_3 rfl rfl rfl rfl rfl ?_ | refine sy_ldr 1 one_3 rfl rfl rfl rfl rfl ?_
          refine sy_cmp rfl rfl rfl rfl rfl ?_
          refine sy_pickT rfl rfl rfl rfl ?_
          refine sy_pickF rfl rfl rfl rfl ?_
          refine sy_move rfl rfl rfl ?_
          refine sy_setF (d := 72) rfl rfl (by first | rfl | (rw [hF.quo hg66]; rfl)) ?_
          refine sy_field fld_31_1 rfl rfl rfl ?_
          first | refine sy_ldr 0 one_9 rfl rfl rfl rfl rfl ?_ | refine sy_ldr 1 one_9 rfl rfl rfl rfl rfl ?_
          refine sy_len rfl (len_string Try.underlying9 _) rfl rfl ?_
          refine sy_cmp rfl rfl rfl rfl rfl ?_
          refine sy_pickF rfl rfl rfl rfl ?_
          refine sy_move rfl rfl rfl ?_
          refine sy_setF (d := 78) rfl rfl (by have := hF.size; exact decide_eq_false (by omega)) ?_
          refine sy_move rfl rfl rfl ?_
          refine sy_cmp rfl rfl rfl rfl rfl ?_
          refine sy_move rfl rfl rfl ?_
          refine sy_cond (d := 81) _ rfl rfl (fun hg81 => ?_) (fun hg81 => ?_)
          · have hi0 : i = 0 := by simpa using hg81
            have htf := htg e33 (by rw [← hi0]; exact he33)
            refine sy_field fld_31_4 rfl rfl rfl ?_
            first | refine sy_ldr 0 one_4 rfl rfl rfl rfl rfl ?_ | refine sy_ldr 1 one_4 rfl rfl rfl rfl rfl ?_
            refine sy_pickT rfl rfl rfl rfl ?_
            refine sy_pickF rfl rfl rfl rfl ?_
            refine sy_setF (d := 85) rfl rfl htf ?_
            refine sy_nil rfl ?_
            refine ny_next ?_
            refine cy_condF rfl ?_
            refine cy_skip ?_
            refine ny_next ?_
            refine cy_seq ?_
            refine cy_region ?_
            refine sy_field fld_31_3 rfl rfl rfl ?_
            first | refine sy_ldr 0 one_4 rfl rfl rfl rfl rfl ?_ | refine sy_ldr 1 one_4 rfl rfl rfl rfl rfl ?_
            refine sy_not rfl rfl rfl ?_
            refine sy_setF (d := 88) rfl rfl (by rw [hg66]; rfl) ?_
            refine sy_nil rfl ?_
            refine ny_next ?_
            refine cy_condF rfl ?_
            refine cy_skip ?_
            refine ny_blockN ?_
            refine ny_next ?_
            refine cy_region ?_
            refine sy_move rfl rfl rfl ?_
            refine sy_addi (z := ((i + 1 : Nat) : Int)) rfl rfl (by omega) (by omega) (by omega) rfl rfl ?_
            refine sy_assign rfl rfl rfl ?_
            refine sy_nil rfl ?_
            refine ny_roundK [0, 3, 4] (i + 1) [] (show i + 1 ≤ (scTs (scanA s.data.toList)).length by omega) (show (scTs (scanA s.data.toList)).length - (i + 1) < (scTs (scanA s.data.toList)).length - i by omega) rfl ⟨congrArg (fun z : Nat => some (Value.int .i64 (z : Int))) (by first | (rw [sum_succ he33, if_neg (by rw [hg66]; decide)]; done) | (rw [sum_succ he33, if_pos hg66, Nat.add_zero]; done)), rfl, trivial⟩ rfl rfl
          · refine sy_skip rfl rfl rfl ?_
            refine sy_skip rfl rfl rfl ?_
            refine sy_pickF rfl rfl rfl rfl ?_
            refine sy_pickF rfl rfl rfl rfl ?_
            refine sy_setF (d := 85) rfl rfl rfl ?_
            refine sy_nil rfl ?_
            refine ny_next ?_
            refine cy_condF rfl ?_
            refine cy_skip ?_
            refine ny_next ?_
            refine cy_seq ?_
            refine cy_region ?_
            refine sy_field fld_31_3 rfl rfl rfl ?_
            first | refine sy_ldr 0 one_4 rfl rfl rfl rfl rfl ?_ | refine sy_ldr 1 one_4 rfl rfl rfl rfl rfl ?_
            refine sy_not rfl rfl rfl ?_
            refine sy_setF (d := 88) rfl rfl (by rw [hg66]; rfl) ?_
            refine sy_nil rfl ?_
            refine ny_next ?_
            refine cy_condF rfl ?_
            refine cy_skip ?_
            refine ny_blockN ?_
            refine ny_next ?_
            refine cy_region ?_
            refine sy_move rfl rfl rfl ?_
            refine sy_addi (z := ((i + 1 : Nat) : Int)) rfl rfl (by omega) (by omega) (by omega) rfl rfl ?_
            refine sy_assign rfl rfl rfl ?_
            refine sy_nil rfl ?_
            refine ny_roundK [0, 3, 4] (i + 1) [] (show i + 1 ≤ (scTs (scanA s.data.toList)).length by omega) (show (scTs (scanA s.data.toList)).length - (i + 1) < (scTs (scanA s.data.toList)).length - i by omega) rfl ⟨congrArg (fun z : Nat => some (Value.int .i64 (z : Int))) (by first | (rw [sum_succ he33, if_neg (by rw [hg66]; decide)]; done) | (rw [sum_succ he33, if_pos hg66, Nat.add_zero]; done)), rfl, trivial⟩ rfl rfl
        · refine sy_skip rfl rfl rfl ?_
          refine sy_skip rfl rfl rfl ?_
          refine sy_skip rfl rfl rfl ?_
          refine sy_pickF rfl rfl rfl rfl ?_
          refine sy_pickF rfl rfl rfl rfl ?_
          refine sy_move rfl rfl rfl ?_
          refine sy_setF (d := 72) rfl rfl (by first | rfl | (rw [hF.quo hg66]; rfl)) ?_
          refine sy_field fld_31_1 rfl rfl rfl ?_
          first | refine sy_ldr 0 one_9 rfl rfl rfl rfl rfl ?_ | refine sy_ldr 1 one_9 rfl rfl rfl rfl rfl ?_
          refine sy_len rfl (len_string Try.underlying9 _) rfl rfl ?_
          refine sy_cmp rfl rfl rfl rfl rfl ?_
          refine sy_pickF rfl rfl rfl rfl ?_
          refine sy_move rfl rfl rfl ?_
          refine sy_setF (d := 78) rfl rfl (by have := hF.size; exact decide_eq_false (by omega)) ?_
          refine sy_move rfl rfl rfl ?_
          refine sy_cmp rfl rfl rfl rfl rfl ?_
          refine sy_move rfl rfl rfl ?_
          refine sy_cond (d := 81) _ rfl rfl (fun hg81 => ?_) (fun hg81 => ?_)
          · have hi0 : i = 0 := by simpa using hg81
            have htf := htg e33 (by rw [← hi0]; exact he33)
            refine sy_field fld_31_4 rfl rfl rfl ?_
            first | refine sy_ldr 0 one_4 rfl rfl rfl rfl rfl ?_ | refine sy_ldr 1 one_4 rfl rfl rfl rfl rfl ?_
            refine sy_pickT rfl rfl rfl rfl ?_
            refine sy_pickF rfl rfl rfl rfl ?_
            refine sy_setF (d := 85) rfl rfl htf ?_
            refine sy_nil rfl ?_
            refine ny_next ?_
            refine cy_condF rfl ?_
            refine cy_skip ?_
            refine ny_next ?_
            refine cy_seq ?_
            refine cy_region ?_
            refine sy_field fld_31_3 rfl rfl rfl ?_
            first | refine sy_ldr 0 one_4 rfl rfl rfl rfl rfl ?_ | refine sy_ldr 1 one_4 rfl rfl rfl rfl rfl ?_
            refine sy_not rfl rfl rfl ?_
            refine sy_setT (d := 88) rfl rfl (by rw [hg66]; rfl) ?_
            refine sy_nil rfl ?_
            refine ny_next ?_
            refine cy_condT rfl ?_
            refine cy_region ?_
            refine sy_move rfl rfl rfl ?_
            refine sy_field fld_31_1 rfl rfl rfl ?_
            first | refine sy_ldr 0 one_9 rfl rfl rfl rfl rfl ?_ | refine sy_ldr 1 one_9 rfl rfl rfl rfl rfl ?_
            refine sy_len rfl (len_string Try.underlying9 _) rfl rfl ?_
            have hs93 := sum_succ he33
            have hs94 := sum_le (scTs (scanA s.data.toList)) (i + 1)
            rw [if_neg (by rw [hg66]; decide)] at hs93
            refine sy_addi (z := ((sumT ((scTs (scanA s.data.toList)).take i) + e33.a.str.size : Nat) : Int)) rfl rfl (by omega) (by omega) (by omega) rfl rfl ?_
            refine sy_assign rfl rfl rfl ?_
            refine sy_nil rfl ?_
            refine ny_blockN ?_
            refine ny_next ?_
            refine cy_region ?_
            refine sy_move rfl rfl rfl ?_
            refine sy_addi (z := ((i + 1 : Nat) : Int)) rfl rfl (by omega) (by omega) (by omega) rfl rfl ?_
            refine sy_assign rfl rfl rfl ?_
            refine sy_nil rfl ?_
            refine ny_roundK [0, 3, 4] (i + 1) [] (show i + 1 ≤ (scTs (scanA s.data.toList)).length by omega) (show (scTs (scanA s.data.toList)).length - (i + 1) < (scTs (scanA s.data.toList)).length - i by omega) rfl ⟨congrArg (fun z : Nat => some (Value.int .i64 (z : Int))) (by first | (rw [sum_succ he33, if_neg (by rw [hg66]; decide)]; done) | (rw [sum_succ he33, if_pos hg66, Nat.add_zero]; done)), rfl, trivial⟩ rfl rfl
          · refine sy_skip rfl rfl rfl ?_
            refine sy_skip rfl rfl rfl ?_
            refine sy_pickF rfl rfl rfl rfl ?_
            refine sy_pickF rfl rfl rfl rfl ?_
            refine sy_setF (d := 85) rfl rfl rfl ?_
            refine sy_nil rfl ?_
            refine ny_next ?_
            refine cy_condF rfl ?_
            refine cy_skip ?_
            refine ny_next ?_
            refine cy_seq ?_
            refine cy_region ?_
            refine sy_field fld_31_3 rfl rfl rfl ?_
            first | refine sy_ldr 0 one_4 rfl rfl rfl rfl rfl ?_ | refine sy_ldr 1 one_4 rfl rfl rfl rfl rfl ?_
            refine sy_not rfl rfl rfl ?_
            refine sy_setT (d := 88) rfl rfl (by rw [hg66]; rfl) ?_
            refine sy_nil rfl ?_
            refine ny_next ?_
            refine cy_condT rfl ?_
            refine cy_region ?_
            refine sy_move rfl rfl rfl ?_
            refine sy_field fld_31_1 rfl rfl rfl ?_
            first | refine sy_ldr 0 one_9 rfl rfl rfl rfl rfl ?_ | refine sy_ldr 1 one_9 rfl rfl rfl rfl rfl ?_
            refine sy_len rfl (len_string Try.underlying9 _) rfl rfl ?_
            have hs93 := sum_succ he33
            have hs94 := sum_le (scTs (scanA s.data.toList)) (i + 1)
            rw [if_neg (by rw [hg66]; decide)] at hs93
            refine sy_addi (z := ((sumT ((scTs (scanA s.data.toList)).take i) + e33.a.str.size : Nat) : Int)) rfl rfl (by omega) (by omega) (by omega) rfl rfl ?_
            refine sy_assign rfl rfl rfl ?_
            refine sy_nil rfl ?_
            refine ny_blockN ?_
            refine ny_next ?_
            refine cy_region ?_
            refine sy_move rfl rfl rfl ?_
            refine sy_addi (z := ((i + 1 : Nat) : Int)) rfl rfl (by omega) (by omega) (by omega) rfl rfl ?_
            refine sy_assign rfl rfl rfl ?_
            refine sy_nil rfl ?_
            refine ny_roundK [0, 3, 4] (i + 1) [] (show i + 1 ≤ (scTs (scanA s.data.toList)).length by omega) (show (scTs (scanA s.data.toList)).length - (i + 1) < (scTs (scanA s.data.toList)).length - i by omega) rfl ⟨congrArg (fun z : Nat => some (Value.int .i64 (z : Int))) (by first | (rw [sum_succ he33, if_neg (by rw [hg66]; decide)]; done) | (rw [sum_succ he33, if_pos hg66, Nat.add_zero]; done)), rfl, trivial⟩ rfl rfl
      · refine sy_skip rfl rfl rfl ?_
        refine sy_skip rfl rfl rfl ?_
        refine sy_skip rfl rfl rfl ?_
        refine sy_pickF rfl rfl rfl rfl ?_
        refine sy_pickF rfl rfl rfl rfl ?_
        refine sy_move rfl rfl rfl ?_
        refine sy_setF (d := 53) rfl rfl rfl ?_
        refine sy_field fld_31_0 rfl rfl rfl ?_
        first | refine sy_ldr 0 one_3 rfl rfl rfl rfl rfl ?_ | refine sy_ldr 1 one_3 rfl rfl rfl rfl rfl ?_
        refine sy_cmp rfl rfl rfl rfl rfl ?_
        refine sy_move rfl rfl rfl ?_
        refine sy_setT (d := 57) rfl rfl (by simpa using hg47) ?_
        refine sy_field fld_31_1 rfl rfl rfl ?_
        first | refine sy_ldr 0 one_9 rfl rfl rfl rfl rfl ?_ | refine sy_ldr 1 one_9 rfl rfl rfl rfl rfl ?_
        refine sy_nes rfl rfl rfl rfl ?_
        refine sy_pickT rfl rfl rfl rfl ?_
        refine sy_pickF rfl rfl rfl rfl ?_
        refine sy_move rfl rfl rfl ?_
        refine sy_setF (d := 63) rfl rfl (by rw [hF.str (by simpa using hg47)]; rfl) ?_
        refine sy_field fld_31_3 rfl rfl rfl ?_
        first | refine sy_ldr 0 one_4 rfl rfl rfl rfl rfl ?_ | refine sy_ldr 1 one_4 rfl rfl rfl rfl rfl ?_
        refine sy_move rfl rfl rfl ?_
        refine sy_cond (d := 66) _ rfl rfl (fun hg66 => ?_) (fun hg66 => ?_)
        · refine sy_field fld_31_0 rfl rfl rfl ?_
          first | refine sy_ldr 0 one_3 rfl rfl rfl rfl rfl ?_ | refine sy_ldr 1 one_3 rfl rfl rfl rfl rfl ?_
          refine sy_cmp rfl rfl rfl rfl rfl ?_
          refine sy_pickT rfl rfl rfl rfl ?_
          refine sy_pickF rfl rfl rfl rfl ?_
          refine sy_move rfl rfl rfl ?_
          refine sy_setF (d := 72) rfl rfl (by first | rfl | (rw [hF.quo hg66]; rfl)) ?_
          refine sy_field fld_31_1 rfl rfl rfl ?_
          first | refine sy_ldr 0 one_9 rfl rfl rfl rfl rfl ?_ | refine sy_ldr 1 one_9 rfl rfl rfl rfl rfl ?_
          refine sy_len rfl (len_string Try.underlying9 _) rfl rfl ?_
          refine sy_cmp rfl rfl rfl rfl rfl ?_
          refine sy_pickF rfl rfl rfl rfl ?_
          refine sy_move rfl rfl rfl ?_
          refine sy_setF (d := 78) rfl rfl (by have := hF.size; exact decide_eq_false (by omega)) ?_
          refine sy_move rfl rfl rfl ?_
          refine sy_cmp rfl rfl rfl rfl rfl ?_
          refine sy_move rfl rfl rfl ?_
          refine sy_cond (d := 81) _ rfl rfl (fun hg81 => ?_) (fun hg81 => ?_)
          · have hi0 : i = 0 := by simpa using hg81
            have htf := htg e33 (by rw [← hi0]; exact he33)
            refine sy_field fld_31_4 rfl rfl rfl ?_
            first | refine sy_ldr 0 one_4 rfl rfl rfl rfl rfl ?_ | refine sy_ldr 1 one_4 rfl rfl rfl rfl rfl ?_
            refine sy_pickT rfl rfl rfl rfl ?_
            refine sy_pickF rfl rfl rfl rfl ?_
            refine sy_setF (d := 85) rfl rfl htf ?_
            refine sy_nil rfl ?_
            refine ny_next ?_
            refine cy_condF rfl ?_
            refine cy_skip ?_
            refine ny_next ?_
            refine cy_seq ?_
            refine cy_region ?_
            refine sy_field fld_31_3 rfl rfl rfl ?_
            first | refine sy_ldr 0 one_4 rfl rfl rfl rfl rfl ?_ | refine sy_ldr 1 one_4 rfl rfl rfl rfl rfl ?_
            refine sy_not rfl rfl rfl ?_
            refine sy_setF (d := 88) rfl rfl (by rw [hg66]; rfl) ?_
            refine sy_nil rfl ?_
            refine ny_next ?_
            refine cy_condF rfl ?_
            refine cy_skip ?_
            refine ny_blockN ?_
            refine ny_next ?_
            refine cy_region ?_
            refine sy_move rfl rfl rfl ?_
            refine sy_addi (z := ((i + 1 : Nat) : Int)) rfl rfl (by omega) (by omega) (by omega) rfl rfl ?_
            refine sy_assign rfl rfl rfl ?_
            refine sy_nil rfl ?_
            refine ny_roundK [0, 3, 4] (i + 1) [] (show i + 1 ≤ (scTs (scanA s.data.toList)).length by omega) (show (scTs (scanA s.data.toList)).length - (i + 1) < (scTs (scanA s.data.toList)).length - i by omega) rfl ⟨congrArg (fun z : Nat => some (Value.int .i64 (z : Int))) (by first | (rw [sum_succ he33, if_neg (by rw [hg66]; decide)]; done) | (rw [sum_succ he33, if_pos hg66, Nat.add_zero]; done)), rfl, trivial⟩ rfl rfl
          · refine sy_skip rfl rfl rfl ?_
            refine sy_skip rfl rfl rfl ?_
            refine sy_pickF rfl rfl rfl rfl ?_
            refine sy_pickF rfl rfl rfl rfl ?_
            refine sy_setF (d := 85) rfl rfl rfl ?_
            refine sy_nil rfl ?_
            refine ny_next ?_
            refine cy_condF rfl ?_
            refine cy_skip ?_
            refine ny_next ?_
            refine cy_seq ?_
            refine cy_region ?_
            refine sy_field fld_31_3 rfl rfl rfl ?_
            first | refine sy_ldr 0 one_4 rfl rfl rfl rfl rfl ?_ | refine sy_ldr 1 one_4 rfl rfl rfl rfl rfl ?_
            refine sy_not rfl rfl rfl ?_
            refine sy_setF (d := 88) rfl rfl (by rw [hg66]; rfl) ?_
            refine sy_nil rfl ?_
            refine ny_next ?_
            refine cy_condF rfl ?_
            refine cy_skip ?_
            refine ny_blockN ?_
            refine ny_next ?_
            refine cy_region ?_
            refine sy_move rfl rfl rfl ?_
            refine sy_addi (z := ((i + 1 : Nat) : Int)) rfl rfl (by omega) (by omega) (by omega) rfl rfl ?_
            refine sy_assign rfl rfl rfl ?_
            refine sy_nil rfl ?_
            refine ny_roundK [0, 3, 4] (i + 1) [] (show i + 1 ≤ (scTs (scanA s.data.toList)).length by omega) (show (scTs (scanA s.data.toList)).length - (i + 1) < (scTs (scanA s.data.toList)).length - i by omega) rfl ⟨congrArg (fun z : Nat => some (Value.int .i64 (z : Int))) (by first | (rw [sum_succ he33, if_neg (by rw [hg66]; decide)]; done) | (rw [sum_succ he33, if_pos hg66, Nat.add_zero]; done)), rfl, trivial⟩ rfl rfl
        · refine sy_skip rfl rfl rfl ?_
          refine sy_skip rfl rfl rfl ?_
          refine sy_skip rfl rfl rfl ?_
          refine sy_pickF rfl rfl rfl rfl ?_
          refine sy_pickF rfl rfl rfl rfl ?_
          refine sy_move rfl rfl rfl ?_
          refine sy_setF (d := 72) rfl rfl (by first | rfl | (rw [hF.quo hg66]; rfl)) ?_
          refine sy_field fld_31_1 rfl rfl rfl ?_
          first | refine sy_ldr 0 one_9 rfl rfl rfl rfl rfl ?_ | refine sy_ldr 1 one_9 rfl rfl rfl rfl rfl ?_
          refine sy_len rfl (len_string Try.underlying9 _) rfl rfl ?_
          refine sy_cmp rfl rfl rfl rfl rfl ?_
          refine sy_pickF rfl rfl rfl rfl ?_
          refine sy_move rfl rfl rfl ?_
          refine sy_setF (d := 78) rfl rfl (by have := hF.size; exact decide_eq_false (by omega)) ?_
          refine sy_move rfl rfl rfl ?_
          refine sy_cmp rfl rfl rfl rfl rfl ?_
          refine sy_move rfl rfl rfl ?_
          refine sy_cond (d := 81) _ rfl rfl (fun hg81 => ?_) (fun hg81 => ?_)
          · have hi0 : i = 0 := by simpa using hg81
            have htf := htg e33 (by rw [← hi0]; exact he33)
            refine sy_field fld_31_4 rfl rfl rfl ?_
            first | refine sy_ldr 0 one_4 rfl rfl rfl rfl rfl ?_ | refine sy_ldr 1 one_4 rfl rfl rfl rfl rfl ?_
            refine sy_pickT rfl rfl rfl rfl ?_
            refine sy_pickF rfl rfl rfl rfl ?_
            refine sy_setF (d := 85) rfl rfl htf ?_
            refine sy_nil rfl ?_
            refine ny_next ?_
            refine cy_condF rfl ?_
            refine cy_skip ?_
            refine ny_next ?_
            refine cy_seq ?_
            refine cy_region ?_
            refine sy_field fld_31_3 rfl rfl rfl ?_
            first | refine sy_ldr 0 one_4 rfl rfl rfl rfl rfl ?_ | refine sy_ldr 1 one_4 rfl rfl rfl rfl rfl ?_
            refine sy_not rfl rfl rfl ?_
            refine sy_setT (d := 88) rfl rfl (by rw [hg66]; rfl) ?_
            refine sy_nil rfl ?_
            refine ny_next ?_
            refine cy_condT rfl ?_
            refine cy_region ?_
            refine sy_move rfl rfl rfl ?_
            refine sy_field fld_31_1 rfl rfl rfl ?_
            first | refine sy_ldr 0 one_9 rfl rfl rfl rfl rfl ?_ | refine sy_ldr 1 one_9 rfl rfl rfl rfl rfl ?_
            refine sy_len rfl (len_string Try.underlying9 _) rfl rfl ?_
            have hs93 := sum_succ he33
            have hs94 := sum_le (scTs (scanA s.data.toList)) (i + 1)
            rw [if_neg (by rw [hg66]; decide)] at hs93
            refine sy_addi (z := ((sumT ((scTs (scanA s.data.toList)).take i) + e33.a.str.size : Nat) : Int)) rfl rfl (by omega) (by omega) (by omega) rfl rfl ?_
            refine sy_assign rfl rfl rfl ?_
            refine sy_nil rfl ?_
            refine ny_blockN ?_
            refine ny_next ?_
            refine cy_region ?_
            refine sy_move rfl rfl rfl ?_
            refine sy_addi (z := ((i + 1 : Nat) : Int)) rfl rfl (by omega) (by omega) (by omega) rfl rfl ?_
            refine sy_assign rfl rfl rfl ?_
            refine sy_nil rfl ?_
            refine ny_roundK [0, 3, 4] (i + 1) [] (show i + 1 ≤ (scTs (scanA s.data.toList)).length by omega) (show (scTs (scanA s.data.toList)).length - (i + 1) < (scTs (scanA s.data.toList)).length - i by omega) rfl ⟨congrArg (fun z : Nat => some (Value.int .i64 (z : Int))) (by first | (rw [sum_succ he33, if_neg (by rw [hg66]; decide)]; done) | (rw [sum_succ he33, if_pos hg66, Nat.add_zero]; done)), rfl, trivial⟩ rfl rfl
          · refine sy_skip rfl rfl rfl ?_
            refine sy_skip rfl rfl rfl ?_
            refine sy_pickF rfl rfl rfl rfl ?_
            refine sy_pickF rfl rfl rfl rfl ?_
            refine sy_setF (d := 85) rfl rfl rfl ?_
            refine sy_nil rfl ?_
            refine ny_next ?_
            refine cy_condF rfl ?_
            refine cy_skip ?_
            refine ny_next ?_
            refine cy_seq ?_
            refine cy_region ?_
            refine sy_field fld_31_3 rfl rfl rfl ?_
            first | refine sy_ldr 0 one_4 rfl rfl rfl rfl rfl ?_ | refine sy_ldr 1 one_4 rfl rfl rfl rfl rfl ?_
            refine sy_not rfl rfl rfl ?_
            refine sy_setT (d := 88) rfl rfl (by rw [hg66]; rfl) ?_
            refine sy_nil rfl ?_
            refine ny_next ?_
            refine cy_condT rfl ?_
            refine cy_region ?_
            refine sy_move rfl rfl rfl ?_
            refine sy_field fld_31_1 rfl rfl rfl ?_
            first | refine sy_ldr 0 one_9 rfl rfl rfl rfl rfl ?_ | refine sy_ldr 1 one_9 rfl rfl rfl rfl rfl ?_
            refine sy_len rfl (len_string Try.underlying9 _) rfl rfl ?_
            have hs93 := sum_succ he33
            have hs94 := sum_le (scTs (scanA s.data.toList)) (i + 1)
            rw [if_neg (by rw [hg66]; decide)] at hs93
            refine sy_addi (z := ((sumT ((scTs (scanA s.data.toList)).take i) + e33.a.str.size : Nat) : Int)) rfl rfl (by omega) (by omega) (by omega) rfl rfl ?_
            refine sy_assign rfl rfl rfl ?_
            refine sy_nil rfl ?_
            refine ny_blockN ?_
            refine ny_next ?_
            refine cy_region ?_
            refine sy_move rfl rfl rfl ?_
            refine sy_addi (z := ((i + 1 : Nat) : Int)) rfl rfl (by omega) (by omega) (by omega) rfl rfl ?_
            refine sy_assign rfl rfl rfl ?_
            refine sy_nil rfl ?_
            refine ny_roundK [0, 3, 4] (i + 1) [] (show i + 1 ≤ (scTs (scanA s.data.toList)).length by omega) (show (scTs (scanA s.data.toList)).length - (i + 1) < (scTs (scanA s.data.toList)).length - i by omega) rfl ⟨congrArg (fun z : Nat => some (Value.int .i64 (z : Int))) (by first | (rw [sum_succ he33, if_neg (by rw [hg66]; decide)]; done) | (rw [sum_succ he33, if_pos hg66, Nat.add_zero]; done)), rfl, trivial⟩ rfl rfl
    · have hie : i = (scTs (scanA s.data.toList)).length := by have := of_decide_eq_false hc28; omega
      subst hie
      refine cy_exit ?_
      refine ny_thenE ?_
      refine ny_thenE ?_
      refine ny_blockX ?_
      refine ny_next ?_
      refine cy_seq ?_
      refine cy_region ?_
      refine sy_move rfl rfl rfl ?_
      refine sy_move rfl rfl rfl ?_
      refine sy_setT (d := 95) rfl rfl (by first | rfl | (simp; done)) ?_
      refine sy_move rfl rfl rfl ?_
      refine sy_move rfl rfl rfl ?_
      refine sy_len rfl (len_string Try.underlying9 _) rfl rfl ?_
      refine sy_cmp rfl rfl rfl rfl rfl ?_
      refine sy_pickT rfl rfl rfl rfl ?_
      refine sy_move rfl rfl rfl ?_
      refine sy_setT (d := 101) rfl rfl (by rw [List.take_length] at hsu ⊢; exact decide_eq_true (by omega)) ?_
      refine sy_move rfl rfl rfl ?_
      refine sy_len rfl (len_slice Try.underlying24 _ _ _) rfl rfl ?_
      refine sy_move rfl rfl rfl ?_
      refine sy_len rfl (len_string Try.underlying9 _) rfl rfl ?_
      refine sy_cmp rfl rfl rfl rfl rfl ?_
      refine sy_pickT rfl rfl rfl rfl ?_
      refine sy_assign rfl rfl rfl ?_
      refine sy_nil rfl ?_
      refine ny_next ?_
      refine cy_ret ?_
      refine ny_finR (res1 rfl rfl) (fun w hs2 => ⟨?_, hs2.frm⟩)
      refine congrArg (fun b => Ending.returned (Value.bool b)) ?_
      exact decide_eq_true (by omega)
set_option maxRecDepth 100000 in
theorem remarks_c (s t : ByteArray) (h : Hp) : C0 Try.prog 6 [.string s, .string t] h (.bool true) := by
  refine enter0 Try.func6 rfl rfl rfl (fun w => ?_)
  refine cy_seq ?_
  refine cy_region ?_
  refine sy_assign rfl rfl rfl ?_
  refine sy_nil rfl ?_
  refine ny_next ?_
  refine cy_seq ?_
  refine cy_region ?_
  refine sy_call rfl call_7 rfl (shown05_c _) rfl rfl ?_
  refine sy_assign rfl rfl rfl ?_
  refine sy_nil rfl ?_
  refine ny_next ?_
  refine cy_seq ?_
  refine cy_seq ?_
  refine cy_region ?_
  refine sy_move rfl rfl rfl ?_
  refine sy_len rfl (len_string Try.underlying9 _) rfl rfl ?_
  refine sy_cmp rfl rfl rfl rfl rfl ?_
  refine sy_move rfl rfl rfl ?_
  refine sy_cond (d := 20) _ rfl rfl (fun hg20 => ?_) (fun hg20 => ?_)
  · refine sy_skip rfl rfl rfl ?_
    refine sy_skip rfl rfl rfl ?_
    refine sy_skip rfl rfl rfl ?_
    refine sy_pickT rfl rfl rfl rfl ?_
    refine sy_nil rfl ?_
    refine ny_next ?_
    refine cy_condT rfl ?_
    refine cy_seq ?_
    refine cy_region ?_
    refine sy_move rfl rfl rfl ?_
    refine sy_assign rfl rfl rfl ?_
    refine sy_nil rfl ?_
    refine ny_next ?_
    refine cy_ret ?_
    refine ny_thenR ?_
    refine ny_finR (res1 rfl rfl) (fun w hs2 => ⟨?_, hs2.frm⟩)
    rfl
  · refine sy_move rfl rfl rfl ?_
    refine sy_len rfl (len_string Try.underlying9 _) rfl rfl ?_
    refine sy_cmp rfl rfl rfl rfl rfl ?_
    refine sy_pickF rfl rfl rfl rfl ?_
    refine sy_nil rfl ?_
    refine ny_next ?_
    refine cy_cond rfl (fun hc24 => ?_) (fun hc24 => ?_)
    · refine cy_seq ?_
      refine cy_region ?_
      refine sy_move rfl rfl rfl ?_
      refine sy_assign rfl rfl rfl ?_
      refine sy_nil rfl ?_
      refine ny_next ?_
      refine cy_ret ?_
      refine ny_thenR ?_
      refine ny_finR (res1 rfl rfl) (fun w hs2 => ⟨?_, hs2.frm⟩)
      rfl
    · have hs1 : s.size ≤ 1000 := by have := of_decide_eq_false hg20; omega
      have ht1 : t.size ≤ 1000 := by have := of_decide_eq_false hc24; omega
      have hs2 : s.data.toList.length ≤ 2000 := by show s.size ≤ 2000; omega
      have ht2 : t.data.toList.length ≤ 1000 := by show t.size ≤ 1000; omega
      refine cy_skip ?_
      refine ny_next ?_
      refine cy_seq ?_
      refine cy_seq ?_
      refine cy_region ?_
      refine sy_assign rfl rfl rfl ?_
      refine sy_nil rfl ?_
      refine ny_next ?_
      refine cy_block ?_
      refine cy_loopK (ι := Nat) [0, 1, 5] rfl (fun i => i ≤ t.size ∧ (t.data.toList.take i).contains 10 = false) (fun i => t.size - i) (fun i => [(6, .int .i64 (i : Int))]) (fun i => h) (fun i => []) 0 [] ⟨Nat.zero_le _, by simp⟩ ⟨rfl, trivial⟩ rfl rfl ?_
      rintro i ⟨hI, hpre⟩
      refine cy_seq ?_
      refine cy_seq ?_
      refine cy_region ?_
      refine sy_move rfl rfl rfl ?_
      refine sy_move rfl rfl rfl ?_
      refine sy_len rfl (len_string Try.underlying9 _) rfl rfl ?_
      refine sy_cmp rfl rfl rfl rfl rfl ?_
      refine sy_nil rfl ?_
      refine ny_next ?_
      refine cy_cond rfl (fun hc29 => ?_) (fun hc29 => ?_)
      · have hlti : i < t.size := by have := of_decide_eq_true hc29; omega
        obtain ⟨e0, he0⟩ : ∃ e0, t.data.toList[i]? = some e0 := ⟨_, List.getElem?_eq_getElem (by show i < t.size; omega)⟩
        refine cy_skip ?_
        refine ny_next ?_
        refine cy_seq ?_
        refine cy_block ?_
        refine cy_seq ?_
        refine cy_region ?_
        refine sy_move rfl rfl rfl ?_
        refine sy_move rfl rfl rfl ?_
        refine sy_idxs (u := e0) Try.underlying9 rfl rfl (by omega) (ba_at he0) rfl rfl ?_
        refine sy_cmp rfl rfl rfl rfl rfl ?_
        refine sy_nil rfl ?_
        refine ny_next ?_
        refine cy_cond rfl (fun hc35 => ?_) (fun hc35 => ?_)
        · refine cy_seq ?_
          refine cy_region ?_
          refine sy_move rfl rfl rfl ?_
          refine sy_assign rfl rfl rfl ?_
          refine sy_nil rfl ?_
          refine ny_next ?_
          refine cy_ret ?_
          refine ny_blockR ?_
          refine ny_thenR ?_
          refine ny_thenR ?_
          refine ny_blockR ?_
          refine ny_thenR ?_
          refine ny_finR (res1 rfl rfl) (fun w hs2 => ⟨?_, hs2.frm⟩)
          rfl
        · refine cy_skip ?_
          refine ny_blockN ?_
          refine ny_next ?_
          refine cy_region ?_
          refine sy_move rfl rfl rfl ?_
          refine sy_addi (z := ((i + 1 : Nat) : Int)) rfl rfl (by omega) (by omega) (by omega) rfl rfl ?_
          refine sy_assign rfl rfl rfl ?_
          refine sy_nil rfl ?_
          refine ny_roundK [0, 1, 5] (i + 1) [] ⟨by omega, has_snoc he0 hpre (by have h9 : ¬ (e0.toNat : Int) = 10 := (by simpa using hc35); show ¬ e0.toNat = 10; omega)⟩ (show t.size - (i + 1) < t.size - i by omega) rfl ⟨rfl, trivial⟩ rfl rfl
      · have hie : i = t.size := by have := of_decide_eq_false hc29; omega
        subst hie
        have htk : t.data.toList.take t.size = t.data.toList := List.take_of_length_le (Nat.le_refl _)
        rw [htk] at hpre
        have hall := line_all hpre
        have hb2 : scanA (37 :: (t.data.toList ++ [10])) = .ok [] := scan_none (by simp only [List.length_cons, List.length_append, List.length_nil]; omega) (skip_note1 hall)
        have hb3 : scanA (37 :: t.data.toList) = .ok [] := scan_none (by simp only [List.length_cons]; omega) (skip_note0 hall)
        refine cy_exit ?_
        refine ny_thenE ?_
        refine ny_thenE ?_
        refine ny_blockX ?_
        refine ny_next ?_
        refine cy_seq ?_
        refine cy_region ?_
        refine sy_move rfl rfl rfl ?_
        refine sy_cat rfl rfl (by (try simp only [ByteArray.size_append]); have e1 : (⟨#[10]⟩ : ByteArray).size = 1 := rfl; have e2 : (⟨#[10, 37]⟩ : ByteArray).size = 2 := rfl; have e3 : (⟨#[32]⟩ : ByteArray).size = 1 := rfl; omega) rfl rfl ?_
        refine sy_callx call_9 rfl (scan3_c _ (s.data.toList ++ [10]) (by simp [ba_cat]) _) rfl rfl (fun x40 h40 hx40 hle40 => ?_)
        obtain ⟨A40, c40⟩ := x40
        obtain ⟨hr40, hq40⟩ := hx40
        simp only at hr40 hq40 ⊢
        refine sy_move rfl rfl rfl ?_
        refine sy_extract rfl rfl rfl rfl ?_
        refine sy_extract rfl rfl rfl rfl ?_
        refine sy_extract rfl rfl rfl rfl ?_
        refine sy_assign rfl rfl rfl ?_
        refine sy_assign rfl rfl rfl ?_
        refine sy_assign rfl rfl rfl ?_
        refine sy_nil rfl ?_
        refine ny_next ?_
        refine cy_seq ?_
        refine cy_region ?_
        refine sy_move rfl rfl rfl ?_
        refine sy_cat rfl rfl (by (try simp only [ByteArray.size_append]); have e1 : (⟨#[10]⟩ : ByteArray).size = 1 := rfl; have e2 : (⟨#[10, 37]⟩ : ByteArray).size = 2 := rfl; have e3 : (⟨#[32]⟩ : ByteArray).size = 1 := rfl; omega) rfl rfl ?_
        refine sy_move rfl rfl rfl ?_
        refine sy_cat rfl rfl (by (try simp only [ByteArray.size_append]); have e1 : (⟨#[10]⟩ : ByteArray).size = 1 := rfl; have e2 : (⟨#[10, 37]⟩ : ByteArray).size = 2 := rfl; have e3 : (⟨#[32]⟩ : ByteArray).size = 1 := rfl; omega) rfl rfl ?_
        refine sy_cat rfl rfl (by (try simp only [ByteArray.size_append]); have e1 : (⟨#[10]⟩ : ByteArray).size = 1 := rfl; have e2 : (⟨#[10, 37]⟩ : ByteArray).size = 2 := rfl; have e3 : (⟨#[32]⟩ : ByteArray).size = 1 := rfl; omega) rfl rfl ?_
        refine sy_callx call_9 rfl (scan3_c _ (s.data.toList ++ 10 :: (37 :: (t.data.toList ++ [10]))) (by simp [ba_cat]) _) rfl rfl (fun x50 h50 hx50 hle50 => ?_)
        obtain ⟨A50, c50⟩ := x50
        obtain ⟨hr50, hq50⟩ := hx50
        simp only at hr50 hq50 ⊢
        replace hr40 := hr40.le hle50
        refine sy_move rfl rfl rfl ?_
        refine sy_extract rfl rfl rfl rfl ?_
        refine sy_extract rfl rfl rfl rfl ?_
        refine sy_extract rfl rfl rfl rfl ?_
        refine sy_assign rfl rfl rfl ?_
        refine sy_assign rfl rfl rfl ?_
        refine sy_assign rfl rfl rfl ?_
        refine sy_nil rfl ?_
        refine ny_next ?_
        refine cy_seq ?_
        refine cy_region ?_
        refine sy_move rfl rfl rfl ?_
        refine sy_cat rfl rfl (by (try simp only [ByteArray.size_append]); have e1 : (⟨#[10]⟩ : ByteArray).size = 1 := rfl; have e2 : (⟨#[10, 37]⟩ : ByteArray).size = 2 := rfl; have e3 : (⟨#[32]⟩ : ByteArray).size = 1 := rfl; omega) rfl rfl ?_
        refine sy_move rfl rfl rfl ?_
        refine sy_cat rfl rfl (by (try simp only [ByteArray.size_append]); have e1 : (⟨#[10]⟩ : ByteArray).size = 1 := rfl; have e2 : (⟨#[10, 37]⟩ : ByteArray).size = 2 := rfl; have e3 : (⟨#[32]⟩ : ByteArray).size = 1 := rfl; omega) rfl rfl ?_
        refine sy_callx call_9 rfl (scan3_c _ (s.data.toList ++ 10 :: (37 :: t.data.toList)) (by simp [ba_cat]) _) rfl rfl (fun x59 h59 hx59 hle59 => ?_)
        obtain ⟨A59, c59⟩ := x59
        obtain ⟨hr59, hq59⟩ := hx59
        simp only at hr59 hq59 ⊢
        replace hr40 := hr40.le hle59
        replace hr50 := hr50.le hle59
        refine sy_move rfl rfl rfl ?_
        refine sy_extract rfl rfl rfl rfl ?_
        refine sy_extract rfl rfl rfl rfl ?_
        refine sy_extract rfl rfl rfl rfl ?_
        refine sy_assign rfl rfl rfl ?_
        refine sy_assign rfl rfl rfl ?_
        refine sy_assign rfl rfl rfl ?_
        refine sy_nil rfl ?_
        refine ny_next ?_
        refine cy_seq ?_
        refine cy_seq ?_
        refine cy_region ?_
        refine sy_move rfl rfl rfl ?_
        refine sy_eqn (e := (scE (scanA (s.data.toList ++ [10]))).isNone) Try.underlying26 rfl (nilB_err _ _) rfl rfl rfl ?_
        refine sy_nil rfl ?_
        refine ny_next ?_
        refine cy_cond rfl (fun hc64 => ?_) (fun hc64 => ?_)
        · have hn1 : ¬ scE (scanA (s.data.toList ++ [10])) = none := fun h9 => by rw [h9] at hc64; exact absurd hc64 (by decide)
          have hn2 := (join_bad1 hs2 (t := 37 :: (t.data.toList ++ [10])) (by simp only [List.length_cons, List.length_append, List.length_nil]; omega) hn1).1
          have hn3 := (join_bad1 hs2 (t := 37 :: t.data.toList) (by simp only [List.length_cons]; omega) hn1).1
          obtain ⟨x9, hx9⟩ := Option.ne_none_iff_exists'.1 hn1
          rw [hx9] at hn2 hn3
          refine cy_seq ?_
          refine cy_region ?_
          refine sy_move rfl rfl rfl ?_
          refine sy_move rfl rfl rfl ?_
          refine sy_setT (d := 66) rfl rfl (by first | rfl | decide | kernel_rfl | (simp; done) | (simp_all; done)) ?_
          refine sy_move rfl rfl rfl ?_
          refine sy_eqn (e := (scE (scanA (s.data.toList ++ 10 :: (37 :: (t.data.toList ++ [10]))))).isNone) Try.underlying26 rfl (nilB_err _ _) rfl rfl rfl ?_
          refine sy_pickT rfl rfl rfl rfl ?_
          refine sy_move rfl rfl rfl ?_
          refine sy_setT (d := 70) rfl rfl (by rw [hn2]; rfl) ?_
          refine sy_move rfl rfl rfl ?_
          refine sy_eqn (e := (scE (scanA (s.data.toList ++ 10 :: (37 :: t.data.toList)))).isNone) Try.underlying26 rfl (nilB_err _ _) rfl rfl rfl ?_
          refine sy_pickT rfl rfl rfl rfl ?_
          refine sy_assign rfl rfl rfl ?_
          refine sy_nil rfl ?_
          refine ny_next ?_
          refine cy_ret ?_
          refine ny_thenR ?_
          refine ny_finR (res1 rfl rfl) (fun w hs2 => ⟨?_, hs2.frm⟩)
          rw [hn3]
          rfl
        · have hok1 : scE (scanA (s.data.toList ++ [10])) = none := Option.isNone_iff_eq_none.1 (by simpa using hc64)
          have hj2 := join_ok hs2 (t := 37 :: (t.data.toList ++ [10])) (by simp only [List.length_cons, List.length_append, List.length_nil]; omega) hok1 (by rw [hb2]; rfl)
          have hj3 := join_ok hs2 (t := 37 :: t.data.toList) (by simp only [List.length_cons]; omega) hok1 (by rw [hb3]; rfl)
          rw [hb2] at hj2
          rw [hb3] at hj3
          rw [show ∀ l : List Tk, l ++ scTs (.ok []) = l from fun l => List.append_nil l] at hj2 hj3
          rw [hj2] at hr50 ⊢
          rw [hj3] at hr59 ⊢
          have hf1 := (scan_fair hok1).2.2.1
          rw [List.length_append, List.length_cons, List.length_nil] at hf1
          refine cy_skip ?_
          refine ny_next ?_
          refine cy_seq ?_
          refine cy_region ?_
          refine sy_move rfl rfl rfl ?_
          refine sy_move rfl rfl rfl ?_
          refine sy_setT (d := 75) rfl rfl (by first | rfl | decide | kernel_rfl | (simp; done) | (simp_all; done)) ?_
          refine sy_move rfl rfl rfl ?_
          refine sy_eqn (e := true) Try.underlying26 rfl rfl rfl rfl rfl ?_
          refine sy_pickT rfl rfl rfl rfl ?_
          refine sy_move rfl rfl rfl ?_
          refine sy_setT (d := 79) rfl rfl (by first | rfl | decide | kernel_rfl | (simp; done) | (simp_all; done)) ?_
          refine sy_move rfl rfl rfl ?_
          refine sy_eqn (e := true) Try.underlying26 rfl rfl rfl rfl rfl ?_
          refine sy_pickT rfl rfl rfl rfl ?_
          refine sy_move rfl rfl rfl ?_
          refine sy_setT (d := 83) rfl rfl (by first | rfl | decide | kernel_rfl | (simp; done) | (simp_all; done)) ?_
          refine sy_move rfl rfl rfl ?_
          refine sy_move rfl rfl rfl ?_
          refine sy_call rfl call_12 rfl (same_c2 (scTs (scanA (s.data.toList ++ [10]))) A40 A50 _ _ c40 c50 _ _ hr40 hr50 rfl rfl (by omega)) rfl rfl ?_
          refine sy_pickT rfl rfl rfl rfl ?_
          refine sy_move rfl rfl rfl ?_
          refine sy_setT (d := 88) rfl rfl (by first | rfl | decide | kernel_rfl | (simp; done) | (simp_all; done)) ?_
          refine sy_move rfl rfl rfl ?_
          refine sy_move rfl rfl rfl ?_
          refine sy_call rfl call_12 rfl (same_c2 (scTs (scanA (s.data.toList ++ [10]))) A40 A59 _ _ c40 c59 _ _ hr40 hr59 rfl rfl (by omega)) rfl rfl ?_
          refine sy_pickT rfl rfl rfl rfl ?_
          refine sy_assign rfl rfl rfl ?_
          refine sy_nil rfl ?_
          refine ny_next ?_
          refine cy_ret ?_
          refine ny_finR (res1 rfl rfl) (fun w hs2 => ⟨?_, hs2.frm⟩)
          rfl
end Go.Proofs.Ytdbeiaohibgmeaa

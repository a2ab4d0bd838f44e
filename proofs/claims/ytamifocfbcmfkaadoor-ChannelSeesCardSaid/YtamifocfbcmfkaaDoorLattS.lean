/- The document's New, and the law on orders: what each returns. Conditions: none. Printed by a program of this session. -/
import Derived.Test.YtamifocfbcmfkaaDoorFactsS
set_option linter.unusedVariables false
set_option linter.unusedSimpArgs false
namespace Go.Proofs.YtamifocfbcmfkaaDoor
open Go.RowKit Go.Proofs.YtamifocfbcmfkaaDoor.E Go.Proofs.YtamifocfbcmfkaaDoor.LattP
def refV (x : (Option Addr × Nat × Nat) × Int) : Value := .tuple #[.agg #[.slice x.1.1 x.1.2.1 x.1.2.2], .int .i64 x.2]
def RefR (n : Int) (q : List (Int × Int)) (x : (Option Addr × Nat × Nat) × Int) (h : Hp) : Prop :=
  (x.2 = 0 ∧ (x.1.2.1 : Int) = n ∧ Fine n q ∧ RefT h x.1.1 n.toNat (tw q n.toNat)) ∨ (x = ((none, 0, 0), 1) ∧ ¬ Args n q) ∨ (x = ((none, 0, 0), 4) ∧ Args n q ∧ ¬ IsLatt n.toNat q)
theorem isI_of {k : Nat} {x : Int} (h1 : decide (x < 0) = false) (h2 : decide (x ≥ (k : Int)) = false) : isI k x = true := by
  have h3 := of_decide_eq_false h1
  have h4 := of_decide_eq_false h2
  unfold isI
  rw [decide_eq_true (by omega), decide_eq_true (by omega)]
  rfl
section
variable {n : Nat} {d : Dt} {a b : Nat}
theorem okD_yes (h1 : ((a : Int) != (b : Int)) = false ∨ d a b = false ∨ d b a = false) (h2 : decide (joinD n d a b < 0) = false) (h3 : decide (meetD n d a b < 0) = false) : okD n d a b = true := by
  unfold okD
  rw [h2, h3]
  rcases h1 with h1 | h1 | h1 <;> rw [h1] <;> simp
theorem okD_bad1 (h1 : ((a : Int) != (b : Int)) = true) (h2 : d a b = true) (h3 : d b a = true) : okD n d a b = false := by
  unfold okD
  rw [h1, h2, h3]
  rfl
theorem okD_bad2 (h1 : decide (joinD n d a b < 0) = true) : okD n d a b = false := by
  unfold okD
  rw [h1]
  simp
theorem okD_bad3 (h1 : decide (meetD n d a b < 0) = true) : okD n d a b = false := by
  unfold okD
  rw [h1]
  simp
end
set_option maxRecDepth 100000 in
theorem rNewBad_c (n : Int) (A : Option Addr) (l c : Nat) (q : List (Int × Int)) (h : Hp) (hn : ¬ (1 ≤ n ∧ n ≤ 16)) : CX Tryd.prog 30 [.int .i64 n, .slice A l c] h refV (RefR n q) := by
  refine enterX Tryd.func30 rfl rfl rfl (fun w => ?_)
  refine cy_seq ?_
  refine cy_region ?_
  refine sy_alloc zer_52 rfl rfl (fun b4 hb4 hM4 => ?_) (by simp)
  refine sy_assign rfl rfl rfl ?_
  refine sy_nil rfl ?_
  refine ny_next ?_
  refine cy_seq ?_
  refine cy_seq ?_
  refine cy_region ?_
  refine sy_move rfl rfl rfl ?_
  refine sy_cmp rfl rfl rfl rfl rfl ?_
  refine sy_move rfl rfl rfl ?_
  refine sy_cond (d := 13) _ rfl rfl (fun hg13 => ?_) (fun hg13 => ?_)
  · refine sy_skip rfl rfl rfl ?_
    refine sy_skip rfl rfl rfl ?_
    refine sy_pickT rfl rfl rfl rfl ?_
    refine sy_nil rfl ?_
    refine ny_next ?_
    refine cy_condT rfl ?_
    refine cy_seq ?_
    refine cy_region ?_
    refine sy_build rfl (fun w => bld_52_ w) rfl rfl ?_
    first | refine sy_stl 0 sz_52 rfl rfl rfl rfl rfl rfl rfl rfl ?_ | refine sy_stl 1 sz_52 rfl rfl rfl rfl rfl rfl rfl rfl ?_
    refine sy_assign rfl rfl rfl ?_
    refine sy_nil rfl ?_
    refine ny_next ?_
    refine cy_ret ?_
    refine ny_thenR ?_
    first | refine ny_finR (resc1 0 rfl agg_52 rfl rfl rfl rfl) (fun w hs => ?_) | refine ny_finR (resc1 1 rfl agg_52 rfl rfl rfl rfl) (fun w hs => ?_) | refine ny_finR (resc1 2 rfl agg_52 rfl rfl rfl rfl) (fun w hs => ?_)
    exact ⟨((none, 0, 0), 1), _, rfl, .inr (.inl ⟨rfl, fun ha => hn ⟨ha.1, ha.2.1⟩⟩), hs.toGrow⟩
  · refine sy_move rfl rfl rfl ?_
    refine sy_cmp rfl rfl rfl rfl rfl ?_
    refine sy_pickF rfl rfl rfl rfl ?_
    refine sy_nil rfl ?_
    refine ny_next ?_
    refine cy_cond rfl (fun hc16 => ?_) (fun hc16 => ?_)
    · refine cy_seq ?_
      refine cy_region ?_
      refine sy_build rfl (fun w => bld_52_ w) rfl rfl ?_
      first | refine sy_stl 0 sz_52 rfl rfl rfl rfl rfl rfl rfl rfl ?_ | refine sy_stl 1 sz_52 rfl rfl rfl rfl rfl rfl rfl rfl ?_
      refine sy_assign rfl rfl rfl ?_
      refine sy_nil rfl ?_
      refine ny_next ?_
      refine cy_ret ?_
      refine ny_thenR ?_
      first | refine ny_finR (resc1 0 rfl agg_52 rfl rfl rfl rfl) (fun w hs => ?_) | refine ny_finR (resc1 1 rfl agg_52 rfl rfl rfl rfl) (fun w hs => ?_) | refine ny_finR (resc1 2 rfl agg_52 rfl rfl rfl rfl) (fun w hs => ?_)
      exact ⟨((none, 0, 0), 1), _, rfl, .inr (.inl ⟨rfl, fun ha => hn ⟨ha.1, ha.2.1⟩⟩), hs.toGrow⟩
    · exact absurd hn (by simp at hg13 hc16 ⊢; omega)
set_option maxRecDepth 100000 in
theorem rNewK_c (k : Nat) (A : Option Addr) (l c : Nat) (q : List (Int × Int)) (h : Hp) (hk1 : 1 ≤ k) (hk2 : k ≤ 16) (hp : PairsAt h A q) (hql : q.length = l) (hm : l ≤ 9223372036854775807) : CX Tryd.prog 30 [.int .i64 (k : Int), .slice A l c] h refV (RefR (k : Int) q) := by
  refine enterX Tryd.func30 rfl rfl rfl (fun w => ?_)
  refine cy_seq ?_
  refine cy_region ?_
  refine sy_alloc zer_52 rfl rfl (fun b4 hb4 hM4 => ?_) (by simp)
  refine sy_assign rfl rfl rfl ?_
  refine sy_nil rfl ?_
  refine ny_next ?_
  refine cy_seq ?_
  refine cy_seq ?_
  refine cy_region ?_
  refine sy_move rfl rfl rfl ?_
  refine sy_cmp rfl rfl rfl rfl rfl ?_
  refine sy_setF (d := 12) rfl rfl (by simp; omega) ?_
  refine sy_move rfl rfl rfl ?_
  refine sy_move rfl rfl rfl ?_
  refine sy_cmp rfl rfl rfl rfl rfl ?_
  refine sy_setF (d := 15) rfl rfl (by simp; omega) ?_
  refine sy_pickF rfl rfl rfl rfl ?_
  refine sy_nil rfl ?_
  refine ny_next ?_
  refine cy_condF rfl ?_
  refine cy_skip ?_
  refine ny_next ?_
  refine cy_seq ?_
  refine cy_seq ?_
  refine cy_region ?_
  refine sy_assign rfl rfl rfl ?_
  refine sy_nil rfl ?_
  refine ny_next ?_
  refine cy_block ?_
  refine cy_loop (ι := Nat) (fun j => j ≤ l ∧ InR k (q.take j)) (fun j => l - j) (fun j => [(0, .int .i64 (k : Int)), (1, .slice A l c), (4, .pointer (some ⟨b4, 0, none⟩)), (5, .int .i64 0), (6, .int .i64 (j : Int))]) (fun _ => h) (fun _ => [.blk b4 (.cells [.slice none 0 0].toArray 52 (0, 0))]) 0 [0] ⟨Nat.zero_le _, fun x hx => by simp at hx⟩ ⟨rfl, rfl, rfl, rfl, rfl, trivial⟩ rfl rfl ?_
  rintro j ⟨hj, hInj⟩
  refine cy_seq ?_
  refine cy_seq ?_
  refine cy_region ?_
  refine sy_move rfl rfl rfl ?_
  refine sy_move rfl rfl rfl ?_
  refine sy_len rfl (len_slice Tryd.underlying22 _ _ _) rfl rfl ?_
  refine sy_cmp rfl rfl rfl rfl rfl ?_
  refine sy_nil rfl ?_
  refine ny_next ?_
  refine cy_cond rfl (fun hc21 => ?_) (fun hc21 => ?_)
  · have hltj : j < l := by have := of_decide_eq_true hc21; omega
    obtain ⟨⟨x1, x2⟩, hx⟩ : ∃ x, q[j]? = some x := ⟨_, List.getElem?_eq_getElem (by omega)⟩
    obtain ⟨g, off, rfl, _⟩ := hp j _ hx
    refine cy_skip ?_
    refine ny_next ?_
    refine cy_seq ?_
    refine cy_block ?_
    refine cy_seq ?_
    refine cy_region ?_
    refine sy_move rfl rfl rfl ?_
    refine sy_move rfl rfl rfl ?_
    refine sy_idxS els_22 rfl rfl (by omega) (by omega) rfl rfl ?_
    refine sy_ldah (vs := [.int .i64 x1, .int .i64 x2]) agg_90 rfl rfl (hp.get hx) rfl rfl ?_
    refine sy_alloc zer_90 rfl rfl (fun b7 hb7 hM7 => ?_) (by simp)
    first | refine sy_stl 0 sz_90 rfl rfl rfl rfl rfl rfl rfl rfl ?_ | refine sy_stl 1 sz_90 rfl rfl rfl rfl rfl rfl rfl rfl ?_ | refine sy_stl 2 sz_90 rfl rfl rfl rfl rfl rfl rfl rfl ?_
    refine sy_nil rfl ?_
    refine ny_next ?_
    refine cy_seq ?_
    refine cy_region ?_
    refine sy_idxA arr_90 rfl rfl (by omega) (by omega) rfl rfl ?_
    first | refine sy_ldr 0 one_3 rfl rfl rfl rfl rfl ?_ | refine sy_ldr 1 one_3 rfl rfl rfl rfl rfl ?_ | refine sy_ldr 2 one_3 rfl rfl rfl rfl rfl ?_
    refine sy_cmp rfl rfl rfl rfl rfl ?_
    refine sy_move rfl rfl rfl ?_
    refine sy_cond (d := 31) _ rfl rfl (fun hg31 => ?_) (fun hg31 => ?_)
    · refine sy_skip rfl rfl rfl ?_
      refine sy_skip rfl rfl rfl ?_
      refine sy_skip rfl rfl rfl ?_
      refine sy_skip rfl rfl rfl ?_
      refine sy_pickT rfl rfl rfl rfl ?_
      refine sy_move rfl rfl rfl ?_
      refine sy_skip rfl rfl rfl ?_
      refine sy_skip rfl rfl rfl ?_
      refine sy_skip rfl rfl rfl ?_
      refine sy_pickT rfl rfl rfl rfl ?_
      refine sy_move rfl rfl rfl ?_
      refine sy_skip rfl rfl rfl ?_
      refine sy_skip rfl rfl rfl ?_
      refine sy_skip rfl rfl rfl ?_
      refine sy_skip rfl rfl rfl ?_
      refine sy_pickT rfl rfl rfl rfl ?_
      refine sy_nil rfl ?_
      refine ny_next ?_
      refine cy_condT rfl ?_
      refine cy_seq ?_
      refine cy_region ?_
      refine sy_build rfl (fun w => bld_52_ w) rfl rfl ?_
      first | refine sy_stl 0 sz_52 rfl rfl rfl rfl rfl rfl rfl rfl ?_ | refine sy_stl 1 sz_52 rfl rfl rfl rfl rfl rfl rfl rfl ?_ | refine sy_stl 2 sz_52 rfl rfl rfl rfl rfl rfl rfl rfl ?_
      refine sy_assign rfl rfl rfl ?_
      refine sy_nil rfl ?_
      refine ny_next ?_
      refine cy_ret ?_
      refine ny_blockR ?_
      refine ny_thenR ?_
      refine ny_thenR ?_
      refine ny_blockR ?_
      refine ny_thenR ?_
      first | refine ny_finR (resc1 0 rfl agg_52 rfl rfl rfl rfl) (fun w hs => ?_) | refine ny_finR (resc1 1 rfl agg_52 rfl rfl rfl rfl) (fun w hs => ?_) | refine ny_finR (resc1 2 rfl agg_52 rfl rfl rfl rfl) (fun w hs => ?_)
      exact ⟨((none, 0, 0), 1), _, rfl, .inr (.inl ⟨rfl, fun ha => by have h9 := ha.2.2 _ (List.mem_of_getElem? hx); rw [Int.toNat_natCast] at h9; simp only [isI, Bool.and_eq_true, decide_eq_true_eq, decide_eq_false_iff_not, ge_iff_le] at *; omega⟩), hs.toGrow⟩
    · refine sy_idxA arr_90 rfl rfl (by omega) (by omega) rfl rfl ?_
      first | refine sy_ldr 0 one_3 rfl rfl rfl rfl rfl ?_ | refine sy_ldr 1 one_3 rfl rfl rfl rfl rfl ?_ | refine sy_ldr 2 one_3 rfl rfl rfl rfl rfl ?_
      refine sy_move rfl rfl rfl ?_
      refine sy_cmp rfl rfl rfl rfl rfl ?_
      refine sy_pickF rfl rfl rfl rfl ?_
      refine sy_move rfl rfl rfl ?_
      refine sy_cond (d := 37) _ rfl rfl (fun hg37 => ?_) (fun hg37 => ?_)
      · refine sy_skip rfl rfl rfl ?_
        refine sy_skip rfl rfl rfl ?_
        refine sy_skip rfl rfl rfl ?_
        refine sy_pickT rfl rfl rfl rfl ?_
        refine sy_move rfl rfl rfl ?_
        refine sy_skip rfl rfl rfl ?_
        refine sy_skip rfl rfl rfl ?_
        refine sy_skip rfl rfl rfl ?_
        refine sy_skip rfl rfl rfl ?_
        refine sy_pickT rfl rfl rfl rfl ?_
        refine sy_nil rfl ?_
        refine ny_next ?_
        refine cy_condT rfl ?_
        refine cy_seq ?_
        refine cy_region ?_
        refine sy_build rfl (fun w => bld_52_ w) rfl rfl ?_
        first | refine sy_stl 0 sz_52 rfl rfl rfl rfl rfl rfl rfl rfl ?_ | refine sy_stl 1 sz_52 rfl rfl rfl rfl rfl rfl rfl rfl ?_ | refine sy_stl 2 sz_52 rfl rfl rfl rfl rfl rfl rfl rfl ?_
        refine sy_assign rfl rfl rfl ?_
        refine sy_nil rfl ?_
        refine ny_next ?_
        refine cy_ret ?_
        refine ny_blockR ?_
        refine ny_thenR ?_
        refine ny_thenR ?_
        refine ny_blockR ?_
        refine ny_thenR ?_
        first | refine ny_finR (resc1 0 rfl agg_52 rfl rfl rfl rfl) (fun w hs => ?_) | refine ny_finR (resc1 1 rfl agg_52 rfl rfl rfl rfl) (fun w hs => ?_) | refine ny_finR (resc1 2 rfl agg_52 rfl rfl rfl rfl) (fun w hs => ?_)
        exact ⟨((none, 0, 0), 1), _, rfl, .inr (.inl ⟨rfl, fun ha => by have h9 := ha.2.2 _ (List.mem_of_getElem? hx); rw [Int.toNat_natCast] at h9; simp only [isI, Bool.and_eq_true, decide_eq_true_eq, decide_eq_false_iff_not, ge_iff_le] at *; omega⟩), hs.toGrow⟩
      · refine sy_idxA arr_90 rfl rfl (by omega) (by omega) rfl rfl ?_
        first | refine sy_ldr 0 one_3 rfl rfl rfl rfl rfl ?_ | refine sy_ldr 1 one_3 rfl rfl rfl rfl rfl ?_ | refine sy_ldr 2 one_3 rfl rfl rfl rfl rfl ?_
        refine sy_cmp rfl rfl rfl rfl rfl ?_
        refine sy_pickF rfl rfl rfl rfl ?_
        refine sy_move rfl rfl rfl ?_
        refine sy_cond (d := 42) _ rfl rfl (fun hg42 => ?_) (fun hg42 => ?_)
        · refine sy_skip rfl rfl rfl ?_
          refine sy_skip rfl rfl rfl ?_
          refine sy_skip rfl rfl rfl ?_
          refine sy_skip rfl rfl rfl ?_
          refine sy_pickT rfl rfl rfl rfl ?_
          refine sy_nil rfl ?_
          refine ny_next ?_
          refine cy_condT rfl ?_
          refine cy_seq ?_
          refine cy_region ?_
          refine sy_build rfl (fun w => bld_52_ w) rfl rfl ?_
          first | refine sy_stl 0 sz_52 rfl rfl rfl rfl rfl rfl rfl rfl ?_ | refine sy_stl 1 sz_52 rfl rfl rfl rfl rfl rfl rfl rfl ?_ | refine sy_stl 2 sz_52 rfl rfl rfl rfl rfl rfl rfl rfl ?_
          refine sy_assign rfl rfl rfl ?_
          refine sy_nil rfl ?_
          refine ny_next ?_
          refine cy_ret ?_
          refine ny_blockR ?_
          refine ny_thenR ?_
          refine ny_thenR ?_
          refine ny_blockR ?_
          refine ny_thenR ?_
          first | refine ny_finR (resc1 0 rfl agg_52 rfl rfl rfl rfl) (fun w hs => ?_) | refine ny_finR (resc1 1 rfl agg_52 rfl rfl rfl rfl) (fun w hs => ?_) | refine ny_finR (resc1 2 rfl agg_52 rfl rfl rfl rfl) (fun w hs => ?_)
          exact ⟨((none, 0, 0), 1), _, rfl, .inr (.inl ⟨rfl, fun ha => by have h9 := ha.2.2 _ (List.mem_of_getElem? hx); rw [Int.toNat_natCast] at h9; simp only [isI, Bool.and_eq_true, decide_eq_true_eq, decide_eq_false_iff_not, ge_iff_le] at *; omega⟩), hs.toGrow⟩
        · refine sy_idxA arr_90 rfl rfl (by omega) (by omega) rfl rfl ?_
          first | refine sy_ldr 0 one_3 rfl rfl rfl rfl rfl ?_ | refine sy_ldr 1 one_3 rfl rfl rfl rfl rfl ?_ | refine sy_ldr 2 one_3 rfl rfl rfl rfl rfl ?_
          refine sy_move rfl rfl rfl ?_
          refine sy_cmp rfl rfl rfl rfl rfl ?_
          refine sy_pickF rfl rfl rfl rfl ?_
          refine sy_nil rfl ?_
          refine ny_next ?_
          refine cy_cond rfl (fun hc47 => ?_) (fun hc47 => ?_)
          · refine cy_seq ?_
            refine cy_region ?_
            refine sy_build rfl (fun w => bld_52_ w) rfl rfl ?_
            first | refine sy_stl 0 sz_52 rfl rfl rfl rfl rfl rfl rfl rfl ?_ | refine sy_stl 1 sz_52 rfl rfl rfl rfl rfl rfl rfl rfl ?_ | refine sy_stl 2 sz_52 rfl rfl rfl rfl rfl rfl rfl rfl ?_
            refine sy_assign rfl rfl rfl ?_
            refine sy_nil rfl ?_
            refine ny_next ?_
            refine cy_ret ?_
            refine ny_blockR ?_
            refine ny_thenR ?_
            refine ny_thenR ?_
            refine ny_blockR ?_
            refine ny_thenR ?_
            first | refine ny_finR (resc1 0 rfl agg_52 rfl rfl rfl rfl) (fun w hs => ?_) | refine ny_finR (resc1 1 rfl agg_52 rfl rfl rfl rfl) (fun w hs => ?_) | refine ny_finR (resc1 2 rfl agg_52 rfl rfl rfl rfl) (fun w hs => ?_)
            exact ⟨((none, 0, 0), 1), _, rfl, .inr (.inl ⟨rfl, fun ha => by have h9 := ha.2.2 _ (List.mem_of_getElem? hx); rw [Int.toNat_natCast] at h9; simp only [isI, Bool.and_eq_true, decide_eq_true_eq, decide_eq_false_iff_not, ge_iff_le] at *; omega⟩), hs.toGrow⟩
          · refine cy_skip ?_
            refine ny_blockN ?_
            refine ny_next ?_
            refine cy_region ?_
            refine sy_move rfl rfl rfl ?_
            refine sy_addi (z := ((j + 1 : Nat) : Int)) rfl rfl (by omega) (by omega) (by omega) rfl rfl ?_
            refine sy_assign rfl rfl rfl ?_
            refine sy_nil rfl ?_
            refine ny_round (j + 1) [1] ⟨hltj, ?_⟩ (show l - (j + 1) < l - j by omega) ⟨rfl, rfl, rfl, rfl, rfl, trivial⟩ rfl rfl
            rw [take_snoc hx]
            exact hInj.snoc (isI_of hg31 hg37) (isI_of hg42 hc47)
  · have hje : j = q.length := by have := of_decide_eq_false hc21; omega
    subst hje
    rw [List.take_length] at hInj
    have hInR := hInj
    have hTell := tw_tells hInR
    refine cy_exit ?_
    refine ny_thenE ?_
    refine ny_thenE ?_
    refine ny_blockX ?_
    refine ny_next ?_
    refine cy_seq ?_
    refine cy_region ?_
    refine sy_move rfl rfl rfl ?_
    refine sy_move rfl rfl rfl ?_
    refine sy_callx call_60 rfl (rTable_c k A _ c q _ hk1 hk2 hp hql hInR hm) rfl rfl (fun x51 h5 hT hle5 => ?_)
    obtain ⟨A5, c5⟩ := x51
    simp only at hT ⊢
    refine sy_build rfl (fun w => bld_52_0 w) rfl rfl ?_
    refine sy_alloc zer_52 rfl rfl (fun b8 hb8 hM8 => ?_) (by simp)
    first | refine sy_stl 0 sz_52 rfl rfl rfl rfl rfl rfl rfl rfl ?_ | refine sy_stl 1 sz_52 rfl rfl rfl rfl rfl rfl rfl rfl ?_ | refine sy_stl 2 sz_52 rfl rfl rfl rfl rfl rfl rfl rfl ?_
    refine sy_nil rfl ?_
    refine ny_next ?_
    refine cy_seq ?_
    refine cy_seq ?_
    refine cy_region ?_
    refine sy_assign rfl rfl rfl ?_
    refine sy_nil rfl ?_
    refine ny_next ?_
    refine cy_block ?_
    refine cy_loop (ι := Nat) (fun a => a ≤ k ∧ ∀ x, x < a → ∀ y, y < k → okD k (tw q k) x y = true) (fun a => k - a) (fun a => [(0, .int .i64 (k : Int)), (4, .pointer (some ⟨b4, 0, none⟩)), (5, .int .i64 0), (8, .pointer (some ⟨b8, 0, none⟩)), (9, .int .i64 (a : Int))]) (fun _ => h5) (fun _ => [.blk b8 (.cells [.slice A5 k c5].toArray 52 (0, 0)), .blk b4 (.cells [.slice none 0 0].toArray 52 (0, 0))]) 0 [0, 0] ⟨Nat.zero_le _, fun c hc => absurd hc (Nat.not_lt_zero c)⟩ ⟨rfl, rfl, rfl, rfl, rfl, trivial⟩ rfl rfl ?_
    rintro a ⟨haa, hprea⟩
    refine cy_seq ?_
    refine cy_seq ?_
    refine cy_region ?_
    refine sy_move rfl rfl rfl ?_
    refine sy_move rfl rfl rfl ?_
    refine sy_cmp rfl rfl rfl rfl rfl ?_
    refine sy_nil rfl ?_
    refine ny_next ?_
    refine cy_cond rfl (fun hc55 => ?_) (fun hc55 => ?_)
    · have hlta : a < k := by have := of_decide_eq_true hc55; omega
      refine cy_skip ?_
      refine ny_next ?_
      refine cy_seq ?_
      refine cy_block ?_
      refine cy_seq ?_
      refine cy_region ?_
      refine sy_assign rfl rfl rfl ?_
      refine sy_nil rfl ?_
      refine ny_next ?_
      refine cy_block ?_
      refine cy_loop (ι := Nat) (fun b => b ≤ k ∧ ∀ y, y < b → okD k (tw q k) a y = true) (fun b => k - b) (fun b => [(0, .int .i64 (k : Int)), (4, .pointer (some ⟨b4, 0, none⟩)), (5, .int .i64 0), (8, .pointer (some ⟨b8, 0, none⟩)), (9, .int .i64 (a : Int)), (10, .int .i64 (b : Int))]) (fun _ => h5) (fun _ => [.blk b8 (.cells [.slice A5 k c5].toArray 52 (0, 0)), .blk b4 (.cells [.slice none 0 0].toArray 52 (0, 0))]) 0 [0, 0] ⟨Nat.zero_le _, fun c hc => absurd hc (Nat.not_lt_zero c)⟩ ⟨rfl, rfl, rfl, rfl, rfl, rfl, trivial⟩ rfl rfl ?_
      rintro b ⟨hbb, hpreb⟩
      refine cy_seq ?_
      refine cy_seq ?_
      refine cy_region ?_
      refine sy_move rfl rfl rfl ?_
      refine sy_move rfl rfl rfl ?_
      refine sy_cmp rfl rfl rfl rfl rfl ?_
      refine sy_nil rfl ?_
      refine ny_next ?_
      refine cy_cond rfl (fun hc60 => ?_) (fun hc60 => ?_)
      · have hltb : b < k := by have := of_decide_eq_true hc60; omega
        refine cy_skip ?_
        refine ny_next ?_
        refine cy_seq ?_
        refine cy_block ?_
        refine cy_seq ?_
        refine cy_region ?_
        refine sy_move rfl rfl rfl ?_
        refine sy_move rfl rfl rfl ?_
        refine sy_cmp rfl rfl rfl rfl rfl ?_
        refine sy_move rfl rfl rfl ?_
        refine sy_cond (d := 66) _ rfl rfl (fun hg66 => ?_) (fun hg66 => ?_)
        · obtain ⟨g0, g1, c1, rfl, hr1, hr2⟩ := hT a hlta
          refine sy_field fld_52_0 rfl rfl rfl ?_
          first | refine sy_ldr 0 one_50 rfl rfl rfl rfl rfl ?_ | refine sy_ldr 1 one_50 rfl rfl rfl rfl rfl ?_ | refine sy_ldr 2 one_50 rfl rfl rfl rfl rfl ?_
          refine sy_move rfl rfl rfl ?_
          refine sy_idxS els_50 rfl rfl (by omega) (by omega) rfl rfl ?_
          refine sy_ldh one_106 rfl hr1 rfl rfl ?_
          refine sy_move rfl rfl rfl ?_
          refine sy_idxS els_106 rfl rfl (by omega) (by omega) rfl rfl ?_
          refine sy_ldh one_4 rfl (hr2 b hltb) rfl rfl ?_
          refine sy_pickT rfl rfl rfl rfl ?_
          refine sy_move rfl rfl rfl ?_
          refine sy_cond (d := 76) _ rfl rfl (fun hg76 => ?_) (fun hg76 => ?_)
          · obtain ⟨g2, g3, c3, he, hs1, hs2⟩ := hT b hltb
            injection he with he
            injection he with he
            subst he
            refine sy_field fld_52_0 rfl rfl rfl ?_
            first | refine sy_ldr 0 one_50 rfl rfl rfl rfl rfl ?_ | refine sy_ldr 1 one_50 rfl rfl rfl rfl rfl ?_ | refine sy_ldr 2 one_50 rfl rfl rfl rfl rfl ?_
            refine sy_move rfl rfl rfl ?_
            refine sy_idxS els_50 rfl rfl (by omega) (by omega) rfl rfl ?_
            refine sy_ldh one_106 rfl hs1 rfl rfl ?_
            refine sy_move rfl rfl rfl ?_
            refine sy_idxS els_106 rfl rfl (by omega) (by omega) rfl rfl ?_
            refine sy_ldh one_4 rfl (hs2 a hlta) rfl rfl ?_
            refine sy_pickT rfl rfl rfl rfl ?_
            refine sy_move rfl rfl rfl ?_
            refine sy_cond (d := 86) _ rfl rfl (fun hg86 => ?_) (fun hg86 => ?_)
            · refine sy_skip rfl rfl rfl ?_
              refine sy_skip rfl rfl rfl ?_
              refine sy_skip rfl rfl rfl ?_
              refine sy_skip rfl rfl rfl ?_
              refine sy_skip rfl rfl rfl ?_
              refine sy_pickT rfl rfl rfl rfl ?_
              refine sy_move rfl rfl rfl ?_
              refine sy_skip rfl rfl rfl ?_
              refine sy_skip rfl rfl rfl ?_
              refine sy_skip rfl rfl rfl ?_
              refine sy_skip rfl rfl rfl ?_
              refine sy_skip rfl rfl rfl ?_
              refine sy_pickT rfl rfl rfl rfl ?_
              refine sy_nil rfl ?_
              refine ny_next ?_
              refine cy_condT rfl ?_
              refine cy_seq ?_
              refine cy_region ?_
              refine sy_build rfl (fun w => bld_52_ w) rfl rfl ?_
              first | refine sy_stl 0 sz_52 rfl rfl rfl rfl rfl rfl rfl rfl ?_ | refine sy_stl 1 sz_52 rfl rfl rfl rfl rfl rfl rfl rfl ?_ | refine sy_stl 2 sz_52 rfl rfl rfl rfl rfl rfl rfl rfl ?_
              refine sy_assign rfl rfl rfl ?_
              refine sy_nil rfl ?_
              refine ny_next ?_
              refine cy_ret ?_
              refine ny_blockR ?_
              refine ny_thenR ?_
              refine ny_thenR ?_
              refine ny_blockR ?_
              refine ny_blockR ?_
              refine ny_thenR ?_
              refine ny_thenR ?_
              refine ny_blockR ?_
              refine ny_thenR ?_
              first | refine ny_finR (resc1 0 rfl agg_52 rfl rfl rfl rfl) (fun w hs => ?_) | refine ny_finR (resc1 1 rfl agg_52 rfl rfl rfl rfl) (fun w hs => ?_) | refine ny_finR (resc1 2 rfl agg_52 rfl rfl rfl rfl) (fun w hs => ?_)
              exact ⟨((none, 0, 0), 4), _, rfl, .inr (.inr ⟨rfl, ⟨by omega, by omega, hInR⟩, fun L => absurd (okD_of hTell L hlta hltb) (by first | (rw [okD_bad1 hg66 hg76 hg86]; decide) | (rw [okD_bad2 hg93]; decide) | (rw [okD_bad3 hc99]; decide))⟩), hs.toGrow⟩
            · first | refine sy_ldar 0 agg_52 rfl rfl rfl rfl rfl ?_ | refine sy_ldar 1 agg_52 rfl rfl rfl rfl rfl ?_ | refine sy_ldar 2 agg_52 rfl rfl rfl rfl rfl ?_
              refine sy_move rfl rfl rfl ?_
              refine sy_move rfl rfl rfl ?_
              refine sy_call rfl call_61 rfl (rJoin_c _ _ _ _ _ _ _ hT hk2) rfl rfl ?_
              refine sy_cmp rfl rfl rfl rfl rfl ?_
              refine sy_pickF rfl rfl rfl rfl ?_
              refine sy_move rfl rfl rfl ?_
              refine sy_cond (d := 93) _ rfl rfl (fun hg93 => ?_) (fun hg93 => ?_)
              · refine sy_skip rfl rfl rfl ?_
                refine sy_skip rfl rfl rfl ?_
                refine sy_skip rfl rfl rfl ?_
                refine sy_skip rfl rfl rfl ?_
                refine sy_skip rfl rfl rfl ?_
                refine sy_pickT rfl rfl rfl rfl ?_
                refine sy_nil rfl ?_
                refine ny_next ?_
                refine cy_condT rfl ?_
                refine cy_seq ?_
                refine cy_region ?_
                refine sy_build rfl (fun w => bld_52_ w) rfl rfl ?_
                first | refine sy_stl 0 sz_52 rfl rfl rfl rfl rfl rfl rfl rfl ?_ | refine sy_stl 1 sz_52 rfl rfl rfl rfl rfl rfl rfl rfl ?_ | refine sy_stl 2 sz_52 rfl rfl rfl rfl rfl rfl rfl rfl ?_
                refine sy_assign rfl rfl rfl ?_
                refine sy_nil rfl ?_
                refine ny_next ?_
                refine cy_ret ?_
                refine ny_blockR ?_
                refine ny_thenR ?_
                refine ny_thenR ?_
                refine ny_blockR ?_
                refine ny_blockR ?_
                refine ny_thenR ?_
                refine ny_thenR ?_
                refine ny_blockR ?_
                refine ny_thenR ?_
                first | refine ny_finR (resc1 0 rfl agg_52 rfl rfl rfl rfl) (fun w hs => ?_) | refine ny_finR (resc1 1 rfl agg_52 rfl rfl rfl rfl) (fun w hs => ?_) | refine ny_finR (resc1 2 rfl agg_52 rfl rfl rfl rfl) (fun w hs => ?_)
                exact ⟨((none, 0, 0), 4), _, rfl, .inr (.inr ⟨rfl, ⟨by omega, by omega, hInR⟩, fun L => absurd (okD_of hTell L hlta hltb) (by first | (rw [okD_bad1 hg66 hg76 hg86]; decide) | (rw [okD_bad2 hg93]; decide) | (rw [okD_bad3 hc99]; decide))⟩), hs.toGrow⟩
              · first | refine sy_ldar 0 agg_52 rfl rfl rfl rfl rfl ?_ | refine sy_ldar 1 agg_52 rfl rfl rfl rfl rfl ?_ | refine sy_ldar 2 agg_52 rfl rfl rfl rfl rfl ?_
                refine sy_move rfl rfl rfl ?_
                refine sy_move rfl rfl rfl ?_
                refine sy_call rfl call_62 rfl (rMeet_c _ _ _ _ _ _ _ hT hk2) rfl rfl ?_
                refine sy_cmp rfl rfl rfl rfl rfl ?_
                refine sy_pickF rfl rfl rfl rfl ?_
                refine sy_nil rfl ?_
                refine ny_next ?_
                refine cy_cond rfl (fun hc99 => ?_) (fun hc99 => ?_)
                · refine cy_seq ?_
                  refine cy_region ?_
                  refine sy_build rfl (fun w => bld_52_ w) rfl rfl ?_
                  first | refine sy_stl 0 sz_52 rfl rfl rfl rfl rfl rfl rfl rfl ?_ | refine sy_stl 1 sz_52 rfl rfl rfl rfl rfl rfl rfl rfl ?_ | refine sy_stl 2 sz_52 rfl rfl rfl rfl rfl rfl rfl rfl ?_
                  refine sy_assign rfl rfl rfl ?_
                  refine sy_nil rfl ?_
                  refine ny_next ?_
                  refine cy_ret ?_
                  refine ny_blockR ?_
                  refine ny_thenR ?_
                  refine ny_thenR ?_
                  refine ny_blockR ?_
                  refine ny_blockR ?_
                  refine ny_thenR ?_
                  refine ny_thenR ?_
                  refine ny_blockR ?_
                  refine ny_thenR ?_
                  first | refine ny_finR (resc1 0 rfl agg_52 rfl rfl rfl rfl) (fun w hs => ?_) | refine ny_finR (resc1 1 rfl agg_52 rfl rfl rfl rfl) (fun w hs => ?_) | refine ny_finR (resc1 2 rfl agg_52 rfl rfl rfl rfl) (fun w hs => ?_)
                  exact ⟨((none, 0, 0), 4), _, rfl, .inr (.inr ⟨rfl, ⟨by omega, by omega, hInR⟩, fun L => absurd (okD_of hTell L hlta hltb) (by first | (rw [okD_bad1 hg66 hg76 hg86]; decide) | (rw [okD_bad2 hg93]; decide) | (rw [okD_bad3 hc99]; decide))⟩), hs.toGrow⟩
                · refine cy_skip ?_
                  refine ny_blockN ?_
                  refine ny_next ?_
                  refine cy_region ?_
                  refine sy_move rfl rfl rfl ?_
                  refine sy_addi (z := ((b + 1 : Nat) : Int)) rfl rfl (by omega) (by omega) (by omega) rfl rfl ?_
                  refine sy_assign rfl rfl rfl ?_
                  refine sy_nil rfl ?_
                  refine ny_round (b + 1) [0, 0] ⟨by omega, ?_⟩ (show k - (b + 1) < k - b by omega) ⟨rfl, rfl, rfl, rfl, rfl, rfl, trivial⟩ rfl rfl
                  intro c hc
                  rcases Nat.lt_succ_iff_lt_or_eq.1 hc with hc | hc
                  · exact hpreb c hc
                  · subst hc
                    exact okD_yes (by first | exact .inl hg66 | exact .inr (.inl hg76) | exact .inr (.inr hg86)) hg93 hc99
          · refine sy_skip rfl rfl rfl ?_
            refine sy_skip rfl rfl rfl ?_
            refine sy_skip rfl rfl rfl ?_
            refine sy_skip rfl rfl rfl ?_
            refine sy_skip rfl rfl rfl ?_
            refine sy_skip rfl rfl rfl ?_
            refine sy_skip rfl rfl rfl ?_
            refine sy_skip rfl rfl rfl ?_
            refine sy_pickF rfl rfl rfl rfl ?_
            refine sy_move rfl rfl rfl ?_
            first | refine sy_ldar 0 agg_52 rfl rfl rfl rfl rfl ?_ | refine sy_ldar 1 agg_52 rfl rfl rfl rfl rfl ?_ | refine sy_ldar 2 agg_52 rfl rfl rfl rfl rfl ?_
            refine sy_move rfl rfl rfl ?_
            refine sy_move rfl rfl rfl ?_
            refine sy_call rfl call_61 rfl (rJoin_c _ _ _ _ _ _ _ hT hk2) rfl rfl ?_
            refine sy_cmp rfl rfl rfl rfl rfl ?_
            refine sy_pickF rfl rfl rfl rfl ?_
            refine sy_move rfl rfl rfl ?_
            refine sy_cond (d := 93) _ rfl rfl (fun hg93 => ?_) (fun hg93 => ?_)
            · refine sy_skip rfl rfl rfl ?_
              refine sy_skip rfl rfl rfl ?_
              refine sy_skip rfl rfl rfl ?_
              refine sy_skip rfl rfl rfl ?_
              refine sy_skip rfl rfl rfl ?_
              refine sy_pickT rfl rfl rfl rfl ?_
              refine sy_nil rfl ?_
              refine ny_next ?_
              refine cy_condT rfl ?_
              refine cy_seq ?_
              refine cy_region ?_
              refine sy_build rfl (fun w => bld_52_ w) rfl rfl ?_
              first | refine sy_stl 0 sz_52 rfl rfl rfl rfl rfl rfl rfl rfl ?_ | refine sy_stl 1 sz_52 rfl rfl rfl rfl rfl rfl rfl rfl ?_ | refine sy_stl 2 sz_52 rfl rfl rfl rfl rfl rfl rfl rfl ?_
              refine sy_assign rfl rfl rfl ?_
              refine sy_nil rfl ?_
              refine ny_next ?_
              refine cy_ret ?_
              refine ny_blockR ?_
              refine ny_thenR ?_
              refine ny_thenR ?_
              refine ny_blockR ?_
              refine ny_blockR ?_
              refine ny_thenR ?_
              refine ny_thenR ?_
              refine ny_blockR ?_
              refine ny_thenR ?_
              first | refine ny_finR (resc1 0 rfl agg_52 rfl rfl rfl rfl) (fun w hs => ?_) | refine ny_finR (resc1 1 rfl agg_52 rfl rfl rfl rfl) (fun w hs => ?_) | refine ny_finR (resc1 2 rfl agg_52 rfl rfl rfl rfl) (fun w hs => ?_)
              exact ⟨((none, 0, 0), 4), _, rfl, .inr (.inr ⟨rfl, ⟨by omega, by omega, hInR⟩, fun L => absurd (okD_of hTell L hlta hltb) (by first | (rw [okD_bad1 hg66 hg76 hg86]; decide) | (rw [okD_bad2 hg93]; decide) | (rw [okD_bad3 hc99]; decide))⟩), hs.toGrow⟩
            · first | refine sy_ldar 0 agg_52 rfl rfl rfl rfl rfl ?_ | refine sy_ldar 1 agg_52 rfl rfl rfl rfl rfl ?_ | refine sy_ldar 2 agg_52 rfl rfl rfl rfl rfl ?_
              refine sy_move rfl rfl rfl ?_
              refine sy_move rfl rfl rfl ?_
              refine sy_call rfl call_62 rfl (rMeet_c _ _ _ _ _ _ _ hT hk2) rfl rfl ?_
              refine sy_cmp rfl rfl rfl rfl rfl ?_
              refine sy_pickF rfl rfl rfl rfl ?_
              refine sy_nil rfl ?_
              refine ny_next ?_
              refine cy_cond rfl (fun hc99 => ?_) (fun hc99 => ?_)
              · refine cy_seq ?_
                refine cy_region ?_
                refine sy_build rfl (fun w => bld_52_ w) rfl rfl ?_
                first | refine sy_stl 0 sz_52 rfl rfl rfl rfl rfl rfl rfl rfl ?_ | refine sy_stl 1 sz_52 rfl rfl rfl rfl rfl rfl rfl rfl ?_ | refine sy_stl 2 sz_52 rfl rfl rfl rfl rfl rfl rfl rfl ?_
                refine sy_assign rfl rfl rfl ?_
                refine sy_nil rfl ?_
                refine ny_next ?_
                refine cy_ret ?_
                refine ny_blockR ?_
                refine ny_thenR ?_
                refine ny_thenR ?_
                refine ny_blockR ?_
                refine ny_blockR ?_
                refine ny_thenR ?_
                refine ny_thenR ?_
                refine ny_blockR ?_
                refine ny_thenR ?_
                first | refine ny_finR (resc1 0 rfl agg_52 rfl rfl rfl rfl) (fun w hs => ?_) | refine ny_finR (resc1 1 rfl agg_52 rfl rfl rfl rfl) (fun w hs => ?_) | refine ny_finR (resc1 2 rfl agg_52 rfl rfl rfl rfl) (fun w hs => ?_)
                exact ⟨((none, 0, 0), 4), _, rfl, .inr (.inr ⟨rfl, ⟨by omega, by omega, hInR⟩, fun L => absurd (okD_of hTell L hlta hltb) (by first | (rw [okD_bad1 hg66 hg76 hg86]; decide) | (rw [okD_bad2 hg93]; decide) | (rw [okD_bad3 hc99]; decide))⟩), hs.toGrow⟩
              · refine cy_skip ?_
                refine ny_blockN ?_
                refine ny_next ?_
                refine cy_region ?_
                refine sy_move rfl rfl rfl ?_
                refine sy_addi (z := ((b + 1 : Nat) : Int)) rfl rfl (by omega) (by omega) (by omega) rfl rfl ?_
                refine sy_assign rfl rfl rfl ?_
                refine sy_nil rfl ?_
                refine ny_round (b + 1) [0, 0] ⟨by omega, ?_⟩ (show k - (b + 1) < k - b by omega) ⟨rfl, rfl, rfl, rfl, rfl, rfl, trivial⟩ rfl rfl
                intro c hc
                rcases Nat.lt_succ_iff_lt_or_eq.1 hc with hc | hc
                · exact hpreb c hc
                · subst hc
                  exact okD_yes (by first | exact .inl hg66 | exact .inr (.inl hg76) | exact .inr (.inr hg86)) hg93 hc99
        · refine sy_skip rfl rfl rfl ?_
          refine sy_skip rfl rfl rfl ?_
          refine sy_skip rfl rfl rfl ?_
          refine sy_skip rfl rfl rfl ?_
          refine sy_skip rfl rfl rfl ?_
          refine sy_skip rfl rfl rfl ?_
          refine sy_skip rfl rfl rfl ?_
          refine sy_skip rfl rfl rfl ?_
          refine sy_pickF rfl rfl rfl rfl ?_
          refine sy_move rfl rfl rfl ?_
          refine sy_skip rfl rfl rfl ?_
          refine sy_skip rfl rfl rfl ?_
          refine sy_skip rfl rfl rfl ?_
          refine sy_skip rfl rfl rfl ?_
          refine sy_skip rfl rfl rfl ?_
          refine sy_skip rfl rfl rfl ?_
          refine sy_skip rfl rfl rfl ?_
          refine sy_skip rfl rfl rfl ?_
          refine sy_pickF rfl rfl rfl rfl ?_
          refine sy_move rfl rfl rfl ?_
          first | refine sy_ldar 0 agg_52 rfl rfl rfl rfl rfl ?_ | refine sy_ldar 1 agg_52 rfl rfl rfl rfl rfl ?_ | refine sy_ldar 2 agg_52 rfl rfl rfl rfl rfl ?_
          refine sy_move rfl rfl rfl ?_
          refine sy_move rfl rfl rfl ?_
          refine sy_call rfl call_61 rfl (rJoin_c _ _ _ _ _ _ _ hT hk2) rfl rfl ?_
          refine sy_cmp rfl rfl rfl rfl rfl ?_
          refine sy_pickF rfl rfl rfl rfl ?_
          refine sy_move rfl rfl rfl ?_
          refine sy_cond (d := 93) _ rfl rfl (fun hg93 => ?_) (fun hg93 => ?_)
          · refine sy_skip rfl rfl rfl ?_
            refine sy_skip rfl rfl rfl ?_
            refine sy_skip rfl rfl rfl ?_
            refine sy_skip rfl rfl rfl ?_
            refine sy_skip rfl rfl rfl ?_
            refine sy_pickT rfl rfl rfl rfl ?_
            refine sy_nil rfl ?_
            refine ny_next ?_
            refine cy_condT rfl ?_
            refine cy_seq ?_
            refine cy_region ?_
            refine sy_build rfl (fun w => bld_52_ w) rfl rfl ?_
            first | refine sy_stl 0 sz_52 rfl rfl rfl rfl rfl rfl rfl rfl ?_ | refine sy_stl 1 sz_52 rfl rfl rfl rfl rfl rfl rfl rfl ?_ | refine sy_stl 2 sz_52 rfl rfl rfl rfl rfl rfl rfl rfl ?_
            refine sy_assign rfl rfl rfl ?_
            refine sy_nil rfl ?_
            refine ny_next ?_
            refine cy_ret ?_
            refine ny_blockR ?_
            refine ny_thenR ?_
            refine ny_thenR ?_
            refine ny_blockR ?_
            refine ny_blockR ?_
            refine ny_thenR ?_
            refine ny_thenR ?_
            refine ny_blockR ?_
            refine ny_thenR ?_
            first | refine ny_finR (resc1 0 rfl agg_52 rfl rfl rfl rfl) (fun w hs => ?_) | refine ny_finR (resc1 1 rfl agg_52 rfl rfl rfl rfl) (fun w hs => ?_) | refine ny_finR (resc1 2 rfl agg_52 rfl rfl rfl rfl) (fun w hs => ?_)
            exact ⟨((none, 0, 0), 4), _, rfl, .inr (.inr ⟨rfl, ⟨by omega, by omega, hInR⟩, fun L => absurd (okD_of hTell L hlta hltb) (by first | (rw [okD_bad1 hg66 hg76 hg86]; decide) | (rw [okD_bad2 hg93]; decide) | (rw [okD_bad3 hc99]; decide))⟩), hs.toGrow⟩
          · first | refine sy_ldar 0 agg_52 rfl rfl rfl rfl rfl ?_ | refine sy_ldar 1 agg_52 rfl rfl rfl rfl rfl ?_ | refine sy_ldar 2 agg_52 rfl rfl rfl rfl rfl ?_
            refine sy_move rfl rfl rfl ?_
            refine sy_move rfl rfl rfl ?_
            refine sy_call rfl call_62 rfl (rMeet_c _ _ _ _ _ _ _ hT hk2) rfl rfl ?_
            refine sy_cmp rfl rfl rfl rfl rfl ?_
            refine sy_pickF rfl rfl rfl rfl ?_
            refine sy_nil rfl ?_
            refine ny_next ?_
            refine cy_cond rfl (fun hc99 => ?_) (fun hc99 => ?_)
            · refine cy_seq ?_
              refine cy_region ?_
              refine sy_build rfl (fun w => bld_52_ w) rfl rfl ?_
              first | refine sy_stl 0 sz_52 rfl rfl rfl rfl rfl rfl rfl rfl ?_ | refine sy_stl 1 sz_52 rfl rfl rfl rfl rfl rfl rfl rfl ?_ | refine sy_stl 2 sz_52 rfl rfl rfl rfl rfl rfl rfl rfl ?_
              refine sy_assign rfl rfl rfl ?_
              refine sy_nil rfl ?_
              refine ny_next ?_
              refine cy_ret ?_
              refine ny_blockR ?_
              refine ny_thenR ?_
              refine ny_thenR ?_
              refine ny_blockR ?_
              refine ny_blockR ?_
              refine ny_thenR ?_
              refine ny_thenR ?_
              refine ny_blockR ?_
              refine ny_thenR ?_
              first | refine ny_finR (resc1 0 rfl agg_52 rfl rfl rfl rfl) (fun w hs => ?_) | refine ny_finR (resc1 1 rfl agg_52 rfl rfl rfl rfl) (fun w hs => ?_) | refine ny_finR (resc1 2 rfl agg_52 rfl rfl rfl rfl) (fun w hs => ?_)
              exact ⟨((none, 0, 0), 4), _, rfl, .inr (.inr ⟨rfl, ⟨by omega, by omega, hInR⟩, fun L => absurd (okD_of hTell L hlta hltb) (by first | (rw [okD_bad1 hg66 hg76 hg86]; decide) | (rw [okD_bad2 hg93]; decide) | (rw [okD_bad3 hc99]; decide))⟩), hs.toGrow⟩
            · refine cy_skip ?_
              refine ny_blockN ?_
              refine ny_next ?_
              refine cy_region ?_
              refine sy_move rfl rfl rfl ?_
              refine sy_addi (z := ((b + 1 : Nat) : Int)) rfl rfl (by omega) (by omega) (by omega) rfl rfl ?_
              refine sy_assign rfl rfl rfl ?_
              refine sy_nil rfl ?_
              refine ny_round (b + 1) [0, 0] ⟨by omega, ?_⟩ (show k - (b + 1) < k - b by omega) ⟨rfl, rfl, rfl, rfl, rfl, rfl, trivial⟩ rfl rfl
              intro c hc
              rcases Nat.lt_succ_iff_lt_or_eq.1 hc with hc | hc
              · exact hpreb c hc
              · subst hc
                exact okD_yes (by first | exact .inl hg66 | exact .inr (.inl hg76) | exact .inr (.inr hg86)) hg93 hc99
      · have hieb : k = b := by have := of_decide_eq_false hc60; omega
        subst hieb
        refine cy_exit ?_
        refine ny_thenE ?_
        refine ny_thenE ?_
        refine ny_blockX ?_
        refine ny_blockN ?_
        refine ny_next ?_
        refine cy_region ?_
        refine sy_move rfl rfl rfl ?_
        refine sy_addi (z := ((a + 1 : Nat) : Int)) rfl rfl (by omega) (by omega) (by omega) rfl rfl ?_
        refine sy_assign rfl rfl rfl ?_
        refine sy_nil rfl ?_
        refine ny_round (a + 1) [0, 0] ⟨by omega, ?_⟩ (show k - (a + 1) < k - a by omega) ⟨rfl, rfl, rfl, rfl, rfl, trivial⟩ rfl rfl
        intro c hc
        rcases Nat.lt_succ_iff_lt_or_eq.1 hc with hc | hc
        · exact hprea c hc
        · subst hc
          exact hpreb
    · have hiea : k = a := by have := of_decide_eq_false hc55; omega
      subst hiea
      refine cy_exit ?_
      refine ny_thenE ?_
      refine ny_thenE ?_
      refine ny_blockX ?_
      refine ny_next ?_
      refine cy_seq ?_
      refine cy_region ?_
      first | refine sy_ldar 0 agg_52 rfl rfl rfl rfl rfl ?_ | refine sy_ldar 1 agg_52 rfl rfl rfl rfl rfl ?_ | refine sy_ldar 2 agg_52 rfl rfl rfl rfl rfl ?_
      first | refine sy_stl 0 sz_52 rfl rfl rfl rfl rfl rfl rfl rfl ?_ | refine sy_stl 1 sz_52 rfl rfl rfl rfl rfl rfl rfl rfl ?_ | refine sy_stl 2 sz_52 rfl rfl rfl rfl rfl rfl rfl rfl ?_
      refine sy_assign rfl rfl rfl ?_
      refine sy_nil rfl ?_
      refine ny_next ?_
      refine cy_ret ?_
      first | refine ny_finR (resc1 0 rfl agg_52 rfl rfl rfl rfl) (fun w hs => ?_) | refine ny_finR (resc1 1 rfl agg_52 rfl rfl rfl rfl) (fun w hs => ?_) | refine ny_finR (resc1 2 rfl agg_52 rfl rfl rfl rfl) (fun w hs => ?_)
      exact ⟨((A5, k, c5), 0), _, rfl, .inl ⟨rfl, rfl, ⟨by omega, by omega, hInR, okD_latt hTell hprea⟩, hT⟩, hs.toGrow⟩
theorem rNew_c (n : Int) (A : Option Addr) (l c : Nat) (q : List (Int × Int)) (h : Hp) (hp : PairsAt h A q) (hql : q.length = l) (hm : l ≤ 9223372036854775807) : CX Tryd.prog 30 [.int .i64 n, .slice A l c] h refV (RefR n q) := by
  by_cases hn : 1 ≤ n ∧ n ≤ 16
  · obtain ⟨k, rfl⟩ := Int.eq_ofNat_of_zero_le (show 0 ≤ n by omega)
    exact rNewK_c k A l c q h (by omega) (by omega) hp hql hm
  · exact rNewBad_c n A l c q h hn
theorem rNewGood_c (k : Nat) (A : Option Addr) (l c : Nat) (q : List (Int × Int)) (h : Hp) (hF : Fine (k : Int) q) (hp : PairsAt h A q) (hql : q.length = l) (hm : l ≤ 9223372036854775807) :
    CX Tryd.prog 30 [.int .i64 (k : Int), .slice A l c] h (fun x : Option Addr × Nat => .tuple #[.agg #[.slice x.1 k x.2], .int .i64 0]) (fun x h' => RefT h' x.1 k (tw q k)) := fun w hw => by
  refine (rNew_c k A l c q h hp hql hm w hw).mono fun e w' ⟨x, h', he, hx, hg⟩ => ?_
  rcases hx with ⟨h1, h2, _, h3⟩ | ⟨rfl, ha⟩ | ⟨rfl, ha, hL⟩
  · obtain ⟨⟨A5, l5, c5⟩, e5⟩ := x
    simp only at h1 h2 h3
    subst h1
    obtain rfl : l5 = k := by omega
    exact ⟨(A5, c5), h', he, h3, hg⟩
  · exact absurd ⟨hF.1, hF.2.1, hF.2.2.1⟩ ha
  · exact absurd hF.2.2.2 hL
theorem both_c (n : Int) (A : Option Addr) (l c : Nat) (q : List (Int × Int)) (hql : q.length = l) (hm : l ≤ 9223372036854775807) (hF : ¬ Fine n q) :
    ∃ e : Int, (e != 0) = true ∧ (∀ h, PairsAt h A q → C0 Tryd.prog 18 [.int .i64 n, .slice A l c] h (newV (none, e))) ∧ (∀ h, PairsAt h A q → C0 Tryd.prog 30 [.int .i64 n, .slice A l c] h (refV ((none, 0, 0), e))) := by
  by_cases hA : Args n q
  · refine ⟨4, by decide, fun h hp => newForm_c n A l c q h hA (fun hL => hF ⟨hA.1, hA.2.1, hA.2.2, hL⟩) hp hql hm, fun h hp w hw => ?_⟩
    refine (rNew_c n A l c q h hp hql hm w hw).mono fun e w' ⟨x, h', he, hx, hg⟩ => ?_
    rcases hx with ⟨h1, h2, h4, h3⟩ | ⟨rfl, ha⟩ | ⟨rfl, ha, hL⟩
    · exact absurd h4 hF
    · exact absurd hA ha
    · exact ⟨he, hg.frm⟩
  · refine ⟨1, by decide, fun h hp => newArg_c n A l c q h hA hp hql hm, fun h hp w hw => ?_⟩
    refine (rNew_c n A l c q h hp hql hm w hw).mono fun e w' ⟨x, h', he, hx, hg⟩ => ?_
    rcases hx with ⟨h1, h2, h4, h3⟩ | ⟨rfl, ha⟩ | ⟨rfl, ha, hL⟩
    · exact absurd ⟨h4.1, h4.2.1, h4.2.2.1⟩ hA
    · exact ⟨he, hg.frm⟩
    · exact absurd ha hA
end Go.Proofs.YtamifocfbcmfkaaDoor

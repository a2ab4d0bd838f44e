/- Terms and their levels: the walks. Conditions: as each says. Printed by a program of this session. -/
import Derived.Test.YtamifocfbcmfkaaDoorFactsO
import Derived.Test.YtamifocfbcmfkaaDoorChanB
import Derived.Test.YtamifocfbcmfkaaDoorTermLaw
import Derived.Test.YtamifocfbcmfkaaDoorEngTerm
set_option linter.unusedVariables false
set_option linter.unusedSimpArgs false
namespace Go.Proofs.YtamifocfbcmfkaaDoor
open Go.RowKit Go.Proofs.YtamifocfbcmfkaaDoor.E Go.Proofs.YtamifocfbcmfkaaDoor.LattP Go.Proofs.YtamifocfbcmfkaaDoor.ChanP Go.Proofs.YtamifocfbcmfkaaDoor.TermP
set_option maxRecDepth 100000 in
theorem size_c (t : GT) : ∀ h, Lies h t → Fits t → C0 Tryd.prog 44 [.agg (GT.cells t).toArray] h (.int .i64 (sizeW t)) := by
  induction t using GT.ind
  rename_i tk tn ts tA tc kids ih
  intro h hl hf
  have hroom := hf.room
  show C0 Tryd.prog 44 [.agg #[.int .i64 tk, .int .i64 tn, .string ts, .slice tA kids.length tc]] h (.int .i64 (sizeW (GT.mk tk tn ts tA tc kids)))
  refine enter0 Tryd.func44 rfl rfl rfl (fun w => ?_)
  refine cy_seq ?_
  refine cy_region ?_
  refine sy_box rfl rfl rfl rfl (fun b1 hb1 hM1 => ?_) (by simp)
  refine sy_assign rfl rfl rfl ?_
  refine sy_nil rfl ?_
  refine ny_next ?_
  refine cy_seq ?_
  refine cy_frz 0 rfl (by simp) (fun h1 hle1 hbx => ?_)
  replace hl := hl.le hle1
  have hr := hl.rows
  refine cy_region ?_
  refine sy_assign rfl rfl rfl ?_
  refine sy_nil rfl ?_
  refine ny_next ?_
  refine cy_seq ?_
  refine cy_seq ?_
  refine cy_region ?_
  refine sy_assign rfl rfl rfl ?_
  refine sy_nil rfl ?_
  refine ny_next ?_
  refine cy_block ?_
  refine cy_loopK (ι := Nat) [1] rfl (fun i => i ≤ kids.length) (fun i => kids.length - i) (fun i => [(3, .int .i64 (sizesW 1 (kids.take i))), (4, .int .i64 (i : Int))]) (fun i => h1) (fun i => []) 0 [] (Nat.zero_le _) ⟨rfl, rfl, trivial⟩ rfl rfl ?_
  rintro i hI
  refine cy_seq ?_
  refine cy_seq ?_
  refine cy_region ?_
  refine sy_move rfl rfl rfl ?_
  refine sy_field fld_79_3 rfl rfl rfl ?_
  refine sy_ldh one_77 rfl (Hp.blk hbx 3 _ rfl) rfl rfl ?_
  refine sy_len rfl (len_slice Tryd.underlying77 _ _ _) rfl rfl ?_
  refine sy_cmp rfl rfl rfl rfl rfl ?_
  refine sy_nil rfl ?_
  refine ny_next ?_
  refine cy_cond rfl (fun hc9 => ?_) (fun hc9 => ?_)
  · have hlti : i < kids.length := by have := of_decide_eq_true hc9; omega
    refine cy_skip ?_
    refine ny_next ?_
    refine cy_seq ?_
    refine cy_block ?_
    refine cy_region ?_
    refine sy_move rfl rfl rfl ?_
    refine sy_field fld_79_3 rfl rfl rfl ?_
    refine sy_ldh one_77 rfl (Hp.blk hbx 3 _ rfl) rfl rfl ?_
    refine sy_move rfl rfl rfl ?_
    refine sy_idxR (fc := GT.cells) (es := kids) els_77 rfl rfl hr rfl (by omega) rfl rfl (fun e16 b16 o16 he16 hA16 hc16 => ?_)
    refine sy_ldah (vs := GT.cells e16) agg_79 rfl rfl hc16 rfl rfl ?_
    refine sy_call rfl call_44 rfl (ih e16 (List.mem_of_getElem? he16) _ (hl.at he16) (hf.at he16)) rfl rfl ?_
    refine sy_add rfl rfl rfl rfl ?_
    refine sy_assign rfl rfl rfl ?_
    refine sy_nil rfl ?_
    refine ny_blockN ?_
    refine ny_next ?_
    refine cy_region ?_
    refine sy_move rfl rfl rfl ?_
    refine sy_addi (z := ((i + 1 : Nat) : Int)) rfl rfl (by omega) (by omega) (by omega) rfl rfl ?_
    refine sy_assign rfl rfl rfl ?_
    refine sy_nil rfl ?_
    refine ny_roundK [1] (i + 1) [] (show i + 1 ≤ kids.length by omega) (show kids.length - (i + 1) < kids.length - i by omega) rfl ⟨congrArg (fun z => some (Value.int .i64 z)) (sizesW_succ he16), rfl, trivial⟩ rfl rfl
  · have hie : i = kids.length := by have := of_decide_eq_false hc9; omega
    subst hie
    refine cy_exit ?_
    refine ny_thenE ?_
    refine ny_thenE ?_
    refine ny_blockX ?_
    refine ny_next ?_
    refine cy_seq ?_
    refine cy_region ?_
    refine sy_move rfl rfl rfl ?_
    refine sy_assign rfl rfl rfl ?_
    refine sy_nil rfl ?_
    refine ny_next ?_
    refine cy_ret ?_
    refine ny_finR (res1 rfl rfl) (fun w hs => ⟨?_, hs.frm⟩)
    rw [sizesW_all]
set_option maxRecDepth 100000 in
theorem slev_c (g n : Nat) (q : List (Int × Int)) (j m2 : Nat → Nat → Nat) (lo hi : Nat) (hn : n ≤ 16) (L : Lat2 n q j m2 lo hi) (t : GT) (h : Hp) (hg : h g = some (lat 94 n (ru n q))) : C0 Tryd.prog 74 [.pointer (some ⟨g, 0, none⟩), .agg (GT.cells t).toArray] h (.int .i64 ((levN n hi t.n : Nat) : Int)) := by
  show C0 Tryd.prog 74 [.pointer (some ⟨g, 0, none⟩), .agg #[.int .i64 t.k, .int .i64 t.n, .string t.s, .slice t.A t.kids.length t.c]] h _
  refine enter0 Tryd.func74 rfl rfl rfl (fun w => ?_)
  refine cy_seq ?_
  refine cy_region ?_
  refine sy_box rfl rfl rfl rfl (fun b3 hb3 hM3 => ?_) (by simp)
  refine sy_assign rfl rfl rfl ?_
  refine sy_nil rfl ?_
  refine ny_next ?_
  refine cy_seq ?_
  refine cy_seq ?_
  refine cy_frz 0 rfl (by simp) (fun h1 hle1 hbx => ?_)
  replace hg := hle1 _ _ hg
  refine cy_regionQ mixedA (by kernel_rfl) ?_
  refine sy_field fld_79_1 rfl rfl rfl ?_
  refine sy_ldh one_2 rfl (Hp.blk hbx 1 _ rfl) rfl rfl ?_
  refine sy_cmp rfl rfl rfl rfl rfl ?_
  refine sy_move rfl rfl rfl ?_
  refine sy_cond (d := 8) _ rfl rfl (fun hg8 => ?_) (fun hg8 => ?_)
  · refine sy_skip rfl rfl rfl ?_
    refine sy_skip rfl rfl rfl ?_
    refine sy_skip rfl rfl rfl ?_
    refine sy_skip rfl rfl rfl ?_
    refine sy_skip rfl rfl rfl ?_
    refine sy_pickT rfl rfl rfl rfl ?_
    refine sy_nil rfl ?_
    refine ny_next ?_
    refine cy_condT rfl ?_
    refine cy_seq ?_
    refine cy_region ?_
    refine sy_move rfl rfl rfl ?_
    refine sy_call rfl call_26 rfl (topJ_c hg hn L) rfl rfl ?_
    refine sy_assign rfl rfl rfl ?_
    refine sy_nil rfl ?_
    refine ny_next ?_
    refine cy_ret ?_
    refine ny_thenR ?_
    refine ny_finR (res1 rfl rfl) (fun w hs2 => ⟨?_, hs2.frm⟩)
    have hno : isI n t.n = false := by first | (have h9 := of_decide_eq_true hg8; unfold isI; simp; omega) | (have h9 := of_decide_eq_true hc14; unfold isI; simp; omega)
    rw [levN_no hno]
  · refine sy_field fld_79_1 rfl rfl rfl ?_
    refine sy_ldh one_2 rfl (Hp.blk hbx 1 _ rfl) rfl rfl ?_
    refine sy_move rfl rfl rfl ?_
    refine sy_call rfl call_21 rfl (len_c _ _ _ _ hg) rfl rfl ?_
    refine sy_cmp rfl rfl rfl rfl rfl ?_
    refine sy_pickF rfl rfl rfl rfl ?_
    refine sy_nil rfl ?_
    refine ny_next ?_
    refine cy_cond rfl (fun hc14 => ?_) (fun hc14 => ?_)
    · refine cy_seq ?_
      refine cy_region ?_
      refine sy_move rfl rfl rfl ?_
      refine sy_call rfl call_26 rfl (topJ_c hg hn L) rfl rfl ?_
      refine sy_assign rfl rfl rfl ?_
      refine sy_nil rfl ?_
      refine ny_next ?_
      refine cy_ret ?_
      refine ny_thenR ?_
      refine ny_finR (res1 rfl rfl) (fun w hs2 => ⟨?_, hs2.frm⟩)
      have hno : isI n t.n = false := by first | (have h9 := of_decide_eq_true hg8; unfold isI; simp; omega) | (have h9 := of_decide_eq_true hc14; unfold isI; simp; omega)
      rw [levN_no hno]
    · refine cy_skip ?_
      refine ny_next ?_
      refine cy_seq ?_
      refine cy_region ?_
      refine sy_field fld_79_1 rfl rfl rfl ?_
      refine sy_ldh one_2 rfl (Hp.blk hbx 1 _ rfl) rfl rfl ?_
      refine sy_assign rfl rfl rfl ?_
      refine sy_nil rfl ?_
      refine ny_next ?_
      refine cy_ret ?_
      refine ny_finR (res1 rfl rfl) (fun w hs2 => ⟨?_, hs2.frm⟩)
      have hyes : isI n t.n = true := by have h8 := of_decide_eq_false hg8; have h9 := of_decide_eq_false hc14; unfold isI; simp; omega
      rw [levN_yes hyes]
set_option maxRecDepth 100000 in
theorem sjoin_c (g n : Nat) (q : List (Int × Int)) (j m2 : Nat → Nat → Nat) (lo hi : Nat) (hn : n ≤ 16) (L : Lat2 n q j m2 lo hi) (t : GT) : ∀ h, Lies h t → Fits t → h g = some (lat 94 n (ru n q)) → C0 Tryd.prog 52 [.pointer (some ⟨g, 0, none⟩), .agg (GT.cells t).toArray] h (.int .i64 ((sj n lo hi j t : Nat) : Int)) := by
  induction t using GT.ind
  rename_i tk tn ts tA tc kids ih
  intro h hl hf hg
  have hroom := hf.room
  show C0 Tryd.prog 52 [.pointer (some ⟨g, 0, none⟩), .agg #[.int .i64 tk, .int .i64 tn, .string ts, .slice tA kids.length tc]] h (.int .i64 ((sj n lo hi j (GT.mk tk tn ts tA tc kids) : Nat) : Int))
  refine enter0 Tryd.func52 rfl rfl rfl (fun w => ?_)
  refine cy_seq ?_
  refine cy_region ?_
  refine sy_box rfl rfl rfl rfl (fun b3 hb3 hM3 => ?_) (by simp)
  refine sy_assign rfl rfl rfl ?_
  refine sy_nil rfl ?_
  refine ny_next ?_
  refine cy_seq ?_
  refine cy_frz 0 rfl (by simp) (fun h1 hle1 hbx => ?_)
  replace hl := hl.le hle1
  have hr := hl.rows
  replace hg := hle1 _ _ hg
  refine cy_region ?_
  refine sy_move rfl rfl rfl ?_
  refine sy_call rfl call_25 rfl (botJ_c hg hn L) rfl rfl ?_
  refine sy_assign rfl rfl rfl ?_
  refine sy_nil rfl ?_
  refine ny_next ?_
  refine cy_seq ?_
  refine cy_seq ?_
  refine cy_region ?_
  refine sy_field fld_79_0 rfl rfl rfl ?_
  refine sy_ldh one_3 rfl (Hp.blk hbx 0 _ rfl) rfl rfl ?_
  refine sy_cmp rfl rfl rfl rfl rfl ?_
  refine sy_nil rfl ?_
  refine ny_next ?_
  refine cy_cond rfl (fun hc12 => ?_) (fun hc12 => ?_)
  · refine cy_region ?_
    refine sy_move rfl rfl rfl ?_
    refine sy_ldah (vs := [.int .i64 tk, .int .i64 tn, .string ts, .slice tA kids.length tc]) agg_79 rfl rfl (Hp.blk hbx) rfl rfl ?_
    refine sy_call rfl call_74 rfl (slev_c g n q j m2 lo hi hn L (GT.mk tk tn ts tA tc kids) _ hg) rfl rfl ?_
    refine sy_assign rfl rfl rfl ?_
    refine sy_nil rfl ?_
    refine ny_next ?_
    refine cy_seq ?_
    refine cy_seq ?_
    refine cy_region ?_
    refine sy_field fld_79_3 rfl rfl rfl ?_
    refine sy_ldh one_77 rfl (Hp.blk hbx 3 _ rfl) rfl rfl ?_
    refine sy_len rfl (len_slice Tryd.underlying77 _ _ _) rfl rfl ?_
    refine sy_move rfl rfl rfl ?_
    refine sy_nil rfl ?_
    refine ny_next ?_
    refine cy_block ?_
    refine cy_loopK (ι := Nat) [0, 17, 18] rfl (fun i => i ≤ kids.length) (fun i => kids.length - i) (fun i => [(5, .int .i64 ((sjs n lo hi j (if tk = 4 then levN n hi tn else lo) (kids.take i) : Nat) : Int)), (19, .int .i64 (i : Int))]) (fun i => h1) (fun i => []) 0 [] (Nat.zero_le _) ⟨congrArg (fun z : Nat => some (Value.int .i64 (z : Int))) (by first | (rw [if_pos (by simpa using hc12)]; rfl) | (rw [if_neg (by simpa using hc12)]; rfl)), rfl, trivial⟩ rfl rfl ?_
    rintro i hI
    refine cy_seq ?_
    refine cy_region ?_
    refine sy_cmp rfl rfl rfl rfl rfl ?_
    refine sy_nil rfl ?_
    refine ny_next ?_
    refine cy_seq ?_
    refine cy_cond rfl (fun hc20 => ?_) (fun hc20 => ?_)
    · have hlti : i < kids.length := by have := of_decide_eq_true hc20; omega
      refine cy_skip ?_
      refine ny_next ?_
      refine cy_seq ?_
      refine cy_block ?_
      refine cy_seq ?_
      refine cy_region ?_
      refine sy_idxR (fc := GT.cells) (es := kids) els_77 rfl rfl hr rfl (by omega) rfl rfl (fun e21 b21 o21 he21 hA21 hc21 => ?_)
      refine sy_ldah (vs := GT.cells e21) agg_79 rfl rfl hc21 rfl rfl ?_
      refine sy_alloc zer_79 rfl rfl (fun b7 hb7 hM7 => ?_) (by simp)
      first | refine sy_stl 0 sz_79 rfl rfl rfl rfl rfl rfl rfl rfl ?_ | refine sy_stl 1 sz_79 rfl rfl rfl rfl rfl rfl rfl rfl ?_
      refine sy_nil rfl ?_
      refine ny_next ?_
      refine cy_region ?_
      refine sy_move rfl rfl rfl ?_
      refine sy_move rfl rfl rfl ?_
      refine sy_move rfl rfl rfl ?_
      first | refine sy_ldar 0 agg_79 rfl rfl rfl rfl rfl ?_ | refine sy_ldar 1 agg_79 rfl rfl rfl rfl rfl ?_
      refine sy_call rfl call_52 rfl (ih e21 (List.mem_of_getElem? he21) _ (hl.at he21) (hf.at he21) hg) rfl rfl ?_
      refine sy_call rfl call_36 rfl (joinJ_c hg hn L (sjs_at L kids _ i (start_lt L tk tn)) (sj_lt L e21)) rfl rfl ?_
      refine sy_assign rfl rfl rfl ?_
      refine sy_nil rfl ?_
      refine ny_blockN ?_
      refine ny_next ?_
      refine cy_region ?_
      refine sy_addi (z := ((i + 1 : Nat) : Int)) rfl rfl (by omega) (by omega) (by omega) rfl rfl ?_
      refine sy_move rfl rfl rfl ?_
      refine sy_nil rfl ?_
      refine ny_roundK [0, 17, 18] (i + 1) [] (show i + 1 ≤ kids.length by omega) (show kids.length - (i + 1) < kids.length - i by omega) rfl ⟨congrArg (fun z : Nat => some (Value.int .i64 (z : Int))) (sjs_succ he21), rfl, trivial⟩ rfl rfl
    · have hie : i = kids.length := by have := of_decide_eq_false hc20; omega
      subst hie
      refine cy_exit ?_
      refine ny_thenE ?_
      refine ny_thenE ?_
      refine ny_blockX ?_
      refine ny_next ?_
      refine cy_seq ?_
      refine cy_region ?_
      refine sy_move rfl rfl rfl ?_
      refine sy_assign rfl rfl rfl ?_
      refine sy_nil rfl ?_
      refine ny_next ?_
      refine cy_ret ?_
      refine ny_finR (res1 rfl rfl) (fun w hs => ⟨?_, hs.frm⟩)
      rw [List.take_length, sj]
  · refine cy_skip ?_
    refine ny_next ?_
    refine cy_seq ?_
    refine cy_seq ?_
    refine cy_region ?_
    refine sy_field fld_79_3 rfl rfl rfl ?_
    refine sy_ldh one_77 rfl (Hp.blk hbx 3 _ rfl) rfl rfl ?_
    refine sy_len rfl (len_slice Tryd.underlying77 _ _ _) rfl rfl ?_
    refine sy_move rfl rfl rfl ?_
    refine sy_nil rfl ?_
    refine ny_next ?_
    refine cy_block ?_
    refine cy_loopK (ι := Nat) [0, 17, 18] rfl (fun i => i ≤ kids.length) (fun i => kids.length - i) (fun i => [(5, .int .i64 ((sjs n lo hi j (if tk = 4 then levN n hi tn else lo) (kids.take i) : Nat) : Int)), (19, .int .i64 (i : Int))]) (fun i => h1) (fun i => []) 0 [] (Nat.zero_le _) ⟨congrArg (fun z : Nat => some (Value.int .i64 (z : Int))) (by first | (rw [if_pos (by simpa using hc12)]; rfl) | (rw [if_neg (by simpa using hc12)]; rfl)), rfl, trivial⟩ rfl rfl ?_
    rintro i hI
    refine cy_seq ?_
    refine cy_region ?_
    refine sy_cmp rfl rfl rfl rfl rfl ?_
    refine sy_nil rfl ?_
    refine ny_next ?_
    refine cy_seq ?_
    refine cy_cond rfl (fun hc20 => ?_) (fun hc20 => ?_)
    · have hlti : i < kids.length := by have := of_decide_eq_true hc20; omega
      refine cy_skip ?_
      refine ny_next ?_
      refine cy_seq ?_
      refine cy_block ?_
      refine cy_seq ?_
      refine cy_region ?_
      refine sy_idxR (fc := GT.cells) (es := kids) els_77 rfl rfl hr rfl (by omega) rfl rfl (fun e21 b21 o21 he21 hA21 hc21 => ?_)
      refine sy_ldah (vs := GT.cells e21) agg_79 rfl rfl hc21 rfl rfl ?_
      refine sy_alloc zer_79 rfl rfl (fun b7 hb7 hM7 => ?_) (by simp)
      first | refine sy_stl 0 sz_79 rfl rfl rfl rfl rfl rfl rfl rfl ?_ | refine sy_stl 1 sz_79 rfl rfl rfl rfl rfl rfl rfl rfl ?_
      refine sy_nil rfl ?_
      refine ny_next ?_
      refine cy_region ?_
      refine sy_move rfl rfl rfl ?_
      refine sy_move rfl rfl rfl ?_
      refine sy_move rfl rfl rfl ?_
      first | refine sy_ldar 0 agg_79 rfl rfl rfl rfl rfl ?_ | refine sy_ldar 1 agg_79 rfl rfl rfl rfl rfl ?_
      refine sy_call rfl call_52 rfl (ih e21 (List.mem_of_getElem? he21) _ (hl.at he21) (hf.at he21) hg) rfl rfl ?_
      refine sy_call rfl call_36 rfl (joinJ_c hg hn L (sjs_at L kids _ i (start_lt L tk tn)) (sj_lt L e21)) rfl rfl ?_
      refine sy_assign rfl rfl rfl ?_
      refine sy_nil rfl ?_
      refine ny_blockN ?_
      refine ny_next ?_
      refine cy_region ?_
      refine sy_addi (z := ((i + 1 : Nat) : Int)) rfl rfl (by omega) (by omega) (by omega) rfl rfl ?_
      refine sy_move rfl rfl rfl ?_
      refine sy_nil rfl ?_
      refine ny_roundK [0, 17, 18] (i + 1) [] (show i + 1 ≤ kids.length by omega) (show kids.length - (i + 1) < kids.length - i by omega) rfl ⟨congrArg (fun z : Nat => some (Value.int .i64 (z : Int))) (sjs_succ he21), rfl, trivial⟩ rfl rfl
    · have hie : i = kids.length := by have := of_decide_eq_false hc20; omega
      subst hie
      refine cy_exit ?_
      refine ny_thenE ?_
      refine ny_thenE ?_
      refine ny_blockX ?_
      refine ny_next ?_
      refine cy_seq ?_
      refine cy_region ?_
      refine sy_move rfl rfl rfl ?_
      refine sy_assign rfl rfl rfl ?_
      refine sy_nil rfl ?_
      refine ny_next ?_
      refine cy_ret ?_
      refine ny_finR (res1 rfl rfl) (fun w hs => ⟨?_, hs.frm⟩)
      rw [List.take_length, sj]
set_option maxRecDepth 100000 in
theorem cmay_c (g n : Nat) (q : List (Int × Int)) (j m2 : Nat → Nat → Nat) (lo hi : Nat) (hn : n ≤ 16) (L : Lat2 n q j m2 lo hi) (t : GT) (now lv : Int) (h : Hp) (hl : Lies h t) (hf : Fits t) (hg : h g = some (lat 94 n (ru n q))) : C0 Tryd.prog 47 [.pointer (some ⟨g, 0, none⟩), .int .i64 now, .agg (GT.cells t).toArray, .int .i64 lv] h (.bool (mayT n (ru n q) now (sj n lo hi j t) lv)) := by
  refine enter0 Tryd.func47 rfl rfl rfl (fun w => ?_)
  refine cy_seq ?_
  refine cy_region ?_
  refine sy_box rfl rfl rfl rfl (fun b6 hb6 hM6 => ?_) (by simp)
  refine sy_assign rfl rfl rfl ?_
  refine sy_nil rfl ?_
  refine ny_next ?_
  refine cy_seq ?_
  refine cy_region ?_
  refine sy_move rfl rfl rfl ?_
  refine sy_move rfl rfl rfl ?_
  refine sy_move rfl rfl rfl ?_
  refine sy_move rfl rfl rfl ?_
  first | refine sy_ldar 0 agg_79 rfl rfl rfl rfl rfl ?_ | refine sy_ldar 1 agg_79 rfl rfl rfl rfl rfl ?_
  refine sy_call rfl call_52 rfl (sjoin_c g n q j m2 lo hi hn L t _ hl hf hg) rfl rfl ?_
  refine sy_call rfl call_36 rfl (join_c _ _ _ _ hg (Lat2.pos L) hn (ru_lt hn q) _ _) rfl rfl ?_
  refine sy_move rfl rfl rfl ?_
  refine sy_call rfl call_23 rfl (leq_c _ _ _ _ hg (Lat2.pos L) hn (ru_lt hn q) _ _) rfl rfl ?_
  refine sy_assign rfl rfl rfl ?_
  refine sy_nil rfl ?_
  refine ny_next ?_
  refine cy_ret ?_
  refine ny_finR (res1 rfl rfl) (fun w hs => ⟨?_, hs.frm⟩)
  rfl
set_option maxRecDepth 100000 in
theorem sis_c (t : GT) (h : Hp) (hb : t.kids.length ≤ 9223372036854775807) : C0 Tryd.prog 73 [.agg (GT.cells t).toArray] h (.bool (decide (t.k = 4) && decide (t.kids.length = 1))) := by
  show C0 Tryd.prog 73 [.agg #[.int .i64 t.k, .int .i64 t.n, .string t.s, .slice t.A t.kids.length t.c]] h _
  refine enter0 Tryd.func73 rfl rfl rfl (fun w => ?_)
  refine cy_seq ?_
  refine cy_region ?_
  refine sy_box rfl rfl rfl rfl (fun b1 hb1 hM1 => ?_) (by simp)
  refine sy_assign rfl rfl rfl ?_
  refine sy_nil rfl ?_
  refine ny_next ?_
  refine cy_seq ?_
  refine cy_region ?_
  refine sy_field fld_79_0 rfl rfl rfl ?_
  first | refine sy_ldr 0 one_3 rfl rfl rfl rfl rfl ?_ | refine sy_ldr 1 one_3 rfl rfl rfl rfl rfl ?_
  refine sy_cmp rfl rfl rfl rfl rfl ?_
  refine sy_move rfl rfl rfl ?_
  refine sy_cond (d := 6) _ rfl rfl (fun hg6 => ?_) (fun hg6 => ?_)
  · refine sy_field fld_79_3 rfl rfl rfl ?_
    first | refine sy_ldr 0 one_77 rfl rfl rfl rfl rfl ?_ | refine sy_ldr 1 one_77 rfl rfl rfl rfl rfl ?_
    refine sy_len rfl (len_slice Tryd.underlying77 _ _ _) rfl rfl ?_
    refine sy_cmp rfl rfl rfl rfl rfl ?_
    refine sy_pickT rfl rfl rfl rfl ?_
    refine sy_assign rfl rfl rfl ?_
    refine sy_nil rfl ?_
    refine ny_next ?_
    refine cy_ret ?_
    refine ny_finR (res1 rfl rfl) (fun w hs2 => ⟨?_, hs2.frm⟩)
    have h0 := hg6
    first | (rw [decide_eq_true (show t.k = 4 by simpa using h0), Bool.true_and, ← one_len]) | (rw [decide_eq_false (show ¬ t.k = 4 by simpa using h0), Bool.false_and])
  · refine sy_skip rfl rfl rfl ?_
    refine sy_skip rfl rfl rfl ?_
    refine sy_skip rfl rfl rfl ?_
    refine sy_skip rfl rfl rfl ?_
    refine sy_pickF rfl rfl rfl rfl ?_
    refine sy_assign rfl rfl rfl ?_
    refine sy_nil rfl ?_
    refine ny_next ?_
    refine cy_ret ?_
    refine ny_finR (res1 rfl rfl) (fun w hs2 => ⟨?_, hs2.frm⟩)
    have h0 := hg6
    first | (rw [decide_eq_true (show t.k = 4 by simpa using h0), Bool.true_and, ← one_len]) | (rw [decide_eq_false (show ¬ t.k = 4 by simpa using h0), Bool.false_and])
set_option maxRecDepth 100000 in
theorem erase_c (t : GT) : ∀ h, Lies h t → Fits t → CX Tryd.prog 51 [.agg (GT.cells t).toArray] h (fun x : GT => .agg (GT.cells x).toArray) (fun x h' => Lies h' x ∧ Fits x) := by
  induction t using GT.ind
  rename_i tk tn ts tA tc kids ih
  intro h hl hf
  have hroom := hf.room
  show CX Tryd.prog 51 [.agg #[.int .i64 tk, .int .i64 tn, .string ts, .slice tA kids.length tc]] h (fun x : GT => .agg (GT.cells x).toArray) (fun x h' => Lies h' x ∧ Fits x)
  refine enterX Tryd.func51 rfl rfl rfl (fun w => ?_)
  refine cy_seq ?_
  refine cy_region ?_
  refine sy_box rfl rfl rfl rfl (fun b1 hb1 hM1 => ?_) (by simp)
  refine sy_alloc zer_79 rfl rfl (fun b2 hb2 hM2 => ?_) (by simp)
  refine sy_nil rfl ?_
  refine ny_next ?_
  refine cy_seq ?_
  refine cy_seq ?_
  refine cy_region ?_
  first | refine sy_ldar 0 agg_79 rfl rfl rfl rfl rfl ?_ | refine sy_ldar 1 agg_79 rfl rfl rfl rfl rfl ?_ | refine sy_ldar 2 agg_79 rfl rfl rfl rfl rfl ?_ | refine sy_ldar 3 agg_79 rfl rfl rfl rfl rfl ?_
  refine sy_call rfl call_73 rfl (sis_c (GT.mk tk tn ts tA tc kids) _ (by show kids.length ≤ _; omega)) rfl rfl ?_
  refine sy_nil rfl ?_
  refine ny_next ?_
  refine cy_cond rfl (fun hc7 => ?_) (fun hc7 => ?_)
  · have hlen : kids.length = 1 := by
      have h9 := hc7
      rw [Bool.and_eq_true] at h9
      exact of_decide_eq_true h9.2
    have hr := hl.rows
    refine cy_seq ?_
    refine cy_region ?_
    refine sy_field fld_79_3 rfl rfl rfl ?_
    first | refine sy_ldr 0 one_77 rfl rfl rfl rfl rfl ?_ | refine sy_ldr 1 one_77 rfl rfl rfl rfl rfl ?_ | refine sy_ldr 2 one_77 rfl rfl rfl rfl rfl ?_ | refine sy_ldr 3 one_77 rfl rfl rfl rfl rfl ?_
    refine sy_idxR (i := 0) (fc := GT.cells) (es := kids) els_77 rfl rfl hr rfl (by omega) rfl rfl (fun e10 b10 o10 he10 hA10 hc10 => ?_)
    refine sy_ldah (vs := GT.cells e10) agg_79 rfl rfl hc10 rfl rfl ?_
    refine sy_callx call_51 rfl (ih e10 (List.mem_of_getElem? he10) _ (hl.at he10) (hf.at he10)) rfl rfl (fun x12 h12 hx12 hle12 => ?_)
    first | refine sy_stl 0 sz_79 rfl rfl rfl rfl rfl rfl rfl rfl ?_ | refine sy_stl 1 sz_79 rfl rfl rfl rfl rfl rfl rfl rfl ?_ | refine sy_stl 2 sz_79 rfl rfl rfl rfl rfl rfl rfl rfl ?_ | refine sy_stl 3 sz_79 rfl rfl rfl rfl rfl rfl rfl rfl ?_
    refine sy_nil rfl ?_
    refine ny_next ?_
    refine cy_ret ?_
    refine ny_thenR ?_
    first | refine ny_finR (rescS 0 rfl agg_79 rfl rfl rfl) (fun w hs => ?_) | refine ny_finR (rescS 1 rfl agg_79 rfl rfl rfl) (fun w hs => ?_) | refine ny_finR (rescS 2 rfl agg_79 rfl rfl rfl) (fun w hs => ?_)
    exact ⟨x12, h12, rfl, hx12, hs.toGrow⟩
  · refine cy_skip ?_
    refine ny_next ?_
    refine cy_seq ?_
    refine cy_region ?_
    refine sy_assign rfl rfl rfl ?_
    refine sy_nil rfl ?_
    refine ny_next ?_
    refine cy_seq ?_
    refine cy_seq ?_
    refine cy_region ?_
    refine sy_field fld_79_3 rfl rfl rfl ?_
    first | refine sy_ldr 0 one_77 rfl rfl rfl rfl rfl ?_ | refine sy_ldr 1 one_77 rfl rfl rfl rfl rfl ?_ | refine sy_ldr 2 one_77 rfl rfl rfl rfl rfl ?_ | refine sy_ldr 3 one_77 rfl rfl rfl rfl rfl ?_
    refine sy_len rfl (len_slice Tryd.underlying77 _ _ _) rfl rfl ?_
    refine sy_move rfl rfl rfl ?_
    refine sy_nil rfl ?_
    refine ny_next ?_
    refine cy_block ?_
    refine cy_nilRow 79 4 ?_
    refine cy_loopK (ι := Nat × List GT × Value × Hp) [1, 2, 14, 15] rfl (fun z => z.1 ≤ kids.length ∧ z.2.1.length = z.1 ∧ h.Le z.2.2.2 ∧ ∀ t, t ∈ z.2.1 → Lies z.2.2.2 t ∧ Fits t) (fun z => kids.length - z.1) (fun z => [(3, z.2.2.1), (16, .int .i64 (z.1 : Int))]) (fun z => z.2.2.2) (fun z => [Res.row z.2.2.1 79 4 z.2.1.length ((z.2.1.map GT.cells).flatten), .blk b2 (.cells [.int .i64 0, .int .i64 0, .string ⟨#[]⟩, .slice none 0 0].toArray 79 (0, 0)), .blk b1 (.cells [.int .i64 tk, .int .i64 tn, .string ts, .slice tA kids.length tc].toArray 79 (0, 0))]) (0, [], .slice none 0 0, h) [0, 0, 0] ⟨Nat.zero_le _, rfl, Hp.Le.refl _, fun t ht => (List.not_mem_nil ht).elim⟩ ⟨rfl, rfl, trivial⟩ rfl rfl ?_
    rintro ⟨i, xs, v3, hz⟩ ⟨hI, hxl, hlez, hxs⟩
    simp only at hI hxl hlez hxs ⊢
    have hlz := hl.le hlez
    have hrz := hlz.rows
    refine cy_seq ?_
    refine cy_region ?_
    refine sy_cmp rfl rfl rfl rfl rfl ?_
    refine sy_nil rfl ?_
    refine ny_next ?_
    refine cy_seq ?_
    refine cy_cond rfl (fun hc17 => ?_) (fun hc17 => ?_)
    · have hlti : i < kids.length := by have := of_decide_eq_true hc17; omega
      refine cy_skip ?_
      refine ny_next ?_
      refine cy_seq ?_
      refine cy_block ?_
      refine cy_seq ?_
      refine cy_region ?_
      refine sy_idxR (fc := GT.cells) (es := kids) els_77 rfl rfl hrz rfl (by omega) rfl rfl (fun e18 b18 o18 he18 hA18 hc18 => ?_)
      refine sy_ldah (vs := GT.cells e18) agg_79 rfl rfl hc18 rfl rfl ?_
      refine sy_alloc zer_79 rfl rfl (fun b5 hb5 hM5 => ?_) (by simp)
      first | refine sy_stl 0 sz_79 rfl rfl rfl rfl rfl rfl rfl rfl ?_ | refine sy_stl 1 sz_79 rfl rfl rfl rfl rfl rfl rfl rfl ?_ | refine sy_stl 2 sz_79 rfl rfl rfl rfl rfl rfl rfl rfl ?_ | refine sy_stl 3 sz_79 rfl rfl rfl rfl rfl rfl rfl rfl ?_
      refine sy_nil rfl ?_
      refine ny_next ?_
      refine cy_region ?_
      refine sy_move rfl rfl rfl ?_
      first | refine sy_ldar 0 agg_79 rfl rfl rfl rfl rfl ?_ | refine sy_ldar 1 agg_79 rfl rfl rfl rfl rfl ?_ | refine sy_ldar 2 agg_79 rfl rfl rfl rfl rfl ?_ | refine sy_ldar 3 agg_79 rfl rfl rfl rfl rfl ?_
      refine sy_callx call_51 rfl (ih e18 (List.mem_of_getElem? he18) _ (hlz.at he18) (hf.at he18)) rfl rfl (fun x22 h22 hx22 hle22 => ?_)
      refine sy_buildSlice rfl (fun w => bsl_77_1_0 w) rfl rfl (fun b23 hb23 hM23 => ?_) (by simp)
      refine sy_append 2 0 row_77 (by decide) rfl rfl rfl rfl rfl rfl (by omega) (by simp only [maxLen]; omega) rfl rfl (fun v24 => ?_)
      refine sy_assign rfl rfl rfl ?_
      refine sy_nil rfl ?_
      refine ny_blockN ?_
      refine ny_next ?_
      refine cy_region ?_
      refine sy_addi (z := ((i + 1 : Nat) : Int)) rfl rfl (by omega) (by omega) (by omega) rfl rfl ?_
      refine sy_move rfl rfl rfl ?_
      refine sy_nil rfl ?_
      refine ny_roundK [1, 2, 14, 15] (i + 1, xs ++ [x22], v24, h22) [0, 2, 2] ⟨(show i + 1 ≤ kids.length by omega), (by show (xs ++ [x22]).length = i + 1; rw [List.length_append, hxl]; rfl), hlez.trans hle22, fun t ht => (List.mem_append.1 ht).elim (fun h9 => ⟨(hxs t h9).1.le hle22, (hxs t h9).2⟩) (fun h9 => by simp only [List.mem_cons, List.not_mem_nil, or_false] at h9; subst h9; exact hx22)⟩ (show kids.length - (i + 1) < kids.length - i by omega) rfl ⟨rfl, rfl, trivial⟩ rfl (by rw [GT.cells_snoc, List.length_append]; rfl)
    · have hie : i = kids.length := by have := of_decide_eq_false hc17; omega
      subst hie
      refine cy_exit ?_
      refine ny_thenE ?_
      refine ny_thenE ?_
      refine ny_blockX ?_
      refine ny_next ?_
      refine cy_seq ?_
      refine cy_frzRow 0 rfl (fun _ _ => by simp) (fun A3 c3 h3 hv3 hlc3 hcm3 _ hle3 hcell3 => ?_)
      subst hv3
      have hr3 : RowsAt h3 A3 4 (xs.map GT.cells) := rows_row (by decide) (GT.cells_len _) hcell3
      refine cy_region ?_
      refine sy_move rfl rfl rfl ?_
      refine sy_field fld_79_3 rfl rfl rfl ?_
      first | refine sy_stl 0 sz_77 rfl rfl rfl rfl rfl rfl rfl rfl ?_ | refine sy_stl 1 sz_77 rfl rfl rfl rfl rfl rfl rfl rfl ?_ | refine sy_stl 2 sz_77 rfl rfl rfl rfl rfl rfl rfl rfl ?_ | refine sy_stl 3 sz_77 rfl rfl rfl rfl rfl rfl rfl rfl ?_
      refine sy_nil rfl ?_
      refine ny_next ?_
      refine cy_seq ?_
      refine cy_region ?_
      first | refine sy_ldar 0 agg_79 rfl rfl rfl rfl rfl ?_ | refine sy_ldar 1 agg_79 rfl rfl rfl rfl rfl ?_ | refine sy_ldar 2 agg_79 rfl rfl rfl rfl rfl ?_ | refine sy_ldar 3 agg_79 rfl rfl rfl rfl rfl ?_
      first | refine sy_stl 0 sz_79 rfl rfl rfl rfl rfl rfl rfl rfl ?_ | refine sy_stl 1 sz_79 rfl rfl rfl rfl rfl rfl rfl rfl ?_ | refine sy_stl 2 sz_79 rfl rfl rfl rfl rfl rfl rfl rfl ?_ | refine sy_stl 3 sz_79 rfl rfl rfl rfl rfl rfl rfl rfl ?_
      refine sy_nil rfl ?_
      refine ny_next ?_
      refine cy_ret ?_
      first | refine ny_finR (rescS 0 rfl agg_79 rfl rfl rfl) (fun w hs => ?_) | refine ny_finR (rescS 1 rfl agg_79 rfl rfl rfl) (fun w hs => ?_) | refine ny_finR (rescS 2 rfl agg_79 rfl rfl rfl) (fun w hs => ?_)
      exact ⟨GT.mk tk tn ts A3 c3 xs, h3, rfl, ⟨.intro _ _ _ _ _ _ hlc3 hr3 (fun t ht => (hxs t ht).1.le hle3), .intro _ _ _ _ _ _ hf.nums.1.1 hf.nums.1.2 hf.nums.2.1.1 hf.nums.2.1.2 hf.nums.2.2 (by omega) (fun t ht => (hxs t ht).2)⟩, hs.toGrow⟩
end Go.Proofs.YtamifocfbcmfkaaDoor

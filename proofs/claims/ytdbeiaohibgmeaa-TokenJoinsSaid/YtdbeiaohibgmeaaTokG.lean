/- The scanner: a text in tokens: the walk. Conditions: as each says. Printed by a program of this session. -/
import Derived.Test.YtdbeiaohibgmeaaFactsL
import Derived.Test.YtdbeiaohibgmeaaTokF
import Derived.Test.YtdbeiaohibgmeaaScanPure
set_option linter.unusedVariables false
set_option linter.unusedSimpArgs false
namespace Go.Proofs.Ytdbeiaohibgmeaa
open Go.RowKit Go.Proofs.Ytdbeiaohibgmeaa.E Go.Proofs.Ytdbeiaohibgmeaa.ReplP Go.Proofs.Ytdbeiaohibgmeaa.TokP
theorem nilB_err (T : Nat) (e : Option (ByteArray × Int)) : nilB (errV T e) = some e.isNone := by cases e <;> rfl
def scV (T : Nat) (r : Sc) (x : Option Addr × Nat) : Value := match r with
  | .ok ts => .tuple #[.slice x.1 ts.length x.2, .int .i64 0, .nilIface]
  | .bad i w e => .tuple #[.slice none 0 0, .int .i64 (i : Int), .iface T (.agg #[.string w, .int .i64 e])]
def scR (r : Sc) (x : Option Addr × Nat) (h : Hp) : Prop := match r with
  | .ok ts => RowsAt h x.1 5 (ts.map tkC) ∧ ts.length ≤ x.2
  | .bad _ _ _ => True
theorem tkC_len (l : List Tk) : ∀ c ∈ l.map tkC, c.length = 5 := fun c hc => by
  obtain ⟨t, _, rfl⟩ := List.mem_map.1 hc
  rfl
theorem tkC_snoc (l : List Tk) (t : Tk) : ((l ++ [t]).map tkC).flatten = (l.map tkC).flatten ++ [.int .i64 t.a.kind, .string t.a.str, .int .i64 t.a.num, .bool t.a.quo, .bool t.tight] := by
  rw [List.map_append, List.flatten_append]
  simp [tkC]
set_option maxRecDepth 100000 in
theorem scan_c (s : ByteArray) (h : Hp) : CX Try.prog 9 [.string s] h (scV 44 (scanA s.data.toList)) (scR (scanA s.data.toList)) := by
  refine enterX Try.func9 rfl rfl rfl (fun w => ?_)
  refine cy_seq ?_
  refine cy_region ?_
  refine sy_assign rfl rfl rfl ?_
  refine sy_assign rfl rfl rfl ?_
  refine sy_assign rfl rfl rfl ?_
  refine sy_nil rfl ?_
  refine ny_next ?_
  refine cy_seq ?_
  refine cy_seq ?_
  refine cy_region ?_
  refine sy_move rfl rfl rfl ?_
  refine sy_len rfl (len_string Try.underlying9 _) rfl rfl ?_
  refine sy_cmp rfl rfl rfl rfl rfl ?_
  refine sy_nil rfl ?_
  refine ny_next ?_
  refine cy_cond rfl (fun hc13 => ?_) (fun hc13 => ?_)
  · refine cy_seq ?_
    refine cy_region ?_
    refine sy_call rfl call_13 rfl (bad_c _ _ _) rfl rfl ?_
    refine sy_assign rfl rfl rfl ?_
    refine sy_assign rfl rfl rfl ?_
    refine sy_assign rfl rfl rfl ?_
    refine sy_nil rfl ?_
    refine ny_next ?_
    refine cy_ret ?_
    refine ny_thenR ?_
    have hbig : 4096 < s.data.toList.length := by have h9 := of_decide_eq_true hc13; have h8 : s.data.toList.length = s.size := rfl; omega
    refine ny_finR (res3 rfl rfl rfl rfl) (fun w hs2 => ⟨(none, 0), _, ?_, ?_, hs2.toGrow⟩)
    · unfold scanA; rw [if_pos hbig]; rfl
    · unfold scanA; rw [if_pos hbig]; trivial
  · have hnb : ¬ 4096 < s.data.toList.length := by have h9 := of_decide_eq_false hc13; have h8 : s.data.toList.length = s.size := rfl; omega
    have hs : s.size ≤ 70368744177600 := by have h8 : s.data.toList.length = s.size := rfl; omega
    refine cy_skip ?_
    refine ny_next ?_
    refine cy_seq ?_
    refine cy_region ?_
    refine sy_assign rfl rfl rfl ?_
    refine sy_nil rfl ?_
    refine ny_next ?_
    refine cy_seq ?_
    refine cy_region ?_
    refine sy_assign rfl rfl rfl ?_
    refine sy_nil rfl ?_
    refine ny_next ?_
    refine cy_block ?_
    refine cy_nilRow 31 5 ?_
    refine cy_loopK (ι := Nat × List Tk × Value) [0] rfl (fun z => z.1 ≤ s.size ∧ z.2.1.length ≤ z.1 ∧ scanF s.data.toList (s.size + 1 - z.1) z.1 z.2.1 = scanF s.data.toList (s.size + 1) 0 []) (fun z => s.size - z.1) (fun z => [(5, z.2.2), (6, .int .i64 (z.1 : Int))]) (fun z => h) (fun z => [Res.row z.2.2 31 5 (z.2.1).length (((z.2.1).map tkC).flatten)]) (0, [], .slice none 0 0) [0] ⟨Nat.zero_le _, Nat.zero_le _, rfl⟩ ⟨rfl, rfl, trivial⟩ rfl rfl ?_
    rintro ⟨i, acc, v5⟩ ⟨hI, hol, hpre⟩
    simp only at hI hol hpre ⊢
    have hsz : s.data.toList.length = s.size := rfl
    obtain ⟨k, hk⟩ : ∃ k, s.size + 1 - i = k + 1 := ⟨s.size - i, by omega⟩
    have hcap : acc.length ≤ 4096 := by omega
    have hroom := skip_room (l := s.data.toList) hI
    refine cy_block ?_
    refine cy_seq ?_
    refine cy_region ?_
    refine sy_move rfl rfl rfl ?_
    refine sy_move rfl rfl rfl ?_
    refine sy_strfrom Try.underlying9 rfl rfl (by omega) rfl rfl ?_
    have hx18 : (s.extract i s.size).size ≤ 70368744177600 := by
      have h9 : (s.extract i s.size).size = (s.extract i s.size).data.toList.length := rfl
      rw [h9, ext_from, List.length_drop]
      omega
    refine sy_call rfl call_14 rfl (skip_c (s.extract i s.size) _ hx18) rfl rfl ?_
    rw [ext_from]
    refine sy_assign rfl rfl rfl ?_
    refine sy_nil rfl ?_
    refine ny_next ?_
    refine cy_seq ?_
    refine cy_region ?_
    refine sy_move rfl rfl rfl ?_
    refine sy_move rfl rfl rfl ?_
    refine sy_addi (z := (((i + skipN (s.data.toList.drop i)) : Nat) : Int)) rfl rfl (by omega) (by omega) (by omega) rfl rfl ?_
    refine sy_assign rfl rfl rfl ?_
    refine sy_nil rfl ?_
    refine ny_next ?_
    refine cy_seq ?_
    refine cy_seq ?_
    refine cy_region ?_
    refine sy_move rfl rfl rfl ?_
    refine sy_move rfl rfl rfl ?_
    refine sy_len rfl (len_string Try.underlying9 _) rfl rfl ?_
    refine sy_cmp rfl rfl rfl rfl rfl ?_
    refine sy_nil rfl ?_
    refine ny_next ?_
    refine cy_cond rfl (fun hc25 => ?_) (fun hc25 => ?_)
    · have hend : (i + skipN (s.data.toList.drop i)) = s.data.toList.length := by have h9 : (((i + skipN (s.data.toList.drop i)) : Nat) : Int) = (s.size : Int) := (by simpa using hc25); omega
      refine cy_frzRow 0 rfl (fun _ _ => by simp) (fun A9 c9 h9 hv9 hlc9 hcm9 _ hle9 hcell9 => ?_)
      subst hv9
      have hr9 : RowsAt h9 A9 5 (acc.map tkC) := rows_row (by decide) (tkC_len _) hcell9
      refine cy_seq ?_
      refine cy_region ?_
      refine sy_move rfl rfl rfl ?_
      refine sy_assign rfl rfl rfl ?_
      refine sy_assign rfl rfl rfl ?_
      refine sy_assign rfl rfl rfl ?_
      refine sy_nil rfl ?_
      refine ny_next ?_
      refine cy_ret ?_
      refine ny_thenR ?_
      refine ny_blockR ?_
      refine ny_thenR ?_
      refine ny_blockR ?_
      have hres : scanA s.data.toList = .ok acc := by unfold scanA; rw [if_neg hnb]; show scanF s.data.toList (s.size + 1) 0 [] = _; rw [← hpre, hk]; exact scan_done hend
      refine ny_finR (res3 rfl rfl rfl rfl) (fun w hs2 => ⟨(A9, c9), h9, ?_, ?_, hs2.toGrow⟩)
      · rw [hres]; rfl
      · rw [hres]; exact ⟨hr9, hlc9⟩
    · have hne : ¬ (i + skipN (s.data.toList.drop i)) = s.data.toList.length := by
        intro h9
        rw [hsz] at h9
        rw [h9] at hc25
        simp at hc25
      refine cy_skip ?_
      refine ny_next ?_
      refine cy_seq ?_
      refine cy_region ?_
      refine sy_move rfl rfl rfl ?_
      refine sy_move rfl rfl rfl ?_
      refine sy_strfrom Try.underlying9 rfl rfl (by omega) rfl rfl ?_
      have hx31 : (s.extract (i + skipN (s.data.toList.drop i)) s.size).size ≤ 70368744177600 := by
        have h9 : (s.extract (i + skipN (s.data.toList.drop i)) s.size).size = (s.extract (i + skipN (s.data.toList.drop i)) s.size).data.toList.length := rfl
        rw [h9, ext_from, List.length_drop]
        omega
      have hlt : (i + skipN (s.data.toList.drop i)) < s.data.toList.length := by omega
      have hdr := drop_at (List.getElem?_eq_getElem hlt)
      have hc31 : (s.extract (i + skipN (s.data.toList.drop i)) s.size).data.toList[0]? = some (firstC (s.data.toList.drop (i + skipN (s.data.toList.drop i)))) := by rw [ext_from, hdr]; rfl
      have hz31 : 1 ≤ (s.extract (i + skipN (s.data.toList.drop i)) s.size).size := by
        have h9 : (s.extract (i + skipN (s.data.toList.drop i)) s.size).size = (s.extract (i + skipN (s.data.toList.drop i)) s.size).data.toList.length := rfl
        rw [h9, ext_from, List.length_drop]
        omega
      refine sy_call rfl call_15 rfl (one_c (s.extract (i + skipN (s.data.toList.drop i)) s.size) _ _ hx31 hz31 hc31) rfl rfl ?_
      rw [ext_from]
      refine sy_move rfl rfl rfl ?_
      refine sy_extract rfl rfl rfl rfl ?_
      refine sy_extract rfl rfl rfl rfl ?_
      refine sy_extract rfl rfl rfl rfl ?_
      refine sy_alloc zer_31 rfl rfl (fun b8 hb8 hM8 => ?_) (by simp)
      first | refine sy_stl 0 sz_31 rfl rfl rfl rfl rfl rfl rfl rfl ?_ | refine sy_stl 1 sz_31 rfl rfl rfl rfl rfl rfl rfl rfl ?_ | refine sy_stl 2 sz_31 rfl rfl rfl rfl rfl rfl rfl rfl ?_ | refine sy_stl 3 sz_31 rfl rfl rfl rfl rfl rfl rfl rfl ?_
      refine sy_assign rfl rfl rfl ?_
      refine sy_assign rfl rfl rfl ?_
      refine sy_nil rfl ?_
      refine ny_next ?_
      refine cy_seq ?_
      refine cy_seq ?_
      refine cy_region ?_
      refine sy_move rfl rfl rfl ?_
      refine sy_eqn (e := (oneC (firstC (s.data.toList.drop (i + skipN (s.data.toList.drop i)))) (s.data.toList.drop (i + skipN (s.data.toList.drop i)))).err.isNone) Try.underlying26 rfl (nilB_err _ _) rfl rfl rfl ?_
      refine sy_move rfl rfl rfl ?_
      refine sy_cond (d := 37) _ rfl rfl (fun hg37 => ?_) (fun hg37 => ?_)
      · refine sy_field fld_31_1 rfl rfl rfl ?_
        first | refine sy_ldr 0 one_9 rfl rfl rfl rfl rfl ?_ | refine sy_ldr 1 one_9 rfl rfl rfl rfl rfl ?_ | refine sy_ldr 2 one_9 rfl rfl rfl rfl rfl ?_ | refine sy_ldr 3 one_9 rfl rfl rfl rfl rfl ?_
        refine sy_len rfl (len_string Try.underlying9 _) rfl rfl ?_
        refine sy_cmp rfl rfl rfl rfl rfl ?_
        refine sy_pickT rfl rfl rfl rfl ?_
        refine sy_nil rfl ?_
        refine ny_next ?_
        refine cy_cond rfl (fun hc42 => ?_) (fun hc42 => ?_)
        · have herr : errA (oneC (firstC (s.data.toList.drop (i + skipN (s.data.toList.drop i)))) (s.data.toList.drop (i + skipN (s.data.toList.drop i)))) = some (n1, 3) := by
            unfold errA
            rw [if_pos ⟨Option.isNone_iff_eq_none.1 hg37, by have h9 := of_decide_eq_true hc42; omega⟩]
          refine cy_region ?_
          refine sy_call rfl call_13 rfl (bad_c _ _ _) rfl rfl ?_
          refine sy_assign rfl rfl rfl ?_
          refine sy_nil rfl ?_
          refine ny_next ?_
          refine cy_seq ?_
          refine cy_seq ?_
          refine cy_region ?_
          refine sy_move rfl rfl rfl ?_
          refine sy_eqn Try.underlying26 rfl rfl rfl rfl rfl ?_
          refine sy_setT (d := 45) rfl rfl rfl ?_
          refine sy_nil rfl ?_
          refine ny_next ?_
          refine cy_condT rfl ?_
          refine cy_seq ?_
          refine cy_region ?_
          refine sy_move rfl rfl rfl ?_
          refine sy_move rfl rfl rfl ?_
          refine sy_assign rfl rfl rfl ?_
          refine sy_assign rfl rfl rfl ?_
          refine sy_assign rfl rfl rfl ?_
          refine sy_nil rfl ?_
          refine ny_next ?_
          refine cy_ret ?_
          refine ny_thenR ?_
          refine ny_blockR ?_
          refine ny_thenR ?_
          refine ny_blockR ?_
          refine ny_finR (res3 rfl rfl rfl rfl) (fun w hs2 => ?_)
          have hres : scanA s.data.toList = .bad (i + skipN (s.data.toList.drop i)) n1 3 := by { unfold scanA; rw [if_neg hnb]; show scanF s.data.toList (s.size + 1) 0 [] = _; rw [← hpre, hk]; exact scan_bad hne herr }
          exact ⟨(none, 0), _, by { rw [hres]; rfl }, by { rw [hres]; trivial }, hs2.toGrow⟩
        · have herr : errA (oneC (firstC (s.data.toList.drop (i + skipN (s.data.toList.drop i)))) (s.data.toList.drop (i + skipN (s.data.toList.drop i)))) = none := by
            unfold errA
            rw [if_neg (by rintro ⟨_, h9⟩; have h8 := of_decide_eq_false hc42; omega)]
            exact Option.isNone_iff_eq_none.1 hg37
          have hus := scan_used hI hne herr
          refine cy_skip ?_
          refine ny_next ?_
          refine cy_seq ?_
          refine cy_seq ?_
          refine cy_region ?_
          refine sy_move rfl rfl rfl ?_
          refine sy_eqn (e := (oneC (firstC (s.data.toList.drop (i + skipN (s.data.toList.drop i)))) (s.data.toList.drop (i + skipN (s.data.toList.drop i)))).err.isNone) Try.underlying26 rfl (nilB_err _ _) rfl rfl rfl ?_
          refine sy_setF (d := 45) rfl rfl (by rw [hg37]; rfl) ?_
          refine sy_nil rfl ?_
          refine ny_next ?_
          refine cy_condF rfl ?_
          refine cy_skip ?_
          refine ny_next ?_
          refine cy_seq ?_
          refine cy_region ?_
          refine sy_move rfl rfl rfl ?_
          refine sy_cmp rfl rfl rfl rfl rfl ?_
          refine sy_move rfl rfl rfl ?_
          refine sy_cond (d := 50) _ rfl rfl (fun hg50 => ?_) (fun hg50 => ?_)
          · refine sy_move rfl rfl rfl ?_
            refine sy_rowform 1 rfl (fun A5 c5 hv5 => ?_)
            subst hv5
            refine sy_len rfl (len_slice Try.underlying24 _ _ _) rfl rfl ?_
            refine sy_cmp rfl rfl rfl rfl rfl ?_
            refine sy_pickT rfl rfl rfl rfl ?_
            refine sy_field fld_31_4 rfl rfl rfl ?_
            first | refine sy_stl 0 sz_4 rfl rfl rfl rfl rfl rfl rfl rfl ?_ | refine sy_stl 1 sz_4 rfl rfl rfl rfl rfl rfl rfl rfl ?_ | refine sy_stl 2 sz_4 rfl rfl rfl rfl rfl rfl rfl rfl ?_ | refine sy_stl 3 sz_4 rfl rfl rfl rfl rfl rfl rfl rfl ?_
            refine sy_nil rfl ?_
            refine ny_next ?_
            refine cy_seq ?_
            refine cy_region ?_
            refine sy_move rfl rfl rfl ?_
            first | refine sy_ldar 0 agg_31 rfl rfl rfl rfl rfl ?_ | refine sy_ldar 1 agg_31 rfl rfl rfl rfl rfl ?_ | refine sy_ldar 2 agg_31 rfl rfl rfl rfl rfl ?_ | refine sy_ldar 3 agg_31 rfl rfl rfl rfl rfl ?_
            refine sy_buildSlice rfl (fun w => bsl_24_1_0 w) rfl rfl (fun b58 hb58 hM58 => ?_) (by simp)
            refine sy_append 2 0 row_24 (by decide) rfl rfl rfl rfl rfl rfl (by omega) (by simp only [maxLen]; omega) rfl rfl (fun v59 => ?_)
            refine sy_assign rfl rfl rfl ?_
            refine sy_nil rfl ?_
            refine ny_next ?_
            refine cy_region ?_
            refine sy_move rfl rfl rfl ?_
            refine sy_move rfl rfl rfl ?_
            refine sy_addi (z := (((i + skipN (s.data.toList.drop i)) + (oneC (firstC (s.data.toList.drop (i + skipN (s.data.toList.drop i)))) (s.data.toList.drop (i + skipN (s.data.toList.drop i)))).used : Nat) : Int)) rfl rfl (by omega) (by omega) (by omega) rfl rfl ?_
            refine sy_assign rfl rfl rfl ?_
            refine sy_nil rfl ?_
            refine ny_blockN ?_
            refine ny_roundK [0] ((i + skipN (s.data.toList.drop i)) + (oneC (firstC (s.data.toList.drop (i + skipN (s.data.toList.drop i)))) (s.data.toList.drop (i + skipN (s.data.toList.drop i)))).used, acc ++ [Tk.mk (oneC (firstC (s.data.toList.drop (i + skipN (s.data.toList.drop i)))) (s.data.toList.drop (i + skipN (s.data.toList.drop i)))) (decide (skipN (s.data.toList.drop i) = 0) && decide (0 < acc.length))], v59) [0] ⟨hus.2, by show (acc ++ [_]).length ≤ _; rw [List.length_append]; simp only [List.length_cons, List.length_nil]; omega, by rw [← hpre, hk, scan_more hne herr]; exact scan_fuel _ _ _ _ hus.2 (by omega) (by omega)⟩ (show s.size - ((i + skipN (s.data.toList.drop i)) + (oneC (firstC (s.data.toList.drop (i + skipN (s.data.toList.drop i)))) (s.data.toList.drop (i + skipN (s.data.toList.drop i)))).used) < s.size - i by omega) rfl ⟨rfl, rfl, trivial⟩ rfl (by have htg : (decide (skipN (s.data.toList.drop i) = 0) && decide (0 < acc.length)) = decide ((0 : Int) < ((acc.length : Nat) : Int)) := by { rw [decide_eq_true (show skipN (s.data.toList.drop i) = 0 by simpa using hg50), Bool.true_and]; exact decide_eq_decide.2 (by omega) }; show _ = some [Res.row v59 31 5 (acc ++ [Tk.mk (oneC (firstC (s.data.toList.drop (i + skipN (s.data.toList.drop i)))) (s.data.toList.drop (i + skipN (s.data.toList.drop i)))) (decide (skipN (s.data.toList.drop i) = 0) && decide (0 < acc.length))]).length (((acc ++ [Tk.mk (oneC (firstC (s.data.toList.drop (i + skipN (s.data.toList.drop i)))) (s.data.toList.drop (i + skipN (s.data.toList.drop i)))) (decide (skipN (s.data.toList.drop i) = 0) && decide (0 < acc.length))]).map tkC).flatten)]; rw [htg, tkC_snoc, List.length_append]; rfl)
          · refine sy_skip rfl rfl rfl ?_
            refine sy_skip rfl rfl rfl ?_
            refine sy_skip rfl rfl rfl ?_
            refine sy_pickF rfl rfl rfl rfl ?_
            refine sy_field fld_31_4 rfl rfl rfl ?_
            first | refine sy_stl 0 sz_4 rfl rfl rfl rfl rfl rfl rfl rfl ?_ | refine sy_stl 1 sz_4 rfl rfl rfl rfl rfl rfl rfl rfl ?_ | refine sy_stl 2 sz_4 rfl rfl rfl rfl rfl rfl rfl rfl ?_ | refine sy_stl 3 sz_4 rfl rfl rfl rfl rfl rfl rfl rfl ?_
            refine sy_nil rfl ?_
            refine ny_next ?_
            refine cy_seq ?_
            refine cy_region ?_
            refine sy_move rfl rfl rfl ?_
            first | refine sy_ldar 0 agg_31 rfl rfl rfl rfl rfl ?_ | refine sy_ldar 1 agg_31 rfl rfl rfl rfl rfl ?_ | refine sy_ldar 2 agg_31 rfl rfl rfl rfl rfl ?_ | refine sy_ldar 3 agg_31 rfl rfl rfl rfl rfl ?_
            refine sy_buildSlice rfl (fun w => bsl_24_1_0 w) rfl rfl (fun b58 hb58 hM58 => ?_) (by simp)
            refine sy_append 2 0 row_24 (by decide) rfl rfl rfl rfl rfl rfl (by omega) (by simp only [maxLen]; omega) rfl rfl (fun v59 => ?_)
            refine sy_assign rfl rfl rfl ?_
            refine sy_nil rfl ?_
            refine ny_next ?_
            refine cy_region ?_
            refine sy_move rfl rfl rfl ?_
            refine sy_move rfl rfl rfl ?_
            refine sy_addi (z := (((i + skipN (s.data.toList.drop i)) + (oneC (firstC (s.data.toList.drop (i + skipN (s.data.toList.drop i)))) (s.data.toList.drop (i + skipN (s.data.toList.drop i)))).used : Nat) : Int)) rfl rfl (by omega) (by omega) (by omega) rfl rfl ?_
            refine sy_assign rfl rfl rfl ?_
            refine sy_nil rfl ?_
            refine ny_blockN ?_
            refine ny_roundK [0] ((i + skipN (s.data.toList.drop i)) + (oneC (firstC (s.data.toList.drop (i + skipN (s.data.toList.drop i)))) (s.data.toList.drop (i + skipN (s.data.toList.drop i)))).used, acc ++ [Tk.mk (oneC (firstC (s.data.toList.drop (i + skipN (s.data.toList.drop i)))) (s.data.toList.drop (i + skipN (s.data.toList.drop i)))) (decide (skipN (s.data.toList.drop i) = 0) && decide (0 < acc.length))], v59) [0] ⟨hus.2, by show (acc ++ [_]).length ≤ _; rw [List.length_append]; simp only [List.length_cons, List.length_nil]; omega, by rw [← hpre, hk, scan_more hne herr]; exact scan_fuel _ _ _ _ hus.2 (by omega) (by omega)⟩ (show s.size - ((i + skipN (s.data.toList.drop i)) + (oneC (firstC (s.data.toList.drop (i + skipN (s.data.toList.drop i)))) (s.data.toList.drop (i + skipN (s.data.toList.drop i)))).used) < s.size - i by omega) rfl ⟨rfl, rfl, trivial⟩ rfl (by have htg : (decide (skipN (s.data.toList.drop i) = 0) && decide (0 < acc.length)) = false := by { rw [decide_eq_false (show ¬ skipN (s.data.toList.drop i) = 0 by simpa using hg50), Bool.false_and] }; show _ = some [Res.row v59 31 5 (acc ++ [Tk.mk (oneC (firstC (s.data.toList.drop (i + skipN (s.data.toList.drop i)))) (s.data.toList.drop (i + skipN (s.data.toList.drop i)))) (decide (skipN (s.data.toList.drop i) = 0) && decide (0 < acc.length))]).length (((acc ++ [Tk.mk (oneC (firstC (s.data.toList.drop (i + skipN (s.data.toList.drop i)))) (s.data.toList.drop (i + skipN (s.data.toList.drop i)))) (decide (skipN (s.data.toList.drop i) = 0) && decide (0 < acc.length))]).map tkC).flatten)]; rw [htg, tkC_snoc, List.length_append]; rfl)
      · obtain ⟨x9, hx9⟩ : ∃ x9, (oneC (firstC (s.data.toList.drop (i + skipN (s.data.toList.drop i)))) (s.data.toList.drop (i + skipN (s.data.toList.drop i)))).err = some x9 := Option.ne_none_iff_exists'.1 (fun h9 => by rw [h9] at hg37; simp at hg37)
        have herr : errA (oneC (firstC (s.data.toList.drop (i + skipN (s.data.toList.drop i)))) (s.data.toList.drop (i + skipN (s.data.toList.drop i)))) = some x9 := by
          unfold errA
          rw [if_neg (by rintro ⟨h9, _⟩; rw [hx9] at h9; cases h9), hx9]
        refine sy_skip rfl rfl rfl ?_
        refine sy_skip rfl rfl rfl ?_
        refine sy_skip rfl rfl rfl ?_
        refine sy_skip rfl rfl rfl ?_
        refine sy_pickF rfl rfl rfl rfl ?_
        refine sy_nil rfl ?_
        refine ny_next ?_
        refine cy_condF rfl ?_
        refine cy_skip ?_
        refine ny_next ?_
        refine cy_seq ?_
        refine cy_seq ?_
        refine cy_region ?_
        refine sy_move rfl rfl rfl ?_
        refine sy_eqn (e := (oneC (firstC (s.data.toList.drop (i + skipN (s.data.toList.drop i)))) (s.data.toList.drop (i + skipN (s.data.toList.drop i)))).err.isNone) Try.underlying26 rfl (nilB_err _ _) rfl rfl rfl ?_
        refine sy_setT (d := 45) rfl rfl (by rw [hg37]; rfl) ?_
        refine sy_nil rfl ?_
        refine ny_next ?_
        refine cy_condT rfl ?_
        refine cy_seq ?_
        refine cy_region ?_
        refine sy_move rfl rfl rfl ?_
        refine sy_move rfl rfl rfl ?_
        refine sy_assign rfl rfl rfl ?_
        refine sy_assign rfl rfl rfl ?_
        refine sy_assign rfl rfl rfl ?_
        refine sy_nil rfl ?_
        refine ny_next ?_
        refine cy_ret ?_
        refine ny_thenR ?_
        refine ny_blockR ?_
        refine ny_thenR ?_
        refine ny_blockR ?_
        refine ny_finR (res3 rfl rfl rfl rfl) (fun w hs2 => ?_)
        have hres : scanA s.data.toList = .bad (i + skipN (s.data.toList.drop i)) x9.1 x9.2 := by { unfold scanA; rw [if_neg hnb]; show scanF s.data.toList (s.size + 1) 0 [] = _; rw [← hpre, hk]; exact scan_bad hne herr }
        exact ⟨(none, 0), _, by { rw [hres, hx9]; rfl }, by { rw [hres]; trivial }, hs2.toGrow⟩
end Go.Proofs.Ytdbeiaohibgmeaa

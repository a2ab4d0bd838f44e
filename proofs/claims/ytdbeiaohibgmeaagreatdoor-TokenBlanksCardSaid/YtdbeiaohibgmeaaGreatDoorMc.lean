/- The engine, the plain laws and the walks of this seat, part 3: what the functions answer. Conditions: as each says; printed by programs of this session. -/
import Derived.Test.YtdbeiaohibgmeaaGreatDoorProg
import Derived.Stop.Asserts
import Derived.Laws.Externs
import Derived.Test.YtdbeiaohibgmeaaGreatDoorRows
import Derived.LaidMore
import Derived.LaidSub
import Derived.LaidHandle
import Derived.Stop.Joined
import Derived.Test.YtdbeiaohibgmeaaGreatDoorMb
set_option linter.unusedVariables false
set_option linter.unusedSimpArgs false
namespace Go.Proofs.YtdbeiaohibgmeaaGreatDoor
open Go.RowKit Go.Proofs.YtdbeiaohibgmeaaGreatDoor.E Go.Proofs.YtdbeiaohibgmeaaGreatDoor.ReplP Go.Proofs.YtdbeiaohibgmeaaGreatDoor.TokP
theorem nilB_err (T : Nat) (e : Option (ByteArray × Int)) : nilB (errV T e) = some e.isNone := by cases e <;> rfl
def scV (T : Nat) (r : Sc) (x : Option Addr × Nat) : Value := match r with
  | .ok ts => .tuple #[.slice x.1 ts.length x.2, .int .i64 0, .nilIface]
  | .bad i w e => .tuple #[.slice none 0 0, .int .i64 (i : Int), .iface T (.agg #[.string w, .int .i64 e])]
def scR (r : Sc) (x : Option Addr × Nat) (h : Hp) : Prop := match r with
  | .ok ts => RowsAt h x.1 5 (ts.map tkC) ∧ ts.length ≤ x.2
  | .bad _ _ _ => True
theorem tkC_len (l : List Tk) : ∀ c ∈ l.map tkC, c.length = 5 := fun c hc => by
  obtain ⟨t, _, rfl⟩ := List.mem_map.1 hc
  rfl
theorem tkC_snoc (l : List Tk) (t : Tk) : ((l ++ [t]).map tkC).flatten = (l.map tkC).flatten ++ [.int .i64 t.a.kind, .string t.a.str, .int .i64 t.a.num, .bool t.a.quo, .bool t.tight] := by
  rw [List.map_append, List.flatten_append]
  simp [tkC]
set_option maxRecDepth 100000 in
theorem scan_c (s : ByteArray) (h : Hp) : CX Tryz.prog 6 [.string s] h (scV 51 (scanA s.data.toList)) (scR (scanA s.data.toList)) := by
  refine enterX Tryz.func6 rfl rfl rfl (fun w => ?_)
  refine cy_seq ?_
  refine cy_region ?_
  refine sy_assign rfl rfl rfl ?_
  refine sy_assign rfl rfl rfl ?_
  refine sy_assign rfl rfl rfl ?_
  refine sy_nil rfl ?_
  refine ny_next ?_
  refine cy_seq ?_
  refine cy_seq ?_
  refine cy_region ?_
  refine sy_move rfl rfl rfl ?_
  refine sy_len rfl (len_string Tryz.underlying9 _) rfl rfl ?_
  refine sy_cmp rfl rfl rfl rfl rfl ?_
  refine sy_nil rfl ?_
  refine ny_next ?_
  refine cy_cond rfl (fun hc13 => ?_) (fun hc13 => ?_)
  · refine cy_seq ?_
    refine cy_region ?_
    refine sy_call rfl call_11 rfl (bad_c _ _ _) rfl rfl ?_
    refine sy_assign rfl rfl rfl ?_
    refine sy_assign rfl rfl rfl ?_
    refine sy_assign rfl rfl rfl ?_
    refine sy_nil rfl ?_
    refine ny_next ?_
    refine cy_ret ?_
    refine ny_thenR ?_
    have hbig : 4096 < s.data.toList.length := by have h9 := of_decide_eq_true hc13; have h8 : s.data.toList.length = s.size := rfl; omega
    refine ny_finR (res3 rfl rfl rfl rfl) (fun w hs2 => ⟨(none, 0), _, ?_, ?_, hs2.toGrow⟩)
    · unfold scanA; rw [if_pos hbig]; rfl
    · unfold scanA; rw [if_pos hbig]; trivial
  · have hnb : ¬ 4096 < s.data.toList.length := by have h9 := of_decide_eq_false hc13; have h8 : s.data.toList.length = s.size := rfl; omega
    have hs : s.size ≤ 70368744177600 := by have h8 : s.data.toList.length = s.size := rfl; omega
    refine cy_skip ?_
    refine ny_next ?_
    refine cy_seq ?_
    refine cy_region ?_
    refine sy_assign rfl rfl rfl ?_
    refine sy_nil rfl ?_
    refine ny_next ?_
    refine cy_seq ?_
    refine cy_region ?_
    refine sy_assign rfl rfl rfl ?_
    refine sy_nil rfl ?_
    refine ny_next ?_
    refine cy_block ?_
    refine cy_nilRow 36 5 ?_
    refine cy_loopK (ι := Nat × List Tk × Value) [0] rfl (fun z => z.1 ≤ s.size ∧ z.2.1.length ≤ z.1 ∧ scanF s.data.toList (s.size + 1 - z.1) z.1 z.2.1 = scanF s.data.toList (s.size + 1) 0 []) (fun z => s.size - z.1) (fun z => [(5, z.2.2), (6, .int .i64 (z.1 : Int))]) (fun z => h) (fun z => [Res.row z.2.2 36 5 (z.2.1).length (((z.2.1).map tkC).flatten)]) (0, [], .slice none 0 0) [0] ⟨Nat.zero_le _, Nat.zero_le _, rfl⟩ ⟨rfl, rfl, trivial⟩ rfl rfl ?_
    rintro ⟨i, acc, v5⟩ ⟨hI, hol, hpre⟩
    simp only at hI hol hpre ⊢
    have hsz : s.data.toList.length = s.size := rfl
    obtain ⟨k, hk⟩ : ∃ k, s.size + 1 - i = k + 1 := ⟨s.size - i, by omega⟩
    have hcap : acc.length ≤ 4096 := by omega
    have hroom := skip_room (l := s.data.toList) hI
    refine cy_block ?_
    refine cy_seq ?_
    refine cy_region ?_
    refine sy_move rfl rfl rfl ?_
    refine sy_move rfl rfl rfl ?_
    refine sy_strfrom Tryz.underlying9 rfl rfl (by omega) rfl rfl ?_
    have hx18 : (s.extract i s.size).size ≤ 70368744177600 := by
      have h9 : (s.extract i s.size).size = (s.extract i s.size).data.toList.length := rfl
      rw [h9, ext_from, List.length_drop]
      omega
    refine sy_call rfl call_12 rfl (skip_c (s.extract i s.size) _ hx18) rfl rfl ?_
    rw [ext_from]
    refine sy_assign rfl rfl rfl ?_
    refine sy_nil rfl ?_
    refine ny_next ?_
    refine cy_seq ?_
    refine cy_region ?_
    refine sy_move rfl rfl rfl ?_
    refine sy_move rfl rfl rfl ?_
    refine sy_addi (z := (((i + skipN (s.data.toList.drop i)) : Nat) : Int)) rfl rfl (by omega) (by omega) (by omega) rfl rfl ?_
    refine sy_assign rfl rfl rfl ?_
    refine sy_nil rfl ?_
    refine ny_next ?_
    refine cy_seq ?_
    refine cy_seq ?_
    refine cy_region ?_
    refine sy_move rfl rfl rfl ?_
    refine sy_move rfl rfl rfl ?_
    refine sy_len rfl (len_string Tryz.underlying9 _) rfl rfl ?_
    refine sy_cmp rfl rfl rfl rfl rfl ?_
    refine sy_nil rfl ?_
    refine ny_next ?_
    refine cy_cond rfl (fun hc25 => ?_) (fun hc25 => ?_)
    · have hend : (i + skipN (s.data.toList.drop i)) = s.data.toList.length := by have h9 : (((i + skipN (s.data.toList.drop i)) : Nat) : Int) = (s.size : Int) := (by simpa using hc25); omega
      refine cy_frzRow 0 rfl (fun _ _ => by simp) (fun A9 c9 h9 hv9 hlc9 hcm9 _ hle9 hcell9 => ?_)
      subst hv9
      have hr9 : RowsAt h9 A9 5 (acc.map tkC) := rows_row (by decide) (tkC_len _) hcell9
      refine cy_seq ?_
      refine cy_region ?_
      refine sy_move rfl rfl rfl ?_
      refine sy_assign rfl rfl rfl ?_
      refine sy_assign rfl rfl rfl ?_
      refine sy_assign rfl rfl rfl ?_
      refine sy_nil rfl ?_
      refine ny_next ?_
      refine cy_ret ?_
      refine ny_thenR ?_
      refine ny_blockR ?_
      refine ny_thenR ?_
      refine ny_blockR ?_
      have hres : scanA s.data.toList = .ok acc := by unfold scanA; rw [if_neg hnb]; show scanF s.data.toList (s.size + 1) 0 [] = _; rw [← hpre, hk]; exact scan_done hend
      refine ny_finR (res3 rfl rfl rfl rfl) (fun w hs2 => ⟨(A9, c9), h9, ?_, ?_, hs2.toGrow⟩)
      · rw [hres]; rfl
      · rw [hres]; exact ⟨hr9, hlc9⟩
    · have hne : ¬ (i + skipN (s.data.toList.drop i)) = s.data.toList.length := by
        intro h9
        rw [hsz] at h9
        rw [h9] at hc25
        simp at hc25
      refine cy_skip ?_
      refine ny_next ?_
      refine cy_seq ?_
      refine cy_region ?_
      refine sy_move rfl rfl rfl ?_
      refine sy_move rfl rfl rfl ?_
      refine sy_strfrom Tryz.underlying9 rfl rfl (by omega) rfl rfl ?_
      have hx31 : (s.extract (i + skipN (s.data.toList.drop i)) s.size).size ≤ 70368744177600 := by
        have h9 : (s.extract (i + skipN (s.data.toList.drop i)) s.size).size = (s.extract (i + skipN (s.data.toList.drop i)) s.size).data.toList.length := rfl
        rw [h9, ext_from, List.length_drop]
        omega
      have hlt : (i + skipN (s.data.toList.drop i)) < s.data.toList.length := by omega
      have hdr := drop_at (List.getElem?_eq_getElem hlt)
      have hc31 : (s.extract (i + skipN (s.data.toList.drop i)) s.size).data.toList[0]? = some (firstC (s.data.toList.drop (i + skipN (s.data.toList.drop i)))) := by rw [ext_from, hdr]; rfl
      have hz31 : 1 ≤ (s.extract (i + skipN (s.data.toList.drop i)) s.size).size := by
        have h9 : (s.extract (i + skipN (s.data.toList.drop i)) s.size).size = (s.extract (i + skipN (s.data.toList.drop i)) s.size).data.toList.length := rfl
        rw [h9, ext_from, List.length_drop]
        omega
      refine sy_call rfl call_13 rfl (one_c (s.extract (i + skipN (s.data.toList.drop i)) s.size) _ _ hx31 hz31 hc31) rfl rfl ?_
      rw [ext_from]
      refine sy_move rfl rfl rfl ?_
      refine sy_extract rfl rfl rfl rfl ?_
      refine sy_extract rfl rfl rfl rfl ?_
      refine sy_extract rfl rfl rfl rfl ?_
      refine sy_alloc zer_36 rfl rfl (fun b8 hb8 hM8 => ?_) (by simp)
      first | refine sy_stl 0 sz_36 rfl rfl rfl rfl rfl rfl rfl rfl ?_ | refine sy_stl 1 sz_36 rfl rfl rfl rfl rfl rfl rfl rfl ?_ | refine sy_stl 2 sz_36 rfl rfl rfl rfl rfl rfl rfl rfl ?_ | refine sy_stl 3 sz_36 rfl rfl rfl rfl rfl rfl rfl rfl ?_
      refine sy_assign rfl rfl rfl ?_
      refine sy_assign rfl rfl rfl ?_
      refine sy_nil rfl ?_
      refine ny_next ?_
      refine cy_seq ?_
      refine cy_seq ?_
      refine cy_region ?_
      refine sy_move rfl rfl rfl ?_
      refine sy_eqn (e := (oneC (firstC (s.data.toList.drop (i + skipN (s.data.toList.drop i)))) (s.data.toList.drop (i + skipN (s.data.toList.drop i)))).err.isNone) Tryz.underlying26 rfl (nilB_err _ _) rfl rfl rfl ?_
      refine sy_move rfl rfl rfl ?_
      refine sy_cond (d := 37) _ rfl rfl (fun hg37 => ?_) (fun hg37 => ?_)
      · refine sy_field fld_36_1 rfl rfl rfl ?_
        first | refine sy_ldr 0 one_9 rfl rfl rfl rfl rfl ?_ | refine sy_ldr 1 one_9 rfl rfl rfl rfl rfl ?_ | refine sy_ldr 2 one_9 rfl rfl rfl rfl rfl ?_ | refine sy_ldr 3 one_9 rfl rfl rfl rfl rfl ?_
        refine sy_len rfl (len_string Tryz.underlying9 _) rfl rfl ?_
        refine sy_cmp rfl rfl rfl rfl rfl ?_
        refine sy_pickT rfl rfl rfl rfl ?_
        refine sy_nil rfl ?_
        refine ny_next ?_
        refine cy_cond rfl (fun hc42 => ?_) (fun hc42 => ?_)
        · have herr : errA (oneC (firstC (s.data.toList.drop (i + skipN (s.data.toList.drop i)))) (s.data.toList.drop (i + skipN (s.data.toList.drop i)))) = some (n1, 3) := by
            unfold errA
            rw [if_pos ⟨Option.isNone_iff_eq_none.1 hg37, by have h9 := of_decide_eq_true hc42; omega⟩]
          refine cy_region ?_
          refine sy_call rfl call_11 rfl (bad_c _ _ _) rfl rfl ?_
          refine sy_assign rfl rfl rfl ?_
          refine sy_nil rfl ?_
          refine ny_next ?_
          refine cy_seq ?_
          refine cy_seq ?_
          refine cy_region ?_
          refine sy_move rfl rfl rfl ?_
          refine sy_eqn Tryz.underlying26 rfl rfl rfl rfl rfl ?_
          refine sy_setT (d := 45) rfl rfl rfl ?_
          refine sy_nil rfl ?_
          refine ny_next ?_
          refine cy_condT rfl ?_
          refine cy_seq ?_
          refine cy_region ?_
          refine sy_move rfl rfl rfl ?_
          refine sy_move rfl rfl rfl ?_
          refine sy_assign rfl rfl rfl ?_
          refine sy_assign rfl rfl rfl ?_
          refine sy_assign rfl rfl rfl ?_
          refine sy_nil rfl ?_
          refine ny_next ?_
          refine cy_ret ?_
          refine ny_thenR ?_
          refine ny_blockR ?_
          refine ny_thenR ?_
          refine ny_blockR ?_
          refine ny_finR (res3 rfl rfl rfl rfl) (fun w hs2 => ?_)
          have hres : scanA s.data.toList = .bad (i + skipN (s.data.toList.drop i)) n1 3 := by { unfold scanA; rw [if_neg hnb]; show scanF s.data.toList (s.size + 1) 0 [] = _; rw [← hpre, hk]; exact scan_bad hne herr }
          exact ⟨(none, 0), _, by { rw [hres]; rfl }, by { rw [hres]; trivial }, hs2.toGrow⟩
        · have herr : errA (oneC (firstC (s.data.toList.drop (i + skipN (s.data.toList.drop i)))) (s.data.toList.drop (i + skipN (s.data.toList.drop i)))) = none := by
            unfold errA
            rw [if_neg (by rintro ⟨_, h9⟩; have h8 := of_decide_eq_false hc42; omega)]
            exact Option.isNone_iff_eq_none.1 hg37
          have hus := scan_used hI hne herr
          refine cy_skip ?_
          refine ny_next ?_
          refine cy_seq ?_
          refine cy_seq ?_
          refine cy_region ?_
          refine sy_move rfl rfl rfl ?_
          refine sy_eqn (e := (oneC (firstC (s.data.toList.drop (i + skipN (s.data.toList.drop i)))) (s.data.toList.drop (i + skipN (s.data.toList.drop i)))).err.isNone) Tryz.underlying26 rfl (nilB_err _ _) rfl rfl rfl ?_
          refine sy_setF (d := 45) rfl rfl (by rw [hg37]; rfl) ?_
          refine sy_nil rfl ?_
          refine ny_next ?_
          refine cy_condF rfl ?_
          refine cy_skip ?_
          refine ny_next ?_
          refine cy_seq ?_
          refine cy_region ?_
          refine sy_move rfl rfl rfl ?_
          refine sy_cmp rfl rfl rfl rfl rfl ?_
          refine sy_move rfl rfl rfl ?_
          refine sy_cond (d := 50) _ rfl rfl (fun hg50 => ?_) (fun hg50 => ?_)
          · refine sy_move rfl rfl rfl ?_
            refine sy_rowform 1 rfl (fun A5 c5 hv5 => ?_)
            subst hv5
            refine sy_len rfl (len_slice Tryz.underlying24 _ _ _) rfl rfl ?_
            refine sy_cmp rfl rfl rfl rfl rfl ?_
            refine sy_pickT rfl rfl rfl rfl ?_
            refine sy_field fld_36_4 rfl rfl rfl ?_
            first | refine sy_stl 0 sz_4 rfl rfl rfl rfl rfl rfl rfl rfl ?_ | refine sy_stl 1 sz_4 rfl rfl rfl rfl rfl rfl rfl rfl ?_ | refine sy_stl 2 sz_4 rfl rfl rfl rfl rfl rfl rfl rfl ?_ | refine sy_stl 3 sz_4 rfl rfl rfl rfl rfl rfl rfl rfl ?_
            refine sy_nil rfl ?_
            refine ny_next ?_
            refine cy_seq ?_
            refine cy_region ?_
            refine sy_move rfl rfl rfl ?_
            first | refine sy_ldar 0 agg_36 rfl rfl rfl rfl rfl ?_ | refine sy_ldar 1 agg_36 rfl rfl rfl rfl rfl ?_ | refine sy_ldar 2 agg_36 rfl rfl rfl rfl rfl ?_ | refine sy_ldar 3 agg_36 rfl rfl rfl rfl rfl ?_
            refine sy_buildSlice rfl (fun w => bsl_24_1_0 w) rfl rfl (fun b58 hb58 hM58 => ?_) (by simp)
            refine sy_append 2 0 row_24 (by decide) rfl rfl rfl rfl rfl rfl (by omega) (by simp only [maxLen]; omega) rfl rfl (fun v59 => ?_)
            refine sy_assign rfl rfl rfl ?_
            refine sy_nil rfl ?_
            refine ny_next ?_
            refine cy_region ?_
            refine sy_move rfl rfl rfl ?_
            refine sy_move rfl rfl rfl ?_
            refine sy_addi (z := (((i + skipN (s.data.toList.drop i)) + (oneC (firstC (s.data.toList.drop (i + skipN (s.data.toList.drop i)))) (s.data.toList.drop (i + skipN (s.data.toList.drop i)))).used : Nat) : Int)) rfl rfl (by omega) (by omega) (by omega) rfl rfl ?_
            refine sy_assign rfl rfl rfl ?_
            refine sy_nil rfl ?_
            refine ny_blockN ?_
            refine ny_roundK [0] ((i + skipN (s.data.toList.drop i)) + (oneC (firstC (s.data.toList.drop (i + skipN (s.data.toList.drop i)))) (s.data.toList.drop (i + skipN (s.data.toList.drop i)))).used, acc ++ [Tk.mk (oneC (firstC (s.data.toList.drop (i + skipN (s.data.toList.drop i)))) (s.data.toList.drop (i + skipN (s.data.toList.drop i)))) (decide (skipN (s.data.toList.drop i) = 0) && decide (0 < acc.length))], v59) [0] ⟨hus.2, by show (acc ++ [_]).length ≤ _; rw [List.length_append]; simp only [List.length_cons, List.length_nil]; omega, by rw [← hpre, hk, scan_more hne herr]; exact scan_fuel _ _ _ _ hus.2 (by omega) (by omega)⟩ (show s.size - ((i + skipN (s.data.toList.drop i)) + (oneC (firstC (s.data.toList.drop (i + skipN (s.data.toList.drop i)))) (s.data.toList.drop (i + skipN (s.data.toList.drop i)))).used) < s.size - i by omega) rfl ⟨rfl, rfl, trivial⟩ rfl (by have htg : (decide (skipN (s.data.toList.drop i) = 0) && decide (0 < acc.length)) = decide ((0 : Int) < ((acc.length : Nat) : Int)) := by { rw [decide_eq_true (show skipN (s.data.toList.drop i) = 0 by simpa using hg50), Bool.true_and]; exact decide_eq_decide.2 (by omega) }; show _ = some [Res.row v59 36 5 (acc ++ [Tk.mk (oneC (firstC (s.data.toList.drop (i + skipN (s.data.toList.drop i)))) (s.data.toList.drop (i + skipN (s.data.toList.drop i)))) (decide (skipN (s.data.toList.drop i) = 0) && decide (0 < acc.length))]).length (((acc ++ [Tk.mk (oneC (firstC (s.data.toList.drop (i + skipN (s.data.toList.drop i)))) (s.data.toList.drop (i + skipN (s.data.toList.drop i)))) (decide (skipN (s.data.toList.drop i) = 0) && decide (0 < acc.length))]).map tkC).flatten)]; rw [htg, tkC_snoc, List.length_append]; rfl)
          · refine sy_skip rfl rfl rfl ?_
            refine sy_skip rfl rfl rfl ?_
            refine sy_skip rfl rfl rfl ?_
            refine sy_pickF rfl rfl rfl rfl ?_
            refine sy_field fld_36_4 rfl rfl rfl ?_
            first | refine sy_stl 0 sz_4 rfl rfl rfl rfl rfl rfl rfl rfl ?_ | refine sy_stl 1 sz_4 rfl rfl rfl rfl rfl rfl rfl rfl ?_ | refine sy_stl 2 sz_4 rfl rfl rfl rfl rfl rfl rfl rfl ?_ | refine sy_stl 3 sz_4 rfl rfl rfl rfl rfl rfl rfl rfl ?_
            refine sy_nil rfl ?_
            refine ny_next ?_
            refine cy_seq ?_
            refine cy_region ?_
            refine sy_move rfl rfl rfl ?_
            first | refine sy_ldar 0 agg_36 rfl rfl rfl rfl rfl ?_ | refine sy_ldar 1 agg_36 rfl rfl rfl rfl rfl ?_ | refine sy_ldar 2 agg_36 rfl rfl rfl rfl rfl ?_ | refine sy_ldar 3 agg_36 rfl rfl rfl rfl rfl ?_
            refine sy_buildSlice rfl (fun w => bsl_24_1_0 w) rfl rfl (fun b58 hb58 hM58 => ?_) (by simp)
            refine sy_append 2 0 row_24 (by decide) rfl rfl rfl rfl rfl rfl (by omega) (by simp only [maxLen]; omega) rfl rfl (fun v59 => ?_)
            refine sy_assign rfl rfl rfl ?_
            refine sy_nil rfl ?_
            refine ny_next ?_
            refine cy_region ?_
            refine sy_move rfl rfl rfl ?_
            refine sy_move rfl rfl rfl ?_
            refine sy_addi (z := (((i + skipN (s.data.toList.drop i)) + (oneC (firstC (s.data.toList.drop (i + skipN (s.data.toList.drop i)))) (s.data.toList.drop (i + skipN (s.data.toList.drop i)))).used : Nat) : Int)) rfl rfl (by omega) (by omega) (by omega) rfl rfl ?_
            refine sy_assign rfl rfl rfl ?_
            refine sy_nil rfl ?_
            refine ny_blockN ?_
            refine ny_roundK [0] ((i + skipN (s.data.toList.drop i)) + (oneC (firstC (s.data.toList.drop (i + skipN (s.data.toList.drop i)))) (s.data.toList.drop (i + skipN (s.data.toList.drop i)))).used, acc ++ [Tk.mk (oneC (firstC (s.data.toList.drop (i + skipN (s.data.toList.drop i)))) (s.data.toList.drop (i + skipN (s.data.toList.drop i)))) (decide (skipN (s.data.toList.drop i) = 0) && decide (0 < acc.length))], v59) [0] ⟨hus.2, by show (acc ++ [_]).length ≤ _; rw [List.length_append]; simp only [List.length_cons, List.length_nil]; omega, by rw [← hpre, hk, scan_more hne herr]; exact scan_fuel _ _ _ _ hus.2 (by omega) (by omega)⟩ (show s.size - ((i + skipN (s.data.toList.drop i)) + (oneC (firstC (s.data.toList.drop (i + skipN (s.data.toList.drop i)))) (s.data.toList.drop (i + skipN (s.data.toList.drop i)))).used) < s.size - i by omega) rfl ⟨rfl, rfl, trivial⟩ rfl (by have htg : (decide (skipN (s.data.toList.drop i) = 0) && decide (0 < acc.length)) = false := by { rw [decide_eq_false (show ¬ skipN (s.data.toList.drop i) = 0 by simpa using hg50), Bool.false_and] }; show _ = some [Res.row v59 36 5 (acc ++ [Tk.mk (oneC (firstC (s.data.toList.drop (i + skipN (s.data.toList.drop i)))) (s.data.toList.drop (i + skipN (s.data.toList.drop i)))) (decide (skipN (s.data.toList.drop i) = 0) && decide (0 < acc.length))]).length (((acc ++ [Tk.mk (oneC (firstC (s.data.toList.drop (i + skipN (s.data.toList.drop i)))) (s.data.toList.drop (i + skipN (s.data.toList.drop i)))) (decide (skipN (s.data.toList.drop i) = 0) && decide (0 < acc.length))]).map tkC).flatten)]; rw [htg, tkC_snoc, List.length_append]; rfl)
      · obtain ⟨x9, hx9⟩ : ∃ x9, (oneC (firstC (s.data.toList.drop (i + skipN (s.data.toList.drop i)))) (s.data.toList.drop (i + skipN (s.data.toList.drop i)))).err = some x9 := Option.ne_none_iff_exists'.1 (fun h9 => by rw [h9] at hg37; simp at hg37)
        have herr : errA (oneC (firstC (s.data.toList.drop (i + skipN (s.data.toList.drop i)))) (s.data.toList.drop (i + skipN (s.data.toList.drop i)))) = some x9 := by
          unfold errA
          rw [if_neg (by rintro ⟨h9, _⟩; rw [hx9] at h9; cases h9), hx9]
        refine sy_skip rfl rfl rfl ?_
        refine sy_skip rfl rfl rfl ?_
        refine sy_skip rfl rfl rfl ?_
        refine sy_skip rfl rfl rfl ?_
        refine sy_pickF rfl rfl rfl rfl ?_
        refine sy_nil rfl ?_
        refine ny_next ?_
        refine cy_condF rfl ?_
        refine cy_skip ?_
        refine ny_next ?_
        refine cy_seq ?_
        refine cy_seq ?_
        refine cy_region ?_
        refine sy_move rfl rfl rfl ?_
        refine sy_eqn (e := (oneC (firstC (s.data.toList.drop (i + skipN (s.data.toList.drop i)))) (s.data.toList.drop (i + skipN (s.data.toList.drop i)))).err.isNone) Tryz.underlying26 rfl (nilB_err _ _) rfl rfl rfl ?_
        refine sy_setT (d := 45) rfl rfl (by rw [hg37]; rfl) ?_
        refine sy_nil rfl ?_
        refine ny_next ?_
        refine cy_condT rfl ?_
        refine cy_seq ?_
        refine cy_region ?_
        refine sy_move rfl rfl rfl ?_
        refine sy_move rfl rfl rfl ?_
        refine sy_assign rfl rfl rfl ?_
        refine sy_assign rfl rfl rfl ?_
        refine sy_assign rfl rfl rfl ?_
        refine sy_nil rfl ?_
        refine ny_next ?_
        refine cy_ret ?_
        refine ny_thenR ?_
        refine ny_blockR ?_
        refine ny_thenR ?_
        refine ny_blockR ?_
        refine ny_finR (res3 rfl rfl rfl rfl) (fun w hs2 => ?_)
        have hres : scanA s.data.toList = .bad (i + skipN (s.data.toList.drop i)) x9.1 x9.2 := by { unfold scanA; rw [if_neg hnb]; show scanF s.data.toList (s.size + 1) 0 [] = _; rw [← hpre, hk]; exact scan_bad hne herr }
        exact ⟨(none, 0), _, by { rw [hres, hx9]; rfl }, by { rw [hres]; trivial }, hs2.toGrow⟩
end Go.Proofs.YtdbeiaohibgmeaaGreatDoor
set_option linter.unusedVariables false
set_option linter.unusedSimpArgs false
namespace Go.Proofs.YtdbeiaohibgmeaaGreatDoor.TokP
open Go.RowKit Go.Proofs.YtdbeiaohibgmeaaGreatDoor.E Go.Proofs.YtdbeiaohibgmeaaGreatDoor.ReplP
def shT : List UInt8 := [102, 111, 111, 40, 88, 44, 49, 50, 41, 46, 32, 37, 32, 120]
def shL : List Tk := [⟨.tok 1 ⟨#[102, 111, 111]⟩ 0 false 3, false⟩, ⟨.tok 4 ⟨#[40]⟩ 0 false 1, true⟩, ⟨.tok 2 ⟨#[88]⟩ 0 false 1, true⟩, ⟨.tok 4 ⟨#[44]⟩ 0 false 1, true⟩, ⟨.tok 3 ⟨#[]⟩ 12 false 2, true⟩, ⟨.tok 4 ⟨#[41]⟩ 0 false 1, true⟩, ⟨.tok 5 ⟨#[46]⟩ 0 false 1, true⟩]
theorem sh_scan : scanA shT = .ok shL := by kernel_rfl
end Go.Proofs.YtdbeiaohibgmeaaGreatDoor.TokP
set_option linter.unusedVariables false
set_option linter.unusedSimpArgs false
namespace Go.Proofs.YtdbeiaohibgmeaaGreatDoor
open Go.RowKit Go.Proofs.YtdbeiaohibgmeaaGreatDoor.E Go.Proofs.YtdbeiaohibgmeaaGreatDoor.ReplP Go.Proofs.YtdbeiaohibgmeaaGreatDoor.TokP
set_option maxRecDepth 100000 in
theorem shown05_c (h : Hp) : C0 Tryz.prog 5 [] h (.bool true) := by
  refine enter0 Tryz.func5 rfl rfl rfl (fun w => ?_)
  refine cy_seq ?_
  refine cy_region ?_
  refine sy_assign rfl rfl rfl ?_
  refine sy_nil rfl ?_
  refine ny_next ?_
  refine cy_seq ?_
  refine cy_region ?_
  refine sy_callx call_6 rfl (scan_c (⟨#[102, 111, 111, 40, 88, 44, 49, 50, 41, 46, 32, 37, 32, 120]⟩ : ByteArray) _) rfl rfl (fun x5 h5 hx5 hle5 => ?_)
  rw [show scanA (⟨#[102, 111, 111, 40, 88, 44, 49, 50, 41, 46, 32, 37, 32, 120]⟩ : ByteArray).data.toList = .ok shL from sh_scan] at hx5 ⊢
  obtain ⟨A5, c5⟩ := x5
  obtain ⟨hr5, _⟩ := hx5
  refine sy_move rfl rfl rfl ?_
  refine sy_extract rfl rfl rfl rfl ?_
  refine sy_extract rfl rfl rfl rfl ?_
  refine sy_extract rfl rfl rfl rfl ?_
  refine sy_assign rfl rfl rfl ?_
  refine sy_assign rfl rfl rfl ?_
  refine sy_assign rfl rfl rfl ?_
  refine sy_nil rfl ?_
  refine ny_next ?_
  refine cy_seq ?_
  refine cy_region ?_
  refine sy_move rfl rfl rfl ?_
  refine sy_eqn Tryz.underlying26 rfl rfl rfl rfl rfl ?_
  refine sy_move rfl rfl rfl ?_
  refine sy_setT (d := 11) rfl rfl (by first | rfl | decide | kernel_rfl) ?_
  refine sy_move rfl rfl rfl ?_
  refine sy_len rfl (len_slice Tryz.underlying24 A5 shL.length c5) rfl rfl ?_
  refine sy_cmp rfl rfl rfl rfl rfl ?_
  refine sy_pickT rfl rfl rfl rfl ?_
  refine sy_move rfl rfl rfl ?_
  refine sy_setT (d := 16) rfl rfl (by first | rfl | decide | kernel_rfl) ?_
  refine sy_move rfl rfl rfl ?_
  refine sy_idxR (i := 0) (fc := tkC) (es := shL) els_24 rfl rfl hr5 rfl (by decide) rfl rfl (fun e18 b18 o18 he18 hA18 hc18 => ?_)
  obtain rfl := Option.some.inj (show some (shL[0]) = some e18 from he18)
  refine sy_field fld_36_1 rfl rfl rfl ?_
  refine sy_ldh one_9 rfl (hc18 1 _ rfl) rfl rfl ?_
  refine sy_eqs rfl rfl rfl rfl ?_
  refine sy_pickT rfl rfl rfl rfl ?_
  refine sy_move rfl rfl rfl ?_
  refine sy_setT (d := 23) rfl rfl (by first | rfl | decide | kernel_rfl) ?_
  refine sy_move rfl rfl rfl ?_
  refine sy_idxR (i := 1) (fc := tkC) (es := shL) els_24 rfl rfl hr5 rfl (by decide) rfl rfl (fun e25 b25 o25 he25 hA25 hc25 => ?_)
  obtain rfl := Option.some.inj (show some (shL[1]) = some e25 from he25)
  refine sy_field fld_36_4 rfl rfl rfl ?_
  refine sy_ldh one_4 rfl (hc25 4 _ rfl) rfl rfl ?_
  refine sy_pickT rfl rfl rfl rfl ?_
  refine sy_move rfl rfl rfl ?_
  refine sy_setT (d := 29) rfl rfl (by first | rfl | decide | kernel_rfl) ?_
  refine sy_move rfl rfl rfl ?_
  refine sy_idxR (i := 4) (fc := tkC) (es := shL) els_24 rfl rfl hr5 rfl (by decide) rfl rfl (fun e31 b31 o31 he31 hA31 hc31 => ?_)
  obtain rfl := Option.some.inj (show some (shL[4]) = some e31 from he31)
  refine sy_field fld_36_2 rfl rfl rfl ?_
  refine sy_ldh one_2 rfl (hc31 2 _ rfl) rfl rfl ?_
  refine sy_cmp rfl rfl rfl rfl rfl ?_
  refine sy_pickT rfl rfl rfl rfl ?_
  refine sy_move rfl rfl rfl ?_
  refine sy_setT (d := 36) rfl rfl (by first | rfl | decide | kernel_rfl) ?_
  refine sy_move rfl rfl rfl ?_
  refine sy_idxR (i := 6) (fc := tkC) (es := shL) els_24 rfl rfl hr5 rfl (by decide) rfl rfl (fun e38 b38 o38 he38 hA38 hc38 => ?_)
  obtain rfl := Option.some.inj (show some (shL[6]) = some e38 from he38)
  refine sy_field fld_36_0 rfl rfl rfl ?_
  refine sy_ldh one_3 rfl (hc38 0 _ rfl) rfl rfl ?_
  refine sy_cmp rfl rfl rfl rfl rfl ?_
  refine sy_pickT rfl rfl rfl rfl ?_
  refine sy_move rfl rfl rfl ?_
  refine sy_setT (d := 43) rfl rfl (by first | rfl | decide | kernel_rfl) ?_
  refine sy_call rfl call_10 rfl (quote_c ⟨#[65, 39]⟩ _ _ (by decide) (fun h => plain_c _ h (by decide))) rfl rfl ?_
  refine sy_eqs rfl rfl rfl rfl ?_
  refine sy_setT (d := 45) rfl rfl (by kernel_rfl) ?_
  refine sy_pickT rfl rfl rfl rfl ?_
  refine sy_assign rfl rfl rfl ?_
  refine sy_nil rfl ?_
  refine ny_next ?_
  refine cy_ret ?_
  exact ny_finR (res1 rfl rfl) (fun w hs => ⟨rfl, hs.frm⟩)
end Go.Proofs.YtdbeiaohibgmeaaGreatDoor
set_option linter.unusedVariables false
set_option linter.unusedSimpArgs false
namespace Go.Proofs.YtdbeiaohibgmeaaGreatDoor.TokP
open Go.RowKit Go.Proofs.YtdbeiaohibgmeaaGreatDoor.E Go.Proofs.YtdbeiaohibgmeaaGreatDoor.ReplP
def one1 (r : List UInt8) : Ans := oneC (firstC r) r
/-- a text is these tokens; b: something stands ahead of it -/
inductive Lx : Bool → List UInt8 → List Tk → Prop
  | done {b : Bool} {l : List UInt8} (h : skipN l = l.length) : Lx b l []
  | tok {b : Bool} {l r : List UInt8} {a : Ans} {ts : List Tk} (h : ¬ skipN l = l.length) (hr : r = l.drop (skipN l)) (ha : a = one1 r) (he : errA a = none) (k : Lx true (r.drop a.used) ts) : Lx b l (⟨a, decide (skipN l = 0) && b⟩ :: ts)
/-- a text may not be, at a place -/
inductive Lb : List UInt8 → Nat → ByteArray × Int → Prop
  | bad {l r : List UInt8} {x : ByteArray × Int} (h : ¬ skipN l = l.length) (hr : r = l.drop (skipN l)) (he : errA (one1 r) = some x) : Lb l (skipN l) x
  | tok {l r : List UInt8} {a : Ans} {i : Nat} {x : ByteArray × Int} (h : ¬ skipN l = l.length) (hr : r = l.drop (skipN l)) (ha : a = one1 r) (he : errA a = none) (k : Lb (r.drop a.used) i x) : Lb l (skipN l + a.used + i) x
theorem skip_lt {l : List UInt8} (h : ¬ skipN l = l.length) : skipN l < l.length := by
  have := skip_le l.length l (Nat.le_refl _)
  omega
theorem one1_used {r : List UInt8} (hr : 1 ≤ r.length) (he : errA (one1 r) = none) : 1 ≤ (one1 r).used ∧ (one1 r).used ≤ r.length := by
  cases r with
  | nil => simp at hr
  | cons c t => exact one_used (err_none he)
theorem lx_scan {l : List UInt8} : ∀ (k i : Nat) (acc : List Tk), i ≤ l.length → l.length + 1 ≤ i + k →
    (∃ ts, Lx (decide (0 < acc.length)) (l.drop i) ts ∧ scanF l k i acc = .ok (acc ++ ts)) ∨ (∃ j x, Lb (l.drop i) j x ∧ scanF l k i acc = .bad (i + j) x.1 x.2)
  | 0, i, acc, hi, hk => by omega
  | k + 1, i, acc, hi, hk => by
    by_cases h : i + skipN (l.drop i) = l.length
    · exact .inl ⟨[], .done (by rw [List.length_drop]; omega), by rw [scan_done h, List.append_nil]⟩
    · have hne : ¬ skipN (l.drop i) = (l.drop i).length := by rw [List.length_drop]; omega
      have hdd : l.drop (i + skipN (l.drop i)) = (l.drop i).drop (skipN (l.drop i)) := by rw [List.drop_drop]
      cases he : errA (oneC (firstC (l.drop (i + skipN (l.drop i)))) (l.drop (i + skipN (l.drop i)))) with
      | some x =>
        refine .inr ⟨_, x, .bad hne rfl (by rw [← hdd]; exact he), ?_⟩
        rw [scan_bad h he]
      | none =>
        have hu := scan_used hi h he
        have e1 : one1 ((l.drop i).drop (skipN (l.drop i))) = oneC (firstC (l.drop (i + skipN (l.drop i)))) (l.drop (i + skipN (l.drop i))) := by rw [← hdd]; rfl
        have hd2 : ∀ u : Nat, l.drop (i + skipN (l.drop i) + u) = ((l.drop i).drop (skipN (l.drop i))).drop u := fun u => by rw [List.drop_drop, List.drop_drop]; congr 1; omega
        rcases lx_scan k _ (acc ++ [⟨oneC (firstC (l.drop (i + skipN (l.drop i)))) (l.drop (i + skipN (l.drop i))), decide (skipN (l.drop i) = 0) && decide (0 < acc.length)⟩]) hu.2 (by omega) with ⟨ts, h1, h2⟩ | ⟨j, x, h1, h2⟩
        · refine .inl ⟨_ :: ts, .tok hne rfl e1.symm he ?_, ?_⟩
          · rw [hd2] at h1
            have hb : decide (0 < (acc ++ [(⟨oneC (firstC (l.drop (i + skipN (l.drop i)))) (l.drop (i + skipN (l.drop i))), decide (skipN (l.drop i) = 0) && decide (0 < acc.length)⟩ : Tk)]).length) = true := by simp
            rw [hb] at h1
            exact h1
          · rw [scan_more h he, h2, List.append_assoc]
            rfl
        · refine .inr ⟨_, x, .tok hne rfl e1.symm he (by rw [hd2] at h1; exact h1), ?_⟩
          rw [scan_more h he, h2]
          congr 1
          omega
theorem lx_det {b : Bool} {l : List UInt8} {ts : List Tk} (h : Lx b l ts) : ∀ {ts' : List Tk}, Lx b l ts' → ts = ts' := by
  induction h with
  | done h =>
    intro ts' h'
    cases h' with
    | done => rfl
    | tok h2 => exact absurd h h2
  | tok h hr ha he k ih =>
    intro ts' h'
    cases h' with
    | done h2 => exact absurd h2 h
    | tok h2 hr2 ha2 he2 k2 =>
      subst hr hr2 ha ha2
      rw [ih k2]
theorem lx_lb {b : Bool} {l : List UInt8} {ts : List Tk} (h : Lx b l ts) : ∀ {j : Nat} {x : ByteArray × Int}, ¬ Lb l j x := by
  induction h with
  | done h =>
    intro j x h'
    cases h' with
    | bad h2 => exact h2 h
    | tok h2 => exact h2 h
  | tok h hr ha he k ih =>
    intro j x h'
    cases h' with
    | bad h2 hr2 he2 =>
      subst hr hr2 ha
      rw [he] at he2
      cases he2
    | tok h2 hr2 ha2 he2 k2 =>
      subst hr hr2 ha ha2
      exact ih k2
theorem lb_det {l : List UInt8} {i : Nat} {x : ByteArray × Int} (h : Lb l i x) : ∀ {j : Nat} {y : ByteArray × Int}, Lb l j y → i = j ∧ x = y := by
  induction h with
  | bad h hr he =>
    intro j y h'
    cases h' with
    | bad h2 hr2 he2 =>
      subst hr hr2
      rw [he] at he2
      exact ⟨rfl, Option.some.inj he2⟩
    | tok h2 hr2 ha2 he2 k2 =>
      subst hr hr2 ha2
      rw [he] at he2
      cases he2
  | tok h hr ha he k ih =>
    intro j y h'
    cases h' with
    | bad h2 hr2 he2 =>
      subst hr hr2 ha
      rw [he] at he2
      cases he2
    | tok h2 hr2 ha2 he2 k2 =>
      subst hr hr2 ha ha2
      obtain ⟨rfl, rfl⟩ := ih k2
      exact ⟨rfl, rfl⟩
theorem scan_or {l : List UInt8} (hl : l.length ≤ 4096) : (∃ ts, Lx false l ts ∧ scanA l = .ok ts) ∨ (∃ j x, Lb l j x ∧ scanA l = .bad j x.1 x.2) := by
  have h := lx_scan (l := l) (l.length + 1) 0 [] (Nat.zero_le _) (by omega)
  unfold scanA
  rw [if_neg (by omega)]
  rcases h with ⟨ts, h1, h2⟩ | ⟨j, x, h1, h2⟩
  · exact .inl ⟨ts, h1, h2⟩
  · exact .inr ⟨j, x, h1, by rw [h2, Nat.zero_add]⟩
theorem scan_ok {l : List UInt8} (hl : l.length ≤ 4096) {ts : List Tk} (h : Lx false l ts) : scanA l = .ok ts := by
  rcases scan_or hl with ⟨ts', h1, h2⟩ | ⟨j, x, h1, _⟩
  · rw [h2, lx_det h h1]
  · exact absurd h1 (lx_lb h)
theorem scan_no {l : List UInt8} (hl : l.length ≤ 4096) {j : Nat} {x : ByteArray × Int} (h : Lb l j x) : scanA l = .bad j x.1 x.2 := by
  rcases scan_or hl with ⟨ts', h1, _⟩ | ⟨j', x', h1, h2⟩
  · exact absurd h (lx_lb h1)
  · obtain ⟨rfl, rfl⟩ := lb_det h h1
    exact h2
/-! what stands behind a line's end plays no part -/
theorem run_app {p : UInt8 → Bool} (h : p 10 = false) : ∀ (u t : List UInt8), runB p (u ++ 10 :: t) = runB p u
  | [], t => by rw [List.nil_append, runB_no h, runB_nil]
  | c :: u, t => by
    rw [List.cons_append]
    cases hc : p c with
    | true => rw [runB_yes hc, runB_yes hc, run_app h u t]
    | false => rw [runB_no hc, runB_no hc]
theorem run_same {p : UInt8 → Bool} (h : p 10 = false) (u t : List UInt8) : runB p (u ++ 10 :: t) = runB p (u ++ [10]) := by rw [run_app h, run_app h]
theorem skip_join : ∀ (n : Nat) (u : List UInt8), u.length ≤ n → (skipN (u ++ [10]) = u.length + 1 ∧ ∀ t, skipN (u ++ 10 :: t) = u.length + 1 + skipN t) ∨ (skipN (u ++ [10]) < u.length ∧ ∀ t, skipN (u ++ 10 :: t) = skipN (u ++ [10]))
  | _, [], _ => by
    have e : ∀ t, skipN (10 :: t) = 1 + skipN t := fun t => by rw [skip_cons]; rfl
    refine .inl ⟨?_, fun t => ?_⟩
    · rw [List.nil_append, e, skip_nil]; rfl
    · rw [List.nil_append, e]; simp
  | 0, _ :: _, h => by simp at h
  | n + 1, c :: u, h => by
    have hu : u.length ≤ n := by simpa using h
    have e : ∀ t, skipN ((c :: u) ++ 10 :: t) = if c = 37 then (if runB lineB u = (u ++ 10 :: t).length then (u ++ 10 :: t).length + 1 else runB lineB u + 2 + skipN ((u ++ 10 :: t).drop (runB lineB u + 1))) else if blankB c = true then 1 + skipN (u ++ 10 :: t) else 0 := fun t => by
      rw [List.cons_append, skip_cons, run_app (by rfl)]
    have hm := runB_le lineB u
    by_cases hc : c = 37
    · have hne : ∀ t : List UInt8, ¬ runB lineB u = (u ++ 10 :: t).length := fun t => by rw [List.length_append, List.length_cons]; omega
      have e2 : ∀ t, skipN ((c :: u) ++ 10 :: t) = runB lineB u + 2 + skipN ((u ++ 10 :: t).drop (runB lineB u + 1)) := fun t => by rw [e, if_pos hc, if_neg (hne t)]
      by_cases hl : runB lineB u = u.length
      · have ed : ∀ t : List UInt8, (u ++ 10 :: t).drop (runB lineB u + 1) = t := fun t => by
          rw [hl, List.drop_append, List.drop_eq_nil_of_le (by omega), List.nil_append]
          have : u.length + 1 - u.length = 1 := by omega
          rw [this]; rfl
        refine .inl ⟨?_, fun t => ?_⟩
        · rw [e2, ed, skip_nil, List.length_cons]; omega
        · rw [e2, ed, List.length_cons]; omega
      · have ed : ∀ t : List UInt8, (u ++ 10 :: t).drop (runB lineB u + 1) = u.drop (runB lineB u + 1) ++ 10 :: t := fun t => List.drop_append_of_le_length (by omega)
        have hl2 : (u.drop (runB lineB u + 1)).length = u.length - (runB lineB u + 1) := List.length_drop
        rcases skip_join n (u.drop (runB lineB u + 1)) (by omega) with ⟨h1, h2⟩ | ⟨h1, h2⟩
        · refine .inl ⟨?_, fun t => ?_⟩
          · rw [e2, ed, h1, List.length_cons]; omega
          · rw [e2, ed, h2, List.length_cons]; omega
        · refine .inr ⟨?_, fun t => ?_⟩
          · rw [e2, ed, List.length_cons]; omega
          · rw [e2, e2, ed, ed, h2]
    · cases hb : blankB c with
      | true =>
        have e2 : ∀ t, skipN ((c :: u) ++ 10 :: t) = 1 + skipN (u ++ 10 :: t) := fun t => by rw [e, if_neg hc, if_pos hb]
        rcases skip_join n u hu with ⟨h1, h2⟩ | ⟨h1, h2⟩
        · refine .inl ⟨?_, fun t => ?_⟩
          · rw [e2, h1, List.length_cons]; omega
          · rw [e2, h2, List.length_cons]; omega
        · refine .inr ⟨?_, fun t => ?_⟩
          · rw [e2, List.length_cons]; omega
          · rw [e2, e2, h2]
      | false =>
        have e2 : ∀ t, skipN ((c :: u) ++ 10 :: t) = 0 := fun t => by rw [e, if_neg hc, hb]; rfl
        exact .inr ⟨by rw [e2]; simp, fun t => by rw [e2, e2]⟩
theorem get_join (u t : List UInt8) {j : Nat} (h : j ≤ u.length) : (u ++ 10 :: t)[j]? = (u ++ [10])[j]? := by
  rcases Nat.lt_or_eq_of_le h with h1 | h1
  · rw [List.getElem?_append_left h1, List.getElem?_append_left h1]
  · subst h1
    rw [List.getElem?_append_right (Nat.le_refl _), List.getElem?_append_right (Nat.le_refl _), Nat.sub_self]
    rfl
theorem quo_join : ∀ (n : Nat) (u t out : List UInt8) (k : Nat), u.length ≤ n → quoL (u ++ 10 :: t) out k = quoL (u ++ [10]) out k ∧ ((quoL (u ++ [10]) out k).err = none → (quoL (u ++ [10]) out k).used ≤ k + u.length)
  | _, [], t, out, k, _ => by
    have e : ∀ t, quoL (10 :: t) out k = .bad q2 4 := fun t => by
      cases t with
      | nil => rw [quoL]; rfl
      | cons d t => rw [quoL]; rfl
    rw [List.nil_append, List.nil_append, e, e]
    exact ⟨rfl, fun h => by cases h⟩
  | 0, _ :: _, _, _, _, h => by simp at h
  | n + 1, [c], t, out, k, h => by
    have e : ∀ t, quoL ([c] ++ 10 :: t) out k = if c = 39 then .tok 1 ⟨out.toArray⟩ 0 true (k + 1) else if c = 92 then .bad q1 4 else if (c.toNat : Int) < 32 then .bad q2 4 else quoL (10 :: t) (out ++ [c]) (k + 1) := fun t => by
      rw [List.cons_append, List.nil_append, quoL]
      rfl
    have ih := quo_join n [] t (out ++ [c]) (k + 1) (Nat.zero_le _)
    rw [List.nil_append, List.nil_append] at ih
    rw [e, e, ih.1]
    refine ⟨rfl, ?_⟩
    split
    · intro _
      show k + 1 ≤ _
      simp
    · split
      · intro h; cases h
      · split
        · intro h; cases h
        · intro h
          have := ih.2 h
          simp only [List.length_nil, List.length_cons] at this ⊢
          omega
  | n + 1, c :: d :: u, t, out, k, h => by
    have hl : u.length + 1 ≤ n := by simpa using h
    have e : ∀ t, quoL ((c :: d :: u) ++ 10 :: t) out k = if c = 39 then (if d = 39 then quoL (u ++ 10 :: t) (out ++ [39]) (k + 2) else .tok 1 ⟨out.toArray⟩ 0 true (k + 1))
      else if c = 92 then (match esc d with | some x => quoL (u ++ 10 :: t) (out ++ [x]) (k + 2) | none => .bad q1 4)
      else if (c.toNat : Int) < 32 then .bad q2 4 else quoL ((d :: u) ++ 10 :: t) (out ++ [c]) (k + 1) := fun t => by
      rw [List.cons_append, List.cons_append, quoL]
      rfl
    have i1 := quo_join n u t (out ++ [39]) (k + 2) (by omega)
    have i2 := fun x => quo_join n u t (out ++ [x]) (k + 2) (by omega)
    have i3 := quo_join n (d :: u) t (out ++ [c]) (k + 1) (by simpa using hl)
    rw [e, e, i1.1, i3.1]
    simp only [List.length_cons] at i3 ⊢
    split
    · split
      · exact ⟨rfl, fun h => by have := i1.2 h; omega⟩
      · exact ⟨rfl, fun _ => by show k + 1 ≤ _; omega⟩
    · split
      · cases hx : esc d with
        | none => exact ⟨rfl, fun h => by cases h⟩
        | some x =>
          refine ⟨(i2 x).1, fun h => ?_⟩
          have := (i2 x).2 h
          show (quoL (u ++ [10]) (out ++ [x]) (k + 2)).used ≤ _
          omega
      · split
        · exact ⟨rfl, fun h => by cases h⟩
        · exact ⟨rfl, fun h => by have := i3.2 h; omega⟩
theorem first_join (k : Int) (u t : List UInt8) {n : Nat} (h : n ≤ u.length) : firstT k (u ++ 10 :: t) n = firstT k (u ++ [10]) n := by
  unfold firstT
  rw [List.take_append_of_le_length h, List.take_append_of_le_length h]
theorem dot_join (u t : List UInt8) {n : Nat} (h : n ≤ u.length) : dottedB (u ++ 10 :: t) n = dottedB (u ++ [10]) n := by
  unfold dottedB
  rw [get_join u t h]
  rcases Nat.lt_or_eq_of_le h with h1 | h1
  · rw [get_join u t h1]
    congr 2
    refine decide_eq_decide.2 ?_
    simp only [List.length_append, List.length_cons, List.length_nil]
    omega
  · subst h1
    have : (u ++ [10])[u.length]? = some 10 := by rw [List.getElem?_append_right (Nat.le_refl _), Nat.sub_self]; rfl
    rw [this]
    simp [dotB]
theorem num_join (u t : List UInt8) : numA (u ++ 10 :: t) = numA (u ++ [10]) ∧ ((numA (u ++ [10])).err = none → (numA (u ++ [10])).used ≤ u.length) := by
  have h1 : ∀ t, runB digitB (u ++ 10 :: t) = runB digitB u := run_app (by rfl) u
  have hl := runB_le digitB u
  have h2 : ∀ t, figs (u ++ 10 :: t) = u.take (runB digitB u) := fun t => by
    unfold figs
    rw [h1, List.take_append_of_le_length hl]
  unfold numA
  rw [h1, h1, h2, h2, dot_join u t hl]
  refine ⟨rfl, ?_⟩
  split
  · intro h; cases h
  · split
    · intro h; cases h
    · intro _; exact hl
theorem ends_join (u t : List UInt8) (hu : 1 ≤ u.length) : endsB (u ++ 10 :: t) = endsB (u ++ [10]) := by
  unfold endsB
  rw [get_join u t hu]
  cases u with
  | nil => simp at hu
  | cons c u =>
    have e1 : ∀ t : List UInt8, (((((c :: u) ++ 10 :: t).length : Nat) : Int) == 1) = false := fun t => by
      rw [beq_eq_false_iff_ne]
      simp only [List.length_append, List.length_cons]
      omega
    rw [e1, e1]
    rfl
theorem one_join (c : UInt8) (u t : List UInt8) : one1 ((c :: u) ++ 10 :: t) = one1 ((c :: u) ++ [10]) ∧ (errA (one1 ((c :: u) ++ [10])) = none → (one1 ((c :: u) ++ [10])).used ≤ (c :: u).length) := by
  have r1 := run_same (p := letterB) (by rfl) (c :: u) t
  have r2 := run_same (p := signB) (by rfl) (c :: u) t
  have l1 : runB letterB ((c :: u) ++ [10]) ≤ (c :: u).length := by rw [run_app (by rfl)]; exact runB_le _ _
  have l2 : runB signB ((c :: u) ++ [10]) ≤ (c :: u).length := by rw [run_app (by rfl)]; exact runB_le _ _
  have l3 : 1 ≤ (c :: u).length := by simp
  have nj := num_join (c :: u) t
  have ej := ends_join (c :: u) t l3
  have qj : quoA ((c :: u) ++ 10 :: t) = quoA ((c :: u) ++ [10]) ∧ ((quoA ((c :: u) ++ [10])).err = none → (quoA ((c :: u) ++ [10])).used ≤ (c :: u).length) := by
    have := quo_join u.length u t [] 1 (Nat.le_refl _)
    refine ⟨this.1, fun h => ?_⟩
    have h2 := this.2 h
    rw [List.length_cons, Nat.add_comm]
    exact h2
  refine ⟨?_, fun he => ?_⟩
  · show oneC c _ = oneC c _
    unfold oneC
    rw [r1, r2, first_join 1 _ t l1, first_join 2 _ t l1, nj.1, qj.1, first_join 4 _ t l3, first_join 1 _ t l3, first_join 5 _ t l3, first_join 1 _ t l2, ej]
  · have he := err_none he
    revert he
    show (oneC c _).err = none → (oneC c _).used ≤ _
    unfold oneC
    split
    · intro _; exact l1
    split
    · intro _; exact l1
    split
    · exact nj.2
    split
    · exact qj.2
    split
    · intro _; exact l3
    split
    · intro _; exact l3
    split
    · intro _; exact l3
    split
    · intro _; exact l2
    · intro h; cases h
/-- a text up to a line's end: what remains behind a token is again one -/
theorem cut_at {u : List UInt8} (h : skipN (u ++ [10]) < u.length) : ∃ c v, u.drop (skipN (u ++ [10])) = c :: v ∧ ∀ t, (u ++ 10 :: t).drop (skipN (u ++ [10])) = (c :: v) ++ 10 :: t := by
  cases hd : u.drop (skipN (u ++ [10])) with
  | nil =>
    have := List.drop_eq_nil_iff.1 hd
    omega
  | cons c v => exact ⟨c, v, rfl, fun t => by rw [List.drop_append_of_le_length (Nat.le_of_lt h), hd]⟩
theorem lx_join : ∀ (n : Nat) (u t : List UInt8) (b : Bool) (ts ts' : List Tk), u.length ≤ n → Lx b (u ++ [10]) ts → Lx false t ts' → Lx b (u ++ 10 :: t) (ts ++ ts')
  | n, u, t, b, ts, ts', hn, h1, h2 => by
    have hlen : ∀ t : List UInt8, (u ++ 10 :: t).length = u.length + 1 + t.length := fun t => by rw [List.length_append, List.length_cons]; omega
    rcases skip_join u.length u (Nat.le_refl _) with ⟨e1, e2⟩ | ⟨e1, e2⟩
    · cases h1 with
      | tok h => exact absurd (by rw [e1, hlen]; rfl) h
      | done h =>
        rw [List.nil_append]
        cases h2 with
        | done h3 => exact .done (by rw [e2, hlen, h3])
        | tok h3 hr ha he k =>
          have e4 : (u ++ 10 :: t).drop (skipN (u ++ 10 :: t)) = t.drop (skipN t) := by
            rw [e2, List.drop_append, List.drop_eq_nil_of_le (by omega), List.nil_append]
            have : u.length + 1 + skipN t - u.length = skipN t + 1 := by omega
            rw [this]
            rfl
          have h5 : ¬ skipN (u ++ 10 :: t) = (u ++ 10 :: t).length := by rw [e2, hlen]; omega
          have e6 : (decide (skipN t = 0) && false) = (decide (skipN (u ++ 10 :: t) = 0) && b) := by
            rw [e2, Bool.and_false, decide_eq_false (by omega), Bool.false_and]
          rw [e6]
          exact .tok h5 (by rw [e4]; exact hr) ha he k
    · obtain ⟨c, v, hv, hcut⟩ := cut_at e1
      have hlv : (c :: v).length = u.length - skipN (u ++ [10]) := by rw [← hv, List.length_drop]
      cases h1 with
      | done h => rw [hlen] at h; simp only [List.length_nil] at h; omega
      | @tok _ _ r a ts0 h hr ha he k =>
        rw [hcut []] at hr
        have oj := one_join c v t
        subst hr
        have hu : a.used ≤ (c :: v).length := by rw [ha] at he ⊢; exact oj.2 he
        have hu1 : 1 ≤ a.used := by rw [ha] at he ⊢; exact (one1_used (by simp) he).1
        have hd : ∀ t : List UInt8, ((c :: v) ++ 10 :: t).drop a.used = (c :: v).drop a.used ++ 10 :: t := fun t => List.drop_append_of_le_length hu
        rw [hd] at k
        have hlt : ((c :: v).drop a.used).length < u.length := by rw [List.length_drop]; omega
        match n, hn with
        | 0, hn => omega
        | n + 1, hn =>
          have ih := lx_join n ((c :: v).drop a.used) t true ts0 ts' (by omega) k h2
          rw [← hd] at ih
          have e6 : decide (skipN (u ++ [10]) = 0) = decide (skipN (u ++ 10 :: t) = 0) := by rw [e2 t]
          rw [List.cons_append, e6]
          refine .tok (by rw [e2, hlen]; omega) rfl ?_ he (by rw [e2, hcut t]; exact ih)
          rw [e2, hcut t, oj.1, ha]
theorem lb_join : ∀ (n : Nat) (u t : List UInt8) (j : Nat) (x : ByteArray × Int), u.length ≤ n → Lb (u ++ [10]) j x → Lb (u ++ 10 :: t) j x
  | n, u, t, j, x, hn, h1 => by
    have hlen : ∀ t : List UInt8, (u ++ 10 :: t).length = u.length + 1 + t.length := fun t => by rw [List.length_append, List.length_cons]; omega
    rcases skip_join u.length u (Nat.le_refl _) with ⟨e1, e2⟩ | ⟨e1, e2⟩
    · have : skipN (u ++ [10]) = (u ++ [10]).length := by rw [e1, hlen]; rfl
      cases h1 with
      | bad h => exact absurd this h
      | tok h => exact absurd this h
    · obtain ⟨c, v, hv, hcut⟩ := cut_at e1
      have hlv : (c :: v).length = u.length - skipN (u ++ [10]) := by rw [← hv, List.length_drop]
      have oj := one_join c v t
      have hne : ¬ skipN (u ++ 10 :: t) = (u ++ 10 :: t).length := by rw [e2, hlen]; omega
      cases h1 with
      | bad h hr he =>
        rw [hcut []] at hr
        subst hr
        rw [← e2 t]
        exact .bad hne rfl (by rw [e2, hcut t, oj.1]; exact he)
      | @tok _ r a j0 _ h hr ha he k =>
        rw [hcut []] at hr
        subst hr
        have hu : a.used ≤ (c :: v).length := by rw [ha] at he ⊢; exact oj.2 he
        have hu1 : 1 ≤ a.used := by rw [ha] at he ⊢; exact (one1_used (by simp) he).1
        have hd : ∀ t : List UInt8, ((c :: v) ++ 10 :: t).drop a.used = (c :: v).drop a.used ++ 10 :: t := fun t => List.drop_append_of_le_length hu
        rw [hd] at k
        have hlt : ((c :: v).drop a.used).length < u.length := by rw [List.length_drop]; omega
        match n, hn with
        | 0, hn => omega
        | n + 1, hn =>
          have ih := lb_join n ((c :: v).drop a.used) t j0 x (by omega) k
          rw [← hd] at ih
          rw [← e2 t]
          refine .tok hne rfl ?_ he (by rw [e2, hcut t]; exact ih)
          rw [e2, hcut t, oj.1, ha]
theorem lb_join2 : ∀ (n : Nat) (u t : List UInt8) (b : Bool) (ts : List Tk) (j : Nat) (x : ByteArray × Int), u.length ≤ n → Lx b (u ++ [10]) ts → Lb t j x → Lb (u ++ 10 :: t) (u.length + 1 + j) x
  | n, u, t, b, ts, j, x, hn, h1, h2 => by
    have hlen : ∀ t : List UInt8, (u ++ 10 :: t).length = u.length + 1 + t.length := fun t => by rw [List.length_append, List.length_cons]; omega
    rcases skip_join u.length u (Nat.le_refl _) with ⟨e1, e2⟩ | ⟨e1, e2⟩
    · have e4 : (u ++ 10 :: t).drop (skipN (u ++ 10 :: t)) = t.drop (skipN t) := by
        rw [e2, List.drop_append, List.drop_eq_nil_of_le (by omega), List.nil_append]
        have : u.length + 1 + skipN t - u.length = skipN t + 1 := by omega
        rw [this]
        rfl
      cases h2 with
      | bad h hr he =>
        rw [← e2 t]
        exact .bad (by rw [e2, hlen]; omega) (e4.trans hr.symm).symm he
      | @tok _ r a j0 _ h hr ha he k =>
        have : u.length + 1 + (skipN t + a.used + j0) = skipN (u ++ 10 :: t) + a.used + j0 := by rw [e2]; omega
        rw [this]
        exact .tok (by rw [e2, hlen]; omega) (e4.trans hr.symm).symm ha he k
    · obtain ⟨c, v, hv, hcut⟩ := cut_at e1
      have hlv : (c :: v).length = u.length - skipN (u ++ [10]) := by rw [← hv, List.length_drop]
      cases h1 with
      | done h => rw [hlen] at h; simp only [List.length_nil] at h; omega
      | @tok _ _ r a ts0 h hr ha he k =>
        rw [hcut []] at hr
        have oj := one_join c v t
        subst hr
        have hu : a.used ≤ (c :: v).length := by rw [ha] at he ⊢; exact oj.2 he
        have hu1 : 1 ≤ a.used := by rw [ha] at he ⊢; exact (one1_used (by simp) he).1
        have hd : ∀ t : List UInt8, ((c :: v) ++ 10 :: t).drop a.used = (c :: v).drop a.used ++ 10 :: t := fun t => List.drop_append_of_le_length hu
        rw [hd] at k
        have hlt : ((c :: v).drop a.used).length = u.length - skipN (u ++ [10]) - a.used := by rw [List.length_drop, hlv]
        match n, hn with
        | 0, hn => omega
        | n + 1, hn =>
          have ih := lb_join2 n ((c :: v).drop a.used) t true ts0 j x (by omega) k h2
          rw [← hd] at ih
          have e7 : u.length + 1 + j = skipN (u ++ 10 :: t) + a.used + (((c :: v).drop a.used).length + 1 + j) := by rw [e2, hlt]; omega
          rw [e7]
          refine .tok (by rw [e2, hlen]; omega) rfl ?_ he (by rw [e2, hcut t]; exact ih)
          rw [e2, hcut t, oj.1, ha]
/-! blanks ahead -/
def padB (p : List UInt8) : Prop := ∀ x, skipN (p ++ x) = p.length + skipN x
section
variable {p : List UInt8} (hp : padB p)
include hp
theorem pad_drop (x : List UInt8) : (p ++ x).drop (skipN (p ++ x)) = x.drop (skipN x) := by
  rw [hp, List.drop_append, List.drop_eq_nil_of_le (by omega), List.nil_append]
  congr 1
  omega
theorem pad_ne {x : List UInt8} (h : ¬ skipN x = x.length) : ¬ skipN (p ++ x) = (p ++ x).length := by
  rw [hp, List.length_append]
  omega
theorem lx_pad {x : List UInt8} {ts : List Tk} (h : Lx false x ts) : Lx false (p ++ x) ts := by
  cases h with
  | done h => exact .done (by rw [hp, h, List.length_append])
  | tok h hr ha he k =>
    have e : (decide (skipN x = 0) && false) = (decide (skipN (p ++ x) = 0) && false) := by rw [Bool.and_false, Bool.and_false]
    rw [e]
    exact .tok (pad_ne hp h) (by rw [pad_drop hp]; exact hr) ha he k
theorem lb_pad {x : List UInt8} {j : Nat} {y : ByteArray × Int} (h : Lb x j y) : Lb (p ++ x) (p.length + j) y := by
  cases h with
  | bad h hr he =>
    rw [← hp]
    exact .bad (pad_ne hp h) (by rw [pad_drop hp]; exact hr) he
  | @tok _ r a j0 _ h hr ha he k =>
    have : p.length + (skipN x + a.used + j0) = skipN (p ++ x) + a.used + j0 := by rw [hp]; omega
    rw [this]
    exact .tok (pad_ne hp h) (by rw [pad_drop hp]; exact hr) ha he k
end
theorem lx_pad0 {p : List UInt8} (hp : padB p) (b : Bool) : Lx b p [] := .done (by have := hp []; rw [List.append_nil, skip_nil] at this; exact this)
/-! what tokens are -/
structure Fair (t : Tk) : Prop where
  kind : 1 ≤ t.a.kind ∧ t.a.kind ≤ 5
  num : ¬ t.a.kind = 3 → t.a.num = 0
  str : t.a.kind = 3 → t.a.str = ⟨#[]⟩
  quo : t.a.quo = true → t.a.kind = 1
  size : t.a.str.size ≤ 64
  used : t.a.quo = false → t.a.str.size ≤ t.a.used
theorem err_size {a : Ans} (h : errA a = none) : a.str.size ≤ 64 := by
  unfold errA at h
  split at h
  · cases h
  · rename_i h2
    have h3 : ¬ 64 < a.str.size := fun h4 => h2 ⟨h, h4⟩
    omega
theorem first_fair {k : Int} {l : List UInt8} {n : Nat} (hk : 1 ≤ k ∧ k ≤ 5) (h3 : ¬ k = 3) (tg : Bool) (he : errA (firstT k l n) = none) : Fair ⟨firstT k l n, tg⟩ where
  kind := hk
  num := fun _ => rfl
  str := fun h => absurd h h3
  quo := fun h => by cases h
  size := err_size he
  used := fun _ => by
    show (l.take n).length ≤ n
    rw [List.length_take]
    omega
theorem quo_fair : ∀ (m : Nat) (r out : List UInt8) (k : Nat), r.length ≤ m → (quoL r out k).err = none → (quoL r out k).kind = 1 ∧ (quoL r out k).num = 0 ∧ (quoL r out k).quo = true
  | _, [], _, _, _, h => by rw [quoL] at h; cases h
  | 0, _ :: _, _, _, h, _ => by simp at h
  | m + 1, [c], out, k, _, h => by
    rw [quoL] at h ⊢
    split at h
    · rename_i h1; rw [if_pos h1]; exact ⟨rfl, rfl, rfl⟩
    · split at h
      · cases h
      · split at h <;> cases h
  | m + 1, c :: d :: t, out, k, hl, h => by
    have hl2 : t.length + 1 ≤ m := by simpa using hl
    rw [quoL] at h ⊢
    by_cases h39 : c = 39
    · rw [if_pos h39] at h ⊢
      by_cases hd : d = 39
      · rw [if_pos hd] at h ⊢
        exact quo_fair m t _ _ (by omega) h
      · rw [if_neg hd]
        exact ⟨rfl, rfl, rfl⟩
    · rw [if_neg h39] at h ⊢
      by_cases h92 : c = 92
      · rw [if_pos h92] at h ⊢
        cases hx : esc d with
        | none => rw [hx] at h; cases h
        | some x =>
          rw [hx] at h
          exact quo_fair m t _ _ (by omega) h
      · rw [if_neg h92] at h ⊢
        by_cases hlow : (c.toNat : Int) < 32
        · rw [if_pos hlow] at h; cases h
        · rw [if_neg hlow] at h ⊢
          exact quo_fair m (d :: t) _ _ (by simpa using hl2) h
theorem one_fair (r : List UInt8) (tg : Bool) (he : errA (one1 r) = none) : Fair ⟨one1 r, tg⟩ := by
  revert he
  show errA (oneC (firstC r) r) = none → Fair ⟨oneC (firstC r) r, tg⟩
  unfold oneC
  split
  · exact first_fair (by decide) (by decide) tg
  split
  · exact first_fair (by decide) (by decide) tg
  split
  · intro he
    have h1 := err_none he
    unfold numA at h1 ⊢
    split at h1
    · cases h1
    rename_i hd
    rw [if_neg hd]
    split at h1
    · cases h1
    rename_i hb
    rw [if_neg hb]
    exact ⟨(by show (1 : Int) ≤ 3 ∧ (3 : Int) ≤ 5; decide), fun h => absurd rfl h, fun _ => rfl, (fun h => by cases h), (by show 0 ≤ 64; omega), fun _ => Nat.zero_le _⟩
  split
  · intro he
    have h1 := quo_fair (r.drop 1).length (r.drop 1) [] 1 (Nat.le_refl _) (err_none he)
    refine ⟨?_, fun _ => h1.2.1, fun h => ?_, fun _ => h1.1, err_size he, fun h => ?_⟩
    · show 1 ≤ (quoL (r.drop 1) [] 1).kind ∧ (quoL (r.drop 1) [] 1).kind ≤ 5
      rw [h1.1]; decide
    · have h : (quoL (r.drop 1) [] 1).kind = 3 := h
      rw [h1.1] at h
      cases h
    · have h : (quoL (r.drop 1) [] 1).quo = false := h
      rw [h1.2.2] at h
      cases h
  split
  · exact first_fair (by decide) (by decide) tg
  split
  · exact first_fair (by decide) (by decide) tg
  split
  · exact first_fair (by decide) (by decide) tg
  split
  · exact first_fair (by decide) (by decide) tg
  · intro h; cases h
def sumT (ts : List Tk) : Nat := (ts.map fun t => if t.a.quo = true then 0 else t.a.str.size).sum
theorem lx_fair {b : Bool} {l : List UInt8} {ts : List Tk} (h : Lx b l ts) : (∀ t ∈ ts, Fair t) ∧ sumT ts ≤ l.length ∧ ts.length ≤ l.length ∧ (b = false → ∀ t, ts[0]? = some t → t.tight = false) := by
  induction h with
  | done h => exact ⟨fun t ht => by simp at ht, Nat.zero_le _, Nat.zero_le _, fun _ t ht => by simp at ht⟩
  | @tok b l r a ts h hr ha he k ih =>
    subst hr
    have hlt := skip_lt h
    have hl : (l.drop (skipN l)).length = l.length - skipN l := List.length_drop
    have hf := one_fair (l.drop (skipN l)) (decide (skipN l = 0) && b) (by rw [← ha]; exact he)
    have hu := one1_used (r := l.drop (skipN l)) (by omega) (by rw [← ha]; exact he)
    rw [← ha] at hf hu
    obtain ⟨i1, i2, i3, _⟩ := ih
    have hl2 : ((l.drop (skipN l)).drop a.used).length = l.length - skipN l - a.used := by rw [List.length_drop, hl]
    refine ⟨fun t ht => ?_, ?_, ?_, fun hb t ht => ?_⟩
    · rcases List.mem_cons.1 ht with rfl | ht
      · exact hf
      · exact i1 t ht
    · unfold sumT at i2 ⊢
      rw [List.map_cons, List.sum_cons]
      have : (if a.quo = true then 0 else a.str.size) ≤ a.used := by
        split
        · omega
        · rename_i hq
          exact hf.used (by simpa using hq)
      show (if a.quo = true then 0 else a.str.size) + _ ≤ _
      omega
    · rw [List.length_cons]; omega
    · simp only [List.getElem?_cons_zero, Option.some.injEq] at ht
      subst ht
      show (decide (skipN l = 0) && b) = false
      rw [hb, Bool.and_false]
end Go.Proofs.YtdbeiaohibgmeaaGreatDoor.TokP
set_option linter.unusedVariables false
set_option linter.unusedSimpArgs false
namespace Go.Proofs.YtdbeiaohibgmeaaGreatDoor.TokP
open Go.RowKit Go.Proofs.YtdbeiaohibgmeaaGreatDoor.E Go.Proofs.YtdbeiaohibgmeaaGreatDoor.ReplP
def okB (c : UInt8) : Bool := decide (¬ (c.toNat : Int) < 32) || (c == 10)
def quoteL (l : List UInt8) (p : Bool) : List UInt8 := if p = true then l else [39] ++ repl l ++ [39]
theorem run_stop {p : UInt8 → Bool} {x : UInt8} (h : p x = false) : ∀ (u t : List UInt8), u.all p = true → runB p (u ++ x :: t) = u.length
  | [], t, _ => by rw [List.nil_append, runB_no h]; rfl
  | c :: u, t, hu => by
    rw [List.all_cons, Bool.and_eq_true] at hu
    rw [List.cons_append, runB_yes hu.1, run_stop h u t hu.2]
    rfl
theorem run_allN {p : UInt8 → Bool} : ∀ (u : List UInt8), u.all p = true → runB p u = u.length
  | [], _ => rfl
  | c :: u, hu => by
    rw [List.all_cons, Bool.and_eq_true] at hu
    rw [runB_yes hu.1, run_allN u hu.2]
    rfl
theorem skip_zero {c : UInt8} {t : List UInt8} (h1 : ¬ c = 37) (h2 : blankB c = false) : skipN (c :: t) = 0 := by rw [skip_cons, if_neg h1, h2]; rfl
theorem skip_sp : skipN [32] = 1 := by rw [skip_cons, skip_nil]; rfl
theorem quo_repl : ∀ (l out : List UInt8) (k : Nat), l.all okB = true → quoL (repl l ++ [39, 32]) out k = .tok 1 ⟨(out ++ l).toArray⟩ 0 true (k + (repl l).length + 1)
  | [], out, k, _ => by
    show quoL [39, 32] out k = _
    rw [quoL, if_pos rfl, if_neg (by decide), List.append_nil]
    rfl
  | c :: l, out, k, h => by
    rw [List.all_cons, Bool.and_eq_true] at h
    have e : repl (c :: l) = one c ++ repl l := by simp [repl]
    have ih := fun x k => quo_repl l (out ++ [x]) k h.2
    by_cases h10 : c = 10
    · subst h10
      have e1 : one 10 = [92, 110] := rfl
      rw [e, e1]
      show quoL (92 :: 110 :: (repl l ++ [39, 32])) out k = _
      rw [quoL, if_neg (by decide), if_pos rfl]
      show quoL (repl l ++ [39, 32]) (out ++ [10]) (k + 2) = _
      rw [ih, List.append_assoc]
      congr 1
      simp; omega
    · by_cases h92 : c = 92
      · subst h92
        have e1 : one 92 = [92, 92] := rfl
        rw [e, e1]
        show quoL (92 :: 92 :: (repl l ++ [39, 32])) out k = _
        rw [quoL, if_neg (by decide), if_pos rfl]
        show quoL (repl l ++ [39, 32]) (out ++ [92]) (k + 2) = _
        rw [ih, List.append_assoc]
        congr 1
        simp; omega
      · by_cases h39 : c = 39
        · subst h39
          have e1 : one 39 = [39, 39] := rfl
          rw [e, e1]
          show quoL (39 :: 39 :: (repl l ++ [39, 32])) out k = _
          rw [quoL, if_pos rfl, if_pos rfl, ih, List.append_assoc]
          congr 1
          simp; omega
        · have e1 : one c = [c] := one_no (by unfold isSp; simp [h10, h92, h39])
          have hlow : ¬ (c.toNat : Int) < 32 := by
            have := h.1
            unfold okB at this
            simpa [h10] using this
          obtain ⟨d, t, ht⟩ : ∃ d t, repl l ++ [39, 32] = d :: t := by
            cases repl l with
            | nil => exact ⟨_, _, rfl⟩
            | cons d t => exact ⟨_, _, rfl⟩
          rw [e, e1]
          show quoL (c :: (repl l ++ [39, 32])) out k = _
          rw [ht, quoL, if_neg h39, if_neg h92, if_neg hlow, ← ht, ih, List.append_assoc]
          congr 1
          simp; omega
theorem sign_kind : ∀ c : UInt8, signB c = true → smallB c = false ∧ bigB c = false ∧ digitB c = false ∧ ((c.toNat : Int) == 39) = false ∧ punctL.contains c = false ∧ (((c.toNat : Int) == 33) || ((c.toNat : Int) == 59)) = false ∧ blankB c = false ∧ ((c.toNat : Int) == 37) = false := by
  have h : ∀ c ∈ signL, smallB c = false ∧ bigB c = false ∧ digitB c = false ∧ ((c.toNat : Int) == 39) = false ∧ punctL.contains c = false ∧ (((c.toNat : Int) == 33) || ((c.toNat : Int) == 59)) = false ∧ blankB c = false ∧ ((c.toNat : Int) == 37) = false := by decide
  intro c hc
  unfold signB at hc
  rw [List.contains_eq_mem, decide_eq_true_iff] at hc
  exact h c hc
theorem small_kind {c : UInt8} (h : smallB c = true) : ¬ c = 37 ∧ blankB c = false := by
  unfold smallB at h
  rw [Bool.and_eq_true, decide_eq_true_iff, decide_eq_true_iff] at h
  have ne : ∀ k : Int, k < 97 → ((c.toNat : Int) == k) = false := fun k hk => by rw [beq_eq_false_iff_ne]; omega
  refine ⟨fun h9 => ?_, ?_⟩
  · rw [h9] at h
    exact absurd h.1 (by decide)
  · unfold blankB
    rw [ne 9 (by omega), ne 10 (by omega), ne 13 (by omega), ne 32 (by omega)]
    rfl
theorem digit_kind {c : UInt8} (h : digitB c = true) : ¬ c = 37 ∧ blankB c = false ∧ smallB c = false ∧ bigB c = false := by
  unfold digitB at h
  rw [Bool.and_eq_true, decide_eq_true_iff, decide_eq_true_iff] at h
  have ne : ∀ k : Int, k < 48 → ((c.toNat : Int) == k) = false := fun k hk => by rw [beq_eq_false_iff_ne]; omega
  refine ⟨fun h9 => ?_, ?_, ?_, ?_⟩
  · rw [h9] at h
    exact absurd h.1 (by decide)
  · unfold blankB
    rw [ne 9 (by omega), ne 10 (by omega), ne 13 (by omega), ne 32 (by omega)]
    rfl
  · unfold smallB
    rw [decide_eq_false (by omega)]
    rfl
  · unfold bigB
    rw [decide_eq_false (by omega), Bool.false_and, Bool.false_or, beq_eq_false_iff_ne]
    omega
theorem lx_one {c : UInt8} {t : List UInt8} {a : Ans} (h1 : ¬ c = 37) (h2 : blankB c = false) (ha : one1 (c :: t) = a) (he : errA a = none) (hd : skipN ((c :: t).drop a.used) = ((c :: t).drop a.used).length) (b : Bool) : Lx b (c :: t) [⟨a, b⟩] := by
  have hz := skip_zero (t := t) h1 h2
  have := Lx.tok (b := b) (l := c :: t) (r := c :: t) (a := a) (ts := []) (by rw [hz]; simp) (by rw [hz]; rfl) ha.symm he (.done hd)
  have e : (decide (skipN (c :: t) = 0) && b) = b := by rw [hz]; rfl
  rw [e] at this
  exact this
theorem drop_sp (l : List UInt8) : (l ++ [32]).drop l.length = [32] := by rw [List.drop_append_of_le_length (Nat.le_refl _), List.drop_length]; rfl
theorem back_plain {c : UInt8} {t : List UInt8} (h1 : ¬ c = 37) (h2 : blankB c = false) (hl : (c :: t).length ≤ 64) (ha : one1 (c :: t ++ [32]) = firstT 1 (c :: t ++ [32]) (c :: t).length) (b : Bool) :
    ∃ a, Lx b (c :: t ++ [32]) [⟨a, b⟩] ∧ a.kind = 1 ∧ a.str = ⟨(c :: t).toArray⟩ ∧ a.quo = false := by
  have e : firstT 1 (c :: t ++ [32]) (c :: t).length = .tok 1 ⟨(c :: t).toArray⟩ 0 false (c :: t).length := by
    unfold firstT
    rw [List.take_left]
  rw [e] at ha
  refine ⟨_, lx_one h1 h2 ha ?_ ?_ b, rfl, rfl, rfl⟩
  · unfold errA
    rw [if_neg]
    · rfl
    · rintro ⟨_, h9⟩
      have h9 : 64 < (c :: t).length := h9
      omega
  · show skipN ((c :: t ++ [32] : List UInt8).drop (c :: t).length) = ((c :: t ++ [32] : List UInt8).drop (c :: t).length).length
    rw [drop_sp, skip_sp]
    rfl
theorem back_all {l : List UInt8} (hok : l.all okB = true) (hne : ¬ l = [91, 93]) (hl : l.length ≤ 64) (b : Bool) : ∃ a, Lx b (quoteL l (plainB l) ++ [32]) [⟨a, b⟩] ∧ a.kind = 1 ∧ a.str = ⟨l.toArray⟩ ∧ a.quo = !plainB l := by
  cases hp : plainB l with
  | false =>
    have hr : quoteL l false ++ [32] = 39 :: (repl l ++ [39, 32]) := by unfold quoteL; simp
    have ha : one1 (39 :: (repl l ++ [39, 32])) = .tok 1 ⟨l.toArray⟩ 0 true (1 + (repl l).length + 1) := by
      show quoL (repl l ++ [39, 32]) [] 1 = _
      rw [quo_repl l [] 1 hok, List.nil_append]
    rw [hr]
    have hdr : (39 :: (repl l ++ [39, 32])).drop (1 + (repl l).length + 1) = [32] := by
      rw [show 1 + (repl l).length + 1 = ((repl l).length + 1) + 1 by omega, List.drop_succ_cons, show repl l ++ [39, 32] = repl l ++ [39] ++ [32] by simp]
      rw [List.drop_append_of_le_length (by simp), List.drop_eq_nil_of_le (by simp)]
      rfl
    refine ⟨_, lx_one (by decide) (by decide) ha ?_ ?_ b, rfl, rfl, rfl⟩
    · unfold errA
      rw [if_neg]
      · rfl
      · rintro ⟨_, h9⟩
        have h9 : 64 < l.length := h9
        omega
    · show skipN ((39 :: (repl l ++ [39, 32])).drop (1 + (repl l).length + 1)) = ((39 :: (repl l ++ [39, 32])).drop (1 + (repl l).length + 1)).length
      rw [hdr, skip_sp]
      rfl
  | true =>
    have hr : quoteL l true = l := if_pos rfl
    rw [hr]
    have h1 : (l == [] || l == [46]) = false := by
      cases h : (l == [] || l == [46]) with
      | false => rfl
      | true => unfold plainB at hp; rw [if_pos h] at hp; cases hp
    rw [Bool.or_eq_false_iff, beq_eq_false_iff_ne, beq_eq_false_iff_ne] at h1
    obtain ⟨c, t, rfl⟩ := List.exists_cons_of_ne_nil h1.1
    by_cases h33 : c :: t = [33]
    · rw [h33] at hl ⊢
      exact back_plain (by decide) (by decide) hl (by rfl) b
    by_cases h59 : c :: t = [59]
    · rw [h59] at hl ⊢
      exact back_plain (by decide) (by decide) hl (by rfl) b
    have hp2 := plain_end (l := c :: t) (by simp) (by rw [beq_eq_false_iff_ne]; exact h1.2) (by rw [beq_eq_false_iff_ne]; exact hne) (by rw [beq_eq_false_iff_ne]; exact h33) (by rw [beq_eq_false_iff_ne]; exact h59)
    rw [hp] at hp2
    rcases (Bool.or_eq_true _ _).mp hp2.symm with h | h
    · rw [Bool.and_eq_true] at h
      have hs : smallB c = true := h.1
      have hk := small_kind hs
      refine back_plain hk.1 hk.2 hl ?_ b
      show oneC c (c :: t ++ [32]) = _
      unfold oneC
      rw [if_pos hs, run_stop (by rfl) (c :: t) [] h.2]
    · have hc : signB c = true := by
        rw [List.all_cons, Bool.and_eq_true] at h
        exact h.1
      obtain ⟨k1, k2, k3, k4, k5, k6, k7, k8⟩ := sign_kind c hc
      refine back_plain (fun h9 => by rw [h9] at k8; exact absurd k8 (by decide)) k7 hl ?_ b
      have hend : endsB (c :: t ++ [32]) = false := by
        unfold endsB
        cases t with
        | nil =>
          have : ¬ c = 46 := fun h9 => h1.2 (by rw [h9])
          have : pointB ([c] ++ [32]) = false := by
            show (c == 46) = false
            rw [beq_eq_false_iff_ne]
            exact this
          rw [this]
          rfl
        | cons d t =>
          have hd : signB d = true := by
            rw [List.all_cons, List.all_cons, Bool.and_eq_true, Bool.and_eq_true] at h
            exact h.2.1
          obtain ⟨_, _, _, _, _, _, d7, d8⟩ := sign_kind d hd
          have e1 : (((c :: d :: t ++ [32]).length : Int) == 1) = false := by
            rw [beq_eq_false_iff_ne]
            simp only [List.length_append, List.length_cons]
            omega
          have e2 : afterB (c :: d :: t ++ [32])[1]? = false := by
            show (blankB d || ((d.toNat : Int) == 37)) = false
            rw [d7, d8]
            rfl
          rw [e1, e2]
          simp
      show oneC c (c :: t ++ [32]) = _
      unfold oneC
      rw [k1, k2, k3, k4, k5, k6, hend, if_neg (by decide), if_neg (by decide), if_neg (by decide), if_neg (by decide), if_neg (by decide), if_neg (by decide), if_neg (by decide), if_pos hc, run_stop (by rfl) (c :: t) [] h]
/-! numbers -/
def figL (n : Nat) : List UInt8 := if n < 10 then [UInt8.ofNat (48 + n)] else figL (n / 10) ++ [UInt8.ofNat (48 + n % 10)]
termination_by n
decreasing_by omega
theorem fig_lt {n : Nat} (h : n < 10) : figL n = [UInt8.ofNat (48 + n)] := by rw [figL, if_pos h]
theorem fig_ge {n : Nat} (h : ¬ n < 10) : figL n = figL (n / 10) ++ [UInt8.ofNat (48 + n % 10)] := by rw [figL, if_neg h]
theorem fig_byte {n : Nat} (h : n < 10) : (UInt8.ofNat (48 + n)).toNat = 48 + n := by
  rw [UInt8.toNat_ofNat']
  omega
theorem fig_digit {n : Nat} (h : n < 10) : digitB (UInt8.ofNat (48 + n)) = true := by
  unfold digitB
  rw [fig_byte h, decide_eq_true (by omega), decide_eq_true (by omega)]
  rfl
theorem fig_all : ∀ (k n : Nat), n ≤ k → (figL n).all digitB = true ∧ valN (figL n) = n ∧ 1 ≤ (figL n).length
  | k, n, h => by
    by_cases hn : n < 10
    · rw [fig_lt hn]
      refine ⟨by rw [List.all_cons, fig_digit hn]; rfl, ?_, Nat.le_refl _⟩
      have := valN_snoc [] (UInt8.ofNat (48 + n))
      rw [List.nil_append, fig_byte hn] at this
      rw [this]
      show 10 * 0 + _ = n
      omega
    · match k, h with
      | 0, h => omega
      | k + 1, h =>
        have ih := fig_all k (n / 10) (by omega)
        rw [fig_ge hn]
        refine ⟨by rw [List.all_append, ih.1, List.all_cons, fig_digit (by omega)]; rfl, ?_, by rw [List.length_append]; simp⟩
        rw [valN_snoc, ih.2.1, fig_byte (by omega)]
        omega
theorem fig_len : ∀ (k n : Nat), n < 10 ^ (k + 1) → (figL n).length ≤ k + 1
  | k, n, h => by
    by_cases hn : n < 10
    · rw [fig_lt hn]; simp
    · match k, h with
      | 0, h => omega
      | k + 1, h =>
        rw [fig_ge hn, List.length_append]
        have := fig_len k (n / 10) (by rw [Nat.pow_succ] at h; omega)
        simp only [List.length_cons, List.length_nil]
        omega
theorem fig_cons (n : Nat) : ∃ c t, figL n = c :: t ∧ digitB c = true := by
  have h := fig_all n n (Nat.le_refl _)
  cases hf : figL n with
  | nil => rw [hf] at h; exact absurd h.2.2 (by decide)
  | cons c t =>
    rw [hf] at h
    rw [List.all_cons, Bool.and_eq_true] at h
    exact ⟨c, t, rfl, h.1.1⟩
theorem one_digit {c : UInt8} {t : List UInt8} (h : digitB c = true) : one1 (c :: t) = numA (c :: t) := by
  have hk := digit_kind h
  show oneC c (c :: t) = _
  unfold oneC
  rw [hk.2.2.1, hk.2.2.2, h]
  rfl
theorem num_fig (n : Nat) : numA (figL n) = if 9223372036854775808 < n then .bad w2 2 else .tok 3 ⟨#[]⟩ (IntKind.i64.wrap (n : Int)) false (figL n).length := by
  have h := fig_all n n (Nat.le_refl _)
  have hr : runB digitB (figL n) = (figL n).length := run_allN _ h.1
  have hf : figs (figL n) = figL n := by unfold figs; rw [hr, List.take_length]
  have hd : dottedB (figL n) (figL n).length = false := by
    unfold dottedB
    rw [decide_eq_false (by omega)]
    rfl
  unfold numA
  rw [hr, hd, hf, h.2.1]
  rfl
theorem num_dot (n m : Nat) : numA (figL n ++ 46 :: figL m) = .bad w1 4 := by
  have h := fig_all n n (Nat.le_refl _)
  have hr : runB digitB (figL n ++ 46 :: figL m) = (figL n).length := run_stop (by decide) _ _ h.1
  obtain ⟨c, t, hc, hd⟩ := fig_cons m
  have e : dottedB (figL n ++ 46 :: figL m) (figL n).length = true := by
    unfold dottedB
    have e1 : (figL n ++ 46 :: figL m)[(figL n).length]? = some 46 := by rw [List.getElem?_append_right (Nat.le_refl _), Nat.sub_self]; rfl
    have e2 : (figL n ++ 46 :: figL m)[(figL n).length + 1]? = some c := by
      rw [List.getElem?_append_right (by omega), show (figL n).length + 1 - (figL n).length = 1 by omega, hc]; rfl
    rw [e1, e2, decide_eq_true (by rw [hc]; simp only [List.length_append, List.length_cons]; omega)]
    show ((true && ((46 : Int) == 46)) && digitB c) = true
    rw [hd]
    rfl
  unfold numA
  rw [hr, if_pos e]
theorem lx_int {n : Nat} (h : ¬ 9223372036854775808 < n) : Lx false (32 :: figL n) [⟨.tok 3 ⟨#[]⟩ (IntKind.i64.wrap (n : Int)) false (figL n).length, false⟩] := by
  obtain ⟨c, t, hc, hd⟩ := fig_cons n
  have hk := digit_kind hd
  have hp : padB [32] := fun x => by rw [List.cons_append, skip_cons]; rfl
  have ha : one1 (c :: t) = .tok 3 ⟨#[]⟩ (IntKind.i64.wrap (n : Int)) false (figL n).length := by rw [one_digit hd, ← hc, num_fig, if_neg h]
  have h1 := lx_one (b := false) hk.1 hk.2.1 ha (by unfold errA; rw [if_neg (by rintro ⟨_, h9⟩; exact absurd h9 (by show ¬ 64 < 0; decide))]; rfl) (by
    show skipN ((c :: t).drop (figL n).length) = ((c :: t).drop (figL n).length).length
    rw [← hc, List.drop_length, skip_nil]
    rfl)
  rw [← hc] at h1
  exact lx_pad hp h1
theorem lb_int {n : Nat} (h : 9223372036854775808 < n) : Lb (32 :: figL n) 1 (w2, 2) := by
  obtain ⟨c, t, hc, hd⟩ := fig_cons n
  have hk := digit_kind hd
  have hp : padB [32] := fun x => by rw [List.cons_append, skip_cons]; rfl
  have hz := skip_zero (t := t) hk.1 hk.2.1
  have h1 : Lb (figL n) (skipN (figL n)) (w2, 2) := by
    refine .bad (r := figL n) ?_ ?_ ?_
    · rw [hc, hz]; simp
    · rw [hc, hz]; rfl
    · rw [hc, one_digit hd, ← hc, num_fig, if_pos h]; rfl
  rw [hc, hz] at h1
  have h2 := lb_pad hp h1
  rw [← hc] at h2
  exact h2
theorem lb_dot (n m : Nat) : Lb (figL n ++ 46 :: figL m) 0 (w1, 4) := by
  obtain ⟨c, t, hc, hd⟩ := fig_cons n
  have hk := digit_kind hd
  have hz := skip_zero (t := t ++ 46 :: figL m) hk.1 hk.2.1
  have h1 : Lb (figL n ++ 46 :: figL m) (skipN (figL n ++ 46 :: figL m)) (w1, 4) := by
    refine .bad (r := figL n ++ 46 :: figL m) ?_ ?_ ?_
    · rw [hc, List.cons_append, hz]; simp
    · rw [hc, List.cons_append, hz]; rfl
    · rw [hc, List.cons_append, one_digit hd, ← List.cons_append, ← hc, num_dot]; rfl
  have hz2 : skipN (figL n ++ 46 :: figL m) = 0 := by rw [hc, List.cons_append, hz]
  rw [hz2] at h1
  exact h1
end Go.Proofs.YtdbeiaohibgmeaaGreatDoor.TokP
set_option linter.unusedVariables false
set_option linter.unusedSimpArgs false
namespace Go.Proofs.YtdbeiaohibgmeaaGreatDoor.TokP
open Go.RowKit Go.Proofs.YtdbeiaohibgmeaaGreatDoor.E Go.Proofs.YtdbeiaohibgmeaaGreatDoor.ReplP
def scTs : Sc → List Tk
  | .ok ts => ts
  | .bad _ _ _ => []
def scE : Sc → Option (ByteArray × Int)
  | .ok _ => none
  | .bad _ w e => some (w, e)
def scAt : Sc → Nat
  | .ok _ => 0
  | .bad i _ _ => i
theorem sc_ok {r : Sc} (h : scE r = none) : r = .ok (scTs r) := by
  cases r with
  | ok ts => rfl
  | bad i w e => cases h
theorem sc_no {r : Sc} (h : ¬ scE r = none) : scTs r = [] := by
  cases r with
  | ok ts => exact absurd rfl h
  | bad i w e => rfl
theorem ba_cat (a b : ByteArray) : (a ++ b).data.toList = a.data.toList ++ b.data.toList := by simp
theorem sc_lx {l : List UInt8} (hl : l.length ≤ 4096) (h : scE (scanA l) = none) : Lx false l (scTs (scanA l)) := by
  rcases scan_or hl with ⟨ts, h1, h2⟩ | ⟨j, x, _, h2⟩
  · rw [h2]
    exact h1
  · rw [h2] at h
    cases h
theorem sc_lb {l : List UInt8} (hl : l.length ≤ 4096) (h : ¬ scE (scanA l) = none) : ∃ x, scE (scanA l) = some x ∧ Lb l (scAt (scanA l)) x := by
  rcases scan_or hl with ⟨ts, _, h2⟩ | ⟨j, x, h1, h2⟩
  · rw [h2] at h
    exact absurd rfl h
  · exact ⟨x, by rw [h2]; rfl, by rw [h2]; exact h1⟩
theorem sc_lb2 {l : List UInt8} (hl : l.length ≤ 4096) {j : Nat} {x : ByteArray × Int} (h : Lb l j x) : scE (scanA l) = some x ∧ scAt (scanA l) = j := by
  rw [scan_no hl h]
  exact ⟨rfl, rfl⟩
theorem join_len1 {s t : List UInt8} (hs : s.length ≤ 2000) (_ht : t.length ≤ 2000) : (s ++ [10]).length ≤ 4096 := by rw [List.length_append, List.length_cons, List.length_nil]; omega
section
variable {s t : List UInt8} (hs : s.length ≤ 2000) (ht : t.length ≤ 2000)
include hs ht
theorem join_len : (s ++ 10 :: t).length ≤ 4096 := by rw [List.length_append, List.length_cons]; omega
theorem join_ok (h1 : scE (scanA (s ++ [10])) = none) (h2 : scE (scanA t) = none) : scanA (s ++ 10 :: t) = .ok (scTs (scanA (s ++ [10])) ++ scTs (scanA t)) :=
  scan_ok (join_len hs ht) (lx_join s.length s t false _ _ (Nat.le_refl _) (sc_lx (join_len1 hs ht) h1) (sc_lx (by omega) h2))
theorem join_bad1 (h1 : ¬ scE (scanA (s ++ [10])) = none) : scE (scanA (s ++ 10 :: t)) = scE (scanA (s ++ [10])) ∧ scAt (scanA (s ++ 10 :: t)) = scAt (scanA (s ++ [10])) := by
  obtain ⟨x, hx, hb⟩ := sc_lb (join_len1 hs ht) h1
  have h := sc_lb2 (join_len hs ht) (lb_join s.length s t _ x (Nat.le_refl _) hb)
  exact ⟨h.1.trans hx.symm, h.2⟩
theorem join_bad (h : ¬ (scE (scanA (s ++ [10])) = none ∧ scE (scanA t) = none)) : ¬ scE (scanA (s ++ 10 :: t)) = none := by
  by_cases h1 : scE (scanA (s ++ [10])) = none
  · obtain ⟨x, hx, hb⟩ := sc_lb (l := t) (by omega) (fun h2 => h ⟨h1, h2⟩)
    have h := sc_lb2 (join_len hs ht) (lb_join2 s.length s t false _ _ x (Nat.le_refl _) (sc_lx (join_len1 hs ht) h1) hb)
    rw [h.1]
    simp
  · rw [(join_bad1 hs ht h1).1]
    exact h1
end
/-! remarks and blanks -/
theorem skip_note {note : List UInt8} (h : note.all lineB = true) (x : List UInt8) : skipN (37 :: (note ++ 10 :: x)) = note.length + 2 + skipN x := by
  have hr : runB lineB (note ++ 10 :: x) = note.length := run_stop (by rfl) note x h
  rw [skip_cons, if_pos rfl, hr, if_neg (by rw [List.length_append, List.length_cons]; omega)]
  rw [List.drop_append, List.drop_eq_nil_of_le (by omega), List.nil_append, show note.length + 1 - note.length = 1 by omega]
  rfl
theorem skip_note0 {note : List UInt8} (h : note.all lineB = true) : skipN (37 :: note) = (37 :: note).length := by
  rw [skip_cons, if_pos rfl, run_allN note h, if_pos rfl]
  rfl
theorem skip_note1 {note : List UInt8} (h : note.all lineB = true) : skipN (37 :: (note ++ [10])) = (37 :: (note ++ [10])).length := by
  rw [skip_note h, skip_nil]
  simp
theorem scan_none {l : List UInt8} (hl : l.length ≤ 4096) (h : skipN l = l.length) : scanA l = .ok [] := scan_ok hl (.done h)
theorem line_all {note : List UInt8} (h : note.contains 10 = false) : note.all lineB = true := by
  rw [List.all_eq_true]
  intro c hc
  unfold lineB
  have hne : ¬ c = 10 := fun h9 => by
    rw [h9] at hc
    rw [List.contains_eq_mem, decide_eq_false_iff_not] at h
    exact h hc
  have : ¬ (c.toNat : Int) = 10 := fun h9 => hne (UInt8.toNat_inj.1 (by show c.toNat = 10; omega))
  simp [this]
theorem pad_sp {c : UInt8} (h1 : ¬ c = 37) (h2 : blankB c = true) {p : List UInt8} (hp : padB p) : padB (c :: p) := fun x => by
  rw [List.cons_append, skip_cons, if_neg h1, if_pos h2, hp, List.length_cons]
  omega
theorem pad_nil : padB [] := fun x => by simp
theorem pad_note {note p : List UInt8} (h : note.all lineB = true) (hp : padB p) : padB (37 :: (note ++ 10 :: p)) := fun x => by
  rw [List.cons_append, List.append_assoc, List.cons_append, skip_note h, hp]
  simp only [List.length_cons, List.length_append]
  omega
def padsL : List (List UInt8) := [[32], [9, 10], [37, 32, 97, 32, 39, 98, 10], [32, 37, 37, 10, 13]]
theorem pads_all : ∀ p ∈ padsL, padB p ∧ p.length ≤ 7 := by
  intro p hp
  simp only [padsL, List.mem_cons, List.not_mem_nil, or_false] at hp
  rcases hp with rfl | rfl | rfl | rfl
  · exact ⟨pad_sp (by decide) (by decide) pad_nil, by decide⟩
  · exact ⟨pad_sp (by decide) (by decide) (pad_sp (by decide) (by decide) pad_nil), by decide⟩
  · exact ⟨pad_note (note := [32, 97, 32, 39, 98]) (by decide) pad_nil, by decide⟩
  · exact ⟨pad_sp (by decide) (by decide) (pad_note (note := [37]) (by decide) (pad_sp (by decide) (by decide) pad_nil)), by decide⟩
theorem pad_skip {p : List UInt8} (hp : padB p) : skipN p = p.length := by
  have := hp []
  rwa [List.append_nil, skip_nil] at this
theorem blank_len {s p : List UInt8} (hs : s.length ≤ 2000) (_hp : padB p) (hl : p.length ≤ 7) : (p ++ (s ++ 10 :: p)).length ≤ 4096 := by simp only [List.length_append, List.length_cons]; omega
section
variable {s p : List UInt8} (hs : s.length ≤ 2000) (hp : padB p) (hl : p.length ≤ 7)
include hs hp hl
theorem blank_ok (h : scE (scanA (s ++ [10])) = none) : scanA (p ++ (s ++ 10 :: p)) = .ok (scTs (scanA (s ++ [10]))) := by
  have h1 := sc_lx (l := s ++ [10]) (by simp only [List.length_append, List.length_cons, List.length_nil]; omega) h
  have h2 := lx_join s.length s p false _ _ (Nat.le_refl _) h1 (lx_pad0 hp false)
  rw [List.append_nil] at h2
  exact scan_ok (blank_len hs hp hl) (lx_pad hp h2)
theorem blank_bad (h : ¬ scE (scanA (s ++ [10])) = none) : scE (scanA (p ++ (s ++ 10 :: p))) = scE (scanA (s ++ [10])) ∧ scAt (scanA (p ++ (s ++ 10 :: p))) = scAt (scanA (s ++ [10])) + p.length := by
  obtain ⟨x, hx, hb⟩ := sc_lb (l := s ++ [10]) (by simp only [List.length_append, List.length_cons, List.length_nil]; omega) h
  have h2 := sc_lb2 (blank_len hs hp hl) (lb_pad hp (lb_join s.length s p _ x (Nat.le_refl _) hb))
  exact ⟨h2.1.trans hx.symm, by rw [h2.2]; omega⟩
end
/-! what tokens are -/
theorem scan_fair {l : List UInt8} (h : scE (scanA l) = none) : (∀ t ∈ scTs (scanA l), Fair t) ∧ sumT (scTs (scanA l)) ≤ l.length ∧ (scTs (scanA l)).length ≤ l.length ∧ (∀ t, (scTs (scanA l))[0]? = some t → t.tight = false) ∧ l.length ≤ 4096 := by
  have hl : l.length ≤ 4096 := by
    apply Decidable.byContradiction
    intro h9
    unfold scanA at h
    rw [if_pos (by omega)] at h
    cases h
  have h1 := lx_fair (sc_lx hl h)
  exact ⟨h1.1, h1.2.1, h1.2.2.1, h1.2.2.2 rfl, hl⟩
theorem sum_succ {ts : List Tk} {i : Nat} {t : Tk} (h : ts[i]? = some t) : sumT (ts.take (i + 1)) = sumT (ts.take i) + (if t.a.quo = true then 0 else t.a.str.size) := by
  unfold sumT
  rw [List.take_add_one, h, List.map_append, List.sum_append]
  simp
theorem sum_le (ts : List Tk) (i : Nat) : sumT (ts.take i) ≤ sumT ts := by
  have h1 : sumT ts = sumT (ts.take i) + sumT (ts.drop i) := by
    conv => lhs; rw [← List.take_append_drop i ts]
    unfold sumT
    rw [List.map_append, List.sum_append]
  omega
theorem lb_at {l : List UInt8} {i : Nat} {x : ByteArray × Int} (h : Lb l i x) : i ≤ l.length := by
  induction h with
  | bad h hr he => exact Nat.le_of_lt (skip_lt h)
  | @tok l r a i x h hr ha he k ih =>
    subst hr
    have h1 := skip_lt h
    have hl : (l.drop (skipN l)).length = l.length - skipN l := List.length_drop
    have hu := one1_used (r := l.drop (skipN l)) (by omega) (by rw [← ha]; exact he)
    rw [← ha] at hu
    rw [List.length_drop, hl] at ih
    omega
def mayB (l : List UInt8) : Bool := l.all okB && decide ((l.length : Int) ≤ 64)
end Go.Proofs.YtdbeiaohibgmeaaGreatDoor.TokP
set_option linter.unusedVariables false
set_option linter.unusedSimpArgs false
namespace Go.Proofs.YtdbeiaohibgmeaaGreatDoor
open Go.RowKit Go.Proofs.YtdbeiaohibgmeaaGreatDoor.E Go.Proofs.YtdbeiaohibgmeaaGreatDoor.ReplP Go.Proofs.YtdbeiaohibgmeaaGreatDoor.TokP
theorem scan2_c (s : ByteArray) (h : Hp) : CX Tryz.prog 6 [.string s] h (fun x : Option Addr × Nat => .tuple #[.slice x.1 (scTs (scanA s.data.toList)).length x.2, .int .i64 ((scAt (scanA s.data.toList) : Nat) : Int), errV 51 (scE (scanA s.data.toList))]) (fun x h' => RowsAt h' x.1 5 ((scTs (scanA s.data.toList)).map tkC) ∧ (scTs (scanA s.data.toList)).length ≤ x.2) := fun w hs => (scan_c s h w hs).mono fun e w' ⟨x, h', he, hx, hg⟩ => by
  cases hr : scanA s.data.toList with
  | ok ts =>
    rw [hr] at he hx
    exact ⟨x, h', he, hx, hg⟩
  | bad i a b =>
    rw [hr] at he
    exact ⟨(none, 0), h', he, ⟨fun j c hj => by simp [scTs] at hj, Nat.le_refl _⟩, hg⟩
theorem scan3_c (s : ByteArray) (l : List UInt8) (hl : s.data.toList = l) (h : Hp) : CX Tryz.prog 6 [.string s] h (fun x : Option Addr × Nat => .tuple #[.slice x.1 (scTs (scanA l)).length x.2, .int .i64 ((scAt (scanA l) : Nat) : Int), errV 51 (scE (scanA l))]) (fun x h' => RowsAt h' x.1 5 ((scTs (scanA l)).map tkC) ∧ (scTs (scanA l)).length ≤ x.2) := by
  subst hl
  exact scan2_c s h
set_option maxRecDepth 100000 in
theorem same_c (ts : List Tk) (A B : Option Addr) (cA cB : Nat) (tg : Bool) (h : Hp) (hA : RowsAt h A 5 (ts.map tkC)) (hB : RowsAt h B 5 (ts.map tkC)) (hz : ts.length ≤ 140737488355328) : C0 Tryz.prog 8 [.slice A ts.length cA, .slice B ts.length cB, .bool tg] h (.bool true) := by
  refine enter0 Tryz.func8 rfl rfl rfl (fun w => ?_)
  refine cy_seq ?_
  refine cy_region ?_
  refine sy_assign rfl rfl rfl ?_
  refine sy_nil rfl ?_
  refine ny_next ?_
  refine cy_seq ?_
  refine cy_seq ?_
  refine cy_region ?_
  refine sy_move rfl rfl rfl ?_
  refine sy_len rfl (len_slice Tryz.underlying24 _ _ _) rfl rfl ?_
  refine sy_move rfl rfl rfl ?_
  refine sy_len rfl (len_slice Tryz.underlying24 _ _ _) rfl rfl ?_
  refine sy_cmp rfl rfl rfl rfl rfl ?_
  refine sy_setF (d := 12) rfl rfl (by first | rfl | (simp; done)) ?_
  refine sy_nil rfl ?_
  refine ny_next ?_
  refine cy_condF rfl ?_
  refine cy_skip ?_
  refine ny_next ?_
  refine cy_seq ?_
  refine cy_seq ?_
  refine cy_region ?_
  refine sy_assign rfl rfl rfl ?_
  refine sy_nil rfl ?_
  refine ny_next ?_
  refine cy_block ?_
  refine cy_loopK (ι := Nat) [0, 1, 2] rfl (fun i => i ≤ ts.length) (fun i => ts.length - i) (fun i => [(7, .int .i64 (i : Int))]) (fun i => h) (fun i => []) 0 [] (Nat.zero_le _) ⟨rfl, trivial⟩ rfl rfl ?_
  rintro i hI
  refine cy_seq ?_
  refine cy_seq ?_
  refine cy_region ?_
  refine sy_move rfl rfl rfl ?_
  refine sy_move rfl rfl rfl ?_
  refine sy_len rfl (len_slice Tryz.underlying24 _ _ _) rfl rfl ?_
  refine sy_cmp rfl rfl rfl rfl rfl ?_
  refine sy_nil rfl ?_
  refine ny_next ?_
  refine cy_cond rfl (fun hc16 => ?_) (fun hc16 => ?_)
  · have hlti : i < ts.length := by have := of_decide_eq_true hc16; omega
    refine cy_skip ?_
    refine ny_next ?_
    refine cy_seq ?_
    refine cy_block ?_
    refine cy_seq ?_
    refine cy_regionQ mixed (by kernel_rfl) ?_
    refine sy_move rfl rfl rfl ?_
    refine sy_move rfl rfl rfl ?_
    refine sy_idxR (fc := tkC) (es := ts) els_24 rfl rfl hA rfl (by omega) rfl rfl (fun e21 b21 o21 he21 hA21 hc21 => ?_)
    refine sy_field fld_36_0 rfl rfl rfl ?_
    refine sy_ldh one_3 rfl (hc21 0 _ rfl) rfl rfl ?_
    refine sy_move rfl rfl rfl ?_
    refine sy_move rfl rfl rfl ?_
    refine sy_idxR (fc := tkC) (es := ts) els_24 rfl rfl hB rfl (by omega) rfl rfl (fun e26 b26 o26 he26 hA26 hc26 => ?_)
    obtain rfl : e21 = e26 := Option.some.inj (he21.symm.trans he26)
    refine sy_field fld_36_0 rfl rfl rfl ?_
    refine sy_ldh one_3 rfl (hc26 0 _ rfl) rfl rfl ?_
    refine sy_cmp rfl rfl rfl rfl rfl ?_
    refine sy_move rfl rfl rfl ?_
    refine sy_setF (d := 30) rfl rfl (by first | rfl | (simp; done)) ?_
    refine sy_move rfl rfl rfl ?_
    refine sy_move rfl rfl rfl ?_
    refine sy_idxR (fc := tkC) (es := ts) els_24 rfl rfl hA rfl (by omega) rfl rfl (fun e33 b33 o33 he33 hA33 hc33 => ?_)
    refine sy_field fld_36_1 rfl rfl rfl ?_
    refine sy_ldh one_9 rfl (hc33 1 _ rfl) rfl rfl ?_
    refine sy_move rfl rfl rfl ?_
    refine sy_move rfl rfl rfl ?_
    refine sy_idxR (fc := tkC) (es := ts) els_24 rfl rfl hB rfl (by omega) rfl rfl (fun e38 b38 o38 he38 hA38 hc38 => ?_)
    obtain rfl : e33 = e38 := Option.some.inj (he33.symm.trans he38)
    refine sy_field fld_36_1 rfl rfl rfl ?_
    refine sy_ldh one_9 rfl (hc38 1 _ rfl) rfl rfl ?_
    refine sy_nes rfl rfl rfl rfl ?_
    refine sy_pickF rfl rfl rfl rfl ?_
    refine sy_move rfl rfl rfl ?_
    refine sy_setF (d := 43) rfl rfl (by first | rfl | (simp; done)) ?_
    refine sy_move rfl rfl rfl ?_
    refine sy_move rfl rfl rfl ?_
    refine sy_idxR (fc := tkC) (es := ts) els_24 rfl rfl hA rfl (by omega) rfl rfl (fun e46 b46 o46 he46 hA46 hc46 => ?_)
    refine sy_field fld_36_2 rfl rfl rfl ?_
    refine sy_ldh one_2 rfl (hc46 2 _ rfl) rfl rfl ?_
    refine sy_move rfl rfl rfl ?_
    refine sy_move rfl rfl rfl ?_
    refine sy_idxR (fc := tkC) (es := ts) els_24 rfl rfl hB rfl (by omega) rfl rfl (fun e51 b51 o51 he51 hA51 hc51 => ?_)
    obtain rfl : e46 = e51 := Option.some.inj (he46.symm.trans he51)
    refine sy_field fld_36_2 rfl rfl rfl ?_
    refine sy_ldh one_2 rfl (hc51 2 _ rfl) rfl rfl ?_
    refine sy_cmp rfl rfl rfl rfl rfl ?_
    refine sy_pickF rfl rfl rfl rfl ?_
    refine sy_move rfl rfl rfl ?_
    refine sy_setF (d := 56) rfl rfl (by first | rfl | (simp; done)) ?_
    refine sy_move rfl rfl rfl ?_
    refine sy_move rfl rfl rfl ?_
    refine sy_idxR (fc := tkC) (es := ts) els_24 rfl rfl hA rfl (by omega) rfl rfl (fun e59 b59 o59 he59 hA59 hc59 => ?_)
    refine sy_field fld_36_3 rfl rfl rfl ?_
    refine sy_ldh one_4 rfl (hc59 3 _ rfl) rfl rfl ?_
    refine sy_move rfl rfl rfl ?_
    refine sy_move rfl rfl rfl ?_
    refine sy_idxR (fc := tkC) (es := ts) els_24 rfl rfl hB rfl (by omega) rfl rfl (fun e64 b64 o64 he64 hA64 hc64 => ?_)
    obtain rfl : e59 = e64 := Option.some.inj (he59.symm.trans he64)
    refine sy_field fld_36_3 rfl rfl rfl ?_
    refine sy_ldh one_4 rfl (hc64 3 _ rfl) rfl rfl ?_
    refine sy_neb Tryz.underlying4 rfl rfl rfl rfl ?_
    refine sy_pickF rfl rfl rfl rfl ?_
    refine sy_move rfl rfl rfl ?_
    refine sy_setF (d := 69) rfl rfl (by first | rfl | (simp; done)) ?_
    refine sy_move rfl rfl rfl ?_
    refine sy_move rfl rfl rfl ?_
    refine sy_cond (d := 71) _ rfl rfl (fun hg71 => ?_) (fun hg71 => ?_)
    · refine sy_move rfl rfl rfl ?_
      refine sy_move rfl rfl rfl ?_
      refine sy_idxR (fc := tkC) (es := ts) els_24 rfl rfl hA rfl (by omega) rfl rfl (fun e74 b74 o74 he74 hA74 hc74 => ?_)
      refine sy_field fld_36_4 rfl rfl rfl ?_
      refine sy_ldh one_4 rfl (hc74 4 _ rfl) rfl rfl ?_
      refine sy_move rfl rfl rfl ?_
      refine sy_move rfl rfl rfl ?_
      refine sy_idxR (fc := tkC) (es := ts) els_24 rfl rfl hB rfl (by omega) rfl rfl (fun e79 b79 o79 he79 hA79 hc79 => ?_)
      obtain rfl : e74 = e79 := Option.some.inj (he74.symm.trans he79)
      refine sy_field fld_36_4 rfl rfl rfl ?_
      refine sy_ldh one_4 rfl (hc79 4 _ rfl) rfl rfl ?_
      refine sy_neb Tryz.underlying4 rfl rfl rfl rfl ?_
      refine sy_pickT rfl rfl rfl rfl ?_
      refine sy_pickF rfl rfl rfl rfl ?_
      refine sy_setF (d := 84) rfl rfl (by first | rfl | (simp; done)) ?_
      refine sy_nil rfl ?_
      refine ny_next ?_
      refine cy_condF rfl ?_
      refine cy_skip ?_
      refine ny_blockN ?_
      refine ny_next ?_
      refine cy_region ?_
      refine sy_move rfl rfl rfl ?_
      refine sy_addi (z := ((i + 1 : Nat) : Int)) rfl rfl (by omega) (by omega) (by omega) rfl rfl ?_
      refine sy_assign rfl rfl rfl ?_
      refine sy_nil rfl ?_
      refine ny_roundK [0, 1, 2] (i + 1) [] (show i + 1 ≤ ts.length by omega) (show ts.length - (i + 1) < ts.length - i by omega) rfl ⟨rfl, trivial⟩ rfl rfl
    · refine sy_skip rfl rfl rfl ?_
      refine sy_skip rfl rfl rfl ?_
      refine sy_skip rfl rfl rfl ?_
      refine sy_skip rfl rfl rfl ?_
      refine sy_skip rfl rfl rfl ?_
      refine sy_skip rfl rfl rfl ?_
      refine sy_skip rfl rfl rfl ?_
      refine sy_skip rfl rfl rfl ?_
      refine sy_skip rfl rfl rfl ?_
      refine sy_skip rfl rfl rfl ?_
      refine sy_skip rfl rfl rfl ?_
      refine sy_pickF rfl rfl rfl rfl ?_
      refine sy_pickF rfl rfl rfl rfl ?_
      refine sy_setF (d := 84) rfl rfl (by first | rfl | (simp; done)) ?_
      refine sy_nil rfl ?_
      refine ny_next ?_
      refine cy_condF rfl ?_
      refine cy_skip ?_
      refine ny_blockN ?_
      refine ny_next ?_
      refine cy_region ?_
      refine sy_move rfl rfl rfl ?_
      refine sy_addi (z := ((i + 1 : Nat) : Int)) rfl rfl (by omega) (by omega) (by omega) rfl rfl ?_
      refine sy_assign rfl rfl rfl ?_
      refine sy_nil rfl ?_
      refine ny_roundK [0, 1, 2] (i + 1) [] (show i + 1 ≤ ts.length by omega) (show ts.length - (i + 1) < ts.length - i by omega) rfl ⟨rfl, trivial⟩ rfl rfl
  · refine cy_exit ?_
    refine ny_thenE ?_
    refine ny_thenE ?_
    refine ny_blockX ?_
    refine ny_next ?_
    refine cy_seq ?_
    refine cy_region ?_
    refine sy_assign rfl rfl rfl ?_
    refine sy_nil rfl ?_
    refine ny_next ?_
    refine cy_ret ?_
    refine ny_finR (res1 rfl rfl) (fun w hs => ⟨?_, hs.frm⟩)
    rfl
theorem same_c2 (ts : List Tk) (A B : Option Addr) (n1 n2 cA cB : Nat) (tg : Bool) (h : Hp) (hA : RowsAt h A 5 (ts.map tkC)) (hB : RowsAt h B 5 (ts.map tkC)) (h1 : n1 = ts.length) (h2 : n2 = ts.length) (hz : ts.length ≤ 140737488355328) : C0 Tryz.prog 8 [.slice A n1 cA, .slice B n2 cB, .bool tg] h (.bool true) := by
  subst h1 h2
  exact same_c ts A B cA cB tg h hA hB hz
end Go.Proofs.YtdbeiaohibgmeaaGreatDoor
set_option linter.unusedVariables false
namespace Go.Proofs.YtdbeiaohibgmeaaGreatDoor
open Go.RowKit Go.Proofs.YtdbeiaohibgmeaaGreatDoor.E
theorem agg_62 : aggB Tryz.prog 62 3 = true := by kernel_rfl
theorem call_14 : callB Tryz.prog 14 = true := by kernel_rfl
theorem call_15 : callB Tryz.prog 15 = true := by kernel_rfl
theorem call_32 : callB Tryz.prog 32 = true := by kernel_rfl
theorem call_36 : callB Tryz.prog 36 = true := by kernel_rfl
theorem fld_51_1 : fldB Tryz.prog 51 1 1 = true := by kernel_rfl
theorem one_29 : oneB Tryz.prog 29 = true := by kernel_rfl
theorem one_56 : oneB Tryz.prog 56 = true := by kernel_rfl
theorem sz_62 : szB Tryz.prog 62 3 = true := by kernel_rfl
theorem zer_29 : zerL Tryz.prog 29 = some [.int .i64 0] := by kernel_rfl
theorem zer_62 : zerL Tryz.prog 62 = some [.pointer none, .pointer none, .int .u64 0] := by kernel_rfl
end Go.Proofs.YtdbeiaohibgmeaaGreatDoor
set_option linter.unusedVariables false
set_option linter.unusedSimpArgs false
namespace Go.Proofs.YtdbeiaohibgmeaaGreatDoor.E
open Go.RowKit
theorem met_run {P : Program} {F t : Nat} {v recv r : Value} {name : String} {vs : Array Value} {w : World} (hm : (method (P.types.size + Made.depth) t v name).run P w = .ok (F, recv) w) (hr : (callFunc F (#[recv] ++ vs)).run P w = .ok (.value r) w) :
    (callMethod (.iface t v) name vs).run P w = .ok (.value r) w := by
  have hp : Sem.run P program w = .ok P w := rfl
  simp only [callMethod, Sem.run_bind, hp, Result.andThen_ok, hm, hr]
section
variable {m : Md} {P : Program} {ops : Array Oper} {Q : Exit → Act → World → Prop} {n : Nat} {D : List Deferred} {w0 : World} {M : List Nat} {h0 : Hp}
variable {f : Tab} {h : Hp} {H : List Res} {rest : List Oper} {o : Oper}
variable {d t s : Nat} {p : String} {af : Array Edge} {g : Option (Nat × Bool)} {F : Nat} {args : Array Operand} {tys : Array TypeId} {vs : List Value}
theorem sy_assert {x : Operand} {vx v : Value} {xT aT : TypeId} {ok : Bool} (hx : f.ev x = some vx) (hr : ∀ w, (Instr.typeAssert vx xT aT ok).run P w = .ok v w) (hw : gok ops f g = some true) (hn : Nat.blt d n = true)
    (k : Sy m P ops Q n D w0 M h0 rest ((d, v) :: f) h H) : Sy m P ops Q n D w0 M h0 (⟨some d, .typeAssert x xT aT ok, t, p, af, g⟩ :: rest) f h H :=
  sy_val hw rfl hn (fun a w ha _ => by simp [execOp, ha.ev hx, hr]) k
theorem sy_eqif {x y : Operand} {tx ty s2 : Nat} {vx vy : Value} {b : Bool} (hx : f.ev x = some (.iface tx vx)) (hy : f.ev y = some (.iface ty vy)) (hr : ∀ w, (binOp .eql s (.iface tx vx) (.iface ty vy)).run P w = .ok (.bool b) w) (hw : gok ops f g = some true) (hn : Nat.blt d n = true)
    (k : Sy m P ops Q n D w0 M h0 rest ((d, .bool b) :: f) h H) : Sy m P ops Q n D w0 M h0 (⟨some d, .binOp .eql s x y s2, t, p, af, g⟩ :: rest) f h H :=
  sy_val hw rfl hn (fun a w ha _ => by
    have hg : (eqGuard .eql s x y (.iface tx vx) (.iface ty vy)).run P w = .ok () w := by simp [eqGuard]
    simp [execOp, ha.ev hx, ha.ev hy, hg, hr]) k
theorem sy_exn {v : Nat → Value} {ob : Obj} (hx : f.evs args.toList = some vs) (hr : ∀ w, (callFunc F vs.toArray).run P w = .ok (.value (v w.heap.size)) (w.alloc ob)) (hw : gok ops f g = some true) (hn : Nat.blt d n = true)
    (k : ∀ b, w0.heap.size ≤ b → b ∉ M → Sy .txt P ops Q n D w0 M h0 rest ((d, v b) :: f) h (.blk b ob :: H)) (hM : ∀ x ∈ M, x < w0.heap.size) : Sy .txt P ops Q n D w0 M h0 (⟨some d, .call ⟨.value (.func F), args, tys⟩, t, p, af, g⟩ :: rest) f h H :=
  sy_op hw fun a w ha hs => by
    have h1 := map_evs ha hx
    have hrun : (execOp a.eval ⟨some d, .call ⟨.value (.func F), args, tys⟩, t, p, af, g⟩).run P w = .ok (.value (v w.heap.size)) (w.alloc ob) := by
      simp only [execOp, resolve, h1, Act.eval, Deferred.ofValue, Sem.run_bind, Sem.run_pure, Result.andThen_ok, invoke, Array.empty_append, Array.append_empty, hr w]
    unfold Oper.wp
    rw [hrun]
    exact k w.heap.size hs.frm.size (fun hx => by have := hM _ hx; have := hs.frm.size; omega) _ _ (ha.put d _ hn) (hs.alloc _)
/-- .. that writes one cell of an owned block, and reads what it likes -/
theorem sy_exw2 {v old new : Value} {b off e : Nat} {cs cs' : List Value} {H1 : List Res} (i : Nat) (hx : f.evs args.toList = some vs) (hp : pickR i H = some (.blk b (.cells cs.toArray e (0, 0)), H1)) (ho : cs[off]? = some old) (hc : cs.set off new = cs')
    (hr : ∀ w, St w0 M h0 h H w → w.cell? ⟨b, off, none⟩ = some old → w.frozen? ⟨b, off, none⟩ = false → (callFunc F vs.toArray).run P w = .ok (.value v) (w.setCell ⟨b, off, none⟩ new)) (hw : gok ops f g = some true) (hn : Nat.blt d n = true)
    (k : Sy .txt P ops Q n D w0 M h0 rest ((d, v) :: f) h (.blk b (.cells cs'.toArray e (0, 0)) :: H1)) : Sy .txt P ops Q n D w0 M h0 (⟨some d, .call ⟨.value (.func F), args, tys⟩, t, p, af, g⟩ :: rest) f h H :=
  sy_op hw fun a w ha hs => by
    have hs' := hs.swap (pickR_perm hp)
    have hb : w.heap[b]? = some (.cells cs.toArray e (0, 0)) := hs'.ok _ (List.mem_cons_self)
    have hcell : w.cell? ⟨b, off, none⟩ = some old := by simp [World.cell?, hb, ho]
    have hfz : w.frozen? ⟨b, off, none⟩ = false := by simp [World.frozen?, hb]
    have h1 := map_evs ha hx
    have hrun : (execOp a.eval ⟨some d, .call ⟨.value (.func F), args, tys⟩, t, p, af, g⟩).run P w = .ok (.value v) (w.setCell ⟨b, off, none⟩ new) := by
      simp only [execOp, resolve, h1, Act.eval, Deferred.ofValue, Sem.run_bind, Sem.run_pure, Result.andThen_ok, invoke, Array.empty_append, Array.append_empty, hr w hs hcell hfz]
    unfold Oper.wp
    rw [hrun]
    refine k _ _ (ha.put d _ hn) (hs'.write (o' := .cells cs'.toArray e (0, 0)) ⟨rfl, rfl, rfl, by simp [World.setCell], fun j hj hm => heap_setCell_other w ⟨b, off, none⟩ j new (by simpa using hm)⟩ ?_)
    rw [heap_setCell_same w b off cs.toArray e new hb, ← hc]
    simp
theorem St.cellQ {b off e : Nat} {cs : List Value} {fr : Nat × Nat} {v : Value} {H1 : List Res} {w : World} (i : Nat) (hp : pickR i H = some (.blk b (.cells cs.toArray e fr), H1)) (hc : cs[off]? = some v) (hs : St w0 M h0 h H w) : w.cell? ⟨b, off, none⟩ = some v := by
  have h1 : w.heap[b]? = some (.cells cs.toArray e fr) := (hs.swap (pickR_perm hp)).ok _ (List.mem_cons_self)
  simp [World.cell?, h1, hc]
theorem sy_invq {recv : Operand} {name : String} {vr v : Value} (hr : f.ev recv = some vr) (hx : f.evs args.toList = some vs) (hmeth : ∀ w, (callMethod vr name vs.toArray).run P w = .ok (.value v) w) (hw : gok ops f g = some true) (hn : Nat.blt d n = true)
    (k : Sy m P ops Q n D w0 M h0 rest ((d, v) :: f) h H) : Sy m P ops Q n D w0 M h0 (⟨some d, .call ⟨.invoke recv name, args, tys⟩, t, p, af, g⟩ :: rest) f h H :=
  sy_val hw rfl hn (fun a w ha _ => by
    have h1 := map_evs ha hx
    have h2 : (#[vr] ++ vs.toArray)[0]? = some vr := by simp
    have h3 : (#[vr] ++ vs.toArray).extract 1 (#[vr] ++ vs.toArray).size = vs.toArray := by
      apply Array.ext'
      simp
    simp only [execOp, resolve, h1, ha.ev hr, Sem.run_bind, Sem.run_pure, Result.andThen_ok, invoke, h2, h3, hmeth]) k
end
end Go.Proofs.YtdbeiaohibgmeaaGreatDoor.E
set_option linter.unusedVariables false
set_option linter.unusedSimpArgs false
namespace Go.Proofs.YtdbeiaohibgmeaaGreatDoor
open Go.RowKit Go.Extern.Stop Go.Stop Go.Extern Go.Proofs.YtdbeiaohibgmeaaGreatDoor.E
theorem typeOfRef (v : Value) (w : World) : (ReflectliteType.typeOf #[.iface 51 v]).run Tryz.prog w = .ok (.iface 90 (.agg #[.pointer (some ⟨2, 51, none⟩)])) w := by kernel_rfl
theorem tofRef (v : Value) (w : World) : (callFunc 31 #[.iface 51 v]).run Tryz.prog w = .ok (.value (.iface 90 (.agg #[.pointer (some ⟨2, 51, none⟩)]))) w := ext_run (e := ReflectliteType.typeOf) Tryz.func31 (by kernel_rfl) (by kernel_rfl) (by kernel_rfl) (by kernel_rfl) (typeOfRef v w)
theorem typeOfE (v : Value) (w : World) : (ReflectliteType.typeOf #[.iface 29 v]).run Tryz.prog w = .ok (.iface 90 (.agg #[.pointer (some ⟨2, 29, none⟩)])) w := by kernel_rfl
theorem tofE (v : Value) (w : World) : (callFunc 31 #[.iface 29 v]).run Tryz.prog w = .ok (.value (.iface 90 (.agg #[.pointer (some ⟨2, 29, none⟩)]))) w := ext_run (e := ReflectliteType.typeOf) Tryz.func31 (by kernel_rfl) (by kernel_rfl) (by kernel_rfl) (by kernel_rfl) (typeOfE v w)
theorem unpackP (t : Addr) (w : World) : (ReflectliteValue.unpack (.iface 45 (.pointer (some t)))).run Tryz.prog w = .ok (.agg #[.pointer (some ⟨2, 45, none⟩), .pointer (some ⟨w.heap.size, 0, none⟩), .int .u64 150]) (w.alloc (.cells #[.pointer (some t)] 45)) := by kernel_rfl
theorem vofP (t : Addr) (w : World) : (callFunc 33 #[.iface 45 (.pointer (some t))]).run Tryz.prog w = .ok (.value (.agg #[.pointer (some ⟨2, 45, none⟩), .pointer (some ⟨w.heap.size, 0, none⟩), .int .u64 150])) (w.alloc (.cells #[.pointer (some t)] 45)) := ext_run (e := (fun args => ReflectliteValue.unpack (args.getD 0 (.tuple #[])))) Tryz.func33 (by kernel_rfl) (by kernel_rfl) (by kernel_rfl) (by kernel_rfl) (unpackP t w)
theorem unpackE (x : Int) (w : World) : (ReflectliteValue.unpack (.iface 29 (.int .i64 x))).run Tryz.prog w = .ok (.agg #[.pointer (some ⟨2, 29, none⟩), .pointer (some ⟨w.heap.size, 0, none⟩), .int .u64 130]) (w.alloc (.cells #[.int .i64 x] 29)) := by kernel_rfl
theorem vofE (x : Int) (w : World) : (callFunc 33 #[.iface 29 (.int .i64 x)]).run Tryz.prog w = .ok (.value (.agg #[.pointer (some ⟨2, 29, none⟩), .pointer (some ⟨w.heap.size, 0, none⟩), .int .u64 130])) (w.alloc (.cells #[.int .i64 x] 29)) := ext_run (e := (fun args => ReflectliteValue.unpack (args.getD 0 (.tuple #[])))) Tryz.func33 (by kernel_rfl) (by kernel_rfl) (by kernel_rfl) (by kernel_rfl) (unpackE x w)
theorem typeP (a : Addr) (w : World) : (ReflectliteValue.methodAny (ReflectliteValue.valueError "reflectlite.Value.Type" 0) (fun t _ _ _ => ReflectliteType.toType t) #[.agg #[.pointer (some ⟨2, 45, none⟩), .pointer (some a), .int .u64 150]]).run Tryz.prog w = .ok (.iface 90 (.agg #[.pointer (some ⟨2, 45, none⟩)])) w := by kernel_rfl
theorem typP (a : Addr) (w : World) : (callFunc 34 #[.agg #[.pointer (some ⟨2, 45, none⟩), .pointer (some a), .int .u64 150]]).run Tryz.prog w = .ok (.value (.iface 90 (.agg #[.pointer (some ⟨2, 45, none⟩)]))) w := ext_run (e := (ReflectliteValue.methodAny (ReflectliteValue.valueError "reflectlite.Value.Type" 0) (fun t _ _ _ => ReflectliteType.toType t))) Tryz.func34 (by kernel_rfl) (by kernel_rfl) (by kernel_rfl) (by kernel_rfl) (typeP a w)
theorem mKindP (w : World) : (Go.method (Tryz.prog.types.size + Made.depth) 90 (.agg #[.pointer (some ⟨2, 45, none⟩)]) "Kind").run Tryz.prog w = .ok (91, .pointer (some ⟨2, 45, none⟩)) w := by kernel_rfl
theorem eKindP (w : World) : ((ReflectliteType.abiMethod fun t => do pure (.int .u8 (← Rtype.kind t))) #[.pointer (some ⟨2, 45, none⟩)]).run Tryz.prog w = .ok (.int .u8 22) w := by kernel_rfl
theorem cKindP (w : World) : (callMethod (.iface 90 (.agg #[.pointer (some ⟨2, 45, none⟩)])) "Kind" #[]).run Tryz.prog w = .ok (.value (.int .u8 22)) w := met_run (mKindP w) (ext_run (e := (ReflectliteType.abiMethod fun t => do pure (.int .u8 (← Rtype.kind t)))) Tryz.func91 (by kernel_rfl) (by kernel_rfl) (by kernel_rfl) (by kernel_rfl) (eKindP w))
theorem mKindE (w : World) : (Go.method (Tryz.prog.types.size + Made.depth) 90 (.agg #[.pointer (some ⟨2, 29, none⟩)]) "Kind").run Tryz.prog w = .ok (91, .pointer (some ⟨2, 29, none⟩)) w := by kernel_rfl
theorem eKindE (w : World) : ((ReflectliteType.abiMethod fun t => do pure (.int .u8 (← Rtype.kind t))) #[.pointer (some ⟨2, 29, none⟩)]).run Tryz.prog w = .ok (.int .u8 2) w := by kernel_rfl
theorem cKindE (w : World) : (callMethod (.iface 90 (.agg #[.pointer (some ⟨2, 29, none⟩)])) "Kind" #[]).run Tryz.prog w = .ok (.value (.int .u8 2)) w := met_run (mKindE w) (ext_run (e := (ReflectliteType.abiMethod fun t => do pure (.int .u8 (← Rtype.kind t)))) Tryz.func91 (by kernel_rfl) (by kernel_rfl) (by kernel_rfl) (by kernel_rfl) (eKindE w))
theorem mElem (w : World) : (Go.method (Tryz.prog.types.size + Made.depth) 90 (.agg #[.pointer (some ⟨2, 45, none⟩)]) "Elem").run Tryz.prog w = .ok (103, .agg #[.pointer (some ⟨2, 45, none⟩)]) w := by kernel_rfl
theorem eElem (w : World) : ((ReflectliteType.method ReflectliteType.elem) #[.agg #[.pointer (some ⟨2, 45, none⟩)]]).run Tryz.prog w = .ok (.iface 90 (.agg #[.pointer (some ⟨2, 29, none⟩)])) w := by kernel_rfl
theorem cElem (w : World) : (callMethod (.iface 90 (.agg #[.pointer (some ⟨2, 45, none⟩)])) "Elem" #[]).run Tryz.prog w = .ok (.value (.iface 90 (.agg #[.pointer (some ⟨2, 29, none⟩)]))) w := met_run (mElem w) (ext_run (e := (ReflectliteType.method ReflectliteType.elem)) Tryz.func103 (by kernel_rfl) (by kernel_rfl) (by kernel_rfl) (by kernel_rfl) (eElem w))
theorem mImp (w : World) : (Go.method (Tryz.prog.types.size + Made.depth) 90 (.agg #[.pointer (some ⟨2, 29, none⟩)]) "Implements").run Tryz.prog w = .ok (104, .agg #[.pointer (some ⟨2, 29, none⟩)]) w := by kernel_rfl
theorem eImp (w : World) : ((ReflectliteType.relation "Implements" ReflectliteType.implements_) #[.agg #[.pointer (some ⟨2, 29, none⟩)], .iface 90 (.agg #[.pointer (some ⟨2, 26, none⟩)])]).run Tryz.prog w = .ok (.bool true) w := by kernel_rfl
theorem cImp (w : World) : (callMethod (.iface 90 (.agg #[.pointer (some ⟨2, 29, none⟩)])) "Implements" #[.iface 90 (.agg #[.pointer (some ⟨2, 26, none⟩)])]).run Tryz.prog w = .ok (.value (.bool true)) w := met_run (mImp w) (ext_run (e := (ReflectliteType.relation "Implements" ReflectliteType.implements_)) Tryz.func104 (by kernel_rfl) (by kernel_rfl) (by kernel_rfl) (by kernel_rfl) (eImp w))
theorem mAssR (w : World) : (Go.method (Tryz.prog.types.size + Made.depth) 90 (.agg #[.pointer (some ⟨2, 51, none⟩)]) "AssignableTo").run Tryz.prog w = .ok (101, .agg #[.pointer (some ⟨2, 51, none⟩)]) w := by kernel_rfl
theorem eAssR (w : World) : ((ReflectliteType.relation "AssignableTo" ReflectliteType.assignableTo) #[.agg #[.pointer (some ⟨2, 51, none⟩)], .iface 90 (.agg #[.pointer (some ⟨2, 29, none⟩)])]).run Tryz.prog w = .ok (.bool false) w := by kernel_rfl
theorem cAssR (w : World) : (callMethod (.iface 90 (.agg #[.pointer (some ⟨2, 51, none⟩)])) "AssignableTo" #[.iface 90 (.agg #[.pointer (some ⟨2, 29, none⟩)])]).run Tryz.prog w = .ok (.value (.bool false)) w := met_run (mAssR w) (ext_run (e := (ReflectliteType.relation "AssignableTo" ReflectliteType.assignableTo)) Tryz.func101 (by kernel_rfl) (by kernel_rfl) (by kernel_rfl) (by kernel_rfl) (eAssR w))
theorem mAssE (w : World) : (Go.method (Tryz.prog.types.size + Made.depth) 90 (.agg #[.pointer (some ⟨2, 29, none⟩)]) "AssignableTo").run Tryz.prog w = .ok (101, .agg #[.pointer (some ⟨2, 29, none⟩)]) w := by kernel_rfl
theorem eAssE (w : World) : ((ReflectliteType.relation "AssignableTo" ReflectliteType.assignableTo) #[.agg #[.pointer (some ⟨2, 29, none⟩)], .iface 90 (.agg #[.pointer (some ⟨2, 29, none⟩)])]).run Tryz.prog w = .ok (.bool true) w := by kernel_rfl
theorem cAssE (w : World) : (callMethod (.iface 90 (.agg #[.pointer (some ⟨2, 29, none⟩)])) "AssignableTo" #[.iface 90 (.agg #[.pointer (some ⟨2, 29, none⟩)])]).run Tryz.prog w = .ok (.value (.bool true)) w := met_run (mAssE w) (ext_run (e := (ReflectliteType.relation "AssignableTo" ReflectliteType.assignableTo)) Tryz.func101 (by kernel_rfl) (by kernel_rfl) (by kernel_rfl) (by kernel_rfl) (eAssE w))
theorem mCmp (w : World) : (Go.method (Tryz.prog.types.size + Made.depth) 90 (.agg #[.pointer (some ⟨2, 29, none⟩)]) "Comparable").run Tryz.prog w = .ok (102, .agg #[.pointer (some ⟨2, 29, none⟩)]) w := by kernel_rfl
theorem eCmp (w : World) : ((ReflectliteType.method fun t => do Rtype.noPackHeld "Comparable" t; pure (.bool (← typeInfo t).comparable)) #[.agg #[.pointer (some ⟨2, 29, none⟩)]]).run Tryz.prog w = .ok (.bool true) w := by kernel_rfl
theorem cCmp (w : World) : (callMethod (.iface 90 (.agg #[.pointer (some ⟨2, 29, none⟩)])) "Comparable" #[]).run Tryz.prog w = .ok (.value (.bool true)) w := met_run (mCmp w) (ext_run (e := (ReflectliteType.method fun t => do Rtype.noPackHeld "Comparable" t; pure (.bool (← typeInfo t).comparable))) Tryz.func102 (by kernel_rfl) (by kernel_rfl) (by kernel_rfl) (by kernel_rfl) (eCmp w))
theorem rlm (z : Sem Value) (f : TypeId → Addr → Nat → Nat → Sem Value) (v : Value) : ReflectliteValue.method z f #[v] = (do match ← ReflectliteValue.parts v with | none => z | some (t, a, fl) => f t a fl (fl % 32)) := rfl
theorem partsP (a : Addr) (w : World) : (ReflectliteValue.parts (.agg #[.pointer (some ⟨2, 45, none⟩), .pointer (some a), .int .u64 150])).run Tryz.prog w = .ok (some (45, a, 150)) w := by kernel_rfl
theorem partsE (a : Addr) (w : World) : (ReflectliteValue.parts (.agg #[.pointer (some ⟨2, 29, none⟩), .pointer (some a), .int .u64 130])).run Tryz.prog w = .ok (some (29, a, 130)) w := by kernel_rfl
theorem partsEa (a : Addr) (w : World) : (ReflectliteValue.parts (.agg #[.pointer (some ⟨2, 29, none⟩), .pointer (some a), .int .u64 386])).run Tryz.prog w = .ok (some (29, a, 386)) w := by kernel_rfl
theorem isNilP (a p : Addr) (W : World) (ha : W.cell? a = some (.pointer (some p))) : (ReflectliteValue.method (ReflectliteValue.valueError "reflectlite.Value.IsNil" 0) ReflectliteValue.isNil #[.agg #[.pointer (some ⟨2, 45, none⟩), .pointer (some a), .int .u64 150]]).run Tryz.prog W = .ok (.bool false) W := by
  rw [rlm]
  simp only [Sem.run_bind, partsP, Result.andThen]
  simp [ReflectliteValue.isNil, loadVar, isAgg, underlying, Tryz.underlying45, ha, Result.andThen]
theorem nilP (a p : Addr) (w : World) (ha : w.cell? a = some (.pointer (some p))) : (callFunc 35 #[.agg #[.pointer (some ⟨2, 45, none⟩), .pointer (some a), .int .u64 150]]).run Tryz.prog w = .ok (.value (.bool false)) w := ext_run (e := (ReflectliteValue.method (ReflectliteValue.valueError "reflectlite.Value.IsNil" 0) ReflectliteValue.isNil)) Tryz.func35 (by kernel_rfl) (by kernel_rfl) (by kernel_rfl) (by kernel_rfl) (isNilP a p w ha)
theorem elemOfP (w : World) : (Rtype.elem? 45).run Tryz.prog w = .ok (some 29) w := by kernel_rfl
theorem mkE (p : Addr) (w : World) : (ReflectliteValue.mk 29 p ReflectliteValue.flagAddr).run Tryz.prog w = .ok (.agg #[.pointer (some ⟨2, 29, none⟩), .pointer (some p), .int .u64 386]) w := by kernel_rfl
theorem elemVP (a p : Addr) (W : World) (ha : W.cell? a = some (.pointer (some p))) : (ReflectliteValue.method (ReflectliteValue.valueError "reflectlite.Value.Elem" 0) ReflectliteValue.elem #[.agg #[.pointer (some ⟨2, 45, none⟩), .pointer (some a), .int .u64 150]]).run Tryz.prog W = .ok (.agg #[.pointer (some ⟨2, 29, none⟩), .pointer (some p), .int .u64 386]) W := by
  rw [rlm]
  simp only [Sem.run_bind, partsP, Result.andThen]
  simp [ReflectliteValue.elem, loadVar, isAgg, underlying, Tryz.underlying45, ha, Result.andThen, elemOfP, mkE]
theorem elmP (a p : Addr) (w : World) (ha : w.cell? a = some (.pointer (some p))) : (callFunc 42 #[.agg #[.pointer (some ⟨2, 45, none⟩), .pointer (some a), .int .u64 150]]).run Tryz.prog w = .ok (.value (.agg #[.pointer (some ⟨2, 29, none⟩), .pointer (some p), .int .u64 386])) w := ext_run (e := (ReflectliteValue.method (ReflectliteValue.valueError "reflectlite.Value.Elem" 0) ReflectliteValue.elem)) Tryz.func42 (by kernel_rfl) (by kernel_rfl) (by kernel_rfl) (by kernel_rfl) (elemVP a p w ha)
theorem rls (v x : Value) : ReflectliteValue.set #[v, x] = (do
    let (some (dst, a, fl), some (src, b, _)) := (← ReflectliteValue.parts v, ← ReflectliteValue.parts x)
      | unsupported (.noEntry "extern/(internal/reflectlite.Value).Set.zeroValue")
    if fl / ReflectliteValue.flagAddr % 2 == 0 then unsupported (.noEntry "extern/(internal/reflectlite.Value).Set.unaddressable")
    let val ← loadVar src b
    if ← Rtype.directlyAssignable dst src then storeVar dst a val
    else if ← Rtype.implements dst src then
      if (← Rtype.kind src) == 20 then
        match val with
        | .nilIface => unsupported (.noEntry "extern/reflectlite: a nil value of one interface type handed on as a value of another")
        | _ => storeVar dst a val
      else storeVar dst a (.iface src val)
    else panicString ("reflectlite.Set: value of type " ++ (← Rtype.spelt src) ++ " is not assignable to type " ++ (← Rtype.spelt dst))
    pure (.tuple #[])) := rfl
theorem directE (w : World) : (Rtype.directlyAssignable 29 29).run Tryz.prog w = .ok true w := by kernel_rfl
theorem sizeE (w : World) : (sizeOf 29).run Tryz.prog w = .ok 1 w := by kernel_rfl
theorem setE (ta b : Addr) (x : Int) (old : Value) (W : World) (hb : W.cell? b = some (.int .i64 x)) (ht : W.cell? ta = some old) (hf : W.frozen? ta = false) :
    (ReflectliteValue.set #[.agg #[.pointer (some ⟨2, 29, none⟩), .pointer (some ta), .int .u64 386], .agg #[.pointer (some ⟨2, 29, none⟩), .pointer (some b), .int .u64 130]]).run Tryz.prog W = .ok (.tuple #[]) (W.setCell ta (.int .i64 x)) := by
  rw [rls]
  simp only [Sem.run_bind, partsEa, partsE, Result.andThen]
  simp [ReflectliteValue.flagAddr, loadVar, isAgg, underlying, Tryz.underlying29, hb, Result.andThen, directE, storeVar, Value.cells, storeCells, Addr.add]
  rw [run_store Tryz.prog W ta _ _ (by rfl)]
  simp [ht, hf]
theorem setX (ta b : Addr) (x : Int) (old : Value) (w : World) (hb : w.cell? b = some (.int .i64 x)) (ht : w.cell? ta = some old) (hf : w.frozen? ta = false) : (callFunc 43 #[.agg #[.pointer (some ⟨2, 29, none⟩), .pointer (some ta), .int .u64 386], .agg #[.pointer (some ⟨2, 29, none⟩), .pointer (some b), .int .u64 130]]).run Tryz.prog w = .ok (.value (.tuple #[])) (w.setCell ta (.int .i64 x)) := ext_run (e := ReflectliteValue.set) Tryz.func43 (by kernel_rfl) (by kernel_rfl) (by kernel_rfl) (by kernel_rfl) (setE ta b x old w hb ht hf)
theorem asRIs (v : Value) (xT : TypeId) (w : World) : (Instr.typeAssert (.iface 51 v) xT 92 true).run Tryz.prog w = .ok (.tuple #[.nilIface, .bool false]) w := run_typeAssert_lacksB Tryz.underlying92 (by kernel_rfl) (by kernel_rfl) v xT w
theorem asRAs (v : Value) (xT : TypeId) (w : World) : (Instr.typeAssert (.iface 51 v) xT 102 true).run Tryz.prog w = .ok (.tuple #[.nilIface, .bool false]) w := run_typeAssert_lacksB Tryz.underlying102 (by kernel_rfl) (by kernel_rfl) v xT w
theorem asRUn (v : Value) (xT : TypeId) (w : World) : (Instr.typeAssert (.iface 51 v) xT 95 true).run Tryz.prog w = .ok (.tuple #[.iface 51 v, .bool true]) w := run_typeAssert_hasB Tryz.underlying95 (by kernel_rfl) v xT w
theorem asRUns (v : Value) (xT : TypeId) (w : World) : (Instr.typeAssert (.iface 51 v) xT 97 true).run Tryz.prog w = .ok (.tuple #[.nilIface, .bool false]) w := run_typeAssert_lacksB Tryz.underlying97 (by kernel_rfl) (by kernel_rfl) v xT w
theorem asEIs (v : Value) (xT : TypeId) (w : World) : (Instr.typeAssert (.iface 29 v) xT 92 true).run Tryz.prog w = .ok (.tuple #[.nilIface, .bool false]) w := run_typeAssert_lacksB Tryz.underlying92 (by kernel_rfl) (by kernel_rfl) v xT w
theorem asEAs (v : Value) (xT : TypeId) (w : World) : (Instr.typeAssert (.iface 29 v) xT 102 true).run Tryz.prog w = .ok (.tuple #[.nilIface, .bool false]) w := run_typeAssert_lacksB Tryz.underlying102 (by kernel_rfl) (by kernel_rfl) v xT w
theorem asEUn (v : Value) (xT : TypeId) (w : World) : (Instr.typeAssert (.iface 29 v) xT 95 true).run Tryz.prog w = .ok (.tuple #[.nilIface, .bool false]) w := run_typeAssert_lacksB Tryz.underlying95 (by kernel_rfl) (by kernel_rfl) v xT w
theorem asEUns (v : Value) (xT : TypeId) (w : World) : (Instr.typeAssert (.iface 29 v) xT 97 true).run Tryz.prog w = .ok (.tuple #[.nilIface, .bool false]) w := run_typeAssert_lacksB Tryz.underlying97 (by kernel_rfl) (by kernel_rfl) v xT w
theorem eqRE (v u : Value) (w : World) : (binOp .eql 26 (.iface 51 v) (.iface 29 u)).run Tryz.prog w = .ok (.bool false) w := run_eql_iface_types 51 29 v u Tryz.underlying26 (by decide) w
theorem eqEE (x y : Int) (w : World) : (binOp .eql 26 (.iface 29 (.int .i64 x)) (.iface 29 (.int .i64 y))).run Tryz.prog w = .ok (.bool (x == y)) w := by kernel_rfl
theorem unwR (s : ByteArray) (e : Int) (w : World) : (callMethod (.iface 51 (.agg #[.string s, .int .i64 e])) "Unwrap" #[]).run Tryz.prog w = .ok (.enter 96 #[.agg #[.string s, .int .i64 e]]) w := by kernel_rfl
end Go.Proofs.YtdbeiaohibgmeaaGreatDoor
set_option linter.unusedVariables false
set_option linter.unusedSimpArgs false
namespace Go.Proofs.YtdbeiaohibgmeaaGreatDoor
open Go.RowKit Go.Proofs.YtdbeiaohibgmeaaGreatDoor.E
set_option maxRecDepth 100000 in
theorem unwrap_c (s : ByteArray) (e : Int) (h : Hp) : C0 Tryz.prog 96 [.agg #[.string s, .int .i64 e]] h (.iface 29 (.int .i64 e)) := by
  refine enter0 Tryz.func96 rfl rfl rfl (fun w => ?_)
  refine cy_seq ?_
  refine cy_region ?_
  refine sy_box rfl rfl rfl rfl (fun b1 hb1 hM1 => ?_) (by simp)
  refine sy_assign rfl rfl rfl ?_
  refine sy_nil rfl ?_
  refine ny_next ?_
  refine cy_seq ?_
  refine cy_region ?_
  refine sy_field fld_51_1 rfl rfl rfl ?_
  first | refine sy_ldr 0 one_29 rfl rfl rfl rfl rfl ?_ | refine sy_ldr 1 one_29 rfl rfl rfl rfl rfl ?_
  refine sy_iface Tryz.underlying29 rfl rfl rfl rfl ?_
  refine sy_assign rfl rfl rfl ?_
  refine sy_nil rfl ?_
  refine ny_next ?_
  refine cy_ret ?_
  refine ny_finR (res1 rfl rfl) (fun w hs => ⟨?_, hs.frm⟩)
  rfl
set_option maxRecDepth 100000 in
theorem is2R_c (s : ByteArray) (e : Int) (h : Hp) : C0 Tryz.prog 32 [.iface 51 (.agg #[.string s, .int .i64 e]), .iface 29 (.int .i64 1), .bool true] h (.bool (e == 1)) := by
  refine enter0 Tryz.func32 rfl rfl rfl (fun w => ?_)
  refine cy_seq ?_
  refine cy_region ?_
  refine sy_assign rfl rfl rfl ?_
  refine sy_nil rfl ?_
  refine ny_next ?_
  refine cy_block ?_
  refine cy_rounds 1 ?_
  refine cy_block ?_
  refine cy_seq ?_
  refine cy_seq ?_
  refine cy_region ?_
  refine sy_move rfl rfl rfl ?_
  refine sy_setT (d := 14) rfl rfl rfl ?_
  refine sy_move rfl rfl rfl ?_
  refine sy_move rfl rfl rfl ?_
  refine sy_move rfl rfl rfl ?_
  refine sy_eqif rfl rfl (fun w => eqRE _ _ w) rfl rfl ?_
  refine sy_pickT rfl rfl rfl rfl ?_
  refine sy_setF (d := 19) rfl rfl rfl ?_
  refine sy_nil rfl ?_
  refine ny_next ?_
  refine cy_condF rfl ?_
  refine cy_skip ?_
  refine ny_next ?_
  refine cy_seq ?_
  refine cy_seq ?_
  refine cy_region ?_
  refine sy_move rfl rfl rfl ?_
  refine sy_assert rfl (fun w => asRIs _ _ w) rfl rfl ?_
  refine sy_move rfl rfl rfl ?_
  refine sy_extract rfl rfl rfl rfl ?_
  refine sy_extract rfl rfl rfl rfl ?_
  refine sy_setF (d := 24) rfl rfl rfl ?_
  refine sy_assign rfl rfl rfl ?_
  refine sy_assign rfl rfl rfl ?_
  refine sy_nil rfl ?_
  refine ny_next ?_
  refine cy_seq ?_
  refine cy_region ?_
  refine sy_move rfl rfl rfl ?_
  refine sy_move rfl rfl rfl ?_
  refine sy_skip rfl rfl rfl ?_
  refine sy_skip rfl rfl rfl ?_
  refine sy_skip rfl rfl rfl ?_
  refine sy_pickF rfl rfl rfl rfl ?_
  refine sy_nil rfl ?_
  refine ny_next ?_
  refine cy_condF rfl ?_
  refine cy_skip ?_
  refine ny_next ?_
  refine cy_seq ?_
  refine cy_region ?_
  refine sy_move rfl rfl rfl ?_
  refine sy_nil rfl ?_
  refine ny_next ?_
  refine cy_block ?_
  refine cy_seq ?_
  refine cy_region ?_
  refine sy_assert rfl (fun w => asRUn _ _ w) rfl rfl ?_
  refine sy_extract rfl rfl rfl rfl ?_
  refine sy_setT (d := 33) rfl rfl rfl ?_
  refine sy_extract rfl rfl rfl rfl ?_
  refine sy_nil rfl ?_
  refine ny_next ?_
  refine cy_condT rfl ?_
  refine cy_seq ?_
  refine cy_region ?_
  refine sy_assign rfl rfl rfl ?_
  refine sy_nil rfl ?_
  refine ny_next ?_
  refine cy_seq ?_
  refine cy_region ?_
  refine sy_move rfl rfl rfl ?_
  refine sy_invoke rfl rfl rfl (fun w => unwR s e w) (unwrap_c s e h) rfl rfl ?_
  refine sy_assign rfl rfl rfl ?_
  refine sy_nil rfl ?_
  refine ny_next ?_
  refine cy_seq ?_
  refine cy_region ?_
  refine sy_move rfl rfl rfl ?_
  refine sy_eqn Tryz.underlying26 rfl rfl rfl rfl rfl ?_
  refine sy_setF (d := 38) rfl rfl rfl ?_
  refine sy_nil rfl ?_
  refine ny_next ?_
  refine cy_condF rfl ?_
  refine cy_skip ?_
  refine ny_blockN ?_
  refine ny_blockN ?_
  refine ny_again ?_
  refine cy_block ?_
  refine cy_seq ?_
  refine cy_seq ?_
  refine cy_region ?_
  refine sy_move rfl rfl rfl ?_
  refine sy_setT (d := 14) rfl rfl rfl ?_
  refine sy_move rfl rfl rfl ?_
  refine sy_move rfl rfl rfl ?_
  refine sy_move rfl rfl rfl ?_
  refine sy_eqif rfl rfl (fun w => eqEE _ _ w) rfl rfl ?_
  refine sy_pickT rfl rfl rfl rfl ?_
  refine sy_nil rfl ?_
  refine ny_next ?_
  refine cy_cond rfl (fun hc19 => ?_) (fun hc19 => ?_)
  · refine cy_seq ?_
    refine cy_region ?_
    refine sy_assign rfl rfl rfl ?_
    refine sy_nil rfl ?_
    refine ny_next ?_
    refine cy_ret ?_
    refine ny_thenR ?_
    refine ny_blockR ?_
    refine ny_thenR ?_
    refine ny_blockR ?_
    refine ny_finR (res1 rfl rfl) (fun w hs => ⟨?_, hs.frm⟩)
    first | rw [hc19] | (simp_all; done) | rfl
  · refine cy_skip ?_
    refine ny_next ?_
    refine cy_seq ?_
    refine cy_seq ?_
    refine cy_region ?_
    refine sy_move rfl rfl rfl ?_
    refine sy_assert rfl (fun w => asEIs _ _ w) rfl rfl ?_
    refine sy_move rfl rfl rfl ?_
    refine sy_extract rfl rfl rfl rfl ?_
    refine sy_extract rfl rfl rfl rfl ?_
    refine sy_setF (d := 24) rfl rfl rfl ?_
    refine sy_assign rfl rfl rfl ?_
    refine sy_assign rfl rfl rfl ?_
    refine sy_nil rfl ?_
    refine ny_next ?_
    refine cy_seq ?_
    refine cy_region ?_
    refine sy_move rfl rfl rfl ?_
    refine sy_move rfl rfl rfl ?_
    refine sy_skip rfl rfl rfl ?_
    refine sy_skip rfl rfl rfl ?_
    refine sy_skip rfl rfl rfl ?_
    refine sy_pickF rfl rfl rfl rfl ?_
    refine sy_nil rfl ?_
    refine ny_next ?_
    refine cy_condF rfl ?_
    refine cy_skip ?_
    refine ny_next ?_
    refine cy_seq ?_
    refine cy_region ?_
    refine sy_move rfl rfl rfl ?_
    refine sy_nil rfl ?_
    refine ny_next ?_
    refine cy_block ?_
    refine cy_seq ?_
    refine cy_region ?_
    refine sy_assert rfl (fun w => asEUn _ _ w) rfl rfl ?_
    refine sy_extract rfl rfl rfl rfl ?_
    refine sy_setF (d := 33) rfl rfl rfl ?_
    refine sy_extract rfl rfl rfl rfl ?_
    refine sy_nil rfl ?_
    refine ny_next ?_
    refine cy_condF rfl ?_
    refine cy_seq ?_
    refine cy_region ?_
    refine sy_assert rfl (fun w => asEUns _ _ w) rfl rfl ?_
    refine sy_extract rfl rfl rfl rfl ?_
    refine sy_setF (d := 40) rfl rfl rfl ?_
    refine sy_extract rfl rfl rfl rfl ?_
    refine sy_nil rfl ?_
    refine ny_next ?_
    refine cy_condF rfl ?_
    refine cy_seq ?_
    refine cy_region ?_
    refine sy_assign rfl rfl rfl ?_
    refine sy_nil rfl ?_
    refine ny_next ?_
    refine cy_seq ?_
    refine cy_region ?_
    refine sy_assign rfl rfl rfl ?_
    refine sy_nil rfl ?_
    refine ny_next ?_
    refine cy_ret ?_
    refine ny_blockR ?_
    refine ny_blockR ?_
    refine ny_thenR ?_
    refine ny_blockR ?_
    refine ny_finR (res1 rfl rfl) (fun w hs => ⟨?_, hs.frm⟩)
    first | rw [hc19] | (simp_all; done) | rfl
set_option maxRecDepth 100000 in
theorem is2E_c (e : Int) (h : Hp) : C0 Tryz.prog 32 [.iface 29 (.int .i64 e), .iface 29 (.int .i64 1), .bool true] h (.bool (e == 1)) := by
  refine enter0 Tryz.func32 rfl rfl rfl (fun w => ?_)
  refine cy_seq ?_
  refine cy_region ?_
  refine sy_assign rfl rfl rfl ?_
  refine sy_nil rfl ?_
  refine ny_next ?_
  refine cy_block ?_
  refine cy_rounds 0 ?_
  refine cy_block ?_
  refine cy_seq ?_
  refine cy_seq ?_
  refine cy_region ?_
  refine sy_move rfl rfl rfl ?_
  refine sy_setT (d := 14) rfl rfl rfl ?_
  refine sy_move rfl rfl rfl ?_
  refine sy_move rfl rfl rfl ?_
  refine sy_move rfl rfl rfl ?_
  refine sy_eqif rfl rfl (fun w => eqEE _ _ w) rfl rfl ?_
  refine sy_pickT rfl rfl rfl rfl ?_
  refine sy_nil rfl ?_
  refine ny_next ?_
  refine cy_cond rfl (fun hc19 => ?_) (fun hc19 => ?_)
  · refine cy_seq ?_
    refine cy_region ?_
    refine sy_assign rfl rfl rfl ?_
    refine sy_nil rfl ?_
    refine ny_next ?_
    refine cy_ret ?_
    refine ny_thenR ?_
    refine ny_blockR ?_
    refine ny_thenR ?_
    refine ny_blockR ?_
    refine ny_finR (res1 rfl rfl) (fun w hs => ⟨?_, hs.frm⟩)
    first | rw [hc19] | (simp_all; done) | rfl
  · refine cy_skip ?_
    refine ny_next ?_
    refine cy_seq ?_
    refine cy_seq ?_
    refine cy_region ?_
    refine sy_move rfl rfl rfl ?_
    refine sy_assert rfl (fun w => asEIs _ _ w) rfl rfl ?_
    refine sy_move rfl rfl rfl ?_
    refine sy_extract rfl rfl rfl rfl ?_
    refine sy_extract rfl rfl rfl rfl ?_
    refine sy_setF (d := 24) rfl rfl rfl ?_
    refine sy_assign rfl rfl rfl ?_
    refine sy_assign rfl rfl rfl ?_
    refine sy_nil rfl ?_
    refine ny_next ?_
    refine cy_seq ?_
    refine cy_region ?_
    refine sy_move rfl rfl rfl ?_
    refine sy_move rfl rfl rfl ?_
    refine sy_skip rfl rfl rfl ?_
    refine sy_skip rfl rfl rfl ?_
    refine sy_skip rfl rfl rfl ?_
    refine sy_pickF rfl rfl rfl rfl ?_
    refine sy_nil rfl ?_
    refine ny_next ?_
    refine cy_condF rfl ?_
    refine cy_skip ?_
    refine ny_next ?_
    refine cy_seq ?_
    refine cy_region ?_
    refine sy_move rfl rfl rfl ?_
    refine sy_nil rfl ?_
    refine ny_next ?_
    refine cy_block ?_
    refine cy_seq ?_
    refine cy_region ?_
    refine sy_assert rfl (fun w => asEUn _ _ w) rfl rfl ?_
    refine sy_extract rfl rfl rfl rfl ?_
    refine sy_setF (d := 33) rfl rfl rfl ?_
    refine sy_extract rfl rfl rfl rfl ?_
    refine sy_nil rfl ?_
    refine ny_next ?_
    refine cy_condF rfl ?_
    refine cy_seq ?_
    refine cy_region ?_
    refine sy_assert rfl (fun w => asEUns _ _ w) rfl rfl ?_
    refine sy_extract rfl rfl rfl rfl ?_
    refine sy_setF (d := 40) rfl rfl rfl ?_
    refine sy_extract rfl rfl rfl rfl ?_
    refine sy_nil rfl ?_
    refine ny_next ?_
    refine cy_condF rfl ?_
    refine cy_seq ?_
    refine cy_region ?_
    refine sy_assign rfl rfl rfl ?_
    refine sy_nil rfl ?_
    refine ny_next ?_
    refine cy_seq ?_
    refine cy_region ?_
    refine sy_assign rfl rfl rfl ?_
    refine sy_nil rfl ?_
    refine ny_next ?_
    refine cy_ret ?_
    refine ny_blockR ?_
    refine ny_blockR ?_
    refine ny_thenR ?_
    refine ny_blockR ?_
    refine ny_finR (res1 rfl rfl) (fun w hs => ⟨?_, hs.frm⟩)
    first | rw [hc19] | (simp_all; done) | rfl
set_option maxRecDepth 100000 in
theorem isR_c (s : ByteArray) (e : Int) (h : Hp) : C0 Tryz.prog 14 [.iface 51 (.agg #[.string s, .int .i64 e]), .iface 29 (.int .i64 1)] h (.bool (e == 1)) := by
  refine enter0 Tryz.func14 rfl rfl rfl (fun w => ?_)
  refine cy_seq ?_
  refine cy_region ?_
  refine sy_assign rfl rfl rfl ?_
  refine sy_nil rfl ?_
  refine ny_next ?_
  refine cy_seq ?_
  refine cy_seq ?_
  refine cy_region ?_
  refine sy_move rfl rfl rfl ?_
  refine sy_eqn Tryz.underlying26 rfl rfl rfl rfl rfl ?_
  refine sy_setF (d := 7) rfl rfl rfl ?_
  refine sy_move rfl rfl rfl ?_
  refine sy_move rfl rfl rfl ?_
  refine sy_eqn Tryz.underlying26 rfl rfl rfl rfl rfl ?_
  refine sy_pickF rfl rfl rfl rfl ?_
  refine sy_setF (d := 11) rfl rfl rfl ?_
  refine sy_nil rfl ?_
  refine ny_next ?_
  refine cy_condF rfl ?_
  refine cy_skip ?_
  refine ny_next ?_
  refine cy_seq ?_
  refine cy_region ?_
  refine sy_move rfl rfl rfl ?_
  refine sy_exq rfl (fun w hs => tofE _ w) rfl rfl ?_
  refine sy_invq rfl rfl (fun w => cCmp w) rfl rfl ?_
  refine sy_assign rfl rfl rfl ?_
  refine sy_nil rfl ?_
  refine ny_next ?_
  refine cy_seq ?_
  refine cy_region ?_
  refine sy_move rfl rfl rfl ?_
  refine sy_move rfl rfl rfl ?_
  refine sy_move rfl rfl rfl ?_
  refine sy_call rfl call_32 rfl (is2R_c s e h) rfl rfl ?_
  refine sy_assign rfl rfl rfl ?_
  refine sy_nil rfl ?_
  refine ny_next ?_
  refine cy_ret ?_
  refine ny_finR (res1 rfl rfl) (fun w hs => ⟨?_, hs.frm⟩)
  rfl
set_option maxRecDepth 100000 in
theorem isE_c (e : Int) (h : Hp) : C0 Tryz.prog 14 [.iface 29 (.int .i64 e), .iface 29 (.int .i64 1)] h (.bool (e == 1)) := by
  refine enter0 Tryz.func14 rfl rfl rfl (fun w => ?_)
  refine cy_seq ?_
  refine cy_region ?_
  refine sy_assign rfl rfl rfl ?_
  refine sy_nil rfl ?_
  refine ny_next ?_
  refine cy_seq ?_
  refine cy_seq ?_
  refine cy_region ?_
  refine sy_move rfl rfl rfl ?_
  refine sy_eqn Tryz.underlying26 rfl rfl rfl rfl rfl ?_
  refine sy_setF (d := 7) rfl rfl rfl ?_
  refine sy_move rfl rfl rfl ?_
  refine sy_move rfl rfl rfl ?_
  refine sy_eqn Tryz.underlying26 rfl rfl rfl rfl rfl ?_
  refine sy_pickF rfl rfl rfl rfl ?_
  refine sy_setF (d := 11) rfl rfl rfl ?_
  refine sy_nil rfl ?_
  refine ny_next ?_
  refine cy_condF rfl ?_
  refine cy_skip ?_
  refine ny_next ?_
  refine cy_seq ?_
  refine cy_region ?_
  refine sy_move rfl rfl rfl ?_
  refine sy_exq rfl (fun w hs => tofE _ w) rfl rfl ?_
  refine sy_invq rfl rfl (fun w => cCmp w) rfl rfl ?_
  refine sy_assign rfl rfl rfl ?_
  refine sy_nil rfl ?_
  refine ny_next ?_
  refine cy_seq ?_
  refine cy_region ?_
  refine sy_move rfl rfl rfl ?_
  refine sy_move rfl rfl rfl ?_
  refine sy_move rfl rfl rfl ?_
  refine sy_call rfl call_32 rfl (is2E_c e h) rfl rfl ?_
  refine sy_assign rfl rfl rfl ?_
  refine sy_nil rfl ?_
  refine ny_next ?_
  refine cy_ret ?_
  refine ny_finR (res1 rfl rfl) (fun w hs => ⟨?_, hs.frm⟩)
  rfl
set_option maxRecDepth 100000 in
theorem as2R_c (s : ByteArray) (e x0 : Int) (b bq : Nat) (h : Hp) (hq : h bq = some (.cells #[.pointer (some ⟨b, 0, none⟩)] 45 (0, 0))) : CXM Tryz.prog 36 [.iface 51 (.agg #[.string s, .int .i64 e]), .iface 45 (.pointer (some ⟨b, 0, none⟩)), .agg #[.pointer (some ⟨2, 45, none⟩), .pointer (some ⟨bq, 0, none⟩), .int .u64 150], .iface 90 (.agg #[.pointer (some ⟨2, 29, none⟩)])] h b (.cells [.int .i64 x0].toArray 29 (0, 0)) (fun _ : Unit => .bool true) (fun _ _ o => o = .cells [.int .i64 e].toArray 29 (0, 0)) := by
  refine enterXM Tryz.func36 rfl rfl rfl (fun w hb0 => ?_)
  refine cy_seq ?_
  refine cy_region ?_
  refine sy_box rfl rfl rfl rfl (fun b6 hb6 hM6 => ?_) (by simp only [List.mem_singleton]; rintro _ rfl; exact hb0)
  refine sy_assign rfl rfl rfl ?_
  refine sy_nil rfl ?_
  refine ny_next ?_
  refine cy_block ?_
  refine cy_rounds 1 ?_
  refine cy_block ?_
  refine cy_seq ?_
  refine cy_seq ?_
  refine cy_region ?_
  refine sy_move rfl rfl rfl ?_
  refine sy_exq rfl (fun w hs => tofRef _ w) rfl rfl ?_
  refine sy_move rfl rfl rfl ?_
  refine sy_invq rfl rfl (fun w => cAssR w) rfl rfl ?_
  refine sy_setF (d := 19) rfl rfl rfl ?_
  refine sy_nil rfl ?_
  refine ny_next ?_
  refine cy_condF rfl ?_
  refine cy_skip ?_
  refine ny_next ?_
  refine cy_seq ?_
  refine cy_seq ?_
  refine cy_region ?_
  refine sy_move rfl rfl rfl ?_
  refine sy_assert rfl (fun w => asRAs _ _ w) rfl rfl ?_
  refine sy_move rfl rfl rfl ?_
  refine sy_extract rfl rfl rfl rfl ?_
  refine sy_extract rfl rfl rfl rfl ?_
  refine sy_setF (d := 29) rfl rfl rfl ?_
  refine sy_assign rfl rfl rfl ?_
  refine sy_assign rfl rfl rfl ?_
  refine sy_nil rfl ?_
  refine ny_next ?_
  refine cy_seq ?_
  refine cy_region ?_
  refine sy_move rfl rfl rfl ?_
  refine sy_move rfl rfl rfl ?_
  refine sy_skip rfl rfl rfl ?_
  refine sy_skip rfl rfl rfl ?_
  refine sy_skip rfl rfl rfl ?_
  refine sy_pickF rfl rfl rfl rfl ?_
  refine sy_nil rfl ?_
  refine ny_next ?_
  refine cy_condF rfl ?_
  refine cy_skip ?_
  refine ny_next ?_
  refine cy_seq ?_
  refine cy_region ?_
  refine sy_move rfl rfl rfl ?_
  refine sy_nil rfl ?_
  refine ny_next ?_
  refine cy_block ?_
  refine cy_seq ?_
  refine cy_region ?_
  refine sy_assert rfl (fun w => asRUn _ _ w) rfl rfl ?_
  refine sy_extract rfl rfl rfl rfl ?_
  refine sy_setT (d := 38) rfl rfl rfl ?_
  refine sy_extract rfl rfl rfl rfl ?_
  refine sy_nil rfl ?_
  refine ny_next ?_
  refine cy_condT rfl ?_
  refine cy_seq ?_
  refine cy_region ?_
  refine sy_assign rfl rfl rfl ?_
  refine sy_nil rfl ?_
  refine ny_next ?_
  refine cy_seq ?_
  refine cy_region ?_
  refine sy_move rfl rfl rfl ?_
  refine sy_invoke rfl rfl rfl (fun w => unwR s e w) (unwrap_c s e h) rfl rfl ?_
  refine sy_assign rfl rfl rfl ?_
  refine sy_nil rfl ?_
  refine ny_next ?_
  refine cy_seq ?_
  refine cy_region ?_
  refine sy_move rfl rfl rfl ?_
  refine sy_eqn Tryz.underlying26 rfl rfl rfl rfl rfl ?_
  refine sy_setF (d := 43) rfl rfl rfl ?_
  refine sy_nil rfl ?_
  refine ny_next ?_
  refine cy_condF rfl ?_
  refine cy_skip ?_
  refine ny_blockN ?_
  refine ny_blockN ?_
  refine ny_again ?_
  refine cy_block ?_
  refine cy_seq ?_
  refine cy_seq ?_
  refine cy_region ?_
  refine sy_move rfl rfl rfl ?_
  refine sy_exq rfl (fun w hs => tofE _ w) rfl rfl ?_
  refine sy_move rfl rfl rfl ?_
  refine sy_invq rfl rfl (fun w => cAssE w) rfl rfl ?_
  refine sy_setT (d := 19) rfl rfl rfl ?_
  refine sy_nil rfl ?_
  refine ny_next ?_
  refine cy_condT rfl ?_
  refine cy_seq ?_
  refine cy_region ?_
  first | refine sy_ldar 0 agg_62 rfl rfl rfl rfl rfl ?_ | refine sy_ldar 1 agg_62 rfl rfl rfl rfl rfl ?_ | refine sy_ldar 2 agg_62 rfl rfl rfl rfl rfl ?_ | refine sy_ldar 3 agg_62 rfl rfl rfl rfl rfl ?_ | refine sy_ldar 4 agg_62 rfl rfl rfl rfl rfl ?_ | refine sy_ldar 5 agg_62 rfl rfl rfl rfl rfl ?_
  refine sy_exq rfl (fun w hs => elmP ⟨bq, 0, none⟩ ⟨b, 0, none⟩ w (hs.sub.cell (Hp.blk hq 0 _ rfl))) rfl rfl ?_
  refine sy_move rfl rfl rfl ?_
  refine sy_exn (v := fun b2 => .agg #[.pointer (some ⟨2, 29, none⟩), .pointer (some ⟨b2, 0, none⟩), .int .u64 130]) rfl (fun w => vofE e w) rfl rfl (fun b23 hb23 hM23 => ?_) (by simp only [List.mem_singleton]; rintro _ rfl; exact hb0)
  refine sy_exw2 (off := 0) (old := .int .i64 x0) (new := .int .i64 e) (cs := [.int .i64 x0]) 2 rfl rfl rfl rfl (fun w hs hc hz => setX ⟨b, 0, none⟩ ⟨b23, 0, none⟩ e _ w (hs.cellQ 0 (cs := [.int .i64 e]) rfl rfl) hc hz) rfl rfl ?_
  refine sy_nil rfl ?_
  refine ny_next ?_
  refine cy_seq ?_
  refine cy_region ?_
  refine sy_assign rfl rfl rfl ?_
  refine sy_nil rfl ?_
  refine ny_next ?_
  refine cy_ret ?_
  refine ny_thenR ?_
  refine ny_blockR ?_
  refine ny_thenR ?_
  refine ny_blockR ?_
  exact ny_finR (res1 rfl rfl) (fun w hs => ⟨(), _, _, rfl, rfl, hs.toTurn⟩)
set_option maxRecDepth 100000 in
theorem asR_c (s : ByteArray) (e x0 : Int) (b : Nat) (h : Hp) (hG : h.cell ⟨0, 0, none⟩ = some (.iface 90 (.agg #[.pointer (some ⟨2, 26, none⟩)]))) : CXM Tryz.prog 15 [.iface 51 (.agg #[.string s, .int .i64 e]), .iface 45 (.pointer (some ⟨b, 0, none⟩))] h b (.cells [.int .i64 x0].toArray 29 (0, 0)) (fun _ : Unit => .bool true) (fun _ _ o => o = .cells [.int .i64 e].toArray 29 (0, 0)) := by
  refine enterXM Tryz.func15 rfl rfl rfl (fun w hb0 => ?_)
  refine cy_seq ?_
  refine cy_region ?_
  refine sy_assign rfl rfl rfl ?_
  refine sy_nil rfl ?_
  refine ny_next ?_
  refine cy_seq ?_
  refine cy_seq ?_
  refine cy_region ?_
  refine sy_move rfl rfl rfl ?_
  refine sy_eqn Tryz.underlying26 rfl rfl rfl rfl rfl ?_
  refine sy_setF (d := 9) rfl rfl rfl ?_
  refine sy_nil rfl ?_
  refine ny_next ?_
  refine cy_condF rfl ?_
  refine cy_skip ?_
  refine ny_next ?_
  refine cy_seq ?_
  refine cy_seq ?_
  refine cy_region ?_
  refine sy_move rfl rfl rfl ?_
  refine sy_eqn Tryz.underlying20 rfl rfl rfl rfl rfl ?_
  refine sy_setF (d := 11) rfl rfl rfl ?_
  refine sy_nil rfl ?_
  refine ny_next ?_
  refine cy_condF rfl ?_
  refine cy_skip ?_
  refine ny_next ?_
  refine cy_seq ?_
  refine cy_region ?_
  refine sy_move rfl rfl rfl ?_
  refine sy_exn (v := fun b2 => .agg #[.pointer (some ⟨2, 45, none⟩), .pointer (some ⟨b2, 0, none⟩), .int .u64 150]) rfl (fun w => vofP ⟨b, 0, none⟩ w) rfl rfl (fun b14 hb14 hM14 => ?_) (by simp only [List.mem_singleton]; rintro _ rfl; exact hb0)
  refine sy_frz 0 rfl hM14 (fun hq hleq hbq => ?_)
  refine sy_alloc zer_62 rfl rfl (fun b5 hb5 hM5 => ?_) (by simp only [List.mem_singleton]; rintro _ rfl; exact hb0)
  first | refine sy_stl 0 sz_62 rfl rfl rfl rfl rfl rfl rfl rfl ?_ | refine sy_stl 1 sz_62 rfl rfl rfl rfl rfl rfl rfl rfl ?_ | refine sy_stl 2 sz_62 rfl rfl rfl rfl rfl rfl rfl rfl ?_ | refine sy_stl 3 sz_62 rfl rfl rfl rfl rfl rfl rfl rfl ?_ | refine sy_stl 4 sz_62 rfl rfl rfl rfl rfl rfl rfl rfl ?_ | refine sy_stl 5 sz_62 rfl rfl rfl rfl rfl rfl rfl rfl ?_
  refine sy_nil rfl ?_
  refine ny_next ?_
  refine cy_seq ?_
  refine cy_region ?_
  first | refine sy_ldar 0 agg_62 rfl rfl rfl rfl rfl ?_ | refine sy_ldar 1 agg_62 rfl rfl rfl rfl rfl ?_ | refine sy_ldar 2 agg_62 rfl rfl rfl rfl rfl ?_ | refine sy_ldar 3 agg_62 rfl rfl rfl rfl rfl ?_ | refine sy_ldar 4 agg_62 rfl rfl rfl rfl rfl ?_ | refine sy_ldar 5 agg_62 rfl rfl rfl rfl rfl ?_
  refine sy_exq rfl (fun w hs => typP ⟨b14, 0, none⟩ w) rfl rfl ?_
  refine sy_assign rfl rfl rfl ?_
  refine sy_nil rfl ?_
  refine ny_next ?_
  refine cy_seq ?_
  refine cy_seq ?_
  refine cy_region ?_
  refine sy_move rfl rfl rfl ?_
  refine sy_invq rfl rfl (fun w => cKindP w) rfl rfl ?_
  refine sy_cmp rfl rfl rfl rfl rfl ?_
  refine sy_setF (d := 19) rfl rfl rfl ?_
  refine sy_move rfl rfl rfl ?_
  first | refine sy_ldar 0 agg_62 rfl rfl rfl rfl rfl ?_ | refine sy_ldar 1 agg_62 rfl rfl rfl rfl rfl ?_ | refine sy_ldar 2 agg_62 rfl rfl rfl rfl rfl ?_ | refine sy_ldar 3 agg_62 rfl rfl rfl rfl rfl ?_ | refine sy_ldar 4 agg_62 rfl rfl rfl rfl rfl ?_ | refine sy_ldar 5 agg_62 rfl rfl rfl rfl rfl ?_
  refine sy_exq rfl (fun w hs => nilP ⟨b14, 0, none⟩ ⟨b, 0, none⟩ w (hs.sub.cell (Hp.blk hbq 0 _ rfl))) rfl rfl ?_
  refine sy_pickF rfl rfl rfl rfl ?_
  refine sy_setF (d := 23) rfl rfl rfl ?_
  refine sy_nil rfl ?_
  refine ny_next ?_
  refine cy_condF rfl ?_
  refine cy_skip ?_
  refine ny_next ?_
  refine cy_seq ?_
  refine cy_region ?_
  refine sy_move rfl rfl rfl ?_
  refine sy_invq rfl rfl (fun w => cElem w) rfl rfl ?_
  refine sy_assign rfl rfl rfl ?_
  refine sy_nil rfl ?_
  refine ny_next ?_
  refine cy_seq ?_
  refine cy_seq ?_
  refine cy_region ?_
  refine sy_move rfl rfl rfl ?_
  refine sy_invq rfl rfl (fun w => cKindE w) rfl rfl ?_
  refine sy_cmp rfl rfl rfl rfl rfl ?_
  refine sy_setT (d := 29) rfl rfl rfl ?_
  refine sy_move rfl rfl rfl ?_
  refine sy_move rfl rfl rfl ?_
  refine sy_ldh one_56 rfl (hleq.cell hG) rfl rfl ?_
  refine sy_invq rfl rfl (fun w => cImp w) rfl rfl ?_
  refine sy_setT (d := 33) rfl rfl rfl ?_
  refine sy_not rfl rfl rfl ?_
  refine sy_pickT rfl rfl rfl rfl ?_
  refine sy_setF (d := 35) rfl rfl rfl ?_
  refine sy_nil rfl ?_
  refine ny_next ?_
  refine cy_condF rfl ?_
  refine cy_skip ?_
  refine ny_next ?_
  refine cy_seq ?_
  refine cy_region ?_
  refine sy_move rfl rfl rfl ?_
  refine sy_move rfl rfl rfl ?_
  first | refine sy_ldar 0 agg_62 rfl rfl rfl rfl rfl ?_ | refine sy_ldar 1 agg_62 rfl rfl rfl rfl rfl ?_ | refine sy_ldar 2 agg_62 rfl rfl rfl rfl rfl ?_ | refine sy_ldar 3 agg_62 rfl rfl rfl rfl rfl ?_ | refine sy_ldar 4 agg_62 rfl rfl rfl rfl rfl ?_ | refine sy_ldar 5 agg_62 rfl rfl rfl rfl rfl ?_
  refine sy_move rfl rfl rfl ?_
  refine sy_callxm 1 call_36 rfl rfl (as2R_c s e x0 b b14 hq hbq) rfl rfl (fun x41 h41 o41 hx41 hle41 => ?_)
  subst hx41
  refine sy_assign rfl rfl rfl ?_
  refine sy_nil rfl ?_
  refine ny_next ?_
  refine cy_ret ?_
  exact ny_finR (res1 rfl rfl) (fun w hs => ⟨(), _, _, rfl, rfl, hs.toTurn⟩)
set_option maxRecDepth 100000 in
theorem codeR_c (s : ByteArray) (e : Int) (h : Hp) (hG : h.cell ⟨0, 0, none⟩ = some (.iface 90 (.agg #[.pointer (some ⟨2, 26, none⟩)]))) : C0 Tryz.prog 7 [.iface 51 (.agg #[.string s, .int .i64 e])] h (.int .i64 e) := by
  refine enter0 Tryz.func7 rfl rfl rfl (fun w => ?_)
  refine cy_seq ?_
  refine cy_region ?_
  refine sy_assign rfl rfl rfl ?_
  refine sy_nil rfl ?_
  refine ny_next ?_
  refine cy_seq ?_
  refine cy_region ?_
  refine sy_alloc zer_29 rfl rfl (fun b3 hb3 hM3 => ?_) (by simp)
  refine sy_nil rfl ?_
  refine ny_next ?_
  refine cy_seq ?_
  refine cy_block ?_
  refine cy_seq ?_
  refine cy_region ?_
  refine sy_move rfl rfl rfl ?_
  refine sy_eqn Tryz.underlying26 rfl rfl rfl rfl rfl ?_
  refine sy_setF (d := 6) rfl rfl rfl ?_
  refine sy_assign rfl rfl rfl ?_
  refine sy_nil rfl ?_
  refine ny_next ?_
  refine cy_condF rfl ?_
  refine cy_seq ?_
  refine cy_region ?_
  refine sy_move rfl rfl rfl ?_
  refine sy_iface Tryz.underlying29 rfl rfl rfl rfl ?_
  refine sy_call rfl call_14 rfl (isR_c s e h) rfl rfl ?_
  refine sy_assign rfl rfl rfl ?_
  refine sy_nil rfl ?_
  refine ny_next ?_
  refine cy_cond rfl (fun hc7 => ?_) (fun hc7 => ?_)
  · refine cy_seq ?_
    refine cy_region ?_
    refine sy_assign rfl rfl rfl ?_
    refine sy_nil rfl ?_
    refine ny_next ?_
    refine cy_ret ?_
    refine ny_blockR ?_
    refine ny_thenR ?_
    refine ny_finR (res1 rfl rfl) (fun w hs => ⟨?_, hs.frm⟩)
    first | rfl | (have he1 := eq_of_beq hc7; rw [he1]) | (simp_all; done)
  · refine cy_seq ?_
    refine cy_region ?_
    refine sy_move rfl rfl rfl ?_
    refine sy_iface Tryz.underlying45 rfl rfl rfl rfl ?_
    refine sy_callxm 0 call_15 rfl rfl (asR_c s e 0 _ h hG) rfl rfl (fun x14 h14 o14 hx14 hle14 => ?_)
    subst hx14
    refine sy_setT (d := 14) rfl rfl rfl ?_
    refine sy_assign rfl rfl rfl ?_
    refine sy_nil rfl ?_
    refine ny_next ?_
    refine cy_condT rfl ?_
    refine cy_seq ?_
    refine cy_region ?_
    first | refine sy_ldr 0 one_29 rfl rfl rfl rfl rfl ?_ | refine sy_ldr 1 one_29 rfl rfl rfl rfl rfl ?_ | refine sy_ldr 2 one_29 rfl rfl rfl rfl rfl ?_
    refine sy_assign rfl rfl rfl ?_
    refine sy_nil rfl ?_
    refine ny_next ?_
    refine cy_ret ?_
    refine ny_blockR ?_
    refine ny_thenR ?_
    refine ny_finR (res1 rfl rfl) (fun w hs => ⟨?_, hs.frm⟩)
    first | rfl | (have he1 := eq_of_beq hc7; rw [he1]) | (simp_all; done)
set_option maxRecDepth 100000 in
theorem as2E_c (e x0 : Int) (b bq : Nat) (h : Hp) (hq : h bq = some (.cells #[.pointer (some ⟨b, 0, none⟩)] 45 (0, 0))) : CXM Tryz.prog 36 [.iface 29 (.int .i64 e), .iface 45 (.pointer (some ⟨b, 0, none⟩)), .agg #[.pointer (some ⟨2, 45, none⟩), .pointer (some ⟨bq, 0, none⟩), .int .u64 150], .iface 90 (.agg #[.pointer (some ⟨2, 29, none⟩)])] h b (.cells [.int .i64 x0].toArray 29 (0, 0)) (fun _ : Unit => .bool true) (fun _ _ o => o = .cells [.int .i64 e].toArray 29 (0, 0)) := by
  refine enterXM Tryz.func36 rfl rfl rfl (fun w hb0 => ?_)
  refine cy_seq ?_
  refine cy_region ?_
  refine sy_box rfl rfl rfl rfl (fun b6 hb6 hM6 => ?_) (by simp only [List.mem_singleton]; rintro _ rfl; exact hb0)
  refine sy_assign rfl rfl rfl ?_
  refine sy_nil rfl ?_
  refine ny_next ?_
  refine cy_block ?_
  refine cy_rounds 0 ?_
  refine cy_block ?_
  refine cy_seq ?_
  refine cy_seq ?_
  refine cy_region ?_
  refine sy_move rfl rfl rfl ?_
  refine sy_exq rfl (fun w hs => tofE _ w) rfl rfl ?_
  refine sy_move rfl rfl rfl ?_
  refine sy_invq rfl rfl (fun w => cAssE w) rfl rfl ?_
  refine sy_setT (d := 19) rfl rfl rfl ?_
  refine sy_nil rfl ?_
  refine ny_next ?_
  refine cy_condT rfl ?_
  refine cy_seq ?_
  refine cy_region ?_
  first | refine sy_ldar 0 agg_62 rfl rfl rfl rfl rfl ?_ | refine sy_ldar 1 agg_62 rfl rfl rfl rfl rfl ?_ | refine sy_ldar 2 agg_62 rfl rfl rfl rfl rfl ?_ | refine sy_ldar 3 agg_62 rfl rfl rfl rfl rfl ?_ | refine sy_ldar 4 agg_62 rfl rfl rfl rfl rfl ?_ | refine sy_ldar 5 agg_62 rfl rfl rfl rfl rfl ?_
  refine sy_exq rfl (fun w hs => elmP ⟨bq, 0, none⟩ ⟨b, 0, none⟩ w (hs.sub.cell (Hp.blk hq 0 _ rfl))) rfl rfl ?_
  refine sy_move rfl rfl rfl ?_
  refine sy_exn (v := fun b2 => .agg #[.pointer (some ⟨2, 29, none⟩), .pointer (some ⟨b2, 0, none⟩), .int .u64 130]) rfl (fun w => vofE e w) rfl rfl (fun b23 hb23 hM23 => ?_) (by simp only [List.mem_singleton]; rintro _ rfl; exact hb0)
  refine sy_exw2 (off := 0) (old := .int .i64 x0) (new := .int .i64 e) (cs := [.int .i64 x0]) 2 rfl rfl rfl rfl (fun w hs hc hz => setX ⟨b, 0, none⟩ ⟨b23, 0, none⟩ e _ w (hs.cellQ 0 (cs := [.int .i64 e]) rfl rfl) hc hz) rfl rfl ?_
  refine sy_nil rfl ?_
  refine ny_next ?_
  refine cy_seq ?_
  refine cy_region ?_
  refine sy_assign rfl rfl rfl ?_
  refine sy_nil rfl ?_
  refine ny_next ?_
  refine cy_ret ?_
  refine ny_thenR ?_
  refine ny_blockR ?_
  refine ny_thenR ?_
  refine ny_blockR ?_
  exact ny_finR (res1 rfl rfl) (fun w hs => ⟨(), _, _, rfl, rfl, hs.toTurn⟩)
set_option maxRecDepth 100000 in
theorem asE_c (e x0 : Int) (b : Nat) (h : Hp) (hG : h.cell ⟨0, 0, none⟩ = some (.iface 90 (.agg #[.pointer (some ⟨2, 26, none⟩)]))) : CXM Tryz.prog 15 [.iface 29 (.int .i64 e), .iface 45 (.pointer (some ⟨b, 0, none⟩))] h b (.cells [.int .i64 x0].toArray 29 (0, 0)) (fun _ : Unit => .bool true) (fun _ _ o => o = .cells [.int .i64 e].toArray 29 (0, 0)) := by
  refine enterXM Tryz.func15 rfl rfl rfl (fun w hb0 => ?_)
  refine cy_seq ?_
  refine cy_region ?_
  refine sy_assign rfl rfl rfl ?_
  refine sy_nil rfl ?_
  refine ny_next ?_
  refine cy_seq ?_
  refine cy_seq ?_
  refine cy_region ?_
  refine sy_move rfl rfl rfl ?_
  refine sy_eqn Tryz.underlying26 rfl rfl rfl rfl rfl ?_
  refine sy_setF (d := 9) rfl rfl rfl ?_
  refine sy_nil rfl ?_
  refine ny_next ?_
  refine cy_condF rfl ?_
  refine cy_skip ?_
  refine ny_next ?_
  refine cy_seq ?_
  refine cy_seq ?_
  refine cy_region ?_
  refine sy_move rfl rfl rfl ?_
  refine sy_eqn Tryz.underlying20 rfl rfl rfl rfl rfl ?_
  refine sy_setF (d := 11) rfl rfl rfl ?_
  refine sy_nil rfl ?_
  refine ny_next ?_
  refine cy_condF rfl ?_
  refine cy_skip ?_
  refine ny_next ?_
  refine cy_seq ?_
  refine cy_region ?_
  refine sy_move rfl rfl rfl ?_
  refine sy_exn (v := fun b2 => .agg #[.pointer (some ⟨2, 45, none⟩), .pointer (some ⟨b2, 0, none⟩), .int .u64 150]) rfl (fun w => vofP ⟨b, 0, none⟩ w) rfl rfl (fun b14 hb14 hM14 => ?_) (by simp only [List.mem_singleton]; rintro _ rfl; exact hb0)
  refine sy_frz 0 rfl hM14 (fun hq hleq hbq => ?_)
  refine sy_alloc zer_62 rfl rfl (fun b5 hb5 hM5 => ?_) (by simp only [List.mem_singleton]; rintro _ rfl; exact hb0)
  first | refine sy_stl 0 sz_62 rfl rfl rfl rfl rfl rfl rfl rfl ?_ | refine sy_stl 1 sz_62 rfl rfl rfl rfl rfl rfl rfl rfl ?_ | refine sy_stl 2 sz_62 rfl rfl rfl rfl rfl rfl rfl rfl ?_ | refine sy_stl 3 sz_62 rfl rfl rfl rfl rfl rfl rfl rfl ?_ | refine sy_stl 4 sz_62 rfl rfl rfl rfl rfl rfl rfl rfl ?_ | refine sy_stl 5 sz_62 rfl rfl rfl rfl rfl rfl rfl rfl ?_
  refine sy_nil rfl ?_
  refine ny_next ?_
  refine cy_seq ?_
  refine cy_region ?_
  first | refine sy_ldar 0 agg_62 rfl rfl rfl rfl rfl ?_ | refine sy_ldar 1 agg_62 rfl rfl rfl rfl rfl ?_ | refine sy_ldar 2 agg_62 rfl rfl rfl rfl rfl ?_ | refine sy_ldar 3 agg_62 rfl rfl rfl rfl rfl ?_ | refine sy_ldar 4 agg_62 rfl rfl rfl rfl rfl ?_ | refine sy_ldar 5 agg_62 rfl rfl rfl rfl rfl ?_
  refine sy_exq rfl (fun w hs => typP ⟨b14, 0, none⟩ w) rfl rfl ?_
  refine sy_assign rfl rfl rfl ?_
  refine sy_nil rfl ?_
  refine ny_next ?_
  refine cy_seq ?_
  refine cy_seq ?_
  refine cy_region ?_
  refine sy_move rfl rfl rfl ?_
  refine sy_invq rfl rfl (fun w => cKindP w) rfl rfl ?_
  refine sy_cmp rfl rfl rfl rfl rfl ?_
  refine sy_setF (d := 19) rfl rfl rfl ?_
  refine sy_move rfl rfl rfl ?_
  first | refine sy_ldar 0 agg_62 rfl rfl rfl rfl rfl ?_ | refine sy_ldar 1 agg_62 rfl rfl rfl rfl rfl ?_ | refine sy_ldar 2 agg_62 rfl rfl rfl rfl rfl ?_ | refine sy_ldar 3 agg_62 rfl rfl rfl rfl rfl ?_ | refine sy_ldar 4 agg_62 rfl rfl rfl rfl rfl ?_ | refine sy_ldar 5 agg_62 rfl rfl rfl rfl rfl ?_
  refine sy_exq rfl (fun w hs => nilP ⟨b14, 0, none⟩ ⟨b, 0, none⟩ w (hs.sub.cell (Hp.blk hbq 0 _ rfl))) rfl rfl ?_
  refine sy_pickF rfl rfl rfl rfl ?_
  refine sy_setF (d := 23) rfl rfl rfl ?_
  refine sy_nil rfl ?_
  refine ny_next ?_
  refine cy_condF rfl ?_
  refine cy_skip ?_
  refine ny_next ?_
  refine cy_seq ?_
  refine cy_region ?_
  refine sy_move rfl rfl rfl ?_
  refine sy_invq rfl rfl (fun w => cElem w) rfl rfl ?_
  refine sy_assign rfl rfl rfl ?_
  refine sy_nil rfl ?_
  refine ny_next ?_
  refine cy_seq ?_
  refine cy_seq ?_
  refine cy_region ?_
  refine sy_move rfl rfl rfl ?_
  refine sy_invq rfl rfl (fun w => cKindE w) rfl rfl ?_
  refine sy_cmp rfl rfl rfl rfl rfl ?_
  refine sy_setT (d := 29) rfl rfl rfl ?_
  refine sy_move rfl rfl rfl ?_
  refine sy_move rfl rfl rfl ?_
  refine sy_ldh one_56 rfl (hleq.cell hG) rfl rfl ?_
  refine sy_invq rfl rfl (fun w => cImp w) rfl rfl ?_
  refine sy_setT (d := 33) rfl rfl rfl ?_
  refine sy_not rfl rfl rfl ?_
  refine sy_pickT rfl rfl rfl rfl ?_
  refine sy_setF (d := 35) rfl rfl rfl ?_
  refine sy_nil rfl ?_
  refine ny_next ?_
  refine cy_condF rfl ?_
  refine cy_skip ?_
  refine ny_next ?_
  refine cy_seq ?_
  refine cy_region ?_
  refine sy_move rfl rfl rfl ?_
  refine sy_move rfl rfl rfl ?_
  first | refine sy_ldar 0 agg_62 rfl rfl rfl rfl rfl ?_ | refine sy_ldar 1 agg_62 rfl rfl rfl rfl rfl ?_ | refine sy_ldar 2 agg_62 rfl rfl rfl rfl rfl ?_ | refine sy_ldar 3 agg_62 rfl rfl rfl rfl rfl ?_ | refine sy_ldar 4 agg_62 rfl rfl rfl rfl rfl ?_ | refine sy_ldar 5 agg_62 rfl rfl rfl rfl rfl ?_
  refine sy_move rfl rfl rfl ?_
  refine sy_callxm 1 call_36 rfl rfl (as2E_c e x0 b b14 hq hbq) rfl rfl (fun x41 h41 o41 hx41 hle41 => ?_)
  subst hx41
  refine sy_assign rfl rfl rfl ?_
  refine sy_nil rfl ?_
  refine ny_next ?_
  refine cy_ret ?_
  exact ny_finR (res1 rfl rfl) (fun w hs => ⟨(), _, _, rfl, rfl, hs.toTurn⟩)
set_option maxRecDepth 100000 in
theorem codeE_c (e : Int) (h : Hp) (hG : h.cell ⟨0, 0, none⟩ = some (.iface 90 (.agg #[.pointer (some ⟨2, 26, none⟩)]))) : C0 Tryz.prog 7 [.iface 29 (.int .i64 e)] h (.int .i64 e) := by
  refine enter0 Tryz.func7 rfl rfl rfl (fun w => ?_)
  refine cy_seq ?_
  refine cy_region ?_
  refine sy_assign rfl rfl rfl ?_
  refine sy_nil rfl ?_
  refine ny_next ?_
  refine cy_seq ?_
  refine cy_region ?_
  refine sy_alloc zer_29 rfl rfl (fun b3 hb3 hM3 => ?_) (by simp)
  refine sy_nil rfl ?_
  refine ny_next ?_
  refine cy_seq ?_
  refine cy_block ?_
  refine cy_seq ?_
  refine cy_region ?_
  refine sy_move rfl rfl rfl ?_
  refine sy_eqn Tryz.underlying26 rfl rfl rfl rfl rfl ?_
  refine sy_setF (d := 6) rfl rfl rfl ?_
  refine sy_assign rfl rfl rfl ?_
  refine sy_nil rfl ?_
  refine ny_next ?_
  refine cy_condF rfl ?_
  refine cy_seq ?_
  refine cy_region ?_
  refine sy_move rfl rfl rfl ?_
  refine sy_iface Tryz.underlying29 rfl rfl rfl rfl ?_
  refine sy_call rfl call_14 rfl (isE_c e h) rfl rfl ?_
  refine sy_assign rfl rfl rfl ?_
  refine sy_nil rfl ?_
  refine ny_next ?_
  refine cy_cond rfl (fun hc7 => ?_) (fun hc7 => ?_)
  · refine cy_seq ?_
    refine cy_region ?_
    refine sy_assign rfl rfl rfl ?_
    refine sy_nil rfl ?_
    refine ny_next ?_
    refine cy_ret ?_
    refine ny_blockR ?_
    refine ny_thenR ?_
    refine ny_finR (res1 rfl rfl) (fun w hs => ⟨?_, hs.frm⟩)
    first | rfl | (have he1 := eq_of_beq hc7; rw [he1]) | (simp_all; done)
  · refine cy_seq ?_
    refine cy_region ?_
    refine sy_move rfl rfl rfl ?_
    refine sy_iface Tryz.underlying45 rfl rfl rfl rfl ?_
    refine sy_callxm 0 call_15 rfl rfl (asE_c e 0 _ h hG) rfl rfl (fun x14 h14 o14 hx14 hle14 => ?_)
    subst hx14
    refine sy_setT (d := 14) rfl rfl rfl ?_
    refine sy_assign rfl rfl rfl ?_
    refine sy_nil rfl ?_
    refine ny_next ?_
    refine cy_condT rfl ?_
    refine cy_seq ?_
    refine cy_region ?_
    first | refine sy_ldr 0 one_29 rfl rfl rfl rfl rfl ?_ | refine sy_ldr 1 one_29 rfl rfl rfl rfl rfl ?_ | refine sy_ldr 2 one_29 rfl rfl rfl rfl rfl ?_
    refine sy_assign rfl rfl rfl ?_
    refine sy_nil rfl ?_
    refine ny_next ?_
    refine cy_ret ?_
    refine ny_blockR ?_
    refine ny_thenR ?_
    refine ny_finR (res1 rfl rfl) (fun w hs => ⟨?_, hs.frm⟩)
    first | rfl | (have he1 := eq_of_beq hc7; rw [he1]) | (simp_all; done)
set_option maxRecDepth 100000 in
theorem codeN_c (h : Hp) : C0 Tryz.prog 7 [.nilIface] h (.int .i64 0) := by
  refine enter0 Tryz.func7 rfl rfl rfl (fun w => ?_)
  refine cy_seq ?_
  refine cy_region ?_
  refine sy_assign rfl rfl rfl ?_
  refine sy_nil rfl ?_
  refine ny_next ?_
  refine cy_seq ?_
  refine cy_region ?_
  refine sy_alloc zer_29 rfl rfl (fun b3 hb3 hM3 => ?_) (by simp)
  refine sy_nil rfl ?_
  refine ny_next ?_
  refine cy_seq ?_
  refine cy_block ?_
  refine cy_seq ?_
  refine cy_region ?_
  refine sy_move rfl rfl rfl ?_
  refine sy_eqn Tryz.underlying26 rfl rfl rfl rfl rfl ?_
  refine sy_setT (d := 6) rfl rfl rfl ?_
  refine sy_assign rfl rfl rfl ?_
  refine sy_nil rfl ?_
  refine ny_next ?_
  refine cy_condT rfl ?_
  refine cy_seq ?_
  refine cy_region ?_
  refine sy_assign rfl rfl rfl ?_
  refine sy_nil rfl ?_
  refine ny_next ?_
  refine cy_ret ?_
  refine ny_blockR ?_
  refine ny_thenR ?_
  refine ny_finR (res1 rfl rfl) (fun w hs => ⟨?_, hs.frm⟩)
  rfl
end Go.Proofs.YtdbeiaohibgmeaaGreatDoor
set_option linter.unusedVariables false
set_option linter.unusedSimpArgs false
namespace Go.Proofs.YtdbeiaohibgmeaaGreatDoor.E
open Go.RowKit
section
variable {m : Md} {P : Program} {ops : Array Oper} {Q : Exit → Act → World → Prop} {n : Nat} {D : List Deferred} {w0 : World} {M : List Nat} {h0 : Hp}
variable {f : Tab} {h : Hp} {H : List Res} {rest : List Oper} {o : Oper}
variable {d t s : Nat} {p : String} {af : Array Edge} {g : Option (Nat × Bool)}
theorem run_remU {a b z : Int} (h1 : 0 < b) (hz : Int.tmod a b = z) (hl : 0 ≤ z) (hu : z ≤ 18446744073709551615) (w : World) : (binOp .rem s (.int .u64 a) (.int .u64 b)).run P w = .ok (.int .u64 z) w := by
  have h5 : ¬ b = 0 := by omega
  have h6 : ¬ b = -1 := by omega
  subst hz
  simp [binOp, Op.intDiv, h5, IntWalk.u64_in (Int.tmod a b) ⟨hl, hu⟩]
theorem sy_remU {x y : Operand} {m1 m2 z : Int} {s2 : Nat} (hx : f.ev x = some (.int .u64 m1)) (hy : f.ev y = some (.int .u64 m2)) (h1 : 0 < m2) (hz : Int.tmod m1 m2 = z) (hl : 0 ≤ z) (hu : z ≤ 18446744073709551615) (hw : gok ops f g = some true) (hn : Nat.blt d n = true)
    (k : Sy m P ops Q n D w0 M h0 rest ((d, .int .u64 z) :: f) h H) : Sy m P ops Q n D w0 M h0 (⟨some d, .binOp .rem s x y s2, t, p, af, g⟩ :: rest) f h H :=
  sy_bin hx hy ⟨by simp, by simp⟩ (fun w => run_remU h1 hz hl hu w) hw hn k
end
theorem tmod_nat (a b : Nat) : Int.tmod (a : Int) (b : Int) = ((a % b : Nat) : Int) := rfl
theorem tdiv_nat (a b : Nat) : Int.tdiv (a : Int) (b : Int) = ((a / b : Nat) : Int) := rfl
theorem back_u64 {n : Nat} (h : n ≤ 9223372036854775808) : IntKind.u64.wrap (IntKind.i64.wrap (n : Int)) = (n : Int) := by
  by_cases h2 : n ≤ 9223372036854775807
  · rw [IntWalk.i64_in _ ⟨by omega, by omega⟩, IntWalk.u64_in _ ⟨by omega, by omega⟩]
  · have : n = 9223372036854775808 := by omega
    subst this
    decide
theorem ba_snoc (a : List UInt8) (u : UInt8) : (⟨a.toArray⟩ : ByteArray) ++ ⟨#[u]⟩ = ⟨(a ++ [u]).toArray⟩ := by
  apply ByteArray.ext
  simp
end Go.Proofs.YtdbeiaohibgmeaaGreatDoor.E
set_option linter.unusedVariables false
set_option linter.unusedSimpArgs false
namespace Go.Proofs.YtdbeiaohibgmeaaGreatDoor
open Go.RowKit Go.Proofs.YtdbeiaohibgmeaaGreatDoor.E Go.Proofs.YtdbeiaohibgmeaaGreatDoor.ReplP Go.Proofs.YtdbeiaohibgmeaaGreatDoor.TokP
def Hdl (h : Hp) : Prop := h.cell ⟨0, 0, none⟩ = some (.iface 90 (.agg #[.pointer (some ⟨2, 26, none⟩)]))
theorem Hdl.le {h h' : Hp} (hh : Hdl h) (hl : h.Le h') : Hdl h' := hl.cell hh
set_option maxRecDepth 100000 in
theorem figs_c (m : Nat) : ∀ (x : Nat) (h : Hp), x = m → x < 18446744073709551616 → C0 Tryz.prog 9 [.int .u64 (x : Int)] h (.string ⟨(figL x).toArray⟩) := by
  induction m using Nat.strongRecOn
  rename_i m ih
  intro x h hmx hxu
  refine enter0 Tryz.func9 rfl rfl rfl (fun w => ?_)
  refine cy_seq ?_
  refine cy_region ?_
  refine sy_assign rfl rfl rfl ?_
  refine sy_nil rfl ?_
  refine ny_next ?_
  refine cy_seq ?_
  refine cy_seq ?_
  refine cy_region ?_
  refine sy_move rfl rfl rfl ?_
  refine sy_cmp rfl rfl rfl rfl rfl ?_
  refine sy_nil rfl ?_
  refine ny_next ?_
  refine cy_cond rfl (fun hc4 => ?_) (fun hc4 => ?_)
  · have hx1 : x < 10 := by have := of_decide_eq_true hc4; omega
    refine cy_seq ?_
    refine cy_region ?_
    refine sy_move rfl rfl rfl ?_
    refine sy_addK (z := ((48 + x : Nat) : Int)) rfl rfl (by rw [IntWalk.u64_in _ ⟨by omega, by omega⟩]; omega) rfl rfl ?_
    refine sy_convK (z := ((48 + x : Nat) : Int)) Tryz.underlying33 Tryz.underlying5 rfl (by rw [IntWalk.u8_in _ ⟨by omega, by omega⟩]) rfl rfl ?_
    refine sy_buildSlice rfl (fun w => bsl_46_1_0 w) rfl rfl (fun b8 hb8 hM8 => ?_) (by simp)
    refine sy_byte1 (u := UInt8.ofNat (48 + x)) 0 Tryz.underlying46 Tryz.underlying5 Tryz.underlying9 rfl rfl (by rw [fig_byte (by omega)]) rfl rfl ?_
    refine sy_assign rfl rfl rfl ?_
    refine sy_nil rfl ?_
    refine ny_next ?_
    refine cy_ret ?_
    refine ny_thenR ?_
    refine ny_finR (res1 rfl rfl) (fun w hs => ⟨?_, hs.frm⟩)
    rw [fig_lt hx1]
  · have hx1 : ¬ x < 10 := by have := of_decide_eq_false hc4; omega
    refine cy_skip ?_
    refine ny_next ?_
    refine cy_seq ?_
    refine cy_regionA mixed ?_
    refine zy_q 0 rfl (by kernel_rfl) (fun hB3_0 => ?_)
    refine sy_move rfl rfl rfl ?_
    refine sy_nil1 (ny_zq hB3_0 ?_)
    refine zy_q 1 rfl (by kernel_rfl) (fun hB3_1 => ?_)
    refine sy_quoU (z := ((x / 10 : Nat) : Int)) rfl rfl (by decide) (tdiv_nat x 10) (by omega) (by omega) rfl rfl ?_
    refine sy_nil1 (ny_zq hB3_1 ?_)
    refine zy_q 3 rfl (by kernel_rfl) (fun hB3_3 => ?_)
    refine sy_move rfl rfl rfl ?_
    refine sy_nil1 (ny_zq hB3_3 ?_)
    refine zy_q 4 rfl (by kernel_rfl) (fun hB3_4 => ?_)
    refine sy_remU (z := ((x % 10 : Nat) : Int)) rfl rfl (by decide) (tmod_nat x 10) (by omega) (by omega) rfl rfl ?_
    refine sy_nil1 (ny_zq hB3_4 ?_)
    refine zy_q 5 rfl (by kernel_rfl) (fun hB3_5 => ?_)
    refine sy_addK (z := ((48 + x % 10 : Nat) : Int)) rfl rfl (by rw [IntWalk.u64_in _ ⟨by omega, by omega⟩]; omega) rfl rfl ?_
    refine sy_nil1 (ny_zq hB3_5 ?_)
    refine zy_q 6 rfl (by kernel_rfl) (fun hB3_6 => ?_)
    refine sy_convK (z := ((48 + x % 10 : Nat) : Int)) Tryz.underlying33 Tryz.underlying5 rfl (by rw [IntWalk.u8_in _ ⟨by omega, by omega⟩]) rfl rfl ?_
    refine sy_nil1 (ny_zq hB3_6 ?_)
    refine zy_2 2 7 (by kernel_rfl) ?_ ?_
    · refine zop_run rfl rfl (fun hB3_2 => ?_)
      refine sy_call rfl call_9 rfl (ih (x / 10) (by omega) (x / 10) _ rfl (by omega)) rfl rfl ?_
      refine sy_nil rfl (ny_zy hB3_2 (Hp.Le.refl _) ?_)
      refine zy_1 7 (by kernel_rfl) ?_
      refine zop_run rfl rfl (fun hB3_7 => ?_)
      refine sy_buildSlice rfl (fun w => bsl_46_1_0 w) rfl rfl (fun b17 hb17 hM17 => ?_) (by simp)
      refine sy_nil rfl (ny_zy hB3_7 (Hp.Le.refl _) ?_)
      refine zy_1 8 (by kernel_rfl) ?_
      refine zop_run rfl rfl (fun hB3_8 => ?_)
      refine sy_byte1 (u := UInt8.ofNat (48 + x % 10)) 0 Tryz.underlying46 Tryz.underlying5 Tryz.underlying9 rfl rfl (by rw [fig_byte (by omega)]) rfl rfl ?_
      refine sy_nil rfl (ny_zy hB3_8 (Hp.Le.refl _) ?_)
      refine zy_q 9 rfl (by kernel_rfl) (fun hB3_9 => ?_)
      refine sy_cat rfl rfl (by have h1 := fig_len 19 (x / 10) (by omega); show (figL (x / 10)).length + 1 ≤ _; omega) rfl rfl ?_
      refine sy_nil1 (ny_zq hB3_9 ?_)
      refine zy_q 10 rfl (by kernel_rfl) (fun hB3_10 => ?_)
      refine sy_assign rfl rfl rfl ?_
      refine sy_nil1 (ny_zq hB3_10 ?_)
      refine zy_done (by kernel_rfl) ?_
      refine ny_next ?_
      refine cy_ret ?_
      refine ny_finR (res1 rfl rfl) (fun w hs => ⟨?_, hs.frm⟩)
      rw [fig_ge hx1, ← ba_snoc]
    · refine zop_run rfl rfl (fun hB3_7 => ?_)
      refine sy_buildSlice rfl (fun w => bsl_46_1_0 w) rfl rfl (fun b17 hb17 hM17 => ?_) (by simp)
      refine sy_nil rfl (ny_zy hB3_7 (Hp.Le.refl _) ?_)
      refine zy_2 2 8 (by kernel_rfl) ?_ ?_
      · refine zop_run rfl rfl (fun hB3_2 => ?_)
        refine sy_call rfl call_9 rfl (ih (x / 10) (by omega) (x / 10) _ rfl (by omega)) rfl rfl ?_
        refine sy_nil rfl (ny_zy hB3_2 (Hp.Le.refl _) ?_)
        refine zy_1 8 (by kernel_rfl) ?_
        refine zop_run rfl rfl (fun hB3_8 => ?_)
        refine sy_byte1 (u := UInt8.ofNat (48 + x % 10)) 0 Tryz.underlying46 Tryz.underlying5 Tryz.underlying9 rfl rfl (by rw [fig_byte (by omega)]) rfl rfl ?_
        refine sy_nil rfl (ny_zy hB3_8 (Hp.Le.refl _) ?_)
        refine zy_q 9 rfl (by kernel_rfl) (fun hB3_9 => ?_)
        refine sy_cat rfl rfl (by have h1 := fig_len 19 (x / 10) (by omega); show (figL (x / 10)).length + 1 ≤ _; omega) rfl rfl ?_
        refine sy_nil1 (ny_zq hB3_9 ?_)
        refine zy_q 10 rfl (by kernel_rfl) (fun hB3_10 => ?_)
        refine sy_assign rfl rfl rfl ?_
        refine sy_nil1 (ny_zq hB3_10 ?_)
        refine zy_done (by kernel_rfl) ?_
        refine ny_next ?_
        refine cy_ret ?_
        refine ny_finR (res1 rfl rfl) (fun w hs => ⟨?_, hs.frm⟩)
        rw [fig_ge hx1, ← ba_snoc]
      · refine zop_run rfl rfl (fun hB3_8 => ?_)
        refine sy_byte1 (u := UInt8.ofNat (48 + x % 10)) 0 Tryz.underlying46 Tryz.underlying5 Tryz.underlying9 rfl rfl (by rw [fig_byte (by omega)]) rfl rfl ?_
        refine sy_nil rfl (ny_zy hB3_8 (Hp.Le.refl _) ?_)
        refine zy_1 2 (by kernel_rfl) ?_
        refine zop_run rfl rfl (fun hB3_2 => ?_)
        refine sy_call rfl call_9 rfl (ih (x / 10) (by omega) (x / 10) _ rfl (by omega)) rfl rfl ?_
        refine sy_nil rfl (ny_zy hB3_2 (Hp.Le.refl _) ?_)
        refine zy_q 9 rfl (by kernel_rfl) (fun hB3_9 => ?_)
        refine sy_cat rfl rfl (by have h1 := fig_len 19 (x / 10) (by omega); show (figL (x / 10)).length + 1 ≤ _; omega) rfl rfl ?_
        refine sy_nil1 (ny_zq hB3_9 ?_)
        refine zy_q 10 rfl (by kernel_rfl) (fun hB3_10 => ?_)
        refine sy_assign rfl rfl rfl ?_
        refine sy_nil1 (ny_zq hB3_10 ?_)
        refine zy_done (by kernel_rfl) ?_
        refine ny_next ?_
        refine cy_ret ?_
        refine ny_finR (res1 rfl rfl) (fun w hs => ⟨?_, hs.frm⟩)
        rw [fig_ge hx1, ← ba_snoc]
set_option maxRecDepth 100000 in
theorem blanks_c (s : ByteArray) (c : UInt8) (h : Hp) (hh : Hdl h) : C0 Tryz.prog 3 [.string s, .int .u8 (c.toNat : Int)] h (.bool true) := by
  refine enter0 Tryz.func3 rfl rfl rfl (fun w => ?_)
  refine cy_seq ?_
  refine cy_region ?_
  refine sy_assign rfl rfl rfl ?_
  refine sy_nil rfl ?_
  refine ny_next ?_
  refine cy_seq ?_
  refine cy_region ?_
  refine sy_call rfl call_5 rfl (shown05_c _) rfl rfl ?_
  refine sy_assign rfl rfl rfl ?_
  refine sy_nil rfl ?_
  refine ny_next ?_
  refine cy_seq ?_
  refine cy_seq ?_
  refine cy_region ?_
  refine sy_move rfl rfl rfl ?_
  refine sy_len rfl (len_string Tryz.underlying9 _) rfl rfl ?_
  refine sy_cmp rfl rfl rfl rfl rfl ?_
  refine sy_nil rfl ?_
  refine ny_next ?_
  refine cy_cond rfl (fun hc17 => ?_) (fun hc17 => ?_)
  · refine cy_seq ?_
    refine cy_region ?_
    refine sy_move rfl rfl rfl ?_
    refine sy_assign rfl rfl rfl ?_
    refine sy_nil rfl ?_
    refine ny_next ?_
    refine cy_ret ?_
    refine ny_thenR ?_
    refine ny_finR (res1 rfl rfl) (fun w hs2 => ⟨?_, hs2.frm⟩)
    rfl
  · have hs1 : s.size ≤ 2000 := by have := of_decide_eq_false hc17; omega
    have hs2 : s.data.toList.length ≤ 2000 := hs1
    have hcl := c.toNat_lt
    refine cy_skip ?_
    refine ny_next ?_
    refine cy_seq ?_
    refine cy_region ?_
    refine sy_buildSlice rfl (fun w => bsl_23_4_0x1x2x3 w) rfl rfl (fun b19 hb19 hM19 => ?_) (by simp)
    refine sy_assign rfl rfl rfl ?_
    refine sy_nil rfl ?_
    refine ny_next ?_
    refine cy_seq ?_
    refine cy_frz 0 rfl (by simp) (fun h1 hle1 hbx => ?_)
    replace hh := hh.le hle1
    have hrp : RowsAt h1 (some ⟨b19, 0, none⟩) 1 ([(⟨#[32]⟩ : ByteArray), ⟨#[9, 10]⟩, ⟨#[37, 32, 97, 32, 39, 98, 10]⟩, ⟨#[32, 37, 37, 10, 13]⟩].map fun s => [Value.string s]) := rows_blk (by decide) (by intro c hc; obtain ⟨x, _, rfl⟩ := List.mem_map.1 hc; rfl) hbx
    refine cy_region ?_
    refine sy_move rfl rfl rfl ?_
    refine sy_move rfl rfl rfl ?_
    refine sy_convK (z := (c.toNat : Int)) Tryz.underlying5 Tryz.underlying3 rfl (by rw [IntWalk.i64_in _ ⟨by omega, by omega⟩]) rfl rfl ?_
    refine sy_rem (z := ((c.toNat % 4 : Nat) : Int)) rfl rfl (by omega) (by omega) (by omega) (by omega) rfl rfl ?_
    refine sy_idxR (fc := fun s => [Value.string s]) (es := [(⟨#[32]⟩ : ByteArray), ⟨#[9, 10]⟩, ⟨#[37, 32, 97, 32, 39, 98, 10]⟩, ⟨#[32, 37, 37, 10, 13]⟩]) els_23 rfl rfl hrp rfl (by omega) rfl rfl (fun p b24 o24 he24 hA24 hc24 => ?_)
    have hpm : p.data.toList ∈ padsL := by
      have h9 := List.mem_map_of_mem (f := fun b : ByteArray => b.data.toList) (List.mem_of_getElem? he24)
      exact h9
    obtain ⟨hpad, hpl⟩ := pads_all _ hpm
    have hpz : p.size ≤ 7 := hpl
    refine sy_ldh one_9 rfl (hc24 0 _ rfl) rfl rfl ?_
    refine sy_assign rfl rfl rfl ?_
    refine sy_nil rfl ?_
    refine ny_next ?_
    refine cy_seq ?_
    refine cy_region ?_
    refine sy_move rfl rfl rfl ?_
    refine sy_cat rfl rfl (by (try simp only [ByteArray.size_append]); have e1 : (⟨#[10]⟩ : ByteArray).size = 1 := rfl; omega) rfl rfl ?_
    refine sy_callx call_6 rfl (scan3_c _ (s.data.toList ++ [10]) (by simp [ba_cat]) _) rfl rfl (fun x29 h29 hx29 hle29 => ?_)
    obtain ⟨A29, c29⟩ := x29
    obtain ⟨hr29, hq29⟩ := hx29
    simp only at hr29 hq29 ⊢
    replace hh := hh.le hle29
    refine sy_move rfl rfl rfl ?_
    refine sy_extract rfl rfl rfl rfl ?_
    refine sy_extract rfl rfl rfl rfl ?_
    refine sy_extract rfl rfl rfl rfl ?_
    refine sy_assign rfl rfl rfl ?_
    refine sy_assign rfl rfl rfl ?_
    refine sy_assign rfl rfl rfl ?_
    refine sy_nil rfl ?_
    refine ny_next ?_
    refine cy_seq ?_
    refine cy_region ?_
    refine sy_move rfl rfl rfl ?_
    refine sy_move rfl rfl rfl ?_
    refine sy_cat rfl rfl (by (try simp only [ByteArray.size_append]); have e1 : (⟨#[10]⟩ : ByteArray).size = 1 := rfl; omega) rfl rfl ?_
    refine sy_cat rfl rfl (by (try simp only [ByteArray.size_append]); have e1 : (⟨#[10]⟩ : ByteArray).size = 1 := rfl; omega) rfl rfl ?_
    refine sy_move rfl rfl rfl ?_
    refine sy_cat rfl rfl (by (try simp only [ByteArray.size_append]); have e1 : (⟨#[10]⟩ : ByteArray).size = 1 := rfl; omega) rfl rfl ?_
    refine sy_callx call_6 rfl (scan3_c _ (p.data.toList ++ (s.data.toList ++ 10 :: p.data.toList)) (by simp [ba_cat]) _) rfl rfl (fun x40 h40 hx40 hle40 => ?_)
    obtain ⟨A40, c40⟩ := x40
    obtain ⟨hr40, hq40⟩ := hx40
    simp only at hr40 hq40 ⊢
    replace hr29 := hr29.le hle40
    replace hh := hh.le hle40
    refine sy_move rfl rfl rfl ?_
    refine sy_extract rfl rfl rfl rfl ?_
    refine sy_extract rfl rfl rfl rfl ?_
    refine sy_extract rfl rfl rfl rfl ?_
    refine sy_assign rfl rfl rfl ?_
    refine sy_assign rfl rfl rfl ?_
    refine sy_assign rfl rfl rfl ?_
    refine sy_nil rfl ?_
    refine ny_next ?_
    refine cy_seq ?_
    refine cy_seq ?_
    refine cy_region ?_
    refine sy_move rfl rfl rfl ?_
    refine sy_eqn (e := (scE (scanA (s.data.toList ++ [10]))).isNone) Tryz.underlying26 rfl (nilB_err _ _) rfl rfl rfl ?_
    refine sy_nil rfl ?_
    refine ny_next ?_
    refine cy_cond rfl (fun hc45 => ?_) (fun hc45 => ?_)
    · have hn1 : ¬ scE (scanA (s.data.toList ++ [10])) = none := fun h9 => by rw [h9] at hc45; exact absurd hc45 (by decide)
      have hbb := blank_bad hs2 hpad hpl hn1
      obtain ⟨x9, hx9⟩ := Option.ne_none_iff_exists'.1 hn1
      have hx8 := hbb.1.trans hx9
      have hat := hbb.2
      have hal : scAt (scanA (s.data.toList ++ [10])) ≤ 4096 := by
        obtain ⟨_, _, hlb⟩ := sc_lb (l := s.data.toList ++ [10]) (by simp only [List.length_append, List.length_cons, List.length_nil]; omega) hn1
        have h9 := lb_at hlb
        simp only [List.length_append, List.length_cons, List.length_nil] at h9
        omega
      rw [hx9, hx8, hat]
      refine cy_seq ?_
      refine cy_region ?_
      refine sy_move rfl rfl rfl ?_
      refine sy_move rfl rfl rfl ?_
      refine sy_setT (d := 47) rfl rfl (by first | rfl | decide | kernel_rfl | (simp; done) | (simp_all; done)) ?_
      refine sy_move rfl rfl rfl ?_
      refine sy_eqn (e := false) Tryz.underlying26 rfl rfl rfl rfl rfl ?_
      refine sy_pickT rfl rfl rfl rfl ?_
      refine sy_move rfl rfl rfl ?_
      refine sy_setT (d := 51) rfl rfl (by first | rfl | decide | kernel_rfl | (simp; done) | (simp_all; done)) ?_
      refine sy_move rfl rfl rfl ?_
      refine sy_move rfl rfl rfl ?_
      refine sy_move rfl rfl rfl ?_
      refine sy_len rfl (len_string Tryz.underlying9 _) rfl rfl ?_
      refine sy_addi (z := ((scAt (scanA (s.data.toList ++ [10])) + p.data.toList.length : Nat) : Int)) rfl rfl (by show _ + (p.size : Int) = _; rw [show p.data.toList.length = p.size from rfl]; omega) (by omega) (by omega) rfl rfl ?_
      refine sy_cmp rfl rfl rfl rfl rfl ?_
      refine sy_pickT rfl rfl rfl rfl ?_
      refine sy_move rfl rfl rfl ?_
      refine sy_setT (d := 59) rfl rfl (by simp) ?_
      refine sy_move rfl rfl rfl ?_
      refine sy_call rfl call_7 rfl (codeR_c x9.1 x9.2 _ hh) rfl rfl ?_
      refine sy_move rfl rfl rfl ?_
      refine sy_call rfl call_7 rfl (codeR_c x9.1 x9.2 _ hh) rfl rfl ?_
      refine sy_cmp rfl rfl rfl rfl rfl ?_
      refine sy_pickT rfl rfl rfl rfl ?_
      refine sy_assign rfl rfl rfl ?_
      refine sy_nil rfl ?_
      refine ny_next ?_
      refine cy_ret ?_
      refine ny_thenR ?_
      refine ny_finR (res1 rfl rfl) (fun w hs2 => ⟨?_, hs2.frm⟩)
      simp
    · have hok1 : scE (scanA (s.data.toList ++ [10])) = none := Option.isNone_iff_eq_none.1 (by simpa using hc45)
      have hbo := blank_ok hs2 hpad hpl hok1
      have hf1 := (scan_fair hok1).2.2.1
      rw [List.length_append, List.length_cons, List.length_nil] at hf1
      rw [hbo] at hr40 ⊢
      refine cy_skip ?_
      refine ny_next ?_
      refine cy_seq ?_
      refine cy_region ?_
      refine sy_move rfl rfl rfl ?_
      refine sy_move rfl rfl rfl ?_
      refine sy_setT (d := 67) rfl rfl (by first | rfl | decide | kernel_rfl | (simp; done) | (simp_all; done)) ?_
      refine sy_move rfl rfl rfl ?_
      refine sy_eqn (e := true) Tryz.underlying26 rfl rfl rfl rfl rfl ?_
      refine sy_pickT rfl rfl rfl rfl ?_
      refine sy_move rfl rfl rfl ?_
      refine sy_setT (d := 71) rfl rfl (by first | rfl | decide | kernel_rfl | (simp; done) | (simp_all; done)) ?_
      refine sy_move rfl rfl rfl ?_
      refine sy_move rfl rfl rfl ?_
      refine sy_call rfl call_8 rfl (same_c2 (scTs (scanA (s.data.toList ++ [10]))) A29 A40 _ _ c29 c40 _ _ hr29 hr40 rfl rfl (by omega)) rfl rfl ?_
      refine sy_pickT rfl rfl rfl rfl ?_
      refine sy_assign rfl rfl rfl ?_
      refine sy_nil rfl ?_
      refine ny_next ?_
      refine cy_ret ?_
      refine ny_finR (res1 rfl rfl) (fun w hs2 => ⟨?_, hs2.frm⟩)
      rfl
set_option maxRecDepth 100000 in
theorem ints_c (x : Nat) (hx : x < 18446744073709551616) (c : UInt8) (h : Hp) (hh : Hdl h) : C0 Tryz.prog 4 [.int .u64 (x : Int), .int .u8 (c.toNat : Int)] h (.bool true) := by
  refine enter0 Tryz.func4 rfl rfl rfl (fun w => ?_)
  refine cy_seq ?_
  refine cy_region ?_
  refine sy_assign rfl rfl rfl ?_
  refine sy_nil rfl ?_
  refine ny_next ?_
  refine cy_seq ?_
  refine cy_region ?_
  refine sy_call rfl call_5 rfl (shown05_c _) rfl rfl ?_
  refine sy_assign rfl rfl rfl ?_
  refine sy_nil rfl ?_
  refine ny_next ?_
  refine cy_seq ?_
  refine cy_region ?_
  refine sy_move rfl rfl rfl ?_
  have hcl := c.toNat_lt
  have hl1 := fig_len 19 x (by omega)
  have hl2 := fig_len 19 c.toNat (by omega)
  refine sy_call rfl call_9 rfl (figs_c _ x _ rfl hx) rfl rfl ?_
  refine sy_assign rfl rfl rfl ?_
  refine sy_nil rfl ?_
  refine ny_next ?_
  refine cy_seq ?_
  refine cy_region ?_
  refine sy_move rfl rfl rfl ?_
  refine sy_cat rfl rfl (by (try simp only [ByteArray.size_append]); have e1 : (⟨#[32]⟩ : ByteArray).size = 1 := rfl; have e2 : (⟨#[46]⟩ : ByteArray).size = 1 := rfl; have e3 : (⟨(figL x).toArray⟩ : ByteArray).size = (figL x).length := rfl; have e4 : (⟨(figL c.toNat).toArray⟩ : ByteArray).size = (figL c.toNat).length := rfl; omega) rfl rfl ?_
  refine sy_callx call_6 rfl (scan3_c _ (32 :: figL x) (by simp [ba_cat]) _) rfl rfl (fun x19 h19 hx19 hle19 => ?_)
  obtain ⟨A19, c19⟩ := x19
  obtain ⟨hr19, hq19⟩ := hx19
  simp only at hr19 hq19 ⊢
  replace hh := hh.le hle19
  refine sy_move rfl rfl rfl ?_
  refine sy_extract rfl rfl rfl rfl ?_
  refine sy_extract rfl rfl rfl rfl ?_
  refine sy_extract rfl rfl rfl rfl ?_
  refine sy_assign rfl rfl rfl ?_
  refine sy_assign rfl rfl rfl ?_
  refine sy_assign rfl rfl rfl ?_
  refine sy_nil rfl ?_
  refine ny_next ?_
  refine cy_seq ?_
  refine cy_region ?_
  refine sy_move rfl rfl rfl ?_
  refine sy_cat rfl rfl (by (try simp only [ByteArray.size_append]); have e1 : (⟨#[32]⟩ : ByteArray).size = 1 := rfl; have e2 : (⟨#[46]⟩ : ByteArray).size = 1 := rfl; have e3 : (⟨(figL x).toArray⟩ : ByteArray).size = (figL x).length := rfl; have e4 : (⟨(figL c.toNat).toArray⟩ : ByteArray).size = (figL c.toNat).length := rfl; omega) rfl rfl ?_
  refine sy_move rfl rfl rfl ?_
  refine sy_convK (z := (c.toNat : Int)) Tryz.underlying5 Tryz.underlying33 rfl (by rw [IntWalk.u64_in _ ⟨by omega, by omega⟩]) rfl rfl ?_
  refine sy_call rfl call_9 rfl (figs_c _ c.toNat _ rfl (by omega)) rfl rfl ?_
  refine sy_cat rfl rfl (by (try simp only [ByteArray.size_append]); have e1 : (⟨#[32]⟩ : ByteArray).size = 1 := rfl; have e2 : (⟨#[46]⟩ : ByteArray).size = 1 := rfl; have e3 : (⟨(figL x).toArray⟩ : ByteArray).size = (figL x).length := rfl; have e4 : (⟨(figL c.toNat).toArray⟩ : ByteArray).size = (figL c.toNat).length := rfl; omega) rfl rfl ?_
  refine sy_callx call_6 rfl (scan3_c _ (figL x ++ 46 :: figL c.toNat) (by simp [ba_cat]) _) rfl rfl (fun x30 h30 hx30 hle30 => ?_)
  obtain ⟨A30, c30⟩ := x30
  obtain ⟨hr30, hq30⟩ := hx30
  simp only at hr30 hq30 ⊢
  replace hr19 := hr19.le hle30
  replace hh := hh.le hle30
  refine sy_move rfl rfl rfl ?_
  refine sy_extract rfl rfl rfl rfl ?_
  refine sy_extract rfl rfl rfl rfl ?_
  refine sy_extract rfl rfl rfl rfl ?_
  refine sy_assign rfl rfl rfl ?_
  refine sy_assign rfl rfl rfl ?_
  refine sy_assign rfl rfl rfl ?_
  refine sy_nil rfl ?_
  refine ny_next ?_
  refine cy_seq ?_
  refine cy_seq ?_
  refine cy_region ?_
  refine sy_move rfl rfl rfl ?_
  refine sy_cmp rfl rfl rfl rfl rfl ?_
  refine sy_nil rfl ?_
  refine ny_next ?_
  refine cy_cond rfl (fun hc35 => ?_) (fun hc35 => ?_)
  · have hbig : 9223372036854775808 < x := by have := of_decide_eq_true hc35; omega
    rw [scan_no (by simp only [List.length_cons]; omega) (lb_int hbig), scan_no (by simp only [List.length_append, List.length_cons]; omega) (lb_dot x c.toNat)]
    refine cy_seq ?_
    refine cy_region ?_
    refine sy_move rfl rfl rfl ?_
    refine sy_move rfl rfl rfl ?_
    refine sy_setT (d := 37) rfl rfl (by first | rfl | decide | kernel_rfl | (simp; done) | (simp_all; done)) ?_
    refine sy_move rfl rfl rfl ?_
    refine sy_call rfl call_7 rfl (codeR_c w2 2 _ hh) rfl rfl ?_
    refine sy_cmp rfl rfl rfl rfl rfl ?_
    refine sy_pickT rfl rfl rfl rfl ?_
    refine sy_move rfl rfl rfl ?_
    refine sy_setT (d := 42) rfl rfl (by first | rfl | decide | kernel_rfl | (simp; done) | (simp_all; done)) ?_
    refine sy_move rfl rfl rfl ?_
    refine sy_cmp rfl rfl rfl rfl rfl ?_
    refine sy_pickT rfl rfl rfl rfl ?_
    refine sy_move rfl rfl rfl ?_
    refine sy_setT (d := 46) rfl rfl (by first | rfl | decide | kernel_rfl | (simp; done) | (simp_all; done)) ?_
    refine sy_move rfl rfl rfl ?_
    refine sy_eqn (e := false) Tryz.underlying26 rfl rfl rfl rfl rfl ?_
    refine sy_pickT rfl rfl rfl rfl ?_
    refine sy_assign rfl rfl rfl ?_
    refine sy_nil rfl ?_
    refine ny_next ?_
    refine cy_ret ?_
    refine ny_thenR ?_
    refine ny_finR (res1 rfl rfl) (fun w hs2 => ⟨?_, hs2.frm⟩)
    rfl
  · have hsm : ¬ 9223372036854775808 < x := by have := of_decide_eq_false hc35; omega
    rw [scan_ok (by simp only [List.length_cons]; omega) (lx_int hsm)] at hr19 ⊢
    rw [scan_no (by simp only [List.length_append, List.length_cons]; omega) (lb_dot x c.toNat)]
    refine cy_skip ?_
    refine ny_next ?_
    refine cy_seq ?_
    refine cy_region ?_
    refine sy_move rfl rfl rfl ?_
    refine sy_move rfl rfl rfl ?_
    refine sy_setT (d := 51) rfl rfl (by first | rfl | decide | kernel_rfl | (simp; done) | (simp_all; done)) ?_
    refine sy_move rfl rfl rfl ?_
    refine sy_eqn (e := true) Tryz.underlying26 rfl rfl rfl rfl rfl ?_
    refine sy_pickT rfl rfl rfl rfl ?_
    refine sy_move rfl rfl rfl ?_
    refine sy_setT (d := 55) rfl rfl (by first | rfl | decide | kernel_rfl | (simp; done) | (simp_all; done)) ?_
    refine sy_move rfl rfl rfl ?_
    refine sy_len rfl (len_slice Tryz.underlying24 _ _ _) rfl rfl ?_
    refine sy_cmp rfl rfl rfl rfl rfl ?_
    refine sy_pickT rfl rfl rfl rfl ?_
    refine sy_move rfl rfl rfl ?_
    refine sy_setT (d := 60) rfl rfl (by first | rfl | decide | kernel_rfl | (simp; done) | (simp_all; done)) ?_
    refine sy_move rfl rfl rfl ?_
    refine sy_idxR (i := 0) (fc := tkC) (es := [(⟨.tok 3 ⟨#[]⟩ (IntKind.i64.wrap (x : Int)) false (figL x).length, false⟩ : Tk)]) els_24 rfl rfl hr19 rfl (by show 0 < 1; omega) rfl rfl (fun e62 b62 o62 he62 hA62 hc62 => ?_)
    obtain rfl := Option.some.inj (show some (⟨.tok 3 ⟨#[]⟩ (IntKind.i64.wrap (x : Int)) false (figL x).length, false⟩ : Tk) = some e62 from he62)
    refine sy_field fld_36_0 rfl rfl rfl ?_
    refine sy_ldh one_3 rfl (hc62 0 _ rfl) rfl rfl ?_
    refine sy_cmp rfl rfl rfl rfl rfl ?_
    refine sy_pickT rfl rfl rfl rfl ?_
    refine sy_move rfl rfl rfl ?_
    refine sy_setT (d := 67) rfl rfl (by first | rfl | decide | kernel_rfl | (simp; done) | (simp_all; done)) ?_
    refine sy_move rfl rfl rfl ?_
    refine sy_idxR (i := 0) (fc := tkC) (es := [(⟨.tok 3 ⟨#[]⟩ (IntKind.i64.wrap (x : Int)) false (figL x).length, false⟩ : Tk)]) els_24 rfl rfl hr19 rfl (by show 0 < 1; omega) rfl rfl (fun e69 b69 o69 he69 hA69 hc69 => ?_)
    obtain rfl := Option.some.inj (show some (⟨.tok 3 ⟨#[]⟩ (IntKind.i64.wrap (x : Int)) false (figL x).length, false⟩ : Tk) = some e69 from he69)
    refine sy_field fld_36_2 rfl rfl rfl ?_
    refine sy_ldh one_2 rfl (hc69 2 _ rfl) rfl rfl ?_
    refine sy_convK (z := (x : Int)) Tryz.underlying2 Tryz.underlying33 rfl (back_u64 (by omega)) rfl rfl ?_
    refine sy_move rfl rfl rfl ?_
    refine sy_cmp rfl rfl rfl rfl rfl ?_
    refine sy_pickT rfl rfl rfl rfl ?_
    refine sy_move rfl rfl rfl ?_
    refine sy_setT (d := 76) rfl rfl (beq_self_eq_true _) ?_
    refine sy_move rfl rfl rfl ?_
    refine sy_call rfl call_7 rfl (codeR_c w1 4 _ hh) rfl rfl ?_
    refine sy_cmp rfl rfl rfl rfl rfl ?_
    refine sy_pickT rfl rfl rfl rfl ?_
    refine sy_assign rfl rfl rfl ?_
    refine sy_nil rfl ?_
    refine ny_next ?_
    refine cy_ret ?_
    refine ny_finR (res1 rfl rfl) (fun w hs2 => ⟨?_, hs2.frm⟩)
    rfl
end Go.Proofs.YtdbeiaohibgmeaaGreatDoor
set_option linter.unusedVariables false
namespace Go.Proofs.YtdbeiaohibgmeaaGreatDoor
open Go.ChangeShapes Go.WideShapes Go.ChangeAt Go.RowKit Go.Proofs.YtdbeiaohibgmeaaGreatDoor.E
theorem own : ownKnob Tryz.prog.godebug = none := by kernel_rfl
theorem et : Tryz.prog.globalNamed "errors.errorType" = some 0 := by kernel_rfl
theorem rtT : (Tryz.prog.cutTypes.find? (·.1 == "internal/reflectlite.rtype")).map (·.2) = some 90 := by kernel_rfl
theorem typesN : Tryz.prog.types.size = 206 := by kernel_rfl
theorem oneRow : ((List.range 206).filter fun t => Tryz.prog.rowNamed t [101, 114, 114, 111, 114]) = [26] := by kernel_rfl
theorem hdl_of {W : World} (h : laidMetH Tryz.prog [("errors.errorType", Rows.laid_errors_errorType)] W) : Hdl (hpOf W) := by
  have h' := (laidMetH_iff.1 h).2
  have hm0 : ("errors.errorType", (Rows.laid_errors_errorType : DataW Unit)) ∈ ([("errors.errorType", Rows.laid_errors_errorType)] : List (String × DataW Unit)).filter fun x => x.2.handleName?.isSome := by
    have e : (([("errors.errorType", Rows.laid_errors_errorType)] : List (String × DataW Unit)).filter fun x => x.2.handleName?.isSome) = [("errors.errorType", Rows.laid_errors_errorType)] := by kernel_rfl
    rw [e]
    exact List.mem_singleton.2 rfl
  have h2 : ∃ name u ty, (Rows.laid_errors_errorType : DataW Unit).handleName? = some name ∧ (Tryz.prog.cutTypes.find? (·.1 == "internal/reflectlite.rtype")).map (·.2) = some u ∧ ty < Tryz.prog.types.size ∧ Tryz.prog.rowNamed ty name = true ∧ W.var? Tryz.prog "errors.errorType" = some #[.iface u (.agg #[typeHandle Tryz.prog ty])] := h' _ hm0
  obtain ⟨name, u, ty, e1, e2, e3, e4, e5⟩ := h2
  have en : name = [101, 114, 114, 111, 114] := (Option.some.inj e1).symm
  subst en
  obtain rfl := Option.some.inj (rtT.symm.trans e2)
  have hm : ty ∈ (List.range 206).filter fun t => Tryz.prog.rowNamed t [101, 114, 114, 111, 114] := List.mem_filter.2 ⟨List.mem_range.2 (by rw [← typesN]; exact e3), e4⟩
  rw [oneRow] at hm
  obtain rfl := List.mem_singleton.1 hm
  have hh : typeHandle Tryz.prog 26 = .pointer (some ⟨2, 26, none⟩) := by kernel_rfl
  rw [hh] at e5
  have h3 : W.cell? ⟨0, 0, none⟩ = some (.iface 90 (.agg #[.pointer (some ⟨2, 26, none⟩)])) := by simpa using World.var?_cell et e5 0
  exact h3
theorem door_met (os : Os) (args : Array Value) : laidMetH Tryz.prog [("errors.errorType", Rows.laid_errors_errorType)] ((World.doorLaid Tryz.prog 400 os).forCall (fun _ _ => 0) ⟨#[], args, []⟩).memory :=
  laidMetH_of_parts (laidMet_of_run' 8 (by kernel_rfl) (by kernel_rfl)) (by kernel_rfl)
end Go.Proofs.YtdbeiaohibgmeaaGreatDoor

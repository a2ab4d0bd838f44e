/- The engine, the plain laws and the walks of this seat, part 4: what the functions answer. Conditions: as each says; printed by programs of this session. -/
import Derived.Test.YtanhhihechakhaaDoorMc
set_option linter.unusedVariables false
set_option linter.unusedSimpArgs false
namespace Go.Proofs.YtanhhihechakhaaDoor
open Go.RowKit Go.Proofs.YtanhhihechakhaaDoor.E Go.Proofs.YtanhhihechakhaaDoor.ReplP Go.Proofs.YtanhhihechakhaaDoor.TokP Go.Proofs.YtanhhihechakhaaDoor.TermP Go.Proofs.YtanhhihechakhaaDoor.WrP Go.Proofs.YtanhhihechakhaaDoor.ReadP Go.Proofs.YtanhhihechakhaaDoor.OpsP
theorem wtT_mem : ∀ {l : List Tm} {t : Tm}, t ∈ l → wtT t ≤ wtTs l
 | [], t, h => (List.not_mem_nil h).elim
 | x :: l, t, h => by
  rw [wtTs_cons]
  rcases List.mem_cons.1 h with rfl | h
  · omega
  · have := wtT_mem h
    omega
theorem kid_wt {l : List GT} {t : GT} {n : Nat} (h : t ∈ l) (hw : wtTs (l.map GT.tm) ≤ n) : wtG t ≤ n := by
 rw [wtG_tm]
 exact Nat.le_trans (wtT_mem (List.mem_map.2 ⟨t, h, rfl⟩)) hw
theorem leaf_ok (h : Hp) {s : ByteArray} (hs : s.size ≤ 4398046511104) : (GT.mk 3 0 s none 0 []).tm = funT s [] ∧ (Lies h (GT.mk 3 0 s none 0 []) ∧ Fits (GT.mk 3 0 s none 0 [])) := ⟨by rw [tm_leaf]; rfl, lies_leaf _ _ _ _, fits_leaf (by decide) (by decide) (by decide) (by decide) (by omega)⟩
set_option maxRecDepth 100000 in
theorem rname_c (r bm : Nat) (A : Option Addr) (c : Nat) (L : List RT) (lv : Int) (h : Hp) (st : RSt) (inn : Int) (o : Obj) (vn : Value) (t : RT) (most : Int) (hs9 : t.str.size ≤ 4398046511104) (hqN : ∀ x ∈ L, TokOk x) (tm : Rd) (hf : Fwd L tm) (hwg : Wgt L tm) (hPW : ∀ i, preW L i ≤ 549755813888) (htm : TmC r bm A c L lv inn tm) (hT : RowsAt h A 5 (L.map rtC)) (hL : L.length ≤ 1048576) (hat : st.at_ ≤ L.length) (hnm : st.names.length ≤ st.at_) (hm : MapV Tryd.prog 9 3 o st.names.length (lastI st.names)) : RdC r bm A c L lv 76 [.agg (rtC t).toArray, .int .i64 most] h st inn o vn (nameR L lv tm t most st) (·.1) (fun x g => .tuple #[.agg (GT.cells g).toArray, .int .i64 x.2]) := by
 show RdC r bm A c L lv 76 [.agg #[.int .i64 t.kind, .string t.str, .int .i64 t.num, .bool t.quo, .bool t.tight], .int .i64 most] h st inn o vn _ _ _
 refine enterR Tryd.func76 rfl rfl rfl (fun w hb0 => ?_)
 refine cy_seq ?_
 refine cy_region ?_
 refine sy_box rfl rfl rfl rfl (fun b4 hb4 hM4 => ?_) (by first | exact hb0 | simp)
 refine sy_alloc zer_30 rfl rfl (fun b6 hb6 hM6 => ?_) (by first | exact hb0 | simp)
 refine sy_assign rfl rfl rfl ?_
 refine sy_nil rfl ?_
 refine ny_next ?_
 refine cy_seq ?_
 refine cy_frz 1 rfl hM4 (fun h1 hle1 hbt => ?_)
 replace hT := hT.le hle1
 refine cy_region ?_
 refine sy_move rfl rfl rfl ?_
 refine sy_callR1 [1] call_38 rfl rfl (peek_c r bm A c L lv _ hT hL st inn vn hat) rfl rfl (fun x14 h14x H14x hx14 hle14x => ?_)
 obtain ⟨rfl, rfl⟩ := hx14
 refine sy_alloc zer_65 rfl rfl (fun b8 hb8 hM8 => ?_) (by first | exact hb0 | simp)
 first | refine sy_stl 0 sz_65 rfl rfl rfl rfl rfl rfl rfl rfl ?_ | refine sy_stl 1 sz_65 rfl rfl rfl rfl rfl rfl rfl rfl ?_ | refine sy_stl 2 sz_65 rfl rfl rfl rfl rfl rfl rfl rfl ?_ | refine sy_stl 3 sz_65 rfl rfl rfl rfl rfl rfl rfl rfl ?_ | refine sy_stl 4 sz_65 rfl rfl rfl rfl rfl rfl rfl rfl ?_ | refine sy_stl 5 sz_65 rfl rfl rfl rfl rfl rfl rfl rfl ?_
 refine sy_nil rfl ?_
 refine ny_next ?_
 refine cy_seq ?_
 refine cy_seq ?_
 refine cy_frz 0 rfl hM8 (fun h2 hle2 hb8x => ?_)
 replace hT := hT.le hle2
 replace hbt := hle2 _ _ hbt
 refine cy_region ?_
 refine sy_field fld_65_4 rfl rfl rfl ?_
 refine sy_ldh one_4 rfl (Hp.blk hb8x 4 _ rfl) rfl rfl ?_
 refine sy_move rfl rfl rfl ?_
 refine sy_cond (d := 17) _ rfl rfl (fun hg17 => ?_) (fun hg17 => ?_)
 · refine sy_move rfl rfl rfl ?_
   refine sy_callR1 [0] call_69 rfl rfl (is_c ⟨#[40]⟩ r bm A c L lv _ hT hL st inn vn hat) rfl rfl (fun x19 h19x H19x hx19 hle19x => ?_)
   obtain ⟨rfl, rfl⟩ := hx19
   refine sy_pickT rfl rfl rfl rfl ?_
   refine sy_nil rfl ?_
   refine ny_next ?_
   refine cy_cond rfl (fun hc20 => ?_) (fun hc20 => ?_)
   · have hcp : (tokA L st.at_).tight = true ∧ isP L st.at_ [40] = true := ⟨hg17, hc20⟩
     have hlt := isP_lt hc20
     refine cy_seq ?_
     refine cy_region ?_
     refine sy_move rfl rfl rfl ?_
     refine sy_nilCheck rfl rfl rfl ?_
     refine sy_field fld_74_1 rfl rfl rfl ?_
     first | refine sy_ldr 0 one_3 rfl rfl rfl rfl rfl ?_ | refine sy_ldr 1 one_3 rfl rfl rfl rfl rfl ?_ | refine sy_ldr 2 one_3 rfl rfl rfl rfl rfl ?_ | refine sy_ldr 3 one_3 rfl rfl rfl rfl rfl ?_ | refine sy_ldr 4 one_3 rfl rfl rfl rfl rfl ?_ | refine sy_ldr 5 one_3 rfl rfl rfl rfl rfl ?_
     refine sy_addi (z := ((st.at_ + 1 : Nat) : Int)) rfl rfl (by omega) (by omega) (by omega) rfl rfl ?_
     refine sy_nilCheck rfl rfl rfl ?_
     refine sy_field fld_74_1 rfl rfl rfl ?_
     first | refine sy_stl 0 sz_3 rfl rfl rfl rfl rfl rfl rfl rfl ?_ | refine sy_stl 1 sz_3 rfl rfl rfl rfl rfl rfl rfl rfl ?_ | refine sy_stl 2 sz_3 rfl rfl rfl rfl rfl rfl rfl rfl ?_ | refine sy_stl 3 sz_3 rfl rfl rfl rfl rfl rfl rfl rfl ?_ | refine sy_stl 4 sz_3 rfl rfl rfl rfl rfl rfl rfl rfl ?_ | refine sy_stl 5 sz_3 rfl rfl rfl rfl rfl rfl rfl rfl ?_
     refine sy_nil rfl ?_
     refine ny_next ?_
     refine cy_seq ?_
     refine cy_region ?_
     refine sy_move rfl rfl rfl ?_
     refine sy_callRO [0, 1, 1] call_81 rfl rfl (args_c r bm A c L lv h2 (adv st) inn o vn tm hf htm hT hL (by show st.at_ + 1 ≤ _; omega) (by show st.names.length ≤ st.at_ + 1; omega) hm) rfl rfl (fun a29 e29 h29x H29x hb29 hx29 hle29x => ?_) (fun x29 s29 g29 h29x H29x hk29 hx29 hle29x => ?_)
     · obtain ⟨a9, i9, o9, v9, n9, rfl⟩ := hx29
       refine ny_thenP ?_
       refine ny_thenP ?_
       exact ny_finP (fun w9 hs => ⟨.bad a29 e29, _, _, rfl, ⟨(by unfold nameR; rw [if_pos hcp, hb29]), _, _, _, _, _, rfl⟩, hs.sel (is := [0, 0, 0]) rfl⟩)
     · obtain ⟨hg29, ⟨hr29, hlc29, hnn29, hgt29, hac29⟩, hm29, rfl⟩ := hx29
       have hfw29 := args_fwd hf (show (adv st).at_ ≤ L.length by show st.at_ + 1 ≤ _; omega) hk29
       have haw29 := args_wt hf hwg (show (adv st).at_ ≤ L.length by show st.at_ + 1 ≤ _; omega) hk29
       have hpw29 := hPW s29.at_
       have hT29 := hT.le hle29x
       replace hbt := hle29x _ _ hbt
       refine sy_assign rfl rfl rfl ?_
       refine sy_nil rfl ?_
       refine ny_next ?_
       refine cy_seq ?_
       refine cy_region ?_
       refine sy_move rfl rfl rfl ?_
       refine sy_callRO [0] call_77 rfl rfl (want_c ⟨#[41]⟩ r bm A c L lv _ hT29 hL s29 inn g29.2.2 hfw29.2.1) rfl rfl (fun a31 e31 h31x H31x hb31 hx31 hle31x => ?_) (fun x31 s31 g31 h31x H31x hk31 hx31 hle31x => ?_)
       · obtain ⟨rfl, rfl⟩ := hx31
         have hw31 : wantR L [41] x29 s29 = .bad a31 e31 := by
          have h9 := hb31
          unfold wantR at h9 ⊢
          split at h9
          · cases h9
          · rename_i h8; rw [if_neg h8]; cases h9; rfl
         refine ny_thenP ?_
         refine ny_thenP ?_
         exact ny_finP (fun w9 hs => ⟨.bad a31 e31, _, _, rfl, ⟨(by unfold nameR; rw [if_pos hcp, hk29]; simp only; rw [hw31]), _, _, _, _, _, rfl⟩, hs.sel (is := [0, 0, 0]) rfl⟩)
       · obtain ⟨rfl, rfl⟩ := hx31
         have hwf := want_fwd hk31
         have hw31 : wantR L [41] x29 s29 = .ok x29 (adv s29) := by
          have h9 := hk31
          unfold wantR at h9 ⊢
          split at h9
          · rename_i h8; rw [if_pos h8]
          · cases h9
         refine sy_nil rfl ?_
         refine ny_next ?_
         refine cy_seq ?_
         refine cy_region ?_
         refine sy_move rfl rfl rfl ?_
         refine sy_field fld_65_1 rfl rfl rfl ?_
         refine sy_ldh one_9 rfl (Hp.blk hbt 1 _ rfl) rfl rfl ?_
         refine sy_move rfl rfl rfl ?_
         refine sy_callRO [0] call_71 rfl rfl (mk_c t.str hs9 g29.1.1 g29.1.2.1 g29.1.2.2 r bm A c L lv _ hT29 hL (adv s29) inn g29.2.2 (by show s29.at_ + 1 ≤ _; omega) hnn29 hr29 (fun x h9 => ⟨hgt29 x h9, Nat.le_trans (kid_wt h9 (by rw [hg29]; exact Nat.le_refl _)) (by omega)⟩) hlc29 (by omega)) rfl rfl (fun a36 e36 h36x H36x hb36 hx36 hle36x => ?_) (fun x36 s36 g36 h36x H36x hk36 hx36 hle36x => ?_)
         · subst hx36
           refine ny_thenP ?_
           refine ny_thenP ?_
           exact ny_finP (fun w9 hs => ⟨.bad a36 e36, _, _, rfl, ⟨(by unfold nameR; rw [if_pos hcp, hk29]; simp only; rw [hw31]; simp only; rw [← hg29, hb36]; rfl), _, _, _, _, _, rfl⟩, hs.sel (is := [0, 0, 0]) rfl⟩)
         · obtain ⟨hg36, hl36, rfl⟩ := hx36
           have hst36 := mkR_st hk36
           subst hst36
           first | refine sy_stl 0 sz_30 rfl rfl rfl rfl rfl rfl rfl rfl ?_ | refine sy_stl 1 sz_30 rfl rfl rfl rfl rfl rfl rfl rfl ?_ | refine sy_stl 2 sz_30 rfl rfl rfl rfl rfl rfl rfl rfl ?_ | refine sy_stl 3 sz_30 rfl rfl rfl rfl rfl rfl rfl rfl ?_ | refine sy_stl 4 sz_30 rfl rfl rfl rfl rfl rfl rfl rfl ?_ | refine sy_stl 5 sz_30 rfl rfl rfl rfl rfl rfl rfl rfl ?_
           refine sy_assign rfl rfl rfl ?_
           refine sy_nil rfl ?_
           refine ny_next ?_
           refine cy_ret ?_
           refine ny_thenR ?_
           exact ny_finR (resc1 0 rfl agg_30 rfl rfl rfl rfl) (fun w9 hs => ⟨.ok (x36, 0) (adv s29) (g36, g29.2.1, g29.2.2), h36x, _, rfl, ⟨(by unfold nameR; rw [if_pos hcp, hk29]; simp only; rw [hw31]; simp only; rw [← hg29, hk36]; rfl), hg36, hl36, hm29, rfl⟩, hs.sel (is := [1, 1, 1]) rfl⟩)
   · have hcn : ¬ ((tokA L st.at_).tight = true ∧ isP L st.at_ [40] = true) := fun h9 => by
      have h8 : isP L st.at_ [40] = false := hc20
      rw [h9.2] at h8
      cases h8
     refine cy_skip ?_
     refine ny_next ?_
     refine cy_seq ?_
     refine cy_seq ?_
     refine cy_region ?_
     refine sy_field fld_65_3 rfl rfl rfl ?_
     refine sy_ldh one_4 rfl (Hp.blk hbt 3 _ rfl) rfl rfl ?_
     refine sy_nil rfl ?_
     refine ny_next ?_
     refine cy_cond rfl (fun hc38 => ?_) (fun hc38 => ?_)
     · have hqp : t.quo = true := hc38
       refine cy_seq ?_
       refine cy_region ?_
       refine sy_field fld_65_1 rfl rfl rfl ?_
       refine sy_ldh one_9 rfl (Hp.blk hbt 1 _ rfl) rfl rfl ?_
       refine sy_call rfl call_18 rfl (atom_c t.str _) rfl rfl ?_
       first | refine sy_stl 0 sz_30 rfl rfl rfl rfl rfl rfl rfl rfl ?_ | refine sy_stl 1 sz_30 rfl rfl rfl rfl rfl rfl rfl rfl ?_ | refine sy_stl 2 sz_30 rfl rfl rfl rfl rfl rfl rfl rfl ?_ | refine sy_stl 3 sz_30 rfl rfl rfl rfl rfl rfl rfl rfl ?_ | refine sy_stl 4 sz_30 rfl rfl rfl rfl rfl rfl rfl rfl ?_ | refine sy_stl 5 sz_30 rfl rfl rfl rfl rfl rfl rfl rfl ?_
       refine sy_assign rfl rfl rfl ?_
       refine sy_nil rfl ?_
       refine ny_next ?_
       refine cy_ret ?_
       refine ny_thenR ?_
       exact ny_finR (resc1 0 rfl agg_30 rfl rfl rfl rfl) (fun w9 hs => ⟨.ok (funT t.str [], 0) st ((GT.mk 3 0 t.str none 0 []), o, vn), h2, _, rfl, ⟨(by unfold nameR; rw [if_neg hcn, if_pos hqp]), (leaf_ok h2 hs9).1, (leaf_ok h2 hs9).2, hm, rfl⟩, hs.sel (is := [1, 1, 1]) rfl⟩)
     · have hqn : ¬ t.quo = true := by rw [Bool.not_eq_true]; exact hc38
       refine cy_skip ?_
       refine ny_next ?_
       refine cy_seq ?_
       refine cy_seq ?_
       refine cy_region ?_
       refine sy_field fld_65_1 rfl rfl rfl ?_
       refine sy_ldh one_9 rfl (Hp.blk hbt 1 _ rfl) rfl rfl ?_
       refine sy_eqs rfl rfl rfl rfl ?_
       refine sy_move rfl rfl rfl ?_
       refine sy_cond (d := 45) _ rfl rfl (fun hg45 => ?_) (fun hg45 => ?_)
       · refine sy_field fld_65_4 rfl rfl rfl ?_
         refine sy_ldh one_4 rfl (Hp.blk hb8x 4 _ rfl) rfl rfl ?_
         refine sy_pickT rfl rfl rfl rfl ?_
         refine sy_move rfl rfl rfl ?_
         refine sy_cond (d := 49) _ rfl rfl (fun hg49 => ?_) (fun hg49 => ?_)
         · refine sy_field fld_65_0 rfl rfl rfl ?_
           refine sy_ldh one_3 rfl (Hp.blk hb8x 0 _ rfl) rfl rfl ?_
           refine sy_cmp rfl rfl rfl rfl rfl ?_
           refine sy_pickT rfl rfl rfl rfl ?_
           refine sy_nil rfl ?_
           refine ny_next ?_
           refine cy_cond rfl (fun hc53 => ?_) (fun hc53 => ?_)
           · have hmp : t.str.data.toList = [45] ∧ (tokA L st.at_).tight = true ∧ (tokA L st.at_).kind = 3 := ⟨eq_of_beq hg45, hg49, by simpa using hc53⟩
             have hlt := tok_lt (L := L) (i := st.at_) (by rw [hmp.2.2]; decide)
             refine cy_seq ?_
             refine cy_region ?_
             refine sy_move rfl rfl rfl ?_
             refine sy_nilCheck rfl rfl rfl ?_
             refine sy_field fld_74_1 rfl rfl rfl ?_
             first | refine sy_ldr 0 one_3 rfl rfl rfl rfl rfl ?_ | refine sy_ldr 1 one_3 rfl rfl rfl rfl rfl ?_ | refine sy_ldr 2 one_3 rfl rfl rfl rfl rfl ?_ | refine sy_ldr 3 one_3 rfl rfl rfl rfl rfl ?_ | refine sy_ldr 4 one_3 rfl rfl rfl rfl rfl ?_ | refine sy_ldr 5 one_3 rfl rfl rfl rfl rfl ?_
             refine sy_addi (z := ((st.at_ + 1 : Nat) : Int)) rfl rfl (by omega) (by omega) (by omega) rfl rfl ?_
             refine sy_nilCheck rfl rfl rfl ?_
             refine sy_field fld_74_1 rfl rfl rfl ?_
             first | refine sy_stl 0 sz_3 rfl rfl rfl rfl rfl rfl rfl rfl ?_ | refine sy_stl 1 sz_3 rfl rfl rfl rfl rfl rfl rfl rfl ?_ | refine sy_stl 2 sz_3 rfl rfl rfl rfl rfl rfl rfl rfl ?_ | refine sy_stl 3 sz_3 rfl rfl rfl rfl rfl rfl rfl rfl ?_ | refine sy_stl 4 sz_3 rfl rfl rfl rfl rfl rfl rfl rfl ?_ | refine sy_stl 5 sz_3 rfl rfl rfl rfl rfl rfl rfl rfl ?_
             refine sy_nil rfl ?_
             refine ny_next ?_
             refine cy_seq ?_
             refine cy_region ?_
             refine sy_field fld_65_2 rfl rfl rfl ?_
             refine sy_ldh one_2 rfl (Hp.blk hb8x 2 _ rfl) rfl rfl ?_
             refine sy_negw Tryd.underlying2 rfl rfl rfl ?_
             have hwr := wrap_bounds (-(tokA L st.at_).num)
             refine sy_call rfl call_15 rfl (num_c _ _) rfl rfl ?_
             first | refine sy_stl 0 sz_30 rfl rfl rfl rfl rfl rfl rfl rfl ?_ | refine sy_stl 1 sz_30 rfl rfl rfl rfl rfl rfl rfl rfl ?_ | refine sy_stl 2 sz_30 rfl rfl rfl rfl rfl rfl rfl rfl ?_ | refine sy_stl 3 sz_30 rfl rfl rfl rfl rfl rfl rfl rfl ?_ | refine sy_stl 4 sz_30 rfl rfl rfl rfl rfl rfl rfl rfl ?_ | refine sy_stl 5 sz_30 rfl rfl rfl rfl rfl rfl rfl rfl ?_
             refine sy_assign rfl rfl rfl ?_
             refine sy_nil rfl ?_
             refine ny_next ?_
             refine cy_ret ?_
             refine ny_thenR ?_
             exact ny_finR (resc1 0 rfl agg_30 rfl rfl rfl rfl) (fun w9 hs => ⟨.ok (_, 0) (adv st) (GT.mk 2 (IntKind.i64.wrap (-(tokA L st.at_).num)) ⟨#[]⟩ none 0 [], o, vn), h2, _, rfl, ⟨(by unfold nameR; rw [if_neg hcn, if_neg hqn, if_pos hmp]), (by rw [tm_leaf]; rfl), ⟨lies_leaf _ _ _ _, fits_leaf (by decide) (by decide) hwr.1 hwr.2 (by decide)⟩, hm, rfl⟩, hs.sel (is := [1, 1, 1]) rfl⟩)
           · have hmn : ¬ (t.str.data.toList = [45] ∧ (tokA L st.at_).tight = true ∧ (tokA L st.at_).kind = 3) := fun h9 => by
              rw [h9.2.2] at hc53
              exact absurd hc53 (by decide)
             refine cy_skip ?_
             refine ny_next ?_
             refine cy_seq ?_
             refine cy_seq ?_
             refine cy_region ?_
             refine sy_field fld_65_1 rfl rfl rfl ?_
             refine sy_ldh one_9 rfl (Hp.blk hbt 1 _ rfl) rfl rfl ?_
             refine sy_call rfl call_82 rfl (prefix_c t.str _) rfl rfl ?_
             refine sy_move rfl rfl rfl ?_
             refine sy_extract rfl rfl rfl rfl ?_
             refine sy_extract rfl rfl rfl rfl ?_
             refine sy_extract rfl rfl rfl rfl ?_
             refine sy_assign rfl rfl rfl ?_
             refine sy_assign rfl rfl rfl ?_
             refine sy_assign rfl rfl rfl ?_
             refine sy_nil rfl ?_
             refine ny_next ?_
             refine cy_seq ?_
             refine cy_region ?_
             refine sy_move rfl rfl rfl ?_
             refine sy_move rfl rfl rfl ?_
             refine sy_cond (d := 73) _ rfl rfl (fun hg73 => ?_) (fun hg73 => ?_)
             · refine sy_move rfl rfl rfl ?_
               refine sy_move rfl rfl rfl ?_
               refine sy_cmp rfl rfl rfl rfl rfl ?_
               refine sy_pickT rfl rfl rfl rfl ?_
               refine sy_move rfl rfl rfl ?_
               refine sy_cond (d := 78) _ rfl rfl (fun hg78 => ?_) (fun hg78 => ?_)
               · refine sy_ldah (vs := rtC (tokA L st.at_)) agg_65 rfl rfl (Hp.blk hb8x) rfl rfl ?_
                 refine sy_call rfl call_83 rfl (begins_c (tokA L st.at_) _) rfl rfl ?_
                 refine sy_pickT rfl rfl rfl rfl ?_
                 refine sy_nil rfl ?_
                 refine ny_next ?_
                 refine cy_cond rfl (fun hc81 => ?_) (fun hc81 => ?_)
                 · have hpp : (refPrefix t.str.data.toList).2.2 = true ∧ (refPrefix t.str.data.toList).1 ≤ most ∧ beginsR (tokA L st.at_) = true := ⟨hg73, of_decide_eq_true hg78, hc81⟩
                   refine cy_seq ?_
                   refine cy_regionAP mixed ?_
                   refine zy_qP 0 (fun c a d v w hq => by cases d <;> exact hq) rfl (by kernel_rfl) (fun hB14_0 => ?_)
                   refine sy_move rfl rfl rfl ?_
                   refine sy_nil1 (ny_zqP hB14_0 ?_)
                   refine zy_qP 1 (fun c a d v w hq => by cases d <;> exact hq) rfl (by kernel_rfl) (fun hB14_1 => ?_)
                   refine sy_field fld_65_1 rfl rfl rfl ?_
                   refine sy_nil1 (ny_zqP hB14_1 ?_)
                   refine zy_qP 2 (fun c a d v w hq => by cases d <;> exact hq) rfl (by kernel_rfl) (fun hB14_2 => ?_)
                   refine sy_ldh one_9 rfl (Hp.blk hbt 1 _ rfl) rfl rfl ?_
                   refine sy_nil1 (ny_zqP hB14_2 ?_)
                   refine zy_qP 3 (fun c a d v w hq => by cases d <;> exact hq) rfl (by kernel_rfl) (fun hB14_3 => ?_)
                   refine sy_move rfl rfl rfl ?_
                   refine sy_nil1 (ny_zqP hB14_3 ?_)
                   refine zy_qP 4 (fun c a d v w hq => by cases d <;> exact hq) rfl (by kernel_rfl) (fun hB14_4 => ?_)
                   refine sy_move rfl rfl rfl ?_
                   refine sy_nil1 (ny_zqP hB14_4 ?_)
                   refine zy_qP 8 (fun c a d v w hq => by cases d <;> exact hq) rfl (by kernel_rfl) (fun hB14_8 => ?_)
                   refine sy_move rfl rfl rfl ?_
                   refine sy_nil1 (ny_zqP hB14_8 ?_)
                   refine zy_1P 5 (by kernel_rfl) ?_
                   refine zop_runP rfl rfl (fun hB14_5 => ?_)
                   refine sy_callRO [0, 1, 1] call_37 rfl rfl (htm h2 st o vn _ hT hat hnm hm) rfl rfl (fun a87 e87 h87x H87x hb87 hx87 hle87x => ?_) (fun x87 s87 g87 h87x H87x hk87 hx87 hle87x => ?_)
                   · obtain ⟨a9, i9, o9, v9, n9, rfl⟩ := hx87
                     refine ny_zyPP ?_
                     refine ny_thenP ?_
                     refine ny_thenP ?_
                     first | exact ny_finP (fun w9 hs => ⟨.bad a87 e87, _, _, rfl, ⟨(by unfold nameR; rw [if_neg hcn, if_neg hqn, if_neg hmn, if_pos hpp, hb87]), _, _, _, _, _, rfl⟩, hs.sel (is := [0, 0, 0]) rfl⟩) | exact ny_finP (fun w9 hs => ⟨.bad a89 e89, _, _, rfl, ⟨(by unfold nameR; rw [if_neg hcn, if_neg hqn, if_neg hmn, if_pos hpp, hk87]; simp only; rw [← hg87]; exact congrArg (mapR _) hb89), _, _, _, _, _, rfl⟩, hs.sel (is := [0, 0, 0]) rfl⟩)
                   · obtain ⟨hg87, hl87, hm87, rfl⟩ := hx87
                     replace hg87 : g87.1.tm = x87.1 := hg87
                     have hfw87 := hf _ st x87 s87 hat hk87
                     have hww87 := hwg _ st x87 s87 hat hk87
                     have hpw87 := hPW s87.at_
                     have hT87 := hT.le hle87x
                     refine sy_nil rfl (ny_zyP hB14_5 hle87x ?_)
                     refine zy_1P 6 (by kernel_rfl) ?_
                     refine zop_runP rfl rfl (fun hB14_6 => ?_)
                     refine sy_buildSlice (cs := [g87.1].flatMap GT.cells) rfl (fun w => bsl_23_1_0 w) rfl rfl (fun b88 hb88 hM88 => ?_) (by first | exact hb0 | simp)
                     refine sy_frz 0 rfl hM88 (fun h88 hle88 hb88x => ?_)
                     have hr88 : RowsAt h88 (some ⟨b88, 0, none⟩) 4 ([g87.1].map GT.cells) := rows_blk (by decide) (GT.cells_len _) hb88x
                     refine sy_nil rfl (ny_zyP hB14_6 hle88 ?_)
                     refine zy_1P 7 (by kernel_rfl) ?_
                     refine zop_runP rfl rfl (fun hB14_7 => ?_)
                     refine sy_callRO [0] call_71 rfl rfl (mk_c t.str hs9 [g87.1] (some ⟨b88, 0, none⟩) 1 r bm A c L lv _ (hT87.le hle88) hL s87 inn g87.2.2 hfw87.2.1 rfl hr88 (fun x h9 => by rw [List.mem_singleton.1 h9]; exact ⟨⟨hl87.1.le hle88, hl87.2⟩, by rw [wtG_tm, hg87]; omega⟩) (by simp) (by simp)) rfl rfl (fun a89 e89 h89x H89x hb89 hx89 hle89x => ?_) (fun x89 s89 g89 h89x H89x hk89 hx89 hle89x => ?_)
                     · subst hx89
                       refine ny_zyPP ?_
                       refine ny_thenP ?_
                       refine ny_thenP ?_
                       first | exact ny_finP (fun w9 hs => ⟨.bad a87 e87, _, _, rfl, ⟨(by unfold nameR; rw [if_neg hcn, if_neg hqn, if_neg hmn, if_pos hpp, hb87]), _, _, _, _, _, rfl⟩, hs.sel (is := [0, 0, 0]) rfl⟩) | exact ny_finP (fun w9 hs => ⟨.bad a89 e89, _, _, rfl, ⟨(by unfold nameR; rw [if_neg hcn, if_neg hqn, if_neg hmn, if_pos hpp, hk87]; simp only; rw [← hg87]; exact congrArg (mapR _) hb89), _, _, _, _, _, rfl⟩, hs.sel (is := [0, 0, 0]) rfl⟩)
                     · obtain ⟨hg89, hl89, rfl⟩ := hx89
                       have hst89 := (mkR_st hk89).symm
                       subst hst89
                       refine sy_nil rfl (ny_zyP hB14_7 hle89x ?_)
                       refine zy_1P 9 (by kernel_rfl) ?_
                       refine zop_runP rfl rfl (fun hB14_9 => ?_)
                       first | refine sy_stl 0 sz_30 rfl rfl rfl rfl rfl rfl rfl rfl ?_ | refine sy_stl 1 sz_30 rfl rfl rfl rfl rfl rfl rfl rfl ?_ | refine sy_stl 2 sz_30 rfl rfl rfl rfl rfl rfl rfl rfl ?_ | refine sy_stl 3 sz_30 rfl rfl rfl rfl rfl rfl rfl rfl ?_ | refine sy_stl 4 sz_30 rfl rfl rfl rfl rfl rfl rfl rfl ?_ | refine sy_stl 5 sz_30 rfl rfl rfl rfl rfl rfl rfl rfl ?_
                       refine sy_nil rfl (ny_zyP hB14_9 (Hp.Le.refl _) ?_)
                       refine zy_qP 10 (fun c a d v w hq => by cases d <;> exact hq) rfl (by kernel_rfl) (fun hB14_10 => ?_)
                       refine sy_assign rfl rfl rfl ?_
                       refine sy_nil1 (ny_zqP hB14_10 ?_)
                       refine zy_doneP (by kernel_rfl) ?_
                       refine ny_next ?_
                       refine cy_ret ?_
                       refine ny_thenR ?_
                       exact ny_finR (resc1 0 rfl agg_30 rfl rfl rfl rfl) (fun w9 hs => ⟨.ok (x89, (refPrefix t.str.data.toList).1) s87 (g89, g87.2.1, g87.2.2), h89x, _, rfl, ⟨(by unfold nameR; rw [if_neg hcn, if_neg hqn, if_neg hmn, if_pos hpp, hk87]; simp only; rw [← hg87]; exact congrArg (mapR _) hk89), hg89, hl89, hm87, rfl⟩, hs.sel (is := [1, 1, 1]) rfl⟩)
                 · have hpn : ¬ ((refPrefix t.str.data.toList).2.2 = true ∧ (refPrefix t.str.data.toList).1 ≤ most ∧ beginsR (tokA L st.at_) = true) := fun h9 => by
                    rw [h9.2.2] at hc81
                    cases hc81
                   refine cy_skip ?_
                   refine ny_next ?_
                   refine cy_seq ?_
                   refine cy_region ?_
                   refine sy_field fld_65_1 rfl rfl rfl ?_
                   refine sy_ldh one_9 rfl (Hp.blk hbt 1 _ rfl) rfl rfl ?_
                   refine sy_call rfl call_18 rfl (atom_c t.str _) rfl rfl ?_
                   first | refine sy_stl 0 sz_30 rfl rfl rfl rfl rfl rfl rfl rfl ?_ | refine sy_stl 1 sz_30 rfl rfl rfl rfl rfl rfl rfl rfl ?_ | refine sy_stl 2 sz_30 rfl rfl rfl rfl rfl rfl rfl rfl ?_ | refine sy_stl 3 sz_30 rfl rfl rfl rfl rfl rfl rfl rfl ?_ | refine sy_stl 4 sz_30 rfl rfl rfl rfl rfl rfl rfl rfl ?_ | refine sy_stl 5 sz_30 rfl rfl rfl rfl rfl rfl rfl rfl ?_
                   refine sy_assign rfl rfl rfl ?_
                   refine sy_nil rfl ?_
                   refine ny_next ?_
                   refine cy_ret ?_
                   exact ny_finR (resc1 0 rfl agg_30 rfl rfl rfl rfl) (fun w9 hs => ⟨.ok (funT t.str [], 0) st ((GT.mk 3 0 t.str none 0 []), o, vn), h2, _, rfl, ⟨(by unfold nameR; rw [if_neg hcn, if_neg hqn, if_neg hmn, if_neg hpn]), (leaf_ok h2 hs9).1, (leaf_ok h2 hs9).2, hm, rfl⟩, hs.sel (is := [1, 1, 1]) rfl⟩)
               · refine sy_skip rfl rfl rfl ?_
                 refine sy_skip rfl rfl rfl ?_
                 refine sy_pickF rfl rfl rfl rfl ?_
                 refine sy_nil rfl ?_
                 refine ny_next ?_
                 refine cy_condF rfl ?_
                 have hpn : ¬ ((refPrefix t.str.data.toList).2.2 = true ∧ (refPrefix t.str.data.toList).1 ≤ most ∧ beginsR (tokA L st.at_) = true) := fun h9 => by
                  first | (rw [h9.1] at hg73; exact absurd hg73 (by decide)) | (have h8 := of_decide_eq_false hg78; exact h8 h9.2.1)
                 refine cy_skip ?_
                 refine ny_next ?_
                 refine cy_seq ?_
                 refine cy_region ?_
                 refine sy_field fld_65_1 rfl rfl rfl ?_
                 refine sy_ldh one_9 rfl (Hp.blk hbt 1 _ rfl) rfl rfl ?_
                 refine sy_call rfl call_18 rfl (atom_c t.str _) rfl rfl ?_
                 first | refine sy_stl 0 sz_30 rfl rfl rfl rfl rfl rfl rfl rfl ?_ | refine sy_stl 1 sz_30 rfl rfl rfl rfl rfl rfl rfl rfl ?_ | refine sy_stl 2 sz_30 rfl rfl rfl rfl rfl rfl rfl rfl ?_ | refine sy_stl 3 sz_30 rfl rfl rfl rfl rfl rfl rfl rfl ?_ | refine sy_stl 4 sz_30 rfl rfl rfl rfl rfl rfl rfl rfl ?_ | refine sy_stl 5 sz_30 rfl rfl rfl rfl rfl rfl rfl rfl ?_
                 refine sy_assign rfl rfl rfl ?_
                 refine sy_nil rfl ?_
                 refine ny_next ?_
                 refine cy_ret ?_
                 exact ny_finR (resc1 0 rfl agg_30 rfl rfl rfl rfl) (fun w9 hs => ⟨.ok (funT t.str [], 0) st ((GT.mk 3 0 t.str none 0 []), o, vn), h2, _, rfl, ⟨(by unfold nameR; rw [if_neg hcn, if_neg hqn, if_neg hmn, if_neg hpn]), (leaf_ok h2 hs9).1, (leaf_ok h2 hs9).2, hm, rfl⟩, hs.sel (is := [1, 1, 1]) rfl⟩)
             · refine sy_skip rfl rfl rfl ?_
               refine sy_skip rfl rfl rfl ?_
               refine sy_skip rfl rfl rfl ?_
               refine sy_pickF rfl rfl rfl rfl ?_
               refine sy_move rfl rfl rfl ?_
               refine sy_skip rfl rfl rfl ?_
               refine sy_skip rfl rfl rfl ?_
               refine sy_pickF rfl rfl rfl rfl ?_
               refine sy_nil rfl ?_
               refine ny_next ?_
               refine cy_condF rfl ?_
               have hpn : ¬ ((refPrefix t.str.data.toList).2.2 = true ∧ (refPrefix t.str.data.toList).1 ≤ most ∧ beginsR (tokA L st.at_) = true) := fun h9 => by
                first | (rw [h9.1] at hg73; exact absurd hg73 (by decide)) | (have h8 := of_decide_eq_false hg78; exact h8 h9.2.1)
               refine cy_skip ?_
               refine ny_next ?_
               refine cy_seq ?_
               refine cy_region ?_
               refine sy_field fld_65_1 rfl rfl rfl ?_
               refine sy_ldh one_9 rfl (Hp.blk hbt 1 _ rfl) rfl rfl ?_
               refine sy_call rfl call_18 rfl (atom_c t.str _) rfl rfl ?_
               first | refine sy_stl 0 sz_30 rfl rfl rfl rfl rfl rfl rfl rfl ?_ | refine sy_stl 1 sz_30 rfl rfl rfl rfl rfl rfl rfl rfl ?_ | refine sy_stl 2 sz_30 rfl rfl rfl rfl rfl rfl rfl rfl ?_ | refine sy_stl 3 sz_30 rfl rfl rfl rfl rfl rfl rfl rfl ?_ | refine sy_stl 4 sz_30 rfl rfl rfl rfl rfl rfl rfl rfl ?_ | refine sy_stl 5 sz_30 rfl rfl rfl rfl rfl rfl rfl rfl ?_
               refine sy_assign rfl rfl rfl ?_
               refine sy_nil rfl ?_
               refine ny_next ?_
               refine cy_ret ?_
               exact ny_finR (resc1 0 rfl agg_30 rfl rfl rfl rfl) (fun w9 hs => ⟨.ok (funT t.str [], 0) st ((GT.mk 3 0 t.str none 0 []), o, vn), h2, _, rfl, ⟨(by unfold nameR; rw [if_neg hcn, if_neg hqn, if_neg hmn, if_neg hpn]), (leaf_ok h2 hs9).1, (leaf_ok h2 hs9).2, hm, rfl⟩, hs.sel (is := [1, 1, 1]) rfl⟩)
         · refine sy_skip rfl rfl rfl ?_
           refine sy_skip rfl rfl rfl ?_
           refine sy_skip rfl rfl rfl ?_
           refine sy_pickF rfl rfl rfl rfl ?_
           refine sy_nil rfl ?_
           refine ny_next ?_
           refine cy_condF rfl ?_
           have hmn : ¬ (t.str.data.toList = [45] ∧ (tokA L st.at_).tight = true ∧ (tokA L st.at_).kind = 3) := fun h9 => by
            first | (rw [h9.1] at hg45; exact absurd hg45 (by decide)) | (rw [h9.2.1] at hg49; exact absurd hg49 (by decide))
           refine cy_skip ?_
           refine ny_next ?_
           refine cy_seq ?_
           refine cy_seq ?_
           refine cy_region ?_
           refine sy_field fld_65_1 rfl rfl rfl ?_
           refine sy_ldh one_9 rfl (Hp.blk hbt 1 _ rfl) rfl rfl ?_
           refine sy_call rfl call_82 rfl (prefix_c t.str _) rfl rfl ?_
           refine sy_move rfl rfl rfl ?_
           refine sy_extract rfl rfl rfl rfl ?_
           refine sy_extract rfl rfl rfl rfl ?_
           refine sy_extract rfl rfl rfl rfl ?_
           refine sy_assign rfl rfl rfl ?_
           refine sy_assign rfl rfl rfl ?_
           refine sy_assign rfl rfl rfl ?_
           refine sy_nil rfl ?_
           refine ny_next ?_
           refine cy_seq ?_
           refine cy_region ?_
           refine sy_move rfl rfl rfl ?_
           refine sy_move rfl rfl rfl ?_
           refine sy_cond (d := 73) _ rfl rfl (fun hg73 => ?_) (fun hg73 => ?_)
           · refine sy_move rfl rfl rfl ?_
             refine sy_move rfl rfl rfl ?_
             refine sy_cmp rfl rfl rfl rfl rfl ?_
             refine sy_pickT rfl rfl rfl rfl ?_
             refine sy_move rfl rfl rfl ?_
             refine sy_cond (d := 78) _ rfl rfl (fun hg78 => ?_) (fun hg78 => ?_)
             · refine sy_ldah (vs := rtC (tokA L st.at_)) agg_65 rfl rfl (Hp.blk hb8x) rfl rfl ?_
               refine sy_call rfl call_83 rfl (begins_c (tokA L st.at_) _) rfl rfl ?_
               refine sy_pickT rfl rfl rfl rfl ?_
               refine sy_nil rfl ?_
               refine ny_next ?_
               refine cy_cond rfl (fun hc81 => ?_) (fun hc81 => ?_)
               · have hpp : (refPrefix t.str.data.toList).2.2 = true ∧ (refPrefix t.str.data.toList).1 ≤ most ∧ beginsR (tokA L st.at_) = true := ⟨hg73, of_decide_eq_true hg78, hc81⟩
                 refine cy_seq ?_
                 refine cy_regionAP mixed ?_
                 refine zy_qP 0 (fun c a d v w hq => by cases d <;> exact hq) rfl (by kernel_rfl) (fun hB14_0 => ?_)
                 refine sy_move rfl rfl rfl ?_
                 refine sy_nil1 (ny_zqP hB14_0 ?_)
                 refine zy_qP 1 (fun c a d v w hq => by cases d <;> exact hq) rfl (by kernel_rfl) (fun hB14_1 => ?_)
                 refine sy_field fld_65_1 rfl rfl rfl ?_
                 refine sy_nil1 (ny_zqP hB14_1 ?_)
                 refine zy_qP 2 (fun c a d v w hq => by cases d <;> exact hq) rfl (by kernel_rfl) (fun hB14_2 => ?_)
                 refine sy_ldh one_9 rfl (Hp.blk hbt 1 _ rfl) rfl rfl ?_
                 refine sy_nil1 (ny_zqP hB14_2 ?_)
                 refine zy_qP 3 (fun c a d v w hq => by cases d <;> exact hq) rfl (by kernel_rfl) (fun hB14_3 => ?_)
                 refine sy_move rfl rfl rfl ?_
                 refine sy_nil1 (ny_zqP hB14_3 ?_)
                 refine zy_qP 4 (fun c a d v w hq => by cases d <;> exact hq) rfl (by kernel_rfl) (fun hB14_4 => ?_)
                 refine sy_move rfl rfl rfl ?_
                 refine sy_nil1 (ny_zqP hB14_4 ?_)
                 refine zy_qP 8 (fun c a d v w hq => by cases d <;> exact hq) rfl (by kernel_rfl) (fun hB14_8 => ?_)
                 refine sy_move rfl rfl rfl ?_
                 refine sy_nil1 (ny_zqP hB14_8 ?_)
                 refine zy_1P 5 (by kernel_rfl) ?_
                 refine zop_runP rfl rfl (fun hB14_5 => ?_)
                 refine sy_callRO [0, 1, 1] call_37 rfl rfl (htm h2 st o vn _ hT hat hnm hm) rfl rfl (fun a87 e87 h87x H87x hb87 hx87 hle87x => ?_) (fun x87 s87 g87 h87x H87x hk87 hx87 hle87x => ?_)
                 · obtain ⟨a9, i9, o9, v9, n9, rfl⟩ := hx87
                   refine ny_zyPP ?_
                   refine ny_thenP ?_
                   refine ny_thenP ?_
                   first | exact ny_finP (fun w9 hs => ⟨.bad a87 e87, _, _, rfl, ⟨(by unfold nameR; rw [if_neg hcn, if_neg hqn, if_neg hmn, if_pos hpp, hb87]), _, _, _, _, _, rfl⟩, hs.sel (is := [0, 0, 0]) rfl⟩) | exact ny_finP (fun w9 hs => ⟨.bad a89 e89, _, _, rfl, ⟨(by unfold nameR; rw [if_neg hcn, if_neg hqn, if_neg hmn, if_pos hpp, hk87]; simp only; rw [← hg87]; exact congrArg (mapR _) hb89), _, _, _, _, _, rfl⟩, hs.sel (is := [0, 0, 0]) rfl⟩)
                 · obtain ⟨hg87, hl87, hm87, rfl⟩ := hx87
                   replace hg87 : g87.1.tm = x87.1 := hg87
                   have hfw87 := hf _ st x87 s87 hat hk87
                   have hww87 := hwg _ st x87 s87 hat hk87
                   have hpw87 := hPW s87.at_
                   have hT87 := hT.le hle87x
                   refine sy_nil rfl (ny_zyP hB14_5 hle87x ?_)
                   refine zy_1P 6 (by kernel_rfl) ?_
                   refine zop_runP rfl rfl (fun hB14_6 => ?_)
                   refine sy_buildSlice (cs := [g87.1].flatMap GT.cells) rfl (fun w => bsl_23_1_0 w) rfl rfl (fun b88 hb88 hM88 => ?_) (by first | exact hb0 | simp)
                   refine sy_frz 0 rfl hM88 (fun h88 hle88 hb88x => ?_)
                   have hr88 : RowsAt h88 (some ⟨b88, 0, none⟩) 4 ([g87.1].map GT.cells) := rows_blk (by decide) (GT.cells_len _) hb88x
                   refine sy_nil rfl (ny_zyP hB14_6 hle88 ?_)
                   refine zy_1P 7 (by kernel_rfl) ?_
                   refine zop_runP rfl rfl (fun hB14_7 => ?_)
                   refine sy_callRO [0] call_71 rfl rfl (mk_c t.str hs9 [g87.1] (some ⟨b88, 0, none⟩) 1 r bm A c L lv _ (hT87.le hle88) hL s87 inn g87.2.2 hfw87.2.1 rfl hr88 (fun x h9 => by rw [List.mem_singleton.1 h9]; exact ⟨⟨hl87.1.le hle88, hl87.2⟩, by rw [wtG_tm, hg87]; omega⟩) (by simp) (by simp)) rfl rfl (fun a89 e89 h89x H89x hb89 hx89 hle89x => ?_) (fun x89 s89 g89 h89x H89x hk89 hx89 hle89x => ?_)
                   · subst hx89
                     refine ny_zyPP ?_
                     refine ny_thenP ?_
                     refine ny_thenP ?_
                     first | exact ny_finP (fun w9 hs => ⟨.bad a87 e87, _, _, rfl, ⟨(by unfold nameR; rw [if_neg hcn, if_neg hqn, if_neg hmn, if_pos hpp, hb87]), _, _, _, _, _, rfl⟩, hs.sel (is := [0, 0, 0]) rfl⟩) | exact ny_finP (fun w9 hs => ⟨.bad a89 e89, _, _, rfl, ⟨(by unfold nameR; rw [if_neg hcn, if_neg hqn, if_neg hmn, if_pos hpp, hk87]; simp only; rw [← hg87]; exact congrArg (mapR _) hb89), _, _, _, _, _, rfl⟩, hs.sel (is := [0, 0, 0]) rfl⟩)
                   · obtain ⟨hg89, hl89, rfl⟩ := hx89
                     have hst89 := (mkR_st hk89).symm
                     subst hst89
                     refine sy_nil rfl (ny_zyP hB14_7 hle89x ?_)
                     refine zy_1P 9 (by kernel_rfl) ?_
                     refine zop_runP rfl rfl (fun hB14_9 => ?_)
                     first | refine sy_stl 0 sz_30 rfl rfl rfl rfl rfl rfl rfl rfl ?_ | refine sy_stl 1 sz_30 rfl rfl rfl rfl rfl rfl rfl rfl ?_ | refine sy_stl 2 sz_30 rfl rfl rfl rfl rfl rfl rfl rfl ?_ | refine sy_stl 3 sz_30 rfl rfl rfl rfl rfl rfl rfl rfl ?_ | refine sy_stl 4 sz_30 rfl rfl rfl rfl rfl rfl rfl rfl ?_ | refine sy_stl 5 sz_30 rfl rfl rfl rfl rfl rfl rfl rfl ?_
                     refine sy_nil rfl (ny_zyP hB14_9 (Hp.Le.refl _) ?_)
                     refine zy_qP 10 (fun c a d v w hq => by cases d <;> exact hq) rfl (by kernel_rfl) (fun hB14_10 => ?_)
                     refine sy_assign rfl rfl rfl ?_
                     refine sy_nil1 (ny_zqP hB14_10 ?_)
                     refine zy_doneP (by kernel_rfl) ?_
                     refine ny_next ?_
                     refine cy_ret ?_
                     refine ny_thenR ?_
                     exact ny_finR (resc1 0 rfl agg_30 rfl rfl rfl rfl) (fun w9 hs => ⟨.ok (x89, (refPrefix t.str.data.toList).1) s87 (g89, g87.2.1, g87.2.2), h89x, _, rfl, ⟨(by unfold nameR; rw [if_neg hcn, if_neg hqn, if_neg hmn, if_pos hpp, hk87]; simp only; rw [← hg87]; exact congrArg (mapR _) hk89), hg89, hl89, hm87, rfl⟩, hs.sel (is := [1, 1, 1]) rfl⟩)
               · have hpn : ¬ ((refPrefix t.str.data.toList).2.2 = true ∧ (refPrefix t.str.data.toList).1 ≤ most ∧ beginsR (tokA L st.at_) = true) := fun h9 => by
                  rw [h9.2.2] at hc81
                  cases hc81
                 refine cy_skip ?_
                 refine ny_next ?_
                 refine cy_seq ?_
                 refine cy_region ?_
                 refine sy_field fld_65_1 rfl rfl rfl ?_
                 refine sy_ldh one_9 rfl (Hp.blk hbt 1 _ rfl) rfl rfl ?_
                 refine sy_call rfl call_18 rfl (atom_c t.str _) rfl rfl ?_
                 first | refine sy_stl 0 sz_30 rfl rfl rfl rfl rfl rfl rfl rfl ?_ | refine sy_stl 1 sz_30 rfl rfl rfl rfl rfl rfl rfl rfl ?_ | refine sy_stl 2 sz_30 rfl rfl rfl rfl rfl rfl rfl rfl ?_ | refine sy_stl 3 sz_30 rfl rfl rfl rfl rfl rfl rfl rfl ?_ | refine sy_stl 4 sz_30 rfl rfl rfl rfl rfl rfl rfl rfl ?_ | refine sy_stl 5 sz_30 rfl rfl rfl rfl rfl rfl rfl rfl ?_
                 refine sy_assign rfl rfl rfl ?_
                 refine sy_nil rfl ?_
                 refine ny_next ?_
                 refine cy_ret ?_
                 exact ny_finR (resc1 0 rfl agg_30 rfl rfl rfl rfl) (fun w9 hs => ⟨.ok (funT t.str [], 0) st ((GT.mk 3 0 t.str none 0 []), o, vn), h2, _, rfl, ⟨(by unfold nameR; rw [if_neg hcn, if_neg hqn, if_neg hmn, if_neg hpn]), (leaf_ok h2 hs9).1, (leaf_ok h2 hs9).2, hm, rfl⟩, hs.sel (is := [1, 1, 1]) rfl⟩)
             · refine sy_skip rfl rfl rfl ?_
               refine sy_skip rfl rfl rfl ?_
               refine sy_pickF rfl rfl rfl rfl ?_
               refine sy_nil rfl ?_
               refine ny_next ?_
               refine cy_condF rfl ?_
               have hpn : ¬ ((refPrefix t.str.data.toList).2.2 = true ∧ (refPrefix t.str.data.toList).1 ≤ most ∧ beginsR (tokA L st.at_) = true) := fun h9 => by
                first | (rw [h9.1] at hg73; exact absurd hg73 (by decide)) | (have h8 := of_decide_eq_false hg78; exact h8 h9.2.1)
               refine cy_skip ?_
               refine ny_next ?_
               refine cy_seq ?_
               refine cy_region ?_
               refine sy_field fld_65_1 rfl rfl rfl ?_
               refine sy_ldh one_9 rfl (Hp.blk hbt 1 _ rfl) rfl rfl ?_
               refine sy_call rfl call_18 rfl (atom_c t.str _) rfl rfl ?_
               first | refine sy_stl 0 sz_30 rfl rfl rfl rfl rfl rfl rfl rfl ?_ | refine sy_stl 1 sz_30 rfl rfl rfl rfl rfl rfl rfl rfl ?_ | refine sy_stl 2 sz_30 rfl rfl rfl rfl rfl rfl rfl rfl ?_ | refine sy_stl 3 sz_30 rfl rfl rfl rfl rfl rfl rfl rfl ?_ | refine sy_stl 4 sz_30 rfl rfl rfl rfl rfl rfl rfl rfl ?_ | refine sy_stl 5 sz_30 rfl rfl rfl rfl rfl rfl rfl rfl ?_
               refine sy_assign rfl rfl rfl ?_
               refine sy_nil rfl ?_
               refine ny_next ?_
               refine cy_ret ?_
               exact ny_finR (resc1 0 rfl agg_30 rfl rfl rfl rfl) (fun w9 hs => ⟨.ok (funT t.str [], 0) st ((GT.mk 3 0 t.str none 0 []), o, vn), h2, _, rfl, ⟨(by unfold nameR; rw [if_neg hcn, if_neg hqn, if_neg hmn, if_neg hpn]), (leaf_ok h2 hs9).1, (leaf_ok h2 hs9).2, hm, rfl⟩, hs.sel (is := [1, 1, 1]) rfl⟩)
           · refine sy_skip rfl rfl rfl ?_
             refine sy_skip rfl rfl rfl ?_
             refine sy_skip rfl rfl rfl ?_
             refine sy_pickF rfl rfl rfl rfl ?_
             refine sy_move rfl rfl rfl ?_
             refine sy_skip rfl rfl rfl ?_
             refine sy_skip rfl rfl rfl ?_
             refine sy_pickF rfl rfl rfl rfl ?_
             refine sy_nil rfl ?_
             refine ny_next ?_
             refine cy_condF rfl ?_
             have hpn : ¬ ((refPrefix t.str.data.toList).2.2 = true ∧ (refPrefix t.str.data.toList).1 ≤ most ∧ beginsR (tokA L st.at_) = true) := fun h9 => by
              first | (rw [h9.1] at hg73; exact absurd hg73 (by decide)) | (have h8 := of_decide_eq_false hg78; exact h8 h9.2.1)
             refine cy_skip ?_
             refine ny_next ?_
             refine cy_seq ?_
             refine cy_region ?_
             refine sy_field fld_65_1 rfl rfl rfl ?_
             refine sy_ldh one_9 rfl (Hp.blk hbt 1 _ rfl) rfl rfl ?_
             refine sy_call rfl call_18 rfl (atom_c t.str _) rfl rfl ?_
             first | refine sy_stl 0 sz_30 rfl rfl rfl rfl rfl rfl rfl rfl ?_ | refine sy_stl 1 sz_30 rfl rfl rfl rfl rfl rfl rfl rfl ?_ | refine sy_stl 2 sz_30 rfl rfl rfl rfl rfl rfl rfl rfl ?_ | refine sy_stl 3 sz_30 rfl rfl rfl rfl rfl rfl rfl rfl ?_ | refine sy_stl 4 sz_30 rfl rfl rfl rfl rfl rfl rfl rfl ?_ | refine sy_stl 5 sz_30 rfl rfl rfl rfl rfl rfl rfl rfl ?_
             refine sy_assign rfl rfl rfl ?_
             refine sy_nil rfl ?_
             refine ny_next ?_
             refine cy_ret ?_
             exact ny_finR (resc1 0 rfl agg_30 rfl rfl rfl rfl) (fun w9 hs => ⟨.ok (funT t.str [], 0) st ((GT.mk 3 0 t.str none 0 []), o, vn), h2, _, rfl, ⟨(by unfold nameR; rw [if_neg hcn, if_neg hqn, if_neg hmn, if_neg hpn]), (leaf_ok h2 hs9).1, (leaf_ok h2 hs9).2, hm, rfl⟩, hs.sel (is := [1, 1, 1]) rfl⟩)
       · refine sy_skip rfl rfl rfl ?_
         refine sy_skip rfl rfl rfl ?_
         refine sy_pickF rfl rfl rfl rfl ?_
         refine sy_move rfl rfl rfl ?_
         refine sy_skip rfl rfl rfl ?_
         refine sy_skip rfl rfl rfl ?_
         refine sy_skip rfl rfl rfl ?_
         refine sy_pickF rfl rfl rfl rfl ?_
         refine sy_nil rfl ?_
         refine ny_next ?_
         refine cy_condF rfl ?_
         have hmn : ¬ (t.str.data.toList = [45] ∧ (tokA L st.at_).tight = true ∧ (tokA L st.at_).kind = 3) := fun h9 => by
          first | (rw [h9.1] at hg45; exact absurd hg45 (by decide)) | (rw [h9.2.1] at hg49; exact absurd hg49 (by decide))
         refine cy_skip ?_
         refine ny_next ?_
         refine cy_seq ?_
         refine cy_seq ?_
         refine cy_region ?_
         refine sy_field fld_65_1 rfl rfl rfl ?_
         refine sy_ldh one_9 rfl (Hp.blk hbt 1 _ rfl) rfl rfl ?_
         refine sy_call rfl call_82 rfl (prefix_c t.str _) rfl rfl ?_
         refine sy_move rfl rfl rfl ?_
         refine sy_extract rfl rfl rfl rfl ?_
         refine sy_extract rfl rfl rfl rfl ?_
         refine sy_extract rfl rfl rfl rfl ?_
         refine sy_assign rfl rfl rfl ?_
         refine sy_assign rfl rfl rfl ?_
         refine sy_assign rfl rfl rfl ?_
         refine sy_nil rfl ?_
         refine ny_next ?_
         refine cy_seq ?_
         refine cy_region ?_
         refine sy_move rfl rfl rfl ?_
         refine sy_move rfl rfl rfl ?_
         refine sy_cond (d := 73) _ rfl rfl (fun hg73 => ?_) (fun hg73 => ?_)
         · refine sy_move rfl rfl rfl ?_
           refine sy_move rfl rfl rfl ?_
           refine sy_cmp rfl rfl rfl rfl rfl ?_
           refine sy_pickT rfl rfl rfl rfl ?_
           refine sy_move rfl rfl rfl ?_
           refine sy_cond (d := 78) _ rfl rfl (fun hg78 => ?_) (fun hg78 => ?_)
           · refine sy_ldah (vs := rtC (tokA L st.at_)) agg_65 rfl rfl (Hp.blk hb8x) rfl rfl ?_
             refine sy_call rfl call_83 rfl (begins_c (tokA L st.at_) _) rfl rfl ?_
             refine sy_pickT rfl rfl rfl rfl ?_
             refine sy_nil rfl ?_
             refine ny_next ?_
             refine cy_cond rfl (fun hc81 => ?_) (fun hc81 => ?_)
             · have hpp : (refPrefix t.str.data.toList).2.2 = true ∧ (refPrefix t.str.data.toList).1 ≤ most ∧ beginsR (tokA L st.at_) = true := ⟨hg73, of_decide_eq_true hg78, hc81⟩
               refine cy_seq ?_
               refine cy_regionAP mixed ?_
               refine zy_qP 0 (fun c a d v w hq => by cases d <;> exact hq) rfl (by kernel_rfl) (fun hB14_0 => ?_)
               refine sy_move rfl rfl rfl ?_
               refine sy_nil1 (ny_zqP hB14_0 ?_)
               refine zy_qP 1 (fun c a d v w hq => by cases d <;> exact hq) rfl (by kernel_rfl) (fun hB14_1 => ?_)
               refine sy_field fld_65_1 rfl rfl rfl ?_
               refine sy_nil1 (ny_zqP hB14_1 ?_)
               refine zy_qP 2 (fun c a d v w hq => by cases d <;> exact hq) rfl (by kernel_rfl) (fun hB14_2 => ?_)
               refine sy_ldh one_9 rfl (Hp.blk hbt 1 _ rfl) rfl rfl ?_
               refine sy_nil1 (ny_zqP hB14_2 ?_)
               refine zy_qP 3 (fun c a d v w hq => by cases d <;> exact hq) rfl (by kernel_rfl) (fun hB14_3 => ?_)
               refine sy_move rfl rfl rfl ?_
               refine sy_nil1 (ny_zqP hB14_3 ?_)
               refine zy_qP 4 (fun c a d v w hq => by cases d <;> exact hq) rfl (by kernel_rfl) (fun hB14_4 => ?_)
               refine sy_move rfl rfl rfl ?_
               refine sy_nil1 (ny_zqP hB14_4 ?_)
               refine zy_qP 8 (fun c a d v w hq => by cases d <;> exact hq) rfl (by kernel_rfl) (fun hB14_8 => ?_)
               refine sy_move rfl rfl rfl ?_
               refine sy_nil1 (ny_zqP hB14_8 ?_)
               refine zy_1P 5 (by kernel_rfl) ?_
               refine zop_runP rfl rfl (fun hB14_5 => ?_)
               refine sy_callRO [0, 1, 1] call_37 rfl rfl (htm h2 st o vn _ hT hat hnm hm) rfl rfl (fun a87 e87 h87x H87x hb87 hx87 hle87x => ?_) (fun x87 s87 g87 h87x H87x hk87 hx87 hle87x => ?_)
               · obtain ⟨a9, i9, o9, v9, n9, rfl⟩ := hx87
                 refine ny_zyPP ?_
                 refine ny_thenP ?_
                 refine ny_thenP ?_
                 first | exact ny_finP (fun w9 hs => ⟨.bad a87 e87, _, _, rfl, ⟨(by unfold nameR; rw [if_neg hcn, if_neg hqn, if_neg hmn, if_pos hpp, hb87]), _, _, _, _, _, rfl⟩, hs.sel (is := [0, 0, 0]) rfl⟩) | exact ny_finP (fun w9 hs => ⟨.bad a89 e89, _, _, rfl, ⟨(by unfold nameR; rw [if_neg hcn, if_neg hqn, if_neg hmn, if_pos hpp, hk87]; simp only; rw [← hg87]; exact congrArg (mapR _) hb89), _, _, _, _, _, rfl⟩, hs.sel (is := [0, 0, 0]) rfl⟩)
               · obtain ⟨hg87, hl87, hm87, rfl⟩ := hx87
                 replace hg87 : g87.1.tm = x87.1 := hg87
                 have hfw87 := hf _ st x87 s87 hat hk87
                 have hww87 := hwg _ st x87 s87 hat hk87
                 have hpw87 := hPW s87.at_
                 have hT87 := hT.le hle87x
                 refine sy_nil rfl (ny_zyP hB14_5 hle87x ?_)
                 refine zy_1P 6 (by kernel_rfl) ?_
                 refine zop_runP rfl rfl (fun hB14_6 => ?_)
                 refine sy_buildSlice (cs := [g87.1].flatMap GT.cells) rfl (fun w => bsl_23_1_0 w) rfl rfl (fun b88 hb88 hM88 => ?_) (by first | exact hb0 | simp)
                 refine sy_frz 0 rfl hM88 (fun h88 hle88 hb88x => ?_)
                 have hr88 : RowsAt h88 (some ⟨b88, 0, none⟩) 4 ([g87.1].map GT.cells) := rows_blk (by decide) (GT.cells_len _) hb88x
                 refine sy_nil rfl (ny_zyP hB14_6 hle88 ?_)
                 refine zy_1P 7 (by kernel_rfl) ?_
                 refine zop_runP rfl rfl (fun hB14_7 => ?_)
                 refine sy_callRO [0] call_71 rfl rfl (mk_c t.str hs9 [g87.1] (some ⟨b88, 0, none⟩) 1 r bm A c L lv _ (hT87.le hle88) hL s87 inn g87.2.2 hfw87.2.1 rfl hr88 (fun x h9 => by rw [List.mem_singleton.1 h9]; exact ⟨⟨hl87.1.le hle88, hl87.2⟩, by rw [wtG_tm, hg87]; omega⟩) (by simp) (by simp)) rfl rfl (fun a89 e89 h89x H89x hb89 hx89 hle89x => ?_) (fun x89 s89 g89 h89x H89x hk89 hx89 hle89x => ?_)
                 · subst hx89
                   refine ny_zyPP ?_
                   refine ny_thenP ?_
                   refine ny_thenP ?_
                   first | exact ny_finP (fun w9 hs => ⟨.bad a87 e87, _, _, rfl, ⟨(by unfold nameR; rw [if_neg hcn, if_neg hqn, if_neg hmn, if_pos hpp, hb87]), _, _, _, _, _, rfl⟩, hs.sel (is := [0, 0, 0]) rfl⟩) | exact ny_finP (fun w9 hs => ⟨.bad a89 e89, _, _, rfl, ⟨(by unfold nameR; rw [if_neg hcn, if_neg hqn, if_neg hmn, if_pos hpp, hk87]; simp only; rw [← hg87]; exact congrArg (mapR _) hb89), _, _, _, _, _, rfl⟩, hs.sel (is := [0, 0, 0]) rfl⟩)
                 · obtain ⟨hg89, hl89, rfl⟩ := hx89
                   have hst89 := (mkR_st hk89).symm
                   subst hst89
                   refine sy_nil rfl (ny_zyP hB14_7 hle89x ?_)
                   refine zy_1P 9 (by kernel_rfl) ?_
                   refine zop_runP rfl rfl (fun hB14_9 => ?_)
                   first | refine sy_stl 0 sz_30 rfl rfl rfl rfl rfl rfl rfl rfl ?_ | refine sy_stl 1 sz_30 rfl rfl rfl rfl rfl rfl rfl rfl ?_ | refine sy_stl 2 sz_30 rfl rfl rfl rfl rfl rfl rfl rfl ?_ | refine sy_stl 3 sz_30 rfl rfl rfl rfl rfl rfl rfl rfl ?_ | refine sy_stl 4 sz_30 rfl rfl rfl rfl rfl rfl rfl rfl ?_ | refine sy_stl 5 sz_30 rfl rfl rfl rfl rfl rfl rfl rfl ?_
                   refine sy_nil rfl (ny_zyP hB14_9 (Hp.Le.refl _) ?_)
                   refine zy_qP 10 (fun c a d v w hq => by cases d <;> exact hq) rfl (by kernel_rfl) (fun hB14_10 => ?_)
                   refine sy_assign rfl rfl rfl ?_
                   refine sy_nil1 (ny_zqP hB14_10 ?_)
                   refine zy_doneP (by kernel_rfl) ?_
                   refine ny_next ?_
                   refine cy_ret ?_
                   refine ny_thenR ?_
                   exact ny_finR (resc1 0 rfl agg_30 rfl rfl rfl rfl) (fun w9 hs => ⟨.ok (x89, (refPrefix t.str.data.toList).1) s87 (g89, g87.2.1, g87.2.2), h89x, _, rfl, ⟨(by unfold nameR; rw [if_neg hcn, if_neg hqn, if_neg hmn, if_pos hpp, hk87]; simp only; rw [← hg87]; exact congrArg (mapR _) hk89), hg89, hl89, hm87, rfl⟩, hs.sel (is := [1, 1, 1]) rfl⟩)
             · have hpn : ¬ ((refPrefix t.str.data.toList).2.2 = true ∧ (refPrefix t.str.data.toList).1 ≤ most ∧ beginsR (tokA L st.at_) = true) := fun h9 => by
                rw [h9.2.2] at hc81
                cases hc81
               refine cy_skip ?_
               refine ny_next ?_
               refine cy_seq ?_
               refine cy_region ?_
               refine sy_field fld_65_1 rfl rfl rfl ?_
               refine sy_ldh one_9 rfl (Hp.blk hbt 1 _ rfl) rfl rfl ?_
               refine sy_call rfl call_18 rfl (atom_c t.str _) rfl rfl ?_
               first | refine sy_stl 0 sz_30 rfl rfl rfl rfl rfl rfl rfl rfl ?_ | refine sy_stl 1 sz_30 rfl rfl rfl rfl rfl rfl rfl rfl ?_ | refine sy_stl 2 sz_30 rfl rfl rfl rfl rfl rfl rfl rfl ?_ | refine sy_stl 3 sz_30 rfl rfl rfl rfl rfl rfl rfl rfl ?_ | refine sy_stl 4 sz_30 rfl rfl rfl rfl rfl rfl rfl rfl ?_ | refine sy_stl 5 sz_30 rfl rfl rfl rfl rfl rfl rfl rfl ?_
               refine sy_assign rfl rfl rfl ?_
               refine sy_nil rfl ?_
               refine ny_next ?_
               refine cy_ret ?_
               exact ny_finR (resc1 0 rfl agg_30 rfl rfl rfl rfl) (fun w9 hs => ⟨.ok (funT t.str [], 0) st ((GT.mk 3 0 t.str none 0 []), o, vn), h2, _, rfl, ⟨(by unfold nameR; rw [if_neg hcn, if_neg hqn, if_neg hmn, if_neg hpn]), (leaf_ok h2 hs9).1, (leaf_ok h2 hs9).2, hm, rfl⟩, hs.sel (is := [1, 1, 1]) rfl⟩)
           · refine sy_skip rfl rfl rfl ?_
             refine sy_skip rfl rfl rfl ?_
             refine sy_pickF rfl rfl rfl rfl ?_
             refine sy_nil rfl ?_
             refine ny_next ?_
             refine cy_condF rfl ?_
             have hpn : ¬ ((refPrefix t.str.data.toList).2.2 = true ∧ (refPrefix t.str.data.toList).1 ≤ most ∧ beginsR (tokA L st.at_) = true) := fun h9 => by
              first | (rw [h9.1] at hg73; exact absurd hg73 (by decide)) | (have h8 := of_decide_eq_false hg78; exact h8 h9.2.1)
             refine cy_skip ?_
             refine ny_next ?_
             refine cy_seq ?_
             refine cy_region ?_
             refine sy_field fld_65_1 rfl rfl rfl ?_
             refine sy_ldh one_9 rfl (Hp.blk hbt 1 _ rfl) rfl rfl ?_
             refine sy_call rfl call_18 rfl (atom_c t.str _) rfl rfl ?_
             first | refine sy_stl 0 sz_30 rfl rfl rfl rfl rfl rfl rfl rfl ?_ | refine sy_stl 1 sz_30 rfl rfl rfl rfl rfl rfl rfl rfl ?_ | refine sy_stl 2 sz_30 rfl rfl rfl rfl rfl rfl rfl rfl ?_ | refine sy_stl 3 sz_30 rfl rfl rfl rfl rfl rfl rfl rfl ?_ | refine sy_stl 4 sz_30 rfl rfl rfl rfl rfl rfl rfl rfl ?_ | refine sy_stl 5 sz_30 rfl rfl rfl rfl rfl rfl rfl rfl ?_
             refine sy_assign rfl rfl rfl ?_
             refine sy_nil rfl ?_
             refine ny_next ?_
             refine cy_ret ?_
             exact ny_finR (resc1 0 rfl agg_30 rfl rfl rfl rfl) (fun w9 hs => ⟨.ok (funT t.str [], 0) st ((GT.mk 3 0 t.str none 0 []), o, vn), h2, _, rfl, ⟨(by unfold nameR; rw [if_neg hcn, if_neg hqn, if_neg hmn, if_neg hpn]), (leaf_ok h2 hs9).1, (leaf_ok h2 hs9).2, hm, rfl⟩, hs.sel (is := [1, 1, 1]) rfl⟩)
         · refine sy_skip rfl rfl rfl ?_
           refine sy_skip rfl rfl rfl ?_
           refine sy_skip rfl rfl rfl ?_
           refine sy_pickF rfl rfl rfl rfl ?_
           refine sy_move rfl rfl rfl ?_
           refine sy_skip rfl rfl rfl ?_
           refine sy_skip rfl rfl rfl ?_
           refine sy_pickF rfl rfl rfl rfl ?_
           refine sy_nil rfl ?_
           refine ny_next ?_
           refine cy_condF rfl ?_
           have hpn : ¬ ((refPrefix t.str.data.toList).2.2 = true ∧ (refPrefix t.str.data.toList).1 ≤ most ∧ beginsR (tokA L st.at_) = true) := fun h9 => by
            first | (rw [h9.1] at hg73; exact absurd hg73 (by decide)) | (have h8 := of_decide_eq_false hg78; exact h8 h9.2.1)
           refine cy_skip ?_
           refine ny_next ?_
           refine cy_seq ?_
           refine cy_region ?_
           refine sy_field fld_65_1 rfl rfl rfl ?_
           refine sy_ldh one_9 rfl (Hp.blk hbt 1 _ rfl) rfl rfl ?_
           refine sy_call rfl call_18 rfl (atom_c t.str _) rfl rfl ?_
           first | refine sy_stl 0 sz_30 rfl rfl rfl rfl rfl rfl rfl rfl ?_ | refine sy_stl 1 sz_30 rfl rfl rfl rfl rfl rfl rfl rfl ?_ | refine sy_stl 2 sz_30 rfl rfl rfl rfl rfl rfl rfl rfl ?_ | refine sy_stl 3 sz_30 rfl rfl rfl rfl rfl rfl rfl rfl ?_ | refine sy_stl 4 sz_30 rfl rfl rfl rfl rfl rfl rfl rfl ?_ | refine sy_stl 5 sz_30 rfl rfl rfl rfl rfl rfl rfl rfl ?_
           refine sy_assign rfl rfl rfl ?_
           refine sy_nil rfl ?_
           refine ny_next ?_
           refine cy_ret ?_
           exact ny_finR (resc1 0 rfl agg_30 rfl rfl rfl rfl) (fun w9 hs => ⟨.ok (funT t.str [], 0) st ((GT.mk 3 0 t.str none 0 []), o, vn), h2, _, rfl, ⟨(by unfold nameR; rw [if_neg hcn, if_neg hqn, if_neg hmn, if_neg hpn]), (leaf_ok h2 hs9).1, (leaf_ok h2 hs9).2, hm, rfl⟩, hs.sel (is := [1, 1, 1]) rfl⟩)
 · refine sy_skip rfl rfl rfl ?_
   refine sy_skip rfl rfl rfl ?_
   refine sy_pickF rfl rfl rfl rfl ?_
   refine sy_nil rfl ?_
   refine ny_next ?_
   refine cy_condF rfl ?_
   have hcn : ¬ ((tokA L st.at_).tight = true ∧ isP L st.at_ [40] = true) := fun h9 => by
    rw [h9.1] at hg17
    cases hg17
   refine cy_skip ?_
   refine ny_next ?_
   refine cy_seq ?_
   refine cy_seq ?_
   refine cy_region ?_
   refine sy_field fld_65_3 rfl rfl rfl ?_
   refine sy_ldh one_4 rfl (Hp.blk hbt 3 _ rfl) rfl rfl ?_
   refine sy_nil rfl ?_
   refine ny_next ?_
   refine cy_cond rfl (fun hc38 => ?_) (fun hc38 => ?_)
   · have hqp : t.quo = true := hc38
     refine cy_seq ?_
     refine cy_region ?_
     refine sy_field fld_65_1 rfl rfl rfl ?_
     refine sy_ldh one_9 rfl (Hp.blk hbt 1 _ rfl) rfl rfl ?_
     refine sy_call rfl call_18 rfl (atom_c t.str _) rfl rfl ?_
     first | refine sy_stl 0 sz_30 rfl rfl rfl rfl rfl rfl rfl rfl ?_ | refine sy_stl 1 sz_30 rfl rfl rfl rfl rfl rfl rfl rfl ?_ | refine sy_stl 2 sz_30 rfl rfl rfl rfl rfl rfl rfl rfl ?_ | refine sy_stl 3 sz_30 rfl rfl rfl rfl rfl rfl rfl rfl ?_ | refine sy_stl 4 sz_30 rfl rfl rfl rfl rfl rfl rfl rfl ?_ | refine sy_stl 5 sz_30 rfl rfl rfl rfl rfl rfl rfl rfl ?_
     refine sy_assign rfl rfl rfl ?_
     refine sy_nil rfl ?_
     refine ny_next ?_
     refine cy_ret ?_
     refine ny_thenR ?_
     exact ny_finR (resc1 0 rfl agg_30 rfl rfl rfl rfl) (fun w9 hs => ⟨.ok (funT t.str [], 0) st ((GT.mk 3 0 t.str none 0 []), o, vn), h2, _, rfl, ⟨(by unfold nameR; rw [if_neg hcn, if_pos hqp]), (leaf_ok h2 hs9).1, (leaf_ok h2 hs9).2, hm, rfl⟩, hs.sel (is := [1, 1, 1]) rfl⟩)
   · have hqn : ¬ t.quo = true := by rw [Bool.not_eq_true]; exact hc38
     refine cy_skip ?_
     refine ny_next ?_
     refine cy_seq ?_
     refine cy_seq ?_
     refine cy_region ?_
     refine sy_field fld_65_1 rfl rfl rfl ?_
     refine sy_ldh one_9 rfl (Hp.blk hbt 1 _ rfl) rfl rfl ?_
     refine sy_eqs rfl rfl rfl rfl ?_
     refine sy_move rfl rfl rfl ?_
     refine sy_cond (d := 45) _ rfl rfl (fun hg45 => ?_) (fun hg45 => ?_)
     · refine sy_field fld_65_4 rfl rfl rfl ?_
       refine sy_ldh one_4 rfl (Hp.blk hb8x 4 _ rfl) rfl rfl ?_
       refine sy_pickT rfl rfl rfl rfl ?_
       refine sy_move rfl rfl rfl ?_
       refine sy_cond (d := 49) _ rfl rfl (fun hg49 => ?_) (fun hg49 => ?_)
       · refine sy_field fld_65_0 rfl rfl rfl ?_
         refine sy_ldh one_3 rfl (Hp.blk hb8x 0 _ rfl) rfl rfl ?_
         refine sy_cmp rfl rfl rfl rfl rfl ?_
         refine sy_pickT rfl rfl rfl rfl ?_
         refine sy_nil rfl ?_
         refine ny_next ?_
         refine cy_cond rfl (fun hc53 => ?_) (fun hc53 => ?_)
         · have hmp : t.str.data.toList = [45] ∧ (tokA L st.at_).tight = true ∧ (tokA L st.at_).kind = 3 := ⟨eq_of_beq hg45, hg49, by simpa using hc53⟩
           have hlt := tok_lt (L := L) (i := st.at_) (by rw [hmp.2.2]; decide)
           refine cy_seq ?_
           refine cy_region ?_
           refine sy_move rfl rfl rfl ?_
           refine sy_nilCheck rfl rfl rfl ?_
           refine sy_field fld_74_1 rfl rfl rfl ?_
           first | refine sy_ldr 0 one_3 rfl rfl rfl rfl rfl ?_ | refine sy_ldr 1 one_3 rfl rfl rfl rfl rfl ?_ | refine sy_ldr 2 one_3 rfl rfl rfl rfl rfl ?_ | refine sy_ldr 3 one_3 rfl rfl rfl rfl rfl ?_ | refine sy_ldr 4 one_3 rfl rfl rfl rfl rfl ?_ | refine sy_ldr 5 one_3 rfl rfl rfl rfl rfl ?_
           refine sy_addi (z := ((st.at_ + 1 : Nat) : Int)) rfl rfl (by omega) (by omega) (by omega) rfl rfl ?_
           refine sy_nilCheck rfl rfl rfl ?_
           refine sy_field fld_74_1 rfl rfl rfl ?_
           first | refine sy_stl 0 sz_3 rfl rfl rfl rfl rfl rfl rfl rfl ?_ | refine sy_stl 1 sz_3 rfl rfl rfl rfl rfl rfl rfl rfl ?_ | refine sy_stl 2 sz_3 rfl rfl rfl rfl rfl rfl rfl rfl ?_ | refine sy_stl 3 sz_3 rfl rfl rfl rfl rfl rfl rfl rfl ?_ | refine sy_stl 4 sz_3 rfl rfl rfl rfl rfl rfl rfl rfl ?_ | refine sy_stl 5 sz_3 rfl rfl rfl rfl rfl rfl rfl rfl ?_
           refine sy_nil rfl ?_
           refine ny_next ?_
           refine cy_seq ?_
           refine cy_region ?_
           refine sy_field fld_65_2 rfl rfl rfl ?_
           refine sy_ldh one_2 rfl (Hp.blk hb8x 2 _ rfl) rfl rfl ?_
           refine sy_negw Tryd.underlying2 rfl rfl rfl ?_
           have hwr := wrap_bounds (-(tokA L st.at_).num)
           refine sy_call rfl call_15 rfl (num_c _ _) rfl rfl ?_
           first | refine sy_stl 0 sz_30 rfl rfl rfl rfl rfl rfl rfl rfl ?_ | refine sy_stl 1 sz_30 rfl rfl rfl rfl rfl rfl rfl rfl ?_ | refine sy_stl 2 sz_30 rfl rfl rfl rfl rfl rfl rfl rfl ?_ | refine sy_stl 3 sz_30 rfl rfl rfl rfl rfl rfl rfl rfl ?_ | refine sy_stl 4 sz_30 rfl rfl rfl rfl rfl rfl rfl rfl ?_ | refine sy_stl 5 sz_30 rfl rfl rfl rfl rfl rfl rfl rfl ?_
           refine sy_assign rfl rfl rfl ?_
           refine sy_nil rfl ?_
           refine ny_next ?_
           refine cy_ret ?_
           refine ny_thenR ?_
           exact ny_finR (resc1 0 rfl agg_30 rfl rfl rfl rfl) (fun w9 hs => ⟨.ok (_, 0) (adv st) (GT.mk 2 (IntKind.i64.wrap (-(tokA L st.at_).num)) ⟨#[]⟩ none 0 [], o, vn), h2, _, rfl, ⟨(by unfold nameR; rw [if_neg hcn, if_neg hqn, if_pos hmp]), (by rw [tm_leaf]; rfl), ⟨lies_leaf _ _ _ _, fits_leaf (by decide) (by decide) hwr.1 hwr.2 (by decide)⟩, hm, rfl⟩, hs.sel (is := [1, 1, 1]) rfl⟩)
         · have hmn : ¬ (t.str.data.toList = [45] ∧ (tokA L st.at_).tight = true ∧ (tokA L st.at_).kind = 3) := fun h9 => by
            rw [h9.2.2] at hc53
            exact absurd hc53 (by decide)
           refine cy_skip ?_
           refine ny_next ?_
           refine cy_seq ?_
           refine cy_seq ?_
           refine cy_region ?_
           refine sy_field fld_65_1 rfl rfl rfl ?_
           refine sy_ldh one_9 rfl (Hp.blk hbt 1 _ rfl) rfl rfl ?_
           refine sy_call rfl call_82 rfl (prefix_c t.str _) rfl rfl ?_
           refine sy_move rfl rfl rfl ?_
           refine sy_extract rfl rfl rfl rfl ?_
           refine sy_extract rfl rfl rfl rfl ?_
           refine sy_extract rfl rfl rfl rfl ?_
           refine sy_assign rfl rfl rfl ?_
           refine sy_assign rfl rfl rfl ?_
           refine sy_assign rfl rfl rfl ?_
           refine sy_nil rfl ?_
           refine ny_next ?_
           refine cy_seq ?_
           refine cy_region ?_
           refine sy_move rfl rfl rfl ?_
           refine sy_move rfl rfl rfl ?_
           refine sy_cond (d := 73) _ rfl rfl (fun hg73 => ?_) (fun hg73 => ?_)
           · refine sy_move rfl rfl rfl ?_
             refine sy_move rfl rfl rfl ?_
             refine sy_cmp rfl rfl rfl rfl rfl ?_
             refine sy_pickT rfl rfl rfl rfl ?_
             refine sy_move rfl rfl rfl ?_
             refine sy_cond (d := 78) _ rfl rfl (fun hg78 => ?_) (fun hg78 => ?_)
             · refine sy_ldah (vs := rtC (tokA L st.at_)) agg_65 rfl rfl (Hp.blk hb8x) rfl rfl ?_
               refine sy_call rfl call_83 rfl (begins_c (tokA L st.at_) _) rfl rfl ?_
               refine sy_pickT rfl rfl rfl rfl ?_
               refine sy_nil rfl ?_
               refine ny_next ?_
               refine cy_cond rfl (fun hc81 => ?_) (fun hc81 => ?_)
               · have hpp : (refPrefix t.str.data.toList).2.2 = true ∧ (refPrefix t.str.data.toList).1 ≤ most ∧ beginsR (tokA L st.at_) = true := ⟨hg73, of_decide_eq_true hg78, hc81⟩
                 refine cy_seq ?_
                 refine cy_regionAP mixed ?_
                 refine zy_qP 0 (fun c a d v w hq => by cases d <;> exact hq) rfl (by kernel_rfl) (fun hB14_0 => ?_)
                 refine sy_move rfl rfl rfl ?_
                 refine sy_nil1 (ny_zqP hB14_0 ?_)
                 refine zy_qP 1 (fun c a d v w hq => by cases d <;> exact hq) rfl (by kernel_rfl) (fun hB14_1 => ?_)
                 refine sy_field fld_65_1 rfl rfl rfl ?_
                 refine sy_nil1 (ny_zqP hB14_1 ?_)
                 refine zy_qP 2 (fun c a d v w hq => by cases d <;> exact hq) rfl (by kernel_rfl) (fun hB14_2 => ?_)
                 refine sy_ldh one_9 rfl (Hp.blk hbt 1 _ rfl) rfl rfl ?_
                 refine sy_nil1 (ny_zqP hB14_2 ?_)
                 refine zy_qP 3 (fun c a d v w hq => by cases d <;> exact hq) rfl (by kernel_rfl) (fun hB14_3 => ?_)
                 refine sy_move rfl rfl rfl ?_
                 refine sy_nil1 (ny_zqP hB14_3 ?_)
                 refine zy_qP 4 (fun c a d v w hq => by cases d <;> exact hq) rfl (by kernel_rfl) (fun hB14_4 => ?_)
                 refine sy_move rfl rfl rfl ?_
                 refine sy_nil1 (ny_zqP hB14_4 ?_)
                 refine zy_qP 8 (fun c a d v w hq => by cases d <;> exact hq) rfl (by kernel_rfl) (fun hB14_8 => ?_)
                 refine sy_move rfl rfl rfl ?_
                 refine sy_nil1 (ny_zqP hB14_8 ?_)
                 refine zy_1P 5 (by kernel_rfl) ?_
                 refine zop_runP rfl rfl (fun hB14_5 => ?_)
                 refine sy_callRO [0, 1, 1] call_37 rfl rfl (htm h2 st o vn _ hT hat hnm hm) rfl rfl (fun a87 e87 h87x H87x hb87 hx87 hle87x => ?_) (fun x87 s87 g87 h87x H87x hk87 hx87 hle87x => ?_)
                 · obtain ⟨a9, i9, o9, v9, n9, rfl⟩ := hx87
                   refine ny_zyPP ?_
                   refine ny_thenP ?_
                   refine ny_thenP ?_
                   first | exact ny_finP (fun w9 hs => ⟨.bad a87 e87, _, _, rfl, ⟨(by unfold nameR; rw [if_neg hcn, if_neg hqn, if_neg hmn, if_pos hpp, hb87]), _, _, _, _, _, rfl⟩, hs.sel (is := [0, 0, 0]) rfl⟩) | exact ny_finP (fun w9 hs => ⟨.bad a89 e89, _, _, rfl, ⟨(by unfold nameR; rw [if_neg hcn, if_neg hqn, if_neg hmn, if_pos hpp, hk87]; simp only; rw [← hg87]; exact congrArg (mapR _) hb89), _, _, _, _, _, rfl⟩, hs.sel (is := [0, 0, 0]) rfl⟩)
                 · obtain ⟨hg87, hl87, hm87, rfl⟩ := hx87
                   replace hg87 : g87.1.tm = x87.1 := hg87
                   have hfw87 := hf _ st x87 s87 hat hk87
                   have hww87 := hwg _ st x87 s87 hat hk87
                   have hpw87 := hPW s87.at_
                   have hT87 := hT.le hle87x
                   refine sy_nil rfl (ny_zyP hB14_5 hle87x ?_)
                   refine zy_1P 6 (by kernel_rfl) ?_
                   refine zop_runP rfl rfl (fun hB14_6 => ?_)
                   refine sy_buildSlice (cs := [g87.1].flatMap GT.cells) rfl (fun w => bsl_23_1_0 w) rfl rfl (fun b88 hb88 hM88 => ?_) (by first | exact hb0 | simp)
                   refine sy_frz 0 rfl hM88 (fun h88 hle88 hb88x => ?_)
                   have hr88 : RowsAt h88 (some ⟨b88, 0, none⟩) 4 ([g87.1].map GT.cells) := rows_blk (by decide) (GT.cells_len _) hb88x
                   refine sy_nil rfl (ny_zyP hB14_6 hle88 ?_)
                   refine zy_1P 7 (by kernel_rfl) ?_
                   refine zop_runP rfl rfl (fun hB14_7 => ?_)
                   refine sy_callRO [0] call_71 rfl rfl (mk_c t.str hs9 [g87.1] (some ⟨b88, 0, none⟩) 1 r bm A c L lv _ (hT87.le hle88) hL s87 inn g87.2.2 hfw87.2.1 rfl hr88 (fun x h9 => by rw [List.mem_singleton.1 h9]; exact ⟨⟨hl87.1.le hle88, hl87.2⟩, by rw [wtG_tm, hg87]; omega⟩) (by simp) (by simp)) rfl rfl (fun a89 e89 h89x H89x hb89 hx89 hle89x => ?_) (fun x89 s89 g89 h89x H89x hk89 hx89 hle89x => ?_)
                   · subst hx89
                     refine ny_zyPP ?_
                     refine ny_thenP ?_
                     refine ny_thenP ?_
                     first | exact ny_finP (fun w9 hs => ⟨.bad a87 e87, _, _, rfl, ⟨(by unfold nameR; rw [if_neg hcn, if_neg hqn, if_neg hmn, if_pos hpp, hb87]), _, _, _, _, _, rfl⟩, hs.sel (is := [0, 0, 0]) rfl⟩) | exact ny_finP (fun w9 hs => ⟨.bad a89 e89, _, _, rfl, ⟨(by unfold nameR; rw [if_neg hcn, if_neg hqn, if_neg hmn, if_pos hpp, hk87]; simp only; rw [← hg87]; exact congrArg (mapR _) hb89), _, _, _, _, _, rfl⟩, hs.sel (is := [0, 0, 0]) rfl⟩)
                   · obtain ⟨hg89, hl89, rfl⟩ := hx89
                     have hst89 := (mkR_st hk89).symm
                     subst hst89
                     refine sy_nil rfl (ny_zyP hB14_7 hle89x ?_)
                     refine zy_1P 9 (by kernel_rfl) ?_
                     refine zop_runP rfl rfl (fun hB14_9 => ?_)
                     first | refine sy_stl 0 sz_30 rfl rfl rfl rfl rfl rfl rfl rfl ?_ | refine sy_stl 1 sz_30 rfl rfl rfl rfl rfl rfl rfl rfl ?_ | refine sy_stl 2 sz_30 rfl rfl rfl rfl rfl rfl rfl rfl ?_ | refine sy_stl 3 sz_30 rfl rfl rfl rfl rfl rfl rfl rfl ?_ | refine sy_stl 4 sz_30 rfl rfl rfl rfl rfl rfl rfl rfl ?_ | refine sy_stl 5 sz_30 rfl rfl rfl rfl rfl rfl rfl rfl ?_
                     refine sy_nil rfl (ny_zyP hB14_9 (Hp.Le.refl _) ?_)
                     refine zy_qP 10 (fun c a d v w hq => by cases d <;> exact hq) rfl (by kernel_rfl) (fun hB14_10 => ?_)
                     refine sy_assign rfl rfl rfl ?_
                     refine sy_nil1 (ny_zqP hB14_10 ?_)
                     refine zy_doneP (by kernel_rfl) ?_
                     refine ny_next ?_
                     refine cy_ret ?_
                     refine ny_thenR ?_
                     exact ny_finR (resc1 0 rfl agg_30 rfl rfl rfl rfl) (fun w9 hs => ⟨.ok (x89, (refPrefix t.str.data.toList).1) s87 (g89, g87.2.1, g87.2.2), h89x, _, rfl, ⟨(by unfold nameR; rw [if_neg hcn, if_neg hqn, if_neg hmn, if_pos hpp, hk87]; simp only; rw [← hg87]; exact congrArg (mapR _) hk89), hg89, hl89, hm87, rfl⟩, hs.sel (is := [1, 1, 1]) rfl⟩)
               · have hpn : ¬ ((refPrefix t.str.data.toList).2.2 = true ∧ (refPrefix t.str.data.toList).1 ≤ most ∧ beginsR (tokA L st.at_) = true) := fun h9 => by
                  rw [h9.2.2] at hc81
                  cases hc81
                 refine cy_skip ?_
                 refine ny_next ?_
                 refine cy_seq ?_
                 refine cy_region ?_
                 refine sy_field fld_65_1 rfl rfl rfl ?_
                 refine sy_ldh one_9 rfl (Hp.blk hbt 1 _ rfl) rfl rfl ?_
                 refine sy_call rfl call_18 rfl (atom_c t.str _) rfl rfl ?_
                 first | refine sy_stl 0 sz_30 rfl rfl rfl rfl rfl rfl rfl rfl ?_ | refine sy_stl 1 sz_30 rfl rfl rfl rfl rfl rfl rfl rfl ?_ | refine sy_stl 2 sz_30 rfl rfl rfl rfl rfl rfl rfl rfl ?_ | refine sy_stl 3 sz_30 rfl rfl rfl rfl rfl rfl rfl rfl ?_ | refine sy_stl 4 sz_30 rfl rfl rfl rfl rfl rfl rfl rfl ?_ | refine sy_stl 5 sz_30 rfl rfl rfl rfl rfl rfl rfl rfl ?_
                 refine sy_assign rfl rfl rfl ?_
                 refine sy_nil rfl ?_
                 refine ny_next ?_
                 refine cy_ret ?_
                 exact ny_finR (resc1 0 rfl agg_30 rfl rfl rfl rfl) (fun w9 hs => ⟨.ok (funT t.str [], 0) st ((GT.mk 3 0 t.str none 0 []), o, vn), h2, _, rfl, ⟨(by unfold nameR; rw [if_neg hcn, if_neg hqn, if_neg hmn, if_neg hpn]), (leaf_ok h2 hs9).1, (leaf_ok h2 hs9).2, hm, rfl⟩, hs.sel (is := [1, 1, 1]) rfl⟩)
             · refine sy_skip rfl rfl rfl ?_
               refine sy_skip rfl rfl rfl ?_
               refine sy_pickF rfl rfl rfl rfl ?_
               refine sy_nil rfl ?_
               refine ny_next ?_
               refine cy_condF rfl ?_
               have hpn : ¬ ((refPrefix t.str.data.toList).2.2 = true ∧ (refPrefix t.str.data.toList).1 ≤ most ∧ beginsR (tokA L st.at_) = true) := fun h9 => by
                first | (rw [h9.1] at hg73; exact absurd hg73 (by decide)) | (have h8 := of_decide_eq_false hg78; exact h8 h9.2.1)
               refine cy_skip ?_
               refine ny_next ?_
               refine cy_seq ?_
               refine cy_region ?_
               refine sy_field fld_65_1 rfl rfl rfl ?_
               refine sy_ldh one_9 rfl (Hp.blk hbt 1 _ rfl) rfl rfl ?_
               refine sy_call rfl call_18 rfl (atom_c t.str _) rfl rfl ?_
               first | refine sy_stl 0 sz_30 rfl rfl rfl rfl rfl rfl rfl rfl ?_ | refine sy_stl 1 sz_30 rfl rfl rfl rfl rfl rfl rfl rfl ?_ | refine sy_stl 2 sz_30 rfl rfl rfl rfl rfl rfl rfl rfl ?_ | refine sy_stl 3 sz_30 rfl rfl rfl rfl rfl rfl rfl rfl ?_ | refine sy_stl 4 sz_30 rfl rfl rfl rfl rfl rfl rfl rfl ?_ | refine sy_stl 5 sz_30 rfl rfl rfl rfl rfl rfl rfl rfl ?_
               refine sy_assign rfl rfl rfl ?_
               refine sy_nil rfl ?_
               refine ny_next ?_
               refine cy_ret ?_
               exact ny_finR (resc1 0 rfl agg_30 rfl rfl rfl rfl) (fun w9 hs => ⟨.ok (funT t.str [], 0) st ((GT.mk 3 0 t.str none 0 []), o, vn), h2, _, rfl, ⟨(by unfold nameR; rw [if_neg hcn, if_neg hqn, if_neg hmn, if_neg hpn]), (leaf_ok h2 hs9).1, (leaf_ok h2 hs9).2, hm, rfl⟩, hs.sel (is := [1, 1, 1]) rfl⟩)
           · refine sy_skip rfl rfl rfl ?_
             refine sy_skip rfl rfl rfl ?_
             refine sy_skip rfl rfl rfl ?_
             refine sy_pickF rfl rfl rfl rfl ?_
             refine sy_move rfl rfl rfl ?_
             refine sy_skip rfl rfl rfl ?_
             refine sy_skip rfl rfl rfl ?_
             refine sy_pickF rfl rfl rfl rfl ?_
             refine sy_nil rfl ?_
             refine ny_next ?_
             refine cy_condF rfl ?_
             have hpn : ¬ ((refPrefix t.str.data.toList).2.2 = true ∧ (refPrefix t.str.data.toList).1 ≤ most ∧ beginsR (tokA L st.at_) = true) := fun h9 => by
              first | (rw [h9.1] at hg73; exact absurd hg73 (by decide)) | (have h8 := of_decide_eq_false hg78; exact h8 h9.2.1)
             refine cy_skip ?_
             refine ny_next ?_
             refine cy_seq ?_
             refine cy_region ?_
             refine sy_field fld_65_1 rfl rfl rfl ?_
             refine sy_ldh one_9 rfl (Hp.blk hbt 1 _ rfl) rfl rfl ?_
             refine sy_call rfl call_18 rfl (atom_c t.str _) rfl rfl ?_
             first | refine sy_stl 0 sz_30 rfl rfl rfl rfl rfl rfl rfl rfl ?_ | refine sy_stl 1 sz_30 rfl rfl rfl rfl rfl rfl rfl rfl ?_ | refine sy_stl 2 sz_30 rfl rfl rfl rfl rfl rfl rfl rfl ?_ | refine sy_stl 3 sz_30 rfl rfl rfl rfl rfl rfl rfl rfl ?_ | refine sy_stl 4 sz_30 rfl rfl rfl rfl rfl rfl rfl rfl ?_ | refine sy_stl 5 sz_30 rfl rfl rfl rfl rfl rfl rfl rfl ?_
             refine sy_assign rfl rfl rfl ?_
             refine sy_nil rfl ?_
             refine ny_next ?_
             refine cy_ret ?_
             exact ny_finR (resc1 0 rfl agg_30 rfl rfl rfl rfl) (fun w9 hs => ⟨.ok (funT t.str [], 0) st ((GT.mk 3 0 t.str none 0 []), o, vn), h2, _, rfl, ⟨(by unfold nameR; rw [if_neg hcn, if_neg hqn, if_neg hmn, if_neg hpn]), (leaf_ok h2 hs9).1, (leaf_ok h2 hs9).2, hm, rfl⟩, hs.sel (is := [1, 1, 1]) rfl⟩)
       · refine sy_skip rfl rfl rfl ?_
         refine sy_skip rfl rfl rfl ?_
         refine sy_skip rfl rfl rfl ?_
         refine sy_pickF rfl rfl rfl rfl ?_
         refine sy_nil rfl ?_
         refine ny_next ?_
         refine cy_condF rfl ?_
         have hmn : ¬ (t.str.data.toList = [45] ∧ (tokA L st.at_).tight = true ∧ (tokA L st.at_).kind = 3) := fun h9 => by
          first | (rw [h9.1] at hg45; exact absurd hg45 (by decide)) | (rw [h9.2.1] at hg49; exact absurd hg49 (by decide))
         refine cy_skip ?_
         refine ny_next ?_
         refine cy_seq ?_
         refine cy_seq ?_
         refine cy_region ?_
         refine sy_field fld_65_1 rfl rfl rfl ?_
         refine sy_ldh one_9 rfl (Hp.blk hbt 1 _ rfl) rfl rfl ?_
         refine sy_call rfl call_82 rfl (prefix_c t.str _) rfl rfl ?_
         refine sy_move rfl rfl rfl ?_
         refine sy_extract rfl rfl rfl rfl ?_
         refine sy_extract rfl rfl rfl rfl ?_
         refine sy_extract rfl rfl rfl rfl ?_
         refine sy_assign rfl rfl rfl ?_
         refine sy_assign rfl rfl rfl ?_
         refine sy_assign rfl rfl rfl ?_
         refine sy_nil rfl ?_
         refine ny_next ?_
         refine cy_seq ?_
         refine cy_region ?_
         refine sy_move rfl rfl rfl ?_
         refine sy_move rfl rfl rfl ?_
         refine sy_cond (d := 73) _ rfl rfl (fun hg73 => ?_) (fun hg73 => ?_)
         · refine sy_move rfl rfl rfl ?_
           refine sy_move rfl rfl rfl ?_
           refine sy_cmp rfl rfl rfl rfl rfl ?_
           refine sy_pickT rfl rfl rfl rfl ?_
           refine sy_move rfl rfl rfl ?_
           refine sy_cond (d := 78) _ rfl rfl (fun hg78 => ?_) (fun hg78 => ?_)
           · refine sy_ldah (vs := rtC (tokA L st.at_)) agg_65 rfl rfl (Hp.blk hb8x) rfl rfl ?_
             refine sy_call rfl call_83 rfl (begins_c (tokA L st.at_) _) rfl rfl ?_
             refine sy_pickT rfl rfl rfl rfl ?_
             refine sy_nil rfl ?_
             refine ny_next ?_
             refine cy_cond rfl (fun hc81 => ?_) (fun hc81 => ?_)
             · have hpp : (refPrefix t.str.data.toList).2.2 = true ∧ (refPrefix t.str.data.toList).1 ≤ most ∧ beginsR (tokA L st.at_) = true := ⟨hg73, of_decide_eq_true hg78, hc81⟩
               refine cy_seq ?_
               refine cy_regionAP mixed ?_
               refine zy_qP 0 (fun c a d v w hq => by cases d <;> exact hq) rfl (by kernel_rfl) (fun hB14_0 => ?_)
               refine sy_move rfl rfl rfl ?_
               refine sy_nil1 (ny_zqP hB14_0 ?_)
               refine zy_qP 1 (fun c a d v w hq => by cases d <;> exact hq) rfl (by kernel_rfl) (fun hB14_1 => ?_)
               refine sy_field fld_65_1 rfl rfl rfl ?_
               refine sy_nil1 (ny_zqP hB14_1 ?_)
               refine zy_qP 2 (fun c a d v w hq => by cases d <;> exact hq) rfl (by kernel_rfl) (fun hB14_2 => ?_)
               refine sy_ldh one_9 rfl (Hp.blk hbt 1 _ rfl) rfl rfl ?_
               refine sy_nil1 (ny_zqP hB14_2 ?_)
               refine zy_qP 3 (fun c a d v w hq => by cases d <;> exact hq) rfl (by kernel_rfl) (fun hB14_3 => ?_)
               refine sy_move rfl rfl rfl ?_
               refine sy_nil1 (ny_zqP hB14_3 ?_)
               refine zy_qP 4 (fun c a d v w hq => by cases d <;> exact hq) rfl (by kernel_rfl) (fun hB14_4 => ?_)
               refine sy_move rfl rfl rfl ?_
               refine sy_nil1 (ny_zqP hB14_4 ?_)
               refine zy_qP 8 (fun c a d v w hq => by cases d <;> exact hq) rfl (by kernel_rfl) (fun hB14_8 => ?_)
               refine sy_move rfl rfl rfl ?_
               refine sy_nil1 (ny_zqP hB14_8 ?_)
               refine zy_1P 5 (by kernel_rfl) ?_
               refine zop_runP rfl rfl (fun hB14_5 => ?_)
               refine sy_callRO [0, 1, 1] call_37 rfl rfl (htm h2 st o vn _ hT hat hnm hm) rfl rfl (fun a87 e87 h87x H87x hb87 hx87 hle87x => ?_) (fun x87 s87 g87 h87x H87x hk87 hx87 hle87x => ?_)
               · obtain ⟨a9, i9, o9, v9, n9, rfl⟩ := hx87
                 refine ny_zyPP ?_
                 refine ny_thenP ?_
                 refine ny_thenP ?_
                 first | exact ny_finP (fun w9 hs => ⟨.bad a87 e87, _, _, rfl, ⟨(by unfold nameR; rw [if_neg hcn, if_neg hqn, if_neg hmn, if_pos hpp, hb87]), _, _, _, _, _, rfl⟩, hs.sel (is := [0, 0, 0]) rfl⟩) | exact ny_finP (fun w9 hs => ⟨.bad a89 e89, _, _, rfl, ⟨(by unfold nameR; rw [if_neg hcn, if_neg hqn, if_neg hmn, if_pos hpp, hk87]; simp only; rw [← hg87]; exact congrArg (mapR _) hb89), _, _, _, _, _, rfl⟩, hs.sel (is := [0, 0, 0]) rfl⟩)
               · obtain ⟨hg87, hl87, hm87, rfl⟩ := hx87
                 replace hg87 : g87.1.tm = x87.1 := hg87
                 have hfw87 := hf _ st x87 s87 hat hk87
                 have hww87 := hwg _ st x87 s87 hat hk87
                 have hpw87 := hPW s87.at_
                 have hT87 := hT.le hle87x
                 refine sy_nil rfl (ny_zyP hB14_5 hle87x ?_)
                 refine zy_1P 6 (by kernel_rfl) ?_
                 refine zop_runP rfl rfl (fun hB14_6 => ?_)
                 refine sy_buildSlice (cs := [g87.1].flatMap GT.cells) rfl (fun w => bsl_23_1_0 w) rfl rfl (fun b88 hb88 hM88 => ?_) (by first | exact hb0 | simp)
                 refine sy_frz 0 rfl hM88 (fun h88 hle88 hb88x => ?_)
                 have hr88 : RowsAt h88 (some ⟨b88, 0, none⟩) 4 ([g87.1].map GT.cells) := rows_blk (by decide) (GT.cells_len _) hb88x
                 refine sy_nil rfl (ny_zyP hB14_6 hle88 ?_)
                 refine zy_1P 7 (by kernel_rfl) ?_
                 refine zop_runP rfl rfl (fun hB14_7 => ?_)
                 refine sy_callRO [0] call_71 rfl rfl (mk_c t.str hs9 [g87.1] (some ⟨b88, 0, none⟩) 1 r bm A c L lv _ (hT87.le hle88) hL s87 inn g87.2.2 hfw87.2.1 rfl hr88 (fun x h9 => by rw [List.mem_singleton.1 h9]; exact ⟨⟨hl87.1.le hle88, hl87.2⟩, by rw [wtG_tm, hg87]; omega⟩) (by simp) (by simp)) rfl rfl (fun a89 e89 h89x H89x hb89 hx89 hle89x => ?_) (fun x89 s89 g89 h89x H89x hk89 hx89 hle89x => ?_)
                 · subst hx89
                   refine ny_zyPP ?_
                   refine ny_thenP ?_
                   refine ny_thenP ?_
                   first | exact ny_finP (fun w9 hs => ⟨.bad a87 e87, _, _, rfl, ⟨(by unfold nameR; rw [if_neg hcn, if_neg hqn, if_neg hmn, if_pos hpp, hb87]), _, _, _, _, _, rfl⟩, hs.sel (is := [0, 0, 0]) rfl⟩) | exact ny_finP (fun w9 hs => ⟨.bad a89 e89, _, _, rfl, ⟨(by unfold nameR; rw [if_neg hcn, if_neg hqn, if_neg hmn, if_pos hpp, hk87]; simp only; rw [← hg87]; exact congrArg (mapR _) hb89), _, _, _, _, _, rfl⟩, hs.sel (is := [0, 0, 0]) rfl⟩)
                 · obtain ⟨hg89, hl89, rfl⟩ := hx89
                   have hst89 := (mkR_st hk89).symm
                   subst hst89
                   refine sy_nil rfl (ny_zyP hB14_7 hle89x ?_)
                   refine zy_1P 9 (by kernel_rfl) ?_
                   refine zop_runP rfl rfl (fun hB14_9 => ?_)
                   first | refine sy_stl 0 sz_30 rfl rfl rfl rfl rfl rfl rfl rfl ?_ | refine sy_stl 1 sz_30 rfl rfl rfl rfl rfl rfl rfl rfl ?_ | refine sy_stl 2 sz_30 rfl rfl rfl rfl rfl rfl rfl rfl ?_ | refine sy_stl 3 sz_30 rfl rfl rfl rfl rfl rfl rfl rfl ?_ | refine sy_stl 4 sz_30 rfl rfl rfl rfl rfl rfl rfl rfl ?_ | refine sy_stl 5 sz_30 rfl rfl rfl rfl rfl rfl rfl rfl ?_
                   refine sy_nil rfl (ny_zyP hB14_9 (Hp.Le.refl _) ?_)
                   refine zy_qP 10 (fun c a d v w hq => by cases d <;> exact hq) rfl (by kernel_rfl) (fun hB14_10 => ?_)
                   refine sy_assign rfl rfl rfl ?_
                   refine sy_nil1 (ny_zqP hB14_10 ?_)
                   refine zy_doneP (by kernel_rfl) ?_
                   refine ny_next ?_
                   refine cy_ret ?_
                   refine ny_thenR ?_
                   exact ny_finR (resc1 0 rfl agg_30 rfl rfl rfl rfl) (fun w9 hs => ⟨.ok (x89, (refPrefix t.str.data.toList).1) s87 (g89, g87.2.1, g87.2.2), h89x, _, rfl, ⟨(by unfold nameR; rw [if_neg hcn, if_neg hqn, if_neg hmn, if_pos hpp, hk87]; simp only; rw [← hg87]; exact congrArg (mapR _) hk89), hg89, hl89, hm87, rfl⟩, hs.sel (is := [1, 1, 1]) rfl⟩)
             · have hpn : ¬ ((refPrefix t.str.data.toList).2.2 = true ∧ (refPrefix t.str.data.toList).1 ≤ most ∧ beginsR (tokA L st.at_) = true) := fun h9 => by
                rw [h9.2.2] at hc81
                cases hc81
               refine cy_skip ?_
               refine ny_next ?_
               refine cy_seq ?_
               refine cy_region ?_
               refine sy_field fld_65_1 rfl rfl rfl ?_
               refine sy_ldh one_9 rfl (Hp.blk hbt 1 _ rfl) rfl rfl ?_
               refine sy_call rfl call_18 rfl (atom_c t.str _) rfl rfl ?_
               first | refine sy_stl 0 sz_30 rfl rfl rfl rfl rfl rfl rfl rfl ?_ | refine sy_stl 1 sz_30 rfl rfl rfl rfl rfl rfl rfl rfl ?_ | refine sy_stl 2 sz_30 rfl rfl rfl rfl rfl rfl rfl rfl ?_ | refine sy_stl 3 sz_30 rfl rfl rfl rfl rfl rfl rfl rfl ?_ | refine sy_stl 4 sz_30 rfl rfl rfl rfl rfl rfl rfl rfl ?_ | refine sy_stl 5 sz_30 rfl rfl rfl rfl rfl rfl rfl rfl ?_
               refine sy_assign rfl rfl rfl ?_
               refine sy_nil rfl ?_
               refine ny_next ?_
               refine cy_ret ?_
               exact ny_finR (resc1 0 rfl agg_30 rfl rfl rfl rfl) (fun w9 hs => ⟨.ok (funT t.str [], 0) st ((GT.mk 3 0 t.str none 0 []), o, vn), h2, _, rfl, ⟨(by unfold nameR; rw [if_neg hcn, if_neg hqn, if_neg hmn, if_neg hpn]), (leaf_ok h2 hs9).1, (leaf_ok h2 hs9).2, hm, rfl⟩, hs.sel (is := [1, 1, 1]) rfl⟩)
           · refine sy_skip rfl rfl rfl ?_
             refine sy_skip rfl rfl rfl ?_
             refine sy_pickF rfl rfl rfl rfl ?_
             refine sy_nil rfl ?_
             refine ny_next ?_
             refine cy_condF rfl ?_
             have hpn : ¬ ((refPrefix t.str.data.toList).2.2 = true ∧ (refPrefix t.str.data.toList).1 ≤ most ∧ beginsR (tokA L st.at_) = true) := fun h9 => by
              first | (rw [h9.1] at hg73; exact absurd hg73 (by decide)) | (have h8 := of_decide_eq_false hg78; exact h8 h9.2.1)
             refine cy_skip ?_
             refine ny_next ?_
             refine cy_seq ?_
             refine cy_region ?_
             refine sy_field fld_65_1 rfl rfl rfl ?_
             refine sy_ldh one_9 rfl (Hp.blk hbt 1 _ rfl) rfl rfl ?_
             refine sy_call rfl call_18 rfl (atom_c t.str _) rfl rfl ?_
             first | refine sy_stl 0 sz_30 rfl rfl rfl rfl rfl rfl rfl rfl ?_ | refine sy_stl 1 sz_30 rfl rfl rfl rfl rfl rfl rfl rfl ?_ | refine sy_stl 2 sz_30 rfl rfl rfl rfl rfl rfl rfl rfl ?_ | refine sy_stl 3 sz_30 rfl rfl rfl rfl rfl rfl rfl rfl ?_ | refine sy_stl 4 sz_30 rfl rfl rfl rfl rfl rfl rfl rfl ?_ | refine sy_stl 5 sz_30 rfl rfl rfl rfl rfl rfl rfl rfl ?_
             refine sy_assign rfl rfl rfl ?_
             refine sy_nil rfl ?_
             refine ny_next ?_
             refine cy_ret ?_
             exact ny_finR (resc1 0 rfl agg_30 rfl rfl rfl rfl) (fun w9 hs => ⟨.ok (funT t.str [], 0) st ((GT.mk 3 0 t.str none 0 []), o, vn), h2, _, rfl, ⟨(by unfold nameR; rw [if_neg hcn, if_neg hqn, if_neg hmn, if_neg hpn]), (leaf_ok h2 hs9).1, (leaf_ok h2 hs9).2, hm, rfl⟩, hs.sel (is := [1, 1, 1]) rfl⟩)
         · refine sy_skip rfl rfl rfl ?_
           refine sy_skip rfl rfl rfl ?_
           refine sy_skip rfl rfl rfl ?_
           refine sy_pickF rfl rfl rfl rfl ?_
           refine sy_move rfl rfl rfl ?_
           refine sy_skip rfl rfl rfl ?_
           refine sy_skip rfl rfl rfl ?_
           refine sy_pickF rfl rfl rfl rfl ?_
           refine sy_nil rfl ?_
           refine ny_next ?_
           refine cy_condF rfl ?_
           have hpn : ¬ ((refPrefix t.str.data.toList).2.2 = true ∧ (refPrefix t.str.data.toList).1 ≤ most ∧ beginsR (tokA L st.at_) = true) := fun h9 => by
            first | (rw [h9.1] at hg73; exact absurd hg73 (by decide)) | (have h8 := of_decide_eq_false hg78; exact h8 h9.2.1)
           refine cy_skip ?_
           refine ny_next ?_
           refine cy_seq ?_
           refine cy_region ?_
           refine sy_field fld_65_1 rfl rfl rfl ?_
           refine sy_ldh one_9 rfl (Hp.blk hbt 1 _ rfl) rfl rfl ?_
           refine sy_call rfl call_18 rfl (atom_c t.str _) rfl rfl ?_
           first | refine sy_stl 0 sz_30 rfl rfl rfl rfl rfl rfl rfl rfl ?_ | refine sy_stl 1 sz_30 rfl rfl rfl rfl rfl rfl rfl rfl ?_ | refine sy_stl 2 sz_30 rfl rfl rfl rfl rfl rfl rfl rfl ?_ | refine sy_stl 3 sz_30 rfl rfl rfl rfl rfl rfl rfl rfl ?_ | refine sy_stl 4 sz_30 rfl rfl rfl rfl rfl rfl rfl rfl ?_ | refine sy_stl 5 sz_30 rfl rfl rfl rfl rfl rfl rfl rfl ?_
           refine sy_assign rfl rfl rfl ?_
           refine sy_nil rfl ?_
           refine ny_next ?_
           refine cy_ret ?_
           exact ny_finR (resc1 0 rfl agg_30 rfl rfl rfl rfl) (fun w9 hs => ⟨.ok (funT t.str [], 0) st ((GT.mk 3 0 t.str none 0 []), o, vn), h2, _, rfl, ⟨(by unfold nameR; rw [if_neg hcn, if_neg hqn, if_neg hmn, if_neg hpn]), (leaf_ok h2 hs9).1, (leaf_ok h2 hs9).2, hm, rfl⟩, hs.sel (is := [1, 1, 1]) rfl⟩)
     · refine sy_skip rfl rfl rfl ?_
       refine sy_skip rfl rfl rfl ?_
       refine sy_pickF rfl rfl rfl rfl ?_
       refine sy_move rfl rfl rfl ?_
       refine sy_skip rfl rfl rfl ?_
       refine sy_skip rfl rfl rfl ?_
       refine sy_skip rfl rfl rfl ?_
       refine sy_pickF rfl rfl rfl rfl ?_
       refine sy_nil rfl ?_
       refine ny_next ?_
       refine cy_condF rfl ?_
       have hmn : ¬ (t.str.data.toList = [45] ∧ (tokA L st.at_).tight = true ∧ (tokA L st.at_).kind = 3) := fun h9 => by
        first | (rw [h9.1] at hg45; exact absurd hg45 (by decide)) | (rw [h9.2.1] at hg49; exact absurd hg49 (by decide))
       refine cy_skip ?_
       refine ny_next ?_
       refine cy_seq ?_
       refine cy_seq ?_
       refine cy_region ?_
       refine sy_field fld_65_1 rfl rfl rfl ?_
       refine sy_ldh one_9 rfl (Hp.blk hbt 1 _ rfl) rfl rfl ?_
       refine sy_call rfl call_82 rfl (prefix_c t.str _) rfl rfl ?_
       refine sy_move rfl rfl rfl ?_
       refine sy_extract rfl rfl rfl rfl ?_
       refine sy_extract rfl rfl rfl rfl ?_
       refine sy_extract rfl rfl rfl rfl ?_
       refine sy_assign rfl rfl rfl ?_
       refine sy_assign rfl rfl rfl ?_
       refine sy_assign rfl rfl rfl ?_
       refine sy_nil rfl ?_
       refine ny_next ?_
       refine cy_seq ?_
       refine cy_region ?_
       refine sy_move rfl rfl rfl ?_
       refine sy_move rfl rfl rfl ?_
       refine sy_cond (d := 73) _ rfl rfl (fun hg73 => ?_) (fun hg73 => ?_)
       · refine sy_move rfl rfl rfl ?_
         refine sy_move rfl rfl rfl ?_
         refine sy_cmp rfl rfl rfl rfl rfl ?_
         refine sy_pickT rfl rfl rfl rfl ?_
         refine sy_move rfl rfl rfl ?_
         refine sy_cond (d := 78) _ rfl rfl (fun hg78 => ?_) (fun hg78 => ?_)
         · refine sy_ldah (vs := rtC (tokA L st.at_)) agg_65 rfl rfl (Hp.blk hb8x) rfl rfl ?_
           refine sy_call rfl call_83 rfl (begins_c (tokA L st.at_) _) rfl rfl ?_
           refine sy_pickT rfl rfl rfl rfl ?_
           refine sy_nil rfl ?_
           refine ny_next ?_
           refine cy_cond rfl (fun hc81 => ?_) (fun hc81 => ?_)
           · have hpp : (refPrefix t.str.data.toList).2.2 = true ∧ (refPrefix t.str.data.toList).1 ≤ most ∧ beginsR (tokA L st.at_) = true := ⟨hg73, of_decide_eq_true hg78, hc81⟩
             refine cy_seq ?_
             refine cy_regionAP mixed ?_
             refine zy_qP 0 (fun c a d v w hq => by cases d <;> exact hq) rfl (by kernel_rfl) (fun hB14_0 => ?_)
             refine sy_move rfl rfl rfl ?_
             refine sy_nil1 (ny_zqP hB14_0 ?_)
             refine zy_qP 1 (fun c a d v w hq => by cases d <;> exact hq) rfl (by kernel_rfl) (fun hB14_1 => ?_)
             refine sy_field fld_65_1 rfl rfl rfl ?_
             refine sy_nil1 (ny_zqP hB14_1 ?_)
             refine zy_qP 2 (fun c a d v w hq => by cases d <;> exact hq) rfl (by kernel_rfl) (fun hB14_2 => ?_)
             refine sy_ldh one_9 rfl (Hp.blk hbt 1 _ rfl) rfl rfl ?_
             refine sy_nil1 (ny_zqP hB14_2 ?_)
             refine zy_qP 3 (fun c a d v w hq => by cases d <;> exact hq) rfl (by kernel_rfl) (fun hB14_3 => ?_)
             refine sy_move rfl rfl rfl ?_
             refine sy_nil1 (ny_zqP hB14_3 ?_)
             refine zy_qP 4 (fun c a d v w hq => by cases d <;> exact hq) rfl (by kernel_rfl) (fun hB14_4 => ?_)
             refine sy_move rfl rfl rfl ?_
             refine sy_nil1 (ny_zqP hB14_4 ?_)
             refine zy_qP 8 (fun c a d v w hq => by cases d <;> exact hq) rfl (by kernel_rfl) (fun hB14_8 => ?_)
             refine sy_move rfl rfl rfl ?_
             refine sy_nil1 (ny_zqP hB14_8 ?_)
             refine zy_1P 5 (by kernel_rfl) ?_
             refine zop_runP rfl rfl (fun hB14_5 => ?_)
             refine sy_callRO [0, 1, 1] call_37 rfl rfl (htm h2 st o vn _ hT hat hnm hm) rfl rfl (fun a87 e87 h87x H87x hb87 hx87 hle87x => ?_) (fun x87 s87 g87 h87x H87x hk87 hx87 hle87x => ?_)
             · obtain ⟨a9, i9, o9, v9, n9, rfl⟩ := hx87
               refine ny_zyPP ?_
               refine ny_thenP ?_
               refine ny_thenP ?_
               first | exact ny_finP (fun w9 hs => ⟨.bad a87 e87, _, _, rfl, ⟨(by unfold nameR; rw [if_neg hcn, if_neg hqn, if_neg hmn, if_pos hpp, hb87]), _, _, _, _, _, rfl⟩, hs.sel (is := [0, 0, 0]) rfl⟩) | exact ny_finP (fun w9 hs => ⟨.bad a89 e89, _, _, rfl, ⟨(by unfold nameR; rw [if_neg hcn, if_neg hqn, if_neg hmn, if_pos hpp, hk87]; simp only; rw [← hg87]; exact congrArg (mapR _) hb89), _, _, _, _, _, rfl⟩, hs.sel (is := [0, 0, 0]) rfl⟩)
             · obtain ⟨hg87, hl87, hm87, rfl⟩ := hx87
               replace hg87 : g87.1.tm = x87.1 := hg87
               have hfw87 := hf _ st x87 s87 hat hk87
               have hww87 := hwg _ st x87 s87 hat hk87
               have hpw87 := hPW s87.at_
               have hT87 := hT.le hle87x
               refine sy_nil rfl (ny_zyP hB14_5 hle87x ?_)
               refine zy_1P 6 (by kernel_rfl) ?_
               refine zop_runP rfl rfl (fun hB14_6 => ?_)
               refine sy_buildSlice (cs := [g87.1].flatMap GT.cells) rfl (fun w => bsl_23_1_0 w) rfl rfl (fun b88 hb88 hM88 => ?_) (by first | exact hb0 | simp)
               refine sy_frz 0 rfl hM88 (fun h88 hle88 hb88x => ?_)
               have hr88 : RowsAt h88 (some ⟨b88, 0, none⟩) 4 ([g87.1].map GT.cells) := rows_blk (by decide) (GT.cells_len _) hb88x
               refine sy_nil rfl (ny_zyP hB14_6 hle88 ?_)
               refine zy_1P 7 (by kernel_rfl) ?_
               refine zop_runP rfl rfl (fun hB14_7 => ?_)
               refine sy_callRO [0] call_71 rfl rfl (mk_c t.str hs9 [g87.1] (some ⟨b88, 0, none⟩) 1 r bm A c L lv _ (hT87.le hle88) hL s87 inn g87.2.2 hfw87.2.1 rfl hr88 (fun x h9 => by rw [List.mem_singleton.1 h9]; exact ⟨⟨hl87.1.le hle88, hl87.2⟩, by rw [wtG_tm, hg87]; omega⟩) (by simp) (by simp)) rfl rfl (fun a89 e89 h89x H89x hb89 hx89 hle89x => ?_) (fun x89 s89 g89 h89x H89x hk89 hx89 hle89x => ?_)
               · subst hx89
                 refine ny_zyPP ?_
                 refine ny_thenP ?_
                 refine ny_thenP ?_
                 first | exact ny_finP (fun w9 hs => ⟨.bad a87 e87, _, _, rfl, ⟨(by unfold nameR; rw [if_neg hcn, if_neg hqn, if_neg hmn, if_pos hpp, hb87]), _, _, _, _, _, rfl⟩, hs.sel (is := [0, 0, 0]) rfl⟩) | exact ny_finP (fun w9 hs => ⟨.bad a89 e89, _, _, rfl, ⟨(by unfold nameR; rw [if_neg hcn, if_neg hqn, if_neg hmn, if_pos hpp, hk87]; simp only; rw [← hg87]; exact congrArg (mapR _) hb89), _, _, _, _, _, rfl⟩, hs.sel (is := [0, 0, 0]) rfl⟩)
               · obtain ⟨hg89, hl89, rfl⟩ := hx89
                 have hst89 := (mkR_st hk89).symm
                 subst hst89
                 refine sy_nil rfl (ny_zyP hB14_7 hle89x ?_)
                 refine zy_1P 9 (by kernel_rfl) ?_
                 refine zop_runP rfl rfl (fun hB14_9 => ?_)
                 first | refine sy_stl 0 sz_30 rfl rfl rfl rfl rfl rfl rfl rfl ?_ | refine sy_stl 1 sz_30 rfl rfl rfl rfl rfl rfl rfl rfl ?_ | refine sy_stl 2 sz_30 rfl rfl rfl rfl rfl rfl rfl rfl ?_ | refine sy_stl 3 sz_30 rfl rfl rfl rfl rfl rfl rfl rfl ?_ | refine sy_stl 4 sz_30 rfl rfl rfl rfl rfl rfl rfl rfl ?_ | refine sy_stl 5 sz_30 rfl rfl rfl rfl rfl rfl rfl rfl ?_
                 refine sy_nil rfl (ny_zyP hB14_9 (Hp.Le.refl _) ?_)
                 refine zy_qP 10 (fun c a d v w hq => by cases d <;> exact hq) rfl (by kernel_rfl) (fun hB14_10 => ?_)
                 refine sy_assign rfl rfl rfl ?_
                 refine sy_nil1 (ny_zqP hB14_10 ?_)
                 refine zy_doneP (by kernel_rfl) ?_
                 refine ny_next ?_
                 refine cy_ret ?_
                 refine ny_thenR ?_
                 exact ny_finR (resc1 0 rfl agg_30 rfl rfl rfl rfl) (fun w9 hs => ⟨.ok (x89, (refPrefix t.str.data.toList).1) s87 (g89, g87.2.1, g87.2.2), h89x, _, rfl, ⟨(by unfold nameR; rw [if_neg hcn, if_neg hqn, if_neg hmn, if_pos hpp, hk87]; simp only; rw [← hg87]; exact congrArg (mapR _) hk89), hg89, hl89, hm87, rfl⟩, hs.sel (is := [1, 1, 1]) rfl⟩)
           · have hpn : ¬ ((refPrefix t.str.data.toList).2.2 = true ∧ (refPrefix t.str.data.toList).1 ≤ most ∧ beginsR (tokA L st.at_) = true) := fun h9 => by
              rw [h9.2.2] at hc81
              cases hc81
             refine cy_skip ?_
             refine ny_next ?_
             refine cy_seq ?_
             refine cy_region ?_
             refine sy_field fld_65_1 rfl rfl rfl ?_
             refine sy_ldh one_9 rfl (Hp.blk hbt 1 _ rfl) rfl rfl ?_
             refine sy_call rfl call_18 rfl (atom_c t.str _) rfl rfl ?_
             first | refine sy_stl 0 sz_30 rfl rfl rfl rfl rfl rfl rfl rfl ?_ | refine sy_stl 1 sz_30 rfl rfl rfl rfl rfl rfl rfl rfl ?_ | refine sy_stl 2 sz_30 rfl rfl rfl rfl rfl rfl rfl rfl ?_ | refine sy_stl 3 sz_30 rfl rfl rfl rfl rfl rfl rfl rfl ?_ | refine sy_stl 4 sz_30 rfl rfl rfl rfl rfl rfl rfl rfl ?_ | refine sy_stl 5 sz_30 rfl rfl rfl rfl rfl rfl rfl rfl ?_
             refine sy_assign rfl rfl rfl ?_
             refine sy_nil rfl ?_
             refine ny_next ?_
             refine cy_ret ?_
             exact ny_finR (resc1 0 rfl agg_30 rfl rfl rfl rfl) (fun w9 hs => ⟨.ok (funT t.str [], 0) st ((GT.mk 3 0 t.str none 0 []), o, vn), h2, _, rfl, ⟨(by unfold nameR; rw [if_neg hcn, if_neg hqn, if_neg hmn, if_neg hpn]), (leaf_ok h2 hs9).1, (leaf_ok h2 hs9).2, hm, rfl⟩, hs.sel (is := [1, 1, 1]) rfl⟩)
         · refine sy_skip rfl rfl rfl ?_
           refine sy_skip rfl rfl rfl ?_
           refine sy_pickF rfl rfl rfl rfl ?_
           refine sy_nil rfl ?_
           refine ny_next ?_
           refine cy_condF rfl ?_
           have hpn : ¬ ((refPrefix t.str.data.toList).2.2 = true ∧ (refPrefix t.str.data.toList).1 ≤ most ∧ beginsR (tokA L st.at_) = true) := fun h9 => by
            first | (rw [h9.1] at hg73; exact absurd hg73 (by decide)) | (have h8 := of_decide_eq_false hg78; exact h8 h9.2.1)
           refine cy_skip ?_
           refine ny_next ?_
           refine cy_seq ?_
           refine cy_region ?_
           refine sy_field fld_65_1 rfl rfl rfl ?_
           refine sy_ldh one_9 rfl (Hp.blk hbt 1 _ rfl) rfl rfl ?_
           refine sy_call rfl call_18 rfl (atom_c t.str _) rfl rfl ?_
           first | refine sy_stl 0 sz_30 rfl rfl rfl rfl rfl rfl rfl rfl ?_ | refine sy_stl 1 sz_30 rfl rfl rfl rfl rfl rfl rfl rfl ?_ | refine sy_stl 2 sz_30 rfl rfl rfl rfl rfl rfl rfl rfl ?_ | refine sy_stl 3 sz_30 rfl rfl rfl rfl rfl rfl rfl rfl ?_ | refine sy_stl 4 sz_30 rfl rfl rfl rfl rfl rfl rfl rfl ?_ | refine sy_stl 5 sz_30 rfl rfl rfl rfl rfl rfl rfl rfl ?_
           refine sy_assign rfl rfl rfl ?_
           refine sy_nil rfl ?_
           refine ny_next ?_
           refine cy_ret ?_
           exact ny_finR (resc1 0 rfl agg_30 rfl rfl rfl rfl) (fun w9 hs => ⟨.ok (funT t.str [], 0) st ((GT.mk 3 0 t.str none 0 []), o, vn), h2, _, rfl, ⟨(by unfold nameR; rw [if_neg hcn, if_neg hqn, if_neg hmn, if_neg hpn]), (leaf_ok h2 hs9).1, (leaf_ok h2 hs9).2, hm, rfl⟩, hs.sel (is := [1, 1, 1]) rfl⟩)
       · refine sy_skip rfl rfl rfl ?_
         refine sy_skip rfl rfl rfl ?_
         refine sy_skip rfl rfl rfl ?_
         refine sy_pickF rfl rfl rfl rfl ?_
         refine sy_move rfl rfl rfl ?_
         refine sy_skip rfl rfl rfl ?_
         refine sy_skip rfl rfl rfl ?_
         refine sy_pickF rfl rfl rfl rfl ?_
         refine sy_nil rfl ?_
         refine ny_next ?_
         refine cy_condF rfl ?_
         have hpn : ¬ ((refPrefix t.str.data.toList).2.2 = true ∧ (refPrefix t.str.data.toList).1 ≤ most ∧ beginsR (tokA L st.at_) = true) := fun h9 => by
          first | (rw [h9.1] at hg73; exact absurd hg73 (by decide)) | (have h8 := of_decide_eq_false hg78; exact h8 h9.2.1)
         refine cy_skip ?_
         refine ny_next ?_
         refine cy_seq ?_
         refine cy_region ?_
         refine sy_field fld_65_1 rfl rfl rfl ?_
         refine sy_ldh one_9 rfl (Hp.blk hbt 1 _ rfl) rfl rfl ?_
         refine sy_call rfl call_18 rfl (atom_c t.str _) rfl rfl ?_
         first | refine sy_stl 0 sz_30 rfl rfl rfl rfl rfl rfl rfl rfl ?_ | refine sy_stl 1 sz_30 rfl rfl rfl rfl rfl rfl rfl rfl ?_ | refine sy_stl 2 sz_30 rfl rfl rfl rfl rfl rfl rfl rfl ?_ | refine sy_stl 3 sz_30 rfl rfl rfl rfl rfl rfl rfl rfl ?_ | refine sy_stl 4 sz_30 rfl rfl rfl rfl rfl rfl rfl rfl ?_ | refine sy_stl 5 sz_30 rfl rfl rfl rfl rfl rfl rfl rfl ?_
         refine sy_assign rfl rfl rfl ?_
         refine sy_nil rfl ?_
         refine ny_next ?_
         refine cy_ret ?_
         exact ny_finR (resc1 0 rfl agg_30 rfl rfl rfl rfl) (fun w9 hs => ⟨.ok (funT t.str [], 0) st ((GT.mk 3 0 t.str none 0 []), o, vn), h2, _, rfl, ⟨(by unfold nameR; rw [if_neg hcn, if_neg hqn, if_neg hmn, if_neg hpn]), (leaf_ok h2 hs9).1, (leaf_ok h2 hs9).2, hm, rfl⟩, hs.sel (is := [1, 1, 1]) rfl⟩)
end Go.Proofs.YtanhhihechakhaaDoor
set_option linter.unusedVariables false
set_option linter.unusedSimpArgs false
namespace Go.Proofs.YtanhhihechakhaaDoor
open Go.RowKit Go.Proofs.YtanhhihechakhaaDoor.E Go.Proofs.YtanhhihechakhaaDoor.ReplP Go.Proofs.YtanhhihechakhaaDoor.TokP Go.Proofs.YtanhhihechakhaaDoor.TermP Go.Proofs.YtanhhihechakhaaDoor.WrP Go.Proofs.YtanhhihechakhaaDoor.ReadP Go.Proofs.YtanhhihechakhaaDoor.OpsP
theorem want_ok {α β : Type} {L : List RT} {c : List UInt8} {u v : α} {x : β} {st s : RSt} (h : wantR L c u st = .ok v s) : wantR L c x st = .ok x (adv st) := by
 unfold wantR at h ⊢
 split at h
 · rename_i h8; rw [if_pos h8]
 · cases h
theorem want_bad {α β : Type} {L : List RT} {c : List UInt8} {u : α} {x : β} {st : RSt} {a : Nat} {e : Int} (h : wantR L c u st = .bad a e) : wantR L c x st = .bad a e := by
 unfold wantR at h ⊢
 split at h
 · cases h
 · rename_i h8; rw [if_neg h8]; cases h; rfl
theorem varR_at (s : ByteArray) (st : RSt) : (varR s st).2.at_ = st.at_ := by
 unfold varR
 split
 · split <;> rfl
 · rfl
theorem varR_gt (s : ByteArray) (st : RSt) : (GT.mk 1 (varR s st).1.n ⟨#[]⟩ none 0 []).tm = (varR s st).1 := by
 rw [tm_leaf]
 unfold varR
 split
 · split <;> rfl
 · rfl
theorem varR_fits (s : ByteArray) (st : RSt) (h : st.names.length ≤ st.at_) (h2 : st.at_ ≤ 1048576) : Fits (GT.mk 1 (varR s st).1.n ⟨#[]⟩ none 0 []) := by
 have h3 : 0 ≤ (varR s st).1.n ∧ (varR s st).1.n ≤ 1048576 := by
  unfold varR
  split
  · rename_i i hi
    have := lastI_lt hi
    split
    · show 0 ≤ (st.names.length : Int) ∧ (st.names.length : Int) ≤ 1048576; omega
    · show 0 ≤ (i : Int) ∧ (i : Int) ≤ 1048576; omega
  · show 0 ≤ (st.names.length : Int) ∧ (st.names.length : Int) ≤ 1048576; omega
 exact fits_leaf (by decide) (by decide) (by omega) (by omega) (by decide)
set_option maxRecDepth 100000 in
theorem first1_c (r bm b2 : Nat) (A : Option Addr) (c : Nat) (L : List RT) (lv : Int) (h : Hp) (hb2 : h b2 = some (.cells ([.pointer (some ⟨r, 0, none⟩)] : List Value).toArray 71 (0, 0))) (u : FrameMode) (at_ : Nat) (inn : Int) (vn : Value) (hi0 : 0 ≤ inn) (hi1 : inn ≤ 1000000) : CRD Tryd.prog 74 [.pointer (some ⟨b2, 0, none⟩)] u u h [.blk r (.cells [.slice A L.length c, .int .i64 ((at_ : Nat) : Int), .int .i64 lv, .int .i64 (inn + 1), .map (some bm), vn].toArray 74 (0, 0))] (fun (_ : Unit) h' H' => h = h' ∧ H' = [.blk r (.cells [.slice A L.length c, .int .i64 ((at_ : Nat) : Int), .int .i64 lv, .int .i64 inn, .map (some bm), vn].toArray 74 (0, 0))]) := by
 refine enterCRD Tryd.func74 rfl rfl rfl (fun w hb0 => ?_)
 refine cy_region ?_
 refine sy_ldh one_71 rfl (Hp.blk hb2 0 _ rfl) rfl rfl ?_
 refine sy_nilCheck rfl rfl rfl ?_
 refine sy_field fld_74_3 rfl rfl rfl ?_
 first | refine sy_ldr 0 one_3 rfl rfl rfl rfl rfl ?_
 refine sy_subi (z := inn + 1 - 1) rfl rfl rfl (by omega) (by omega) rfl rfl ?_
 refine sy_nilCheck rfl rfl rfl ?_
 refine sy_field fld_74_3 rfl rfl rfl ?_
 first | refine sy_stl 0 sz_3 rfl rfl rfl rfl rfl rfl rfl rfl ?_
 refine sy_nil rfl ?_
 exact ny_fin (res0 rfl) (fun w hs => ⟨(), h, _, ⟨_, rfl⟩, ⟨rfl, (by rw [Int.add_sub_cancel])⟩, hs.sel (is := [0]) rfl⟩)
set_option maxRecDepth 100000 in
theorem first1b_c (r bm b2 : Nat) (A : Option Addr) (c : Nat) (L : List RT) (lv : Int) (h : Hp) (hb2 : h b2 = some (.cells ([.pointer (some ⟨r, 0, none⟩)] : List Value).toArray 71 (0, 0))) (u : FrameMode) (at_ : Nat) (inn : Int) (vn : Value) : CRD Tryd.prog 74 [.pointer (some ⟨b2, 0, none⟩)] u u h [.blk r (.cells [.slice A L.length c, .int .i64 ((at_ : Nat) : Int), .int .i64 lv, .int .i64 inn, .map (some bm), vn].toArray 74 (0, 0))] (fun (_ : Unit) h' H' => h = h' ∧ H' = [.blk r (.cells [.slice A L.length c, .int .i64 ((at_ : Nat) : Int), .int .i64 lv, .int .i64 (IntKind.i64.wrap (inn - 1)), .map (some bm), vn].toArray 74 (0, 0))]) := by
 refine enterCRD Tryd.func74 rfl rfl rfl (fun w hb0 => ?_)
 refine cy_region ?_
 refine sy_ldh one_71 rfl (Hp.blk hb2 0 _ rfl) rfl rfl ?_
 refine sy_nilCheck rfl rfl rfl ?_
 refine sy_field fld_74_3 rfl rfl rfl ?_
 first | refine sy_ldr 0 one_3 rfl rfl rfl rfl rfl ?_
 refine sy_sub rfl rfl rfl rfl ?_
 refine sy_nilCheck rfl rfl rfl ?_
 refine sy_field fld_74_3 rfl rfl rfl ?_
 first | refine sy_stl 0 sz_3 rfl rfl rfl rfl rfl rfl rfl rfl ?_
 refine sy_nil rfl ?_
 exact ny_fin (res0 rfl) (fun w hs => ⟨(), h, _, ⟨_, rfl⟩, ⟨rfl, rfl⟩, hs.sel (is := [0]) rfl⟩)
set_option maxRecDepth 100000 in
theorem first_c (r bm : Nat) (A : Option Addr) (c : Nat) (L : List RT) (lv : Int) (h : Hp) (st : RSt) (inn : Int) (o : Obj) (vn : Value) (most : Int) (hqN : ∀ x ∈ L, TokOk x) (tm : Rd) (hf : Fwd L tm) (hwg : Wgt L tm) (hPW : ∀ i, preW L i ≤ 549755813888) (hi0 : 0 ≤ inn) (hi1 : inn ≤ 1000000) (htm : TmC r bm A c L lv (inn + 1) tm) (hT : RowsAt h A 5 (L.map rtC)) (hL : L.length ≤ 1048576) (hat : st.at_ ≤ L.length) (hnm : st.names.length ≤ st.at_) (hm : MapV Tryd.prog 9 3 o st.names.length (lastI st.names)) : RdC r bm A c L lv 68 [.int .i64 most] h st inn o vn (if inn + 1 > 60 then .bad st.at_ 7 else firstR L lv tm most st) (·.1) (fun x g => .tuple #[.agg (GT.cells g).toArray, .int .i64 x.2]) := by
 refine enterRD Tryd.func68 rfl rfl rfl (fun w hb0 => ?_)
 refine cy_seq ?_
 refine cy_region ?_
 refine sy_box rfl rfl rfl rfl (fun b2 hg2 hM2 => ?_) (by first | exact hb0 | simp)
 refine sy_frz 0 rfl hM2 (fun h2 hle2 hb2 => ?_)
 replace hT := hT.le hle2
 refine sy_alloc zer_30 rfl rfl (fun b4 hb4 hM4 => ?_) (by first | exact hb0 | simp)
 refine sy_assign rfl rfl rfl ?_
 refine sy_nil rfl ?_
 refine ny_next ?_
 refine cy_seq ?_
 refine cy_region ?_
 refine sy_ldh one_71 rfl (Hp.blk hb2 0 _ rfl) rfl rfl ?_
 refine sy_callRO [1] call_67 rfl rfl (deeper_c r bm A c L lv _ hT hL st inn vn hat hi0 hi1) rfl rfl (fun a9 e9 h9x H9x hb9 hx9 hle9x => ?_) (fun x9 s9 g9 h9x H9x hk9 hx9 hle9x => ?_)
 · obtain ⟨rfl, rfl⟩ := hx9
   refine ny_thenP ?_
   refine ny_finUP (lvU_pan (fun w9 hs => ⟨.bad a9 e9, _, _, rfl, ⟨(by have h9 := hb9; split at h9 <;> first | (cases h9; done) | (cases h9; rename_i h8; rw [if_pos h8])), _, _, _, _, _, rfl⟩, hs.sel (is := [0, 1, 1]) rfl⟩))
 · obtain ⟨rfl, rfl⟩ := hx9
   have hro : (if inn + 1 > 60 then .bad st.at_ 7 else firstR L lv tm most st) = firstR L lv tm most st := if_neg (fun h9 => by rw [if_pos h9] at hk9; cases hk9)
   refine sy_nil rfl ?_
   refine ny_next ?_
   refine cy_seq ?_
   refine cy_region ?_
   refine sy_makeFunc rfl rfl rfl ?_
   refine sy_deferC (caps := [.pointer (some ⟨b2, 0, none⟩)]) rfl rfl rfl ?_
   refine sy_nil rfl ?_
   refine ny_next ?_
   refine cy_seq ?_
   refine cy_region ?_
   refine sy_ldh one_71 rfl (Hp.blk hb2 0 _ rfl) rfl rfl ?_
   refine sy_callR1 [0] call_38 rfl rfl (peek_c r bm A c L lv _ hT hL st _ vn hat) rfl rfl (fun x12 h12x H12x hx12 hle12x => ?_)
   obtain ⟨rfl, rfl⟩ := hx12
   refine sy_alloc zer_65 rfl rfl (fun b6 hb6 hM6 => ?_) (by first | exact hb0 | simp)
   first | refine sy_stl 0 sz_65 rfl rfl rfl rfl rfl rfl rfl rfl ?_ | refine sy_stl 1 sz_65 rfl rfl rfl rfl rfl rfl rfl rfl ?_ | refine sy_stl 2 sz_65 rfl rfl rfl rfl rfl rfl rfl rfl ?_ | refine sy_stl 3 sz_65 rfl rfl rfl rfl rfl rfl rfl rfl ?_ | refine sy_stl 4 sz_65 rfl rfl rfl rfl rfl rfl rfl rfl ?_ | refine sy_stl 5 sz_65 rfl rfl rfl rfl rfl rfl rfl rfl ?_
   refine sy_nil rfl ?_
   refine ny_next ?_
   refine cy_seq ?_
   refine cy_block ?_
   refine cy_seq ?_
   refine cy_frz 0 rfl hM6 (fun h1 hle1 hbt => ?_)
   replace hT := hT.le hle1
   replace hb2 := hle1 _ _ hb2
   refine cy_region ?_
   refine sy_field fld_65_0 rfl rfl rfl ?_
   refine sy_ldh one_3 rfl (Hp.blk hbt 0 _ rfl) rfl rfl ?_
   refine sy_cmp rfl rfl rfl rfl rfl ?_
   refine sy_move rfl rfl rfl ?_
   refine sy_cond (d := 17) _ rfl rfl (fun hg17 => ?_) (fun hg17 => ?_)
   · refine sy_field fld_65_2 rfl rfl rfl ?_
     refine sy_ldh one_2 rfl (Hp.blk hbt 2 _ rfl) rfl rfl ?_
     refine sy_cmp rfl rfl rfl rfl rfl ?_
     refine sy_pickT rfl rfl rfl rfl ?_
     refine sy_assign rfl rfl rfl ?_
     refine sy_nil rfl ?_
     refine ny_next ?_
     refine cy_cond rfl (fun hc13 => ?_) (fun hc13 => ?_)
     · have hn13 : (tokA L st.at_).kind = 3 ∧ (tokA L st.at_).num < 0 := ⟨eq_of_beq hg17, of_decide_eq_true hc13⟩
       refine cy_region ?_
       refine sy_ldh one_71 rfl (Hp.blk hb2 0 _ rfl) rfl rfl ?_
       refine sy_callR [0] call_39 rfl rfl (rbad_c r bm A c L lv _ hT hL st (inn + 1) _ hat 2) rfl rfl (fun x23 h23x H23x hx23 hle23x => ?_)
       obtain ⟨rfl, rfl⟩ := hx23
       refine ny_blockP ?_
       refine ny_thenP ?_
       refine ny_finUP (lvU_cons [0] call_74 rfl (by intro h9; cases h9) (first1_c r bm b2 A c L lv _ hb2 _ _ inn _ hi0 hi1) (fun _ h9y H9y hx9y hle9y => ?_))
       obtain ⟨rfl, rfl⟩ := hx9y
       exact lvU_pan (fun w9 hs => ⟨.bad st.at_ (2), _, _, rfl, ⟨(hro.trans (by unfold firstR; rw [if_pos hn13])), _, _, _, _, _, rfl⟩, hs.sel (is := [0, 1, 1]) rfl⟩)
     · have hn13 : ¬ ((tokA L st.at_).kind = 3 ∧ (tokA L st.at_).num < 0) := fun h9 => absurd h9.2 (of_decide_eq_false hc13)
       refine cy_seq ?_
       refine cy_region ?_
       refine sy_field fld_65_0 rfl rfl rfl ?_
       refine sy_ldh one_3 rfl (Hp.blk hbt 0 _ rfl) rfl rfl ?_
       refine sy_cmp rfl rfl rfl rfl rfl ?_
       refine sy_assign rfl rfl rfl ?_
       refine sy_nil rfl ?_
       refine ny_next ?_
       refine cy_cond rfl (fun hc24 => ?_) (fun hc24 => ?_)
       · have hn24 : (tokA L st.at_).kind = 3 := by simpa using hc24
         have hlt := tok_lt (L := L) (i := st.at_) (by rw [hn24]; decide)
         refine cy_seq ?_
         refine cy_region ?_
         refine sy_ldh one_71 rfl (Hp.blk hb2 0 _ rfl) rfl rfl ?_
         refine sy_nilCheck rfl rfl rfl ?_
         refine sy_field fld_74_1 rfl rfl rfl ?_
         first | refine sy_ldr 0 one_3 rfl rfl rfl rfl rfl ?_ | refine sy_ldr 1 one_3 rfl rfl rfl rfl rfl ?_ | refine sy_ldr 2 one_3 rfl rfl rfl rfl rfl ?_ | refine sy_ldr 3 one_3 rfl rfl rfl rfl rfl ?_ | refine sy_ldr 4 one_3 rfl rfl rfl rfl rfl ?_ | refine sy_ldr 5 one_3 rfl rfl rfl rfl rfl ?_
         refine sy_addi (z := ((st.at_ + 1 : Nat) : Int)) rfl rfl (by omega) (by omega) (by omega) rfl rfl ?_
         refine sy_nilCheck rfl rfl rfl ?_
         refine sy_field fld_74_1 rfl rfl rfl ?_
         first | refine sy_stl 0 sz_3 rfl rfl rfl rfl rfl rfl rfl rfl ?_ | refine sy_stl 1 sz_3 rfl rfl rfl rfl rfl rfl rfl rfl ?_ | refine sy_stl 2 sz_3 rfl rfl rfl rfl rfl rfl rfl rfl ?_ | refine sy_stl 3 sz_3 rfl rfl rfl rfl rfl rfl rfl rfl ?_ | refine sy_stl 4 sz_3 rfl rfl rfl rfl rfl rfl rfl rfl ?_ | refine sy_stl 5 sz_3 rfl rfl rfl rfl rfl rfl rfl rfl ?_
         refine sy_nil rfl ?_
         refine ny_next ?_
         refine cy_seq ?_
         refine cy_region ?_
         refine sy_field fld_65_2 rfl rfl rfl ?_
         refine sy_ldh one_2 rfl (Hp.blk hbt 2 _ rfl) rfl rfl ?_
         refine sy_call rfl call_15 rfl (num_c _ _) rfl rfl ?_
         first | refine sy_stl 0 sz_30 rfl rfl rfl rfl rfl rfl rfl rfl ?_ | refine sy_stl 1 sz_30 rfl rfl rfl rfl rfl rfl rfl rfl ?_ | refine sy_stl 2 sz_30 rfl rfl rfl rfl rfl rfl rfl rfl ?_ | refine sy_stl 3 sz_30 rfl rfl rfl rfl rfl rfl rfl rfl ?_ | refine sy_stl 4 sz_30 rfl rfl rfl rfl rfl rfl rfl rfl ?_ | refine sy_stl 5 sz_30 rfl rfl rfl rfl rfl rfl rfl rfl ?_
         refine sy_assign rfl rfl rfl ?_
         refine sy_nil rfl ?_
         refine ny_next ?_
         refine cy_ret ?_
         refine ny_blockR ?_
         refine ny_thenR ?_
         refine ny_finUR (lvU_cons [1] call_74 rfl (by intro h9; cases h9) (first1_c r bm b2 A c L lv _ hb2 _ _ inn _ hi0 hi1) (fun _ h9y H9y hx9y hle9y => ?_))
         obtain ⟨rfl, rfl⟩ := hx9y
         exact lvU_ret (resc1 1 rfl agg_30 rfl rfl rfl rfl) (fun w9 hs => ⟨.ok (numT (tokA L st.at_).num, 0) (adv st) ((GT.mk 2 (tokA L st.at_).num ⟨#[]⟩ none 0 [], o, vn)), _, _, rfl, ⟨hro.trans (by unfold firstR; rw [if_neg hn13, if_pos hn24]; try rfl), (by rw [tm_leaf]; rfl), ⟨lies_leaf _ _ _ _, fits_leaf (by decide) (by decide) (tokA_ok hqN st.at_).2.2.1 (tokA_ok hqN st.at_).2.2.2 (by decide)⟩, hm, rfl⟩, hs.sel (is := [0, 1, 1]) rfl⟩)
       · have hn24 : ¬ ((tokA L st.at_).kind = 3) := by simpa using hc24
         refine cy_seq ?_
         refine cy_region ?_
         refine sy_field fld_65_0 rfl rfl rfl ?_
         refine sy_ldh one_3 rfl (Hp.blk hbt 0 _ rfl) rfl rfl ?_
         refine sy_cmp rfl rfl rfl rfl rfl ?_
         refine sy_assign rfl rfl rfl ?_
         refine sy_nil rfl ?_
         refine ny_next ?_
         refine cy_cond rfl (fun hc38 => ?_) (fun hc38 => ?_)
         · have hn38 : (tokA L st.at_).kind = 2 := by simpa using hc38
           have hlt := tok_lt (L := L) (i := st.at_) (by rw [hn38]; decide)
           refine cy_seq ?_
           refine cy_region ?_
           refine sy_ldh one_71 rfl (Hp.blk hb2 0 _ rfl) rfl rfl ?_
           refine sy_nilCheck rfl rfl rfl ?_
           refine sy_field fld_74_1 rfl rfl rfl ?_
           first | refine sy_ldr 0 one_3 rfl rfl rfl rfl rfl ?_ | refine sy_ldr 1 one_3 rfl rfl rfl rfl rfl ?_ | refine sy_ldr 2 one_3 rfl rfl rfl rfl rfl ?_ | refine sy_ldr 3 one_3 rfl rfl rfl rfl rfl ?_ | refine sy_ldr 4 one_3 rfl rfl rfl rfl rfl ?_ | refine sy_ldr 5 one_3 rfl rfl rfl rfl rfl ?_
           refine sy_addi (z := ((st.at_ + 1 : Nat) : Int)) rfl rfl (by omega) (by omega) (by omega) rfl rfl ?_
           refine sy_nilCheck rfl rfl rfl ?_
           refine sy_field fld_74_1 rfl rfl rfl ?_
           first | refine sy_stl 0 sz_3 rfl rfl rfl rfl rfl rfl rfl rfl ?_ | refine sy_stl 1 sz_3 rfl rfl rfl rfl rfl rfl rfl rfl ?_ | refine sy_stl 2 sz_3 rfl rfl rfl rfl rfl rfl rfl rfl ?_ | refine sy_stl 3 sz_3 rfl rfl rfl rfl rfl rfl rfl rfl ?_ | refine sy_stl 4 sz_3 rfl rfl rfl rfl rfl rfl rfl rfl ?_ | refine sy_stl 5 sz_3 rfl rfl rfl rfl rfl rfl rfl rfl ?_
           refine sy_nil rfl ?_
           refine ny_next ?_
           refine cy_seq ?_
           refine cy_region ?_
           refine sy_ldh one_71 rfl (Hp.blk hb2 0 _ rfl) rfl rfl ?_
           refine sy_field fld_65_1 rfl rfl rfl ?_
           refine sy_ldh one_9 rfl (Hp.blk hbt 1 _ rfl) rfl rfl ?_
           refine sy_callR1 [0, 1, 1] call_75 rfl rfl (var_c (tokA L st.at_).str (tokA_ok hqN st.at_).2.1 r bm A c L lv _ hT hL (adv st) (inn + 1) vn (by show st.at_ + 1 ≤ _; omega) o (by show st.names.length ≤ st.at_ + 1; omega) hm) rfl rfl (fun x52 h52x H52x hx52 hle52x => ?_)
           obtain ⟨rfl, rfl, hm52⟩ := hx52
           first | refine sy_stl 0 sz_30 rfl rfl rfl rfl rfl rfl rfl rfl ?_ | refine sy_stl 1 sz_30 rfl rfl rfl rfl rfl rfl rfl rfl ?_ | refine sy_stl 2 sz_30 rfl rfl rfl rfl rfl rfl rfl rfl ?_ | refine sy_stl 3 sz_30 rfl rfl rfl rfl rfl rfl rfl rfl ?_ | refine sy_stl 4 sz_30 rfl rfl rfl rfl rfl rfl rfl rfl ?_ | refine sy_stl 5 sz_30 rfl rfl rfl rfl rfl rfl rfl rfl ?_
           refine sy_assign rfl rfl rfl ?_
           refine sy_nil rfl ?_
           refine ny_next ?_
           refine cy_ret ?_
           refine ny_blockR ?_
           refine ny_thenR ?_
           refine ny_finUR (lvU_cons [1] call_74 rfl (by intro h9; cases h9) (first1_c r bm b2 A c L lv _ hb2 _ _ inn _ hi0 hi1) (fun _ h9y H9y hx9y hle9y => ?_))
           obtain ⟨rfl, rfl⟩ := hx9y
           exact lvU_ret (resc1 1 rfl agg_30 rfl rfl rfl rfl) (fun w9 hs => ⟨.ok ((varR (tokA L st.at_).str (adv st)).1, 0) (varR (tokA L st.at_).str (adv st)).2 ((GT.mk 1 (varR (tokA L st.at_).str (adv st)).1.n ⟨#[]⟩ none 0 [], x52.1, x52.2)), _, _, rfl, ⟨hro.trans (by unfold firstR; rw [if_neg hn13, if_neg hn24, if_pos hn38]; try rfl), (varR_gt _ _), ⟨lies_leaf _ _ _ _, (varR_fits _ (adv st) (by show st.names.length ≤ st.at_ + 1; omega) (by show st.at_ + 1 ≤ 1048576; omega))⟩, hm52, (by rw [varR_at])⟩, hs.sel (is := [0, 1, 1]) rfl⟩)
         · have hn38 : ¬ ((tokA L st.at_).kind = 2) := by simpa using hc38
           refine cy_seq ?_
           refine cy_region ?_
           refine sy_field fld_65_0 rfl rfl rfl ?_
           refine sy_ldh one_3 rfl (Hp.blk hbt 0 _ rfl) rfl rfl ?_
           refine sy_cmp rfl rfl rfl rfl rfl ?_
           refine sy_assign rfl rfl rfl ?_
           refine sy_nil rfl ?_
           refine ny_next ?_
           refine cy_cond rfl (fun hc53 => ?_) (fun hc53 => ?_)
           · have hn53 : (tokA L st.at_).kind = 1 := by simpa using hc53
             have hlt := tok_lt (L := L) (i := st.at_) (by rw [hn53]; decide)
             refine cy_seq ?_
             refine cy_region ?_
             refine sy_ldh one_71 rfl (Hp.blk hb2 0 _ rfl) rfl rfl ?_
             refine sy_nilCheck rfl rfl rfl ?_
             refine sy_field fld_74_1 rfl rfl rfl ?_
             first | refine sy_ldr 0 one_3 rfl rfl rfl rfl rfl ?_ | refine sy_ldr 1 one_3 rfl rfl rfl rfl rfl ?_ | refine sy_ldr 2 one_3 rfl rfl rfl rfl rfl ?_ | refine sy_ldr 3 one_3 rfl rfl rfl rfl rfl ?_ | refine sy_ldr 4 one_3 rfl rfl rfl rfl rfl ?_ | refine sy_ldr 5 one_3 rfl rfl rfl rfl rfl ?_
             refine sy_addi (z := ((st.at_ + 1 : Nat) : Int)) rfl rfl (by omega) (by omega) (by omega) rfl rfl ?_
             refine sy_nilCheck rfl rfl rfl ?_
             refine sy_field fld_74_1 rfl rfl rfl ?_
             first | refine sy_stl 0 sz_3 rfl rfl rfl rfl rfl rfl rfl rfl ?_ | refine sy_stl 1 sz_3 rfl rfl rfl rfl rfl rfl rfl rfl ?_ | refine sy_stl 2 sz_3 rfl rfl rfl rfl rfl rfl rfl rfl ?_ | refine sy_stl 3 sz_3 rfl rfl rfl rfl rfl rfl rfl rfl ?_ | refine sy_stl 4 sz_3 rfl rfl rfl rfl rfl rfl rfl rfl ?_ | refine sy_stl 5 sz_3 rfl rfl rfl rfl rfl rfl rfl rfl ?_
             refine sy_nil rfl ?_
             refine ny_next ?_
             refine cy_seq ?_
             refine cy_region ?_
             refine sy_ldh one_71 rfl (Hp.blk hb2 0 _ rfl) rfl rfl ?_
             refine sy_ldah (vs := rtC (tokA L st.at_)) agg_65 rfl rfl (Hp.blk hbt) rfl rfl ?_
             refine sy_move rfl rfl rfl ?_
             refine sy_callRO [0, 1, 1] call_76 rfl rfl (rname_c r bm A c L lv _ (adv st) (inn + 1) o vn (tokA L st.at_) most (tokA_ok hqN st.at_).2.1 hqN tm hf hwg hPW htm hT hL (by show st.at_ + 1 ≤ _; omega) (by show st.names.length ≤ st.at_ + 1; omega) hm) rfl rfl (fun a67 e67 h67x H67x hb67 hx67 hle67x => ?_) (fun x67 s67 g67 h67x H67x hk67 hx67 hle67x => ?_)
             · obtain ⟨a9, i9, o9, v9, n9, rfl⟩ := hx67
               replace hb2 := hle67x _ _ hb2
               refine ny_thenP ?_
               refine ny_blockP ?_
               refine ny_thenP ?_
               refine ny_finUP (lvU_cons [0] call_74 rfl (by intro h9; cases h9) (first1b_c r bm b2 A c L lv _ hb2 _ _ _ _) (fun _ h9y H9y hx9y hle9y => ?_))
               obtain ⟨rfl, rfl⟩ := hx9y
               exact lvU_pan (fun w9 hs => ⟨.bad a67 (e67), _, _, rfl, ⟨(hro.trans (by unfold firstR; rw [if_neg hn13, if_neg hn24, if_neg hn38, if_pos hn53]; exact hb67)), _, _, _, _, _, rfl⟩, hs.sel (is := [0, 0, 0]) rfl⟩)
             · obtain ⟨hg67, hl67, hm67, rfl⟩ := hx67
               replace hb2 := hle67x _ _ hb2
               refine sy_extract rfl rfl rfl rfl ?_
               refine sy_extract rfl rfl rfl rfl ?_
               first | refine sy_stl 0 sz_30 rfl rfl rfl rfl rfl rfl rfl rfl ?_ | refine sy_stl 1 sz_30 rfl rfl rfl rfl rfl rfl rfl rfl ?_ | refine sy_stl 2 sz_30 rfl rfl rfl rfl rfl rfl rfl rfl ?_ | refine sy_stl 3 sz_30 rfl rfl rfl rfl rfl rfl rfl rfl ?_ | refine sy_stl 4 sz_30 rfl rfl rfl rfl rfl rfl rfl rfl ?_ | refine sy_stl 5 sz_30 rfl rfl rfl rfl rfl rfl rfl rfl ?_
               refine sy_assign rfl rfl rfl ?_
               refine sy_nil rfl ?_
               refine ny_next ?_
               refine cy_ret ?_
               refine ny_blockR ?_
               refine ny_thenR ?_
               refine ny_finUR (lvU_cons [1] call_74 rfl (by intro h9; cases h9) (first1_c r bm b2 A c L lv _ hb2 _ _ inn _ hi0 hi1) (fun _ h9y H9y hx9y hle9y => ?_))
               obtain ⟨rfl, rfl⟩ := hx9y
               exact lvU_ret (resc1 1 rfl agg_30 rfl rfl rfl rfl) (fun w9 hs => ⟨.ok x67 s67 (g67), _, _, rfl, ⟨hro.trans (by unfold firstR; rw [if_neg hn13, if_neg hn24, if_neg hn38, if_pos hn53]; try exact hk67), hg67, hl67, hm67, rfl⟩, hs.sel (is := [0, 1, 1]) rfl⟩)
           · have hn53 : ¬ ((tokA L st.at_).kind = 1) := by simpa using hc53
             refine cy_seq ?_
             refine cy_region ?_
             refine sy_ldh one_71 rfl (Hp.blk hb2 0 _ rfl) rfl rfl ?_
             refine sy_callR1 [0] call_69 rfl rfl (is_c ⟨#[40]⟩ r bm A c L lv _ hT hL st (inn + 1) vn hat) rfl rfl (fun x72 h72x H72x hx72 hle72x => ?_)
             obtain ⟨rfl, rfl⟩ := hx72
             refine sy_assign rfl rfl rfl ?_
             refine sy_nil rfl ?_
             refine ny_next ?_
             refine cy_cond rfl (fun hc70 => ?_) (fun hc70 => ?_)
             · have hn70 : isP L st.at_ [40] = true := hc70
               have hlt := isP_lt hn70
               refine cy_seq ?_
               refine cy_region ?_
               refine sy_ldh one_71 rfl (Hp.blk hb2 0 _ rfl) rfl rfl ?_
               refine sy_nilCheck rfl rfl rfl ?_
               refine sy_field fld_74_1 rfl rfl rfl ?_
               first | refine sy_ldr 0 one_3 rfl rfl rfl rfl rfl ?_ | refine sy_ldr 1 one_3 rfl rfl rfl rfl rfl ?_ | refine sy_ldr 2 one_3 rfl rfl rfl rfl rfl ?_ | refine sy_ldr 3 one_3 rfl rfl rfl rfl rfl ?_ | refine sy_ldr 4 one_3 rfl rfl rfl rfl rfl ?_ | refine sy_ldr 5 one_3 rfl rfl rfl rfl rfl ?_
               refine sy_addi (z := ((st.at_ + 1 : Nat) : Int)) rfl rfl (by omega) (by omega) (by omega) rfl rfl ?_
               refine sy_nilCheck rfl rfl rfl ?_
               refine sy_field fld_74_1 rfl rfl rfl ?_
               first | refine sy_stl 0 sz_3 rfl rfl rfl rfl rfl rfl rfl rfl ?_ | refine sy_stl 1 sz_3 rfl rfl rfl rfl rfl rfl rfl rfl ?_ | refine sy_stl 2 sz_3 rfl rfl rfl rfl rfl rfl rfl rfl ?_ | refine sy_stl 3 sz_3 rfl rfl rfl rfl rfl rfl rfl rfl ?_ | refine sy_stl 4 sz_3 rfl rfl rfl rfl rfl rfl rfl rfl ?_ | refine sy_stl 5 sz_3 rfl rfl rfl rfl rfl rfl rfl rfl ?_
               refine sy_nil rfl ?_
               refine ny_next ?_
               refine cy_seq ?_
               refine cy_region ?_
               refine sy_ldh one_71 rfl (Hp.blk hb2 0 _ rfl) rfl rfl ?_
               refine sy_callRO [0, 1, 1] call_37 rfl rfl (htm _ (adv st) o vn 1200 hT (by show st.at_ + 1 ≤ _; omega) (by show st.names.length ≤ st.at_ + 1; omega) hm) rfl rfl (fun a81 e81 h81x H81x hb81 hx81 hle81x => ?_) (fun x81 s81 g81 h81x H81x hk81 hx81 hle81x => ?_)
               · obtain ⟨a9, i9, o9, v9, n9, rfl⟩ := hx81
                 replace hb2 := hle81x _ _ hb2
                 refine ny_thenP ?_
                 refine ny_blockP ?_
                 refine ny_thenP ?_
                 refine ny_finUP (lvU_cons [0] call_74 rfl (by intro h9; cases h9) (first1b_c r bm b2 A c L lv _ hb2 _ _ _ _) (fun _ h9y H9y hx9y hle9y => ?_))
                 obtain ⟨rfl, rfl⟩ := hx9y
                 exact lvU_pan (fun w9 hs => ⟨.bad a81 (e81), _, _, rfl, ⟨(hro.trans (by unfold firstR; rw [if_neg hn13, if_neg hn24, if_neg hn38, if_neg hn53, if_pos hn70, hb81])), _, _, _, _, _, rfl⟩, hs.sel (is := [0, 0, 0]) rfl⟩)
               · obtain ⟨hg81, hl81, hm81, rfl⟩ := hx81
                 have hfw81 := hf _ (adv st) x81 s81 (by show st.at_ + 1 ≤ _; omega) hk81
                 have hT81 := hT.le hle81x
                 replace hb2 := hle81x _ _ hb2
                 refine sy_alloc zer_30 rfl rfl (fun b7 hb7 hM7 => ?_) (by first | exact hb0 | simp)
                 first | refine sy_stl 0 sz_30 rfl rfl rfl rfl rfl rfl rfl rfl ?_ | refine sy_stl 1 sz_30 rfl rfl rfl rfl rfl rfl rfl rfl ?_ | refine sy_stl 2 sz_30 rfl rfl rfl rfl rfl rfl rfl rfl ?_ | refine sy_stl 3 sz_30 rfl rfl rfl rfl rfl rfl rfl rfl ?_ | refine sy_stl 4 sz_30 rfl rfl rfl rfl rfl rfl rfl rfl ?_ | refine sy_stl 5 sz_30 rfl rfl rfl rfl rfl rfl rfl rfl ?_
                 refine sy_nil rfl ?_
                 refine ny_next ?_
                 refine cy_seq ?_
                 refine cy_region ?_
                 refine sy_ldh one_71 rfl (Hp.blk hb2 0 _ rfl) rfl rfl ?_
                 refine sy_callRO [1] call_77 rfl rfl (want_c ⟨#[41]⟩ r bm A c L lv _ hT81 hL s81 (inn + 1) g81.2.2 hfw81.2.1) rfl rfl (fun a83 e83 h83x H83x hb83 hx83 hle83x => ?_) (fun x83 s83 g83 h83x H83x hk83 hx83 hle83x => ?_)
                 · obtain ⟨rfl, rfl⟩ := hx83
                   refine ny_thenP ?_
                   refine ny_blockP ?_
                   refine ny_thenP ?_
                   refine ny_finUP (lvU_cons [0] call_74 rfl (by intro h9; cases h9) (first1_c r bm b2 A c L lv _ hb2 _ _ inn _ hi0 hi1) (fun _ h9y H9y hx9y hle9y => ?_))
                   obtain ⟨rfl, rfl⟩ := hx9y
                   exact lvU_pan (fun w9 hs => ⟨.bad a83 (e83), _, _, rfl, ⟨(hro.trans (by unfold firstR; rw [if_neg hn13, if_neg hn24, if_neg hn38, if_neg hn53, if_pos hn70, hk81]; exact want_bad hb83)), _, _, _, _, _, rfl⟩, hs.sel (is := [0, 1, 1]) rfl⟩)
                 · obtain ⟨rfl, rfl⟩ := hx83
                   refine sy_nil rfl ?_
                   refine ny_next ?_
                   refine cy_seq ?_
                   refine cy_region ?_
                   first | refine sy_ldar 0 agg_30 rfl rfl rfl rfl rfl ?_ | refine sy_ldar 1 agg_30 rfl rfl rfl rfl rfl ?_ | refine sy_ldar 2 agg_30 rfl rfl rfl rfl rfl ?_ | refine sy_ldar 3 agg_30 rfl rfl rfl rfl rfl ?_ | refine sy_ldar 4 agg_30 rfl rfl rfl rfl rfl ?_ | refine sy_ldar 5 agg_30 rfl rfl rfl rfl rfl ?_
                   first | refine sy_stl 0 sz_30 rfl rfl rfl rfl rfl rfl rfl rfl ?_ | refine sy_stl 1 sz_30 rfl rfl rfl rfl rfl rfl rfl rfl ?_ | refine sy_stl 2 sz_30 rfl rfl rfl rfl rfl rfl rfl rfl ?_ | refine sy_stl 3 sz_30 rfl rfl rfl rfl rfl rfl rfl rfl ?_ | refine sy_stl 4 sz_30 rfl rfl rfl rfl rfl rfl rfl rfl ?_ | refine sy_stl 5 sz_30 rfl rfl rfl rfl rfl rfl rfl rfl ?_
                   refine sy_assign rfl rfl rfl ?_
                   refine sy_nil rfl ?_
                   refine ny_next ?_
                   refine cy_ret ?_
                   refine ny_blockR ?_
                   refine ny_thenR ?_
                   refine ny_finUR (lvU_cons [1] call_74 rfl (by intro h9; cases h9) (first1_c r bm b2 A c L lv _ hb2 _ _ inn _ hi0 hi1) (fun _ h9y H9y hx9y hle9y => ?_))
                   obtain ⟨rfl, rfl⟩ := hx9y
                   exact lvU_ret (resc1 1 rfl agg_30 rfl rfl rfl rfl) (fun w9 hs => ⟨.ok (x81.1, 0) (adv s81) (g81), _, _, rfl, ⟨hro.trans (by unfold firstR; rw [if_neg hn13, if_neg hn24, if_neg hn38, if_neg hn53, if_pos hn70, hk81]; try exact want_ok hk83), hg81, hl81, hm81, rfl⟩, hs.sel (is := [0, 2, 2]) rfl⟩)
             · have hn70 : ¬ isP L st.at_ [40] = true := by rw [Bool.not_eq_true]; exact hc70
               refine cy_seq ?_
               refine cy_region ?_
               refine sy_ldh one_71 rfl (Hp.blk hb2 0 _ rfl) rfl rfl ?_
               refine sy_callR1 [0] call_69 rfl rfl (is_c ⟨#[91]⟩ r bm A c L lv _ hT hL st (inn + 1) vn hat) rfl rfl (fun x87 h87x H87x hx87 hle87x => ?_)
               obtain ⟨rfl, rfl⟩ := hx87
               refine sy_assign rfl rfl rfl ?_
               refine sy_nil rfl ?_
               refine ny_next ?_
               refine cy_cond rfl (fun hc85 => ?_) (fun hc85 => ?_)
               · have hn85 : isP L st.at_ [91] = true := hc85
                 have hlt := isP_lt hn85
                 refine cy_seq ?_
                 refine cy_region ?_
                 refine sy_ldh one_71 rfl (Hp.blk hb2 0 _ rfl) rfl rfl ?_
                 refine sy_nilCheck rfl rfl rfl ?_
                 refine sy_field fld_74_1 rfl rfl rfl ?_
                 first | refine sy_ldr 0 one_3 rfl rfl rfl rfl rfl ?_ | refine sy_ldr 1 one_3 rfl rfl rfl rfl rfl ?_ | refine sy_ldr 2 one_3 rfl rfl rfl rfl rfl ?_ | refine sy_ldr 3 one_3 rfl rfl rfl rfl rfl ?_ | refine sy_ldr 4 one_3 rfl rfl rfl rfl rfl ?_ | refine sy_ldr 5 one_3 rfl rfl rfl rfl rfl ?_
                 refine sy_addi (z := ((st.at_ + 1 : Nat) : Int)) rfl rfl (by omega) (by omega) (by omega) rfl rfl ?_
                 refine sy_nilCheck rfl rfl rfl ?_
                 refine sy_field fld_74_1 rfl rfl rfl ?_
                 first | refine sy_stl 0 sz_3 rfl rfl rfl rfl rfl rfl rfl rfl ?_ | refine sy_stl 1 sz_3 rfl rfl rfl rfl rfl rfl rfl rfl ?_ | refine sy_stl 2 sz_3 rfl rfl rfl rfl rfl rfl rfl rfl ?_ | refine sy_stl 3 sz_3 rfl rfl rfl rfl rfl rfl rfl rfl ?_ | refine sy_stl 4 sz_3 rfl rfl rfl rfl rfl rfl rfl rfl ?_ | refine sy_stl 5 sz_3 rfl rfl rfl rfl rfl rfl rfl rfl ?_
                 refine sy_nil rfl ?_
                 refine ny_next ?_
                 refine cy_seq ?_
                 refine cy_region ?_
                 refine sy_ldh one_71 rfl (Hp.blk hb2 0 _ rfl) rfl rfl ?_
                 refine sy_callRO [0, 1, 1] call_78 rfl rfl (list_c r bm A c L lv _ (adv st) (inn + 1) o vn tm hf htm hT hL (by show st.at_ + 1 ≤ _; omega) (by show st.names.length ≤ st.at_ + 1; omega) hm) rfl rfl (fun a96 e96 h96x H96x hb96 hx96 hle96x => ?_) (fun x96 s96 g96 h96x H96x hk96 hx96 hle96x => ?_)
                 · obtain ⟨a9, i9, o9, v9, n9, rfl⟩ := hx96
                   replace hb2 := hle96x _ _ hb2
                   refine ny_thenP ?_
                   refine ny_blockP ?_
                   refine ny_thenP ?_
                   refine ny_finUP (lvU_cons [0] call_74 rfl (by intro h9; cases h9) (first1b_c r bm b2 A c L lv _ hb2 _ _ _ _) (fun _ h9y H9y hx9y hle9y => ?_))
                   obtain ⟨rfl, rfl⟩ := hx9y
                   exact lvU_pan (fun w9 hs => ⟨.bad a96 (e96), _, _, rfl, ⟨(hro.trans (by unfold firstR; rw [if_neg hn13, if_neg hn24, if_neg hn38, if_neg hn53, if_neg hn70, if_pos hn85, hb96]; rfl)), _, _, _, _, _, rfl⟩, hs.sel (is := [0, 0, 0]) rfl⟩)
                 · obtain ⟨hg96, hl96, hm96, rfl⟩ := hx96
                   replace hb2 := hle96x _ _ hb2
                   first | refine sy_stl 0 sz_30 rfl rfl rfl rfl rfl rfl rfl rfl ?_ | refine sy_stl 1 sz_30 rfl rfl rfl rfl rfl rfl rfl rfl ?_ | refine sy_stl 2 sz_30 rfl rfl rfl rfl rfl rfl rfl rfl ?_ | refine sy_stl 3 sz_30 rfl rfl rfl rfl rfl rfl rfl rfl ?_ | refine sy_stl 4 sz_30 rfl rfl rfl rfl rfl rfl rfl rfl ?_ | refine sy_stl 5 sz_30 rfl rfl rfl rfl rfl rfl rfl rfl ?_
                   refine sy_assign rfl rfl rfl ?_
                   refine sy_nil rfl ?_
                   refine ny_next ?_
                   refine cy_ret ?_
                   refine ny_blockR ?_
                   refine ny_thenR ?_
                   refine ny_finUR (lvU_cons [1] call_74 rfl (by intro h9; cases h9) (first1_c r bm b2 A c L lv _ hb2 _ _ inn _ hi0 hi1) (fun _ h9y H9y hx9y hle9y => ?_))
                   obtain ⟨rfl, rfl⟩ := hx9y
                   exact lvU_ret (resc1 1 rfl agg_30 rfl rfl rfl rfl) (fun w9 hs => ⟨.ok (x96, 0) s96 (g96), _, _, rfl, ⟨hro.trans (by unfold firstR; rw [if_neg hn13, if_neg hn24, if_neg hn38, if_neg hn53, if_neg hn70, if_pos hn85, hk96]; try rfl), hg96, hl96, hm96, rfl⟩, hs.sel (is := [0, 1, 1]) rfl⟩)
               · have hn85 : ¬ isP L st.at_ [91] = true := by rw [Bool.not_eq_true]; exact hc85
                 refine cy_skip ?_
                 refine ny_blockN ?_
                 refine ny_next ?_
                 refine cy_seq ?_
                 refine cy_region ?_
                 refine sy_ldh one_71 rfl (Hp.blk hb2 0 _ rfl) rfl rfl ?_
                 refine sy_callR [0] call_39 rfl rfl (rbad_c r bm A c L lv _ hT hL st (inn + 1) _ hat 4) rfl rfl (fun x98 h98x H98x hx98 hle98x => ?_)
                 obtain ⟨rfl, rfl⟩ := hx98
                 refine ny_thenP ?_
                 refine ny_finUP (lvU_cons [0] call_74 rfl (by intro h9; cases h9) (first1_c r bm b2 A c L lv _ hb2 _ _ inn _ hi0 hi1) (fun _ h9y H9y hx9y hle9y => ?_))
                 obtain ⟨rfl, rfl⟩ := hx9y
                 exact lvU_pan (fun w9 hs => ⟨.bad st.at_ (4), _, _, rfl, ⟨(hro.trans (by unfold firstR; rw [if_neg hn13, if_neg hn24, if_neg hn38, if_neg hn53, if_neg hn70, if_neg hn85])), _, _, _, _, _, rfl⟩, hs.sel (is := [0, 1, 1]) rfl⟩)
   · refine sy_skip rfl rfl rfl ?_
     refine sy_skip rfl rfl rfl ?_
     refine sy_skip rfl rfl rfl ?_
     refine sy_pickF rfl rfl rfl rfl ?_
     refine sy_assign rfl rfl rfl ?_
     refine sy_nil rfl ?_
     refine ny_next ?_
     refine cy_condF rfl ?_
     have hn13 : ¬ ((tokA L st.at_).kind = 3 ∧ (tokA L st.at_).num < 0) := fun h9 => by
      rw [h9.1] at hg17
      cases hg17
     refine cy_seq ?_
     refine cy_region ?_
     refine sy_field fld_65_0 rfl rfl rfl ?_
     refine sy_ldh one_3 rfl (Hp.blk hbt 0 _ rfl) rfl rfl ?_
     refine sy_cmp rfl rfl rfl rfl rfl ?_
     refine sy_assign rfl rfl rfl ?_
     refine sy_nil rfl ?_
     refine ny_next ?_
     refine cy_cond rfl (fun hc24 => ?_) (fun hc24 => ?_)
     · have hn24 : (tokA L st.at_).kind = 3 := by simpa using hc24
       have hlt := tok_lt (L := L) (i := st.at_) (by rw [hn24]; decide)
       refine cy_seq ?_
       refine cy_region ?_
       refine sy_ldh one_71 rfl (Hp.blk hb2 0 _ rfl) rfl rfl ?_
       refine sy_nilCheck rfl rfl rfl ?_
       refine sy_field fld_74_1 rfl rfl rfl ?_
       first | refine sy_ldr 0 one_3 rfl rfl rfl rfl rfl ?_ | refine sy_ldr 1 one_3 rfl rfl rfl rfl rfl ?_ | refine sy_ldr 2 one_3 rfl rfl rfl rfl rfl ?_ | refine sy_ldr 3 one_3 rfl rfl rfl rfl rfl ?_ | refine sy_ldr 4 one_3 rfl rfl rfl rfl rfl ?_ | refine sy_ldr 5 one_3 rfl rfl rfl rfl rfl ?_
       refine sy_addi (z := ((st.at_ + 1 : Nat) : Int)) rfl rfl (by omega) (by omega) (by omega) rfl rfl ?_
       refine sy_nilCheck rfl rfl rfl ?_
       refine sy_field fld_74_1 rfl rfl rfl ?_
       first | refine sy_stl 0 sz_3 rfl rfl rfl rfl rfl rfl rfl rfl ?_ | refine sy_stl 1 sz_3 rfl rfl rfl rfl rfl rfl rfl rfl ?_ | refine sy_stl 2 sz_3 rfl rfl rfl rfl rfl rfl rfl rfl ?_ | refine sy_stl 3 sz_3 rfl rfl rfl rfl rfl rfl rfl rfl ?_ | refine sy_stl 4 sz_3 rfl rfl rfl rfl rfl rfl rfl rfl ?_ | refine sy_stl 5 sz_3 rfl rfl rfl rfl rfl rfl rfl rfl ?_
       refine sy_nil rfl ?_
       refine ny_next ?_
       refine cy_seq ?_
       refine cy_region ?_
       refine sy_field fld_65_2 rfl rfl rfl ?_
       refine sy_ldh one_2 rfl (Hp.blk hbt 2 _ rfl) rfl rfl ?_
       refine sy_call rfl call_15 rfl (num_c _ _) rfl rfl ?_
       first | refine sy_stl 0 sz_30 rfl rfl rfl rfl rfl rfl rfl rfl ?_ | refine sy_stl 1 sz_30 rfl rfl rfl rfl rfl rfl rfl rfl ?_ | refine sy_stl 2 sz_30 rfl rfl rfl rfl rfl rfl rfl rfl ?_ | refine sy_stl 3 sz_30 rfl rfl rfl rfl rfl rfl rfl rfl ?_ | refine sy_stl 4 sz_30 rfl rfl rfl rfl rfl rfl rfl rfl ?_ | refine sy_stl 5 sz_30 rfl rfl rfl rfl rfl rfl rfl rfl ?_
       refine sy_assign rfl rfl rfl ?_
       refine sy_nil rfl ?_
       refine ny_next ?_
       refine cy_ret ?_
       refine ny_blockR ?_
       refine ny_thenR ?_
       refine ny_finUR (lvU_cons [1] call_74 rfl (by intro h9; cases h9) (first1_c r bm b2 A c L lv _ hb2 _ _ inn _ hi0 hi1) (fun _ h9y H9y hx9y hle9y => ?_))
       obtain ⟨rfl, rfl⟩ := hx9y
       exact lvU_ret (resc1 1 rfl agg_30 rfl rfl rfl rfl) (fun w9 hs => ⟨.ok (numT (tokA L st.at_).num, 0) (adv st) ((GT.mk 2 (tokA L st.at_).num ⟨#[]⟩ none 0 [], o, vn)), _, _, rfl, ⟨hro.trans (by unfold firstR; rw [if_neg hn13, if_pos hn24]; try rfl), (by rw [tm_leaf]; rfl), ⟨lies_leaf _ _ _ _, fits_leaf (by decide) (by decide) (tokA_ok hqN st.at_).2.2.1 (tokA_ok hqN st.at_).2.2.2 (by decide)⟩, hm, rfl⟩, hs.sel (is := [0, 1, 1]) rfl⟩)
     · have hn24 : ¬ ((tokA L st.at_).kind = 3) := by simpa using hc24
       refine cy_seq ?_
       refine cy_region ?_
       refine sy_field fld_65_0 rfl rfl rfl ?_
       refine sy_ldh one_3 rfl (Hp.blk hbt 0 _ rfl) rfl rfl ?_
       refine sy_cmp rfl rfl rfl rfl rfl ?_
       refine sy_assign rfl rfl rfl ?_
       refine sy_nil rfl ?_
       refine ny_next ?_
       refine cy_cond rfl (fun hc38 => ?_) (fun hc38 => ?_)
       · have hn38 : (tokA L st.at_).kind = 2 := by simpa using hc38
         have hlt := tok_lt (L := L) (i := st.at_) (by rw [hn38]; decide)
         refine cy_seq ?_
         refine cy_region ?_
         refine sy_ldh one_71 rfl (Hp.blk hb2 0 _ rfl) rfl rfl ?_
         refine sy_nilCheck rfl rfl rfl ?_
         refine sy_field fld_74_1 rfl rfl rfl ?_
         first | refine sy_ldr 0 one_3 rfl rfl rfl rfl rfl ?_ | refine sy_ldr 1 one_3 rfl rfl rfl rfl rfl ?_ | refine sy_ldr 2 one_3 rfl rfl rfl rfl rfl ?_ | refine sy_ldr 3 one_3 rfl rfl rfl rfl rfl ?_ | refine sy_ldr 4 one_3 rfl rfl rfl rfl rfl ?_ | refine sy_ldr 5 one_3 rfl rfl rfl rfl rfl ?_
         refine sy_addi (z := ((st.at_ + 1 : Nat) : Int)) rfl rfl (by omega) (by omega) (by omega) rfl rfl ?_
         refine sy_nilCheck rfl rfl rfl ?_
         refine sy_field fld_74_1 rfl rfl rfl ?_
         first | refine sy_stl 0 sz_3 rfl rfl rfl rfl rfl rfl rfl rfl ?_ | refine sy_stl 1 sz_3 rfl rfl rfl rfl rfl rfl rfl rfl ?_ | refine sy_stl 2 sz_3 rfl rfl rfl rfl rfl rfl rfl rfl ?_ | refine sy_stl 3 sz_3 rfl rfl rfl rfl rfl rfl rfl rfl ?_ | refine sy_stl 4 sz_3 rfl rfl rfl rfl rfl rfl rfl rfl ?_ | refine sy_stl 5 sz_3 rfl rfl rfl rfl rfl rfl rfl rfl ?_
         refine sy_nil rfl ?_
         refine ny_next ?_
         refine cy_seq ?_
         refine cy_region ?_
         refine sy_ldh one_71 rfl (Hp.blk hb2 0 _ rfl) rfl rfl ?_
         refine sy_field fld_65_1 rfl rfl rfl ?_
         refine sy_ldh one_9 rfl (Hp.blk hbt 1 _ rfl) rfl rfl ?_
         refine sy_callR1 [0, 1, 1] call_75 rfl rfl (var_c (tokA L st.at_).str (tokA_ok hqN st.at_).2.1 r bm A c L lv _ hT hL (adv st) (inn + 1) vn (by show st.at_ + 1 ≤ _; omega) o (by show st.names.length ≤ st.at_ + 1; omega) hm) rfl rfl (fun x52 h52x H52x hx52 hle52x => ?_)
         obtain ⟨rfl, rfl, hm52⟩ := hx52
         first | refine sy_stl 0 sz_30 rfl rfl rfl rfl rfl rfl rfl rfl ?_ | refine sy_stl 1 sz_30 rfl rfl rfl rfl rfl rfl rfl rfl ?_ | refine sy_stl 2 sz_30 rfl rfl rfl rfl rfl rfl rfl rfl ?_ | refine sy_stl 3 sz_30 rfl rfl rfl rfl rfl rfl rfl rfl ?_ | refine sy_stl 4 sz_30 rfl rfl rfl rfl rfl rfl rfl rfl ?_ | refine sy_stl 5 sz_30 rfl rfl rfl rfl rfl rfl rfl rfl ?_
         refine sy_assign rfl rfl rfl ?_
         refine sy_nil rfl ?_
         refine ny_next ?_
         refine cy_ret ?_
         refine ny_blockR ?_
         refine ny_thenR ?_
         refine ny_finUR (lvU_cons [1] call_74 rfl (by intro h9; cases h9) (first1_c r bm b2 A c L lv _ hb2 _ _ inn _ hi0 hi1) (fun _ h9y H9y hx9y hle9y => ?_))
         obtain ⟨rfl, rfl⟩ := hx9y
         exact lvU_ret (resc1 1 rfl agg_30 rfl rfl rfl rfl) (fun w9 hs => ⟨.ok ((varR (tokA L st.at_).str (adv st)).1, 0) (varR (tokA L st.at_).str (adv st)).2 ((GT.mk 1 (varR (tokA L st.at_).str (adv st)).1.n ⟨#[]⟩ none 0 [], x52.1, x52.2)), _, _, rfl, ⟨hro.trans (by unfold firstR; rw [if_neg hn13, if_neg hn24, if_pos hn38]; try rfl), (varR_gt _ _), ⟨lies_leaf _ _ _ _, (varR_fits _ (adv st) (by show st.names.length ≤ st.at_ + 1; omega) (by show st.at_ + 1 ≤ 1048576; omega))⟩, hm52, (by rw [varR_at])⟩, hs.sel (is := [0, 1, 1]) rfl⟩)
       · have hn38 : ¬ ((tokA L st.at_).kind = 2) := by simpa using hc38
         refine cy_seq ?_
         refine cy_region ?_
         refine sy_field fld_65_0 rfl rfl rfl ?_
         refine sy_ldh one_3 rfl (Hp.blk hbt 0 _ rfl) rfl rfl ?_
         refine sy_cmp rfl rfl rfl rfl rfl ?_
         refine sy_assign rfl rfl rfl ?_
         refine sy_nil rfl ?_
         refine ny_next ?_
         refine cy_cond rfl (fun hc53 => ?_) (fun hc53 => ?_)
         · have hn53 : (tokA L st.at_).kind = 1 := by simpa using hc53
           have hlt := tok_lt (L := L) (i := st.at_) (by rw [hn53]; decide)
           refine cy_seq ?_
           refine cy_region ?_
           refine sy_ldh one_71 rfl (Hp.blk hb2 0 _ rfl) rfl rfl ?_
           refine sy_nilCheck rfl rfl rfl ?_
           refine sy_field fld_74_1 rfl rfl rfl ?_
           first | refine sy_ldr 0 one_3 rfl rfl rfl rfl rfl ?_ | refine sy_ldr 1 one_3 rfl rfl rfl rfl rfl ?_ | refine sy_ldr 2 one_3 rfl rfl rfl rfl rfl ?_ | refine sy_ldr 3 one_3 rfl rfl rfl rfl rfl ?_ | refine sy_ldr 4 one_3 rfl rfl rfl rfl rfl ?_ | refine sy_ldr 5 one_3 rfl rfl rfl rfl rfl ?_
           refine sy_addi (z := ((st.at_ + 1 : Nat) : Int)) rfl rfl (by omega) (by omega) (by omega) rfl rfl ?_
           refine sy_nilCheck rfl rfl rfl ?_
           refine sy_field fld_74_1 rfl rfl rfl ?_
           first | refine sy_stl 0 sz_3 rfl rfl rfl rfl rfl rfl rfl rfl ?_ | refine sy_stl 1 sz_3 rfl rfl rfl rfl rfl rfl rfl rfl ?_ | refine sy_stl 2 sz_3 rfl rfl rfl rfl rfl rfl rfl rfl ?_ | refine sy_stl 3 sz_3 rfl rfl rfl rfl rfl rfl rfl rfl ?_ | refine sy_stl 4 sz_3 rfl rfl rfl rfl rfl rfl rfl rfl ?_ | refine sy_stl 5 sz_3 rfl rfl rfl rfl rfl rfl rfl rfl ?_
           refine sy_nil rfl ?_
           refine ny_next ?_
           refine cy_seq ?_
           refine cy_region ?_
           refine sy_ldh one_71 rfl (Hp.blk hb2 0 _ rfl) rfl rfl ?_
           refine sy_ldah (vs := rtC (tokA L st.at_)) agg_65 rfl rfl (Hp.blk hbt) rfl rfl ?_
           refine sy_move rfl rfl rfl ?_
           refine sy_callRO [0, 1, 1] call_76 rfl rfl (rname_c r bm A c L lv _ (adv st) (inn + 1) o vn (tokA L st.at_) most (tokA_ok hqN st.at_).2.1 hqN tm hf hwg hPW htm hT hL (by show st.at_ + 1 ≤ _; omega) (by show st.names.length ≤ st.at_ + 1; omega) hm) rfl rfl (fun a67 e67 h67x H67x hb67 hx67 hle67x => ?_) (fun x67 s67 g67 h67x H67x hk67 hx67 hle67x => ?_)
           · obtain ⟨a9, i9, o9, v9, n9, rfl⟩ := hx67
             replace hb2 := hle67x _ _ hb2
             refine ny_thenP ?_
             refine ny_blockP ?_
             refine ny_thenP ?_
             refine ny_finUP (lvU_cons [0] call_74 rfl (by intro h9; cases h9) (first1b_c r bm b2 A c L lv _ hb2 _ _ _ _) (fun _ h9y H9y hx9y hle9y => ?_))
             obtain ⟨rfl, rfl⟩ := hx9y
             exact lvU_pan (fun w9 hs => ⟨.bad a67 (e67), _, _, rfl, ⟨(hro.trans (by unfold firstR; rw [if_neg hn13, if_neg hn24, if_neg hn38, if_pos hn53]; exact hb67)), _, _, _, _, _, rfl⟩, hs.sel (is := [0, 0, 0]) rfl⟩)
           · obtain ⟨hg67, hl67, hm67, rfl⟩ := hx67
             replace hb2 := hle67x _ _ hb2
             refine sy_extract rfl rfl rfl rfl ?_
             refine sy_extract rfl rfl rfl rfl ?_
             first | refine sy_stl 0 sz_30 rfl rfl rfl rfl rfl rfl rfl rfl ?_ | refine sy_stl 1 sz_30 rfl rfl rfl rfl rfl rfl rfl rfl ?_ | refine sy_stl 2 sz_30 rfl rfl rfl rfl rfl rfl rfl rfl ?_ | refine sy_stl 3 sz_30 rfl rfl rfl rfl rfl rfl rfl rfl ?_ | refine sy_stl 4 sz_30 rfl rfl rfl rfl rfl rfl rfl rfl ?_ | refine sy_stl 5 sz_30 rfl rfl rfl rfl rfl rfl rfl rfl ?_
             refine sy_assign rfl rfl rfl ?_
             refine sy_nil rfl ?_
             refine ny_next ?_
             refine cy_ret ?_
             refine ny_blockR ?_
             refine ny_thenR ?_
             refine ny_finUR (lvU_cons [1] call_74 rfl (by intro h9; cases h9) (first1_c r bm b2 A c L lv _ hb2 _ _ inn _ hi0 hi1) (fun _ h9y H9y hx9y hle9y => ?_))
             obtain ⟨rfl, rfl⟩ := hx9y
             exact lvU_ret (resc1 1 rfl agg_30 rfl rfl rfl rfl) (fun w9 hs => ⟨.ok x67 s67 (g67), _, _, rfl, ⟨hro.trans (by unfold firstR; rw [if_neg hn13, if_neg hn24, if_neg hn38, if_pos hn53]; try exact hk67), hg67, hl67, hm67, rfl⟩, hs.sel (is := [0, 1, 1]) rfl⟩)
         · have hn53 : ¬ ((tokA L st.at_).kind = 1) := by simpa using hc53
           refine cy_seq ?_
           refine cy_region ?_
           refine sy_ldh one_71 rfl (Hp.blk hb2 0 _ rfl) rfl rfl ?_
           refine sy_callR1 [0] call_69 rfl rfl (is_c ⟨#[40]⟩ r bm A c L lv _ hT hL st (inn + 1) vn hat) rfl rfl (fun x72 h72x H72x hx72 hle72x => ?_)
           obtain ⟨rfl, rfl⟩ := hx72
           refine sy_assign rfl rfl rfl ?_
           refine sy_nil rfl ?_
           refine ny_next ?_
           refine cy_cond rfl (fun hc70 => ?_) (fun hc70 => ?_)
           · have hn70 : isP L st.at_ [40] = true := hc70
             have hlt := isP_lt hn70
             refine cy_seq ?_
             refine cy_region ?_
             refine sy_ldh one_71 rfl (Hp.blk hb2 0 _ rfl) rfl rfl ?_
             refine sy_nilCheck rfl rfl rfl ?_
             refine sy_field fld_74_1 rfl rfl rfl ?_
             first | refine sy_ldr 0 one_3 rfl rfl rfl rfl rfl ?_ | refine sy_ldr 1 one_3 rfl rfl rfl rfl rfl ?_ | refine sy_ldr 2 one_3 rfl rfl rfl rfl rfl ?_ | refine sy_ldr 3 one_3 rfl rfl rfl rfl rfl ?_ | refine sy_ldr 4 one_3 rfl rfl rfl rfl rfl ?_ | refine sy_ldr 5 one_3 rfl rfl rfl rfl rfl ?_
             refine sy_addi (z := ((st.at_ + 1 : Nat) : Int)) rfl rfl (by omega) (by omega) (by omega) rfl rfl ?_
             refine sy_nilCheck rfl rfl rfl ?_
             refine sy_field fld_74_1 rfl rfl rfl ?_
             first | refine sy_stl 0 sz_3 rfl rfl rfl rfl rfl rfl rfl rfl ?_ | refine sy_stl 1 sz_3 rfl rfl rfl rfl rfl rfl rfl rfl ?_ | refine sy_stl 2 sz_3 rfl rfl rfl rfl rfl rfl rfl rfl ?_ | refine sy_stl 3 sz_3 rfl rfl rfl rfl rfl rfl rfl rfl ?_ | refine sy_stl 4 sz_3 rfl rfl rfl rfl rfl rfl rfl rfl ?_ | refine sy_stl 5 sz_3 rfl rfl rfl rfl rfl rfl rfl rfl ?_
             refine sy_nil rfl ?_
             refine ny_next ?_
             refine cy_seq ?_
             refine cy_region ?_
             refine sy_ldh one_71 rfl (Hp.blk hb2 0 _ rfl) rfl rfl ?_
             refine sy_callRO [0, 1, 1] call_37 rfl rfl (htm _ (adv st) o vn 1200 hT (by show st.at_ + 1 ≤ _; omega) (by show st.names.length ≤ st.at_ + 1; omega) hm) rfl rfl (fun a81 e81 h81x H81x hb81 hx81 hle81x => ?_) (fun x81 s81 g81 h81x H81x hk81 hx81 hle81x => ?_)
             · obtain ⟨a9, i9, o9, v9, n9, rfl⟩ := hx81
               replace hb2 := hle81x _ _ hb2
               refine ny_thenP ?_
               refine ny_blockP ?_
               refine ny_thenP ?_
               refine ny_finUP (lvU_cons [0] call_74 rfl (by intro h9; cases h9) (first1b_c r bm b2 A c L lv _ hb2 _ _ _ _) (fun _ h9y H9y hx9y hle9y => ?_))
               obtain ⟨rfl, rfl⟩ := hx9y
               exact lvU_pan (fun w9 hs => ⟨.bad a81 (e81), _, _, rfl, ⟨(hro.trans (by unfold firstR; rw [if_neg hn13, if_neg hn24, if_neg hn38, if_neg hn53, if_pos hn70, hb81])), _, _, _, _, _, rfl⟩, hs.sel (is := [0, 0, 0]) rfl⟩)
             · obtain ⟨hg81, hl81, hm81, rfl⟩ := hx81
               have hfw81 := hf _ (adv st) x81 s81 (by show st.at_ + 1 ≤ _; omega) hk81
               have hT81 := hT.le hle81x
               replace hb2 := hle81x _ _ hb2
               refine sy_alloc zer_30 rfl rfl (fun b7 hb7 hM7 => ?_) (by first | exact hb0 | simp)
               first | refine sy_stl 0 sz_30 rfl rfl rfl rfl rfl rfl rfl rfl ?_ | refine sy_stl 1 sz_30 rfl rfl rfl rfl rfl rfl rfl rfl ?_ | refine sy_stl 2 sz_30 rfl rfl rfl rfl rfl rfl rfl rfl ?_ | refine sy_stl 3 sz_30 rfl rfl rfl rfl rfl rfl rfl rfl ?_ | refine sy_stl 4 sz_30 rfl rfl rfl rfl rfl rfl rfl rfl ?_ | refine sy_stl 5 sz_30 rfl rfl rfl rfl rfl rfl rfl rfl ?_
               refine sy_nil rfl ?_
               refine ny_next ?_
               refine cy_seq ?_
               refine cy_region ?_
               refine sy_ldh one_71 rfl (Hp.blk hb2 0 _ rfl) rfl rfl ?_
               refine sy_callRO [1] call_77 rfl rfl (want_c ⟨#[41]⟩ r bm A c L lv _ hT81 hL s81 (inn + 1) g81.2.2 hfw81.2.1) rfl rfl (fun a83 e83 h83x H83x hb83 hx83 hle83x => ?_) (fun x83 s83 g83 h83x H83x hk83 hx83 hle83x => ?_)
               · obtain ⟨rfl, rfl⟩ := hx83
                 refine ny_thenP ?_
                 refine ny_blockP ?_
                 refine ny_thenP ?_
                 refine ny_finUP (lvU_cons [0] call_74 rfl (by intro h9; cases h9) (first1_c r bm b2 A c L lv _ hb2 _ _ inn _ hi0 hi1) (fun _ h9y H9y hx9y hle9y => ?_))
                 obtain ⟨rfl, rfl⟩ := hx9y
                 exact lvU_pan (fun w9 hs => ⟨.bad a83 (e83), _, _, rfl, ⟨(hro.trans (by unfold firstR; rw [if_neg hn13, if_neg hn24, if_neg hn38, if_neg hn53, if_pos hn70, hk81]; exact want_bad hb83)), _, _, _, _, _, rfl⟩, hs.sel (is := [0, 1, 1]) rfl⟩)
               · obtain ⟨rfl, rfl⟩ := hx83
                 refine sy_nil rfl ?_
                 refine ny_next ?_
                 refine cy_seq ?_
                 refine cy_region ?_
                 first | refine sy_ldar 0 agg_30 rfl rfl rfl rfl rfl ?_ | refine sy_ldar 1 agg_30 rfl rfl rfl rfl rfl ?_ | refine sy_ldar 2 agg_30 rfl rfl rfl rfl rfl ?_ | refine sy_ldar 3 agg_30 rfl rfl rfl rfl rfl ?_ | refine sy_ldar 4 agg_30 rfl rfl rfl rfl rfl ?_ | refine sy_ldar 5 agg_30 rfl rfl rfl rfl rfl ?_
                 first | refine sy_stl 0 sz_30 rfl rfl rfl rfl rfl rfl rfl rfl ?_ | refine sy_stl 1 sz_30 rfl rfl rfl rfl rfl rfl rfl rfl ?_ | refine sy_stl 2 sz_30 rfl rfl rfl rfl rfl rfl rfl rfl ?_ | refine sy_stl 3 sz_30 rfl rfl rfl rfl rfl rfl rfl rfl ?_ | refine sy_stl 4 sz_30 rfl rfl rfl rfl rfl rfl rfl rfl ?_ | refine sy_stl 5 sz_30 rfl rfl rfl rfl rfl rfl rfl rfl ?_
                 refine sy_assign rfl rfl rfl ?_
                 refine sy_nil rfl ?_
                 refine ny_next ?_
                 refine cy_ret ?_
                 refine ny_blockR ?_
                 refine ny_thenR ?_
                 refine ny_finUR (lvU_cons [1] call_74 rfl (by intro h9; cases h9) (first1_c r bm b2 A c L lv _ hb2 _ _ inn _ hi0 hi1) (fun _ h9y H9y hx9y hle9y => ?_))
                 obtain ⟨rfl, rfl⟩ := hx9y
                 exact lvU_ret (resc1 1 rfl agg_30 rfl rfl rfl rfl) (fun w9 hs => ⟨.ok (x81.1, 0) (adv s81) (g81), _, _, rfl, ⟨hro.trans (by unfold firstR; rw [if_neg hn13, if_neg hn24, if_neg hn38, if_neg hn53, if_pos hn70, hk81]; try exact want_ok hk83), hg81, hl81, hm81, rfl⟩, hs.sel (is := [0, 2, 2]) rfl⟩)
           · have hn70 : ¬ isP L st.at_ [40] = true := by rw [Bool.not_eq_true]; exact hc70
             refine cy_seq ?_
             refine cy_region ?_
             refine sy_ldh one_71 rfl (Hp.blk hb2 0 _ rfl) rfl rfl ?_
             refine sy_callR1 [0] call_69 rfl rfl (is_c ⟨#[91]⟩ r bm A c L lv _ hT hL st (inn + 1) vn hat) rfl rfl (fun x87 h87x H87x hx87 hle87x => ?_)
             obtain ⟨rfl, rfl⟩ := hx87
             refine sy_assign rfl rfl rfl ?_
             refine sy_nil rfl ?_
             refine ny_next ?_
             refine cy_cond rfl (fun hc85 => ?_) (fun hc85 => ?_)
             · have hn85 : isP L st.at_ [91] = true := hc85
               have hlt := isP_lt hn85
               refine cy_seq ?_
               refine cy_region ?_
               refine sy_ldh one_71 rfl (Hp.blk hb2 0 _ rfl) rfl rfl ?_
               refine sy_nilCheck rfl rfl rfl ?_
               refine sy_field fld_74_1 rfl rfl rfl ?_
               first | refine sy_ldr 0 one_3 rfl rfl rfl rfl rfl ?_ | refine sy_ldr 1 one_3 rfl rfl rfl rfl rfl ?_ | refine sy_ldr 2 one_3 rfl rfl rfl rfl rfl ?_ | refine sy_ldr 3 one_3 rfl rfl rfl rfl rfl ?_ | refine sy_ldr 4 one_3 rfl rfl rfl rfl rfl ?_ | refine sy_ldr 5 one_3 rfl rfl rfl rfl rfl ?_
               refine sy_addi (z := ((st.at_ + 1 : Nat) : Int)) rfl rfl (by omega) (by omega) (by omega) rfl rfl ?_
               refine sy_nilCheck rfl rfl rfl ?_
               refine sy_field fld_74_1 rfl rfl rfl ?_
               first | refine sy_stl 0 sz_3 rfl rfl rfl rfl rfl rfl rfl rfl ?_ | refine sy_stl 1 sz_3 rfl rfl rfl rfl rfl rfl rfl rfl ?_ | refine sy_stl 2 sz_3 rfl rfl rfl rfl rfl rfl rfl rfl ?_ | refine sy_stl 3 sz_3 rfl rfl rfl rfl rfl rfl rfl rfl ?_ | refine sy_stl 4 sz_3 rfl rfl rfl rfl rfl rfl rfl rfl ?_ | refine sy_stl 5 sz_3 rfl rfl rfl rfl rfl rfl rfl rfl ?_
               refine sy_nil rfl ?_
               refine ny_next ?_
               refine cy_seq ?_
               refine cy_region ?_
               refine sy_ldh one_71 rfl (Hp.blk hb2 0 _ rfl) rfl rfl ?_
               refine sy_callRO [0, 1, 1] call_78 rfl rfl (list_c r bm A c L lv _ (adv st) (inn + 1) o vn tm hf htm hT hL (by show st.at_ + 1 ≤ _; omega) (by show st.names.length ≤ st.at_ + 1; omega) hm) rfl rfl (fun a96 e96 h96x H96x hb96 hx96 hle96x => ?_) (fun x96 s96 g96 h96x H96x hk96 hx96 hle96x => ?_)
               · obtain ⟨a9, i9, o9, v9, n9, rfl⟩ := hx96
                 replace hb2 := hle96x _ _ hb2
                 refine ny_thenP ?_
                 refine ny_blockP ?_
                 refine ny_thenP ?_
                 refine ny_finUP (lvU_cons [0] call_74 rfl (by intro h9; cases h9) (first1b_c r bm b2 A c L lv _ hb2 _ _ _ _) (fun _ h9y H9y hx9y hle9y => ?_))
                 obtain ⟨rfl, rfl⟩ := hx9y
                 exact lvU_pan (fun w9 hs => ⟨.bad a96 (e96), _, _, rfl, ⟨(hro.trans (by unfold firstR; rw [if_neg hn13, if_neg hn24, if_neg hn38, if_neg hn53, if_neg hn70, if_pos hn85, hb96]; rfl)), _, _, _, _, _, rfl⟩, hs.sel (is := [0, 0, 0]) rfl⟩)
               · obtain ⟨hg96, hl96, hm96, rfl⟩ := hx96
                 replace hb2 := hle96x _ _ hb2
                 first | refine sy_stl 0 sz_30 rfl rfl rfl rfl rfl rfl rfl rfl ?_ | refine sy_stl 1 sz_30 rfl rfl rfl rfl rfl rfl rfl rfl ?_ | refine sy_stl 2 sz_30 rfl rfl rfl rfl rfl rfl rfl rfl ?_ | refine sy_stl 3 sz_30 rfl rfl rfl rfl rfl rfl rfl rfl ?_ | refine sy_stl 4 sz_30 rfl rfl rfl rfl rfl rfl rfl rfl ?_ | refine sy_stl 5 sz_30 rfl rfl rfl rfl rfl rfl rfl rfl ?_
                 refine sy_assign rfl rfl rfl ?_
                 refine sy_nil rfl ?_
                 refine ny_next ?_
                 refine cy_ret ?_
                 refine ny_blockR ?_
                 refine ny_thenR ?_
                 refine ny_finUR (lvU_cons [1] call_74 rfl (by intro h9; cases h9) (first1_c r bm b2 A c L lv _ hb2 _ _ inn _ hi0 hi1) (fun _ h9y H9y hx9y hle9y => ?_))
                 obtain ⟨rfl, rfl⟩ := hx9y
                 exact lvU_ret (resc1 1 rfl agg_30 rfl rfl rfl rfl) (fun w9 hs => ⟨.ok (x96, 0) s96 (g96), _, _, rfl, ⟨hro.trans (by unfold firstR; rw [if_neg hn13, if_neg hn24, if_neg hn38, if_neg hn53, if_neg hn70, if_pos hn85, hk96]; try rfl), hg96, hl96, hm96, rfl⟩, hs.sel (is := [0, 1, 1]) rfl⟩)
             · have hn85 : ¬ isP L st.at_ [91] = true := by rw [Bool.not_eq_true]; exact hc85
               refine cy_skip ?_
               refine ny_blockN ?_
               refine ny_next ?_
               refine cy_seq ?_
               refine cy_region ?_
               refine sy_ldh one_71 rfl (Hp.blk hb2 0 _ rfl) rfl rfl ?_
               refine sy_callR [0] call_39 rfl rfl (rbad_c r bm A c L lv _ hT hL st (inn + 1) _ hat 4) rfl rfl (fun x98 h98x H98x hx98 hle98x => ?_)
               obtain ⟨rfl, rfl⟩ := hx98
               refine ny_thenP ?_
               refine ny_finUP (lvU_cons [0] call_74 rfl (by intro h9; cases h9) (first1_c r bm b2 A c L lv _ hb2 _ _ inn _ hi0 hi1) (fun _ h9y H9y hx9y hle9y => ?_))
               obtain ⟨rfl, rfl⟩ := hx9y
               exact lvU_pan (fun w9 hs => ⟨.bad st.at_ (4), _, _, rfl, ⟨(hro.trans (by unfold firstR; rw [if_neg hn13, if_neg hn24, if_neg hn38, if_neg hn53, if_neg hn70, if_neg hn85])), _, _, _, _, _, rfl⟩, hs.sel (is := [0, 1, 1]) rfl⟩)
end Go.Proofs.YtanhhihechakhaaDoor

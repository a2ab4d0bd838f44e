/- The engine, the plain laws and the walks of this seat, part 5: what the functions answer. Conditions: as each says; printed by programs of this session. -/
import Derived.Stop.Asserts
import Derived.Laws.Externs
import Derived.Test.YtanhhihechakhaaDoorProg
import Derived.Test.YtanhhihechakhaaDoorMd
set_option linter.unusedVariables false
set_option linter.unusedSimpArgs false
namespace Go.Proofs.YtanhhihechakhaaDoor
open Go.RowKit Go.Proofs.YtanhhihechakhaaDoor.E Go.Proofs.YtanhhihechakhaaDoor.ReplP Go.Proofs.YtanhhihechakhaaDoor.TokP Go.Proofs.YtanhhihechakhaaDoor.TermP Go.Proofs.YtanhhihechakhaaDoor.WrP Go.Proofs.YtanhhihechakhaaDoor.ReadP Go.Proofs.YtanhhihechakhaaDoor.OpsP
theorem loop_end {L : List RT} {lv : Int} {tm : Rd} {most pri : Int} {n : Nat} {x : Tm} {st : RSt} (hp : goesR L most pri st = false) : loopR L lv tm most n x pri st = .ok (x, pri) st := by
 cases n with
 | zero => rfl
 | succ m =>
  unfold loopR
  rw [if_neg (by rw [hp]; decide)]
theorem loop_bad {L : List RT} {lv : Int} {tm : Rd} {most pri : Int} {n : Nat} {x : Tm} {st : RSt} {a : Nat} {e : Int} (hp : goesR L most pri st = true) (hk : tm (refInfix (tokA L st.at_).str.data.toList).2.2.1 (adv st) = .bad a e) (hn : 1 ≤ n) : loopR L lv tm most n x pri st = .bad a e := by
 obtain ⟨m, rfl⟩ : ∃ m, n = m + 1 := ⟨n - 1, by omega⟩
 unfold loopR
 rw [if_pos hp, hk]
theorem loop_bad2 {L : List RT} {lv : Int} {tm : Rd} {most pri : Int} {n : Nat} {x : Tm} {y : Tm × Int} {st s2 : RSt} {a : Nat} {e : Int} (hp : goesR L most pri st = true) (hk : tm (refInfix (tokA L st.at_).str.data.toList).2.2.1 (adv st) = .ok y s2) (hm : mkR lv (tokA L st.at_).str [x, y.1] s2 = .bad a e) (hn : 1 ≤ n) : loopR L lv tm most n x pri st = .bad a e := by
 obtain ⟨m, rfl⟩ : ∃ m, n = m + 1 := ⟨n - 1, by omega⟩
 unfold loopR
 rw [if_pos hp, hk]
 simp only
 rw [hm]
theorem loop_step {L : List RT} {lv : Int} {tm : Rd} {most pri : Int} {n : Nat} {x z : Tm} {y : Tm × Int} {st s2 s3 : RSt} (hp : goesR L most pri st = true) (hk : tm (refInfix (tokA L st.at_).str.data.toList).2.2.1 (adv st) = .ok y s2) (hm : mkR lv (tokA L st.at_).str [x, y.1] s2 = .ok z s3) (hn : 1 ≤ n) : loopR L lv tm most n x pri st = loopR L lv tm most (n - 1) z (refInfix (tokA L st.at_).str.data.toList).2.1 s3 := by
 obtain ⟨m, rfl⟩ : ∃ m, n = m + 1 := ⟨n - 1, by omega⟩
 conv => lhs; unfold loopR
 rw [if_pos hp, hk]
 simp only
 rw [hm]
 rfl
structure TZ where
 g : GT
 pri : Int
 st : RSt
 o : Obj
 vn : Value
 hh : Hp
 n : Nat
theorem tk_bad {L : List RT} {lv : Int} {k : Nat} {inn most : Int} {st : RSt} {a : Nat} {e : Int} (hk : inn + k = 60 ∨ k = 0 ∧ 60 ≤ inn) (hb : (if inn + 1 > 60 then RO.bad st.at_ 7 else RO.ok () st : RO Unit) = .bad a e) : readT L lv k most st = .bad a e := by
 have h1 : inn + 1 > 60 := by
  by_cases h : inn + 1 > 60
  · exact h
  · rw [if_neg h] at hb; cases hb
 rw [if_pos h1] at hb
 cases hb
 obtain rfl : k = 0 := by omega
 rw [readT]
theorem tk_low {st : RSt} {inn : Int} {s : RSt} (hb : (if inn + 1 > 60 then RO.bad st.at_ 7 else RO.ok () st : RO Unit) = .ok () s) : ¬ inn + 1 > 60 := fun h => by
 rw [if_pos h] at hb; cases hb
theorem tk_bad2 {L : List RT} {lv : Int} {k : Nat} {inn most : Int} {st : RSt} {a : Nat} {e : Int} (hk : inn + k = 60 ∨ k = 0 ∧ 60 ≤ inn) (h1 : ¬ inn + 1 > 60) (hb : (if inn + 1 + 1 > 60 then .bad st.at_ 7 else firstR L lv (readT L lv (k - 2)) most st) = .bad a e) : readT L lv k most st = .bad a e := by
 by_cases h2 : inn + 1 + 1 > 60
 · rw [if_pos h2] at hb
   cases hb
   obtain rfl : k = 1 := by omega
   rw [readT]
 · rw [if_neg h2] at hb
   obtain ⟨k, rfl⟩ : ∃ m, k = m + 2 := ⟨k - 2, by omega⟩
   have e : k + 2 - 2 = k := by omega
   rw [e] at hb
   simp only [readT]
   rw [hb]
theorem tk_ok {L : List RT} {lv : Int} {k : Nat} {inn most : Int} {st s : RSt} {x : Tm × Int} (hk : inn + k = 60 ∨ k = 0 ∧ 60 ≤ inn) (h1 : ¬ inn + 1 > 60) (hb : (if inn + 1 + 1 > 60 then .bad st.at_ 7 else firstR L lv (readT L lv (k - 2)) most st) = .ok x s) : loopR L lv (readT L lv (k - 1)) most (L.length + 1) x.1 x.2 s = readT L lv k most st ∧ 2 ≤ k ∧ firstR L lv (readT L lv (k - 2)) most st = .ok x s := by
 by_cases h2 : inn + 1 + 1 > 60
 · rw [if_pos h2] at hb
   cases hb
 · rw [if_neg h2] at hb
   refine ⟨?_, by omega, hb⟩
   obtain ⟨k, rfl⟩ : ∃ m, k = m + 2 := ⟨k - 2, by omega⟩
   have e : k + 2 - 2 = k := by omega
   have e2 : k + 2 - 1 = k + 1 := by omega
   rw [e] at hb
   rw [e2]
   simp only [readT]
   rw [hb]
theorem duoW {h : Hp} {a b : GT} {n : Nat} (ha : Lies h a ∧ Fits a) (hb : Lies h b ∧ Fits b) (hwa : wtT a.tm ≤ n) (hwb : wtT b.tm ≤ n) : ∀ t ∈ [a, b], (Lies h t ∧ Fits t) ∧ wtG t ≤ n := fun t ht => by
 rcases List.mem_cons.1 ht with rfl | ht
 · exact ⟨ha, by rw [wtG_tm]; exact hwa⟩
 · rw [List.mem_singleton.1 ht]
   exact ⟨hb, by rw [wtG_tm]; exact hwb⟩
set_option maxRecDepth 100000 in
theorem term_s (r bm : Nat) (A : Option Addr) (c : Nat) (L : List RT) (lv : Int) (h : Hp) (st : RSt) (inn : Int) (o : Obj) (vn : Value) (k : Nat) (hk : inn + k = 60 ∨ k = 0 ∧ 60 ≤ inn) (hi0 : 0 ≤ inn) (hi1 : inn ≤ 999000) (ihs : ∀ (k2 : Nat), k2 < k → ∀ (inn2 : Int), (inn2 + k2 = 60 ∨ k2 = 0 ∧ 60 ≤ inn2) → 0 ≤ inn2 → inn2 ≤ 999000 → TmC r bm A c L lv inn2 (readT L lv k2)) (most : Int) (hqN : ∀ x ∈ L, TokOk x) (hPW : ∀ i, preW L i ≤ 549755813888) (hT : RowsAt h A 5 (L.map rtC)) (hL : L.length ≤ 1048576) (hat : st.at_ ≤ L.length) (hnm : st.names.length ≤ st.at_) (hm : MapV Tryd.prog 9 3 o st.names.length (lastI st.names)) : RdC r bm A c L lv 61 [.int .i64 most] h st inn o vn (readT L lv k most st) (·.1) (fun x g => .tuple #[.agg (GT.cells g).toArray, .int .i64 x.2]) := by
 refine enterR Tryd.func61 rfl rfl rfl (fun w hb0 => ?_)
 refine cy_seq ?_
 refine cy_region ?_
 refine sy_alloc zer_30 rfl rfl (fun b4 hb4 hM4 => ?_) (by first | exact hb0 | simp)
 refine sy_assign rfl rfl rfl ?_
 refine sy_nil rfl ?_
 refine ny_next ?_
 refine cy_seq ?_
 refine cy_region ?_
 refine sy_move rfl rfl rfl ?_
 refine sy_callRO [1] call_67 rfl rfl (deeper_c r bm A c L lv _ hT hL st inn vn hat hi0 (by omega)) rfl rfl (fun a14 e14 h14x H14x hb14 hx14 hle14x => ?_) (fun x14 s14 g14 h14x H14x hk14 hx14 hle14x => ?_)
 · obtain ⟨rfl, rfl⟩ := hx14
   refine ny_thenP ?_
   exact ny_finP (fun w9 hs => ⟨.bad a14 e14, _, _, rfl, ⟨tk_bad hk hb14, _, _, _, _, _, rfl⟩, hs.sel (is := [0, 1, 1]) rfl⟩)
 · obtain ⟨rfl, rfl⟩ := hx14
   have hlow := tk_low hk14
   refine sy_nil rfl ?_
   refine ny_next ?_
   refine cy_seq ?_
   refine cy_region ?_
   refine sy_move rfl rfl rfl ?_
   refine sy_move rfl rfl rfl ?_
   refine sy_callRO [0, 1, 1] call_68 rfl rfl (first_c r bm A c L lv _ st (inn + 1) o vn most hqN _ (read_fwd L lv (k - 2)) (read_wt L lv (k - 2)) hPW (by omega) (by omega) (ihs (k - 2) (by omega) (inn + 1 + 1) (by omega) (by omega) (by omega)) hT hL hat hnm hm) rfl rfl (fun a18 e18 h18x H18x hb18 hx18 hle18x => ?_) (fun x18 s18 g18 h18x H18x hk18 hx18 hle18x => ?_)
   · obtain ⟨a9, i9, o9, v9, n9, rfl⟩ := hx18
     refine ny_thenP ?_
     exact ny_finP (fun w9 hs => ⟨.bad a18 e18, _, _, rfl, ⟨tk_bad2 hk hlow hb18, _, _, _, _, _, rfl⟩, hs.sel (is := [0, 0, 0]) rfl⟩)
   · obtain ⟨hg18, hl18, hm18, rfl⟩ := hx18
     obtain ⟨hkey, hk2, hfst⟩ := tk_ok hk hlow hk18
     have hfw := first_fwd (lv := lv) (read_fwd L lv (k - 2)) most st x18 s18 hat hfst
     have hww := first_wt (lv := lv) (read_fwd L lv (k - 2)) (read_wt L lv (k - 2)) most st x18 s18 hat hfst
     replace hg18 : g18.1.tm = x18.1 := hg18
     refine sy_move rfl rfl rfl ?_
     refine sy_extract rfl rfl rfl rfl ?_
     refine sy_extract rfl rfl rfl rfl ?_
     refine sy_alloc zer_30 rfl rfl (fun b6 hb6 hM6 => ?_) (by first | exact hb0 | simp)
     first | refine sy_stl 0 sz_30 rfl rfl rfl rfl rfl rfl rfl rfl ?_ | refine sy_stl 1 sz_30 rfl rfl rfl rfl rfl rfl rfl rfl ?_ | refine sy_stl 2 sz_30 rfl rfl rfl rfl rfl rfl rfl rfl ?_ | refine sy_stl 3 sz_30 rfl rfl rfl rfl rfl rfl rfl rfl ?_ | refine sy_stl 4 sz_30 rfl rfl rfl rfl rfl rfl rfl rfl ?_ | refine sy_stl 5 sz_30 rfl rfl rfl rfl rfl rfl rfl rfl ?_
     refine sy_assign rfl rfl rfl ?_
     refine sy_nil rfl ?_
     refine ny_next ?_
     refine cy_seq ?_
     refine cy_block ?_
     refine cy_loopK (ι := TZ) [0, 1, 4, 6] rfl (fun z => loopR L lv (readT L lv (k - 1)) most z.n z.g.tm z.pri z.st = readT L lv k most st ∧ L.length + 1 ≤ z.n + z.st.at_ ∧ z.st.at_ ≤ L.length ∧ z.st.names.length ≤ z.st.at_ ∧ MapV Tryd.prog 9 3 z.o z.st.names.length (lastI z.st.names) ∧ h18x.Le z.hh ∧ (Lies z.hh z.g ∧ Fits z.g) ∧ wtT z.g.tm ≤ preW L z.st.at_) (fun z => L.length - z.st.at_) (fun z => [(7, .int .i64 z.pri)]) (fun z => z.hh) (fun z => [.blk b6 (.cells (GT.cells z.g).toArray 30 (0, 0)), .blk b4 (.cells ([.int .i64 0, .int .i64 0, .string ⟨#[]⟩, .slice none 0 0] : List Value).toArray 30 (0, 0)), .blk r (.cells [.slice A L.length c, .int .i64 ((z.st.at_ : Nat) : Int), .int .i64 lv, .int .i64 (inn + 1), .map (some bm), z.vn].toArray 74 (0, 0)), .blk bm z.o, .row z.vn 9 1 z.st.names.length ((z.st.names.map strC).flatten)]) ⟨g18.1, x18.2, s18, g18.2.1, g18.2.2, h18x, L.length + 1⟩ [0, 3, 0, 0, 0] ⟨(by rw [← hkey, hg18]), (by show L.length + 1 ≤ L.length + 1 + s18.at_; omega), hfw.2.1, (by show s18.names.length ≤ s18.at_; omega), hm18, Hp.Le.refl _, hl18, (by show wtT g18.1.tm ≤ preW L s18.at_; rw [hg18]; omega)⟩ ⟨rfl, trivial⟩ rfl rfl ?_
     rintro ⟨g, pri, st2, o2, vn2, hz, m⟩ ⟨hro, hmn, hat2, hnm2, hm2, hlez, hlg, hwg⟩
     simp only at hro hmn hat2 hnm2 hm2 hlez hlg hwg ⊢
     have hTz : RowsAt hz A 5 (L.map rtC) := (hT.le hle18x).le hlez
     refine cy_block ?_
     refine cy_seq ?_
     refine cy_region ?_
     refine sy_move rfl rfl rfl ?_
     refine sy_callR1 [2] call_38 rfl rfl (peek_c r bm A c L lv _ hTz hL st2 (inn + 1) vn2 hat2) rfl rfl (fun x22 h22x H22x hx22 hle22x => ?_)
     obtain ⟨rfl, rfl⟩ := hx22
     refine sy_alloc zer_65 rfl rfl (fun b8 hb8 hM8 => ?_) (by first | exact hb0 | simp)
     first | refine sy_stl 0 sz_65 rfl rfl rfl rfl rfl rfl rfl rfl ?_ | refine sy_stl 1 sz_65 rfl rfl rfl rfl rfl rfl rfl rfl ?_ | refine sy_stl 2 sz_65 rfl rfl rfl rfl rfl rfl rfl rfl ?_ | refine sy_stl 3 sz_65 rfl rfl rfl rfl rfl rfl rfl rfl ?_ | refine sy_stl 4 sz_65 rfl rfl rfl rfl rfl rfl rfl rfl ?_ | refine sy_stl 5 sz_65 rfl rfl rfl rfl rfl rfl rfl rfl ?_
     refine sy_nil rfl ?_
     refine ny_next ?_
     refine cy_seq ?_
     refine cy_seq ?_
     refine cy_frz 0 rfl hM8 (fun h8 hle8 hb8x => ?_)
     replace hTz := hTz.le hle8
     replace hlg : Lies h8 g ∧ Fits g := ⟨hlg.1.le hle8, hlg.2⟩
     have hlgf := hlg
     refine cy_region ?_
     refine sy_field fld_65_0 rfl rfl rfl ?_
     refine sy_ldh one_3 rfl (Hp.blk hb8x 0 _ rfl) rfl rfl ?_
     refine sy_cmp rfl rfl rfl rfl rfl ?_
     refine sy_move rfl rfl rfl ?_
     refine sy_cond (d := 26) _ rfl rfl (fun hg26 => ?_) (fun hg26 => ?_)
     · refine sy_field fld_65_3 rfl rfl rfl ?_
       refine sy_ldh one_4 rfl (Hp.blk hb8x 3 _ rfl) rfl rfl ?_
       refine sy_not rfl rfl rfl ?_
       refine sy_pickT rfl rfl rfl rfl ?_
       refine sy_move rfl rfl rfl ?_
       refine sy_cond (d := 31) _ rfl rfl (fun hg31 => ?_) (fun hg31 => ?_)
       · refine sy_skip rfl rfl rfl ?_
         refine sy_skip rfl rfl rfl ?_
         refine sy_pickT rfl rfl rfl rfl ?_
         refine sy_not rfl rfl rfl ?_
         refine sy_nil rfl ?_
         refine ny_next ?_
         refine cy_condF rfl ?_
         have hA : ((((tokA L st2.at_).kind == 1) && !(tokA L st2.at_).quo) || isP L st2.at_ [44]) = true := by rw [hg26, hg31]; rfl
         refine cy_skip ?_
         refine ny_next ?_
         refine cy_seq ?_
         refine cy_region ?_
         refine sy_field fld_65_1 rfl rfl rfl ?_
         refine sy_ldh one_9 rfl (Hp.blk hb8x 1 _ rfl) rfl rfl ?_
         refine sy_call rfl call_70 rfl (infix_c (tokA L st2.at_).str _) rfl rfl ?_
         refine sy_move rfl rfl rfl ?_
         refine sy_extract rfl rfl rfl rfl ?_
         refine sy_extract rfl rfl rfl rfl ?_
         refine sy_extract rfl rfl rfl rfl ?_
         refine sy_extract rfl rfl rfl rfl ?_
         refine sy_assign rfl rfl rfl ?_
         refine sy_assign rfl rfl rfl ?_
         refine sy_assign rfl rfl rfl ?_
         refine sy_assign rfl rfl rfl ?_
         refine sy_nil rfl ?_
         refine ny_next ?_
         refine cy_seq ?_
         refine cy_seq ?_
         refine cy_region ?_
         refine sy_move rfl rfl rfl ?_
         refine sy_not rfl rfl rfl ?_
         refine sy_move rfl rfl rfl ?_
         refine sy_cond (d := 46) _ rfl rfl (fun hg46 => ?_) (fun hg46 => ?_)
         · refine sy_skip rfl rfl rfl ?_
           refine sy_skip rfl rfl rfl ?_
           refine sy_skip rfl rfl rfl ?_
           refine sy_pickT rfl rfl rfl rfl ?_
           refine sy_move rfl rfl rfl ?_
           refine sy_skip rfl rfl rfl ?_
           refine sy_skip rfl rfl rfl ?_
           refine sy_skip rfl rfl rfl ?_
           refine sy_pickT rfl rfl rfl rfl ?_
           refine sy_nil rfl ?_
           refine ny_next ?_
           refine cy_condT rfl ?_
           have hgo : goesR L most pri st2 = false := by
            unfold goesR
            rw [hA, Bool.true_and]
            first
            | (have h9 : (refInfix (tokA L st2.at_).str.data.toList).2.2.2 = false := by simpa using hg46
               rw [h9]; rfl)
            | (rw [decide_eq_false (p := (refInfix (tokA L st2.at_).str.data.toList).2.1 ≤ most) (by have := of_decide_eq_true hg51; omega), Bool.and_false]; rfl)
           refine cy_exit ?_
           refine ny_thenE ?_
           refine ny_blockY rfl ?_
           refine ny_thenE ?_
           refine ny_blockX ?_
           refine ny_next ?_
           refine cy_seq ?_
           refine cy_region ?_
           refine sy_move rfl rfl rfl ?_
           refine sy_nilCheck rfl rfl rfl ?_
           refine sy_field fld_74_3 rfl rfl rfl ?_
           first | refine sy_ldr 0 one_3 rfl rfl rfl rfl rfl ?_ | refine sy_ldr 1 one_3 rfl rfl rfl rfl rfl ?_ | refine sy_ldr 2 one_3 rfl rfl rfl rfl rfl ?_ | refine sy_ldr 3 one_3 rfl rfl rfl rfl rfl ?_ | refine sy_ldr 4 one_3 rfl rfl rfl rfl rfl ?_ | refine sy_ldr 5 one_3 rfl rfl rfl rfl rfl ?_
           refine sy_subi (z := inn) rfl rfl (by omega) (by omega) (by omega) rfl rfl ?_
           refine sy_nilCheck rfl rfl rfl ?_
           refine sy_field fld_74_3 rfl rfl rfl ?_
           first | refine sy_stl 0 sz_3 rfl rfl rfl rfl rfl rfl rfl rfl ?_ | refine sy_stl 1 sz_3 rfl rfl rfl rfl rfl rfl rfl rfl ?_ | refine sy_stl 2 sz_3 rfl rfl rfl rfl rfl rfl rfl rfl ?_ | refine sy_stl 3 sz_3 rfl rfl rfl rfl rfl rfl rfl rfl ?_ | refine sy_stl 4 sz_3 rfl rfl rfl rfl rfl rfl rfl rfl ?_ | refine sy_stl 5 sz_3 rfl rfl rfl rfl rfl rfl rfl rfl ?_
           refine sy_nil rfl ?_
           refine ny_next ?_
           refine cy_seq ?_
           refine cy_region ?_
           first | refine sy_ldar 0 agg_30 rfl rfl rfl rfl rfl ?_ | refine sy_ldar 1 agg_30 rfl rfl rfl rfl rfl ?_ | refine sy_ldar 2 agg_30 rfl rfl rfl rfl rfl ?_ | refine sy_ldar 3 agg_30 rfl rfl rfl rfl rfl ?_ | refine sy_ldar 4 agg_30 rfl rfl rfl rfl rfl ?_ | refine sy_ldar 5 agg_30 rfl rfl rfl rfl rfl ?_
           refine sy_move rfl rfl rfl ?_
           first | refine sy_stl 0 sz_30 rfl rfl rfl rfl rfl rfl rfl rfl ?_ | refine sy_stl 1 sz_30 rfl rfl rfl rfl rfl rfl rfl rfl ?_ | refine sy_stl 2 sz_30 rfl rfl rfl rfl rfl rfl rfl rfl ?_ | refine sy_stl 3 sz_30 rfl rfl rfl rfl rfl rfl rfl rfl ?_ | refine sy_stl 4 sz_30 rfl rfl rfl rfl rfl rfl rfl rfl ?_ | refine sy_stl 5 sz_30 rfl rfl rfl rfl rfl rfl rfl rfl ?_
           refine sy_assign rfl rfl rfl ?_
           refine sy_nil rfl ?_
           refine ny_next ?_
           refine cy_ret ?_
           exact ny_finR (resc1 0 rfl agg_30 rfl rfl rfl rfl) (fun w9 hs => ⟨.ok (g.tm, pri) st2 (g, o2, vn2), _, _, rfl, ⟨hro.symm.trans (loop_end hgo), rfl, hlgf, hm2, rfl⟩, hs.sel (is := [1, 2, 2]) rfl⟩)
         · refine sy_move rfl rfl rfl ?_
           refine sy_move rfl rfl rfl ?_
           refine sy_cmp rfl rfl rfl rfl rfl ?_
           refine sy_pickF rfl rfl rfl rfl ?_
           refine sy_move rfl rfl rfl ?_
           refine sy_cond (d := 51) _ rfl rfl (fun hg51 => ?_) (fun hg51 => ?_)
           · refine sy_skip rfl rfl rfl ?_
             refine sy_skip rfl rfl rfl ?_
             refine sy_skip rfl rfl rfl ?_
             refine sy_pickT rfl rfl rfl rfl ?_
             refine sy_nil rfl ?_
             refine ny_next ?_
             refine cy_condT rfl ?_
             have hgo : goesR L most pri st2 = false := by
              unfold goesR
              rw [hA, Bool.true_and]
              first
              | (have h9 : (refInfix (tokA L st2.at_).str.data.toList).2.2.2 = false := by simpa using hg46
                 rw [h9]; rfl)
              | (rw [decide_eq_false (p := (refInfix (tokA L st2.at_).str.data.toList).2.1 ≤ most) (by have := of_decide_eq_true hg51; omega), Bool.and_false]; rfl)
             refine cy_exit ?_
             refine ny_thenE ?_
             refine ny_blockY rfl ?_
             refine ny_thenE ?_
             refine ny_blockX ?_
             refine ny_next ?_
             refine cy_seq ?_
             refine cy_region ?_
             refine sy_move rfl rfl rfl ?_
             refine sy_nilCheck rfl rfl rfl ?_
             refine sy_field fld_74_3 rfl rfl rfl ?_
             first | refine sy_ldr 0 one_3 rfl rfl rfl rfl rfl ?_ | refine sy_ldr 1 one_3 rfl rfl rfl rfl rfl ?_ | refine sy_ldr 2 one_3 rfl rfl rfl rfl rfl ?_ | refine sy_ldr 3 one_3 rfl rfl rfl rfl rfl ?_ | refine sy_ldr 4 one_3 rfl rfl rfl rfl rfl ?_ | refine sy_ldr 5 one_3 rfl rfl rfl rfl rfl ?_
             refine sy_subi (z := inn) rfl rfl (by omega) (by omega) (by omega) rfl rfl ?_
             refine sy_nilCheck rfl rfl rfl ?_
             refine sy_field fld_74_3 rfl rfl rfl ?_
             first | refine sy_stl 0 sz_3 rfl rfl rfl rfl rfl rfl rfl rfl ?_ | refine sy_stl 1 sz_3 rfl rfl rfl rfl rfl rfl rfl rfl ?_ | refine sy_stl 2 sz_3 rfl rfl rfl rfl rfl rfl rfl rfl ?_ | refine sy_stl 3 sz_3 rfl rfl rfl rfl rfl rfl rfl rfl ?_ | refine sy_stl 4 sz_3 rfl rfl rfl rfl rfl rfl rfl rfl ?_ | refine sy_stl 5 sz_3 rfl rfl rfl rfl rfl rfl rfl rfl ?_
             refine sy_nil rfl ?_
             refine ny_next ?_
             refine cy_seq ?_
             refine cy_region ?_
             first | refine sy_ldar 0 agg_30 rfl rfl rfl rfl rfl ?_ | refine sy_ldar 1 agg_30 rfl rfl rfl rfl rfl ?_ | refine sy_ldar 2 agg_30 rfl rfl rfl rfl rfl ?_ | refine sy_ldar 3 agg_30 rfl rfl rfl rfl rfl ?_ | refine sy_ldar 4 agg_30 rfl rfl rfl rfl rfl ?_ | refine sy_ldar 5 agg_30 rfl rfl rfl rfl rfl ?_
             refine sy_move rfl rfl rfl ?_
             first | refine sy_stl 0 sz_30 rfl rfl rfl rfl rfl rfl rfl rfl ?_ | refine sy_stl 1 sz_30 rfl rfl rfl rfl rfl rfl rfl rfl ?_ | refine sy_stl 2 sz_30 rfl rfl rfl rfl rfl rfl rfl rfl ?_ | refine sy_stl 3 sz_30 rfl rfl rfl rfl rfl rfl rfl rfl ?_ | refine sy_stl 4 sz_30 rfl rfl rfl rfl rfl rfl rfl rfl ?_ | refine sy_stl 5 sz_30 rfl rfl rfl rfl rfl rfl rfl rfl ?_
             refine sy_assign rfl rfl rfl ?_
             refine sy_nil rfl ?_
             refine ny_next ?_
             refine cy_ret ?_
             exact ny_finR (resc1 0 rfl agg_30 rfl rfl rfl rfl) (fun w9 hs => ⟨.ok (g.tm, pri) st2 (g, o2, vn2), _, _, rfl, ⟨hro.symm.trans (loop_end hgo), rfl, hlgf, hm2, rfl⟩, hs.sel (is := [1, 2, 2]) rfl⟩)
           · refine sy_move rfl rfl rfl ?_
             refine sy_move rfl rfl rfl ?_
             refine sy_cmp rfl rfl rfl rfl rfl ?_
             refine sy_pickF rfl rfl rfl rfl ?_
             refine sy_nil rfl ?_
             refine ny_next ?_
             refine cy_cond rfl (fun hc55 => ?_) (fun hc55 => ?_)
             · have hgo : goesR L most pri st2 = false := by
                unfold goesR
                rw [hA, Bool.true_and, decide_eq_false (p := pri ≤ (refInfix (tokA L st2.at_).str.data.toList).1) (by have := of_decide_eq_true hc55; omega), Bool.and_false]
               refine cy_exit ?_
               refine ny_thenE ?_
               refine ny_blockY rfl ?_
               refine ny_thenE ?_
               refine ny_blockX ?_
               refine ny_next ?_
               refine cy_seq ?_
               refine cy_region ?_
               refine sy_move rfl rfl rfl ?_
               refine sy_nilCheck rfl rfl rfl ?_
               refine sy_field fld_74_3 rfl rfl rfl ?_
               first | refine sy_ldr 0 one_3 rfl rfl rfl rfl rfl ?_ | refine sy_ldr 1 one_3 rfl rfl rfl rfl rfl ?_ | refine sy_ldr 2 one_3 rfl rfl rfl rfl rfl ?_ | refine sy_ldr 3 one_3 rfl rfl rfl rfl rfl ?_ | refine sy_ldr 4 one_3 rfl rfl rfl rfl rfl ?_ | refine sy_ldr 5 one_3 rfl rfl rfl rfl rfl ?_
               refine sy_subi (z := inn) rfl rfl (by omega) (by omega) (by omega) rfl rfl ?_
               refine sy_nilCheck rfl rfl rfl ?_
               refine sy_field fld_74_3 rfl rfl rfl ?_
               first | refine sy_stl 0 sz_3 rfl rfl rfl rfl rfl rfl rfl rfl ?_ | refine sy_stl 1 sz_3 rfl rfl rfl rfl rfl rfl rfl rfl ?_ | refine sy_stl 2 sz_3 rfl rfl rfl rfl rfl rfl rfl rfl ?_ | refine sy_stl 3 sz_3 rfl rfl rfl rfl rfl rfl rfl rfl ?_ | refine sy_stl 4 sz_3 rfl rfl rfl rfl rfl rfl rfl rfl ?_ | refine sy_stl 5 sz_3 rfl rfl rfl rfl rfl rfl rfl rfl ?_
               refine sy_nil rfl ?_
               refine ny_next ?_
               refine cy_seq ?_
               refine cy_region ?_
               first | refine sy_ldar 0 agg_30 rfl rfl rfl rfl rfl ?_ | refine sy_ldar 1 agg_30 rfl rfl rfl rfl rfl ?_ | refine sy_ldar 2 agg_30 rfl rfl rfl rfl rfl ?_ | refine sy_ldar 3 agg_30 rfl rfl rfl rfl rfl ?_ | refine sy_ldar 4 agg_30 rfl rfl rfl rfl rfl ?_ | refine sy_ldar 5 agg_30 rfl rfl rfl rfl rfl ?_
               refine sy_move rfl rfl rfl ?_
               first | refine sy_stl 0 sz_30 rfl rfl rfl rfl rfl rfl rfl rfl ?_ | refine sy_stl 1 sz_30 rfl rfl rfl rfl rfl rfl rfl rfl ?_ | refine sy_stl 2 sz_30 rfl rfl rfl rfl rfl rfl rfl rfl ?_ | refine sy_stl 3 sz_30 rfl rfl rfl rfl rfl rfl rfl rfl ?_ | refine sy_stl 4 sz_30 rfl rfl rfl rfl rfl rfl rfl rfl ?_ | refine sy_stl 5 sz_30 rfl rfl rfl rfl rfl rfl rfl rfl ?_
               refine sy_assign rfl rfl rfl ?_
               refine sy_nil rfl ?_
               refine ny_next ?_
               refine cy_ret ?_
               exact ny_finR (resc1 0 rfl agg_30 rfl rfl rfl rfl) (fun w9 hs => ⟨.ok (g.tm, pri) st2 (g, o2, vn2), _, _, rfl, ⟨hro.symm.trans (loop_end hgo), rfl, hlgf, hm2, rfl⟩, hs.sel (is := [1, 2, 2]) rfl⟩)
             · have hgo : goesR L most pri st2 = true := by
                unfold goesR
                have h9 : (refInfix (tokA L st2.at_).str.data.toList).2.2.2 = true := by simpa using hg46
                rw [hA, Bool.true_and, h9, decide_eq_true (p := (refInfix (tokA L st2.at_).str.data.toList).2.1 ≤ most) (by have := of_decide_eq_false hg51; omega), decide_eq_true (p := pri ≤ (refInfix (tokA L st2.at_).str.data.toList).1) (by have := of_decide_eq_false hc55; omega)]
                rfl
               refine cy_skip ?_
               refine ny_next ?_
               refine cy_seq ?_
               refine cy_region ?_
               refine sy_move rfl rfl rfl ?_
               refine sy_nilCheck rfl rfl rfl ?_
               refine sy_field fld_74_1 rfl rfl rfl ?_
               first | refine sy_ldr 0 one_3 rfl rfl rfl rfl rfl ?_ | refine sy_ldr 1 one_3 rfl rfl rfl rfl rfl ?_ | refine sy_ldr 2 one_3 rfl rfl rfl rfl rfl ?_ | refine sy_ldr 3 one_3 rfl rfl rfl rfl rfl ?_ | refine sy_ldr 4 one_3 rfl rfl rfl rfl rfl ?_ | refine sy_ldr 5 one_3 rfl rfl rfl rfl rfl ?_
               refine sy_addi (z := ((st2.at_ + 1 : Nat) : Int)) rfl rfl (by omega) (by omega) (by omega) rfl rfl ?_
               have hlt := goes_lt hgo
               refine sy_nilCheck rfl rfl rfl ?_
               refine sy_field fld_74_1 rfl rfl rfl ?_
               first | refine sy_stl 0 sz_3 rfl rfl rfl rfl rfl rfl rfl rfl ?_ | refine sy_stl 1 sz_3 rfl rfl rfl rfl rfl rfl rfl rfl ?_ | refine sy_stl 2 sz_3 rfl rfl rfl rfl rfl rfl rfl rfl ?_ | refine sy_stl 3 sz_3 rfl rfl rfl rfl rfl rfl rfl rfl ?_ | refine sy_stl 4 sz_3 rfl rfl rfl rfl rfl rfl rfl rfl ?_ | refine sy_stl 5 sz_3 rfl rfl rfl rfl rfl rfl rfl rfl ?_
               refine sy_nil rfl ?_
               refine ny_next ?_
               refine cy_regionAP mixed ?_
               refine zy_qP 0 (fun c a d v w hq => by cases d <;> exact hq) rfl (by kernel_rfl) (fun hB8_0 => ?_)
               refine sy_move rfl rfl rfl ?_
               refine sy_nil1 (ny_zqP hB8_0 ?_)
               refine zy_qP 1 (fun c a d v w hq => by cases d <;> exact hq) rfl (by kernel_rfl) (fun hB8_1 => ?_)
               refine sy_field fld_65_1 rfl rfl rfl ?_
               refine sy_nil1 (ny_zqP hB8_1 ?_)
               refine zy_qP 2 (fun c a d v w hq => by cases d <;> exact hq) rfl (by kernel_rfl) (fun hB8_2 => ?_)
               refine sy_ldh one_9 rfl (Hp.blk hb8x 1 _ rfl) rfl rfl ?_
               refine sy_nil1 (ny_zqP hB8_2 ?_)
               refine zy_qP 4 (fun c a d v w hq => by cases d <;> exact hq) rfl (by kernel_rfl) (fun hB8_4 => ?_)
               refine sy_move rfl rfl rfl ?_
               refine sy_nil1 (ny_zqP hB8_4 ?_)
               refine zy_qP 5 (fun c a d v w hq => by cases d <;> exact hq) rfl (by kernel_rfl) (fun hB8_5 => ?_)
               refine sy_move rfl rfl rfl ?_
               refine sy_nil1 (ny_zqP hB8_5 ?_)
               refine zy_qP 9 (fun c a d v w hq => by cases d <;> exact hq) rfl (by kernel_rfl) (fun hB8_9 => ?_)
               refine sy_move rfl rfl rfl ?_
               refine sy_nil1 (ny_zqP hB8_9 ?_)
               refine zy_2P 3 6 (by kernel_rfl) ?_ ?_
               · refine zop_runP rfl rfl (fun hB8_3 => ?_)
                 first | refine sy_ldar 0 agg_30 rfl rfl rfl rfl rfl ?_ | refine sy_ldar 1 agg_30 rfl rfl rfl rfl rfl ?_ | refine sy_ldar 2 agg_30 rfl rfl rfl rfl rfl ?_ | refine sy_ldar 3 agg_30 rfl rfl rfl rfl rfl ?_ | refine sy_ldar 4 agg_30 rfl rfl rfl rfl rfl ?_ | refine sy_ldar 5 agg_30 rfl rfl rfl rfl rfl ?_
                 refine sy_nil rfl (ny_zyP hB8_3 (Hp.Le.refl _) ?_)
                 refine zy_1P 6 (by kernel_rfl) ?_
                 refine zop_runP rfl rfl (fun hB8_6 => ?_)
                 refine sy_callRO [0, 2, 2] call_37 rfl rfl (ihs (k - 1) (by omega) (inn + 1) (by omega) (by omega) (by omega) _ (adv st2) o2 vn2 _ hTz (by show st2.at_ + 1 ≤ _; omega) (by show st2.names.length ≤ st2.at_ + 1; omega) hm2) rfl rfl (fun a69 e69 h69x H69x hb69 hx69 hle69x => ?_) (fun x69 s69 g69 h69x H69x hk69 hx69 hle69x => ?_)
                 · obtain ⟨a9, i9, o9, v9, n9, rfl⟩ := hx69
                   refine ny_zyPP ?_
                   refine ny_blockP ?_
                   refine ny_thenP ?_
                   refine ny_blockP ?_
                   refine ny_thenP ?_
                   first
                   | exact ny_finP (fun w9 hs => ⟨.bad a69 e69, _, _, rfl, ⟨hro.symm.trans (loop_bad hgo hb69 (by omega)), _, _, _, _, _, rfl⟩, hs.sel (is := [0, 0, 0]) rfl⟩)
                   | exact ny_finP (fun w9 hs => ⟨.bad a71 e71, _, _, rfl, ⟨hro.symm.trans (loop_bad2 hgo hk69 (by rw [← hg69]; exact hb71) (by omega)), _, _, _, _, _, rfl⟩, hs.sel (is := [0, 0, 0]) rfl⟩)
                 · obtain ⟨hg69, hl69, hm69, rfl⟩ := hx69
                   replace hg69 : g69.1.tm = x69.1 := hg69
                   have hfw69 := read_fwd L lv (k - 1) _ (adv st2) x69 s69 (by show st2.at_ + 1 ≤ _; omega) hk69
                   have hww69 := read_wt L lv (k - 1) _ (adv st2) x69 s69 (by show st2.at_ + 1 ≤ _; omega) hk69
                   simp only [adv] at hfw69 hww69
                   rw [preW_succ hlt] at hww69
                   have hpw69 := hPW s69.at_
                   refine sy_nil rfl (ny_zyP hB8_6 hle69x ?_)
                   refine zy_1P 7 (by kernel_rfl) ?_
                   refine zop_runP rfl rfl (fun hB8_7 => ?_)
                   refine sy_buildSlice (cs := [g, g69.1].flatMap GT.cells) rfl (fun w => bsl_23_2_0x1 w) rfl rfl (fun b70 hb70 hM70 => ?_) (by first | exact hb0 | simp)
                   refine sy_frz 0 rfl hM70 (fun h70 hle70 hb70x => ?_)
                   have hr70 : RowsAt h70 (some ⟨b70, 0, none⟩) 4 ([g, g69.1].map GT.cells) := rows_blk (by decide) (GT.cells_len _) hb70x
                   refine sy_nil rfl (ny_zyP hB8_7 hle70 ?_)
                   refine zy_1P 8 (by kernel_rfl) ?_
                   refine zop_runP rfl rfl (fun hB8_8 => ?_)
                   refine sy_callRO [0] call_71 rfl rfl (mk_c (tokA L st2.at_).str (tokA_ok hqN st2.at_).2.1 [g, g69.1] (some ⟨b70, 0, none⟩) 2 r bm A c L lv _ ((hTz.le hle69x).le hle70) hL s69 (inn + 1) g69.2.2 hfw69.2.1 rfl hr70 (duoW (h := h70) ⟨(hlg.1.le hle69x).le hle70, hlg.2⟩ ⟨hl69.1.le hle70, hl69.2⟩ (by omega) (by rw [hg69]; omega)) (by simp) (by simp)) rfl rfl (fun a71 e71 h71x H71x hb71 hx71 hle71x => ?_) (fun x71 s71 g71 h71x H71x hk71 hx71 hle71x => ?_)
                   · subst hx71
                     refine ny_zyPP ?_
                     refine ny_blockP ?_
                     refine ny_thenP ?_
                     refine ny_blockP ?_
                     refine ny_thenP ?_
                     first
                     | exact ny_finP (fun w9 hs => ⟨.bad a69 e69, _, _, rfl, ⟨hro.symm.trans (loop_bad hgo hb69 (by omega)), _, _, _, _, _, rfl⟩, hs.sel (is := [0, 0, 0]) rfl⟩)
                     | exact ny_finP (fun w9 hs => ⟨.bad a71 e71, _, _, rfl, ⟨hro.symm.trans (loop_bad2 hgo hk69 (by rw [← hg69]; exact hb71) (by omega)), _, _, _, _, _, rfl⟩, hs.sel (is := [0, 0, 0]) rfl⟩)
                   · obtain ⟨hg71, hl71, rfl⟩ := hx71
                     have hst71 := (mkR_st hk71).symm
                     subst hst71
                     have hmw71 := mkR_wt hk71
                     rw [List.map_cons, List.map_cons, List.map_nil, wtTs_cons, wtTs_cons, wtTs_nil, hg69] at hmw71
                     refine sy_nil rfl (ny_zyP hB8_8 hle71x ?_)
                     refine zy_1P 10 (by kernel_rfl) ?_
                     refine zop_runP rfl rfl (fun hB8_10 => ?_)
                     first | refine sy_stl 0 sz_30 rfl rfl rfl rfl rfl rfl rfl rfl ?_ | refine sy_stl 1 sz_30 rfl rfl rfl rfl rfl rfl rfl rfl ?_ | refine sy_stl 2 sz_30 rfl rfl rfl rfl rfl rfl rfl rfl ?_ | refine sy_stl 3 sz_30 rfl rfl rfl rfl rfl rfl rfl rfl ?_ | refine sy_stl 4 sz_30 rfl rfl rfl rfl rfl rfl rfl rfl ?_ | refine sy_stl 5 sz_30 rfl rfl rfl rfl rfl rfl rfl rfl ?_
                     refine sy_nil rfl (ny_zyP hB8_10 (Hp.Le.refl _) ?_)
                     refine zy_qP 11 (fun c a d v w hq => by cases d <;> exact hq) rfl (by kernel_rfl) (fun hB8_11 => ?_)
                     refine sy_assign rfl rfl rfl ?_
                     refine sy_nil1 (ny_zqP hB8_11 ?_)
                     refine zy_doneP (by kernel_rfl) ?_
                     refine ny_blockN ?_
                     refine ny_roundK [0, 1, 4, 6] ⟨g71, (refInfix (tokA L st2.at_).str.data.toList).2.1, s69, g69.2.1, g69.2.2, h71x, m - 1⟩ [0, 3, 0, 0, 0] ⟨(by rw [hg71, ← loop_step hgo hk69 (by rw [← hg69]; exact hk71) (by omega)]; exact hro), (by show L.length + 1 ≤ m - 1 + s69.at_; omega), hfw69.2.1, (by show s69.names.length ≤ s69.at_; omega), hm69, (((hlez.trans hle8).trans hle69x).trans hle70).trans hle71x, hl71, (by show wtT g71.tm ≤ preW L s69.at_; rw [hg71]; omega)⟩ (by show L.length - s69.at_ < L.length - st2.at_; omega) rfl ⟨rfl, trivial⟩ rfl rfl
               · refine zop_runP rfl rfl (fun hB8_6 => ?_)
                 refine sy_callRO [0, 2, 2] call_37 rfl rfl (ihs (k - 1) (by omega) (inn + 1) (by omega) (by omega) (by omega) _ (adv st2) o2 vn2 _ hTz (by show st2.at_ + 1 ≤ _; omega) (by show st2.names.length ≤ st2.at_ + 1; omega) hm2) rfl rfl (fun a69 e69 h69x H69x hb69 hx69 hle69x => ?_) (fun x69 s69 g69 h69x H69x hk69 hx69 hle69x => ?_)
                 · obtain ⟨a9, i9, o9, v9, n9, rfl⟩ := hx69
                   refine ny_zyPP ?_
                   refine ny_blockP ?_
                   refine ny_thenP ?_
                   refine ny_blockP ?_
                   refine ny_thenP ?_
                   first
                   | exact ny_finP (fun w9 hs => ⟨.bad a69 e69, _, _, rfl, ⟨hro.symm.trans (loop_bad hgo hb69 (by omega)), _, _, _, _, _, rfl⟩, hs.sel (is := [0, 0, 0]) rfl⟩)
                   | exact ny_finP (fun w9 hs => ⟨.bad a71 e71, _, _, rfl, ⟨hro.symm.trans (loop_bad2 hgo hk69 (by rw [← hg69]; exact hb71) (by omega)), _, _, _, _, _, rfl⟩, hs.sel (is := [0, 0, 0]) rfl⟩)
                 · obtain ⟨hg69, hl69, hm69, rfl⟩ := hx69
                   replace hg69 : g69.1.tm = x69.1 := hg69
                   have hfw69 := read_fwd L lv (k - 1) _ (adv st2) x69 s69 (by show st2.at_ + 1 ≤ _; omega) hk69
                   have hww69 := read_wt L lv (k - 1) _ (adv st2) x69 s69 (by show st2.at_ + 1 ≤ _; omega) hk69
                   simp only [adv] at hfw69 hww69
                   rw [preW_succ hlt] at hww69
                   have hpw69 := hPW s69.at_
                   refine sy_nil rfl (ny_zyP hB8_6 hle69x ?_)
                   refine zy_1P 3 (by kernel_rfl) ?_
                   refine zop_runP rfl rfl (fun hB8_3 => ?_)
                   first | refine sy_ldar 0 agg_30 rfl rfl rfl rfl rfl ?_ | refine sy_ldar 1 agg_30 rfl rfl rfl rfl rfl ?_ | refine sy_ldar 2 agg_30 rfl rfl rfl rfl rfl ?_ | refine sy_ldar 3 agg_30 rfl rfl rfl rfl rfl ?_ | refine sy_ldar 4 agg_30 rfl rfl rfl rfl rfl ?_ | refine sy_ldar 5 agg_30 rfl rfl rfl rfl rfl ?_
                   refine sy_nil rfl (ny_zyP hB8_3 (Hp.Le.refl _) ?_)
                   refine zy_1P 7 (by kernel_rfl) ?_
                   refine zop_runP rfl rfl (fun hB8_7 => ?_)
                   refine sy_buildSlice (cs := [g, g69.1].flatMap GT.cells) rfl (fun w => bsl_23_2_0x1 w) rfl rfl (fun b70 hb70 hM70 => ?_) (by first | exact hb0 | simp)
                   refine sy_frz 0 rfl hM70 (fun h70 hle70 hb70x => ?_)
                   have hr70 : RowsAt h70 (some ⟨b70, 0, none⟩) 4 ([g, g69.1].map GT.cells) := rows_blk (by decide) (GT.cells_len _) hb70x
                   refine sy_nil rfl (ny_zyP hB8_7 hle70 ?_)
                   refine zy_1P 8 (by kernel_rfl) ?_
                   refine zop_runP rfl rfl (fun hB8_8 => ?_)
                   refine sy_callRO [0] call_71 rfl rfl (mk_c (tokA L st2.at_).str (tokA_ok hqN st2.at_).2.1 [g, g69.1] (some ⟨b70, 0, none⟩) 2 r bm A c L lv _ ((hTz.le hle69x).le hle70) hL s69 (inn + 1) g69.2.2 hfw69.2.1 rfl hr70 (duoW (h := h70) ⟨(hlg.1.le hle69x).le hle70, hlg.2⟩ ⟨hl69.1.le hle70, hl69.2⟩ (by omega) (by rw [hg69]; omega)) (by simp) (by simp)) rfl rfl (fun a71 e71 h71x H71x hb71 hx71 hle71x => ?_) (fun x71 s71 g71 h71x H71x hk71 hx71 hle71x => ?_)
                   · subst hx71
                     refine ny_zyPP ?_
                     refine ny_blockP ?_
                     refine ny_thenP ?_
                     refine ny_blockP ?_
                     refine ny_thenP ?_
                     first
                     | exact ny_finP (fun w9 hs => ⟨.bad a69 e69, _, _, rfl, ⟨hro.symm.trans (loop_bad hgo hb69 (by omega)), _, _, _, _, _, rfl⟩, hs.sel (is := [0, 0, 0]) rfl⟩)
                     | exact ny_finP (fun w9 hs => ⟨.bad a71 e71, _, _, rfl, ⟨hro.symm.trans (loop_bad2 hgo hk69 (by rw [← hg69]; exact hb71) (by omega)), _, _, _, _, _, rfl⟩, hs.sel (is := [0, 0, 0]) rfl⟩)
                   · obtain ⟨hg71, hl71, rfl⟩ := hx71
                     have hst71 := (mkR_st hk71).symm
                     subst hst71
                     have hmw71 := mkR_wt hk71
                     rw [List.map_cons, List.map_cons, List.map_nil, wtTs_cons, wtTs_cons, wtTs_nil, hg69] at hmw71
                     refine sy_nil rfl (ny_zyP hB8_8 hle71x ?_)
                     refine zy_1P 10 (by kernel_rfl) ?_
                     refine zop_runP rfl rfl (fun hB8_10 => ?_)
                     first | refine sy_stl 0 sz_30 rfl rfl rfl rfl rfl rfl rfl rfl ?_ | refine sy_stl 1 sz_30 rfl rfl rfl rfl rfl rfl rfl rfl ?_ | refine sy_stl 2 sz_30 rfl rfl rfl rfl rfl rfl rfl rfl ?_ | refine sy_stl 3 sz_30 rfl rfl rfl rfl rfl rfl rfl rfl ?_ | refine sy_stl 4 sz_30 rfl rfl rfl rfl rfl rfl rfl rfl ?_ | refine sy_stl 5 sz_30 rfl rfl rfl rfl rfl rfl rfl rfl ?_
                     refine sy_nil rfl (ny_zyP hB8_10 (Hp.Le.refl _) ?_)
                     refine zy_qP 11 (fun c a d v w hq => by cases d <;> exact hq) rfl (by kernel_rfl) (fun hB8_11 => ?_)
                     refine sy_assign rfl rfl rfl ?_
                     refine sy_nil1 (ny_zqP hB8_11 ?_)
                     refine zy_doneP (by kernel_rfl) ?_
                     refine ny_blockN ?_
                     refine ny_roundK [0, 1, 4, 6] ⟨g71, (refInfix (tokA L st2.at_).str.data.toList).2.1, s69, g69.2.1, g69.2.2, h71x, m - 1⟩ [0, 3, 0, 0, 0] ⟨(by rw [hg71, ← loop_step hgo hk69 (by rw [← hg69]; exact hk71) (by omega)]; exact hro), (by show L.length + 1 ≤ m - 1 + s69.at_; omega), hfw69.2.1, (by show s69.names.length ≤ s69.at_; omega), hm69, (((hlez.trans hle8).trans hle69x).trans hle70).trans hle71x, hl71, (by show wtT g71.tm ≤ preW L s69.at_; rw [hg71]; omega)⟩ (by show L.length - s69.at_ < L.length - st2.at_; omega) rfl ⟨rfl, trivial⟩ rfl rfl
       · refine sy_move rfl rfl rfl ?_
         refine sy_callR1 [0] call_69 rfl rfl (is_c ⟨#[44]⟩ r bm A c L lv _ hTz hL st2 (inn + 1) vn2 hat2) rfl rfl (fun x33 h33x H33x hx33 hle33x => ?_)
         obtain ⟨rfl, rfl⟩ := hx33
         refine sy_pickF rfl rfl rfl rfl ?_
         refine sy_not rfl rfl rfl ?_
         refine sy_nil rfl ?_
         refine ny_next ?_
         refine cy_cond rfl (fun hc35 => ?_) (fun hc35 => ?_)
         · have hA : ((((tokA L st2.at_).kind == 1) && !(tokA L st2.at_).quo) || isP L st2.at_ [44]) = false := by
            have h9 : isP L st2.at_ [44] = false := by simpa using hc35
            rw [h9, Bool.or_false]
            first | (rw [hg31, Bool.and_false]; done) | (rw [hg26]; rfl)
           have hgo : goesR L most pri st2 = false := by
            unfold goesR
            rw [hA]
            rfl
           refine cy_exit ?_
           refine ny_thenE ?_
           refine ny_blockY rfl ?_
           refine ny_thenE ?_
           refine ny_blockX ?_
           refine ny_next ?_
           refine cy_seq ?_
           refine cy_region ?_
           refine sy_move rfl rfl rfl ?_
           refine sy_nilCheck rfl rfl rfl ?_
           refine sy_field fld_74_3 rfl rfl rfl ?_
           first | refine sy_ldr 0 one_3 rfl rfl rfl rfl rfl ?_ | refine sy_ldr 1 one_3 rfl rfl rfl rfl rfl ?_ | refine sy_ldr 2 one_3 rfl rfl rfl rfl rfl ?_ | refine sy_ldr 3 one_3 rfl rfl rfl rfl rfl ?_ | refine sy_ldr 4 one_3 rfl rfl rfl rfl rfl ?_ | refine sy_ldr 5 one_3 rfl rfl rfl rfl rfl ?_
           refine sy_subi (z := inn) rfl rfl (by omega) (by omega) (by omega) rfl rfl ?_
           refine sy_nilCheck rfl rfl rfl ?_
           refine sy_field fld_74_3 rfl rfl rfl ?_
           first | refine sy_stl 0 sz_3 rfl rfl rfl rfl rfl rfl rfl rfl ?_ | refine sy_stl 1 sz_3 rfl rfl rfl rfl rfl rfl rfl rfl ?_ | refine sy_stl 2 sz_3 rfl rfl rfl rfl rfl rfl rfl rfl ?_ | refine sy_stl 3 sz_3 rfl rfl rfl rfl rfl rfl rfl rfl ?_ | refine sy_stl 4 sz_3 rfl rfl rfl rfl rfl rfl rfl rfl ?_ | refine sy_stl 5 sz_3 rfl rfl rfl rfl rfl rfl rfl rfl ?_
           refine sy_nil rfl ?_
           refine ny_next ?_
           refine cy_seq ?_
           refine cy_region ?_
           first | refine sy_ldar 0 agg_30 rfl rfl rfl rfl rfl ?_ | refine sy_ldar 1 agg_30 rfl rfl rfl rfl rfl ?_ | refine sy_ldar 2 agg_30 rfl rfl rfl rfl rfl ?_ | refine sy_ldar 3 agg_30 rfl rfl rfl rfl rfl ?_ | refine sy_ldar 4 agg_30 rfl rfl rfl rfl rfl ?_ | refine sy_ldar 5 agg_30 rfl rfl rfl rfl rfl ?_
           refine sy_move rfl rfl rfl ?_
           first | refine sy_stl 0 sz_30 rfl rfl rfl rfl rfl rfl rfl rfl ?_ | refine sy_stl 1 sz_30 rfl rfl rfl rfl rfl rfl rfl rfl ?_ | refine sy_stl 2 sz_30 rfl rfl rfl rfl rfl rfl rfl rfl ?_ | refine sy_stl 3 sz_30 rfl rfl rfl rfl rfl rfl rfl rfl ?_ | refine sy_stl 4 sz_30 rfl rfl rfl rfl rfl rfl rfl rfl ?_ | refine sy_stl 5 sz_30 rfl rfl rfl rfl rfl rfl rfl rfl ?_
           refine sy_assign rfl rfl rfl ?_
           refine sy_nil rfl ?_
           refine ny_next ?_
           refine cy_ret ?_
           exact ny_finR (resc1 0 rfl agg_30 rfl rfl rfl rfl) (fun w9 hs => ⟨.ok (g.tm, pri) st2 (g, o2, vn2), _, _, rfl, ⟨hro.symm.trans (loop_end hgo), rfl, hlgf, hm2, rfl⟩, hs.sel (is := [1, 2, 2]) rfl⟩)
         · have hA : ((((tokA L st2.at_).kind == 1) && !(tokA L st2.at_).quo) || isP L st2.at_ [44]) = true := by
            have h9 : isP L st2.at_ [44] = true := by simpa using hc35
            rw [h9, Bool.or_true]
           refine cy_skip ?_
           refine ny_next ?_
           refine cy_seq ?_
           refine cy_region ?_
           refine sy_field fld_65_1 rfl rfl rfl ?_
           refine sy_ldh one_9 rfl (Hp.blk hb8x 1 _ rfl) rfl rfl ?_
           refine sy_call rfl call_70 rfl (infix_c (tokA L st2.at_).str _) rfl rfl ?_
           refine sy_move rfl rfl rfl ?_
           refine sy_extract rfl rfl rfl rfl ?_
           refine sy_extract rfl rfl rfl rfl ?_
           refine sy_extract rfl rfl rfl rfl ?_
           refine sy_extract rfl rfl rfl rfl ?_
           refine sy_assign rfl rfl rfl ?_
           refine sy_assign rfl rfl rfl ?_
           refine sy_assign rfl rfl rfl ?_
           refine sy_assign rfl rfl rfl ?_
           refine sy_nil rfl ?_
           refine ny_next ?_
           refine cy_seq ?_
           refine cy_seq ?_
           refine cy_region ?_
           refine sy_move rfl rfl rfl ?_
           refine sy_not rfl rfl rfl ?_
           refine sy_move rfl rfl rfl ?_
           refine sy_cond (d := 46) _ rfl rfl (fun hg46 => ?_) (fun hg46 => ?_)
           · refine sy_skip rfl rfl rfl ?_
             refine sy_skip rfl rfl rfl ?_
             refine sy_skip rfl rfl rfl ?_
             refine sy_pickT rfl rfl rfl rfl ?_
             refine sy_move rfl rfl rfl ?_
             refine sy_skip rfl rfl rfl ?_
             refine sy_skip rfl rfl rfl ?_
             refine sy_skip rfl rfl rfl ?_
             refine sy_pickT rfl rfl rfl rfl ?_
             refine sy_nil rfl ?_
             refine ny_next ?_
             refine cy_condT rfl ?_
             have hgo : goesR L most pri st2 = false := by
              unfold goesR
              rw [hA, Bool.true_and]
              first
              | (have h9 : (refInfix (tokA L st2.at_).str.data.toList).2.2.2 = false := by simpa using hg46
                 rw [h9]; rfl)
              | (rw [decide_eq_false (p := (refInfix (tokA L st2.at_).str.data.toList).2.1 ≤ most) (by have := of_decide_eq_true hg51; omega), Bool.and_false]; rfl)
             refine cy_exit ?_
             refine ny_thenE ?_
             refine ny_blockY rfl ?_
             refine ny_thenE ?_
             refine ny_blockX ?_
             refine ny_next ?_
             refine cy_seq ?_
             refine cy_region ?_
             refine sy_move rfl rfl rfl ?_
             refine sy_nilCheck rfl rfl rfl ?_
             refine sy_field fld_74_3 rfl rfl rfl ?_
             first | refine sy_ldr 0 one_3 rfl rfl rfl rfl rfl ?_ | refine sy_ldr 1 one_3 rfl rfl rfl rfl rfl ?_ | refine sy_ldr 2 one_3 rfl rfl rfl rfl rfl ?_ | refine sy_ldr 3 one_3 rfl rfl rfl rfl rfl ?_ | refine sy_ldr 4 one_3 rfl rfl rfl rfl rfl ?_ | refine sy_ldr 5 one_3 rfl rfl rfl rfl rfl ?_
             refine sy_subi (z := inn) rfl rfl (by omega) (by omega) (by omega) rfl rfl ?_
             refine sy_nilCheck rfl rfl rfl ?_
             refine sy_field fld_74_3 rfl rfl rfl ?_
             first | refine sy_stl 0 sz_3 rfl rfl rfl rfl rfl rfl rfl rfl ?_ | refine sy_stl 1 sz_3 rfl rfl rfl rfl rfl rfl rfl rfl ?_ | refine sy_stl 2 sz_3 rfl rfl rfl rfl rfl rfl rfl rfl ?_ | refine sy_stl 3 sz_3 rfl rfl rfl rfl rfl rfl rfl rfl ?_ | refine sy_stl 4 sz_3 rfl rfl rfl rfl rfl rfl rfl rfl ?_ | refine sy_stl 5 sz_3 rfl rfl rfl rfl rfl rfl rfl rfl ?_
             refine sy_nil rfl ?_
             refine ny_next ?_
             refine cy_seq ?_
             refine cy_region ?_
             first | refine sy_ldar 0 agg_30 rfl rfl rfl rfl rfl ?_ | refine sy_ldar 1 agg_30 rfl rfl rfl rfl rfl ?_ | refine sy_ldar 2 agg_30 rfl rfl rfl rfl rfl ?_ | refine sy_ldar 3 agg_30 rfl rfl rfl rfl rfl ?_ | refine sy_ldar 4 agg_30 rfl rfl rfl rfl rfl ?_ | refine sy_ldar 5 agg_30 rfl rfl rfl rfl rfl ?_
             refine sy_move rfl rfl rfl ?_
             first | refine sy_stl 0 sz_30 rfl rfl rfl rfl rfl rfl rfl rfl ?_ | refine sy_stl 1 sz_30 rfl rfl rfl rfl rfl rfl rfl rfl ?_ | refine sy_stl 2 sz_30 rfl rfl rfl rfl rfl rfl rfl rfl ?_ | refine sy_stl 3 sz_30 rfl rfl rfl rfl rfl rfl rfl rfl ?_ | refine sy_stl 4 sz_30 rfl rfl rfl rfl rfl rfl rfl rfl ?_ | refine sy_stl 5 sz_30 rfl rfl rfl rfl rfl rfl rfl rfl ?_
             refine sy_assign rfl rfl rfl ?_
             refine sy_nil rfl ?_
             refine ny_next ?_
             refine cy_ret ?_
             exact ny_finR (resc1 0 rfl agg_30 rfl rfl rfl rfl) (fun w9 hs => ⟨.ok (g.tm, pri) st2 (g, o2, vn2), _, _, rfl, ⟨hro.symm.trans (loop_end hgo), rfl, hlgf, hm2, rfl⟩, hs.sel (is := [1, 2, 2]) rfl⟩)
           · refine sy_move rfl rfl rfl ?_
             refine sy_move rfl rfl rfl ?_
             refine sy_cmp rfl rfl rfl rfl rfl ?_
             refine sy_pickF rfl rfl rfl rfl ?_
             refine sy_move rfl rfl rfl ?_
             refine sy_cond (d := 51) _ rfl rfl (fun hg51 => ?_) (fun hg51 => ?_)
             · refine sy_skip rfl rfl rfl ?_
               refine sy_skip rfl rfl rfl ?_
               refine sy_skip rfl rfl rfl ?_
               refine sy_pickT rfl rfl rfl rfl ?_
               refine sy_nil rfl ?_
               refine ny_next ?_
               refine cy_condT rfl ?_
               have hgo : goesR L most pri st2 = false := by
                unfold goesR
                rw [hA, Bool.true_and]
                first
                | (have h9 : (refInfix (tokA L st2.at_).str.data.toList).2.2.2 = false := by simpa using hg46
                   rw [h9]; rfl)
                | (rw [decide_eq_false (p := (refInfix (tokA L st2.at_).str.data.toList).2.1 ≤ most) (by have := of_decide_eq_true hg51; omega), Bool.and_false]; rfl)
               refine cy_exit ?_
               refine ny_thenE ?_
               refine ny_blockY rfl ?_
               refine ny_thenE ?_
               refine ny_blockX ?_
               refine ny_next ?_
               refine cy_seq ?_
               refine cy_region ?_
               refine sy_move rfl rfl rfl ?_
               refine sy_nilCheck rfl rfl rfl ?_
               refine sy_field fld_74_3 rfl rfl rfl ?_
               first | refine sy_ldr 0 one_3 rfl rfl rfl rfl rfl ?_ | refine sy_ldr 1 one_3 rfl rfl rfl rfl rfl ?_ | refine sy_ldr 2 one_3 rfl rfl rfl rfl rfl ?_ | refine sy_ldr 3 one_3 rfl rfl rfl rfl rfl ?_ | refine sy_ldr 4 one_3 rfl rfl rfl rfl rfl ?_ | refine sy_ldr 5 one_3 rfl rfl rfl rfl rfl ?_
               refine sy_subi (z := inn) rfl rfl (by omega) (by omega) (by omega) rfl rfl ?_
               refine sy_nilCheck rfl rfl rfl ?_
               refine sy_field fld_74_3 rfl rfl rfl ?_
               first | refine sy_stl 0 sz_3 rfl rfl rfl rfl rfl rfl rfl rfl ?_ | refine sy_stl 1 sz_3 rfl rfl rfl rfl rfl rfl rfl rfl ?_ | refine sy_stl 2 sz_3 rfl rfl rfl rfl rfl rfl rfl rfl ?_ | refine sy_stl 3 sz_3 rfl rfl rfl rfl rfl rfl rfl rfl ?_ | refine sy_stl 4 sz_3 rfl rfl rfl rfl rfl rfl rfl rfl ?_ | refine sy_stl 5 sz_3 rfl rfl rfl rfl rfl rfl rfl rfl ?_
               refine sy_nil rfl ?_
               refine ny_next ?_
               refine cy_seq ?_
               refine cy_region ?_
               first | refine sy_ldar 0 agg_30 rfl rfl rfl rfl rfl ?_ | refine sy_ldar 1 agg_30 rfl rfl rfl rfl rfl ?_ | refine sy_ldar 2 agg_30 rfl rfl rfl rfl rfl ?_ | refine sy_ldar 3 agg_30 rfl rfl rfl rfl rfl ?_ | refine sy_ldar 4 agg_30 rfl rfl rfl rfl rfl ?_ | refine sy_ldar 5 agg_30 rfl rfl rfl rfl rfl ?_
               refine sy_move rfl rfl rfl ?_
               first | refine sy_stl 0 sz_30 rfl rfl rfl rfl rfl rfl rfl rfl ?_ | refine sy_stl 1 sz_30 rfl rfl rfl rfl rfl rfl rfl rfl ?_ | refine sy_stl 2 sz_30 rfl rfl rfl rfl rfl rfl rfl rfl ?_ | refine sy_stl 3 sz_30 rfl rfl rfl rfl rfl rfl rfl rfl ?_ | refine sy_stl 4 sz_30 rfl rfl rfl rfl rfl rfl rfl rfl ?_ | refine sy_stl 5 sz_30 rfl rfl rfl rfl rfl rfl rfl rfl ?_
               refine sy_assign rfl rfl rfl ?_
               refine sy_nil rfl ?_
               refine ny_next ?_
               refine cy_ret ?_
               exact ny_finR (resc1 0 rfl agg_30 rfl rfl rfl rfl) (fun w9 hs => ⟨.ok (g.tm, pri) st2 (g, o2, vn2), _, _, rfl, ⟨hro.symm.trans (loop_end hgo), rfl, hlgf, hm2, rfl⟩, hs.sel (is := [1, 2, 2]) rfl⟩)
             · refine sy_move rfl rfl rfl ?_
               refine sy_move rfl rfl rfl ?_
               refine sy_cmp rfl rfl rfl rfl rfl ?_
               refine sy_pickF rfl rfl rfl rfl ?_
               refine sy_nil rfl ?_
               refine ny_next ?_
               refine cy_cond rfl (fun hc55 => ?_) (fun hc55 => ?_)
               · have hgo : goesR L most pri st2 = false := by
                  unfold goesR
                  rw [hA, Bool.true_and, decide_eq_false (p := pri ≤ (refInfix (tokA L st2.at_).str.data.toList).1) (by have := of_decide_eq_true hc55; omega), Bool.and_false]
                 refine cy_exit ?_
                 refine ny_thenE ?_
                 refine ny_blockY rfl ?_
                 refine ny_thenE ?_
                 refine ny_blockX ?_
                 refine ny_next ?_
                 refine cy_seq ?_
                 refine cy_region ?_
                 refine sy_move rfl rfl rfl ?_
                 refine sy_nilCheck rfl rfl rfl ?_
                 refine sy_field fld_74_3 rfl rfl rfl ?_
                 first | refine sy_ldr 0 one_3 rfl rfl rfl rfl rfl ?_ | refine sy_ldr 1 one_3 rfl rfl rfl rfl rfl ?_ | refine sy_ldr 2 one_3 rfl rfl rfl rfl rfl ?_ | refine sy_ldr 3 one_3 rfl rfl rfl rfl rfl ?_ | refine sy_ldr 4 one_3 rfl rfl rfl rfl rfl ?_ | refine sy_ldr 5 one_3 rfl rfl rfl rfl rfl ?_
                 refine sy_subi (z := inn) rfl rfl (by omega) (by omega) (by omega) rfl rfl ?_
                 refine sy_nilCheck rfl rfl rfl ?_
                 refine sy_field fld_74_3 rfl rfl rfl ?_
                 first | refine sy_stl 0 sz_3 rfl rfl rfl rfl rfl rfl rfl rfl ?_ | refine sy_stl 1 sz_3 rfl rfl rfl rfl rfl rfl rfl rfl ?_ | refine sy_stl 2 sz_3 rfl rfl rfl rfl rfl rfl rfl rfl ?_ | refine sy_stl 3 sz_3 rfl rfl rfl rfl rfl rfl rfl rfl ?_ | refine sy_stl 4 sz_3 rfl rfl rfl rfl rfl rfl rfl rfl ?_ | refine sy_stl 5 sz_3 rfl rfl rfl rfl rfl rfl rfl rfl ?_
                 refine sy_nil rfl ?_
                 refine ny_next ?_
                 refine cy_seq ?_
                 refine cy_region ?_
                 first | refine sy_ldar 0 agg_30 rfl rfl rfl rfl rfl ?_ | refine sy_ldar 1 agg_30 rfl rfl rfl rfl rfl ?_ | refine sy_ldar 2 agg_30 rfl rfl rfl rfl rfl ?_ | refine sy_ldar 3 agg_30 rfl rfl rfl rfl rfl ?_ | refine sy_ldar 4 agg_30 rfl rfl rfl rfl rfl ?_ | refine sy_ldar 5 agg_30 rfl rfl rfl rfl rfl ?_
                 refine sy_move rfl rfl rfl ?_
                 first | refine sy_stl 0 sz_30 rfl rfl rfl rfl rfl rfl rfl rfl ?_ | refine sy_stl 1 sz_30 rfl rfl rfl rfl rfl rfl rfl rfl ?_ | refine sy_stl 2 sz_30 rfl rfl rfl rfl rfl rfl rfl rfl ?_ | refine sy_stl 3 sz_30 rfl rfl rfl rfl rfl rfl rfl rfl ?_ | refine sy_stl 4 sz_30 rfl rfl rfl rfl rfl rfl rfl rfl ?_ | refine sy_stl 5 sz_30 rfl rfl rfl rfl rfl rfl rfl rfl ?_
                 refine sy_assign rfl rfl rfl ?_
                 refine sy_nil rfl ?_
                 refine ny_next ?_
                 refine cy_ret ?_
                 exact ny_finR (resc1 0 rfl agg_30 rfl rfl rfl rfl) (fun w9 hs => ⟨.ok (g.tm, pri) st2 (g, o2, vn2), _, _, rfl, ⟨hro.symm.trans (loop_end hgo), rfl, hlgf, hm2, rfl⟩, hs.sel (is := [1, 2, 2]) rfl⟩)
               · have hgo : goesR L most pri st2 = true := by
                  unfold goesR
                  have h9 : (refInfix (tokA L st2.at_).str.data.toList).2.2.2 = true := by simpa using hg46
                  rw [hA, Bool.true_and, h9, decide_eq_true (p := (refInfix (tokA L st2.at_).str.data.toList).2.1 ≤ most) (by have := of_decide_eq_false hg51; omega), decide_eq_true (p := pri ≤ (refInfix (tokA L st2.at_).str.data.toList).1) (by have := of_decide_eq_false hc55; omega)]
                  rfl
                 refine cy_skip ?_
                 refine ny_next ?_
                 refine cy_seq ?_
                 refine cy_region ?_
                 refine sy_move rfl rfl rfl ?_
                 refine sy_nilCheck rfl rfl rfl ?_
                 refine sy_field fld_74_1 rfl rfl rfl ?_
                 first | refine sy_ldr 0 one_3 rfl rfl rfl rfl rfl ?_ | refine sy_ldr 1 one_3 rfl rfl rfl rfl rfl ?_ | refine sy_ldr 2 one_3 rfl rfl rfl rfl rfl ?_ | refine sy_ldr 3 one_3 rfl rfl rfl rfl rfl ?_ | refine sy_ldr 4 one_3 rfl rfl rfl rfl rfl ?_ | refine sy_ldr 5 one_3 rfl rfl rfl rfl rfl ?_
                 refine sy_addi (z := ((st2.at_ + 1 : Nat) : Int)) rfl rfl (by omega) (by omega) (by omega) rfl rfl ?_
                 have hlt := goes_lt hgo
                 refine sy_nilCheck rfl rfl rfl ?_
                 refine sy_field fld_74_1 rfl rfl rfl ?_
                 first | refine sy_stl 0 sz_3 rfl rfl rfl rfl rfl rfl rfl rfl ?_ | refine sy_stl 1 sz_3 rfl rfl rfl rfl rfl rfl rfl rfl ?_ | refine sy_stl 2 sz_3 rfl rfl rfl rfl rfl rfl rfl rfl ?_ | refine sy_stl 3 sz_3 rfl rfl rfl rfl rfl rfl rfl rfl ?_ | refine sy_stl 4 sz_3 rfl rfl rfl rfl rfl rfl rfl rfl ?_ | refine sy_stl 5 sz_3 rfl rfl rfl rfl rfl rfl rfl rfl ?_
                 refine sy_nil rfl ?_
                 refine ny_next ?_
                 refine cy_regionAP mixed ?_
                 refine zy_qP 0 (fun c a d v w hq => by cases d <;> exact hq) rfl (by kernel_rfl) (fun hB8_0 => ?_)
                 refine sy_move rfl rfl rfl ?_
                 refine sy_nil1 (ny_zqP hB8_0 ?_)
                 refine zy_qP 1 (fun c a d v w hq => by cases d <;> exact hq) rfl (by kernel_rfl) (fun hB8_1 => ?_)
                 refine sy_field fld_65_1 rfl rfl rfl ?_
                 refine sy_nil1 (ny_zqP hB8_1 ?_)
                 refine zy_qP 2 (fun c a d v w hq => by cases d <;> exact hq) rfl (by kernel_rfl) (fun hB8_2 => ?_)
                 refine sy_ldh one_9 rfl (Hp.blk hb8x 1 _ rfl) rfl rfl ?_
                 refine sy_nil1 (ny_zqP hB8_2 ?_)
                 refine zy_qP 4 (fun c a d v w hq => by cases d <;> exact hq) rfl (by kernel_rfl) (fun hB8_4 => ?_)
                 refine sy_move rfl rfl rfl ?_
                 refine sy_nil1 (ny_zqP hB8_4 ?_)
                 refine zy_qP 5 (fun c a d v w hq => by cases d <;> exact hq) rfl (by kernel_rfl) (fun hB8_5 => ?_)
                 refine sy_move rfl rfl rfl ?_
                 refine sy_nil1 (ny_zqP hB8_5 ?_)
                 refine zy_qP 9 (fun c a d v w hq => by cases d <;> exact hq) rfl (by kernel_rfl) (fun hB8_9 => ?_)
                 refine sy_move rfl rfl rfl ?_
                 refine sy_nil1 (ny_zqP hB8_9 ?_)
                 refine zy_2P 3 6 (by kernel_rfl) ?_ ?_
                 · refine zop_runP rfl rfl (fun hB8_3 => ?_)
                   first | refine sy_ldar 0 agg_30 rfl rfl rfl rfl rfl ?_ | refine sy_ldar 1 agg_30 rfl rfl rfl rfl rfl ?_ | refine sy_ldar 2 agg_30 rfl rfl rfl rfl rfl ?_ | refine sy_ldar 3 agg_30 rfl rfl rfl rfl rfl ?_ | refine sy_ldar 4 agg_30 rfl rfl rfl rfl rfl ?_ | refine sy_ldar 5 agg_30 rfl rfl rfl rfl rfl ?_
                   refine sy_nil rfl (ny_zyP hB8_3 (Hp.Le.refl _) ?_)
                   refine zy_1P 6 (by kernel_rfl) ?_
                   refine zop_runP rfl rfl (fun hB8_6 => ?_)
                   refine sy_callRO [0, 2, 2] call_37 rfl rfl (ihs (k - 1) (by omega) (inn + 1) (by omega) (by omega) (by omega) _ (adv st2) o2 vn2 _ hTz (by show st2.at_ + 1 ≤ _; omega) (by show st2.names.length ≤ st2.at_ + 1; omega) hm2) rfl rfl (fun a69 e69 h69x H69x hb69 hx69 hle69x => ?_) (fun x69 s69 g69 h69x H69x hk69 hx69 hle69x => ?_)
                   · obtain ⟨a9, i9, o9, v9, n9, rfl⟩ := hx69
                     refine ny_zyPP ?_
                     refine ny_blockP ?_
                     refine ny_thenP ?_
                     refine ny_blockP ?_
                     refine ny_thenP ?_
                     first
                     | exact ny_finP (fun w9 hs => ⟨.bad a69 e69, _, _, rfl, ⟨hro.symm.trans (loop_bad hgo hb69 (by omega)), _, _, _, _, _, rfl⟩, hs.sel (is := [0, 0, 0]) rfl⟩)
                     | exact ny_finP (fun w9 hs => ⟨.bad a71 e71, _, _, rfl, ⟨hro.symm.trans (loop_bad2 hgo hk69 (by rw [← hg69]; exact hb71) (by omega)), _, _, _, _, _, rfl⟩, hs.sel (is := [0, 0, 0]) rfl⟩)
                   · obtain ⟨hg69, hl69, hm69, rfl⟩ := hx69
                     replace hg69 : g69.1.tm = x69.1 := hg69
                     have hfw69 := read_fwd L lv (k - 1) _ (adv st2) x69 s69 (by show st2.at_ + 1 ≤ _; omega) hk69
                     have hww69 := read_wt L lv (k - 1) _ (adv st2) x69 s69 (by show st2.at_ + 1 ≤ _; omega) hk69
                     simp only [adv] at hfw69 hww69
                     rw [preW_succ hlt] at hww69
                     have hpw69 := hPW s69.at_
                     refine sy_nil rfl (ny_zyP hB8_6 hle69x ?_)
                     refine zy_1P 7 (by kernel_rfl) ?_
                     refine zop_runP rfl rfl (fun hB8_7 => ?_)
                     refine sy_buildSlice (cs := [g, g69.1].flatMap GT.cells) rfl (fun w => bsl_23_2_0x1 w) rfl rfl (fun b70 hb70 hM70 => ?_) (by first | exact hb0 | simp)
                     refine sy_frz 0 rfl hM70 (fun h70 hle70 hb70x => ?_)
                     have hr70 : RowsAt h70 (some ⟨b70, 0, none⟩) 4 ([g, g69.1].map GT.cells) := rows_blk (by decide) (GT.cells_len _) hb70x
                     refine sy_nil rfl (ny_zyP hB8_7 hle70 ?_)
                     refine zy_1P 8 (by kernel_rfl) ?_
                     refine zop_runP rfl rfl (fun hB8_8 => ?_)
                     refine sy_callRO [0] call_71 rfl rfl (mk_c (tokA L st2.at_).str (tokA_ok hqN st2.at_).2.1 [g, g69.1] (some ⟨b70, 0, none⟩) 2 r bm A c L lv _ ((hTz.le hle69x).le hle70) hL s69 (inn + 1) g69.2.2 hfw69.2.1 rfl hr70 (duoW (h := h70) ⟨(hlg.1.le hle69x).le hle70, hlg.2⟩ ⟨hl69.1.le hle70, hl69.2⟩ (by omega) (by rw [hg69]; omega)) (by simp) (by simp)) rfl rfl (fun a71 e71 h71x H71x hb71 hx71 hle71x => ?_) (fun x71 s71 g71 h71x H71x hk71 hx71 hle71x => ?_)
                     · subst hx71
                       refine ny_zyPP ?_
                       refine ny_blockP ?_
                       refine ny_thenP ?_
                       refine ny_blockP ?_
                       refine ny_thenP ?_
                       first
                       | exact ny_finP (fun w9 hs => ⟨.bad a69 e69, _, _, rfl, ⟨hro.symm.trans (loop_bad hgo hb69 (by omega)), _, _, _, _, _, rfl⟩, hs.sel (is := [0, 0, 0]) rfl⟩)
                       | exact ny_finP (fun w9 hs => ⟨.bad a71 e71, _, _, rfl, ⟨hro.symm.trans (loop_bad2 hgo hk69 (by rw [← hg69]; exact hb71) (by omega)), _, _, _, _, _, rfl⟩, hs.sel (is := [0, 0, 0]) rfl⟩)
                     · obtain ⟨hg71, hl71, rfl⟩ := hx71
                       have hst71 := (mkR_st hk71).symm
                       subst hst71
                       have hmw71 := mkR_wt hk71
                       rw [List.map_cons, List.map_cons, List.map_nil, wtTs_cons, wtTs_cons, wtTs_nil, hg69] at hmw71
                       refine sy_nil rfl (ny_zyP hB8_8 hle71x ?_)
                       refine zy_1P 10 (by kernel_rfl) ?_
                       refine zop_runP rfl rfl (fun hB8_10 => ?_)
                       first | refine sy_stl 0 sz_30 rfl rfl rfl rfl rfl rfl rfl rfl ?_ | refine sy_stl 1 sz_30 rfl rfl rfl rfl rfl rfl rfl rfl ?_ | refine sy_stl 2 sz_30 rfl rfl rfl rfl rfl rfl rfl rfl ?_ | refine sy_stl 3 sz_30 rfl rfl rfl rfl rfl rfl rfl rfl ?_ | refine sy_stl 4 sz_30 rfl rfl rfl rfl rfl rfl rfl rfl ?_ | refine sy_stl 5 sz_30 rfl rfl rfl rfl rfl rfl rfl rfl ?_
                       refine sy_nil rfl (ny_zyP hB8_10 (Hp.Le.refl _) ?_)
                       refine zy_qP 11 (fun c a d v w hq => by cases d <;> exact hq) rfl (by kernel_rfl) (fun hB8_11 => ?_)
                       refine sy_assign rfl rfl rfl ?_
                       refine sy_nil1 (ny_zqP hB8_11 ?_)
                       refine zy_doneP (by kernel_rfl) ?_
                       refine ny_blockN ?_
                       refine ny_roundK [0, 1, 4, 6] ⟨g71, (refInfix (tokA L st2.at_).str.data.toList).2.1, s69, g69.2.1, g69.2.2, h71x, m - 1⟩ [0, 3, 0, 0, 0] ⟨(by rw [hg71, ← loop_step hgo hk69 (by rw [← hg69]; exact hk71) (by omega)]; exact hro), (by show L.length + 1 ≤ m - 1 + s69.at_; omega), hfw69.2.1, (by show s69.names.length ≤ s69.at_; omega), hm69, (((hlez.trans hle8).trans hle69x).trans hle70).trans hle71x, hl71, (by show wtT g71.tm ≤ preW L s69.at_; rw [hg71]; omega)⟩ (by show L.length - s69.at_ < L.length - st2.at_; omega) rfl ⟨rfl, trivial⟩ rfl rfl
                 · refine zop_runP rfl rfl (fun hB8_6 => ?_)
                   refine sy_callRO [0, 2, 2] call_37 rfl rfl (ihs (k - 1) (by omega) (inn + 1) (by omega) (by omega) (by omega) _ (adv st2) o2 vn2 _ hTz (by show st2.at_ + 1 ≤ _; omega) (by show st2.names.length ≤ st2.at_ + 1; omega) hm2) rfl rfl (fun a69 e69 h69x H69x hb69 hx69 hle69x => ?_) (fun x69 s69 g69 h69x H69x hk69 hx69 hle69x => ?_)
                   · obtain ⟨a9, i9, o9, v9, n9, rfl⟩ := hx69
                     refine ny_zyPP ?_
                     refine ny_blockP ?_
                     refine ny_thenP ?_
                     refine ny_blockP ?_
                     refine ny_thenP ?_
                     first
                     | exact ny_finP (fun w9 hs => ⟨.bad a69 e69, _, _, rfl, ⟨hro.symm.trans (loop_bad hgo hb69 (by omega)), _, _, _, _, _, rfl⟩, hs.sel (is := [0, 0, 0]) rfl⟩)
                     | exact ny_finP (fun w9 hs => ⟨.bad a71 e71, _, _, rfl, ⟨hro.symm.trans (loop_bad2 hgo hk69 (by rw [← hg69]; exact hb71) (by omega)), _, _, _, _, _, rfl⟩, hs.sel (is := [0, 0, 0]) rfl⟩)
                   · obtain ⟨hg69, hl69, hm69, rfl⟩ := hx69
                     replace hg69 : g69.1.tm = x69.1 := hg69
                     have hfw69 := read_fwd L lv (k - 1) _ (adv st2) x69 s69 (by show st2.at_ + 1 ≤ _; omega) hk69
                     have hww69 := read_wt L lv (k - 1) _ (adv st2) x69 s69 (by show st2.at_ + 1 ≤ _; omega) hk69
                     simp only [adv] at hfw69 hww69
                     rw [preW_succ hlt] at hww69
                     have hpw69 := hPW s69.at_
                     refine sy_nil rfl (ny_zyP hB8_6 hle69x ?_)
                     refine zy_1P 3 (by kernel_rfl) ?_
                     refine zop_runP rfl rfl (fun hB8_3 => ?_)
                     first | refine sy_ldar 0 agg_30 rfl rfl rfl rfl rfl ?_ | refine sy_ldar 1 agg_30 rfl rfl rfl rfl rfl ?_ | refine sy_ldar 2 agg_30 rfl rfl rfl rfl rfl ?_ | refine sy_ldar 3 agg_30 rfl rfl rfl rfl rfl ?_ | refine sy_ldar 4 agg_30 rfl rfl rfl rfl rfl ?_ | refine sy_ldar 5 agg_30 rfl rfl rfl rfl rfl ?_
                     refine sy_nil rfl (ny_zyP hB8_3 (Hp.Le.refl _) ?_)
                     refine zy_1P 7 (by kernel_rfl) ?_
                     refine zop_runP rfl rfl (fun hB8_7 => ?_)
                     refine sy_buildSlice (cs := [g, g69.1].flatMap GT.cells) rfl (fun w => bsl_23_2_0x1 w) rfl rfl (fun b70 hb70 hM70 => ?_) (by first | exact hb0 | simp)
                     refine sy_frz 0 rfl hM70 (fun h70 hle70 hb70x => ?_)
                     have hr70 : RowsAt h70 (some ⟨b70, 0, none⟩) 4 ([g, g69.1].map GT.cells) := rows_blk (by decide) (GT.cells_len _) hb70x
                     refine sy_nil rfl (ny_zyP hB8_7 hle70 ?_)
                     refine zy_1P 8 (by kernel_rfl) ?_
                     refine zop_runP rfl rfl (fun hB8_8 => ?_)
                     refine sy_callRO [0] call_71 rfl rfl (mk_c (tokA L st2.at_).str (tokA_ok hqN st2.at_).2.1 [g, g69.1] (some ⟨b70, 0, none⟩) 2 r bm A c L lv _ ((hTz.le hle69x).le hle70) hL s69 (inn + 1) g69.2.2 hfw69.2.1 rfl hr70 (duoW (h := h70) ⟨(hlg.1.le hle69x).le hle70, hlg.2⟩ ⟨hl69.1.le hle70, hl69.2⟩ (by omega) (by rw [hg69]; omega)) (by simp) (by simp)) rfl rfl (fun a71 e71 h71x H71x hb71 hx71 hle71x => ?_) (fun x71 s71 g71 h71x H71x hk71 hx71 hle71x => ?_)
                     · subst hx71
                       refine ny_zyPP ?_
                       refine ny_blockP ?_
                       refine ny_thenP ?_
                       refine ny_blockP ?_
                       refine ny_thenP ?_
                       first
                       | exact ny_finP (fun w9 hs => ⟨.bad a69 e69, _, _, rfl, ⟨hro.symm.trans (loop_bad hgo hb69 (by omega)), _, _, _, _, _, rfl⟩, hs.sel (is := [0, 0, 0]) rfl⟩)
                       | exact ny_finP (fun w9 hs => ⟨.bad a71 e71, _, _, rfl, ⟨hro.symm.trans (loop_bad2 hgo hk69 (by rw [← hg69]; exact hb71) (by omega)), _, _, _, _, _, rfl⟩, hs.sel (is := [0, 0, 0]) rfl⟩)
                     · obtain ⟨hg71, hl71, rfl⟩ := hx71
                       have hst71 := (mkR_st hk71).symm
                       subst hst71
                       have hmw71 := mkR_wt hk71
                       rw [List.map_cons, List.map_cons, List.map_nil, wtTs_cons, wtTs_cons, wtTs_nil, hg69] at hmw71
                       refine sy_nil rfl (ny_zyP hB8_8 hle71x ?_)
                       refine zy_1P 10 (by kernel_rfl) ?_
                       refine zop_runP rfl rfl (fun hB8_10 => ?_)
                       first | refine sy_stl 0 sz_30 rfl rfl rfl rfl rfl rfl rfl rfl ?_ | refine sy_stl 1 sz_30 rfl rfl rfl rfl rfl rfl rfl rfl ?_ | refine sy_stl 2 sz_30 rfl rfl rfl rfl rfl rfl rfl rfl ?_ | refine sy_stl 3 sz_30 rfl rfl rfl rfl rfl rfl rfl rfl ?_ | refine sy_stl 4 sz_30 rfl rfl rfl rfl rfl rfl rfl rfl ?_ | refine sy_stl 5 sz_30 rfl rfl rfl rfl rfl rfl rfl rfl ?_
                       refine sy_nil rfl (ny_zyP hB8_10 (Hp.Le.refl _) ?_)
                       refine zy_qP 11 (fun c a d v w hq => by cases d <;> exact hq) rfl (by kernel_rfl) (fun hB8_11 => ?_)
                       refine sy_assign rfl rfl rfl ?_
                       refine sy_nil1 (ny_zqP hB8_11 ?_)
                       refine zy_doneP (by kernel_rfl) ?_
                       refine ny_blockN ?_
                       refine ny_roundK [0, 1, 4, 6] ⟨g71, (refInfix (tokA L st2.at_).str.data.toList).2.1, s69, g69.2.1, g69.2.2, h71x, m - 1⟩ [0, 3, 0, 0, 0] ⟨(by rw [hg71, ← loop_step hgo hk69 (by rw [← hg69]; exact hk71) (by omega)]; exact hro), (by show L.length + 1 ≤ m - 1 + s69.at_; omega), hfw69.2.1, (by show s69.names.length ≤ s69.at_; omega), hm69, (((hlez.trans hle8).trans hle69x).trans hle70).trans hle71x, hl71, (by show wtT g71.tm ≤ preW L s69.at_; rw [hg71]; omega)⟩ (by show L.length - s69.at_ < L.length - st2.at_; omega) rfl ⟨rfl, trivial⟩ rfl rfl
     · refine sy_skip rfl rfl rfl ?_
       refine sy_skip rfl rfl rfl ?_
       refine sy_skip rfl rfl rfl ?_
       refine sy_pickF rfl rfl rfl rfl ?_
       refine sy_move rfl rfl rfl ?_
       refine sy_move rfl rfl rfl ?_
       refine sy_callR1 [0] call_69 rfl rfl (is_c ⟨#[44]⟩ r bm A c L lv _ hTz hL st2 (inn + 1) vn2 hat2) rfl rfl (fun x33 h33x H33x hx33 hle33x => ?_)
       obtain ⟨rfl, rfl⟩ := hx33
       refine sy_pickF rfl rfl rfl rfl ?_
       refine sy_not rfl rfl rfl ?_
       refine sy_nil rfl ?_
       refine ny_next ?_
       refine cy_cond rfl (fun hc35 => ?_) (fun hc35 => ?_)
       · have hA : ((((tokA L st2.at_).kind == 1) && !(tokA L st2.at_).quo) || isP L st2.at_ [44]) = false := by
          have h9 : isP L st2.at_ [44] = false := by simpa using hc35
          rw [h9, Bool.or_false]
          first | (rw [hg31, Bool.and_false]; done) | (rw [hg26]; rfl)
         have hgo : goesR L most pri st2 = false := by
          unfold goesR
          rw [hA]
          rfl
         refine cy_exit ?_
         refine ny_thenE ?_
         refine ny_blockY rfl ?_
         refine ny_thenE ?_
         refine ny_blockX ?_
         refine ny_next ?_
         refine cy_seq ?_
         refine cy_region ?_
         refine sy_move rfl rfl rfl ?_
         refine sy_nilCheck rfl rfl rfl ?_
         refine sy_field fld_74_3 rfl rfl rfl ?_
         first | refine sy_ldr 0 one_3 rfl rfl rfl rfl rfl ?_ | refine sy_ldr 1 one_3 rfl rfl rfl rfl rfl ?_ | refine sy_ldr 2 one_3 rfl rfl rfl rfl rfl ?_ | refine sy_ldr 3 one_3 rfl rfl rfl rfl rfl ?_ | refine sy_ldr 4 one_3 rfl rfl rfl rfl rfl ?_ | refine sy_ldr 5 one_3 rfl rfl rfl rfl rfl ?_
         refine sy_subi (z := inn) rfl rfl (by omega) (by omega) (by omega) rfl rfl ?_
         refine sy_nilCheck rfl rfl rfl ?_
         refine sy_field fld_74_3 rfl rfl rfl ?_
         first | refine sy_stl 0 sz_3 rfl rfl rfl rfl rfl rfl rfl rfl ?_ | refine sy_stl 1 sz_3 rfl rfl rfl rfl rfl rfl rfl rfl ?_ | refine sy_stl 2 sz_3 rfl rfl rfl rfl rfl rfl rfl rfl ?_ | refine sy_stl 3 sz_3 rfl rfl rfl rfl rfl rfl rfl rfl ?_ | refine sy_stl 4 sz_3 rfl rfl rfl rfl rfl rfl rfl rfl ?_ | refine sy_stl 5 sz_3 rfl rfl rfl rfl rfl rfl rfl rfl ?_
         refine sy_nil rfl ?_
         refine ny_next ?_
         refine cy_seq ?_
         refine cy_region ?_
         first | refine sy_ldar 0 agg_30 rfl rfl rfl rfl rfl ?_ | refine sy_ldar 1 agg_30 rfl rfl rfl rfl rfl ?_ | refine sy_ldar 2 agg_30 rfl rfl rfl rfl rfl ?_ | refine sy_ldar 3 agg_30 rfl rfl rfl rfl rfl ?_ | refine sy_ldar 4 agg_30 rfl rfl rfl rfl rfl ?_ | refine sy_ldar 5 agg_30 rfl rfl rfl rfl rfl ?_
         refine sy_move rfl rfl rfl ?_
         first | refine sy_stl 0 sz_30 rfl rfl rfl rfl rfl rfl rfl rfl ?_ | refine sy_stl 1 sz_30 rfl rfl rfl rfl rfl rfl rfl rfl ?_ | refine sy_stl 2 sz_30 rfl rfl rfl rfl rfl rfl rfl rfl ?_ | refine sy_stl 3 sz_30 rfl rfl rfl rfl rfl rfl rfl rfl ?_ | refine sy_stl 4 sz_30 rfl rfl rfl rfl rfl rfl rfl rfl ?_ | refine sy_stl 5 sz_30 rfl rfl rfl rfl rfl rfl rfl rfl ?_
         refine sy_assign rfl rfl rfl ?_
         refine sy_nil rfl ?_
         refine ny_next ?_
         refine cy_ret ?_
         exact ny_finR (resc1 0 rfl agg_30 rfl rfl rfl rfl) (fun w9 hs => ⟨.ok (g.tm, pri) st2 (g, o2, vn2), _, _, rfl, ⟨hro.symm.trans (loop_end hgo), rfl, hlgf, hm2, rfl⟩, hs.sel (is := [1, 2, 2]) rfl⟩)
       · have hA : ((((tokA L st2.at_).kind == 1) && !(tokA L st2.at_).quo) || isP L st2.at_ [44]) = true := by
          have h9 : isP L st2.at_ [44] = true := by simpa using hc35
          rw [h9, Bool.or_true]
         refine cy_skip ?_
         refine ny_next ?_
         refine cy_seq ?_
         refine cy_region ?_
         refine sy_field fld_65_1 rfl rfl rfl ?_
         refine sy_ldh one_9 rfl (Hp.blk hb8x 1 _ rfl) rfl rfl ?_
         refine sy_call rfl call_70 rfl (infix_c (tokA L st2.at_).str _) rfl rfl ?_
         refine sy_move rfl rfl rfl ?_
         refine sy_extract rfl rfl rfl rfl ?_
         refine sy_extract rfl rfl rfl rfl ?_
         refine sy_extract rfl rfl rfl rfl ?_
         refine sy_extract rfl rfl rfl rfl ?_
         refine sy_assign rfl rfl rfl ?_
         refine sy_assign rfl rfl rfl ?_
         refine sy_assign rfl rfl rfl ?_
         refine sy_assign rfl rfl rfl ?_
         refine sy_nil rfl ?_
         refine ny_next ?_
         refine cy_seq ?_
         refine cy_seq ?_
         refine cy_region ?_
         refine sy_move rfl rfl rfl ?_
         refine sy_not rfl rfl rfl ?_
         refine sy_move rfl rfl rfl ?_
         refine sy_cond (d := 46) _ rfl rfl (fun hg46 => ?_) (fun hg46 => ?_)
         · refine sy_skip rfl rfl rfl ?_
           refine sy_skip rfl rfl rfl ?_
           refine sy_skip rfl rfl rfl ?_
           refine sy_pickT rfl rfl rfl rfl ?_
           refine sy_move rfl rfl rfl ?_
           refine sy_skip rfl rfl rfl ?_
           refine sy_skip rfl rfl rfl ?_
           refine sy_skip rfl rfl rfl ?_
           refine sy_pickT rfl rfl rfl rfl ?_
           refine sy_nil rfl ?_
           refine ny_next ?_
           refine cy_condT rfl ?_
           have hgo : goesR L most pri st2 = false := by
            unfold goesR
            rw [hA, Bool.true_and]
            first
            | (have h9 : (refInfix (tokA L st2.at_).str.data.toList).2.2.2 = false := by simpa using hg46
               rw [h9]; rfl)
            | (rw [decide_eq_false (p := (refInfix (tokA L st2.at_).str.data.toList).2.1 ≤ most) (by have := of_decide_eq_true hg51; omega), Bool.and_false]; rfl)
           refine cy_exit ?_
           refine ny_thenE ?_
           refine ny_blockY rfl ?_
           refine ny_thenE ?_
           refine ny_blockX ?_
           refine ny_next ?_
           refine cy_seq ?_
           refine cy_region ?_
           refine sy_move rfl rfl rfl ?_
           refine sy_nilCheck rfl rfl rfl ?_
           refine sy_field fld_74_3 rfl rfl rfl ?_
           first | refine sy_ldr 0 one_3 rfl rfl rfl rfl rfl ?_ | refine sy_ldr 1 one_3 rfl rfl rfl rfl rfl ?_ | refine sy_ldr 2 one_3 rfl rfl rfl rfl rfl ?_ | refine sy_ldr 3 one_3 rfl rfl rfl rfl rfl ?_ | refine sy_ldr 4 one_3 rfl rfl rfl rfl rfl ?_ | refine sy_ldr 5 one_3 rfl rfl rfl rfl rfl ?_
           refine sy_subi (z := inn) rfl rfl (by omega) (by omega) (by omega) rfl rfl ?_
           refine sy_nilCheck rfl rfl rfl ?_
           refine sy_field fld_74_3 rfl rfl rfl ?_
           first | refine sy_stl 0 sz_3 rfl rfl rfl rfl rfl rfl rfl rfl ?_ | refine sy_stl 1 sz_3 rfl rfl rfl rfl rfl rfl rfl rfl ?_ | refine sy_stl 2 sz_3 rfl rfl rfl rfl rfl rfl rfl rfl ?_ | refine sy_stl 3 sz_3 rfl rfl rfl rfl rfl rfl rfl rfl ?_ | refine sy_stl 4 sz_3 rfl rfl rfl rfl rfl rfl rfl rfl ?_ | refine sy_stl 5 sz_3 rfl rfl rfl rfl rfl rfl rfl rfl ?_
           refine sy_nil rfl ?_
           refine ny_next ?_
           refine cy_seq ?_
           refine cy_region ?_
           first | refine sy_ldar 0 agg_30 rfl rfl rfl rfl rfl ?_ | refine sy_ldar 1 agg_30 rfl rfl rfl rfl rfl ?_ | refine sy_ldar 2 agg_30 rfl rfl rfl rfl rfl ?_ | refine sy_ldar 3 agg_30 rfl rfl rfl rfl rfl ?_ | refine sy_ldar 4 agg_30 rfl rfl rfl rfl rfl ?_ | refine sy_ldar 5 agg_30 rfl rfl rfl rfl rfl ?_
           refine sy_move rfl rfl rfl ?_
           first | refine sy_stl 0 sz_30 rfl rfl rfl rfl rfl rfl rfl rfl ?_ | refine sy_stl 1 sz_30 rfl rfl rfl rfl rfl rfl rfl rfl ?_ | refine sy_stl 2 sz_30 rfl rfl rfl rfl rfl rfl rfl rfl ?_ | refine sy_stl 3 sz_30 rfl rfl rfl rfl rfl rfl rfl rfl ?_ | refine sy_stl 4 sz_30 rfl rfl rfl rfl rfl rfl rfl rfl ?_ | refine sy_stl 5 sz_30 rfl rfl rfl rfl rfl rfl rfl rfl ?_
           refine sy_assign rfl rfl rfl ?_
           refine sy_nil rfl ?_
           refine ny_next ?_
           refine cy_ret ?_
           exact ny_finR (resc1 0 rfl agg_30 rfl rfl rfl rfl) (fun w9 hs => ⟨.ok (g.tm, pri) st2 (g, o2, vn2), _, _, rfl, ⟨hro.symm.trans (loop_end hgo), rfl, hlgf, hm2, rfl⟩, hs.sel (is := [1, 2, 2]) rfl⟩)
         · refine sy_move rfl rfl rfl ?_
           refine sy_move rfl rfl rfl ?_
           refine sy_cmp rfl rfl rfl rfl rfl ?_
           refine sy_pickF rfl rfl rfl rfl ?_
           refine sy_move rfl rfl rfl ?_
           refine sy_cond (d := 51) _ rfl rfl (fun hg51 => ?_) (fun hg51 => ?_)
           · refine sy_skip rfl rfl rfl ?_
             refine sy_skip rfl rfl rfl ?_
             refine sy_skip rfl rfl rfl ?_
             refine sy_pickT rfl rfl rfl rfl ?_
             refine sy_nil rfl ?_
             refine ny_next ?_
             refine cy_condT rfl ?_
             have hgo : goesR L most pri st2 = false := by
              unfold goesR
              rw [hA, Bool.true_and]
              first
              | (have h9 : (refInfix (tokA L st2.at_).str.data.toList).2.2.2 = false := by simpa using hg46
                 rw [h9]; rfl)
              | (rw [decide_eq_false (p := (refInfix (tokA L st2.at_).str.data.toList).2.1 ≤ most) (by have := of_decide_eq_true hg51; omega), Bool.and_false]; rfl)
             refine cy_exit ?_
             refine ny_thenE ?_
             refine ny_blockY rfl ?_
             refine ny_thenE ?_
             refine ny_blockX ?_
             refine ny_next ?_
             refine cy_seq ?_
             refine cy_region ?_
             refine sy_move rfl rfl rfl ?_
             refine sy_nilCheck rfl rfl rfl ?_
             refine sy_field fld_74_3 rfl rfl rfl ?_
             first | refine sy_ldr 0 one_3 rfl rfl rfl rfl rfl ?_ | refine sy_ldr 1 one_3 rfl rfl rfl rfl rfl ?_ | refine sy_ldr 2 one_3 rfl rfl rfl rfl rfl ?_ | refine sy_ldr 3 one_3 rfl rfl rfl rfl rfl ?_ | refine sy_ldr 4 one_3 rfl rfl rfl rfl rfl ?_ | refine sy_ldr 5 one_3 rfl rfl rfl rfl rfl ?_
             refine sy_subi (z := inn) rfl rfl (by omega) (by omega) (by omega) rfl rfl ?_
             refine sy_nilCheck rfl rfl rfl ?_
             refine sy_field fld_74_3 rfl rfl rfl ?_
             first | refine sy_stl 0 sz_3 rfl rfl rfl rfl rfl rfl rfl rfl ?_ | refine sy_stl 1 sz_3 rfl rfl rfl rfl rfl rfl rfl rfl ?_ | refine sy_stl 2 sz_3 rfl rfl rfl rfl rfl rfl rfl rfl ?_ | refine sy_stl 3 sz_3 rfl rfl rfl rfl rfl rfl rfl rfl ?_ | refine sy_stl 4 sz_3 rfl rfl rfl rfl rfl rfl rfl rfl ?_ | refine sy_stl 5 sz_3 rfl rfl rfl rfl rfl rfl rfl rfl ?_
             refine sy_nil rfl ?_
             refine ny_next ?_
             refine cy_seq ?_
             refine cy_region ?_
             first | refine sy_ldar 0 agg_30 rfl rfl rfl rfl rfl ?_ | refine sy_ldar 1 agg_30 rfl rfl rfl rfl rfl ?_ | refine sy_ldar 2 agg_30 rfl rfl rfl rfl rfl ?_ | refine sy_ldar 3 agg_30 rfl rfl rfl rfl rfl ?_ | refine sy_ldar 4 agg_30 rfl rfl rfl rfl rfl ?_ | refine sy_ldar 5 agg_30 rfl rfl rfl rfl rfl ?_
             refine sy_move rfl rfl rfl ?_
             first | refine sy_stl 0 sz_30 rfl rfl rfl rfl rfl rfl rfl rfl ?_ | refine sy_stl 1 sz_30 rfl rfl rfl rfl rfl rfl rfl rfl ?_ | refine sy_stl 2 sz_30 rfl rfl rfl rfl rfl rfl rfl rfl ?_ | refine sy_stl 3 sz_30 rfl rfl rfl rfl rfl rfl rfl rfl ?_ | refine sy_stl 4 sz_30 rfl rfl rfl rfl rfl rfl rfl rfl ?_ | refine sy_stl 5 sz_30 rfl rfl rfl rfl rfl rfl rfl rfl ?_
             refine sy_assign rfl rfl rfl ?_
             refine sy_nil rfl ?_
             refine ny_next ?_
             refine cy_ret ?_
             exact ny_finR (resc1 0 rfl agg_30 rfl rfl rfl rfl) (fun w9 hs => ⟨.ok (g.tm, pri) st2 (g, o2, vn2), _, _, rfl, ⟨hro.symm.trans (loop_end hgo), rfl, hlgf, hm2, rfl⟩, hs.sel (is := [1, 2, 2]) rfl⟩)
           · refine sy_move rfl rfl rfl ?_
             refine sy_move rfl rfl rfl ?_
             refine sy_cmp rfl rfl rfl rfl rfl ?_
             refine sy_pickF rfl rfl rfl rfl ?_
             refine sy_nil rfl ?_
             refine ny_next ?_
             refine cy_cond rfl (fun hc55 => ?_) (fun hc55 => ?_)
             · have hgo : goesR L most pri st2 = false := by
                unfold goesR
                rw [hA, Bool.true_and, decide_eq_false (p := pri ≤ (refInfix (tokA L st2.at_).str.data.toList).1) (by have := of_decide_eq_true hc55; omega), Bool.and_false]
               refine cy_exit ?_
               refine ny_thenE ?_
               refine ny_blockY rfl ?_
               refine ny_thenE ?_
               refine ny_blockX ?_
               refine ny_next ?_
               refine cy_seq ?_
               refine cy_region ?_
               refine sy_move rfl rfl rfl ?_
               refine sy_nilCheck rfl rfl rfl ?_
               refine sy_field fld_74_3 rfl rfl rfl ?_
               first | refine sy_ldr 0 one_3 rfl rfl rfl rfl rfl ?_ | refine sy_ldr 1 one_3 rfl rfl rfl rfl rfl ?_ | refine sy_ldr 2 one_3 rfl rfl rfl rfl rfl ?_ | refine sy_ldr 3 one_3 rfl rfl rfl rfl rfl ?_ | refine sy_ldr 4 one_3 rfl rfl rfl rfl rfl ?_ | refine sy_ldr 5 one_3 rfl rfl rfl rfl rfl ?_
               refine sy_subi (z := inn) rfl rfl (by omega) (by omega) (by omega) rfl rfl ?_
               refine sy_nilCheck rfl rfl rfl ?_
               refine sy_field fld_74_3 rfl rfl rfl ?_
               first | refine sy_stl 0 sz_3 rfl rfl rfl rfl rfl rfl rfl rfl ?_ | refine sy_stl 1 sz_3 rfl rfl rfl rfl rfl rfl rfl rfl ?_ | refine sy_stl 2 sz_3 rfl rfl rfl rfl rfl rfl rfl rfl ?_ | refine sy_stl 3 sz_3 rfl rfl rfl rfl rfl rfl rfl rfl ?_ | refine sy_stl 4 sz_3 rfl rfl rfl rfl rfl rfl rfl rfl ?_ | refine sy_stl 5 sz_3 rfl rfl rfl rfl rfl rfl rfl rfl ?_
               refine sy_nil rfl ?_
               refine ny_next ?_
               refine cy_seq ?_
               refine cy_region ?_
               first | refine sy_ldar 0 agg_30 rfl rfl rfl rfl rfl ?_ | refine sy_ldar 1 agg_30 rfl rfl rfl rfl rfl ?_ | refine sy_ldar 2 agg_30 rfl rfl rfl rfl rfl ?_ | refine sy_ldar 3 agg_30 rfl rfl rfl rfl rfl ?_ | refine sy_ldar 4 agg_30 rfl rfl rfl rfl rfl ?_ | refine sy_ldar 5 agg_30 rfl rfl rfl rfl rfl ?_
               refine sy_move rfl rfl rfl ?_
               first | refine sy_stl 0 sz_30 rfl rfl rfl rfl rfl rfl rfl rfl ?_ | refine sy_stl 1 sz_30 rfl rfl rfl rfl rfl rfl rfl rfl ?_ | refine sy_stl 2 sz_30 rfl rfl rfl rfl rfl rfl rfl rfl ?_ | refine sy_stl 3 sz_30 rfl rfl rfl rfl rfl rfl rfl rfl ?_ | refine sy_stl 4 sz_30 rfl rfl rfl rfl rfl rfl rfl rfl ?_ | refine sy_stl 5 sz_30 rfl rfl rfl rfl rfl rfl rfl rfl ?_
               refine sy_assign rfl rfl rfl ?_
               refine sy_nil rfl ?_
               refine ny_next ?_
               refine cy_ret ?_
               exact ny_finR (resc1 0 rfl agg_30 rfl rfl rfl rfl) (fun w9 hs => ⟨.ok (g.tm, pri) st2 (g, o2, vn2), _, _, rfl, ⟨hro.symm.trans (loop_end hgo), rfl, hlgf, hm2, rfl⟩, hs.sel (is := [1, 2, 2]) rfl⟩)
             · have hgo : goesR L most pri st2 = true := by
                unfold goesR
                have h9 : (refInfix (tokA L st2.at_).str.data.toList).2.2.2 = true := by simpa using hg46
                rw [hA, Bool.true_and, h9, decide_eq_true (p := (refInfix (tokA L st2.at_).str.data.toList).2.1 ≤ most) (by have := of_decide_eq_false hg51; omega), decide_eq_true (p := pri ≤ (refInfix (tokA L st2.at_).str.data.toList).1) (by have := of_decide_eq_false hc55; omega)]
                rfl
               refine cy_skip ?_
               refine ny_next ?_
               refine cy_seq ?_
               refine cy_region ?_
               refine sy_move rfl rfl rfl ?_
               refine sy_nilCheck rfl rfl rfl ?_
               refine sy_field fld_74_1 rfl rfl rfl ?_
               first | refine sy_ldr 0 one_3 rfl rfl rfl rfl rfl ?_ | refine sy_ldr 1 one_3 rfl rfl rfl rfl rfl ?_ | refine sy_ldr 2 one_3 rfl rfl rfl rfl rfl ?_ | refine sy_ldr 3 one_3 rfl rfl rfl rfl rfl ?_ | refine sy_ldr 4 one_3 rfl rfl rfl rfl rfl ?_ | refine sy_ldr 5 one_3 rfl rfl rfl rfl rfl ?_
               refine sy_addi (z := ((st2.at_ + 1 : Nat) : Int)) rfl rfl (by omega) (by omega) (by omega) rfl rfl ?_
               have hlt := goes_lt hgo
               refine sy_nilCheck rfl rfl rfl ?_
               refine sy_field fld_74_1 rfl rfl rfl ?_
               first | refine sy_stl 0 sz_3 rfl rfl rfl rfl rfl rfl rfl rfl ?_ | refine sy_stl 1 sz_3 rfl rfl rfl rfl rfl rfl rfl rfl ?_ | refine sy_stl 2 sz_3 rfl rfl rfl rfl rfl rfl rfl rfl ?_ | refine sy_stl 3 sz_3 rfl rfl rfl rfl rfl rfl rfl rfl ?_ | refine sy_stl 4 sz_3 rfl rfl rfl rfl rfl rfl rfl rfl ?_ | refine sy_stl 5 sz_3 rfl rfl rfl rfl rfl rfl rfl rfl ?_
               refine sy_nil rfl ?_
               refine ny_next ?_
               refine cy_regionAP mixed ?_
               refine zy_qP 0 (fun c a d v w hq => by cases d <;> exact hq) rfl (by kernel_rfl) (fun hB8_0 => ?_)
               refine sy_move rfl rfl rfl ?_
               refine sy_nil1 (ny_zqP hB8_0 ?_)
               refine zy_qP 1 (fun c a d v w hq => by cases d <;> exact hq) rfl (by kernel_rfl) (fun hB8_1 => ?_)
               refine sy_field fld_65_1 rfl rfl rfl ?_
               refine sy_nil1 (ny_zqP hB8_1 ?_)
               refine zy_qP 2 (fun c a d v w hq => by cases d <;> exact hq) rfl (by kernel_rfl) (fun hB8_2 => ?_)
               refine sy_ldh one_9 rfl (Hp.blk hb8x 1 _ rfl) rfl rfl ?_
               refine sy_nil1 (ny_zqP hB8_2 ?_)
               refine zy_qP 4 (fun c a d v w hq => by cases d <;> exact hq) rfl (by kernel_rfl) (fun hB8_4 => ?_)
               refine sy_move rfl rfl rfl ?_
               refine sy_nil1 (ny_zqP hB8_4 ?_)
               refine zy_qP 5 (fun c a d v w hq => by cases d <;> exact hq) rfl (by kernel_rfl) (fun hB8_5 => ?_)
               refine sy_move rfl rfl rfl ?_
               refine sy_nil1 (ny_zqP hB8_5 ?_)
               refine zy_qP 9 (fun c a d v w hq => by cases d <;> exact hq) rfl (by kernel_rfl) (fun hB8_9 => ?_)
               refine sy_move rfl rfl rfl ?_
               refine sy_nil1 (ny_zqP hB8_9 ?_)
               refine zy_2P 3 6 (by kernel_rfl) ?_ ?_
               · refine zop_runP rfl rfl (fun hB8_3 => ?_)
                 first | refine sy_ldar 0 agg_30 rfl rfl rfl rfl rfl ?_ | refine sy_ldar 1 agg_30 rfl rfl rfl rfl rfl ?_ | refine sy_ldar 2 agg_30 rfl rfl rfl rfl rfl ?_ | refine sy_ldar 3 agg_30 rfl rfl rfl rfl rfl ?_ | refine sy_ldar 4 agg_30 rfl rfl rfl rfl rfl ?_ | refine sy_ldar 5 agg_30 rfl rfl rfl rfl rfl ?_
                 refine sy_nil rfl (ny_zyP hB8_3 (Hp.Le.refl _) ?_)
                 refine zy_1P 6 (by kernel_rfl) ?_
                 refine zop_runP rfl rfl (fun hB8_6 => ?_)
                 refine sy_callRO [0, 2, 2] call_37 rfl rfl (ihs (k - 1) (by omega) (inn + 1) (by omega) (by omega) (by omega) _ (adv st2) o2 vn2 _ hTz (by show st2.at_ + 1 ≤ _; omega) (by show st2.names.length ≤ st2.at_ + 1; omega) hm2) rfl rfl (fun a69 e69 h69x H69x hb69 hx69 hle69x => ?_) (fun x69 s69 g69 h69x H69x hk69 hx69 hle69x => ?_)
                 · obtain ⟨a9, i9, o9, v9, n9, rfl⟩ := hx69
                   refine ny_zyPP ?_
                   refine ny_blockP ?_
                   refine ny_thenP ?_
                   refine ny_blockP ?_
                   refine ny_thenP ?_
                   first
                   | exact ny_finP (fun w9 hs => ⟨.bad a69 e69, _, _, rfl, ⟨hro.symm.trans (loop_bad hgo hb69 (by omega)), _, _, _, _, _, rfl⟩, hs.sel (is := [0, 0, 0]) rfl⟩)
                   | exact ny_finP (fun w9 hs => ⟨.bad a71 e71, _, _, rfl, ⟨hro.symm.trans (loop_bad2 hgo hk69 (by rw [← hg69]; exact hb71) (by omega)), _, _, _, _, _, rfl⟩, hs.sel (is := [0, 0, 0]) rfl⟩)
                 · obtain ⟨hg69, hl69, hm69, rfl⟩ := hx69
                   replace hg69 : g69.1.tm = x69.1 := hg69
                   have hfw69 := read_fwd L lv (k - 1) _ (adv st2) x69 s69 (by show st2.at_ + 1 ≤ _; omega) hk69
                   have hww69 := read_wt L lv (k - 1) _ (adv st2) x69 s69 (by show st2.at_ + 1 ≤ _; omega) hk69
                   simp only [adv] at hfw69 hww69
                   rw [preW_succ hlt] at hww69
                   have hpw69 := hPW s69.at_
                   refine sy_nil rfl (ny_zyP hB8_6 hle69x ?_)
                   refine zy_1P 7 (by kernel_rfl) ?_
                   refine zop_runP rfl rfl (fun hB8_7 => ?_)
                   refine sy_buildSlice (cs := [g, g69.1].flatMap GT.cells) rfl (fun w => bsl_23_2_0x1 w) rfl rfl (fun b70 hb70 hM70 => ?_) (by first | exact hb0 | simp)
                   refine sy_frz 0 rfl hM70 (fun h70 hle70 hb70x => ?_)
                   have hr70 : RowsAt h70 (some ⟨b70, 0, none⟩) 4 ([g, g69.1].map GT.cells) := rows_blk (by decide) (GT.cells_len _) hb70x
                   refine sy_nil rfl (ny_zyP hB8_7 hle70 ?_)
                   refine zy_1P 8 (by kernel_rfl) ?_
                   refine zop_runP rfl rfl (fun hB8_8 => ?_)
                   refine sy_callRO [0] call_71 rfl rfl (mk_c (tokA L st2.at_).str (tokA_ok hqN st2.at_).2.1 [g, g69.1] (some ⟨b70, 0, none⟩) 2 r bm A c L lv _ ((hTz.le hle69x).le hle70) hL s69 (inn + 1) g69.2.2 hfw69.2.1 rfl hr70 (duoW (h := h70) ⟨(hlg.1.le hle69x).le hle70, hlg.2⟩ ⟨hl69.1.le hle70, hl69.2⟩ (by omega) (by rw [hg69]; omega)) (by simp) (by simp)) rfl rfl (fun a71 e71 h71x H71x hb71 hx71 hle71x => ?_) (fun x71 s71 g71 h71x H71x hk71 hx71 hle71x => ?_)
                   · subst hx71
                     refine ny_zyPP ?_
                     refine ny_blockP ?_
                     refine ny_thenP ?_
                     refine ny_blockP ?_
                     refine ny_thenP ?_
                     first
                     | exact ny_finP (fun w9 hs => ⟨.bad a69 e69, _, _, rfl, ⟨hro.symm.trans (loop_bad hgo hb69 (by omega)), _, _, _, _, _, rfl⟩, hs.sel (is := [0, 0, 0]) rfl⟩)
                     | exact ny_finP (fun w9 hs => ⟨.bad a71 e71, _, _, rfl, ⟨hro.symm.trans (loop_bad2 hgo hk69 (by rw [← hg69]; exact hb71) (by omega)), _, _, _, _, _, rfl⟩, hs.sel (is := [0, 0, 0]) rfl⟩)
                   · obtain ⟨hg71, hl71, rfl⟩ := hx71
                     have hst71 := (mkR_st hk71).symm
                     subst hst71
                     have hmw71 := mkR_wt hk71
                     rw [List.map_cons, List.map_cons, List.map_nil, wtTs_cons, wtTs_cons, wtTs_nil, hg69] at hmw71
                     refine sy_nil rfl (ny_zyP hB8_8 hle71x ?_)
                     refine zy_1P 10 (by kernel_rfl) ?_
                     refine zop_runP rfl rfl (fun hB8_10 => ?_)
                     first | refine sy_stl 0 sz_30 rfl rfl rfl rfl rfl rfl rfl rfl ?_ | refine sy_stl 1 sz_30 rfl rfl rfl rfl rfl rfl rfl rfl ?_ | refine sy_stl 2 sz_30 rfl rfl rfl rfl rfl rfl rfl rfl ?_ | refine sy_stl 3 sz_30 rfl rfl rfl rfl rfl rfl rfl rfl ?_ | refine sy_stl 4 sz_30 rfl rfl rfl rfl rfl rfl rfl rfl ?_ | refine sy_stl 5 sz_30 rfl rfl rfl rfl rfl rfl rfl rfl ?_
                     refine sy_nil rfl (ny_zyP hB8_10 (Hp.Le.refl _) ?_)
                     refine zy_qP 11 (fun c a d v w hq => by cases d <;> exact hq) rfl (by kernel_rfl) (fun hB8_11 => ?_)
                     refine sy_assign rfl rfl rfl ?_
                     refine sy_nil1 (ny_zqP hB8_11 ?_)
                     refine zy_doneP (by kernel_rfl) ?_
                     refine ny_blockN ?_
                     refine ny_roundK [0, 1, 4, 6] ⟨g71, (refInfix (tokA L st2.at_).str.data.toList).2.1, s69, g69.2.1, g69.2.2, h71x, m - 1⟩ [0, 3, 0, 0, 0] ⟨(by rw [hg71, ← loop_step hgo hk69 (by rw [← hg69]; exact hk71) (by omega)]; exact hro), (by show L.length + 1 ≤ m - 1 + s69.at_; omega), hfw69.2.1, (by show s69.names.length ≤ s69.at_; omega), hm69, (((hlez.trans hle8).trans hle69x).trans hle70).trans hle71x, hl71, (by show wtT g71.tm ≤ preW L s69.at_; rw [hg71]; omega)⟩ (by show L.length - s69.at_ < L.length - st2.at_; omega) rfl ⟨rfl, trivial⟩ rfl rfl
               · refine zop_runP rfl rfl (fun hB8_6 => ?_)
                 refine sy_callRO [0, 2, 2] call_37 rfl rfl (ihs (k - 1) (by omega) (inn + 1) (by omega) (by omega) (by omega) _ (adv st2) o2 vn2 _ hTz (by show st2.at_ + 1 ≤ _; omega) (by show st2.names.length ≤ st2.at_ + 1; omega) hm2) rfl rfl (fun a69 e69 h69x H69x hb69 hx69 hle69x => ?_) (fun x69 s69 g69 h69x H69x hk69 hx69 hle69x => ?_)
                 · obtain ⟨a9, i9, o9, v9, n9, rfl⟩ := hx69
                   refine ny_zyPP ?_
                   refine ny_blockP ?_
                   refine ny_thenP ?_
                   refine ny_blockP ?_
                   refine ny_thenP ?_
                   first
                   | exact ny_finP (fun w9 hs => ⟨.bad a69 e69, _, _, rfl, ⟨hro.symm.trans (loop_bad hgo hb69 (by omega)), _, _, _, _, _, rfl⟩, hs.sel (is := [0, 0, 0]) rfl⟩)
                   | exact ny_finP (fun w9 hs => ⟨.bad a71 e71, _, _, rfl, ⟨hro.symm.trans (loop_bad2 hgo hk69 (by rw [← hg69]; exact hb71) (by omega)), _, _, _, _, _, rfl⟩, hs.sel (is := [0, 0, 0]) rfl⟩)
                 · obtain ⟨hg69, hl69, hm69, rfl⟩ := hx69
                   replace hg69 : g69.1.tm = x69.1 := hg69
                   have hfw69 := read_fwd L lv (k - 1) _ (adv st2) x69 s69 (by show st2.at_ + 1 ≤ _; omega) hk69
                   have hww69 := read_wt L lv (k - 1) _ (adv st2) x69 s69 (by show st2.at_ + 1 ≤ _; omega) hk69
                   simp only [adv] at hfw69 hww69
                   rw [preW_succ hlt] at hww69
                   have hpw69 := hPW s69.at_
                   refine sy_nil rfl (ny_zyP hB8_6 hle69x ?_)
                   refine zy_1P 3 (by kernel_rfl) ?_
                   refine zop_runP rfl rfl (fun hB8_3 => ?_)
                   first | refine sy_ldar 0 agg_30 rfl rfl rfl rfl rfl ?_ | refine sy_ldar 1 agg_30 rfl rfl rfl rfl rfl ?_ | refine sy_ldar 2 agg_30 rfl rfl rfl rfl rfl ?_ | refine sy_ldar 3 agg_30 rfl rfl rfl rfl rfl ?_ | refine sy_ldar 4 agg_30 rfl rfl rfl rfl rfl ?_ | refine sy_ldar 5 agg_30 rfl rfl rfl rfl rfl ?_
                   refine sy_nil rfl (ny_zyP hB8_3 (Hp.Le.refl _) ?_)
                   refine zy_1P 7 (by kernel_rfl) ?_
                   refine zop_runP rfl rfl (fun hB8_7 => ?_)
                   refine sy_buildSlice (cs := [g, g69.1].flatMap GT.cells) rfl (fun w => bsl_23_2_0x1 w) rfl rfl (fun b70 hb70 hM70 => ?_) (by first | exact hb0 | simp)
                   refine sy_frz 0 rfl hM70 (fun h70 hle70 hb70x => ?_)
                   have hr70 : RowsAt h70 (some ⟨b70, 0, none⟩) 4 ([g, g69.1].map GT.cells) := rows_blk (by decide) (GT.cells_len _) hb70x
                   refine sy_nil rfl (ny_zyP hB8_7 hle70 ?_)
                   refine zy_1P 8 (by kernel_rfl) ?_
                   refine zop_runP rfl rfl (fun hB8_8 => ?_)
                   refine sy_callRO [0] call_71 rfl rfl (mk_c (tokA L st2.at_).str (tokA_ok hqN st2.at_).2.1 [g, g69.1] (some ⟨b70, 0, none⟩) 2 r bm A c L lv _ ((hTz.le hle69x).le hle70) hL s69 (inn + 1) g69.2.2 hfw69.2.1 rfl hr70 (duoW (h := h70) ⟨(hlg.1.le hle69x).le hle70, hlg.2⟩ ⟨hl69.1.le hle70, hl69.2⟩ (by omega) (by rw [hg69]; omega)) (by simp) (by simp)) rfl rfl (fun a71 e71 h71x H71x hb71 hx71 hle71x => ?_) (fun x71 s71 g71 h71x H71x hk71 hx71 hle71x => ?_)
                   · subst hx71
                     refine ny_zyPP ?_
                     refine ny_blockP ?_
                     refine ny_thenP ?_
                     refine ny_blockP ?_
                     refine ny_thenP ?_
                     first
                     | exact ny_finP (fun w9 hs => ⟨.bad a69 e69, _, _, rfl, ⟨hro.symm.trans (loop_bad hgo hb69 (by omega)), _, _, _, _, _, rfl⟩, hs.sel (is := [0, 0, 0]) rfl⟩)
                     | exact ny_finP (fun w9 hs => ⟨.bad a71 e71, _, _, rfl, ⟨hro.symm.trans (loop_bad2 hgo hk69 (by rw [← hg69]; exact hb71) (by omega)), _, _, _, _, _, rfl⟩, hs.sel (is := [0, 0, 0]) rfl⟩)
                   · obtain ⟨hg71, hl71, rfl⟩ := hx71
                     have hst71 := (mkR_st hk71).symm
                     subst hst71
                     have hmw71 := mkR_wt hk71
                     rw [List.map_cons, List.map_cons, List.map_nil, wtTs_cons, wtTs_cons, wtTs_nil, hg69] at hmw71
                     refine sy_nil rfl (ny_zyP hB8_8 hle71x ?_)
                     refine zy_1P 10 (by kernel_rfl) ?_
                     refine zop_runP rfl rfl (fun hB8_10 => ?_)
                     first | refine sy_stl 0 sz_30 rfl rfl rfl rfl rfl rfl rfl rfl ?_ | refine sy_stl 1 sz_30 rfl rfl rfl rfl rfl rfl rfl rfl ?_ | refine sy_stl 2 sz_30 rfl rfl rfl rfl rfl rfl rfl rfl ?_ | refine sy_stl 3 sz_30 rfl rfl rfl rfl rfl rfl rfl rfl ?_ | refine sy_stl 4 sz_30 rfl rfl rfl rfl rfl rfl rfl rfl ?_ | refine sy_stl 5 sz_30 rfl rfl rfl rfl rfl rfl rfl rfl ?_
                     refine sy_nil rfl (ny_zyP hB8_10 (Hp.Le.refl _) ?_)
                     refine zy_qP 11 (fun c a d v w hq => by cases d <;> exact hq) rfl (by kernel_rfl) (fun hB8_11 => ?_)
                     refine sy_assign rfl rfl rfl ?_
                     refine sy_nil1 (ny_zqP hB8_11 ?_)
                     refine zy_doneP (by kernel_rfl) ?_
                     refine ny_blockN ?_
                     refine ny_roundK [0, 1, 4, 6] ⟨g71, (refInfix (tokA L st2.at_).str.data.toList).2.1, s69, g69.2.1, g69.2.2, h71x, m - 1⟩ [0, 3, 0, 0, 0] ⟨(by rw [hg71, ← loop_step hgo hk69 (by rw [← hg69]; exact hk71) (by omega)]; exact hro), (by show L.length + 1 ≤ m - 1 + s69.at_; omega), hfw69.2.1, (by show s69.names.length ≤ s69.at_; omega), hm69, (((hlez.trans hle8).trans hle69x).trans hle70).trans hle71x, hl71, (by show wtT g71.tm ≤ preW L s69.at_; rw [hg71]; omega)⟩ (by show L.length - s69.at_ < L.length - st2.at_; omega) rfl ⟨rfl, trivial⟩ rfl rfl
end Go.Proofs.YtanhhihechakhaaDoor
set_option linter.unusedVariables false
set_option linter.unusedSimpArgs false
namespace Go.Proofs.YtanhhihechakhaaDoor.E
open Go.RowKit
section
variable {P : Program} {n : Nat} {w0 : World} {M : List Nat} {h0 : Hp} {f : Tab} {h : Hp} {H : List Res}
theorem enterRecN {X : Type} {i d1 d2 t1 t2 : Nat} {p1 p2 : String} {a1 a2 : Array Edge} {c2 : Code} {Φ : X → Hp → List Res → Prop} {F : Nat} {fn : Func} {vs : List Value} (hf : P.funcs[F]? = some fn)
    (hb : fn.body = some (.seq (.region i #[⟨some d1, .call ⟨.builtin .recover, #[], #[]⟩, t1, p1, a1, none⟩, ⟨some d2, .assign (.tmp d1), t2, p2, a2, none⟩] false) c2)) (hi : initO 0 vs = some f) (hn : Nat.ble vs.length fn.ntmps = true) (hd1 : Nat.blt d1 fn.ntmps = true) (hd2 : Nat.blt d2 fn.ntmps = true)
    (k : ∀ w, (∀ x ∈ keysOf H, x < w.heap.size) → Cy P c2 (bodyPost P fn fun e w' => ∃ x h' H', (∃ v, e = .returned v) ∧ Φ x h' H' ∧ St w (keysOf H) h h' H' w') fn.ntmps [] w (keysOf H) h ((d2, .nilIface) :: (d1, .nilIface) :: f) h H) :
    CRD P F vs .returning .returning h H Φ :=
 fun w hs ho => by
  have hst := St.startN hs ho
  refine callsD_of_wpS hf hb fun c0 cs hc0 => ?_
  have ha : Holds fn.ntmps [] f { tmps := vs.toArray ++ Array.replicate (fn.ntmps - vs.toArray.size) undef, defers := [] } := by
   refine ⟨?_, rfl, fun i v hiv => ?_⟩
   · have := Nat.le_of_ble_eq_true hn
     simp
     omega
   · obtain ⟨_, h1⟩ := initO_get hi i v hiv
     have hlt := (List.getElem?_eq_some_iff.1 h1).1
     simp only [Nat.sub_zero] at h1 hlt
     rw [Array.getElem?_append_left (by simpa using hlt)]
     simpa using h1
  refine wpS_seq (wpS_region ?_)
  have hr : ∀ ev : Operand → Value, (execOp ev ⟨some d1, .call ⟨.builtin .recover, #[], #[]⟩, t1, p1, a1, none⟩).run P w = .ok .recover w := fun ev => rfl
  have ha1 := ha.put d1 .nilIface hd1
  have hev := ha1.ev (v := .nilIface) (x := .tmp d1) (by simp [Tab.ev, Tab.get])
  have hrec : recoverD (c0 :: cs) = none := by simp [recoverD, hc0]
  show wpOpsS P _ _ [0, 1] _ _ _
  generalize hA0 : ({ tmps := vs.toArray ++ Array.replicate (fn.ntmps - vs.toArray.size) undef, defers := [] } : Act) = A0 at ha ha1 hev ⊢
  simp only [wpOpsS, List.getElem?_toArray, List.getElem?_cons_zero, List.getElem?_cons_succ, Region.wanted, if_true, hr, hrec]
  have h2 : (execOp (A0.put (some d1) .nilIface).eval ⟨some d2, .assign (.tmp d1), t2, p2, a2, none⟩).run P w = .ok (.value .nilIface) w := by
   simp [execOp, hev]
  rw [h2]
  refine wpS_of_wp (wp_mono (k w ho.lt _ w (ha1.put d2 .nilIface hd2) hst) ?_)
  intro e a' w' hq
  have hfr : ∃ c', (c0 :: cs) = c' :: cs ∧ c'.mode = .returning := ⟨c0, rfl, hc0⟩
  cases e with
  | normal =>
   obtain ⟨h1, v', h3, x, h', H', h4, h5, h6⟩ := hq
   exact ⟨h1, _, rfl, v', h3, x, h', H', hc0, h4, h5, h6⟩
  | ret =>
   obtain ⟨h1, v', h3, x, h', H', h4, h5, h6⟩ := hq
   exact ⟨h1, _, rfl, v', h3, x, h', H', hc0, h4, h5, h6⟩
  | panic ch =>
   obtain ⟨h1, x, h', H', ⟨v', h4⟩, h5, h6⟩ := hq
   cases h4
  | exit i => exact hq.elim
  | goto i => exact hq.elim
  | outgrown =>
   obtain ⟨x, h', H', ⟨v', h4⟩, h5, h6⟩ := hq
   cases h4
theorem enterXD {X : Type} {rv : X → Value} {Φ : X → Hp → Prop} {F : Nat} {fn : Func} {c : Code} {vs : List Value} (hf : P.funcs[F]? = some fn) (hb : fn.body = some c) (hi : initO 0 vs = some f) (hn : Nat.ble vs.length fn.ntmps = true)
    (k : ∀ w, Cy P c (bodyPostD P fn fun e w' => ∃ x h', e = .returned (rv x) ∧ Φ x h' ∧ Grow h w h' w') fn.ntmps [] w [] h f h []) : CX P F vs h rv Φ := fun w hs => enterMD' hf hb hi hn (St.start hs []) (k w)
theorem resc4 {fn : Func} {t1 t2 t3 t4 y1 y2 y3 y4 e1 e2 e3 e4 l : Nat} {f1 f2 f3 f4 : Nat × Nat} {b1 b2 b3 b4 : Nat} {cs vs : List Value} {v2 v3 v4 : Value} {H1 H2 H3 H4 : List Res} (i1 i2 i3 i4 : Nat) (hr : fn.results = #[.cell t1 y1, .cell t2 y2, .cell t3 y3, .cell t4 y4]) (g1 : aggB P y1 l = true) (g2 : oneB P y2 = true) (g3 : oneB P y3 = true) (g4 : oneB P y4 = true)
    (k1 : f.get t1 = some (.pointer (some ⟨b1, 0, none⟩))) (k2 : f.get t2 = some (.pointer (some ⟨b2, 0, none⟩))) (k3 : f.get t3 = some (.pointer (some ⟨b3, 0, none⟩))) (k4 : f.get t4 = some (.pointer (some ⟨b4, 0, none⟩)))
    (p1 : pickR i1 H = some (.blk b1 (.cells cs.toArray e1 f1), H1)) (p2 : pickR i2 H = some (.blk b2 (.cells [v2].toArray e2 f2), H2)) (p3 : pickR i3 H = some (.blk b3 (.cells [v3].toArray e3 f3), H3)) (p4 : pickR i4 H = some (.blk b4 (.cells [v4].toArray e4 f4), H4)) (hc : sliceO 0 l cs = some vs) :
    ∀ a w, Holds n [] f a → St w0 M h0 h H w → (results fn a.tmps).run P w = .ok (.tuple #[.agg vs.toArray, v2, v3, v4]) w := fun a w ha hs => by
 have h1 := ha.get t1 _ k1
 have h2 := ha.get t2 _ k2
 have h3 := ha.get t3 _ k3
 have h4 := ha.get t4 _ k4
 have hb1 : w.heap[b1]? = some (.cells cs.toArray e1 f1) := (hs.swap (pickR_perm p1)).ok _ (List.mem_cons_self)
 have hb2 : w.heap[b2]? = some (.cells [v2].toArray e2 f2) := (hs.swap (pickR_perm p2)).ok _ (List.mem_cons_self)
 have hb3 : w.heap[b3]? = some (.cells [v3].toArray e3 f3) := (hs.swap (pickR_perm p3)).ok _ (List.mem_cons_self)
 have hb4 : w.heap[b4]? = some (.cells [v4].toArray e4 f4) := (hs.swap (pickR_perm p4)).ok _ (List.mem_cons_self)
 obtain ⟨h5, h6⟩ := agg_spec g1 w
 obtain ⟨h7, h8⟩ := sliceO_spec hc
 subst h7
 have ho2 := one_spec g2 w
 have ho3 := one_spec g3 w
 have ho4 := one_spec g4 w
 have c2 : w.cell? ⟨b2, 0, none⟩ = some v2 := by simp [World.cell?, hb2]
 have c3 : w.cell? ⟨b3, 0, none⟩ = some v3 := by simp [World.cell?, hb3]
 have c4 : w.cell? ⟨b4, 0, none⟩ = some v4 := by simp [World.cell?, hb4]
 have hl := run_loadCells_list (P := P) w ⟨b1, 0, none⟩ vs (fun j u hj => by
  rw [Addr.add_at]
  have := h8 j u hj
  simp only [Nat.zero_add] at this ⊢
  simp [World.cell?, hb1, this])
 simp [results, hr, h1, h2, h3, h4, asAddr, loadVar, h5, h6, hl, ho2, ho3, ho4, c2, c3, c4]
end
section
variable {m : Md} {P : Program} {ops : Array Oper} {Q : Exit → Act → World → Prop} {n : Nat} {D : List Deferred} {w0 : World} {M : List Nat} {h0 : Hp}
variable {f : Tab} {h : Hp} {H : List Res} {rest : List Oper} {d t s : Nat} {p : String} {af : Array Edge} {g : Option (Nat × Bool)}
theorem sy_fieldv {x : Operand} {vx v : Value} {xT fi : Nat} (hx : f.ev x = some vx) (hr : ∀ w, (Instr.field xT vx fi).run P w = .ok v w) (hw : gok ops f g = some true) (hn : Nat.blt d n = true)
    (k : Sy m P ops Q n D w0 M h0 rest ((d, v) :: f) h H) : Sy m P ops Q n D w0 M h0 (⟨some d, .field xT x fi, t, p, af, g⟩ :: rest) f h H :=
 sy_val hw rfl hn (fun a w ha _ => by simp [execOp, ha.ev hx, hr]) k
theorem cy_rowform {c : Code} {v : Value} {e sz l : Nat} {xs : List Value} {H1 : List Res} (i : Nat) (hp : pickR i H = some (.row v e sz l xs, H1)) (k : ∀ A cc, v = .slice A l cc → Cy P c Q n D w0 M h0 f h H) : Cy P c Q n D w0 M h0 f h H := fun a w ha hs => by
 have hr : w.ownsRow 0 e sz v l xs := (hs.swap (pickR_perm hp)).ok _ (List.mem_cons_self)
 rcases hr.2 with ⟨rfl, rfl⟩ | ⟨g, cap, cur, rfl, _⟩
 · exact k none 0 rfl a w ha hs
 · exact k _ cap rfl a w ha hs
end
end Go.Proofs.YtanhhihechakhaaDoor.E
set_option linter.unusedVariables false
set_option linter.unusedSimpArgs false
namespace Go.Proofs.YtanhhihechakhaaDoor.ReadP
open Go.RowKit Go.Proofs.YtanhhihechakhaaDoor.E Go.Proofs.YtanhhihechakhaaDoor.TokP Go.Proofs.YtanhhihechakhaaDoor.TermP Go.Proofs.YtanhhihechakhaaDoor.WrP Go.Proofs.YtanhhihechakhaaDoor.OpsP
def iotaI (n : Nat) : List Int := (List.range n).map fun i : Nat => (i : Int)
theorem iota_succ (n : Nat) : iotaI n ++ [(n : Int)] = iotaI (n + 1) := by simp [iotaI, List.range_succ]
theorem iota_has (n i : Nat) : (iotaI n).contains (i : Int) = decide (i < n) := by
 rw [Bool.eq_iff_iff, List.contains_iff_mem, decide_eq_true_iff]
 unfold iotaI
 rw [List.mem_map]
 constructor
 · rintro ⟨a, ha, he⟩
   rw [List.mem_range] at ha
   have he : ((a : Nat) : Int) = ((i : Nat) : Int) := he
   omega
 · intro h
   exact ⟨i, List.mem_range.2 h, rfl⟩
theorem iota_at {n k : Nat} {v : Int} (h : (iotaI n)[k]? = some v) : v = (k : Int) := by
 unfold iotaI at h
 rw [List.getElem?_map] at h
 have hl : k < (List.range n).length := by
  rcases Nat.lt_or_ge k (List.range n).length with h1 | h1
  · exact h1
  · rw [List.getElem?_eq_none h1] at h; cases h
 rw [List.getElem?_eq_getElem hl, List.getElem_range] at h
 exact (Option.some.inj h).symm
theorem varsF_nil (l : List Int) : varsF l [] = l := rfl
theorem varsF_cons (l : List Int) (p : Tm) (ps : List Tm) : varsF l (p :: ps) = varsF (if p.k = 1 ∧ ¬ l.contains p.n = true then l ++ [p.n] else l) ps := rfl
theorem varsF_app (l : List Int) (p q : List Tm) : varsF l (p ++ q) = varsF (varsF l p) q := by simp [varsF, List.foldl_append]
theorem varsF_skip {p : Tm} (l : List Int) (ps : List Tm) (h : ¬ p.k = 1) : varsF l (p :: ps) = varsF l ps := by
 rw [varsF_cons, if_neg (fun h9 => h h9.1)]
theorem vf_fun (l : List Int) (s : ByteArray) (k : List Tm) : varsF l (partsT (funT s k)) = varsF l (partsTs k) := by
 unfold funT
 rw [parts_mk, varsF_skip _ _ (by show ¬ (3 : Int) = 1; decide)]
theorem vf_two (l : List Int) (x y : Tm) : varsF l (partsTs [x, y]) = varsF (varsF l (partsT x)) (partsT y) := by
 rw [partsTs_cons, partsTs_cons, partsTs_nil, List.append_nil, varsF_app]
theorem vf_one (l : List Int) (x : Tm) : varsF l (partsTs [x]) = varsF l (partsT x) := by
 rw [partsTs_cons, partsTs_nil, List.append_nil]
theorem vfs_cons (l : List Int) (x : Tm) (r : List Tm) : varsF l (partsTs (x :: r)) = varsF (varsF l (partsT x)) (partsTs r) := by
 rw [partsTs_cons, varsF_app]
theorem vfs_snoc : ∀ (l : List Int) (r : List Tm) (x : Tm), varsF l (partsTs (r ++ [x])) = varsF (varsF l (partsTs r)) (partsT x)
 | l, [], x => by rw [List.nil_append, vf_one, partsTs_nil, varsF_nil]
 | l, y :: r, x => by rw [List.cons_append, vfs_cons, vfs_cons, vfs_snoc]
theorem vf_pairs : ∀ (l : List Int) (r : List Tm) (last : Tm), varsF l (partsT (pairsR r last)) = varsF (varsF l (partsTs r)) (partsT last)
 | l, [], last => by rw [partsTs_nil, varsF_nil]; rfl
 | l, x :: r, last => by
  have e : pairsR (x :: r) last = funT pairS [x, pairsR r last] := rfl
  rw [e, vf_fun, vf_two, vf_pairs, vfs_cons]
def Lf (x : Tm) : Prop := x.k = 2 → x.kids = []
def Or1 (st : RSt) (x : Tm) (s : RSt) : Prop := varsF (iotaI st.names.length) (partsT x) = iotaI s.names.length ∧ Lf x
def OrT (tm : Rd) : Prop := ∀ most st x s, tm most st = .ok x s → Or1 st x.1 s
theorem lf_fun (s : ByteArray) (l : List Tm) : Lf (funT s l) := fun h => by
 have h : (3 : Int) = 2 := h
 exact absurd h (by decide)
section
variable {L : List RT} {lv : Int} {tm : Rd}
theorem var_ord (s : ByteArray) (st : RSt) : Or1 st (varR s st).1 (varR s st).2 := by
 have new : Or1 st (letT st.names.length) ⟨st.at_, st.names ++ [s]⟩ := by
  refine ⟨?_, fun h => rfl⟩
  unfold letT
  rw [parts_mk, partsTs_nil, varsF_cons, varsF_nil, if_pos ⟨rfl, by show ¬ (iotaI st.names.length).contains ((st.names.length : Nat) : Int) = true; rw [iota_has]; simp⟩]
  show iotaI st.names.length ++ [((st.names.length : Nat) : Int)] = iotaI (st.names ++ [s]).length
  rw [iota_succ, List.length_append, List.length_cons, List.length_nil]
 unfold varR
 split
 · rename_i i hi
   split
   · exact new
   · refine ⟨?_, fun h => rfl⟩
     have hlt : i < st.names.length := by
      have : ∀ {l : List ByteArray} {s : ByteArray} {i : Nat}, lastI l s = some i → i < l.length := by
       intro l
       induction l with
       | nil => intro s i h; cases h
       | cons x l ih =>
        intro s i h
        simp only [lastI] at h
        split at h
        · rename_i j hj
          have := ih hj
          cases h
          rw [List.length_cons]
          omega
        · split at h
          · cases h
            rw [List.length_cons]
            omega
          · cases h
      exact this hi
     unfold letT
     rw [parts_mk, partsTs_nil, varsF_cons, varsF_nil, if_neg]
     rintro ⟨_, h2⟩
     apply h2
     show (iotaI st.names.length).contains ((i : Nat) : Int) = true
     rw [iota_has, decide_eq_true_iff]
     exact hlt
 · exact new
theorem mk_ord {s : ByteArray} {l : List Tm} {st s2 : RSt} {x : Tm} {n m : Nat} (h : mkR lv s l st = .ok x s2) (hv : varsF (iotaI n) (partsTs l) = iotaI m) (hl : ∀ x ∈ l, Lf x) : varsF (iotaI n) (partsT x) = iotaI m ∧ Lf x := by
 unfold mkR at h
 split at h
 · rename_i x0 n0
   split at h
   · split at h
     · rename_i hc
       cases h
       refine ⟨?_, fun h9 => ?_⟩
       · rw [parts_mk, varsF_skip _ _ (by show ¬ (4 : Int) = 1; decide), vf_one]
         rw [vf_two] at hv
         have hk := hl n0 (by simp) hc.1
         have hp : partsT n0 = [n0] := by
          cases n0 with
          | mk k n s kids =>
           have : kids = [] := hk
           subst this
           rw [parts_mk, partsTs_nil]
         rw [hp, varsF_skip _ _ (by rw [hc.1]; decide), varsF_nil] at hv
         exact hv
       · have h9 : (4 : Int) = 2 := h9
         exact absurd h9 (by decide)
     · cases h
   · cases h
     exact ⟨by rw [vf_fun]; exact hv, lf_fun _ _⟩
 · cases h
   exact ⟨by rw [vf_fun]; exact hv, lf_fun _ _⟩
theorem more_ord (ht : OrT tm) {n0 : Nat} : ∀ (n : Nat) (acc : List Tm) (st : RSt) (l : List Tm) (s : RSt), varsF (iotaI n0) (partsTs acc) = iotaI st.names.length → (∀ x ∈ acc, Lf x) → moreR L tm n acc st = .ok l s → varsF (iotaI n0) (partsTs l) = iotaI s.names.length ∧ ∀ x ∈ l, Lf x
 | 0, acc, st, l, s, h1, h2, h => by cases h; exact ⟨h1, h2⟩
 | n + 1, acc, st, l, s, h1, h2, h => by
  unfold moreR at h
  split at h
  · split at h
    · rename_i x s2 h3
      have h4 := ht _ _ _ _ h3
      refine more_ord ht n _ s2 l s ?_ ?_ h
      · rw [vfs_snoc, h1]
        exact h4.1
      · intro y hy
        rcases List.mem_append.1 hy with hy | hy
        · exact h2 y hy
        · rw [List.mem_singleton.1 hy]; exact h4.2
    · cases h
  · cases h; exact ⟨h1, h2⟩
theorem args_ord (ht : OrT tm) {st s : RSt} {l : List Tm} (h : argsR L tm st = .ok l s) : varsF (iotaI st.names.length) (partsTs l) = iotaI s.names.length ∧ ∀ x ∈ l, Lf x := by
 unfold argsR at h
 split at h
 · rename_i x s2 h3
   have h4 := ht _ _ _ _ h3
   refine more_ord ht _ _ s2 l s ?_ ?_ h
   · rw [vf_one]; exact h4.1
   · intro y hy
     rw [List.mem_singleton.1 hy]; exact h4.2
 · cases h
theorem want_ord {α : Type} {c : List UInt8} {x y : α} {st s : RSt} (h : wantR L c x st = .ok y s) : y = x ∧ s.names = st.names := by
 have := want_fwd h
 exact ⟨this.1, by rw [this.2.1]; rfl⟩
theorem nil_ord (n : Nat) : varsF (iotaI n) (partsT nilT) = iotaI n := by
 unfold nilT
 rw [vf_fun, partsTs_nil, varsF_nil]
theorem list_ord (ht : OrT tm) {st s : RSt} {x : Tm} (h : listR L tm st = .ok x s) : Or1 st x s := by
 unfold listR at h
 split at h
 · cases h
   exact ⟨nil_ord _, lf_fun _ _⟩
 · split at h
   · cases h
   · rename_i l s2 h2
     have h3 := args_ord ht h2
     have lfp : ∀ last, Lf last → Lf (pairsR l last) := fun last hl => by
      cases l with
      | nil => exact hl
      | cons x l => exact lf_fun _ _
     split at h
     · split at h
       · rename_i y s3 h4
         have h5 := ht _ _ _ _ h4
         have h6 := want_ord h
         rw [h6.1]
         refine ⟨?_, lfp _ h5.2⟩
         rw [vf_pairs, h3.1, h6.2]
         exact h5.1
       · cases h
     · have h6 := want_ord h
       rw [h6.1]
       refine ⟨?_, lfp _ (lf_fun _ _)⟩
       rw [vf_pairs, h3.1, h6.2]
       exact nil_ord _
theorem atom_ord (s : ByteArray) (st : RSt) : Or1 st (funT s []) st := ⟨by rw [vf_fun, partsTs_nil, varsF_nil], lf_fun _ _⟩
theorem num_ord (n : Int) {st s : RSt} (h : s.names = st.names) : Or1 st (numT n) s := by
 refine ⟨?_, fun _ => rfl⟩
 unfold numT
 rw [parts_mk, varsF_skip _ _ (by show ¬ (2 : Int) = 1; decide), partsTs_nil, varsF_nil, h]
theorem name_ord (ht : OrT tm) {t : RT} {most : Int} {st : RSt} {x : Tm × Int} {s : RSt} (h : nameR L lv tm t most st = .ok x s) : Or1 st x.1 s := by
 unfold nameR at h
 split at h
 · split at h
   · cases h
   · rename_i l s2 h2
     split at h
     · cases h
     · rename_i l2 s3 h4
       have h3 := args_ord ht h2
       have h5 := want_ord h4
       obtain ⟨y, h6, rfl⟩ := map_ok h
       have h7 := mkR_st h6
       rw [h5.1] at h6
       have h8 := mk_ord h6 h3.1 h3.2
       unfold Or1
       rw [h7, h5.2]
       exact h8
 · split at h
   · cases h; exact atom_ord _ _
   · split at h
     · cases h; exact num_ord _ rfl
     · split at h
       · split at h
         · cases h
         · rename_i y s2 h2
           have h3 := ht _ _ _ _ h2
           obtain ⟨z, h6, rfl⟩ := map_ok h
           have h7 := mkR_st h6
           have h8 := mk_ord h6 (n := st.names.length) (m := s2.names.length) (by rw [vf_one]; exact h3.1) (fun x hx => by rw [List.mem_singleton.1 hx]; exact h3.2)
           unfold Or1
           rw [h7]
           exact h8
       · cases h; exact atom_ord _ _
theorem first_ord (ht : OrT tm) : OrT (firstR L lv tm) := fun most st x s h => by
 unfold firstR at h
 split at h
 · cases h
 · split at h
   · cases h; exact num_ord _ rfl
   · split at h
     · cases h; exact var_ord _ (adv st)
     · split at h
       · exact name_ord ht (st := adv st) h
       · split at h
         · split at h
           · cases h
           · rename_i y s2 h2
             have h3 := ht _ _ _ _ h2
             have h4 := want_ord h
             rw [h4.1]
             unfold Or1
             rw [h4.2]
             exact h3
         · split at h
           · obtain ⟨y, h2, rfl⟩ := map_ok h
             exact list_ord ht (st := adv st) h2
           · cases h
theorem loop_ord (ht : OrT tm) (most : Int) {n0 : Nat} : ∀ (n : Nat) (x : Tm) (pri : Int) (st : RSt) (y : Tm × Int) (s : RSt), varsF (iotaI n0) (partsT x) = iotaI st.names.length → Lf x → loopR L lv tm most n x pri st = .ok y s → varsF (iotaI n0) (partsT y.1) = iotaI s.names.length ∧ Lf y.1
 | 0, x, pri, st, y, s, h1, h2, h => by cases h; exact ⟨h1, h2⟩
 | n + 1, x, pri, st, y, s, h1, h2, h => by
  unfold loopR at h
  split at h
  · split at h
    · cases h
    · rename_i z s2 h3
      have h4 := ht _ _ _ _ h3
      split at h
      · cases h
      · rename_i z2 s3 h5
        have h6 := mkR_st h5
        subst h6
        have h7 := mk_ord h5 (n := n0) (m := s3.names.length) (by rw [vf_two, h1]; exact h4.1) (fun w hw => by
         rcases List.mem_cons.1 hw with rfl | hw
         · exact h2
         · rw [List.mem_singleton.1 hw]; exact h4.2)
        exact loop_ord ht most n _ _ _ y s h7.1 h7.2 h
  · cases h; exact ⟨h1, h2⟩
end
theorem read_ord (L : List RT) (lv : Int) : ∀ k : Nat, OrT (readT L lv k) := fun k => by
 induction k using Nat.strongRecOn with
 | _ k ih =>
  match k, ih with
  | 0, _ => intro most st x s h; rw [readT] at h; cases h
  | 1, _ => intro most st x s h; rw [readT] at h; cases h
  | k + 2, ih =>
   intro most st x s h
   simp only [readT] at h
   split at h
   · cases h
   · rename_i y s2 h2
     have h3 := first_ord (ih k (by omega)) most st y s2 h2
     have h4 := loop_ord (ih (k + 1) (by omega)) most _ _ _ s2 x s h3.1 h3.2 h
     exact h4
theorem readS_may {L : List RT} {lv : Int} {i : Nat} {x : Tm} {s : RSt} (h : readS L lv i = .ok x s) : chkT lv x = 0 ∧ ∃ n, varsT x = iotaI n := by
 unfold readS at h
 split at h
 · cases h
 · rename_i y s2 h2
   split at h
   · split at h
     · rename_i hc
       cases h
       exact ⟨hc, _, (read_ord L lv 60 _ _ _ _ h2).1⟩
     · cases h
   · cases h
theorem allS_may {L : List RT} {lv : Int} : ∀ (k i : Nat) (acc l : List Tm), (∀ x ∈ acc, chkT lv x = 0 ∧ ∃ n, varsT x = iotaI n) → allS L lv k i acc = .ok l → ∀ x ∈ l, chkT lv x = 0 ∧ ∃ n, varsT x = iotaI n
 | 0, i, acc, l, ha, h => by cases h; exact ha
 | k + 1, i, acc, l, ha, h => by
  unfold allS at h
  split at h
  · cases h; exact ha
  · split at h
    · cases h
    · rename_i x s h2
      refine allS_may k s.at_ _ l (fun y hy => ?_) h
      rcases List.mem_append.1 hy with hy | hy
      · exact ha y hy
      · rw [List.mem_singleton.1 hy]; exact readS_may h2
def allA (lv : Int) (l : List UInt8) : RA := match scanA l with
 | .bad a w e => .bad a e
 | .ok ts => allS (ts.map rtOf) lv (ts.length + 1) 0 []
theorem allA_may {lv : Int} {t : List UInt8} {l : List Tm} (h : allA lv t = .ok l) : ∀ x ∈ l, chkT lv x = 0 ∧ ∃ n, varsT x = iotaI n := by
 unfold allA at h
 split at h
 · cases h
 · exact allS_may _ _ _ _ (fun x hx => (List.not_mem_nil hx).elim) h
end Go.Proofs.YtanhhihechakhaaDoor.ReadP
set_option linter.unusedVariables false
set_option linter.unusedSimpArgs false
namespace Go.Proofs.YtanhhihechakhaaDoor.ReadP
open Go.RowKit Go.Proofs.YtanhhihechakhaaDoor.E Go.Proofs.YtanhhihechakhaaDoor.TokP Go.Proofs.YtanhhihechakhaaDoor.TermP Go.Proofs.YtanhhihechakhaaDoor.WrP Go.Proofs.YtanhhihechakhaaDoor.OpsP
def shR (d : Nat) (st : RSt) : RSt := ⟨st.at_ + d, st.names⟩
theorem adv_sh (d : Nat) (st : RSt) : adv (shR d st) = shR d (adv st) := by
 unfold adv shR
 simp only [RSt.mk.injEq, and_true]
 omega
def StopR (t : RT) : Prop := t.kind = 0 ∨ t.kind = 5 ∨ (t.kind = 4 ∧ t.str.data.toList = [41])
structure Simu (L L' : List RT) (d hi : Nat) : Prop where
 eq : ∀ i, i < hi → tokA L' (i + d) = tokA L i
 stop : StopR (tokA L hi)
 nopar : isP L hi [41] = false
 stop' : StopR (tokA L' (hi + d))
 le : hi ≤ L.length
 le' : hi + d ≤ L'.length
def SimO {α : Type} (d hi : Nat) (P : Prop) (r r' : RO α) : Prop := ∀ x s, r = .ok x s → s.at_ ≤ hi ∧ (r' = .ok x (shR d s) ∨ (P ∧ ∃ a, r' = .bad a 7))
def SimT (d hi : Nat) (P : Prop) (tm tm' : Rd) : Prop := ∀ most st, st.at_ ≤ hi → SimO d hi P (tm most st) (tm' most (shR d st))
theorem stop_p {L : List RT} {i : Nat} (h : StopR (tokA L i)) {c : List UInt8} (hc : ¬ c = [41]) : isP L i c = false := by
 unfold isP
 rcases h with h | h | ⟨h, h2⟩
 · rw [h]; rfl
 · rw [h]; rfl
 · rw [h2]
   cases hb : ([41] == c) with
   | false => rw [Bool.and_false]
   | true => exact absurd (eq_of_beq hb).symm hc
theorem stop_k {t : RT} (h : StopR t) : ¬ t.kind = 1 ∧ ¬ t.kind = 2 ∧ ¬ t.kind = 3 := by
 rcases h with h | h | ⟨h, _⟩ <;> rw [h] <;> decide
section
variable {L L' : List RT} {d hi : Nat} {P : Prop} {lv : Int} {tm tm' : Rd}
theorem sim_lt (S : Simu L L' d hi) {i : Nat} {c : List UInt8} (hi' : i < hi) : isP L' (i + d) c = isP L i c := by unfold isP; rw [S.eq i hi']
theorem sim_p (S : Simu L L' d hi) {i : Nat} {c : List UInt8} (hle : i ≤ hi) (hc : ¬ c = [41]) : isP L' (i + d) c = isP L i c := by
 rcases Nat.lt_or_eq_of_le hle with h | h
 · exact sim_lt S h
 · subst h
   rw [stop_p S.stop hc, stop_p S.stop' hc]
theorem sim_yes (S : Simu L L' d hi) {i : Nat} {c : List UInt8} (hle : i ≤ hi) (h : isP L i c = true) : i < hi ∧ isP L' (i + d) c = true := by
 rcases Nat.lt_or_eq_of_le hle with h1 | h1
 · exact ⟨h1, by rw [sim_lt S h1]; exact h⟩
 · subst h1
   by_cases hc : c = [41]
   · subst hc
     rw [S.nopar] at h
     cases h
   · rw [stop_p S.stop hc] at h
     cases h
theorem sim_want {α : Type} (S : Simu L L' d hi) {c : List UInt8} {x : α} {st : RSt} (hle : st.at_ ≤ hi) : SimO d hi P (wantR L c x st) (wantR L' c x (shR d st)) := fun y s h => by
 unfold wantR at h
 split at h
 · rename_i hp
   have h1 := sim_yes S hle hp
   cases h
   refine ⟨h1.1, .inl ?_⟩
   unfold wantR
   have h2 : isP L' (shR d st).at_ c = true := h1.2
   rw [if_pos h2, adv_sh]
 · cases h
theorem mk_sim {s : ByteArray} {l : List Tm} {st s2 : RSt} {x : Tm} (h : mkR lv s l st = .ok x s2) : mkR lv s l (shR d st) = .ok x (shR d s2) := by
 unfold mkR at h ⊢
 split at h
 · split at h
   · rename_i hs
     rw [if_pos hs]
     split at h
     · rename_i hc
       rw [if_pos hc]
       cases h
       rfl
     · cases h
   · rename_i hs
     rw [if_neg hs]
     cases h
     rfl
 · cases h
   rfl
theorem var_sim (s : ByteArray) (st : RSt) : varR s (shR d st) = ((varR s st).1, shR d (varR s st).2) := by
 unfold varR
 have e : (shR d st).names = st.names := rfl
 rw [e]
 split
 · split <;> rfl
 · rfl
theorem more_sim (S : Simu L L' d hi) (hf : Fwd L tm) (ht : SimT d hi P tm tm') : ∀ (n n' : Nat) (acc : List Tm) (st : RSt), st.at_ ≤ hi → hi + 1 ≤ n + st.at_ → hi + 1 ≤ n' + st.at_ → SimO d hi P (moreR L tm n acc st) (moreR L' tm' n' acc (shR d st))
 | 0, n', acc, st, h0, h1, h2 => by omega
 | n + 1, 0, acc, st, h0, h1, h2 => by omega
 | n + 1, n' + 1, acc, st, h0, h1, h2 => fun y s h => by
  unfold moreR at h
  have e : isP L' (shR d st).at_ [44] = isP L st.at_ [44] := sim_p S h0 (by decide)
  split at h
  · rename_i hp
    have hy := sim_yes S h0 hp
    split at h
    · rename_i x s2 h3
      have h4 := ht 999 (adv st) hy.1 _ _ h3
      have h5 := hf _ _ _ _ (show (adv st).at_ ≤ L.length by have := S.le; show st.at_ + 1 ≤ _; omega) h3
      have ha : (adv st).at_ = st.at_ + 1 := rfl
      have h6 := more_sim S hf ht n n' (acc ++ [x.1]) s2 h4.1 (by omega) (by omega) y s h
      refine ⟨h6.1, ?_⟩
      unfold moreR
      rw [e, if_pos hp, adv_sh]
      rcases h4.2 with h4 | ⟨hP, a, h4⟩
      · rw [h4]
        exact h6.2
      · rw [h4]
        exact .inr ⟨hP, a, rfl⟩
    · cases h
  · rename_i hp
    cases h
    refine ⟨h0, .inl ?_⟩
    unfold moreR
    rw [e, if_neg hp]
theorem args_sim (S : Simu L L' d hi) (hf : Fwd L tm) (ht : SimT d hi P tm tm') {st : RSt} (h0 : st.at_ ≤ hi) : SimO d hi P (argsR L tm st) (argsR L' tm' (shR d st)) := fun y s h => by
 unfold argsR at h
 split at h
 · rename_i x s2 h3
   have h4 := ht 999 st h0 _ _ h3
   have hl := S.le
   have hl' := S.le'
   have h6 := more_sim S hf ht (L.length + 1) (L'.length + 1) [x.1] s2 h4.1 (by omega) (by omega) y s h
   refine ⟨h6.1, ?_⟩
   unfold argsR
   rcases h4.2 with h4 | ⟨hP, a, h4⟩
   · rw [h4]
     exact h6.2
   · rw [h4]
     exact .inr ⟨hP, a, rfl⟩
 · cases h
theorem list_sim (S : Simu L L' d hi) (hf : Fwd L tm) (ht : SimT d hi P tm tm') {st : RSt} (h0 : st.at_ ≤ hi) : SimO d hi P (listR L tm st) (listR L' tm' (shR d st)) := fun y s h => by
 unfold listR at h
 have e : isP L' (shR d st).at_ [93] = isP L st.at_ [93] := sim_p S h0 (by decide)
 split at h
 · rename_i hp
   have hy := sim_yes S h0 hp
   cases h
   refine ⟨hy.1, .inl ?_⟩
   unfold listR
   rw [e, if_pos hp, adv_sh]
 · rename_i hp
   unfold listR
   rw [e, if_neg hp]
   split at h
   · cases h
   · rename_i l s2 h2
     have h3 := args_sim S hf ht h0 _ _ h2
     have e2 : isP L' (shR d s2).at_ [124] = isP L s2.at_ [124] := sim_p S h3.1 (by decide)
     split at h
     · rename_i hq
       have hy := sim_yes S h3.1 hq
       split at h
       · rename_i x s3 h4
         have h5 := ht 999 (adv s2) hy.1 _ _ h4
         have h6 := sim_want (P := P) S h5.1 _ _ h
         refine ⟨h6.1, ?_⟩
         rcases h3.2 with h3 | ⟨hP, a, h3⟩
         · rw [h3]
           simp only
           rw [e2, if_pos hq, adv_sh]
           rcases h5.2 with h5 | ⟨hP, a, h5⟩
           · rw [h5]
             exact h6.2
           · rw [h5]
             exact .inr ⟨hP, a, rfl⟩
         · rw [h3]
           exact .inr ⟨hP, a, rfl⟩
       · cases h
     · rename_i hq
       have h6 := sim_want (P := P) S h3.1 _ _ h
       refine ⟨h6.1, ?_⟩
       rcases h3.2 with h3 | ⟨hP, a, h3⟩
       · rw [h3]
         simp only
         rw [e2, if_neg hq]
         exact h6.2
       · rw [h3]
         exact .inr ⟨hP, a, rfl⟩
theorem simo_map {α β : Type} {f : α → β} {r r' : RO α} (h : SimO d hi P r r') : SimO d hi P (mapR f r) (mapR f r') := fun y s h1 => by
 obtain ⟨x, h2, rfl⟩ := map_ok h1
 have h3 := h x s h2
 refine ⟨h3.1, ?_⟩
 rcases h3.2 with h3 | ⟨hP, a, h3⟩
 · rw [h3]; exact .inl rfl
 · rw [h3]; exact .inr ⟨hP, a, rfl⟩
theorem simo_ok {α : Type} {x : α} {s : RSt} (h : s.at_ ≤ hi) : SimO d hi P (.ok x s) (.ok x (shR d s)) := fun y s2 h1 => by
 cases h1
 exact ⟨h, .inl rfl⟩
theorem begins_stop {t : RT} (h : StopR t) : beginsR t = false := by
 unfold beginsR
 rcases h with h | h | ⟨h, h2⟩
 · rw [h]; rfl
 · rw [h]; rfl
 · rw [h, h2]; rfl
theorem name_sim (S : Simu L L' d hi) (hf : Fwd L tm) (ht : SimT d hi P tm tm') {t : RT} {most : Int} {st : RSt} (h0 : st.at_ ≤ hi) : SimO d hi P (nameR L lv tm t most st) (nameR L' lv tm' t most (shR d st)) := fun y s h => by
 have c1 : ((tokA L' (shR d st).at_).tight = true ∧ isP L' (shR d st).at_ [40] = true) ↔ ((tokA L st.at_).tight = true ∧ isP L st.at_ [40] = true) := by
  have e : isP L' (shR d st).at_ [40] = isP L st.at_ [40] := sim_p S h0 (by decide)
  rw [e]
  rcases Nat.lt_or_eq_of_le h0 with h1 | h1
  · have e2 : tokA L' (shR d st).at_ = tokA L st.at_ := S.eq _ h1
    rw [e2]
  · rw [h1, stop_p S.stop (by decide)]
    simp
 have c2 : (t.str.data.toList = [45] ∧ (tokA L' (shR d st).at_).tight = true ∧ (tokA L' (shR d st).at_).kind = 3) ↔ (t.str.data.toList = [45] ∧ (tokA L st.at_).tight = true ∧ (tokA L st.at_).kind = 3) := by
  rcases Nat.lt_or_eq_of_le h0 with h1 | h1
  · have e2 : tokA L' (shR d st).at_ = tokA L st.at_ := S.eq _ h1
    rw [e2]
  · have e2 : tokA L' (shR d st).at_ = tokA L' (hi + d) := by rw [← h1]; rfl
    rw [e2, h1]
    have k1 := (stop_k S.stop).2.2
    have k2 := (stop_k S.stop').2.2
    simp [k1, k2]
 have c3 : beginsR (tokA L' (shR d st).at_) = beginsR (tokA L st.at_) := by
  rcases Nat.lt_or_eq_of_le h0 with h1 | h1
  · have e2 : tokA L' (shR d st).at_ = tokA L st.at_ := S.eq _ h1
    rw [e2]
  · have e2 : tokA L' (shR d st).at_ = tokA L' (hi + d) := by rw [← h1]; rfl
    rw [e2, h1, begins_stop S.stop, begins_stop S.stop']
 unfold nameR at h ⊢
 split at h
 · rename_i hc
   have hy := sim_yes S h0 hc.2
   rw [if_pos (c1.2 hc), adv_sh]
   split at h
   · cases h
   · rename_i l s2 h2
     have h3 := args_sim S hf ht (st := adv st) hy.1 _ _ h2
     split at h
     · cases h
     · rename_i l2 s3 h4
       have h5 := sim_want (P := P) S h3.1 _ _ h4
       obtain ⟨z, h6, rfl⟩ := map_ok h
       have h7 := mkR_st h6
       have h8 := mk_sim (d := d) h6
       refine ⟨by rw [h7]; exact h5.1, ?_⟩
       rcases h3.2 with h3 | ⟨hP, a, h3⟩
       · rw [h3]
         simp only
         rcases h5.2 with h5 | ⟨hP, a, h5⟩
         · rw [h5]
           simp only
           rw [h8]
           exact .inl rfl
         · rw [h5]
           exact .inr ⟨hP, a, rfl⟩
       · rw [h3]
         exact .inr ⟨hP, a, rfl⟩
 · rename_i hc
   rw [if_neg (fun h9 => hc (c1.1 h9))]
   split at h
   · rename_i hq
     rw [if_pos hq]
     cases h
     exact ⟨h0, .inl rfl⟩
   · rename_i hq
     rw [if_neg hq]
     split at h
     · rename_i hm
       rw [if_pos (c2.2 hm)]
       have hlt : st.at_ < hi := by
        rcases Nat.lt_or_eq_of_le h0 with h1 | h1
        · exact h1
        · rw [h1] at hm
          exact absurd hm.2.2 (stop_k S.stop).2.2
       have e2 : tokA L' (shR d st).at_ = tokA L st.at_ := S.eq _ hlt
       cases h
       refine ⟨hlt, .inl ?_⟩
       rw [e2, adv_sh]
     · rename_i hm
       rw [if_neg (fun h9 => hm (c2.1 h9))]
       split at h
       · rename_i hb
         rw [if_pos ⟨hb.1, hb.2.1, by rw [c3]; exact hb.2.2⟩]
         split at h
         · cases h
         · rename_i x s2 h2
           have h3 := ht _ st h0 _ _ h2
           obtain ⟨z, h6, rfl⟩ := map_ok h
           have h7 := mkR_st h6
           have h8 := mk_sim (d := d) h6
           refine ⟨by rw [h7]; exact h3.1, ?_⟩
           rcases h3.2 with h3 | ⟨hP, a, h3⟩
           · rw [h3]
             simp only
             rw [h8]
             exact .inl rfl
           · rw [h3]
             exact .inr ⟨hP, a, rfl⟩
       · rename_i hb
         rw [if_neg (fun h9 => hb ⟨h9.1, h9.2.1, by rw [← c3]; exact h9.2.2⟩)]
         cases h
         exact ⟨h0, .inl rfl⟩
theorem first_sim (S : Simu L L' d hi) (hf : Fwd L tm) (ht : SimT d hi P tm tm') : SimT d hi P (firstR L lv tm) (firstR L' lv tm') := fun most st h0 y s h => by
 have hlt : st.at_ < hi := by
  rcases Nat.lt_or_eq_of_le h0 with h1 | h1
  · exact h1
  · exfalso
    have k := stop_k S.stop
    have p1 := stop_p S.stop (c := [40]) (by decide)
    have p2 := stop_p S.stop (c := [91]) (by decide)
    unfold firstR at h
    rw [h1, if_neg (fun h9 => k.2.2 h9.1), if_neg k.2.2, if_neg k.2.1, if_neg k.1, p1, p2] at h
    cases h
 have e : tokA L' (shR d st).at_ = tokA L st.at_ := S.eq _ hlt
 have e1 : ∀ c, isP L' (shR d st).at_ c = isP L st.at_ c := fun c => sim_lt S hlt
 have ha : (adv st).at_ ≤ hi := hlt
 unfold firstR at h ⊢
 rw [e, e1, e1, adv_sh]
 split at h
 · cases h
 · rename_i c1
   rw [if_neg c1]
   split at h
   · rename_i c2
     rw [if_pos c2]
     exact simo_ok ha _ _ h
   · rename_i c2
     rw [if_neg c2]
     split at h
     · rename_i c3
       rw [if_pos c3, var_sim]
       refine simo_ok ?_ _ _ h
       rw [varR_at]
       exact ha
     · rename_i c3
       rw [if_neg c3]
       split at h
       · rename_i c4
         rw [if_pos c4]
         exact name_sim S hf ht ha _ _ h
       · rename_i c4
         rw [if_neg c4]
         split at h
         · rename_i c5
           rw [if_pos c5]
           split at h
           · cases h
           · rename_i x s2 h2
             have h3 := ht _ (adv st) ha _ _ h2
             have h4 := sim_want (P := P) S h3.1 _ _ h
             refine ⟨h4.1, ?_⟩
             rcases h3.2 with h3 | ⟨hP, a, h3⟩
             · rw [h3]
               exact h4.2
             · rw [h3]
               exact .inr ⟨hP, a, rfl⟩
         · rename_i c5
           rw [if_neg c5]
           split at h
           · rename_i c6
             rw [if_pos c6]
             exact simo_map (list_sim S hf ht ha) _ _ h
           · cases h
theorem goes_sim (S : Simu L L' d hi) {most pri : Int} {st : RSt} (h0 : st.at_ ≤ hi) : goesR L' most pri (shR d st) = goesR L most pri st := by
 rcases Nat.lt_or_eq_of_le h0 with h1 | h1
 · have e : tokA L' (shR d st).at_ = tokA L st.at_ := S.eq _ h1
   have e1 : isP L' (shR d st).at_ [44] = isP L st.at_ [44] := sim_lt S h1
   unfold goesR
   rw [e, e1]
 · have e : (shR d st).at_ = hi + d := by rw [← h1]; rfl
   have k1 := (stop_k S.stop).1
   have k2 := (stop_k S.stop').1
   have p1 := stop_p S.stop (c := [44]) (by decide)
   have p2 := stop_p S.stop' (c := [44]) (by decide)
   unfold goesR
   rw [e, h1, p1, p2, beq_eq_false_iff_ne.2 k1, beq_eq_false_iff_ne.2 k2]
   rfl
theorem loop_sim (S : Simu L L' d hi) (hf : Fwd L tm) (ht : SimT d hi P tm tm') (most : Int) : ∀ (n n' : Nat) (x : Tm) (pri : Int) (st : RSt), st.at_ ≤ hi → hi + 1 ≤ n + st.at_ → hi + 1 ≤ n' + st.at_ → SimO d hi P (loopR L lv tm most n x pri st) (loopR L' lv tm' most n' x pri (shR d st))
 | 0, n', x, pri, st, h0, h1, h2 => by omega
 | n + 1, 0, x, pri, st, h0, h1, h2 => by omega
 | n + 1, n' + 1, x, pri, st, h0, h1, h2 => fun y s h => by
  have e := goes_sim S (most := most) (pri := pri) h0
  unfold loopR at h ⊢
  rw [e]
  split at h
  · rename_i hg
    rw [if_pos hg, adv_sh]
    have hlt : st.at_ < hi := by
     rcases Nat.lt_or_eq_of_le h0 with h1 | h1
     · exact h1
     · exfalso
       have k1 := (stop_k S.stop).1
       have p1 := stop_p S.stop (c := [44]) (by decide)
       unfold goesR at hg
       rw [h1, p1, beq_eq_false_iff_ne.2 k1] at hg
       cases hg
    have e2 : tokA L' (shR d st).at_ = tokA L st.at_ := S.eq _ hlt
    rw [e2]
    split at h
    · cases h
    · rename_i z s2 h3
      have h4 := ht _ (adv st) hlt _ _ h3
      have h5 := hf _ _ _ _ (show (adv st).at_ ≤ L.length by have := S.le; show st.at_ + 1 ≤ _; omega) h3
      have ha : (adv st).at_ = st.at_ + 1 := rfl
      split at h
      · cases h
      · rename_i z2 s3 h6
        have h7 := mkR_st h6
        have h8 := mk_sim (d := d) h6
        subst h7
        have h9 := loop_sim S hf ht most n n' z2 _ s3 h4.1 (by omega) (by omega) y s h
        refine ⟨h9.1, ?_⟩
        rcases h4.2 with h4 | ⟨hP, a, h4⟩
        · rw [h4]
          simp only
          rw [h8]
          exact h9.2
        · rw [h4]
          exact .inr ⟨hP, a, rfl⟩
  · rename_i hg
    rw [if_neg hg]
    exact simo_ok h0 _ _ h
end
theorem simt_mono {d hi : Nat} {P Q : Prop} (hPQ : P → Q) {tm tm' : Rd} (h : SimT d hi P tm tm') : SimT d hi Q tm tm' := fun most st h0 x s hr => by
 have h1 := h most st h0 x s hr
 refine ⟨h1.1, ?_⟩
 rcases h1.2 with h2 | ⟨hP, h2⟩
 · exact .inl h2
 · exact .inr ⟨hPQ hP, h2⟩
theorem read_sim_eq {L L' : List RT} {d hi : Nat} (S : Simu L L' d hi) (lv : Int) : ∀ k : Nat, SimT d hi False (readT L lv k) (readT L' lv k) := fun k => by
 induction k using Nat.strongRecOn with
 | _ k ih =>
  match k, ih with
  | 0, _ => intro most st h0 x s h; rw [readT] at h; cases h
  | 1, _ => intro most st h0 x s h; rw [readT] at h; cases h
  | k + 2, ih =>
   intro most st h0 x s h
   simp only [readT] at h ⊢
   split at h
   · cases h
   · rename_i y s2 h2
     have h3 := first_sim (lv := lv) S (read_fwd L lv k) (ih k (by omega)) most st h0 _ _ h2
     have hl := S.le
     have hl' := S.le'
     have h4 := loop_sim (lv := lv) S (read_fwd L lv (k + 1)) (ih (k + 1) (by omega)) most (L.length + 1) (L'.length + 1) y.1 y.2 s2 h3.1 (by omega) (by omega) _ _ h
     refine ⟨h4.1, ?_⟩
     rcases h3.2 with h3 | ⟨hP, a, h3⟩
     · rw [h3]
       exact h4.2
     · exact hP.elim
theorem read_sim {L L' : List RT} {d hi : Nat} (S : Simu L L' d hi) (lv : Int) : ∀ k k' : Nat, k' ≤ k → SimT d hi (k' < k) (readT L lv k) (readT L' lv k') := fun k => by
 induction k using Nat.strongRecOn with
 | _ k ih =>
  match k, ih with
  | 0, _ => intro k' hk most st h0 x s h; rw [readT] at h; cases h
  | 1, _ => intro k' hk most st h0 x s h; rw [readT] at h; cases h
  | k + 2, ih =>
   intro k' hk most st h0 x s h
   match k', hk with
   | 0, hk =>
    have h1 := (read_sim_eq S lv (k + 2) most st h0 x s h).1
    exact ⟨h1, .inr ⟨by omega, _, rfl⟩⟩
   | 1, hk =>
    have h1 := (read_sim_eq S lv (k + 2) most st h0 x s h).1
    exact ⟨h1, .inr ⟨by omega, _, rfl⟩⟩
   | k' + 2, hk =>
    simp only [readT] at h ⊢
    split at h
    · cases h
    · rename_i y s2 h2
      have i1 := simt_mono (Q := k' + 2 < k + 2) (by omega) (ih k (by omega) k' (by omega))
      have i2 := simt_mono (Q := k' + 2 < k + 2) (by omega) (ih (k + 1) (by omega) (k' + 1) (by omega))
      have h3 := first_sim (lv := lv) S (read_fwd L lv k) i1 most st h0 _ _ h2
      have hl := S.le
      have hl' := S.le'
      have h4 := loop_sim (lv := lv) S (read_fwd L lv (k + 1)) i2 most (L.length + 1) (L'.length + 1) y.1 y.2 s2 h3.1 (by omega) (by omega) _ _ h
      refine ⟨h4.1, ?_⟩
      rcases h3.2 with h3 | ⟨hP, a, h3⟩
      · rw [h3]
        exact h4.2
      · rw [h3]
        exact .inr ⟨hP, a, rfl⟩
/-! sentences -/
theorem readS_ok {L : List RT} {lv : Int} {i : Nat} {x : Tm} {s : RSt} (h : readS L lv i = .ok x s) : ∃ p s2, readT L lv 60 1200 ⟨i, []⟩ = .ok (x, p) s2 ∧ (tokA L s2.at_).kind = 5 ∧ chkT lv x = 0 ∧ s = adv s2 := by
 unfold readS at h
 split at h
 · cases h
 · rename_i y s2 h2
   split at h
   · rename_i hk
     split at h
     · rename_i hc
       cases h
       exact ⟨y.2, s2, h2, hk, hc, rfl⟩
     · cases h
   · cases h
theorem readS_of {L : List RT} {lv : Int} {i : Nat} {x : Tm × Int} {s2 : RSt} (h : readT L lv 60 1200 ⟨i, []⟩ = .ok x s2) (hk : (tokA L s2.at_).kind = 5) (hc : chkT lv x.1 = 0) : readS L lv i = .ok x.1 (adv s2) := by
 unfold readS
 rw [h]
 simp only
 rw [if_pos hk, if_pos hc]
theorem readS_fwd {L : List RT} {lv : Int} {i : Nat} {x : Tm} {s : RSt} (hi : i ≤ L.length) (h : readS L lv i = .ok x s) : i + 1 < s.at_ ∧ s.at_ ≤ L.length := by
 obtain ⟨p, s2, h1, h2, h3, rfl⟩ := readS_ok h
 have h4 := read_fwd L lv 60 _ _ _ _ hi h1
 have h5 := tok_lt (L := L) (i := s2.at_) (by rw [h2]; decide)
 simp only [adv] at h4 ⊢
 omega
theorem readS_sim {L L' : List RT} {lv : Int} {d i : Nat} {x : Tm} {s : RSt} (hi : i ≤ L.length) (h : readS L lv i = .ok x s) (he : ∀ j, j < s.at_ → tokA L' (j + d) = tokA L j) (hl : s.at_ + d ≤ L'.length) : readS L' lv (i + d) = .ok x ⟨s.at_ + d, s.names⟩ := by
 have hf := readS_fwd hi h
 obtain ⟨p, s2, h1, h2, h3, rfl⟩ := readS_ok h
 have h4 := read_fwd L lv 60 _ _ _ _ hi h1
 have hs : (adv s2).at_ = s2.at_ + 1 := rfl
 have e := he s2.at_ (by omega)
 have S : Simu L L' d s2.at_ := ⟨fun j hj => he j (by omega), .inr (.inl h2), (by unfold isP; rw [h2]; rfl), (by rw [e]; exact .inr (.inl h2)), by omega, by omega⟩
 have h5 := read_sim_eq S lv 60 1200 ⟨i, []⟩ (by have := h4.1; show i ≤ s2.at_; have : i < s2.at_ := this; omega) _ _ h1
 rcases h5.2 with h5 | ⟨hP, _⟩
 · have h6 := readS_of (L := L') (i := i + d) (s2 := shR d s2) h5 (by show (tokA L' (s2.at_ + d)).kind = 5; rw [e]; exact h2) h3
   rw [h6]
   unfold adv shR
   congr 2
   simp only
   omega
 · exact hP.elim
end Go.Proofs.YtanhhihechakhaaDoor.ReadP
set_option linter.unusedVariables false
set_option linter.unusedSimpArgs false
namespace Go.Proofs.YtanhhihechakhaaDoor.ReadP
open Go.RowKit Go.Proofs.YtanhhihechakhaaDoor.E Go.Proofs.YtanhhihechakhaaDoor.TokP Go.Proofs.YtanhhihechakhaaDoor.TermP Go.Proofs.YtanhhihechakhaaDoor.WrP Go.Proofs.YtanhhihechakhaaDoor.OpsP
inductive Sents (L : List RT) (lv : Int) : Nat → List Tm → Prop
 | done {i : Nat} (h : L.length ≤ i) : Sents L lv i []
 | more {i : Nat} {x : Tm} {s : RSt} {l : List Tm} (h : i < L.length) (hr : readS L lv i = .ok x s) (k : Sents L lv s.at_ l) : Sents L lv i (x :: l)
theorem all_sents {L : List RT} {lv : Int} : ∀ (k i : Nat) (acc l : List Tm), i ≤ L.length → L.length + 1 ≤ k + i → allS L lv k i acc = .ok l → ∃ l', l = acc ++ l' ∧ Sents L lv i l'
 | 0, i, acc, l, hi, hk, h => by omega
 | k + 1, i, acc, l, hi, hk, h => by
  unfold allS at h
  split at h
  · rename_i hl
    cases h
    exact ⟨[], by rw [List.append_nil], .done hl⟩
  · rename_i hl
    split at h
    · cases h
    · rename_i x s h2
      have hf := readS_fwd hi h2
      obtain ⟨l', h3, h4⟩ := all_sents k s.at_ (acc ++ [x]) l hf.2 (by omega) h
      exact ⟨x :: l', by rw [h3, List.append_assoc]; rfl, .more (by omega) h2 h4⟩
theorem sents_all {L : List RT} {lv : Int} {i : Nat} {l : List Tm} (hs : Sents L lv i l) : ∀ (k : Nat) (acc : List Tm), i ≤ L.length → L.length + 1 ≤ k + i → allS L lv k i acc = .ok (acc ++ l) := by
 induction hs with
 | done h =>
  intro k acc hi hk
  obtain ⟨k, rfl⟩ : ∃ m, k = m + 1 := ⟨k - 1, by omega⟩
  unfold allS
  rw [if_pos h, List.append_nil]
 | @more i x s l h hr _ ih =>
  intro k acc hi hk
  obtain ⟨k, rfl⟩ : ∃ m, k = m + 1 := ⟨k - 1, by omega⟩
  have hf := readS_fwd hi hr
  unfold allS
  rw [if_neg (by omega), hr]
  simp only
  rw [ih k (acc ++ [x]) hf.2 (by omega), List.append_assoc]
  rfl
theorem tok_left {A B : List RT} {j : Nat} (h : j < A.length) : tokA (A ++ B) j = tokA A j := by
 unfold tokA
 rw [List.getElem?_append_left h]
theorem tok_right (A B : List RT) (j : Nat) : tokA (A ++ B) (j + A.length) = tokA B j := by
 unfold tokA
 rw [List.getElem?_append_right (by omega), Nat.add_sub_cancel]
theorem sents_right {A B : List RT} {lv : Int} {i : Nat} {l : List Tm} (hs : Sents B lv i l) : i ≤ B.length → Sents (A ++ B) lv (i + A.length) l := by
 induction hs with
 | done h => intro _; exact .done (by rw [List.length_append]; omega)
 | @more i x s l h hr _ ih =>
  intro hi
  have hf := readS_fwd hi hr
  have h1 := readS_sim (L' := A ++ B) (d := A.length) hi hr (fun j _ => tok_right A B j) (by rw [List.length_append]; omega)
  exact .more (s := ⟨s.at_ + A.length, s.names⟩) (by rw [List.length_append]; omega) h1 (ih hf.2)
theorem sents_join {A B : List RT} {lv : Int} {i : Nat} {l m : List Tm} (hb : Sents B lv 0 m) (hs : Sents A lv i l) : i ≤ A.length → Sents (A ++ B) lv i (l ++ m) := by
 induction hs with
 | @done i h =>
  intro hi
  have e : i = 0 + A.length := by omega
  rw [List.nil_append, e]
  exact sents_right hb (Nat.zero_le _)
 | @more i x s l h hr _ ih =>
  intro hi
  have hf := readS_fwd hi hr
  have h1 := readS_sim (L' := A ++ B) (d := 0) hi hr (fun j hj => tok_left (by omega)) (by rw [List.length_append]; omega)
  exact .more (s := ⟨s.at_ + 0, s.names⟩) (by rw [List.length_append]; omega) h1 (ih hf.2)
/-! texts -/
theorem allA_ok {lv : Int} {t : List UInt8} {l : List Tm} (h : allA lv t = .ok l) : t.length ≤ 4096 ∧ ∃ ts, Lx false t ts ∧ scanA t = .ok ts ∧ Sents (ts.map rtOf) lv 0 l := by
 have hl : t.length ≤ 4096 := by
  rcases Nat.lt_or_ge 4096 t.length with h1 | h1
  · unfold allA scanA at h
    rw [if_pos h1] at h
    cases h
  · exact h1
 refine ⟨hl, ?_⟩
 rcases scan_or hl with ⟨ts, h1, h2⟩ | ⟨j, x, h1, h2⟩
 · refine ⟨ts, h1, h2, ?_⟩
   unfold allA at h
   rw [h2] at h
   simp only at h
   obtain ⟨l', h3, h4⟩ := all_sents (ts.length + 1) 0 [] l (Nat.zero_le _) (by rw [List.length_map]; omega) h
   rw [h3, List.nil_append]
   exact h4
 · unfold allA at h
   rw [h2] at h
   cases h
theorem allA_of {lv : Int} {t : List UInt8} {ts : List Tk} {l : List Tm} (hl : t.length ≤ 4096) (hx : Lx false t ts) (hs : Sents (ts.map rtOf) lv 0 l) : allA lv t = .ok l := by
 unfold allA
 rw [scan_ok hl hx]
 simp only
 rw [sents_all hs (ts.length + 1) [] (Nat.zero_le _) (by rw [List.length_map]; omega), List.nil_append]
theorem allA_bad {lv : Int} {t : List UInt8} {ts : List Tk} {a : Nat} {e : Int} (hl : t.length ≤ 4096) (hx : Lx false t ts) (h0 : 0 < ts.length) (hs : readS (ts.map rtOf) lv 0 = .bad a e) : allA lv t = .bad a e := by
 unfold allA
 rw [scan_ok hl hx]
 simp only
 unfold allS
 rw [if_neg (by rw [List.length_map]; omega), hs]
theorem allA_join {lv : Int} {u t : List UInt8} {l m : List Tm} (hl : (u ++ 10 :: t).length ≤ 4096) (h1 : allA lv (u ++ [10]) = .ok l) (h2 : allA lv t = .ok m) : allA lv (u ++ 10 :: t) = .ok (l ++ m) := by
 obtain ⟨_, ts, x1, _, s1⟩ := allA_ok h1
 obtain ⟨_, ts', x2, _, s2⟩ := allA_ok h2
 refine allA_of hl (lx_join u.length u t false ts ts' (Nat.le_refl _) x1 x2) ?_
 rw [List.map_append]
 exact sents_join s2 s1 (Nat.zero_le _)
theorem sents_one {L : List RT} {lv : Int} {x : Tm} (h : Sents L lv 0 [x]) : ∃ s, readS L lv 0 = .ok x s ∧ s.at_ = L.length := by
 cases h with
 | more h hr k =>
  have hf := readS_fwd (Nat.zero_le _) hr
  cases k with
  | done h2 => exact ⟨_, hr, by omega⟩
end Go.Proofs.YtanhhihechakhaaDoor.ReadP
set_option linter.unusedVariables false
set_option linter.unusedSimpArgs false
namespace Go.Proofs.YtanhhihechakhaaDoor.ReadP
open Go.RowKit Go.Proofs.YtanhhihechakhaaDoor.E Go.Proofs.YtanhhihechakhaaDoor.ReplP Go.Proofs.YtanhhihechakhaaDoor.TokP Go.Proofs.YtanhhihechakhaaDoor.TermP Go.Proofs.YtanhhihechakhaaDoor.WrP Go.Proofs.YtanhhihechakhaaDoor.OpsP
def bareB (l : List UInt8) : Bool := l.all fun c => !(c == 37) && !(c == 46)
theorem bare_cons {c : UInt8} {l : List UInt8} (h : bareB (c :: l) = true) : ¬ c = 37 ∧ ¬ c = 46 ∧ bareB l = true := by
 unfold bareB at h
 rw [List.all_cons, Bool.and_eq_true, Bool.and_eq_true] at h
 refine ⟨?_, ?_, h.2⟩
 · have := h.1.1; simpa using this
 · have := h.1.2; simpa using this
theorem bare_drop {l : List UInt8} (h : bareB l = true) (k : Nat) : bareB (l.drop k) = true := by
 unfold bareB at h ⊢
 rw [List.all_eq_true] at h ⊢
 exact fun x hx => h x (List.mem_of_mem_drop hx)
theorem bare_at {l : List UInt8} (h : bareB l = true) {i : Nat} {c : UInt8} (hc : l[i]? = some c) : ¬ c = 46 := by
 unfold bareB at h
 rw [List.all_eq_true] at h
 have := h c (List.mem_of_getElem? hc)
 rw [Bool.and_eq_true] at this
 have := this.2
 simpa using this
theorem run_appx {p : UInt8 → Bool} {x : UInt8} (h : p x = false) : ∀ (u t : List UInt8), runB p (u ++ x :: t) = runB p u
 | [], t => by rw [List.nil_append, runB_no h, runB_nil]
 | c :: u, t => by
  rw [List.cons_append]
  cases hc : p c with
  | true => rw [runB_yes hc, runB_yes hc, run_appx h u t]
  | false => rw [runB_no hc, runB_no hc]
theorem pad_blank {p : List UInt8} (h : p.all blankB = true) : padB p := by
 induction p with
 | nil => exact pad_nil
 | cons c p ih =>
  rw [List.all_cons, Bool.and_eq_true] at h
  exact pad_sp (by
   intro h9
   have h1 := h.1
   rw [h9] at h1
   exact absurd h1 (by decide)) h.1 (ih h.2)
theorem blank_split : ∀ u : List UInt8, bareB u = true → u.all blankB = true ∨ ∃ p c v, u = p ++ c :: v ∧ p.all blankB = true ∧ blankB c = false ∧ ¬ c = 37
 | [], _ => .inl rfl
 | c :: u, hb => by
  have h1 := bare_cons hb
  cases hc : blankB c with
  | false => exact .inr ⟨[], c, u, rfl, rfl, hc, h1.1⟩
  | true =>
   rcases blank_split u h1.2.2 with h2 | ⟨p, d, v, h2, h3, h4, h5⟩
   · exact .inl (by rw [List.all_cons, hc, h2]; rfl)
   · exact .inr ⟨c :: p, d, v, by rw [h2]; rfl, by rw [List.all_cons, hc, h3]; rfl, h4, h5⟩
theorem skip_tok {p : List UInt8} (hp : p.all blankB = true) {c : UInt8} {v : List UInt8} (hc : blankB c = false) (h37 : ¬ c = 37) : skipN (p ++ c :: v) = p.length := by
 rw [pad_blank hp, skip_cons, if_neg h37, hc]
 rfl
theorem quo_blank {z : List UInt8} (hz : z = [] ∨ z = [10]) : ∀ (n : Nat) (u out : List UInt8) (k : Nat), u.length ≤ n → (quoL (u ++ 32 :: 46 :: z) out k).err = none → (quoL (u ++ 32 :: 46 :: z) out k).used ≤ k + u.length ∧ ∀ v, quoL (u ++ 32 :: v) out k = quoL (u ++ 32 :: 46 :: z) out k
 | _, [], out, k, _, h => by
  exfalso
  rcases hz with rfl | rfl
  · have e : quoL ([] ++ 32 :: 46 :: []) out k = .bad q3 4 := by
     rw [List.nil_append, quoL, if_neg (by decide), if_neg (by decide), if_neg (by decide), quoL, if_neg (by decide), if_neg (by decide), if_neg (by decide)]
    rw [e] at h
    cases h
  · have e : quoL ([] ++ 32 :: 46 :: [10]) out k = .bad q2 4 := by
     rw [List.nil_append, quoL, if_neg (by decide), if_neg (by decide), if_neg (by decide), quoL, if_neg (by decide), if_neg (by decide), if_neg (by decide), quoL, if_neg (by decide), if_neg (by decide), if_pos (by decide)]
    rw [e] at h
    cases h
 | 0, _ :: _, _, _, h, _ => by simp at h
 | n + 1, [c], out, k, h, he => by
  have e : ∀ t, quoL ([c] ++ 32 :: t) out k = if c = 39 then .tok 1 ⟨out.toArray⟩ 0 true (k + 1) else if c = 92 then .bad q1 4 else if (c.toNat : Int) < 32 then .bad q2 4 else quoL ([] ++ 32 :: t) (out ++ [c]) (k + 1) := fun t => by
   rw [List.cons_append, List.nil_append, quoL] <;> rfl
  have ih := quo_blank hz n [] (out ++ [c]) (k + 1) (Nat.zero_le _)
  rw [e] at he ⊢
  by_cases h39 : c = 39
  · rw [if_pos h39]
    refine ⟨by show k + 1 ≤ _; simp, fun v => ?_⟩
    rw [e, if_pos h39]
  rw [if_neg h39] at he
  by_cases h92 : c = 92
  · rw [if_pos h92] at he; cases he
  rw [if_neg h92] at he
  by_cases hlow : (c.toNat : Int) < 32
  · rw [if_pos hlow] at he; cases he
  rw [if_neg hlow] at he
  have i1 := ih he
  rw [if_neg h39, if_neg h92, if_neg hlow]
  refine ⟨?_, fun v => ?_⟩
  · have := i1.1
    simp only [List.length_nil, List.length_cons] at this ⊢
    omega
  · rw [e, if_neg h39, if_neg h92, if_neg hlow, i1.2 v]
 | n + 1, c :: d :: u, out, k, h, he => by
  have hl : u.length + 1 ≤ n := by simpa using h
  have e : ∀ t, quoL ((c :: d :: u) ++ 32 :: t) out k = if c = 39 then (if d = 39 then quoL (u ++ 32 :: t) (out ++ [39]) (k + 2) else .tok 1 ⟨out.toArray⟩ 0 true (k + 1))
   else if c = 92 then (match esc d with | some x => quoL (u ++ 32 :: t) (out ++ [x]) (k + 2) | none => .bad q1 4)
   else if (c.toNat : Int) < 32 then .bad q2 4 else quoL ((d :: u) ++ 32 :: t) (out ++ [c]) (k + 1) := fun t => by
   rw [List.cons_append, List.cons_append, quoL] <;> rfl
  have i2 := fun x => quo_blank hz n u (out ++ [x]) (k + 2) (by omega)
  have i3 := quo_blank hz n (d :: u) (out ++ [c]) (k + 1) (by simpa using hl)
  rw [e] at he ⊢
  simp only [List.length_cons] at i3 ⊢
  by_cases h39 : c = 39
  · rw [if_pos h39] at he ⊢
    by_cases hd : d = 39
    · rw [if_pos hd] at he ⊢
      have i1 := i2 39 he
      refine ⟨by omega, fun v => ?_⟩
      rw [e, if_pos h39, if_pos hd, i1.2]
    · rw [if_neg hd]
      refine ⟨by show k + 1 ≤ _; omega, fun v => ?_⟩
      rw [e, if_pos h39, if_neg hd]
  · rw [if_neg h39] at he ⊢
    by_cases h92 : c = 92
    · rw [if_pos h92] at he ⊢
      cases hx : esc d with
      | none => rw [hx] at he; cases he
      | some x =>
       rw [hx] at he
       have i1 := i2 x he
       refine ⟨?_, fun v => ?_⟩
       · have := i1.1
         show (quoL (u ++ 32 :: 46 :: z) (out ++ [x]) (k + 2)).used ≤ _
         omega
       · rw [e, if_neg h39, if_pos h92, hx]
         exact i1.2 v
    · rw [if_neg h92] at he ⊢
      by_cases hlow : (c.toNat : Int) < 32
      · rw [if_pos hlow] at he; cases he
      · rw [if_neg hlow] at he ⊢
        have i1 := i3 he
        refine ⟨by have := i1.1; omega, fun v => ?_⟩
        rw [e, if_neg h39, if_neg h92, if_neg hlow, i1.2]
theorem dot_blank {u : List UInt8} (h : bareB u = true) (t : List UInt8) {n : Nat} (hn : n ≤ u.length) : dottedB (u ++ 32 :: t) n = false := by
 have e : dotB (u ++ 32 :: t)[n]? = false := by
  rcases Nat.lt_or_eq_of_le hn with h1 | h1
  · rw [List.getElem?_append_left h1, List.getElem?_eq_getElem h1]
    have h2 := bare_at h (List.getElem?_eq_getElem h1)
    unfold dotB
    rw [beq_eq_false_iff_ne]
    intro h3
    apply h2
    apply UInt8.toNat_inj.1
    have : (u[n]).toNat = 46 := by omega
    rw [this]; rfl
  · subst h1
    rw [List.getElem?_append_right (Nat.le_refl _), Nat.sub_self]
    rfl
 unfold dottedB
 rw [e]
 simp
theorem num_blank {u : List UInt8} (h : bareB u = true) (t v : List UInt8) : numA (u ++ 32 :: t) = numA (u ++ 32 :: v) ∧ ((numA (u ++ 32 :: t)).err = none → (numA (u ++ 32 :: t)).used ≤ u.length) := by
 have h1 : ∀ t, runB digitB (u ++ 32 :: t) = runB digitB u := run_appx (by rfl) u
 have hl := runB_le digitB u
 have h2 : ∀ t, figs (u ++ 32 :: t) = u.take (runB digitB u) := fun t => by
  unfold figs
  rw [h1, List.take_append_of_le_length hl]
 unfold numA
 rw [h1, h1, h2, h2, dot_blank h t hl, dot_blank h v hl]
 refine ⟨rfl, ?_⟩
 split
 · intro h; cases h
 · split
   · intro h; cases h
   · intro _; exact hl
theorem first_blank (k : Int) (u t v : List UInt8) {n : Nat} (h : n ≤ u.length) : firstT k (u ++ 32 :: t) n = firstT k (u ++ 32 :: v) n := by
 unfold firstT
 rw [List.take_append_of_le_length h, List.take_append_of_le_length h]
theorem ends_blank {c : UInt8} (h : ¬ c = 46) (l : List UInt8) : endsB (c :: l) = false := by
 have e : pointB (c :: l) = false := by
  show (c == 46) = false
  exact beq_eq_false_iff_ne.2 h
 unfold endsB
 rw [e, Bool.false_and]
theorem one_blank {z : List UInt8} (hz : z = [] ∨ z = [10]) (c : UInt8) (u : List UInt8) (hb : bareB (c :: u) = true) (he : errA (one1 ((c :: u) ++ 32 :: 46 :: z)) = none) : (one1 ((c :: u) ++ 32 :: 46 :: z)).used ≤ (c :: u).length ∧ ∀ v, one1 ((c :: u) ++ 32 :: v) = one1 ((c :: u) ++ 32 :: 46 :: z) := by
 have r1 : ∀ t, runB letterB ((c :: u) ++ 32 :: t) = runB letterB (c :: u) := run_appx (by rfl) _
 have r2 : ∀ t, runB signB ((c :: u) ++ 32 :: t) = runB signB (c :: u) := run_appx (by rfl) _
 have l1 := runB_le letterB (c :: u)
 have l2 := runB_le signB (c :: u)
 have l3 : 1 ≤ (c :: u).length := by simp
 have h46 := (bare_cons hb).2.1
 have e1 : ∀ t, endsB ((c :: u) ++ 32 :: t) = false := fun t => ends_blank h46 _
 have he := err_none he
 have q : (quoA ((c :: u) ++ 32 :: 46 :: z)).err = none → (quoA ((c :: u) ++ 32 :: 46 :: z)).used ≤ (c :: u).length ∧ ∀ v, quoA ((c :: u) ++ 32 :: v) = quoA ((c :: u) ++ 32 :: 46 :: z) := fun h => by
  have h2 := quo_blank hz u.length u [] 1 (Nat.le_refl _) h
  refine ⟨?_, h2.2⟩
  rw [List.length_cons, Nat.add_comm]
  exact h2.1
 revert he
 show (oneC c _).err = none → (oneC c _).used ≤ _ ∧ ∀ v, oneC c _ = oneC c _
 unfold oneC
 simp only [r1, r2, e1]
 intro he
 by_cases c1 : smallB c = true
 · simp only [if_pos c1]
   exact ⟨l1, fun v => first_blank _ _ _ _ l1⟩
 simp only [if_neg c1] at he ⊢
 by_cases c2 : bigB c = true
 · simp only [if_pos c2]
   exact ⟨l1, fun v => first_blank _ _ _ _ l1⟩
 simp only [if_neg c2] at he ⊢
 by_cases c3 : digitB c = true
 · simp only [if_pos c3] at he ⊢
   exact ⟨(num_blank hb _ []).2 he, fun v => (num_blank hb v _).1⟩
 simp only [if_neg c3] at he ⊢
 by_cases c4 : ((c.toNat : Int) == 39) = true
 · simp only [if_pos c4] at he ⊢
   exact q he
 simp only [if_neg c4] at he ⊢
 by_cases c5 : punctL.contains c = true
 · simp only [if_pos c5]
   exact ⟨l3, fun v => first_blank _ _ _ _ l3⟩
 simp only [if_neg c5] at he ⊢
 by_cases c6 : (((c.toNat : Int) == 33) || ((c.toNat : Int) == 59)) = true
 · simp only [if_pos c6]
   exact ⟨l3, fun v => first_blank _ _ _ _ l3⟩
 simp only [if_neg c6, Bool.false_eq_true, if_false] at he ⊢
 by_cases c7 : signB c = true
 · simp only [if_pos c7]
   exact ⟨l2, fun v => first_blank _ _ _ _ l2⟩
 simp only [if_neg c7] at he
 cases he
theorem lx_pad1 {p x : List UInt8} {ts : List Tk} (hp : padB p) (h1 : 1 ≤ p.length) (b : Bool) (h : Lx false x ts) : Lx b (p ++ x) ts := by
 cases h with
 | done h => exact .done (by rw [hp, h, List.length_append])
 | tok h hr ha he k =>
  have e : (decide (skipN x = 0) && false) = (decide (skipN (p ++ x) = 0) && b) := by
   rw [hp, Bool.and_false, decide_eq_false (by omega), Bool.false_and]
  rw [e]
  exact .tok (pad_ne hp h) (by rw [pad_drop hp]; exact hr) ha he k
def endT (z : List UInt8) : Tk := ⟨firstT 5 (46 :: z) 1, false⟩
theorem one_end {z : List UInt8} (hz : z = [] ∨ z = [10]) : one1 (46 :: z) = firstT 5 (46 :: z) 1 ∧ errA (firstT 5 (46 :: z) 1) = none := by
 rcases hz with rfl | rfl <;> exact ⟨by kernel_rfl, by kernel_rfl⟩
theorem lx_end {z : List UInt8} (hz : z = [] ∨ z = [10]) : Lx false (46 :: z) [endT z] := by
 have h1 : skipN (46 :: z) = 0 := by rw [skip_cons, if_neg (by decide)]; rfl
 have h2 := one_end hz
 have h3 : skipN z = z.length := by
  rcases hz with rfl | rfl
  · rw [skip_nil]; rfl
  · rw [skip_cons, if_neg (by decide), if_pos (by decide), skip_nil]; rfl
 have h4 : Lx false (46 :: z) (⟨firstT 5 (46 :: z) 1, decide (skipN (46 :: z) = 0) && false⟩ :: []) := .tok (by rw [h1]; simp) rfl (by rw [h1]; exact h2.1.symm) h2.2 (by rw [h1]; exact .done h3)
 rw [Bool.and_false] at h4
 exact h4
theorem lx_blank {z : List UInt8} (hz : z = [] ∨ z = [10]) : ∀ (n : Nat) (u : List UInt8) (b : Bool) (ts : List Tk), u.length ≤ n → bareB u = true → Lx b (u ++ 32 :: 46 :: z) ts → ∃ S, ts = S ++ [endT z] ∧ ∀ v ts', Lx false v ts' → Lx b (u ++ 32 :: v) (S ++ ts')
 | n, u, b, ts, hn, hb, hx => by
  rcases blank_split u hb with h1 | ⟨p, c, w, rfl, hp, hc, h37⟩
  · have hp : padB (u ++ [32]) := pad_blank (by rw [List.all_append, h1]; rfl)
    have e : ∀ v : List UInt8, u ++ 32 :: v = (u ++ [32]) ++ v := fun v => by simp
    have h2 := lx_pad1 hp (by simp) b (lx_end hz)
    rw [e] at hx
    refine ⟨[], lx_det hx h2, fun v ts' hv => ?_⟩
    rw [e, List.nil_append]
    exact lx_pad1 hp (by simp) b hv
  · have e : ∀ v : List UInt8, (p ++ c :: w) ++ 32 :: v = p ++ c :: (w ++ 32 :: v) := fun v => by simp
    have es : ∀ v : List UInt8, skipN ((p ++ c :: w) ++ 32 :: v) = p.length := fun v => by rw [e]; exact skip_tok hp hc h37
    have ed : ∀ v : List UInt8, ((p ++ c :: w) ++ 32 :: v).drop p.length = (c :: w) ++ 32 :: v := fun v => by rw [e, List.drop_append_of_le_length (Nat.le_refl _), List.drop_length]; rfl
    have hbw : bareB (c :: w) = true := by have := bare_drop hb p.length; rw [List.drop_append_of_le_length (Nat.le_refl _), List.drop_length] at this; exact this
    have hl : ∀ v : List UInt8, ((p ++ c :: w) ++ 32 :: v).length = p.length + w.length + v.length + 2 := fun v => by simp; omega
    cases hx with
    | done h => rw [es, hl] at h; omega
    | @tok _ _ r a ts0 h hr ha he k =>
     rw [es, ed] at hr
     subst hr
     have ob := one_blank hz c w hbw (by rw [← ha]; exact he)
     rw [← ha] at ob
     have hu1 : 1 ≤ a.used := by rw [ha] at he ⊢; exact (one1_used (by simp) he).1
     have hd : ∀ v : List UInt8, ((c :: w) ++ 32 :: v).drop a.used = (c :: w).drop a.used ++ 32 :: v := fun v => List.drop_append_of_le_length ob.1
     rw [hd] at k
     have hlen : (p ++ c :: w).length = p.length + w.length + 1 := by simp; omega
     match n, hn with
     | 0, hn => omega
     | n + 1, hn =>
      obtain ⟨S, h2, h3⟩ := lx_blank hz n ((c :: w).drop a.used) true ts0 (by rw [List.length_drop, List.length_cons]; omega) (bare_drop hbw _) k
      refine ⟨⟨a, decide (skipN ((p ++ c :: w) ++ 32 :: 46 :: z) = 0) && b⟩ :: S, by rw [h2]; rfl, fun v ts' hv => ?_⟩
      have h4 := h3 v ts' hv
      rw [← hd] at h4
      rw [List.cons_append, es, ← es v]
      exact .tok (by rw [es, hl]; omega) rfl (by rw [es, ed]; exact (ob.2 v).symm) he (by rw [es, ed]; exact h4)
theorem one_no_end {r : List UInt8} (h : bareB r = true) (he : errA (one1 r) = none) : ¬ (one1 r).kind = 5 := by
 have e : ∀ (k : Int) (l : List UInt8) (n : Nat), (firstT k l n).kind = k := fun _ _ _ => rfl
 cases r with
 | nil =>
  have : one1 [] = .bad b1 4 := by kernel_rfl
  rw [this]
  show ¬ (0 : Int) = 5
  decide
 | cons c r =>
  have h46 := (bare_cons h).2.1
  revert he
  show errA (oneC c (c :: r)) = none → ¬ (oneC c (c :: r)).kind = 5
  unfold oneC
  rw [ends_blank h46]
  split
  · intro _; rw [e]; decide
  split
  · intro _; rw [e]; decide
  split
  · intro _
    unfold numA
    split
    · show ¬ (0 : Int) = 5; decide
    · split
      · show ¬ (0 : Int) = 5; decide
      · show ¬ (3 : Int) = 5; decide
  split
  · intro he h9
    have h8 := (quo_fair _ ((c :: r).drop 1) [] 1 (Nat.le_refl _) (err_none he)).1
    have h9 : (quoL ((c :: r).drop 1) [] 1).kind = 5 := h9
    rw [h8] at h9
    exact absurd h9 (by decide)
  split
  · intro _; rw [e]; decide
  split
  · intro _; rw [e]; decide
  · rw [if_neg (by decide)]
    split
    · intro _; rw [e]; decide
    · intro h; cases h
theorem lx_no_end {b : Bool} {l : List UInt8} {ts : List Tk} (h : Lx b l ts) : bareB l = true → ∀ t ∈ ts, ¬ t.a.kind = 5 := by
 induction h with
 | done h => intro _ t ht; exact (List.not_mem_nil ht).elim
 | @tok b l r a ts h hr ha he k ih =>
  intro hb t ht
  subst hr
  rcases List.mem_cons.1 ht with rfl | ht
  · show ¬ a.kind = 5
    rw [ha] at he ⊢
    exact one_no_end (bare_drop hb _) he
  · exact ih (bare_drop (bare_drop hb _) _) t ht
theorem lx_empty {b : Bool} {l : List UInt8} (h : Lx b l []) (hb : bareB l = true) : l.all blankB = true := by
 cases h with
 | done h =>
  rcases blank_split l hb with h1 | ⟨p, c, w, rfl, hp, hc, h37⟩
  · exact h1
  · rw [skip_tok hp hc h37] at h
    simp at h
end Go.Proofs.YtanhhihechakhaaDoor.ReadP
set_option linter.unusedVariables false
set_option linter.unusedSimpArgs false
namespace Go.Proofs.YtanhhihechakhaaDoor.ReadP
open Go.RowKit Go.Proofs.YtanhhihechakhaaDoor.E Go.Proofs.YtanhhihechakhaaDoor.ReplP Go.Proofs.YtanhhihechakhaaDoor.TokP Go.Proofs.YtanhhihechakhaaDoor.TermP Go.Proofs.YtanhhihechakhaaDoor.WrP Go.Proofs.YtanhhihechakhaaDoor.OpsP
def OkB {α : Type} (r : RO α) : Prop := ∀ a e, r = .bad a e → 1 ≤ e ∧ e ≤ 7
section
variable {L : List RT} {lv : Int} {tm : Rd}
theorem okb_ok {α : Type} (x : α) (s : RSt) : OkB (.ok x s) := fun a e h => by cases h
theorem okb_bad {α : Type} (a : Nat) {e : Int} (h : 1 ≤ e ∧ e ≤ 7) : OkB (.bad a e : RO α) := fun a e h => by cases h; assumption
theorem okb_at {α β : Type} {r : RO α} {a : Nat} {e : Int} (h : OkB r) (he : r = .bad a e) : OkB (.bad a e : RO β) := okb_bad a (h a e he)
theorem mk_okb (s : ByteArray) (l : List Tm) (st : RSt) : OkB (mkR lv s l st) := by
 unfold mkR
 split
 · split
   · split
     · exact okb_ok _ _
     · exact okb_bad _ (by decide)
   · exact okb_ok _ _
 · exact okb_ok _ _
theorem want_okb {α : Type} (c : List UInt8) (x : α) (st : RSt) : OkB (wantR L c x st) := by
 unfold wantR
 split
 · exact okb_ok _ _
 · exact okb_bad _ (by decide)
theorem map_okb {α β : Type} (f : α → β) {r : RO α} (h : OkB r) : OkB (mapR f r) := fun a e he => by
 cases r with
 | ok x s => cases he
 | bad b c => cases he; exact h _ _ rfl
theorem more_okb (ht : ∀ most st, OkB (tm most st)) : ∀ (n : Nat) (acc : List Tm) (st : RSt), OkB (moreR L tm n acc st)
 | 0, acc, st => okb_ok _ _
 | n + 1, acc, st => by
  unfold moreR
  split
  · split
    · exact more_okb ht n _ _
    · rename_i a e h; exact okb_at (ht _ _) h
  · exact okb_ok _ _
theorem args_okb (ht : ∀ most st, OkB (tm most st)) (st : RSt) : OkB (argsR L tm st) := by
 unfold argsR
 split
 · exact more_okb ht _ _ _
 · rename_i a e h; exact okb_at (ht _ _) h
theorem list_okb (ht : ∀ most st, OkB (tm most st)) (st : RSt) : OkB (listR L tm st) := by
 unfold listR
 split
 · exact okb_ok _ _
 · split
   · rename_i a e h; exact okb_at (args_okb ht _) h
   · split
     · split
       · exact want_okb _ _ _
       · rename_i a e h; exact okb_at (ht _ _) h
     · exact want_okb _ _ _
theorem name_okb (ht : ∀ most st, OkB (tm most st)) (t : RT) (most : Int) (st : RSt) : OkB (nameR L lv tm t most st) := by
 unfold nameR
 split
 · split
   · rename_i a e h; exact okb_at (args_okb ht _) h
   · split
     · rename_i a e h; exact okb_at (want_okb _ _ _) h
     · exact map_okb _ (mk_okb _ _ _)
 · split
   · exact okb_ok _ _
   · split
     · exact okb_ok _ _
     · split
       · split
         · rename_i a e h; exact okb_at (ht _ _) h
         · exact map_okb _ (mk_okb _ _ _)
       · exact okb_ok _ _
theorem first_okb (ht : ∀ most st, OkB (tm most st)) (most : Int) (st : RSt) : OkB (firstR L lv tm most st) := by
 unfold firstR
 split
 · exact okb_bad _ (by decide)
 · split
   · exact okb_ok _ _
   · split
     · exact okb_ok _ _
     · split
       · exact name_okb ht _ _ _
       · split
         · split
           · rename_i a e h; exact okb_at (ht _ _) h
           · exact want_okb _ _ _
         · split
           · exact map_okb _ (list_okb ht _)
           · exact okb_bad _ (by decide)
theorem loop_okb (ht : ∀ most st, OkB (tm most st)) (most : Int) : ∀ (n : Nat) (x : Tm) (pri : Int) (st : RSt), OkB (loopR L lv tm most n x pri st)
 | 0, x, pri, st => okb_ok _ _
 | n + 1, x, pri, st => by
  unfold loopR
  split
  · split
    · rename_i a e h; exact okb_at (ht _ _) h
    · split
      · rename_i a e h; exact okb_at (mk_okb _ _ _) h
      · exact loop_okb ht most n _ _ _
  · exact okb_ok _ _
end
theorem read_okb (L : List RT) (lv : Int) : ∀ (k : Nat) (most : Int) (st : RSt), OkB (readT L lv k most st) := fun k => by
 induction k using Nat.strongRecOn with
 | _ k ih =>
  match k, ih with
  | 0, _ => intro most st; rw [readT]; exact okb_bad _ (by decide)
  | 1, _ => intro most st; rw [readT]; exact okb_bad _ (by decide)
  | k + 2, ih =>
   intro most st
   simp only [readT]
   split
   · rename_i a e h; exact okb_at (first_okb (ih k (by omega)) _ _) h
   · exact loop_okb (ih (k + 1) (by omega)) _ _ _ _ _
theorem chk_range (lv : Int) (t : Tm) : 0 ≤ chkT lv t ∧ chkT lv t ≤ 7 := by
 unfold chkT
 split
 · decide
 · split
   · decide
   · split <;> decide
theorem readS_okb (L : List RT) (lv : Int) (i : Nat) : OkB (readS L lv i) := by
 unfold readS
 split
 · rename_i a e h; exact okb_at (read_okb _ _ _ _ _) h
 · rename_i x s2 h
   split
   · split
     · exact okb_ok _ _
     · rename_i hc
       have := chk_range lv x.1
       exact okb_bad _ (by omega)
   · exact okb_bad _ (by decide)
theorem allS_code {L : List RT} {lv : Int} : ∀ (k i : Nat) (acc : List Tm) {a : Nat} {e : Int}, allS L lv k i acc = .bad a e → 1 ≤ e ∧ e ≤ 7
 | 0, i, acc, a, e, h => by cases h
 | k + 1, i, acc, a, e, h => by
  unfold allS at h
  split at h
  · cases h
  · split at h
    · rename_i b c h2
      cases h
      exact readS_okb L lv i _ _ h2
    · exact allS_code k _ _ h
/-! what the scanner refuses -/
def OkE (a : Ans) : Prop := ∀ x, a.err = some x → 1 ≤ x.2 ∧ x.2 ≤ 7
theorem oke_tok (k : Int) (s : ByteArray) (n : Int) (q : Bool) (u : Nat) : OkE (.tok k s n q u) := fun x h => by cases h
theorem oke_bad (w : ByteArray) {e : Int} (h : 1 ≤ e ∧ e ≤ 7) : OkE (.bad w e) := fun x h => by cases h; assumption
theorem quo_oke : ∀ (m : Nat) (r out : List UInt8) (k : Nat), r.length ≤ m → OkE (quoL r out k)
 | _, [], _, _, _ => by rw [quoL]; exact oke_bad _ (by decide)
 | 0, _ :: _, _, _, h => by simp at h
 | m + 1, [c], out, k, h => by
  rw [quoL]
  split
  · exact oke_tok _ _ _ _ _
  · split
    · exact oke_bad _ (by decide)
    · split <;> exact oke_bad _ (by decide)
 | m + 1, c :: d :: t, out, k, h => by
  have hl : t.length + 1 ≤ m := by simpa using h
  rw [quoL]
  split
  · split
    · exact quo_oke m t _ _ (by omega)
    · exact oke_tok _ _ _ _ _
  · split
    · split
      · exact quo_oke m t _ _ (by omega)
      · exact oke_bad _ (by decide)
    · split
      · exact oke_bad _ (by decide)
      · exact quo_oke m (d :: t) _ _ (by simpa using hl)
theorem one_oke (c : UInt8) (l : List UInt8) : OkE (oneC c l) := by
 unfold oneC
 split
 · exact oke_tok _ _ _ _ _
 split
 · exact oke_tok _ _ _ _ _
 split
 · unfold numA
   split
   · exact oke_bad _ (by decide)
   · split
     · exact oke_bad _ (by decide)
     · exact oke_tok _ _ _ _ _
 split
 · exact quo_oke _ _ _ _ (Nat.le_refl _)
 split
 · exact oke_tok _ _ _ _ _
 split
 · exact oke_tok _ _ _ _ _
 split
 · exact oke_tok _ _ _ _ _
 split
 · exact oke_tok _ _ _ _ _
 · exact oke_bad _ (by decide)
theorem errA_code {c : UInt8} {l : List UInt8} {x : ByteArray × Int} (h : errA (oneC c l) = some x) : 1 ≤ x.2 ∧ x.2 ≤ 7 := by
 unfold errA at h
 split at h
 · cases h
   show (1 : Int) ≤ 3 ∧ (3 : Int) ≤ 7
   decide
 · exact one_oke c l x h
theorem lb_code {l : List UInt8} {j : Nat} {x : ByteArray × Int} (h : Lb l j x) : 1 ≤ x.2 ∧ x.2 ≤ 7 := by
 induction h with
 | bad h hr he => exact errA_code he
 | tok h hr ha he k ih => exact ih
theorem scan_code {l : List UInt8} {a : Nat} {w : ByteArray} {e : Int} (h : scanA l = .bad a w e) : 1 ≤ e ∧ e ≤ 7 := by
 rcases Nat.lt_or_ge 4096 l.length with h1 | h1
 · unfold scanA at h
   rw [if_pos h1] at h
   cases h
   decide
 · rcases scan_or h1 with ⟨ts, _, h2⟩ | ⟨j, x, h3, h2⟩
   · rw [h2] at h; cases h
   · rw [h2] at h
     cases h
     exact lb_code h3
theorem allA_code {lv : Int} {t : List UInt8} {a : Nat} {e : Int} (h : allA lv t = .bad a e) : 1 ≤ e ∧ e ≤ 7 := by
 unfold allA at h
 split at h
 · rename_i b w c h2
   cases h
   exact scan_code h2
 · exact allS_code _ _ _ h
def clT (l : List UInt8) : Tk := ⟨firstT 4 (41 :: l) 1, false⟩
theorem punct_one {c : UInt8} {l : List UInt8} (h : c = 40 ∨ c = 41) : one1 (c :: l) = firstT 4 (c :: l) 1 ∧ errA (firstT 4 (c :: l) 1) = none ∧ skipN (c :: l) = 0 := by
 rcases h with rfl | rfl
 · refine ⟨rfl, rfl, ?_⟩
   rw [skip_cons, if_neg (by decide)]; rfl
 · refine ⟨rfl, rfl, ?_⟩
   rw [skip_cons, if_neg (by decide)]; rfl
theorem lx_punct {c : UInt8} {l : List UInt8} {ts : List Tk} (h : c = 40 ∨ c = 41) (hk : Lx true l ts) : Lx false (c :: l) (⟨firstT 4 (c :: l) 1, false⟩ :: ts) := by
 have h1 := punct_one (l := l) h
 have h4 : Lx false (c :: l) (⟨firstT 4 (c :: l) 1, decide (skipN (c :: l) = 0) && false⟩ :: ts) := .tok (by rw [h1.2.2]; simp) rfl (by rw [h1.2.2]; exact h1.1.symm) h1.2.1 (by rw [h1.2.2]; exact hk)
 rw [Bool.and_false] at h4
 exact h4
theorem pad32 : padB [32] := pad_blank (by decide)
theorem map_snoc_len (S : List Tk) (e : Tk) : ((S ++ [e]).map rtOf).length = S.length + 1 := by simp
theorem tok_map {S : List Tk} {j : Nat} (h : j < S.length) (R : List RT) : tokA (S.map rtOf ++ R) j = tokA (S.map rtOf) j := tok_left (by rw [List.length_map]; exact h)
theorem tok_here (S : List Tk) (e : RT) (R : List RT) : tokA (S.map rtOf ++ e :: R) S.length = e := by
 unfold tokA
 rw [List.getElem?_append_right (by rw [List.length_map]; exact Nat.le_refl _), List.length_map, Nat.sub_self]
 rfl
theorem tok_next (S : List Tk) (e f : RT) (R : List RT) : tokA (S.map rtOf ++ e :: f :: R) (S.length + 1) = f := by
 unfold tokA
 rw [List.getElem?_append_right (by rw [List.length_map]; omega), List.length_map]
 have : S.length + 1 - S.length = 1 := by omega
 rw [this]
 rfl
theorem tok_cons (e : RT) (R : List RT) (j : Nat) : tokA (e :: R) (j + 1) = tokA R j := by
 unfold tokA
 rw [List.getElem?_cons_succ]
theorem read_whole {S : List Tk} {e : Tk} {lv : Int} {x : Tm} (h : Sents ((S ++ [e]).map rtOf) lv 0 [x]) : ∃ p s2, readT ((S ++ [e]).map rtOf) lv 60 1200 ⟨0, []⟩ = .ok (x, p) s2 ∧ s2.at_ = S.length ∧ e.a.kind = 5 ∧ chkT lv x = 0 := by
 obtain ⟨s, h1, h2⟩ := sents_one h
 obtain ⟨p, s2, h3, h4, h5, rfl⟩ := readS_ok h1
 have h6 : s2.at_ + 1 = S.length + 1 := by rw [← map_snoc_len S e]; exact h2
 have h7 : s2.at_ = S.length := by omega
 refine ⟨p, s2, h3, h7, ?_, h5⟩
 rw [h7, List.map_append, List.map_cons, List.map_nil, tok_here] at h4
 exact h4
section
variable {S : List Tk} {e : Tk} {lv : Int} {x : Tm} {p : Int} {s2 : RSt}
def openR (L : List RT) (lv : Int) (k : Nat) : RO (Tm × Int) → RO (Tm × Int)
 | .bad a e => .bad a e
 | .ok x s3 => match wantR L [41] (x.1, (0 : Int)) s3 with
  | .bad a e => .bad a e
  | .ok y s4 => loopR L lv (readT L lv (k + 1)) 1200 (L.length + 1) y.1 y.2 s4
theorem first_open {L : List RT} {k : Nat} {r : RO (Tm × Int)} (o : RT) (ho : o.kind = 4 ∧ o.str.data.toList = [40]) (hr : readT (o :: L) lv k 1200 ⟨1, []⟩ = r) :
    readT (o :: L) lv (k + 2) 1200 ⟨0, []⟩ = openR (o :: L) lv k r := by
 have e0 : tokA (o :: L) 0 = o := rfl
 have p0 : isP (o :: L) 0 [40] = true := by
  unfold isP
  rw [e0, ho.1, ho.2]
  rfl
 simp only [readT]
 unfold firstR
 rw [e0, if_neg (fun h9 => absurd (ho.1.symm.trans h9.1) (by decide)), if_neg (by rw [ho.1]; decide), if_neg (by rw [ho.1]; decide), if_neg (by rw [ho.1]; decide), if_pos p0]
 have ea : adv (⟨0, []⟩ : RSt) = ⟨1, []⟩ := rfl
 rw [ea, hr]
 cases r with
 | bad a e => rfl
 | ok x s3 => rfl
theorem goes_end {L : List RT} {i : Nat} {most pri : Int} {n : List ByteArray} (h : StopR (tokA L i)) : goesR L most pri ⟨i, n⟩ = false := by
 unfold goesR
 rw [beq_eq_false_iff_ne.2 (stop_k h).1, stop_p h (by decide)]
 rfl
theorem read_bracket {c0 c1 : Tk} (h1 : readT ((S ++ [e]).map rtOf) lv 60 1200 ⟨0, []⟩ = .ok (x, p) s2) (h2 : s2.at_ = S.length) (h5 : e.a.kind = 5) (hc : chkT lv x = 0) (o0 : (rtOf c0).kind = 4 ∧ (rtOf c0).str.data.toList = [40]) (o1 : (rtOf c1).kind = 4 ∧ (rtOf c1).str.data.toList = [41]) :
    Sents ((c0 :: (S ++ [c1, e])).map rtOf) lv 0 [x] ∨ ∃ a, readS ((c0 :: (S ++ [c1, e])).map rtOf) lv 0 = .bad a 7 := by
 have hke : (rtOf e).kind = 5 := h5
 have eL : (c0 :: (S ++ [c1, e])).map rtOf = rtOf c0 :: (S.map rtOf ++ [rtOf c1, rtOf e]) := by simp
 have eM : (S ++ [e]).map rtOf = S.map rtOf ++ [rtOf e] := by simp
 rw [eM] at h1
 rw [eL]
 have t1 : tokA (rtOf c0 :: (S.map rtOf ++ [rtOf c1, rtOf e])) (S.length + 1) = rtOf c1 := by rw [tok_cons, tok_here]
 have t2 : tokA (rtOf c0 :: (S.map rtOf ++ [rtOf c1, rtOf e])) (S.length + 1 + 1) = rtOf e := by rw [tok_cons, tok_next]
 have t0 : tokA (S.map rtOf ++ [rtOf e]) S.length = rtOf e := tok_here _ _ _
 have SS : Simu (S.map rtOf ++ [rtOf e]) (rtOf c0 :: (S.map rtOf ++ [rtOf c1, rtOf e])) 1 S.length := ⟨fun i hi => by rw [tok_cons, tok_map hi, tok_map hi], by rw [t0]; exact .inr (.inl hke), by unfold isP; rw [t0, hke]; rfl, by rw [t1]; exact .inr (.inr o1), by simp, by simp⟩
 have h6 := read_sim SS lv 60 58 (by omega) 1200 ⟨0, []⟩ (Nat.zero_le _) _ _ h1
 have e1 : shR 1 (⟨0, []⟩ : RSt) = ⟨1, []⟩ := rfl
 rw [e1] at h6
 rcases h6.2 with h6 | ⟨_, a, h6⟩
 · have h7 := first_open (rtOf c0) o0 h6
   have pw : isP (rtOf c0 :: (S.map rtOf ++ [rtOf c1, rtOf e])) (shR 1 s2).at_ [41] = true := by
    have : (shR 1 s2).at_ = S.length + 1 := by rw [← h2]; rfl
    unfold isP
    rw [this, t1, o1.1, o1.2]
    rfl
   have ew : wantR (rtOf c0 :: (S.map rtOf ++ [rtOf c1, rtOf e])) [41] (x, (0 : Int)) (shR 1 s2) = .ok (x, 0) (adv (shR 1 s2)) := by unfold wantR; rw [if_pos pw]
   simp only [openR, ew] at h7
   have ea : (adv (shR 1 s2)).at_ = S.length + 1 + 1 := by rw [← h2]; rfl
   have hg : goesR (rtOf c0 :: (S.map rtOf ++ [rtOf c1, rtOf e])) 1200 0 (adv (shR 1 s2)) = false := by
    have : adv (shR 1 s2) = ⟨S.length + 1 + 1, s2.names⟩ := by rw [← h2]; rfl
    rw [this]
    exact goes_end (by rw [t2]; exact .inr (.inl hke))
   have hl : ∀ n, loopR (rtOf c0 :: (S.map rtOf ++ [rtOf c1, rtOf e])) lv (readT (rtOf c0 :: (S.map rtOf ++ [rtOf c1, rtOf e])) lv 59) 1200 n x 0 (adv (shR 1 s2)) = .ok (x, 0) (adv (shR 1 s2)) := fun n => by
    cases n with
    | zero => rfl
    | succ m => unfold loopR; rw [if_neg (by rw [hg]; decide)]
   rw [hl] at h7
   have h8 := readS_of h7 (by rw [ea, t2]; exact hke) hc
   refine .inl (.more (by simp) h8 (.done ?_))
   show _ ≤ (adv (shR 1 s2)).at_ + 1
   rw [ea]
   simp
 · have h7 := first_open (rtOf c0) o0 h6
   simp only [openR] at h7
   refine .inr ⟨a, ?_⟩
   unfold readS
   rw [h7]
theorem read_open {c0 : Tk} (h1 : readT ((S ++ [e]).map rtOf) lv 60 1200 ⟨0, []⟩ = .ok (x, p) s2) (h2 : s2.at_ = S.length) (h5 : e.a.kind = 5) (o0 : (rtOf c0).kind = 4 ∧ (rtOf c0).str.data.toList = [40]) :
    ∃ a e2, readS ((c0 :: (S ++ [e])).map rtOf) lv 0 = .bad a e2 := by
 have hke : (rtOf e).kind = 5 := h5
 have eL : (c0 :: (S ++ [e])).map rtOf = rtOf c0 :: (S.map rtOf ++ [rtOf e]) := by simp
 have eM : (S ++ [e]).map rtOf = S.map rtOf ++ [rtOf e] := by simp
 rw [eM] at h1
 rw [eL]
 have t1 : tokA (rtOf c0 :: (S.map rtOf ++ [rtOf e])) (S.length + 1) = rtOf e := by rw [tok_cons, tok_here]
 have t0 : tokA (S.map rtOf ++ [rtOf e]) S.length = rtOf e := tok_here _ _ _
 have SS : Simu (S.map rtOf ++ [rtOf e]) (rtOf c0 :: (S.map rtOf ++ [rtOf e])) 1 S.length := ⟨fun i hi => by rw [tok_cons], by rw [t0]; exact .inr (.inl hke), by unfold isP; rw [t0, hke]; rfl, by rw [t1]; exact .inr (.inl hke), by simp, by simp⟩
 have h6 := read_sim SS lv 60 58 (by omega) 1200 ⟨0, []⟩ (Nat.zero_le _) _ _ h1
 have e1 : shR 1 (⟨0, []⟩ : RSt) = ⟨1, []⟩ := rfl
 rw [e1] at h6
 rcases h6.2 with h6 | ⟨_, a, h6⟩
 · have h7 := first_open (rtOf c0) o0 h6
   have pw : isP (rtOf c0 :: (S.map rtOf ++ [rtOf e])) (shR 1 s2).at_ [41] = false := by
    have : (shR 1 s2).at_ = S.length + 1 := by rw [← h2]; rfl
    unfold isP
    rw [this, t1, hke]
    rfl
   have ew : wantR (rtOf c0 :: (S.map rtOf ++ [rtOf e])) [41] (x, (0 : Int)) (shR 1 s2) = .bad (shR 1 s2).at_ 4 := by unfold wantR; rw [if_neg (by rw [pw]; decide)]
   simp only [openR, ew] at h7
   refine ⟨(shR 1 s2).at_, 4, ?_⟩
   unfold readS
   rw [h7]
 · have h7 := first_open (rtOf c0) o0 h6
   simp only [openR] at h7
   refine ⟨a, 7, ?_⟩
   unfold readS
   rw [h7]
theorem read_close {c1 : Tk} (h1 : readT ((S ++ [e]).map rtOf) lv 60 1200 ⟨0, []⟩ = .ok (x, p) s2) (h2 : s2.at_ = S.length) (h5 : e.a.kind = 5) (o1 : (rtOf c1).kind = 4 ∧ (rtOf c1).str.data.toList = [41]) :
    ∃ a e2, readS ((S ++ [c1, e]).map rtOf) lv 0 = .bad a e2 := by
 have hke : (rtOf e).kind = 5 := h5
 have eL : (S ++ [c1, e]).map rtOf = S.map rtOf ++ [rtOf c1, rtOf e] := by simp
 have eM : (S ++ [e]).map rtOf = S.map rtOf ++ [rtOf e] := by simp
 rw [eM] at h1
 rw [eL]
 have t1 : tokA (S.map rtOf ++ [rtOf c1, rtOf e]) S.length = rtOf c1 := tok_here _ _ _
 have t0 : tokA (S.map rtOf ++ [rtOf e]) S.length = rtOf e := tok_here _ _ _
 have SS : Simu (S.map rtOf ++ [rtOf e]) (S.map rtOf ++ [rtOf c1, rtOf e]) 0 S.length := ⟨fun i hi => by rw [Nat.add_zero, tok_map hi, tok_map hi], by rw [t0]; exact .inr (.inl hke), by unfold isP; rw [t0, hke]; rfl, by rw [Nat.add_zero, t1]; exact .inr (.inr o1), by simp, by simp⟩
 have h6 := read_sim_eq SS lv 60 1200 ⟨0, []⟩ (Nat.zero_le _) _ _ h1
 have e1 : shR 0 (⟨0, []⟩ : RSt) = ⟨0, []⟩ := rfl
 rw [e1] at h6
 rcases h6.2 with h6 | ⟨hP, _⟩
 · refine ⟨(shR 0 s2).at_, 4, ?_⟩
   unfold readS
   rw [h6]
   simp only
   rw [if_neg]
   have : (shR 0 s2).at_ = S.length := by rw [← h2]; rfl
   rw [this, t1, o1.1]
   decide
 · exact hP.elim
end
section
variable {lv : Int} {s : List UInt8} {x : Tm}
theorem brackets_law (hs : s.length ≤ 1000) (hb : bareB s = true) (h : allA lv (s ++ [32, 46, 10]) = .ok [x]) : allA lv ([40, 32] ++ s ++ [32, 41, 32, 46, 10]) = .ok [x] ∨ ∃ a, allA lv ([40, 32] ++ s ++ [32, 41, 32, 46, 10]) = .bad a 7 := by
 obtain ⟨_, ts, hx, _, hS⟩ := allA_ok h
 obtain ⟨S, rfl, hk⟩ := lx_blank (z := [10]) (.inr rfl) s.length s false ts (Nat.le_refl _) hb hx
 obtain ⟨p, s2, h1, h2, h5, hc⟩ := read_whole hS
 have l1 : Lx false (41 :: [32, 46, 10]) (clT [32, 46, 10] :: [endT [10]]) := lx_punct (.inr rfl) (lx_pad1 pad32 (by decide) true (lx_end (.inr rfl)))
 have l2 := hk _ _ l1
 have l3 := lx_pad1 pad32 (by decide) true l2
 have l4 := lx_punct (.inl rfl) l3
 have e1 : [40, 32] ++ s ++ [32, 41, 32, 46, 10] = 40 :: ([32] ++ (s ++ 32 :: 41 :: [32, 46, 10])) := by simp
 rw [e1]
 have hlen : (40 :: ([32] ++ (s ++ 32 :: 41 :: [32, 46, 10])) : List UInt8).length ≤ 4096 := by simp; omega
 rcases read_bracket (c0 := ⟨firstT 4 (40 :: ([32] ++ (s ++ 32 :: 41 :: [32, 46, 10]))) 1, false⟩) (c1 := clT [32, 46, 10]) h1 h2 h5 hc ⟨rfl, rfl⟩ ⟨rfl, rfl⟩ with h6 | ⟨a, h6⟩
 · exact .inl (allA_of hlen l4 h6)
 · exact .inr ⟨a, allA_bad hlen l4 (by simp) h6⟩
theorem cuts_open (hs : s.length ≤ 1000) (hb : bareB s = true) (h : allA lv (s ++ [32, 46]) = .ok [x]) : ∃ a e, allA lv ([40, 32] ++ s ++ [32, 46]) = .bad a e := by
 obtain ⟨_, ts, hx, _, hS⟩ := allA_ok h
 obtain ⟨S, rfl, hk⟩ := lx_blank (z := []) (.inl rfl) s.length s false ts (Nat.le_refl _) hb hx
 obtain ⟨p, s2, h1, h2, h5, hc⟩ := read_whole hS
 have l3 := lx_pad1 pad32 (by decide) true hx
 have l4 := lx_punct (.inl rfl) l3
 have e1 : [40, 32] ++ s ++ [32, 46] = 40 :: ([32] ++ (s ++ 32 :: 46 :: [])) := by simp
 rw [e1]
 have hlen : (40 :: ([32] ++ (s ++ 32 :: 46 :: [])) : List UInt8).length ≤ 4096 := by simp; omega
 obtain ⟨a, e2, h6⟩ := read_open (c0 := ⟨firstT 4 (40 :: ([32] ++ (s ++ 32 :: 46 :: []))) 1, false⟩) h1 h2 h5 ⟨rfl, rfl⟩
 exact ⟨a, e2, allA_bad hlen l4 (by simp) h6⟩
theorem cuts_close (hs : s.length ≤ 1000) (hb : bareB s = true) (h : allA lv (s ++ [32, 46]) = .ok [x]) : ∃ a e, allA lv (s ++ [32, 41, 32, 46]) = .bad a e := by
 obtain ⟨_, ts, hx, _, hS⟩ := allA_ok h
 obtain ⟨S, rfl, hk⟩ := lx_blank (z := []) (.inl rfl) s.length s false ts (Nat.le_refl _) hb hx
 obtain ⟨p, s2, h1, h2, h5, hc⟩ := read_whole hS
 have l1 : Lx false (41 :: [32, 46]) (clT [32, 46] :: [endT []]) := lx_punct (.inr rfl) (lx_pad1 pad32 (by decide) true (lx_end (.inl rfl)))
 have l2 := hk _ _ l1
 have e1 : s ++ [32, 41, 32, 46] = s ++ 32 :: 41 :: [32, 46] := rfl
 rw [e1]
 have hlen : (s ++ 32 :: 41 :: [32, 46] : List UInt8).length ≤ 4096 := by simp; omega
 obtain ⟨a, e2, h6⟩ := read_close (c1 := clT [32, 46]) h1 h2 h5 ⟨rfl, rfl⟩
 exact ⟨a, e2, allA_bad hlen l2 (by simp) h6⟩
theorem cuts_end (hb : bareB s = true) (h : allA lv (s ++ [32, 46]) = .ok [x]) : ∃ a e, allA lv s = .bad a e := by
 obtain ⟨_, ts, hx, _, hS⟩ := allA_ok h
 cases hq : allA lv s with
 | bad a e => exact ⟨a, e, rfl⟩
 | ok l =>
  exfalso
  obtain ⟨_, us, hu, _, hT⟩ := allA_ok hq
  have hne := lx_no_end hu hb
  cases hT with
  | more h1 hr k =>
   obtain ⟨p, s2, _, h4, _, _⟩ := readS_ok hr
   have hlt := tok_lt (L := us.map rtOf) (i := s2.at_) (by rw [h4]; decide)
   rw [List.length_map] at hlt
   have e2 : tokA (us.map rtOf) s2.at_ = rtOf us[s2.at_] := by
    unfold tokA
    rw [List.getElem?_map, List.getElem?_eq_getElem hlt]
    rfl
   rw [e2] at h4
   exact hne _ (List.getElem_mem hlt) h4
  | done h1 =>
   have h0 : us = [] := List.eq_nil_of_length_eq_zero (by rw [List.length_map] at h1; omega)
   subst h0
   have hbl := lx_empty hu hb
   obtain ⟨S, rfl, hk⟩ := lx_blank (z := []) (.inl rfl) s.length s false ts (Nat.le_refl _) hb hx
   have hp : padB (s ++ [32]) := pad_blank (by rw [List.all_append, hbl]; rfl)
   have h2 := lx_pad1 hp (by simp) false (lx_end (z := []) (.inl rfl))
   have e1 : (s ++ [32]) ++ 46 :: [] = s ++ 32 :: 46 :: [] := by simp
   rw [e1] at h2
   have h3 := lx_det hx h2
   have h4 : S = [] := by cases S with
    | nil => rfl
    | cons a b => simp at h3
   subst h4
   obtain ⟨p, s2, h1, h2, h5, hc⟩ := read_whole hS
   have h6 := read_fwd _ _ _ _ _ _ _ (Nat.zero_le _) h1
   rw [h2] at h6
   simp at h6
end
end Go.Proofs.YtanhhihechakhaaDoor.ReadP
set_option linter.unusedVariables false
set_option linter.unusedSimpArgs false
namespace Go.Proofs.YtanhhihechakhaaDoor.ReadP
open Go.RowKit Go.Proofs.YtanhhihechakhaaDoor.E Go.Proofs.YtanhhihechakhaaDoor.ReplP Go.Proofs.YtanhhihechakhaaDoor.TokP Go.Proofs.YtanhhihechakhaaDoor.TermP Go.Proofs.YtanhhihechakhaaDoor.WrP Go.Proofs.YtanhhihechakhaaDoor.OpsP
theorem readS_bad {L : List RT} {lv : Int} {i : Nat} {a : Nat} {e : Int} (h : readT L lv 60 1200 ⟨i, []⟩ = .bad a e) : readS L lv i = .bad a e := by
 unfold readS
 rw [h]
end Go.Proofs.YtanhhihechakhaaDoor.ReadP
set_option linter.unusedVariables false
set_option linter.unusedSimpArgs false
namespace Go.Proofs.YtanhhihechakhaaDoor.E
open Go.RowKit
theorem met_run {P : Program} {F t : Nat} {v recv r : Value} {name : String} {vs : Array Value} {w : World} (hm : (method (P.types.size + Made.depth) t v name).run P w = .ok (F, recv) w) (hr : (callFunc F (#[recv] ++ vs)).run P w = .ok (.value r) w) :
    (callMethod (.iface t v) name vs).run P w = .ok (.value r) w := by
 have hp : Sem.run P program w = .ok P w := rfl
 simp only [callMethod, Sem.run_bind, hp, Result.andThen_ok, hm, hr]
section
variable {m : Md} {P : Program} {ops : Array Oper} {Q : Exit → Act → World → Prop} {n : Nat} {D : List Deferred} {w0 : World} {M : List Nat} {h0 : Hp}
variable {f : Tab} {h : Hp} {H : List Res} {rest : List Oper} {o : Oper}
variable {d t s : Nat} {p : String} {af : Array Edge} {g : Option (Nat × Bool)} {F : Nat} {args : Array Operand} {tys : Array TypeId} {vs : List Value}
theorem sy_assert {x : Operand} {vx v : Value} {xT aT : TypeId} {ok : Bool} (hx : f.ev x = some vx) (hr : ∀ w, (Instr.typeAssert vx xT aT ok).run P w = .ok v w) (hw : gok ops f g = some true) (hn : Nat.blt d n = true)
    (k : Sy m P ops Q n D w0 M h0 rest ((d, v) :: f) h H) : Sy m P ops Q n D w0 M h0 (⟨some d, .typeAssert x xT aT ok, t, p, af, g⟩ :: rest) f h H :=
 sy_val hw rfl hn (fun a w ha _ => by simp [execOp, ha.ev hx, hr]) k
theorem sy_eqif {x y : Operand} {tx ty s2 : Nat} {vx vy : Value} {b : Bool} (hx : f.ev x = some (.iface tx vx)) (hy : f.ev y = some (.iface ty vy)) (hr : ∀ w, (binOp .eql s (.iface tx vx) (.iface ty vy)).run P w = .ok (.bool b) w) (hw : gok ops f g = some true) (hn : Nat.blt d n = true)
    (k : Sy m P ops Q n D w0 M h0 rest ((d, .bool b) :: f) h H) : Sy m P ops Q n D w0 M h0 (⟨some d, .binOp .eql s x y s2, t, p, af, g⟩ :: rest) f h H :=
 sy_val hw rfl hn (fun a w ha _ => by
  have hg : (eqGuard .eql s x y (.iface tx vx) (.iface ty vy)).run P w = .ok () w := by simp [eqGuard]
  simp [execOp, ha.ev hx, ha.ev hy, hg, hr]) k
theorem sy_exn {v : Nat → Value} {ob : Obj} (hx : f.evs args.toList = some vs) (hr : ∀ w, (callFunc F vs.toArray).run P w = .ok (.value (v w.heap.size)) (w.alloc ob)) (hw : gok ops f g = some true) (hn : Nat.blt d n = true)
    (k : ∀ b, w0.heap.size ≤ b → b ∉ M → Sy .txt P ops Q n D w0 M h0 rest ((d, v b) :: f) h (.blk b ob :: H)) (hM : ∀ x ∈ M, x < w0.heap.size) : Sy .txt P ops Q n D w0 M h0 (⟨some d, .call ⟨.value (.func F), args, tys⟩, t, p, af, g⟩ :: rest) f h H :=
 sy_op hw fun a w ha hs => by
  have h1 := map_evs ha hx
  have hrun : (execOp a.eval ⟨some d, .call ⟨.value (.func F), args, tys⟩, t, p, af, g⟩).run P w = .ok (.value (v w.heap.size)) (w.alloc ob) := by
   simp only [execOp, resolve, h1, Act.eval, Deferred.ofValue, Sem.run_bind, Sem.run_pure, Result.andThen_ok, invoke, Array.empty_append, Array.append_empty, hr w]
  unfold Oper.wp
  rw [hrun]
  exact k w.heap.size hs.frm.size (fun hx => by have := hM _ hx; have := hs.frm.size; omega) _ _ (ha.put d _ hn) (hs.alloc _)
theorem sy_exw2 {v old new : Value} {b off e : Nat} {cs cs' : List Value} {H1 : List Res} (i : Nat) (hx : f.evs args.toList = some vs) (hp : pickR i H = some (.blk b (.cells cs.toArray e (0, 0)), H1)) (ho : cs[off]? = some old) (hc : cs.set off new = cs')
    (hr : ∀ w, St w0 M h0 h H w → w.cell? ⟨b, off, none⟩ = some old → w.frozen? ⟨b, off, none⟩ = false → (callFunc F vs.toArray).run P w = .ok (.value v) (w.setCell ⟨b, off, none⟩ new)) (hw : gok ops f g = some true) (hn : Nat.blt d n = true)
    (k : Sy .txt P ops Q n D w0 M h0 rest ((d, v) :: f) h (.blk b (.cells cs'.toArray e (0, 0)) :: H1)) : Sy .txt P ops Q n D w0 M h0 (⟨some d, .call ⟨.value (.func F), args, tys⟩, t, p, af, g⟩ :: rest) f h H :=
 sy_op hw fun a w ha hs => by
  have hs' := hs.swap (pickR_perm hp)
  have hb : w.heap[b]? = some (.cells cs.toArray e (0, 0)) := hs'.ok _ (List.mem_cons_self)
  have hcell : w.cell? ⟨b, off, none⟩ = some old := by simp [World.cell?, hb, ho]
  have hfz : w.frozen? ⟨b, off, none⟩ = false := by simp [World.frozen?, hb]
  have h1 := map_evs ha hx
  have hrun : (execOp a.eval ⟨some d, .call ⟨.value (.func F), args, tys⟩, t, p, af, g⟩).run P w = .ok (.value v) (w.setCell ⟨b, off, none⟩ new) := by
   simp only [execOp, resolve, h1, Act.eval, Deferred.ofValue, Sem.run_bind, Sem.run_pure, Result.andThen_ok, invoke, Array.empty_append, Array.append_empty, hr w hs hcell hfz]
  unfold Oper.wp
  rw [hrun]
  refine k _ _ (ha.put d _ hn) (hs'.write (o' := .cells cs'.toArray e (0, 0)) ⟨rfl, rfl, rfl, by simp [World.setCell], fun j hj hm => heap_setCell_other w ⟨b, off, none⟩ j new (by simpa using hm)⟩ ?_)
  rw [heap_setCell_same w b off cs.toArray e new hb, ← hc]
  simp
theorem St.cellQ {b off e : Nat} {cs : List Value} {fr : Nat × Nat} {v : Value} {H1 : List Res} {w : World} (i : Nat) (hp : pickR i H = some (.blk b (.cells cs.toArray e fr), H1)) (hc : cs[off]? = some v) (hs : St w0 M h0 h H w) : w.cell? ⟨b, off, none⟩ = some v := by
 have h1 : w.heap[b]? = some (.cells cs.toArray e fr) := (hs.swap (pickR_perm hp)).ok _ (List.mem_cons_self)
 simp [World.cell?, h1, hc]
theorem sy_invq {recv : Operand} {name : String} {vr v : Value} (hr : f.ev recv = some vr) (hx : f.evs args.toList = some vs) (hmeth : ∀ w, (callMethod vr name vs.toArray).run P w = .ok (.value v) w) (hw : gok ops f g = some true) (hn : Nat.blt d n = true)
    (k : Sy m P ops Q n D w0 M h0 rest ((d, v) :: f) h H) : Sy m P ops Q n D w0 M h0 (⟨some d, .call ⟨.invoke recv name, args, tys⟩, t, p, af, g⟩ :: rest) f h H :=
 sy_val hw rfl hn (fun a w ha _ => by
  have h1 := map_evs ha hx
  have h2 : (#[vr] ++ vs.toArray)[0]? = some vr := by simp
  have h3 : (#[vr] ++ vs.toArray).extract 1 (#[vr] ++ vs.toArray).size = vs.toArray := by
   apply Array.ext'
   simp
  simp only [execOp, resolve, h1, ha.ev hr, Sem.run_bind, Sem.run_pure, Result.andThen_ok, invoke, h2, h3, hmeth]) k
end
end Go.Proofs.YtanhhihechakhaaDoor.E
set_option linter.unusedVariables false
set_option linter.unusedSimpArgs false
namespace Go.Proofs.YtanhhihechakhaaDoor
open Go.RowKit Go.Proofs.YtanhhihechakhaaDoor.E Go.Proofs.YtanhhihechakhaaDoor.ReplP Go.Proofs.YtanhhihechakhaaDoor.TokP Go.Proofs.YtanhhihechakhaaDoor.TermP Go.Proofs.YtanhhihechakhaaDoor.WrP Go.Proofs.YtanhhihechakhaaDoor.ReadP Go.Proofs.YtanhhihechakhaaDoor.OpsP
theorem read_tm (r bm : Nat) (A : Option Addr) (c : Nat) (L : List RT) (lv : Int) (hqN : ∀ x ∈ L, TokOk x) (hPW : ∀ i, preW L i ≤ 549755813888) (hL : L.length ≤ 1048576) : ∀ (k : Nat) (inn : Int), (inn + k = 60 ∨ k = 0 ∧ 60 ≤ inn) → 0 ≤ inn → inn ≤ 999000 → TmC r bm A c L lv inn (readT L lv k) := fun k => by
 induction k using Nat.strongRecOn with
 | _ k ih =>
  intro inn hk hi0 hi1 h st o vn most hT hat hnm hm
  exact term1_c r bm A c L lv h st inn o vn most _ (term_s r bm A c L lv h st inn o vn k hk hi0 hi1 ih most hqN hPW hT hL hat hnm hm)
theorem asFlt (a e : Int) (w : World) : (Instr.typeAssert (.iface 76 (.agg #[.int .i64 a, .int .i64 e])) 20 76 true).run Tryd.prog w = .ok (.tuple #[.agg #[.int .i64 a, .int .i64 e], .bool true]) w := by kernel_rfl
set_option maxRecDepth 100000 in
theorem read1p_c (b6 b7 b8 b9 : Nat) (x1 x2 x3 x4 v7 v8 v9 : Value) (a : Nat) (e : Int) (h : Hp) : CRD Tryd.prog 36 [.pointer (some ⟨b6, 0, none⟩), .pointer (some ⟨b7, 0, none⟩), .pointer (some ⟨b8, 0, none⟩), .pointer (some ⟨b9, 0, none⟩)] (.panicking [{ v := faultV 76 a e, recovered := false }]) (.panicking [{ v := faultV 76 a e, recovered := true }]) h [.blk b6 (.cells ([x1, x2, x3, x4] : List Value).toArray 30 (0, 0)), .blk b7 (.cells ([v7] : List Value).toArray 51 (0, 0)), .blk b8 (.cells ([v8] : List Value).toArray 3 (0, 0)), .blk b9 (.cells ([v9] : List Value).toArray 24 (0, 0))] (fun (_ : Unit) _ H' => H' = [.blk b6 (.cells ([.int .i64 0, .int .i64 0, .string ⟨#[]⟩, .slice none 0 0] : List Value).toArray 30 (0, 0)), .blk b7 (.cells ([.slice none 0 0] : List Value).toArray 51 (0, 0)), .blk b8 (.cells ([.int .i64 ((a : Nat) : Int)] : List Value).toArray 3 (0, 0)), .blk b9 (.cells ([.int .i64 e] : List Value).toArray 24 (0, 0))]) := by
 refine enterRec Tryd.func36 rfl rfl rfl rfl rfl (fun w hb0 => ?_)
 refine cy_seq ?_
 refine cy_region ?_
 refine sy_move rfl rfl rfl ?_
 refine sy_eqn Tryd.underlying20 rfl rfl rfl rfl rfl ?_
 refine sy_setT (d := 9) rfl rfl rfl ?_
 refine sy_nil rfl ?_
 refine ny_next ?_
 refine cy_condT rfl ?_
 refine cy_seq ?_
 refine cy_region ?_
 refine sy_move rfl rfl rfl ?_
 refine sy_assert rfl (fun w => asFlt _ _ w) rfl rfl ?_
 refine sy_move rfl rfl rfl ?_
 refine sy_extract rfl rfl rfl rfl ?_
 refine sy_extract rfl rfl rfl rfl ?_
 refine sy_setT (d := 14) rfl rfl rfl ?_
 refine sy_alloc zer_76 rfl rfl (fun b5 hb5 hM5 => ?_) (by first | exact hb0 | simp)
 first | refine sy_stl 0 sz_76 rfl rfl rfl rfl rfl rfl rfl rfl ?_ | refine sy_stl 1 sz_76 rfl rfl rfl rfl rfl rfl rfl rfl ?_ | refine sy_stl 2 sz_76 rfl rfl rfl rfl rfl rfl rfl rfl ?_ | refine sy_stl 3 sz_76 rfl rfl rfl rfl rfl rfl rfl rfl ?_ | refine sy_stl 4 sz_76 rfl rfl rfl rfl rfl rfl rfl rfl ?_
 refine sy_assign rfl rfl rfl ?_
 refine sy_nil rfl ?_
 refine ny_next ?_
 refine cy_seq ?_
 refine cy_seq ?_
 refine cy_region ?_
 refine sy_move rfl rfl rfl ?_
 refine sy_not rfl rfl rfl ?_
 refine sy_nil rfl ?_
 refine ny_next ?_
 refine cy_condF rfl ?_
 refine cy_skip ?_
 refine ny_next ?_
 refine cy_frz 0 rfl hM5 (fun h5 hle5 hb5x => ?_)
 refine cy_regionA mixed ?_
 refine zy_q 0 rfl (by kernel_rfl) (fun hB5_0 => ?_)
 refine sy_build rfl (fun w => bld_30_ w) rfl rfl ?_
 refine sy_nil1 (ny_zq hB5_0 ?_)
 refine zy_q 1 rfl (by kernel_rfl) (fun hB5_1 => ?_)
 refine sy_field fld_76_0 rfl rfl rfl ?_
 refine sy_nil1 (ny_zq hB5_1 ?_)
 refine zy_q 2 rfl (by kernel_rfl) (fun hB5_2 => ?_)
 refine sy_ldh one_3 rfl (Hp.blk hb5x 0 _ rfl) rfl rfl ?_
 refine sy_nil1 (ny_zq hB5_2 ?_)
 refine zy_q 3 rfl (by kernel_rfl) (fun hB5_3 => ?_)
 refine sy_field fld_76_1 rfl rfl rfl ?_
 refine sy_nil1 (ny_zq hB5_3 ?_)
 refine zy_q 4 rfl (by kernel_rfl) (fun hB5_4 => ?_)
 refine sy_ldh one_24 rfl (Hp.blk hb5x 1 _ rfl) rfl rfl ?_
 refine sy_nil1 (ny_zq hB5_4 ?_)
 refine zy_1 5 (by kernel_rfl) ?_
 refine zop_run rfl rfl (fun hB5_5 => ?_)
 first | refine sy_stl 0 sz_30 rfl rfl rfl rfl rfl rfl rfl rfl ?_ | refine sy_stl 1 sz_30 rfl rfl rfl rfl rfl rfl rfl rfl ?_ | refine sy_stl 2 sz_30 rfl rfl rfl rfl rfl rfl rfl rfl ?_ | refine sy_stl 3 sz_30 rfl rfl rfl rfl rfl rfl rfl rfl ?_ | refine sy_stl 4 sz_30 rfl rfl rfl rfl rfl rfl rfl rfl ?_
 refine sy_nil rfl (ny_zy hB5_5 (Hp.Le.refl _) ?_)
 refine zy_1 6 (by kernel_rfl) ?_
 refine zop_run rfl rfl (fun hB5_6 => ?_)
 first | refine sy_stl 0 sz_51 rfl rfl rfl rfl rfl rfl rfl rfl ?_ | refine sy_stl 1 sz_51 rfl rfl rfl rfl rfl rfl rfl rfl ?_ | refine sy_stl 2 sz_51 rfl rfl rfl rfl rfl rfl rfl rfl ?_ | refine sy_stl 3 sz_51 rfl rfl rfl rfl rfl rfl rfl rfl ?_ | refine sy_stl 4 sz_51 rfl rfl rfl rfl rfl rfl rfl rfl ?_
 refine sy_nil rfl (ny_zy hB5_6 (Hp.Le.refl _) ?_)
 refine zy_1 7 (by kernel_rfl) ?_
 refine zop_run rfl rfl (fun hB5_7 => ?_)
 first | refine sy_stl 0 sz_3 rfl rfl rfl rfl rfl rfl rfl rfl ?_ | refine sy_stl 1 sz_3 rfl rfl rfl rfl rfl rfl rfl rfl ?_ | refine sy_stl 2 sz_3 rfl rfl rfl rfl rfl rfl rfl rfl ?_ | refine sy_stl 3 sz_3 rfl rfl rfl rfl rfl rfl rfl rfl ?_ | refine sy_stl 4 sz_3 rfl rfl rfl rfl rfl rfl rfl rfl ?_
 refine sy_nil rfl (ny_zy hB5_7 (Hp.Le.refl _) ?_)
 refine zy_1 8 (by kernel_rfl) ?_
 refine zop_run rfl rfl (fun hB5_8 => ?_)
 first | refine sy_stl 0 sz_24 rfl rfl rfl rfl rfl rfl rfl rfl ?_ | refine sy_stl 1 sz_24 rfl rfl rfl rfl rfl rfl rfl rfl ?_ | refine sy_stl 2 sz_24 rfl rfl rfl rfl rfl rfl rfl rfl ?_ | refine sy_stl 3 sz_24 rfl rfl rfl rfl rfl rfl rfl rfl ?_ | refine sy_stl 4 sz_24 rfl rfl rfl rfl rfl rfl rfl rfl ?_
 refine sy_nil rfl (ny_zy hB5_8 (Hp.Le.refl _) ?_)
 refine zy_done (by kernel_rfl) ?_
 exact ny_fin (res0 rfl) (fun w hs => ⟨(), _, _, ⟨_, rfl⟩, rfl, hs.sel (is := [3, 2, 1, 0]) rfl⟩)
set_option maxRecDepth 100000 in
theorem read1n_c (b6 b7 b8 b9 : Nat) (h : Hp) (H : List Res) : CRD Tryd.prog 36 [.pointer (some ⟨b6, 0, none⟩), .pointer (some ⟨b7, 0, none⟩), .pointer (some ⟨b8, 0, none⟩), .pointer (some ⟨b9, 0, none⟩)] .returning .returning h H (fun (_ : Unit) _ H' => H' = H) := by
 refine enterRecN Tryd.func36 rfl rfl rfl rfl rfl (fun w hb0 => ?_)
 refine cy_seq ?_
 refine cy_region ?_
 refine sy_move rfl rfl rfl ?_
 refine sy_eqn Tryd.underlying20 rfl rfl rfl rfl rfl ?_
 refine sy_setF (d := 9) rfl rfl rfl ?_
 refine sy_nil rfl ?_
 refine ny_next ?_
 refine cy_condF rfl ?_
 refine cy_skip ?_
 exact ny_fin (res0 rfl) (fun w hs => ⟨(), _, _, ⟨_, rfl⟩, rfl, hs⟩)
abbrev RdA := GT × Value × Nat × Int
def RdP (L : List RT) (lv : Int) (i : Nat) (x : RdA) (h : Hp) : Prop := ((∃ s, readS L lv i = .ok x.1.tm s ∧ x.2.2.1 = s.at_ ∧ x.2.2.2 = 0) ∨ readS L lv i = .bad x.2.2.1 x.2.2.2) ∧ (Lies h x.1 ∧ Fits x.1)
theorem readS_no {L : List RT} {lv : Int} {i : Nat} {x : Tm × Int} {s2 : RSt} (h : readT L lv 60 1200 ⟨i, []⟩ = .ok x s2) (hk : ¬ (tokA L s2.at_).kind = 5) : readS L lv i = .bad s2.at_ 4 := by
 unfold readS
 rw [h]
 simp only
 rw [if_neg hk]
theorem readS_chk {L : List RT} {lv : Int} {i : Nat} {x : Tm × Int} {s2 : RSt} (h : readT L lv 60 1200 ⟨i, []⟩ = .ok x s2) (hk : (tokA L s2.at_).kind = 5) (hc : ¬ chkT lv x.1 = 0) : readS L lv i = .bad (s2.at_ + 1) (chkT lv x.1) := by
 unfold readS
 rw [h]
 simp only
 rw [if_pos hk, if_neg hc]
theorem lies_zero (h : Hp) : Lies h (GT.mk 0 0 ⟨#[]⟩ none 0 []) ∧ Fits (GT.mk 0 0 ⟨#[]⟩ none 0 []) := ⟨lies_leaf _ _ _ _, fits_leaf (by decide) (by decide) (by decide) (by decide) (by decide)⟩
theorem fldTok (k n : Int) (s : ByteArray) (q t : Bool) (w : World) : (Instr.field 65 (.agg #[.int .i64 k, .string s, .int .i64 n, .bool q, .bool t]) 0).run Tryd.prog w = .ok (.int .i64 k) w := by kernel_rfl
set_option maxRecDepth 100000 in
theorem read_c (A : Option Addr) (c : Nat) (L : List RT) (lv : Int) (i : Nat) (h : Hp) (hT : RowsAt h A 5 (L.map rtC)) (hL : L.length ≤ 1048576) (hqN : ∀ x ∈ L, TokOk x) (hPW : ∀ i, preW L i ≤ 549755813888) (hi : i ≤ L.length) : CX Tryd.prog 22 [.slice A L.length c, .int .i64 ((i : Nat) : Int), .int .i64 lv] h (fun x : RdA => .tuple #[.agg (GT.cells x.1).toArray, x.2.1, .int .i64 ((x.2.2.1 : Nat) : Int), .int .i64 x.2.2.2]) (RdP L lv i) := by
 refine enterXD Tryd.func22 rfl rfl rfl (fun w => ?_)
 refine cy_seq ?_
 refine cy_region ?_
 refine sy_alloc zer_30 rfl rfl (fun b6 hb6 hM6 => ?_) (by simp)
 refine sy_alloc zer_51 rfl rfl (fun b7 hb7 hM7 => ?_) (by simp)
 refine sy_alloc zer_3 rfl rfl (fun b8 hb8 hM8 => ?_) (by simp)
 refine sy_alloc zer_24 rfl rfl (fun b9 hb9 hM9 => ?_) (by simp)
 refine sy_nil rfl ?_
 refine ny_next ?_
 refine cy_seq ?_
 refine cy_seq ?_
 refine cy_region ?_
 refine sy_move rfl rfl rfl ?_
 refine sy_cmp rfl rfl rfl rfl rfl ?_
 refine sy_setF (d := 14) rfl rfl (decide_eq_false (by omega)) ?_
 refine sy_move rfl rfl rfl ?_
 refine sy_move rfl rfl rfl ?_
 refine sy_move rfl rfl rfl ?_
 refine sy_len rfl (len_slice Tryd.underlying45 _ _ _) rfl rfl ?_
 refine sy_cmp rfl rfl rfl rfl rfl ?_
 refine sy_setF (d := 19) rfl rfl (decide_eq_false (by omega)) ?_
 refine sy_pickF rfl rfl rfl rfl ?_
 refine sy_nil rfl ?_
 refine ny_next ?_
 refine cy_condF rfl ?_
 refine cy_skip ?_
 refine ny_next ?_
 refine cy_seq ?_
 refine cy_region ?_
 refine sy_move rfl rfl rfl ?_
 refine sy_move rfl rfl rfl ?_
 refine sy_move rfl rfl rfl ?_
 refine sy_makeMap (k := 9) (e := 3) rfl rfl (fun bm o25 hbm hMm hm25 => ?_) (by simp)
 refine sy_build rfl (fun w => bld_74_0x1x2x4 w) rfl rfl ?_
 refine sy_box rfl rfl rfl rfl (fun r hb27 hM27 => ?_) (by simp)
 refine sy_assign rfl rfl rfl ?_
 refine sy_nil rfl ?_
 refine ny_next ?_
 refine cy_seq ?_
 refine cy_region ?_
 refine sy_bind (s := 0) rfl rfl rfl rfl ?_
 refine sy_deferC (caps := [.pointer (some ⟨b6, 0, none⟩), .pointer (some ⟨b7, 0, none⟩), .pointer (some ⟨b8, 0, none⟩), .pointer (some ⟨b9, 0, none⟩)]) rfl rfl rfl ?_
 refine sy_nil rfl ?_
 refine ny_next ?_
 refine cy_seq ?_
 refine cy_nilRow 9 1 ?_
 refine cy_region ?_
 refine sy_move rfl rfl rfl ?_
 refine sy_callRO [1, 1, 0] call_37 rfl rfl (read_tm r bm A c L lv hqN hPW hL 60 0 (.inl rfl) (by decide) (by decide) _ ⟨i, []⟩ o25 (.slice none 0 0) 1200 hT hi (Nat.zero_le _) hm25) rfl rfl (fun a30 e30 h30x H30x hb30 hx30 hle30x => ?_) (fun x30 s30 g30 h30x H30x hk30 hx30 hle30x => ?_)
 · obtain ⟨a9, i9, o9, v9, n9, rfl⟩ := hx30
   refine ny_thenP ?_
   refine ny_finUP (lvU_cons [6, 5, 4, 3] call_36 rfl (by intro h9; cases h9) (read1p_c b6 b7 b8 b9 _ _ _ _ _ _ _ _ _ _) (fun _ h9y H9y hx9y hle9y => ?_))
   subst hx9y
   exact lvU_ret (resc4 0 1 2 3 rfl agg_30 one_51 one_3 one_24 rfl rfl rfl rfl rfl rfl rfl rfl rfl) (fun w9 hs => ⟨((GT.mk 0 0 ⟨#[]⟩ none 0 []), .slice none 0 0, a30, e30), h9y, rfl, ⟨.inr (readS_bad hb30), lies_zero _⟩, hs.toGrow⟩)
 · obtain ⟨hg30, hl30, hm30, rfl⟩ := hx30
   replace hg30 : g30.1.tm = x30.1 := hg30
   have hfw := read_fwd L lv 60 1200 ⟨i, []⟩ x30 s30 hi hk30
   have hww := read_wt L lv 60 1200 ⟨i, []⟩ x30 s30 hi hk30
   have hpw := hPW s30.at_
   have hT30 := hT.le hle30x
   refine sy_alloc zer_30 rfl rfl (fun b11 hb11 hM11 => ?_) (by simp)
   first | refine sy_stl 0 sz_30 rfl rfl rfl rfl rfl rfl rfl rfl ?_ | refine sy_stl 1 sz_30 rfl rfl rfl rfl rfl rfl rfl rfl ?_ | refine sy_stl 2 sz_30 rfl rfl rfl rfl rfl rfl rfl rfl ?_ | refine sy_stl 3 sz_30 rfl rfl rfl rfl rfl rfl rfl rfl ?_ | refine sy_stl 4 sz_30 rfl rfl rfl rfl rfl rfl rfl rfl ?_ | refine sy_stl 5 sz_30 rfl rfl rfl rfl rfl rfl rfl rfl ?_ | refine sy_stl 6 sz_30 rfl rfl rfl rfl rfl rfl rfl rfl ?_ | refine sy_stl 7 sz_30 rfl rfl rfl rfl rfl rfl rfl rfl ?_
   refine sy_nil rfl ?_
   refine ny_next ?_
   refine cy_seq ?_
   refine cy_seq ?_
   refine cy_region ?_
   refine sy_move rfl rfl rfl ?_
   refine sy_callR1 [1] call_38 rfl rfl (peek_c r bm A c L lv _ hT30 hL s30 0 g30.2.2 hfw.2.1) rfl rfl (fun x32 h32x H32x hx32 hle32x => ?_)
   obtain ⟨rfl, rfl⟩ := hx32
   refine sy_fieldv rfl (fun w => fldTok _ _ _ _ _ w) rfl rfl ?_
   refine sy_cmp rfl rfl rfl rfl rfl ?_
   refine sy_nil rfl ?_
   refine ny_next ?_
   refine cy_cond rfl (fun hc34 => ?_) (fun hc34 => ?_)
   · have hn34 : ¬ (tokA L s30.at_).kind = 5 := by simpa using hc34
     refine cy_region ?_
     refine sy_move rfl rfl rfl ?_
     refine sy_callR [0] call_39 rfl rfl (rbad_c r bm A c L lv _ hT30 hL s30 0 g30.2.2 hfw.2.1 4) rfl rfl (fun x36 h36x H36x hx36 hle36x => ?_)
     obtain ⟨rfl, rfl⟩ := hx36
     refine ny_thenP ?_
     refine ny_finUP (lvU_cons [7, 6, 5, 4] call_36 rfl (by intro h9; cases h9) (read1p_c b6 b7 b8 b9 _ _ _ _ _ _ _ _ _ _) (fun _ h9y H9y hx9y hle9y => ?_))
     subst hx9y
     exact lvU_ret (resc4 0 1 2 3 rfl agg_30 one_51 one_3 one_24 rfl rfl rfl rfl rfl rfl rfl rfl rfl) (fun w9 hs => ⟨((GT.mk 0 0 ⟨#[]⟩ none 0 []), .slice none 0 0, s30.at_, 4), h9y, rfl, ⟨.inr (readS_no hk30 hn34), lies_zero _⟩, hs.toGrow⟩)
   · have hn34 : (tokA L s30.at_).kind = 5 := by simpa using hc34
     have hlt := tok_lt (L := L) (i := s30.at_) (by rw [hn34]; decide)
     refine cy_skip ?_
     refine ny_next ?_
     refine cy_seq ?_
     refine cy_region ?_
     refine sy_move rfl rfl rfl ?_
     refine sy_nilCheck rfl rfl rfl ?_
     refine sy_field fld_74_1 rfl rfl rfl ?_
     first | refine sy_ldr 0 one_3 rfl rfl rfl rfl rfl ?_ | refine sy_ldr 1 one_3 rfl rfl rfl rfl rfl ?_ | refine sy_ldr 2 one_3 rfl rfl rfl rfl rfl ?_ | refine sy_ldr 3 one_3 rfl rfl rfl rfl rfl ?_ | refine sy_ldr 4 one_3 rfl rfl rfl rfl rfl ?_ | refine sy_ldr 5 one_3 rfl rfl rfl rfl rfl ?_ | refine sy_ldr 6 one_3 rfl rfl rfl rfl rfl ?_ | refine sy_ldr 7 one_3 rfl rfl rfl rfl rfl ?_
     refine sy_addi (z := ((s30.at_ + 1 : Nat) : Int)) rfl rfl (by omega) (by omega) (by omega) rfl rfl ?_
     refine sy_nilCheck rfl rfl rfl ?_
     refine sy_field fld_74_1 rfl rfl rfl ?_
     first | refine sy_stl 0 sz_3 rfl rfl rfl rfl rfl rfl rfl rfl ?_ | refine sy_stl 1 sz_3 rfl rfl rfl rfl rfl rfl rfl rfl ?_ | refine sy_stl 2 sz_3 rfl rfl rfl rfl rfl rfl rfl rfl ?_ | refine sy_stl 3 sz_3 rfl rfl rfl rfl rfl rfl rfl rfl ?_ | refine sy_stl 4 sz_3 rfl rfl rfl rfl rfl rfl rfl rfl ?_ | refine sy_stl 5 sz_3 rfl rfl rfl rfl rfl rfl rfl rfl ?_ | refine sy_stl 6 sz_3 rfl rfl rfl rfl rfl rfl rfl rfl ?_ | refine sy_stl 7 sz_3 rfl rfl rfl rfl rfl rfl rfl rfl ?_
     refine sy_nil rfl ?_
     refine ny_next ?_
     refine cy_seq ?_
     refine cy_seq ?_
     refine cy_region ?_
     first | refine sy_ldar 0 agg_30 rfl rfl rfl rfl rfl ?_ | refine sy_ldar 1 agg_30 rfl rfl rfl rfl rfl ?_ | refine sy_ldar 2 agg_30 rfl rfl rfl rfl rfl ?_ | refine sy_ldar 3 agg_30 rfl rfl rfl rfl rfl ?_ | refine sy_ldar 4 agg_30 rfl rfl rfl rfl rfl ?_ | refine sy_ldar 5 agg_30 rfl rfl rfl rfl rfl ?_ | refine sy_ldar 6 agg_30 rfl rfl rfl rfl rfl ?_ | refine sy_ldar 7 agg_30 rfl rfl rfl rfl rfl ?_
     refine sy_move rfl rfl rfl ?_
     refine sy_call rfl call_12 rfl (check_c g30.1 lv _ hl30.1 hl30.2 (by rw [wtG_tm, hg30]; omega)) rfl rfl ?_
     refine sy_assign rfl rfl rfl ?_
     refine sy_nil rfl ?_
     refine ny_next ?_
     refine cy_seq ?_
     refine cy_region ?_
     refine sy_move rfl rfl rfl ?_
     refine sy_cmp rfl rfl rfl rfl rfl ?_
     refine sy_nil rfl ?_
     refine ny_next ?_
     refine cy_cond rfl (fun hc48 => ?_) (fun hc48 => ?_)
     · have hn48 : ¬ chkT lv x30.1 = 0 := by rw [← hg30]; simpa using hc48
       refine cy_region ?_
       refine sy_move rfl rfl rfl ?_
       refine sy_move rfl rfl rfl ?_
       refine sy_callR [0] call_39 rfl rfl (rbad_c r bm A c L lv _ hT30 hL (adv s30) 0 g30.2.2 (by show s30.at_ + 1 ≤ _; omega) (chkT lv g30.1.tm)) rfl rfl (fun x51 h51x H51x hx51 hle51x => ?_)
       obtain ⟨rfl, rfl⟩ := hx51
       refine ny_thenP ?_
       refine ny_finUP (lvU_cons [7, 6, 5, 4] call_36 rfl (by intro h9; cases h9) (read1p_c b6 b7 b8 b9 _ _ _ _ _ _ _ _ _ _) (fun _ h9y H9y hx9y hle9y => ?_))
       subst hx9y
       exact lvU_ret (resc4 0 1 2 3 rfl agg_30 one_51 one_3 one_24 rfl rfl rfl rfl rfl rfl rfl rfl rfl) (fun w9 hs => ⟨((GT.mk 0 0 ⟨#[]⟩ none 0 []), .slice none 0 0, (s30.at_ + 1), (chkT lv g30.1.tm)), h9y, rfl, ⟨.inr (by rw [hg30]; exact readS_chk hk30 hn34 hn48), lies_zero _⟩, hs.toGrow⟩)
     · have hn48 : chkT lv g30.1.tm = 0 := by simpa using hc48
       refine cy_skip ?_
       refine ny_next ?_
       refine cy_seq ?_
       refine cy_rowform 3 rfl (fun A12 c12 hv12 => ?_)
       obtain ⟨g30a, o30, v30⟩ := g30
       simp only at hv12 hg30 hl30 hm30 hn48
       subst hv12
       refine cy_frz 1 rfl (by simp) (fun h11 hle11 hb11x => ?_)
       refine cy_frz 0 rfl (by simp) (fun h27 hle27 hb27x => ?_)
       replace hb11x := hle27 _ _ hb11x
       refine cy_regionA mixed ?_
       refine zy_q 0 rfl (by kernel_rfl) (fun hB12_0 => ?_)
       refine sy_ldah (vs := GT.cells g30a) agg_30 rfl rfl (Hp.blk hb11x) rfl rfl ?_
       refine sy_nil1 (ny_zq hB12_0 ?_)
       refine zy_q 1 rfl (by kernel_rfl) (fun hB12_1 => ?_)
       refine sy_move rfl rfl rfl ?_
       refine sy_nil1 (ny_zq hB12_1 ?_)
       refine zy_q 2 rfl (by kernel_rfl) (fun hB12_2 => ?_)
       refine sy_nilCheck rfl rfl rfl ?_
       refine sy_nil1 (ny_zq hB12_2 ?_)
       refine zy_q 3 rfl (by kernel_rfl) (fun hB12_3 => ?_)
       refine sy_field fld_74_5 rfl rfl rfl ?_
       refine sy_nil1 (ny_zq hB12_3 ?_)
       refine zy_q 4 rfl (by kernel_rfl) (fun hB12_4 => ?_)
       refine sy_ldh one_51 rfl (Hp.blk hb27x 5 _ rfl) rfl rfl ?_
       refine sy_nil1 (ny_zq hB12_4 ?_)
       refine zy_q 5 rfl (by kernel_rfl) (fun hB12_5 => ?_)
       refine sy_move rfl rfl rfl ?_
       refine sy_nil1 (ny_zq hB12_5 ?_)
       refine zy_q 6 rfl (by kernel_rfl) (fun hB12_6 => ?_)
       refine sy_nilCheck rfl rfl rfl ?_
       refine sy_nil1 (ny_zq hB12_6 ?_)
       refine zy_q 7 rfl (by kernel_rfl) (fun hB12_7 => ?_)
       refine sy_field fld_74_1 rfl rfl rfl ?_
       refine sy_nil1 (ny_zq hB12_7 ?_)
       refine zy_q 8 rfl (by kernel_rfl) (fun hB12_8 => ?_)
       refine sy_ldh one_3 rfl (Hp.blk hb27x 1 _ rfl) rfl rfl ?_
       refine sy_nil1 (ny_zq hB12_8 ?_)
       refine zy_1 9 (by kernel_rfl) ?_
       refine zop_run rfl rfl (fun hB12_9 => ?_)
       first | refine sy_stl 0 sz_30 rfl rfl rfl rfl rfl rfl rfl rfl ?_ | refine sy_stl 1 sz_30 rfl rfl rfl rfl rfl rfl rfl rfl ?_ | refine sy_stl 2 sz_30 rfl rfl rfl rfl rfl rfl rfl rfl ?_ | refine sy_stl 3 sz_30 rfl rfl rfl rfl rfl rfl rfl rfl ?_ | refine sy_stl 4 sz_30 rfl rfl rfl rfl rfl rfl rfl rfl ?_ | refine sy_stl 5 sz_30 rfl rfl rfl rfl rfl rfl rfl rfl ?_ | refine sy_stl 6 sz_30 rfl rfl rfl rfl rfl rfl rfl rfl ?_ | refine sy_stl 7 sz_30 rfl rfl rfl rfl rfl rfl rfl rfl ?_
       refine sy_nil rfl (ny_zy hB12_9 (Hp.Le.refl _) ?_)
       refine zy_1 10 (by kernel_rfl) ?_
       refine zop_run rfl rfl (fun hB12_10 => ?_)
       first | refine sy_stl 0 sz_51 rfl rfl rfl rfl rfl rfl rfl rfl ?_ | refine sy_stl 1 sz_51 rfl rfl rfl rfl rfl rfl rfl rfl ?_ | refine sy_stl 2 sz_51 rfl rfl rfl rfl rfl rfl rfl rfl ?_ | refine sy_stl 3 sz_51 rfl rfl rfl rfl rfl rfl rfl rfl ?_ | refine sy_stl 4 sz_51 rfl rfl rfl rfl rfl rfl rfl rfl ?_ | refine sy_stl 5 sz_51 rfl rfl rfl rfl rfl rfl rfl rfl ?_ | refine sy_stl 6 sz_51 rfl rfl rfl rfl rfl rfl rfl rfl ?_ | refine sy_stl 7 sz_51 rfl rfl rfl rfl rfl rfl rfl rfl ?_
       refine sy_nil rfl (ny_zy hB12_10 (Hp.Le.refl _) ?_)
       refine zy_1 11 (by kernel_rfl) ?_
       refine zop_run rfl rfl (fun hB12_11 => ?_)
       first | refine sy_stl 0 sz_3 rfl rfl rfl rfl rfl rfl rfl rfl ?_ | refine sy_stl 1 sz_3 rfl rfl rfl rfl rfl rfl rfl rfl ?_ | refine sy_stl 2 sz_3 rfl rfl rfl rfl rfl rfl rfl rfl ?_ | refine sy_stl 3 sz_3 rfl rfl rfl rfl rfl rfl rfl rfl ?_ | refine sy_stl 4 sz_3 rfl rfl rfl rfl rfl rfl rfl rfl ?_ | refine sy_stl 5 sz_3 rfl rfl rfl rfl rfl rfl rfl rfl ?_ | refine sy_stl 6 sz_3 rfl rfl rfl rfl rfl rfl rfl rfl ?_ | refine sy_stl 7 sz_3 rfl rfl rfl rfl rfl rfl rfl rfl ?_
       refine sy_nil rfl (ny_zy hB12_11 (Hp.Le.refl _) ?_)
       refine zy_1 12 (by kernel_rfl) ?_
       refine zop_run rfl rfl (fun hB12_12 => ?_)
       first | refine sy_stl 0 sz_24 rfl rfl rfl rfl rfl rfl rfl rfl ?_ | refine sy_stl 1 sz_24 rfl rfl rfl rfl rfl rfl rfl rfl ?_ | refine sy_stl 2 sz_24 rfl rfl rfl rfl rfl rfl rfl rfl ?_ | refine sy_stl 3 sz_24 rfl rfl rfl rfl rfl rfl rfl rfl ?_ | refine sy_stl 4 sz_24 rfl rfl rfl rfl rfl rfl rfl rfl ?_ | refine sy_stl 5 sz_24 rfl rfl rfl rfl rfl rfl rfl rfl ?_ | refine sy_stl 6 sz_24 rfl rfl rfl rfl rfl rfl rfl rfl ?_ | refine sy_stl 7 sz_24 rfl rfl rfl rfl rfl rfl rfl rfl ?_
       refine sy_nil rfl (ny_zy hB12_12 (Hp.Le.refl _) ?_)
       refine zy_done (by kernel_rfl) ?_
       refine ny_next ?_
       refine cy_ret ?_
       refine ny_finUR (lvU_cons [] call_36 rfl (by intro h9; cases h9) (read1n_c b6 b7 b8 b9 _ []) (fun _ h9y H9y hx9y hle9y => ?_))
       subst hx9y
       exact lvU_ret (resc4 3 2 1 0 rfl agg_30 one_51 one_3 one_24 rfl rfl rfl rfl rfl rfl rfl rfl rfl) (fun w9 hs => ⟨(g30a, .slice A12 s30.names.length c12, s30.at_ + 1, 0), h9y, rfl, ⟨.inl ⟨adv s30, (by show readS L lv i = .ok g30a.tm _; rw [hg30]; exact readS_of hk30 hn34 (by rw [← hg30]; exact hn48)), rfl, rfl⟩, ((hl30.1.le hle11).le hle27).le hle9y, hl30.2⟩, hs.toGrow⟩)
end Go.Proofs.YtanhhihechakhaaDoor
set_option linter.unusedVariables false
namespace Go.Proofs.YtanhhihechakhaaDoor
open Go.RowKit Go.Proofs.YtanhhihechakhaaDoor.E
theorem agg_95 : aggB Tryd.prog 95 3 = true := by kernel_rfl
theorem call_34 : callB Tryd.prog 34 = true := by kernel_rfl
theorem call_35 : callB Tryd.prog 35 = true := by kernel_rfl
theorem call_56 : callB Tryd.prog 56 = true := by kernel_rfl
theorem call_60 : callB Tryd.prog 60 = true := by kernel_rfl
theorem fld_84_1 : fldB Tryd.prog 84 1 1 = true := by kernel_rfl
theorem one_89 : oneB Tryd.prog 89 = true := by kernel_rfl
theorem sz_95 : szB Tryd.prog 95 3 = true := by kernel_rfl
theorem zer_95 : zerL Tryd.prog 95 = some [.pointer none, .pointer none, .int .u64 0] := by kernel_rfl
end Go.Proofs.YtanhhihechakhaaDoor
set_option linter.unusedVariables false
set_option linter.unusedSimpArgs false
namespace Go.Proofs.YtanhhihechakhaaDoor
open Go.RowKit Go.Extern.Stop Go.Stop Go.Extern Go.Proofs.YtanhhihechakhaaDoor.E
theorem typeOfRef (v : Value) (w : World) : (ReflectliteType.typeOf #[.iface 84 v]).run Tryd.prog w = .ok (.iface 108 (.agg #[.pointer (some ⟨2, 84, none⟩)])) w := by kernel_rfl
theorem tofRef (v : Value) (w : World) : (callFunc 55 #[.iface 84 v]).run Tryd.prog w = .ok (.value (.iface 108 (.agg #[.pointer (some ⟨2, 84, none⟩)]))) w := ext_run (e := ReflectliteType.typeOf) Tryd.func55 (by kernel_rfl) (by kernel_rfl) (by kernel_rfl) (by kernel_rfl) (typeOfRef v w)
theorem typeOfE (v : Value) (w : World) : (ReflectliteType.typeOf #[.iface 24 v]).run Tryd.prog w = .ok (.iface 108 (.agg #[.pointer (some ⟨2, 24, none⟩)])) w := by kernel_rfl
theorem tofE (v : Value) (w : World) : (callFunc 55 #[.iface 24 v]).run Tryd.prog w = .ok (.value (.iface 108 (.agg #[.pointer (some ⟨2, 24, none⟩)]))) w := ext_run (e := ReflectliteType.typeOf) Tryd.func55 (by kernel_rfl) (by kernel_rfl) (by kernel_rfl) (by kernel_rfl) (typeOfE v w)
theorem unpackP (t : Addr) (w : World) : (ReflectliteValue.unpack (.iface 70 (.pointer (some t)))).run Tryd.prog w = .ok (.agg #[.pointer (some ⟨2, 70, none⟩), .pointer (some ⟨w.heap.size, 0, none⟩), .int .u64 150]) (w.alloc (.cells #[.pointer (some t)] 70)) := by kernel_rfl
theorem vofP (t : Addr) (w : World) : (callFunc 57 #[.iface 70 (.pointer (some t))]).run Tryd.prog w = .ok (.value (.agg #[.pointer (some ⟨2, 70, none⟩), .pointer (some ⟨w.heap.size, 0, none⟩), .int .u64 150])) (w.alloc (.cells #[.pointer (some t)] 70)) := ext_run (e := (fun args => ReflectliteValue.unpack (args.getD 0 (.tuple #[])))) Tryd.func57 (by kernel_rfl) (by kernel_rfl) (by kernel_rfl) (by kernel_rfl) (unpackP t w)
theorem unpackE (x : Int) (w : World) : (ReflectliteValue.unpack (.iface 24 (.int .i64 x))).run Tryd.prog w = .ok (.agg #[.pointer (some ⟨2, 24, none⟩), .pointer (some ⟨w.heap.size, 0, none⟩), .int .u64 130]) (w.alloc (.cells #[.int .i64 x] 24)) := by kernel_rfl
theorem vofE (x : Int) (w : World) : (callFunc 57 #[.iface 24 (.int .i64 x)]).run Tryd.prog w = .ok (.value (.agg #[.pointer (some ⟨2, 24, none⟩), .pointer (some ⟨w.heap.size, 0, none⟩), .int .u64 130])) (w.alloc (.cells #[.int .i64 x] 24)) := ext_run (e := (fun args => ReflectliteValue.unpack (args.getD 0 (.tuple #[])))) Tryd.func57 (by kernel_rfl) (by kernel_rfl) (by kernel_rfl) (by kernel_rfl) (unpackE x w)
theorem typeP (a : Addr) (w : World) : (ReflectliteValue.methodAny (ReflectliteValue.valueError "reflectlite.Value.Type" 0) (fun t _ _ _ => ReflectliteType.toType t) #[.agg #[.pointer (some ⟨2, 70, none⟩), .pointer (some a), .int .u64 150]]).run Tryd.prog w = .ok (.iface 108 (.agg #[.pointer (some ⟨2, 70, none⟩)])) w := by kernel_rfl
theorem typP (a : Addr) (w : World) : (callFunc 58 #[.agg #[.pointer (some ⟨2, 70, none⟩), .pointer (some a), .int .u64 150]]).run Tryd.prog w = .ok (.value (.iface 108 (.agg #[.pointer (some ⟨2, 70, none⟩)]))) w := ext_run (e := (ReflectliteValue.methodAny (ReflectliteValue.valueError "reflectlite.Value.Type" 0) (fun t _ _ _ => ReflectliteType.toType t))) Tryd.func58 (by kernel_rfl) (by kernel_rfl) (by kernel_rfl) (by kernel_rfl) (typeP a w)
theorem mKindP (w : World) : (Go.method (Tryd.prog.types.size + Made.depth) 108 (.agg #[.pointer (some ⟨2, 70, none⟩)]) "Kind").run Tryd.prog w = .ok (99, .pointer (some ⟨2, 70, none⟩)) w := by kernel_rfl
theorem eKindP (w : World) : ((ReflectliteType.abiMethod fun t => do pure (.int .u8 (← Rtype.kind t))) #[.pointer (some ⟨2, 70, none⟩)]).run Tryd.prog w = .ok (.int .u8 22) w := by kernel_rfl
theorem cKindP (w : World) : (callMethod (.iface 108 (.agg #[.pointer (some ⟨2, 70, none⟩)])) "Kind" #[]).run Tryd.prog w = .ok (.value (.int .u8 22)) w := met_run (mKindP w) (ext_run (e := (ReflectliteType.abiMethod fun t => do pure (.int .u8 (← Rtype.kind t)))) Tryd.func99 (by kernel_rfl) (by kernel_rfl) (by kernel_rfl) (by kernel_rfl) (eKindP w))
theorem mKindE (w : World) : (Go.method (Tryd.prog.types.size + Made.depth) 108 (.agg #[.pointer (some ⟨2, 24, none⟩)]) "Kind").run Tryd.prog w = .ok (99, .pointer (some ⟨2, 24, none⟩)) w := by kernel_rfl
theorem eKindE (w : World) : ((ReflectliteType.abiMethod fun t => do pure (.int .u8 (← Rtype.kind t))) #[.pointer (some ⟨2, 24, none⟩)]).run Tryd.prog w = .ok (.int .u8 2) w := by kernel_rfl
theorem cKindE (w : World) : (callMethod (.iface 108 (.agg #[.pointer (some ⟨2, 24, none⟩)])) "Kind" #[]).run Tryd.prog w = .ok (.value (.int .u8 2)) w := met_run (mKindE w) (ext_run (e := (ReflectliteType.abiMethod fun t => do pure (.int .u8 (← Rtype.kind t)))) Tryd.func99 (by kernel_rfl) (by kernel_rfl) (by kernel_rfl) (by kernel_rfl) (eKindE w))
theorem mElem (w : World) : (Go.method (Tryd.prog.types.size + Made.depth) 108 (.agg #[.pointer (some ⟨2, 70, none⟩)]) "Elem").run Tryd.prog w = .ok (111, .agg #[.pointer (some ⟨2, 70, none⟩)]) w := by kernel_rfl
theorem eElem (w : World) : ((ReflectliteType.method ReflectliteType.elem) #[.agg #[.pointer (some ⟨2, 70, none⟩)]]).run Tryd.prog w = .ok (.iface 108 (.agg #[.pointer (some ⟨2, 24, none⟩)])) w := by kernel_rfl
theorem cElem (w : World) : (callMethod (.iface 108 (.agg #[.pointer (some ⟨2, 70, none⟩)])) "Elem" #[]).run Tryd.prog w = .ok (.value (.iface 108 (.agg #[.pointer (some ⟨2, 24, none⟩)]))) w := met_run (mElem w) (ext_run (e := (ReflectliteType.method ReflectliteType.elem)) Tryd.func111 (by kernel_rfl) (by kernel_rfl) (by kernel_rfl) (by kernel_rfl) (eElem w))
theorem mImp (w : World) : (Go.method (Tryd.prog.types.size + Made.depth) 108 (.agg #[.pointer (some ⟨2, 24, none⟩)]) "Implements").run Tryd.prog w = .ok (112, .agg #[.pointer (some ⟨2, 24, none⟩)]) w := by kernel_rfl
theorem eImp (w : World) : ((ReflectliteType.relation "Implements" ReflectliteType.implements_) #[.agg #[.pointer (some ⟨2, 24, none⟩)], .iface 108 (.agg #[.pointer (some ⟨2, 47, none⟩)])]).run Tryd.prog w = .ok (.bool true) w := by kernel_rfl
theorem cImp (w : World) : (callMethod (.iface 108 (.agg #[.pointer (some ⟨2, 24, none⟩)])) "Implements" #[.iface 108 (.agg #[.pointer (some ⟨2, 47, none⟩)])]).run Tryd.prog w = .ok (.value (.bool true)) w := met_run (mImp w) (ext_run (e := (ReflectliteType.relation "Implements" ReflectliteType.implements_)) Tryd.func112 (by kernel_rfl) (by kernel_rfl) (by kernel_rfl) (by kernel_rfl) (eImp w))
theorem mAssR (w : World) : (Go.method (Tryd.prog.types.size + Made.depth) 108 (.agg #[.pointer (some ⟨2, 84, none⟩)]) "AssignableTo").run Tryd.prog w = .ok (109, .agg #[.pointer (some ⟨2, 84, none⟩)]) w := by kernel_rfl
theorem eAssR (w : World) : ((ReflectliteType.relation "AssignableTo" ReflectliteType.assignableTo) #[.agg #[.pointer (some ⟨2, 84, none⟩)], .iface 108 (.agg #[.pointer (some ⟨2, 24, none⟩)])]).run Tryd.prog w = .ok (.bool false) w := by kernel_rfl
theorem cAssR (w : World) : (callMethod (.iface 108 (.agg #[.pointer (some ⟨2, 84, none⟩)])) "AssignableTo" #[.iface 108 (.agg #[.pointer (some ⟨2, 24, none⟩)])]).run Tryd.prog w = .ok (.value (.bool false)) w := met_run (mAssR w) (ext_run (e := (ReflectliteType.relation "AssignableTo" ReflectliteType.assignableTo)) Tryd.func109 (by kernel_rfl) (by kernel_rfl) (by kernel_rfl) (by kernel_rfl) (eAssR w))
theorem mAssE (w : World) : (Go.method (Tryd.prog.types.size + Made.depth) 108 (.agg #[.pointer (some ⟨2, 24, none⟩)]) "AssignableTo").run Tryd.prog w = .ok (109, .agg #[.pointer (some ⟨2, 24, none⟩)]) w := by kernel_rfl
theorem eAssE (w : World) : ((ReflectliteType.relation "AssignableTo" ReflectliteType.assignableTo) #[.agg #[.pointer (some ⟨2, 24, none⟩)], .iface 108 (.agg #[.pointer (some ⟨2, 24, none⟩)])]).run Tryd.prog w = .ok (.bool true) w := by kernel_rfl
theorem cAssE (w : World) : (callMethod (.iface 108 (.agg #[.pointer (some ⟨2, 24, none⟩)])) "AssignableTo" #[.iface 108 (.agg #[.pointer (some ⟨2, 24, none⟩)])]).run Tryd.prog w = .ok (.value (.bool true)) w := met_run (mAssE w) (ext_run (e := (ReflectliteType.relation "AssignableTo" ReflectliteType.assignableTo)) Tryd.func109 (by kernel_rfl) (by kernel_rfl) (by kernel_rfl) (by kernel_rfl) (eAssE w))
theorem mCmp (w : World) : (Go.method (Tryd.prog.types.size + Made.depth) 108 (.agg #[.pointer (some ⟨2, 24, none⟩)]) "Comparable").run Tryd.prog w = .ok (110, .agg #[.pointer (some ⟨2, 24, none⟩)]) w := by kernel_rfl
theorem eCmp (w : World) : ((ReflectliteType.method fun t => do Rtype.noPackHeld "Comparable" t; pure (.bool (← typeInfo t).comparable)) #[.agg #[.pointer (some ⟨2, 24, none⟩)]]).run Tryd.prog w = .ok (.bool true) w := by kernel_rfl
theorem cCmp (w : World) : (callMethod (.iface 108 (.agg #[.pointer (some ⟨2, 24, none⟩)])) "Comparable" #[]).run Tryd.prog w = .ok (.value (.bool true)) w := met_run (mCmp w) (ext_run (e := (ReflectliteType.method fun t => do Rtype.noPackHeld "Comparable" t; pure (.bool (← typeInfo t).comparable))) Tryd.func110 (by kernel_rfl) (by kernel_rfl) (by kernel_rfl) (by kernel_rfl) (eCmp w))
theorem rlm (z : Sem Value) (f : TypeId → Addr → Nat → Nat → Sem Value) (v : Value) : ReflectliteValue.method z f #[v] = (do match ← ReflectliteValue.parts v with | none => z | some (t, a, fl) => f t a fl (fl % 32)) := rfl
theorem partsP (a : Addr) (w : World) : (ReflectliteValue.parts (.agg #[.pointer (some ⟨2, 70, none⟩), .pointer (some a), .int .u64 150])).run Tryd.prog w = .ok (some (70, a, 150)) w := by kernel_rfl
theorem partsE (a : Addr) (w : World) : (ReflectliteValue.parts (.agg #[.pointer (some ⟨2, 24, none⟩), .pointer (some a), .int .u64 130])).run Tryd.prog w = .ok (some (24, a, 130)) w := by kernel_rfl
theorem partsEa (a : Addr) (w : World) : (ReflectliteValue.parts (.agg #[.pointer (some ⟨2, 24, none⟩), .pointer (some a), .int .u64 386])).run Tryd.prog w = .ok (some (24, a, 386)) w := by kernel_rfl
theorem isNilP (a p : Addr) (W : World) (ha : W.cell? a = some (.pointer (some p))) : (ReflectliteValue.method (ReflectliteValue.valueError "reflectlite.Value.IsNil" 0) ReflectliteValue.isNil #[.agg #[.pointer (some ⟨2, 70, none⟩), .pointer (some a), .int .u64 150]]).run Tryd.prog W = .ok (.bool false) W := by
 rw [rlm]
 simp only [Sem.run_bind, partsP, Result.andThen]
 simp [ReflectliteValue.isNil, loadVar, isAgg, underlying, Tryd.underlying70, ha, Result.andThen]
theorem nilP (a p : Addr) (w : World) (ha : w.cell? a = some (.pointer (some p))) : (callFunc 59 #[.agg #[.pointer (some ⟨2, 70, none⟩), .pointer (some a), .int .u64 150]]).run Tryd.prog w = .ok (.value (.bool false)) w := ext_run (e := (ReflectliteValue.method (ReflectliteValue.valueError "reflectlite.Value.IsNil" 0) ReflectliteValue.isNil)) Tryd.func59 (by kernel_rfl) (by kernel_rfl) (by kernel_rfl) (by kernel_rfl) (isNilP a p w ha)
theorem elemOfP (w : World) : (Rtype.elem? 70).run Tryd.prog w = .ok (some 24) w := by kernel_rfl
theorem mkE (p : Addr) (w : World) : (ReflectliteValue.mk 24 p ReflectliteValue.flagAddr).run Tryd.prog w = .ok (.agg #[.pointer (some ⟨2, 24, none⟩), .pointer (some p), .int .u64 386]) w := by kernel_rfl
theorem elemVP (a p : Addr) (W : World) (ha : W.cell? a = some (.pointer (some p))) : (ReflectliteValue.method (ReflectliteValue.valueError "reflectlite.Value.Elem" 0) ReflectliteValue.elem #[.agg #[.pointer (some ⟨2, 70, none⟩), .pointer (some a), .int .u64 150]]).run Tryd.prog W = .ok (.agg #[.pointer (some ⟨2, 24, none⟩), .pointer (some p), .int .u64 386]) W := by
 rw [rlm]
 simp only [Sem.run_bind, partsP, Result.andThen]
 simp [ReflectliteValue.elem, loadVar, isAgg, underlying, Tryd.underlying70, ha, Result.andThen, elemOfP, mkE]
theorem elmP (a p : Addr) (w : World) (ha : w.cell? a = some (.pointer (some p))) : (callFunc 65 #[.agg #[.pointer (some ⟨2, 70, none⟩), .pointer (some a), .int .u64 150]]).run Tryd.prog w = .ok (.value (.agg #[.pointer (some ⟨2, 24, none⟩), .pointer (some p), .int .u64 386])) w := ext_run (e := (ReflectliteValue.method (ReflectliteValue.valueError "reflectlite.Value.Elem" 0) ReflectliteValue.elem)) Tryd.func65 (by kernel_rfl) (by kernel_rfl) (by kernel_rfl) (by kernel_rfl) (elemVP a p w ha)
theorem rls (v x : Value) : ReflectliteValue.set #[v, x] = (do
    let (some (dst, a, fl), some (src, b, _)) := (← ReflectliteValue.parts v, ← ReflectliteValue.parts x)
     | unsupported (.noEntry "extern/(internal/reflectlite.Value).Set.zeroValue")
    if fl / ReflectliteValue.flagAddr % 2 == 0 then unsupported (.noEntry "extern/(internal/reflectlite.Value).Set.unaddressable")
    let val ← loadVar src b
    if ← Rtype.directlyAssignable dst src then storeVar dst a val
    else if ← Rtype.implements dst src then
     if (← Rtype.kind src) == 20 then
      match val with
      | .nilIface => unsupported (.noEntry "extern/reflectlite: a nil value of one interface type handed on as a value of another")
      | _ => storeVar dst a val
     else storeVar dst a (.iface src val)
    else panicString ("reflectlite.Set: value of type " ++ (← Rtype.spelt src) ++ " is not assignable to type " ++ (← Rtype.spelt dst))
    pure (.tuple #[])) := rfl
theorem directE (w : World) : (Rtype.directlyAssignable 24 24).run Tryd.prog w = .ok true w := by kernel_rfl
theorem setE (ta b : Addr) (x : Int) (old : Value) (W : World) (hb : W.cell? b = some (.int .i64 x)) (ht : W.cell? ta = some old) (hf : W.frozen? ta = false) :
    (ReflectliteValue.set #[.agg #[.pointer (some ⟨2, 24, none⟩), .pointer (some ta), .int .u64 386], .agg #[.pointer (some ⟨2, 24, none⟩), .pointer (some b), .int .u64 130]]).run Tryd.prog W = .ok (.tuple #[]) (W.setCell ta (.int .i64 x)) := by
 rw [rls]
 simp only [Sem.run_bind, partsEa, partsE, Result.andThen]
 simp [ReflectliteValue.flagAddr, loadVar, isAgg, underlying, Tryd.underlying24, hb, Result.andThen, directE, storeVar, Value.cells, storeCells, Addr.add]
 rw [run_store Tryd.prog W ta _ _ (by rfl)]
 simp [ht, hf]
theorem setX (ta b : Addr) (x : Int) (old : Value) (w : World) (hb : w.cell? b = some (.int .i64 x)) (ht : w.cell? ta = some old) (hf : w.frozen? ta = false) : (callFunc 66 #[.agg #[.pointer (some ⟨2, 24, none⟩), .pointer (some ta), .int .u64 386], .agg #[.pointer (some ⟨2, 24, none⟩), .pointer (some b), .int .u64 130]]).run Tryd.prog w = .ok (.value (.tuple #[])) (w.setCell ta (.int .i64 x)) := ext_run (e := ReflectliteValue.set) Tryd.func66 (by kernel_rfl) (by kernel_rfl) (by kernel_rfl) (by kernel_rfl) (setE ta b x old w hb ht hf)
theorem asRIs (v : Value) (xT : TypeId) (w : World) : (Instr.typeAssert (.iface 84 v) xT 110 true).run Tryd.prog w = .ok (.tuple #[.nilIface, .bool false]) w := run_typeAssert_lacksB Tryd.underlying110 (by kernel_rfl) (by kernel_rfl) v xT w
theorem asRAs (v : Value) (xT : TypeId) (w : World) : (Instr.typeAssert (.iface 84 v) xT 120 true).run Tryd.prog w = .ok (.tuple #[.nilIface, .bool false]) w := run_typeAssert_lacksB Tryd.underlying120 (by kernel_rfl) (by kernel_rfl) v xT w
theorem asRUn (v : Value) (xT : TypeId) (w : World) : (Instr.typeAssert (.iface 84 v) xT 113 true).run Tryd.prog w = .ok (.tuple #[.iface 84 v, .bool true]) w := run_typeAssert_hasB Tryd.underlying113 (by kernel_rfl) v xT w
theorem asEIs (v : Value) (xT : TypeId) (w : World) : (Instr.typeAssert (.iface 24 v) xT 110 true).run Tryd.prog w = .ok (.tuple #[.nilIface, .bool false]) w := run_typeAssert_lacksB Tryd.underlying110 (by kernel_rfl) (by kernel_rfl) v xT w
theorem asEUn (v : Value) (xT : TypeId) (w : World) : (Instr.typeAssert (.iface 24 v) xT 113 true).run Tryd.prog w = .ok (.tuple #[.nilIface, .bool false]) w := run_typeAssert_lacksB Tryd.underlying113 (by kernel_rfl) (by kernel_rfl) v xT w
theorem asEUns (v : Value) (xT : TypeId) (w : World) : (Instr.typeAssert (.iface 24 v) xT 115 true).run Tryd.prog w = .ok (.tuple #[.nilIface, .bool false]) w := run_typeAssert_lacksB Tryd.underlying115 (by kernel_rfl) (by kernel_rfl) v xT w
theorem eqRE (v u : Value) (w : World) : (binOp .eql 47 (.iface 84 v) (.iface 24 u)).run Tryd.prog w = .ok (.bool false) w := run_eql_iface_types 84 24 v u Tryd.underlying47 (by decide) w
theorem eqEE (x y : Int) (w : World) : (binOp .eql 47 (.iface 24 (.int .i64 x)) (.iface 24 (.int .i64 y))).run Tryd.prog w = .ok (.bool (x == y)) w := by kernel_rfl
theorem unwR (s : ByteArray) (e : Int) (w : World) : (callMethod (.iface 84 (.agg #[.string s, .int .i64 e])) "Unwrap" #[]).run Tryd.prog w = .ok (.enter 104 #[.agg #[.string s, .int .i64 e]]) w := by kernel_rfl
end Go.Proofs.YtanhhihechakhaaDoor
set_option linter.unusedVariables false
set_option linter.unusedSimpArgs false
namespace Go.Proofs.YtanhhihechakhaaDoor
open Go.RowKit Go.Proofs.YtanhhihechakhaaDoor.E
set_option maxRecDepth 100000 in
theorem unwrap_c (s : ByteArray) (e : Int) (h : Hp) : C0 Tryd.prog 104 [.agg #[.string s, .int .i64 e]] h (.iface 24 (.int .i64 e)) := by
 refine enter0 Tryd.func104 rfl rfl rfl (fun w => ?_)
 refine cy_seq ?_
 refine cy_region ?_
 refine sy_box rfl rfl rfl rfl (fun b1 hb1 hM1 => ?_) (by simp)
 refine sy_assign rfl rfl rfl ?_
 refine sy_nil rfl ?_
 refine ny_next ?_
 refine cy_seq ?_
 refine cy_region ?_
 refine sy_field fld_84_1 rfl rfl rfl ?_
 first | refine sy_ldr 0 one_24 rfl rfl rfl rfl rfl ?_ | refine sy_ldr 1 one_24 rfl rfl rfl rfl rfl ?_
 refine sy_iface Tryd.underlying24 rfl rfl rfl rfl ?_
 refine sy_assign rfl rfl rfl ?_
 refine sy_nil rfl ?_
 refine ny_next ?_
 refine cy_ret ?_
 refine ny_finR (res1 rfl rfl) (fun w hs => ⟨?_, hs.frm⟩)
 rfl
set_option maxRecDepth 100000 in
theorem is2R_c (s : ByteArray) (e : Int) (h : Hp) : C0 Tryd.prog 56 [.iface 84 (.agg #[.string s, .int .i64 e]), .iface 24 (.int .i64 1), .bool true] h (.bool (e == 1)) := by
 refine enter0 Tryd.func56 rfl rfl rfl (fun w => ?_)
 refine cy_seq ?_
 refine cy_region ?_
 refine sy_assign rfl rfl rfl ?_
 refine sy_nil rfl ?_
 refine ny_next ?_
 refine cy_block ?_
 refine cy_rounds 1 ?_
 refine cy_block ?_
 refine cy_seq ?_
 refine cy_seq ?_
 refine cy_region ?_
 refine sy_move rfl rfl rfl ?_
 refine sy_setT (d := 14) rfl rfl rfl ?_
 refine sy_move rfl rfl rfl ?_
 refine sy_move rfl rfl rfl ?_
 refine sy_move rfl rfl rfl ?_
 refine sy_eqif rfl rfl (fun w => eqRE _ _ w) rfl rfl ?_
 refine sy_pickT rfl rfl rfl rfl ?_
 refine sy_setF (d := 19) rfl rfl rfl ?_
 refine sy_nil rfl ?_
 refine ny_next ?_
 refine cy_condF rfl ?_
 refine cy_skip ?_
 refine ny_next ?_
 refine cy_seq ?_
 refine cy_seq ?_
 refine cy_region ?_
 refine sy_move rfl rfl rfl ?_
 refine sy_assert rfl (fun w => asRIs _ _ w) rfl rfl ?_
 refine sy_move rfl rfl rfl ?_
 refine sy_extract rfl rfl rfl rfl ?_
 refine sy_extract rfl rfl rfl rfl ?_
 refine sy_setF (d := 24) rfl rfl rfl ?_
 refine sy_assign rfl rfl rfl ?_
 refine sy_assign rfl rfl rfl ?_
 refine sy_nil rfl ?_
 refine ny_next ?_
 refine cy_seq ?_
 refine cy_region ?_
 refine sy_move rfl rfl rfl ?_
 refine sy_move rfl rfl rfl ?_
 refine sy_skip rfl rfl rfl ?_
 refine sy_skip rfl rfl rfl ?_
 refine sy_skip rfl rfl rfl ?_
 refine sy_pickF rfl rfl rfl rfl ?_
 refine sy_nil rfl ?_
 refine ny_next ?_
 refine cy_condF rfl ?_
 refine cy_skip ?_
 refine ny_next ?_
 refine cy_seq ?_
 refine cy_region ?_
 refine sy_move rfl rfl rfl ?_
 refine sy_nil rfl ?_
 refine ny_next ?_
 refine cy_block ?_
 refine cy_seq ?_
 refine cy_region ?_
 refine sy_assert rfl (fun w => asRUn _ _ w) rfl rfl ?_
 refine sy_extract rfl rfl rfl rfl ?_
 refine sy_setT (d := 33) rfl rfl rfl ?_
 refine sy_extract rfl rfl rfl rfl ?_
 refine sy_nil rfl ?_
 refine ny_next ?_
 refine cy_condT rfl ?_
 refine cy_seq ?_
 refine cy_region ?_
 refine sy_assign rfl rfl rfl ?_
 refine sy_nil rfl ?_
 refine ny_next ?_
 refine cy_seq ?_
 refine cy_region ?_
 refine sy_move rfl rfl rfl ?_
 refine sy_invoke rfl rfl rfl (fun w => unwR s e w) (unwrap_c s e h) rfl rfl ?_
 refine sy_assign rfl rfl rfl ?_
 refine sy_nil rfl ?_
 refine ny_next ?_
 refine cy_seq ?_
 refine cy_region ?_
 refine sy_move rfl rfl rfl ?_
 refine sy_eqn Tryd.underlying47 rfl rfl rfl rfl rfl ?_
 refine sy_setF (d := 38) rfl rfl rfl ?_
 refine sy_nil rfl ?_
 refine ny_next ?_
 refine cy_condF rfl ?_
 refine cy_skip ?_
 refine ny_blockN ?_
 refine ny_blockN ?_
 refine ny_again ?_
 refine cy_block ?_
 refine cy_seq ?_
 refine cy_seq ?_
 refine cy_region ?_
 refine sy_move rfl rfl rfl ?_
 refine sy_setT (d := 14) rfl rfl rfl ?_
 refine sy_move rfl rfl rfl ?_
 refine sy_move rfl rfl rfl ?_
 refine sy_move rfl rfl rfl ?_
 refine sy_eqif rfl rfl (fun w => eqEE _ _ w) rfl rfl ?_
 refine sy_pickT rfl rfl rfl rfl ?_
 refine sy_nil rfl ?_
 refine ny_next ?_
 refine cy_cond rfl (fun hc19 => ?_) (fun hc19 => ?_)
 · refine cy_seq ?_
   refine cy_region ?_
   refine sy_assign rfl rfl rfl ?_
   refine sy_nil rfl ?_
   refine ny_next ?_
   refine cy_ret ?_
   refine ny_thenR ?_
   refine ny_blockR ?_
   refine ny_thenR ?_
   refine ny_blockR ?_
   refine ny_finR (res1 rfl rfl) (fun w hs => ⟨?_, hs.frm⟩)
   first | rw [hc19] | (simp_all; done) | rfl
 · refine cy_skip ?_
   refine ny_next ?_
   refine cy_seq ?_
   refine cy_seq ?_
   refine cy_region ?_
   refine sy_move rfl rfl rfl ?_
   refine sy_assert rfl (fun w => asEIs _ _ w) rfl rfl ?_
   refine sy_move rfl rfl rfl ?_
   refine sy_extract rfl rfl rfl rfl ?_
   refine sy_extract rfl rfl rfl rfl ?_
   refine sy_setF (d := 24) rfl rfl rfl ?_
   refine sy_assign rfl rfl rfl ?_
   refine sy_assign rfl rfl rfl ?_
   refine sy_nil rfl ?_
   refine ny_next ?_
   refine cy_seq ?_
   refine cy_region ?_
   refine sy_move rfl rfl rfl ?_
   refine sy_move rfl rfl rfl ?_
   refine sy_skip rfl rfl rfl ?_
   refine sy_skip rfl rfl rfl ?_
   refine sy_skip rfl rfl rfl ?_
   refine sy_pickF rfl rfl rfl rfl ?_
   refine sy_nil rfl ?_
   refine ny_next ?_
   refine cy_condF rfl ?_
   refine cy_skip ?_
   refine ny_next ?_
   refine cy_seq ?_
   refine cy_region ?_
   refine sy_move rfl rfl rfl ?_
   refine sy_nil rfl ?_
   refine ny_next ?_
   refine cy_block ?_
   refine cy_seq ?_
   refine cy_region ?_
   refine sy_assert rfl (fun w => asEUn _ _ w) rfl rfl ?_
   refine sy_extract rfl rfl rfl rfl ?_
   refine sy_setF (d := 33) rfl rfl rfl ?_
   refine sy_extract rfl rfl rfl rfl ?_
   refine sy_nil rfl ?_
   refine ny_next ?_
   refine cy_condF rfl ?_
   refine cy_seq ?_
   refine cy_region ?_
   refine sy_assert rfl (fun w => asEUns _ _ w) rfl rfl ?_
   refine sy_extract rfl rfl rfl rfl ?_
   refine sy_setF (d := 40) rfl rfl rfl ?_
   refine sy_extract rfl rfl rfl rfl ?_
   refine sy_nil rfl ?_
   refine ny_next ?_
   refine cy_condF rfl ?_
   refine cy_seq ?_
   refine cy_region ?_
   refine sy_assign rfl rfl rfl ?_
   refine sy_nil rfl ?_
   refine ny_next ?_
   refine cy_seq ?_
   refine cy_region ?_
   refine sy_assign rfl rfl rfl ?_
   refine sy_nil rfl ?_
   refine ny_next ?_
   refine cy_ret ?_
   refine ny_blockR ?_
   refine ny_blockR ?_
   refine ny_thenR ?_
   refine ny_blockR ?_
   refine ny_finR (res1 rfl rfl) (fun w hs => ⟨?_, hs.frm⟩)
   first | rw [hc19] | (simp_all; done) | rfl
set_option maxRecDepth 100000 in
theorem isR_c (s : ByteArray) (e : Int) (h : Hp) : C0 Tryd.prog 34 [.iface 84 (.agg #[.string s, .int .i64 e]), .iface 24 (.int .i64 1)] h (.bool (e == 1)) := by
 refine enter0 Tryd.func34 rfl rfl rfl (fun w => ?_)
 refine cy_seq ?_
 refine cy_region ?_
 refine sy_assign rfl rfl rfl ?_
 refine sy_nil rfl ?_
 refine ny_next ?_
 refine cy_seq ?_
 refine cy_seq ?_
 refine cy_region ?_
 refine sy_move rfl rfl rfl ?_
 refine sy_eqn Tryd.underlying47 rfl rfl rfl rfl rfl ?_
 refine sy_setF (d := 7) rfl rfl rfl ?_
 refine sy_move rfl rfl rfl ?_
 refine sy_move rfl rfl rfl ?_
 refine sy_eqn Tryd.underlying47 rfl rfl rfl rfl rfl ?_
 refine sy_pickF rfl rfl rfl rfl ?_
 refine sy_setF (d := 11) rfl rfl rfl ?_
 refine sy_nil rfl ?_
 refine ny_next ?_
 refine cy_condF rfl ?_
 refine cy_skip ?_
 refine ny_next ?_
 refine cy_seq ?_
 refine cy_region ?_
 refine sy_move rfl rfl rfl ?_
 refine sy_exq rfl (fun w hs => tofE _ w) rfl rfl ?_
 refine sy_invq rfl rfl (fun w => cCmp w) rfl rfl ?_
 refine sy_assign rfl rfl rfl ?_
 refine sy_nil rfl ?_
 refine ny_next ?_
 refine cy_seq ?_
 refine cy_region ?_
 refine sy_move rfl rfl rfl ?_
 refine sy_move rfl rfl rfl ?_
 refine sy_move rfl rfl rfl ?_
 refine sy_call rfl call_56 rfl (is2R_c s e h) rfl rfl ?_
 refine sy_assign rfl rfl rfl ?_
 refine sy_nil rfl ?_
 refine ny_next ?_
 refine cy_ret ?_
 refine ny_finR (res1 rfl rfl) (fun w hs => ⟨?_, hs.frm⟩)
 rfl
set_option maxRecDepth 100000 in
theorem as2R_c (s : ByteArray) (e x0 : Int) (b bq : Nat) (h : Hp) (hq : h bq = some (.cells #[.pointer (some ⟨b, 0, none⟩)] 70 (0, 0))) : CXM Tryd.prog 60 [.iface 84 (.agg #[.string s, .int .i64 e]), .iface 70 (.pointer (some ⟨b, 0, none⟩)), .agg #[.pointer (some ⟨2, 70, none⟩), .pointer (some ⟨bq, 0, none⟩), .int .u64 150], .iface 108 (.agg #[.pointer (some ⟨2, 24, none⟩)])] h b (.cells [.int .i64 x0].toArray 24 (0, 0)) (fun _ : Unit => .bool true) (fun _ _ o => o = .cells [.int .i64 e].toArray 24 (0, 0)) := by
 refine enterXM Tryd.func60 rfl rfl rfl (fun w hb0 => ?_)
 refine cy_seq ?_
 refine cy_region ?_
 refine sy_box rfl rfl rfl rfl (fun b6 hb6 hM6 => ?_) (by simp only [List.mem_singleton]; rintro _ rfl; exact hb0)
 refine sy_assign rfl rfl rfl ?_
 refine sy_nil rfl ?_
 refine ny_next ?_
 refine cy_block ?_
 refine cy_rounds 1 ?_
 refine cy_block ?_
 refine cy_seq ?_
 refine cy_seq ?_
 refine cy_region ?_
 refine sy_move rfl rfl rfl ?_
 refine sy_exq rfl (fun w hs => tofRef _ w) rfl rfl ?_
 refine sy_move rfl rfl rfl ?_
 refine sy_invq rfl rfl (fun w => cAssR w) rfl rfl ?_
 refine sy_setF (d := 19) rfl rfl rfl ?_
 refine sy_nil rfl ?_
 refine ny_next ?_
 refine cy_condF rfl ?_
 refine cy_skip ?_
 refine ny_next ?_
 refine cy_seq ?_
 refine cy_seq ?_
 refine cy_region ?_
 refine sy_move rfl rfl rfl ?_
 refine sy_assert rfl (fun w => asRAs _ _ w) rfl rfl ?_
 refine sy_move rfl rfl rfl ?_
 refine sy_extract rfl rfl rfl rfl ?_
 refine sy_extract rfl rfl rfl rfl ?_
 refine sy_setF (d := 29) rfl rfl rfl ?_
 refine sy_assign rfl rfl rfl ?_
 refine sy_assign rfl rfl rfl ?_
 refine sy_nil rfl ?_
 refine ny_next ?_
 refine cy_seq ?_
 refine cy_region ?_
 refine sy_move rfl rfl rfl ?_
 refine sy_move rfl rfl rfl ?_
 refine sy_skip rfl rfl rfl ?_
 refine sy_skip rfl rfl rfl ?_
 refine sy_skip rfl rfl rfl ?_
 refine sy_pickF rfl rfl rfl rfl ?_
 refine sy_nil rfl ?_
 refine ny_next ?_
 refine cy_condF rfl ?_
 refine cy_skip ?_
 refine ny_next ?_
 refine cy_seq ?_
 refine cy_region ?_
 refine sy_move rfl rfl rfl ?_
 refine sy_nil rfl ?_
 refine ny_next ?_
 refine cy_block ?_
 refine cy_seq ?_
 refine cy_region ?_
 refine sy_assert rfl (fun w => asRUn _ _ w) rfl rfl ?_
 refine sy_extract rfl rfl rfl rfl ?_
 refine sy_setT (d := 38) rfl rfl rfl ?_
 refine sy_extract rfl rfl rfl rfl ?_
 refine sy_nil rfl ?_
 refine ny_next ?_
 refine cy_condT rfl ?_
 refine cy_seq ?_
 refine cy_region ?_
 refine sy_assign rfl rfl rfl ?_
 refine sy_nil rfl ?_
 refine ny_next ?_
 refine cy_seq ?_
 refine cy_region ?_
 refine sy_move rfl rfl rfl ?_
 refine sy_invoke rfl rfl rfl (fun w => unwR s e w) (unwrap_c s e h) rfl rfl ?_
 refine sy_assign rfl rfl rfl ?_
 refine sy_nil rfl ?_
 refine ny_next ?_
 refine cy_seq ?_
 refine cy_region ?_
 refine sy_move rfl rfl rfl ?_
 refine sy_eqn Tryd.underlying47 rfl rfl rfl rfl rfl ?_
 refine sy_setF (d := 43) rfl rfl rfl ?_
 refine sy_nil rfl ?_
 refine ny_next ?_
 refine cy_condF rfl ?_
 refine cy_skip ?_
 refine ny_blockN ?_
 refine ny_blockN ?_
 refine ny_again ?_
 refine cy_block ?_
 refine cy_seq ?_
 refine cy_seq ?_
 refine cy_region ?_
 refine sy_move rfl rfl rfl ?_
 refine sy_exq rfl (fun w hs => tofE _ w) rfl rfl ?_
 refine sy_move rfl rfl rfl ?_
 refine sy_invq rfl rfl (fun w => cAssE w) rfl rfl ?_
 refine sy_setT (d := 19) rfl rfl rfl ?_
 refine sy_nil rfl ?_
 refine ny_next ?_
 refine cy_condT rfl ?_
 refine cy_seq ?_
 refine cy_region ?_
 first | refine sy_ldar 0 agg_95 rfl rfl rfl rfl rfl ?_ | refine sy_ldar 1 agg_95 rfl rfl rfl rfl rfl ?_ | refine sy_ldar 2 agg_95 rfl rfl rfl rfl rfl ?_ | refine sy_ldar 3 agg_95 rfl rfl rfl rfl rfl ?_ | refine sy_ldar 4 agg_95 rfl rfl rfl rfl rfl ?_ | refine sy_ldar 5 agg_95 rfl rfl rfl rfl rfl ?_
 refine sy_exq rfl (fun w hs => elmP ⟨bq, 0, none⟩ ⟨b, 0, none⟩ w (hs.sub.cell (Hp.blk hq 0 _ rfl))) rfl rfl ?_
 refine sy_move rfl rfl rfl ?_
 refine sy_exn (v := fun b2 => .agg #[.pointer (some ⟨2, 24, none⟩), .pointer (some ⟨b2, 0, none⟩), .int .u64 130]) rfl (fun w => vofE e w) rfl rfl (fun b23 hb23 hM23 => ?_) (by simp only [List.mem_singleton]; rintro _ rfl; exact hb0)
 refine sy_exw2 (off := 0) (old := .int .i64 x0) (new := .int .i64 e) (cs := [.int .i64 x0]) 2 rfl rfl rfl rfl (fun w hs hc hz => setX ⟨b, 0, none⟩ ⟨b23, 0, none⟩ e _ w (hs.cellQ 0 (cs := [.int .i64 e]) rfl rfl) hc hz) rfl rfl ?_
 refine sy_nil rfl ?_
 refine ny_next ?_
 refine cy_seq ?_
 refine cy_region ?_
 refine sy_assign rfl rfl rfl ?_
 refine sy_nil rfl ?_
 refine ny_next ?_
 refine cy_ret ?_
 refine ny_thenR ?_
 refine ny_blockR ?_
 refine ny_thenR ?_
 refine ny_blockR ?_
 exact ny_finR (res1 rfl rfl) (fun w hs => ⟨(), _, _, rfl, rfl, hs.toTurn⟩)
set_option maxRecDepth 100000 in
theorem asR_c (s : ByteArray) (e x0 : Int) (b : Nat) (h : Hp) (hG : h.cell ⟨0, 0, none⟩ = some (.iface 108 (.agg #[.pointer (some ⟨2, 47, none⟩)]))) : CXM Tryd.prog 35 [.iface 84 (.agg #[.string s, .int .i64 e]), .iface 70 (.pointer (some ⟨b, 0, none⟩))] h b (.cells [.int .i64 x0].toArray 24 (0, 0)) (fun _ : Unit => .bool true) (fun _ _ o => o = .cells [.int .i64 e].toArray 24 (0, 0)) := by
 refine enterXM Tryd.func35 rfl rfl rfl (fun w hb0 => ?_)
 refine cy_seq ?_
 refine cy_region ?_
 refine sy_assign rfl rfl rfl ?_
 refine sy_nil rfl ?_
 refine ny_next ?_
 refine cy_seq ?_
 refine cy_seq ?_
 refine cy_region ?_
 refine sy_move rfl rfl rfl ?_
 refine sy_eqn Tryd.underlying47 rfl rfl rfl rfl rfl ?_
 refine sy_setF (d := 9) rfl rfl rfl ?_
 refine sy_nil rfl ?_
 refine ny_next ?_
 refine cy_condF rfl ?_
 refine cy_skip ?_
 refine ny_next ?_
 refine cy_seq ?_
 refine cy_seq ?_
 refine cy_region ?_
 refine sy_move rfl rfl rfl ?_
 refine sy_eqn Tryd.underlying20 rfl rfl rfl rfl rfl ?_
 refine sy_setF (d := 11) rfl rfl rfl ?_
 refine sy_nil rfl ?_
 refine ny_next ?_
 refine cy_condF rfl ?_
 refine cy_skip ?_
 refine ny_next ?_
 refine cy_seq ?_
 refine cy_region ?_
 refine sy_move rfl rfl rfl ?_
 refine sy_exn (v := fun b2 => .agg #[.pointer (some ⟨2, 70, none⟩), .pointer (some ⟨b2, 0, none⟩), .int .u64 150]) rfl (fun w => vofP ⟨b, 0, none⟩ w) rfl rfl (fun b14 hb14 hM14 => ?_) (by simp only [List.mem_singleton]; rintro _ rfl; exact hb0)
 refine sy_frz 0 rfl hM14 (fun hq hleq hbq => ?_)
 refine sy_alloc zer_95 rfl rfl (fun b5 hb5 hM5 => ?_) (by simp only [List.mem_singleton]; rintro _ rfl; exact hb0)
 first | refine sy_stl 0 sz_95 rfl rfl rfl rfl rfl rfl rfl rfl ?_ | refine sy_stl 1 sz_95 rfl rfl rfl rfl rfl rfl rfl rfl ?_ | refine sy_stl 2 sz_95 rfl rfl rfl rfl rfl rfl rfl rfl ?_ | refine sy_stl 3 sz_95 rfl rfl rfl rfl rfl rfl rfl rfl ?_ | refine sy_stl 4 sz_95 rfl rfl rfl rfl rfl rfl rfl rfl ?_ | refine sy_stl 5 sz_95 rfl rfl rfl rfl rfl rfl rfl rfl ?_
 refine sy_nil rfl ?_
 refine ny_next ?_
 refine cy_seq ?_
 refine cy_region ?_
 first | refine sy_ldar 0 agg_95 rfl rfl rfl rfl rfl ?_ | refine sy_ldar 1 agg_95 rfl rfl rfl rfl rfl ?_ | refine sy_ldar 2 agg_95 rfl rfl rfl rfl rfl ?_ | refine sy_ldar 3 agg_95 rfl rfl rfl rfl rfl ?_ | refine sy_ldar 4 agg_95 rfl rfl rfl rfl rfl ?_ | refine sy_ldar 5 agg_95 rfl rfl rfl rfl rfl ?_
 refine sy_exq rfl (fun w hs => typP ⟨b14, 0, none⟩ w) rfl rfl ?_
 refine sy_assign rfl rfl rfl ?_
 refine sy_nil rfl ?_
 refine ny_next ?_
 refine cy_seq ?_
 refine cy_seq ?_
 refine cy_region ?_
 refine sy_move rfl rfl rfl ?_
 refine sy_invq rfl rfl (fun w => cKindP w) rfl rfl ?_
 refine sy_cmp rfl rfl rfl rfl rfl ?_
 refine sy_setF (d := 19) rfl rfl rfl ?_
 refine sy_move rfl rfl rfl ?_
 first | refine sy_ldar 0 agg_95 rfl rfl rfl rfl rfl ?_ | refine sy_ldar 1 agg_95 rfl rfl rfl rfl rfl ?_ | refine sy_ldar 2 agg_95 rfl rfl rfl rfl rfl ?_ | refine sy_ldar 3 agg_95 rfl rfl rfl rfl rfl ?_ | refine sy_ldar 4 agg_95 rfl rfl rfl rfl rfl ?_ | refine sy_ldar 5 agg_95 rfl rfl rfl rfl rfl ?_
 refine sy_exq rfl (fun w hs => nilP ⟨b14, 0, none⟩ ⟨b, 0, none⟩ w (hs.sub.cell (Hp.blk hbq 0 _ rfl))) rfl rfl ?_
 refine sy_pickF rfl rfl rfl rfl ?_
 refine sy_setF (d := 23) rfl rfl rfl ?_
 refine sy_nil rfl ?_
 refine ny_next ?_
 refine cy_condF rfl ?_
 refine cy_skip ?_
 refine ny_next ?_
 refine cy_seq ?_
 refine cy_region ?_
 refine sy_move rfl rfl rfl ?_
 refine sy_invq rfl rfl (fun w => cElem w) rfl rfl ?_
 refine sy_assign rfl rfl rfl ?_
 refine sy_nil rfl ?_
 refine ny_next ?_
 refine cy_seq ?_
 refine cy_seq ?_
 refine cy_region ?_
 refine sy_move rfl rfl rfl ?_
 refine sy_invq rfl rfl (fun w => cKindE w) rfl rfl ?_
 refine sy_cmp rfl rfl rfl rfl rfl ?_
 refine sy_setT (d := 29) rfl rfl rfl ?_
 refine sy_move rfl rfl rfl ?_
 refine sy_move rfl rfl rfl ?_
 refine sy_ldh one_89 rfl (hleq.cell hG) rfl rfl ?_
 refine sy_invq rfl rfl (fun w => cImp w) rfl rfl ?_
 refine sy_setT (d := 33) rfl rfl rfl ?_
 refine sy_not rfl rfl rfl ?_
 refine sy_pickT rfl rfl rfl rfl ?_
 refine sy_setF (d := 35) rfl rfl rfl ?_
 refine sy_nil rfl ?_
 refine ny_next ?_
 refine cy_condF rfl ?_
 refine cy_skip ?_
 refine ny_next ?_
 refine cy_seq ?_
 refine cy_region ?_
 refine sy_move rfl rfl rfl ?_
 refine sy_move rfl rfl rfl ?_
 first | refine sy_ldar 0 agg_95 rfl rfl rfl rfl rfl ?_ | refine sy_ldar 1 agg_95 rfl rfl rfl rfl rfl ?_ | refine sy_ldar 2 agg_95 rfl rfl rfl rfl rfl ?_ | refine sy_ldar 3 agg_95 rfl rfl rfl rfl rfl ?_ | refine sy_ldar 4 agg_95 rfl rfl rfl rfl rfl ?_ | refine sy_ldar 5 agg_95 rfl rfl rfl rfl rfl ?_
 refine sy_move rfl rfl rfl ?_
 refine sy_callxm 1 call_60 rfl rfl (as2R_c s e x0 b b14 hq hbq) rfl rfl (fun x41 h41 o41 hx41 hle41 => ?_)
 subst hx41
 refine sy_assign rfl rfl rfl ?_
 refine sy_nil rfl ?_
 refine ny_next ?_
 refine cy_ret ?_
 exact ny_finR (res1 rfl rfl) (fun w hs => ⟨(), _, _, rfl, rfl, hs.toTurn⟩)
set_option maxRecDepth 100000 in
theorem codeR_c (s : ByteArray) (e : Int) (h : Hp) (hG : h.cell ⟨0, 0, none⟩ = some (.iface 108 (.agg #[.pointer (some ⟨2, 47, none⟩)]))) : C0 Tryd.prog 21 [.iface 84 (.agg #[.string s, .int .i64 e])] h (.int .i64 e) := by
 refine enter0 Tryd.func21 rfl rfl rfl (fun w => ?_)
 refine cy_seq ?_
 refine cy_region ?_
 refine sy_assign rfl rfl rfl ?_
 refine sy_nil rfl ?_
 refine ny_next ?_
 refine cy_seq ?_
 refine cy_region ?_
 refine sy_alloc zer_24 rfl rfl (fun b3 hb3 hM3 => ?_) (by simp)
 refine sy_nil rfl ?_
 refine ny_next ?_
 refine cy_seq ?_
 refine cy_block ?_
 refine cy_seq ?_
 refine cy_region ?_
 refine sy_move rfl rfl rfl ?_
 refine sy_eqn Tryd.underlying47 rfl rfl rfl rfl rfl ?_
 refine sy_setF (d := 6) rfl rfl rfl ?_
 refine sy_assign rfl rfl rfl ?_
 refine sy_nil rfl ?_
 refine ny_next ?_
 refine cy_condF rfl ?_
 refine cy_seq ?_
 refine cy_region ?_
 refine sy_move rfl rfl rfl ?_
 refine sy_iface Tryd.underlying24 rfl rfl rfl rfl ?_
 refine sy_call rfl call_34 rfl (isR_c s e h) rfl rfl ?_
 refine sy_assign rfl rfl rfl ?_
 refine sy_nil rfl ?_
 refine ny_next ?_
 refine cy_cond rfl (fun hc7 => ?_) (fun hc7 => ?_)
 · refine cy_seq ?_
   refine cy_region ?_
   refine sy_assign rfl rfl rfl ?_
   refine sy_nil rfl ?_
   refine ny_next ?_
   refine cy_ret ?_
   refine ny_blockR ?_
   refine ny_thenR ?_
   refine ny_finR (res1 rfl rfl) (fun w hs => ⟨?_, hs.frm⟩)
   first | rfl | (have he1 := eq_of_beq hc7; rw [he1]) | (simp_all; done)
 · refine cy_seq ?_
   refine cy_region ?_
   refine sy_move rfl rfl rfl ?_
   refine sy_iface Tryd.underlying70 rfl rfl rfl rfl ?_
   refine sy_callxm 0 call_35 rfl rfl (asR_c s e 0 _ h hG) rfl rfl (fun x14 h14 o14 hx14 hle14 => ?_)
   subst hx14
   refine sy_setT (d := 14) rfl rfl rfl ?_
   refine sy_assign rfl rfl rfl ?_
   refine sy_nil rfl ?_
   refine ny_next ?_
   refine cy_condT rfl ?_
   refine cy_seq ?_
   refine cy_region ?_
   first | refine sy_ldr 0 one_24 rfl rfl rfl rfl rfl ?_ | refine sy_ldr 1 one_24 rfl rfl rfl rfl rfl ?_ | refine sy_ldr 2 one_24 rfl rfl rfl rfl rfl ?_
   refine sy_assign rfl rfl rfl ?_
   refine sy_nil rfl ?_
   refine ny_next ?_
   refine cy_ret ?_
   refine ny_blockR ?_
   refine ny_thenR ?_
   refine ny_finR (res1 rfl rfl) (fun w hs => ⟨?_, hs.frm⟩)
   first | rfl | (have he1 := eq_of_beq hc7; rw [he1]) | (simp_all; done)
end Go.Proofs.YtanhhihechakhaaDoor

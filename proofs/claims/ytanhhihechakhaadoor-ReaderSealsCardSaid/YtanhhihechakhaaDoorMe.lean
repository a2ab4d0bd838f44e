/- The engine, the plain laws and the walks of this seat, part 5: what the functions answer. Conditions: as each says; printed by programs of this session. -/
import Derived.Stop.Asserts
import Derived.Laws.Externs
import Derived.Test.YtanhhihechakhaaDoorProg
import Derived.Test.YtanhhihechakhaaDoorRows
import Derived.LaidMore
import Derived.LaidSub
import Derived.LaidHandle
import Derived.Stop.Joined
import Derived.Deep.Slices
import Derived.Test.YtanhhihechakhaaDoorMd
set_option linter.unusedVariables false
set_option linter.unusedSimpArgs false
namespace Go.Proofs.YtanhhihechakhaaDoor
open Go.RowKit Go.Proofs.YtanhhihechakhaaDoor.E Go.Proofs.YtanhhihechakhaaDoor.ReplP Go.Proofs.YtanhhihechakhaaDoor.TokP Go.Proofs.YtanhhihechakhaaDoor.TermP Go.Proofs.YtanhhihechakhaaDoor.WrP Go.Proofs.YtanhhihechakhaaDoor.ReadP Go.Proofs.YtanhhihechakhaaDoor.OpsP
theorem loop_end {L : List RT} {lv : Int} {tm : Rd} {most pri : Int} {n : Nat} {x : Tm} {st : RSt} (hp : goesR L most pri st = false) : loopR L lv tm most n x pri st = .ok (x, pri) st := by
 cases n with
 | zero => rfl
 | succ m =>
  unfold loopR
  rw [if_neg (by rw [hp]; decide)]
theorem loop_bad {L : List RT} {lv : Int} {tm : Rd} {most pri : Int} {n : Nat} {x : Tm} {st : RSt} {a : Nat} {e : Int} (hp : goesR L most pri st = true) (hk : tm (refInfix (tokA L st.at_).str.data.toList).2.2.1 (adv st) = .bad a e) (hn : 1 ≤ n) : loopR L lv tm most n x pri st = .bad a e := by
 obtain ⟨m, rfl⟩ : ∃ m, n = m + 1 := ⟨n - 1, by omega⟩
 unfold loopR
 rw [if_pos hp, hk]
theorem loop_bad2 {L : List RT} {lv : Int} {tm : Rd} {most pri : Int} {n : Nat} {x : Tm} {y : Tm × Int} {st s2 : RSt} {a : Nat} {e : Int} (hp : goesR L most pri st = true) (hk : tm (refInfix (tokA L st.at_).str.data.toList).2.2.1 (adv st) = .ok y s2) (hm : mkR lv (tokA L st.at_).str [x, y.1] s2 = .bad a e) (hn : 1 ≤ n) : loopR L lv tm most n x pri st = .bad a e := by
 obtain ⟨m, rfl⟩ : ∃ m, n = m + 1 := ⟨n - 1, by omega⟩
 unfold loopR
 rw [if_pos hp, hk]
 simp only
 rw [hm]
theorem loop_step {L : List RT} {lv : Int} {tm : Rd} {most pri : Int} {n : Nat} {x z : Tm} {y : Tm × Int} {st s2 s3 : RSt} (hp : goesR L most pri st = true) (hk : tm (refInfix (tokA L st.at_).str.data.toList).2.2.1 (adv st) = .ok y s2) (hm : mkR lv (tokA L st.at_).str [x, y.1] s2 = .ok z s3) (hn : 1 ≤ n) : loopR L lv tm most n x pri st = loopR L lv tm most (n - 1) z (refInfix (tokA L st.at_).str.data.toList).2.1 s3 := by
 obtain ⟨m, rfl⟩ : ∃ m, n = m + 1 := ⟨n - 1, by omega⟩
 conv => lhs; unfold loopR
 rw [if_pos hp, hk]
 simp only
 rw [hm]
 rfl
structure TZ where
 g : GT
 pri : Int
 st : RSt
 o : Obj
 vn : Value
 hh : Hp
 n : Nat
theorem tk_bad {L : List RT} {lv : Int} {k : Nat} {inn most : Int} {st : RSt} {a : Nat} {e : Int} (hk : inn + k = 60 ∨ k = 0 ∧ 60 ≤ inn) (hb : (if inn + 1 > 60 then RO.bad st.at_ 7 else RO.ok () st : RO Unit) = .bad a e) : readT L lv k most st = .bad a e := by
 have h1 : inn + 1 > 60 := by
  by_cases h : inn + 1 > 60
  · exact h
  · rw [if_neg h] at hb; cases hb
 rw [if_pos h1] at hb
 cases hb
 obtain rfl : k = 0 := by omega
 rw [readT]
theorem tk_low {st : RSt} {inn : Int} {s : RSt} (hb : (if inn + 1 > 60 then RO.bad st.at_ 7 else RO.ok () st : RO Unit) = .ok () s) : ¬ inn + 1 > 60 := fun h => by
 rw [if_pos h] at hb; cases hb
theorem tk_bad2 {L : List RT} {lv : Int} {k : Nat} {inn most : Int} {st : RSt} {a : Nat} {e : Int} (hk : inn + k = 60 ∨ k = 0 ∧ 60 ≤ inn) (h1 : ¬ inn + 1 > 60) (hb : (if inn + 1 + 1 > 60 then .bad st.at_ 7 else firstR L lv (readT L lv (k - 2)) most st) = .bad a e) : readT L lv k most st = .bad a e := by
 by_cases h2 : inn + 1 + 1 > 60
 · rw [if_pos h2] at hb
   cases hb
   obtain rfl : k = 1 := by omega
   rw [readT]
 · rw [if_neg h2] at hb
   obtain ⟨k, rfl⟩ : ∃ m, k = m + 2 := ⟨k - 2, by omega⟩
   have e : k + 2 - 2 = k := by omega
   rw [e] at hb
   simp only [readT]
   rw [hb]
theorem tk_ok {L : List RT} {lv : Int} {k : Nat} {inn most : Int} {st s : RSt} {x : Tm × Int} (hk : inn + k = 60 ∨ k = 0 ∧ 60 ≤ inn) (h1 : ¬ inn + 1 > 60) (hb : (if inn + 1 + 1 > 60 then .bad st.at_ 7 else firstR L lv (readT L lv (k - 2)) most st) = .ok x s) : loopR L lv (readT L lv (k - 1)) most (L.length + 1) x.1 x.2 s = readT L lv k most st ∧ 2 ≤ k ∧ firstR L lv (readT L lv (k - 2)) most st = .ok x s := by
 by_cases h2 : inn + 1 + 1 > 60
 · rw [if_pos h2] at hb
   cases hb
 · rw [if_neg h2] at hb
   refine ⟨?_, by omega, hb⟩
   obtain ⟨k, rfl⟩ : ∃ m, k = m + 2 := ⟨k - 2, by omega⟩
   have e : k + 2 - 2 = k := by omega
   have e2 : k + 2 - 1 = k + 1 := by omega
   rw [e] at hb
   rw [e2]
   simp only [readT]
   rw [hb]
theorem duoW {h : Hp} {a b : GT} {n : Nat} (ha : Lies h a ∧ Fits a) (hb : Lies h b ∧ Fits b) (hwa : wtT a.tm ≤ n) (hwb : wtT b.tm ≤ n) : ∀ t ∈ [a, b], (Lies h t ∧ Fits t) ∧ wtG t ≤ n := fun t ht => by
 rcases List.mem_cons.1 ht with rfl | ht
 · exact ⟨ha, by rw [wtG_tm]; exact hwa⟩
 · rw [List.mem_singleton.1 ht]
   exact ⟨hb, by rw [wtG_tm]; exact hwb⟩
set_option maxRecDepth 100000 in
theorem term_s (r bm : Nat) (A : Option Addr) (c : Nat) (L : List RT) (lv : Int) (h : Hp) (st : RSt) (inn : Int) (o : Obj) (vn : Value) (k : Nat) (hk : inn + k = 60 ∨ k = 0 ∧ 60 ≤ inn) (hi0 : 0 ≤ inn) (hi1 : inn ≤ 999000) (ihs : ∀ (k2 : Nat), k2 < k → ∀ (inn2 : Int), (inn2 + k2 = 60 ∨ k2 = 0 ∧ 60 ≤ inn2) → 0 ≤ inn2 → inn2 ≤ 999000 → TmC r bm A c L lv inn2 (readT L lv k2)) (most : Int) (hqN : ∀ x ∈ L, TokOk x) (hPW : ∀ i, preW L i ≤ 549755813888) (hT : RowsAt h A 5 (L.map rtC)) (hL : L.length ≤ 1048576) (hat : st.at_ ≤ L.length) (hnm : st.names.length ≤ st.at_) (hm : MapV Tryd.prog 9 3 o st.names.length (lastI st.names)) : RdC r bm A c L lv 61 [.int .i64 most] h st inn o vn (readT L lv k most st) (·.1) (fun x g => .tuple #[.agg (GT.cells g).toArray, .int .i64 x.2]) := by
 refine enterR Tryd.func61 rfl rfl rfl (fun w hb0 => ?_)
 refine cy_seq ?_
 refine cy_region ?_
 refine sy_alloc zer_30 rfl rfl (fun b4 hb4 hM4 => ?_) (by first | exact hb0 | simp)
 refine sy_assign rfl rfl rfl ?_
 refine sy_nil rfl ?_
 refine ny_next ?_
 refine cy_seq ?_
 refine cy_region ?_
 refine sy_move rfl rfl rfl ?_
 refine sy_callRO [1] call_67 rfl rfl (deeper_c r bm A c L lv _ hT hL st inn vn hat hi0 (by omega)) rfl rfl (fun a14 e14 h14x H14x hb14 hx14 hle14x => ?_) (fun x14 s14 g14 h14x H14x hk14 hx14 hle14x => ?_)
 · obtain ⟨rfl, rfl⟩ := hx14
   refine ny_thenP ?_
   exact ny_finP (fun w9 hs => ⟨.bad a14 e14, _, _, rfl, ⟨tk_bad hk hb14, _, _, _, _, _, rfl⟩, hs.sel (is := [0, 1, 1]) rfl⟩)
 · obtain ⟨rfl, rfl⟩ := hx14
   have hlow := tk_low hk14
   refine sy_nil rfl ?_
   refine ny_next ?_
   refine cy_seq ?_
   refine cy_region ?_
   refine sy_move rfl rfl rfl ?_
   refine sy_move rfl rfl rfl ?_
   refine sy_callRO [0, 1, 1] call_68 rfl rfl (first_c r bm A c L lv _ st (inn + 1) o vn most hqN _ (read_fwd L lv (k - 2)) (read_wt L lv (k - 2)) hPW (by omega) (by omega) (ihs (k - 2) (by omega) (inn + 1 + 1) (by omega) (by omega) (by omega)) hT hL hat hnm hm) rfl rfl (fun a18 e18 h18x H18x hb18 hx18 hle18x => ?_) (fun x18 s18 g18 h18x H18x hk18 hx18 hle18x => ?_)
   · obtain ⟨a9, i9, o9, v9, n9, rfl⟩ := hx18
     refine ny_thenP ?_
     exact ny_finP (fun w9 hs => ⟨.bad a18 e18, _, _, rfl, ⟨tk_bad2 hk hlow hb18, _, _, _, _, _, rfl⟩, hs.sel (is := [0, 0, 0]) rfl⟩)
   · obtain ⟨hg18, hl18, hm18, rfl⟩ := hx18
     obtain ⟨hkey, hk2, hfst⟩ := tk_ok hk hlow hk18
     have hfw := first_fwd (lv := lv) (read_fwd L lv (k - 2)) most st x18 s18 hat hfst
     have hww := first_wt (lv := lv) (read_fwd L lv (k - 2)) (read_wt L lv (k - 2)) most st x18 s18 hat hfst
     replace hg18 : g18.1.tm = x18.1 := hg18
     refine sy_move rfl rfl rfl ?_
     refine sy_extract rfl rfl rfl rfl ?_
     refine sy_extract rfl rfl rfl rfl ?_
     refine sy_alloc zer_30 rfl rfl (fun b6 hb6 hM6 => ?_) (by first | exact hb0 | simp)
     first | refine sy_stl 0 sz_30 rfl rfl rfl rfl rfl rfl rfl rfl ?_ | refine sy_stl 1 sz_30 rfl rfl rfl rfl rfl rfl rfl rfl ?_ | refine sy_stl 2 sz_30 rfl rfl rfl rfl rfl rfl rfl rfl ?_ | refine sy_stl 3 sz_30 rfl rfl rfl rfl rfl rfl rfl rfl ?_ | refine sy_stl 4 sz_30 rfl rfl rfl rfl rfl rfl rfl rfl ?_ | refine sy_stl 5 sz_30 rfl rfl rfl rfl rfl rfl rfl rfl ?_
     refine sy_assign rfl rfl rfl ?_
     refine sy_nil rfl ?_
     refine ny_next ?_
     refine cy_seq ?_
     refine cy_block ?_
     refine cy_loopK (ι := TZ) [0, 1, 4, 6] rfl (fun z => loopR L lv (readT L lv (k - 1)) most z.n z.g.tm z.pri z.st = readT L lv k most st ∧ L.length + 1 ≤ z.n + z.st.at_ ∧ z.st.at_ ≤ L.length ∧ z.st.names.length ≤ z.st.at_ ∧ MapV Tryd.prog 9 3 z.o z.st.names.length (lastI z.st.names) ∧ h18x.Le z.hh ∧ (Lies z.hh z.g ∧ Fits z.g) ∧ wtT z.g.tm ≤ preW L z.st.at_) (fun z => L.length - z.st.at_) (fun z => [(7, .int .i64 z.pri)]) (fun z => z.hh) (fun z => [.blk b6 (.cells (GT.cells z.g).toArray 30 (0, 0)), .blk b4 (.cells ([.int .i64 0, .int .i64 0, .string ⟨#[]⟩, .slice none 0 0] : List Value).toArray 30 (0, 0)), .blk r (.cells [.slice A L.length c, .int .i64 ((z.st.at_ : Nat) : Int), .int .i64 lv, .int .i64 (inn + 1), .map (some bm), z.vn].toArray 74 (0, 0)), .blk bm z.o, .row z.vn 9 1 z.st.names.length ((z.st.names.map strC).flatten)]) ⟨g18.1, x18.2, s18, g18.2.1, g18.2.2, h18x, L.length + 1⟩ [0, 3, 0, 0, 0] ⟨(by rw [← hkey, hg18]), (by show L.length + 1 ≤ L.length + 1 + s18.at_; omega), hfw.2.1, (by show s18.names.length ≤ s18.at_; omega), hm18, Hp.Le.refl _, hl18, (by show wtT g18.1.tm ≤ preW L s18.at_; rw [hg18]; omega)⟩ ⟨rfl, trivial⟩ rfl rfl ?_
     rintro ⟨g, pri, st2, o2, vn2, hz, m⟩ ⟨hro, hmn, hat2, hnm2, hm2, hlez, hlg, hwg⟩
     simp only at hro hmn hat2 hnm2 hm2 hlez hlg hwg ⊢
     have hTz : RowsAt hz A 5 (L.map rtC) := (hT.le hle18x).le hlez
     refine cy_block ?_
     refine cy_seq ?_
     refine cy_region ?_
     refine sy_move rfl rfl rfl ?_
     refine sy_callR1 [2] call_38 rfl rfl (peek_c r bm A c L lv _ hTz hL st2 (inn + 1) vn2 hat2) rfl rfl (fun x22 h22x H22x hx22 hle22x => ?_)
     obtain ⟨rfl, rfl⟩ := hx22
     refine sy_alloc zer_65 rfl rfl (fun b8 hb8 hM8 => ?_) (by first | exact hb0 | simp)
     first | refine sy_stl 0 sz_65 rfl rfl rfl rfl rfl rfl rfl rfl ?_ | refine sy_stl 1 sz_65 rfl rfl rfl rfl rfl rfl rfl rfl ?_ | refine sy_stl 2 sz_65 rfl rfl rfl rfl rfl rfl rfl rfl ?_ | refine sy_stl 3 sz_65 rfl rfl rfl rfl rfl rfl rfl rfl ?_ | refine sy_stl 4 sz_65 rfl rfl rfl rfl rfl rfl rfl rfl ?_ | refine sy_stl 5 sz_65 rfl rfl rfl rfl rfl rfl rfl rfl ?_
     refine sy_nil rfl ?_
     refine ny_next ?_
     refine cy_seq ?_
     refine cy_seq ?_
     refine cy_frz 0 rfl hM8 (fun h8 hle8 hb8x => ?_)
     replace hTz := hTz.le hle8
     replace hlg : Lies h8 g ∧ Fits g := ⟨hlg.1.le hle8, hlg.2⟩
     have hlgf := hlg
     refine cy_region ?_
     refine sy_field fld_65_0 rfl rfl rfl ?_
     refine sy_ldh one_3 rfl (Hp.blk hb8x 0 _ rfl) rfl rfl ?_
     refine sy_cmp rfl rfl rfl rfl rfl ?_
     refine sy_move rfl rfl rfl ?_
     refine sy_cond (d := 26) _ rfl rfl (fun hg26 => ?_) (fun hg26 => ?_)
     · refine sy_field fld_65_3 rfl rfl rfl ?_
       refine sy_ldh one_4 rfl (Hp.blk hb8x 3 _ rfl) rfl rfl ?_
       refine sy_not rfl rfl rfl ?_
       refine sy_pickT rfl rfl rfl rfl ?_
       refine sy_move rfl rfl rfl ?_
       refine sy_cond (d := 31) _ rfl rfl (fun hg31 => ?_) (fun hg31 => ?_)
       · refine sy_skip rfl rfl rfl ?_
         refine sy_skip rfl rfl rfl ?_
         refine sy_pickT rfl rfl rfl rfl ?_
         refine sy_not rfl rfl rfl ?_
         refine sy_nil rfl ?_
         refine ny_next ?_
         refine cy_condF rfl ?_
         have hA : ((((tokA L st2.at_).kind == 1) && !(tokA L st2.at_).quo) || isP L st2.at_ [44]) = true := by rw [hg26, hg31]; rfl
         refine cy_skip ?_
         refine ny_next ?_
         refine cy_seq ?_
         refine cy_region ?_
         refine sy_field fld_65_1 rfl rfl rfl ?_
         refine sy_ldh one_9 rfl (Hp.blk hb8x 1 _ rfl) rfl rfl ?_
         refine sy_call rfl call_70 rfl (infix_c (tokA L st2.at_).str _) rfl rfl ?_
         refine sy_move rfl rfl rfl ?_
         refine sy_extract rfl rfl rfl rfl ?_
         refine sy_extract rfl rfl rfl rfl ?_
         refine sy_extract rfl rfl rfl rfl ?_
         refine sy_extract rfl rfl rfl rfl ?_
         refine sy_assign rfl rfl rfl ?_
         refine sy_assign rfl rfl rfl ?_
         refine sy_assign rfl rfl rfl ?_
         refine sy_assign rfl rfl rfl ?_
         refine sy_nil rfl ?_
         refine ny_next ?_
         refine cy_seq ?_
         refine cy_seq ?_
         refine cy_region ?_
         refine sy_move rfl rfl rfl ?_
         refine sy_not rfl rfl rfl ?_
         refine sy_move rfl rfl rfl ?_
         refine sy_cond (d := 46) _ rfl rfl (fun hg46 => ?_) (fun hg46 => ?_)
         · refine sy_skip rfl rfl rfl ?_
           refine sy_skip rfl rfl rfl ?_
           refine sy_skip rfl rfl rfl ?_
           refine sy_pickT rfl rfl rfl rfl ?_
           refine sy_move rfl rfl rfl ?_
           refine sy_skip rfl rfl rfl ?_
           refine sy_skip rfl rfl rfl ?_
           refine sy_skip rfl rfl rfl ?_
           refine sy_pickT rfl rfl rfl rfl ?_
           refine sy_nil rfl ?_
           refine ny_next ?_
           refine cy_condT rfl ?_
           have hgo : goesR L most pri st2 = false := by
            unfold goesR
            rw [hA, Bool.true_and]
            first
            | (have h9 : (refInfix (tokA L st2.at_).str.data.toList).2.2.2 = false := by simpa using hg46
               rw [h9]; rfl)
            | (rw [decide_eq_false (p := (refInfix (tokA L st2.at_).str.data.toList).2.1 ≤ most) (by have := of_decide_eq_true hg51; omega), Bool.and_false]; rfl)
           refine cy_exit ?_
           refine ny_thenE ?_
           refine ny_blockY rfl ?_
           refine ny_thenE ?_
           refine ny_blockX ?_
           refine ny_next ?_
           refine cy_seq ?_
           refine cy_region ?_
           refine sy_move rfl rfl rfl ?_
           refine sy_nilCheck rfl rfl rfl ?_
           refine sy_field fld_74_3 rfl rfl rfl ?_
           first | refine sy_ldr 0 one_3 rfl rfl rfl rfl rfl ?_ | refine sy_ldr 1 one_3 rfl rfl rfl rfl rfl ?_ | refine sy_ldr 2 one_3 rfl rfl rfl rfl rfl ?_ | refine sy_ldr 3 one_3 rfl rfl rfl rfl rfl ?_ | refine sy_ldr 4 one_3 rfl rfl rfl rfl rfl ?_ | refine sy_ldr 5 one_3 rfl rfl rfl rfl rfl ?_
           refine sy_subi (z := inn) rfl rfl (by omega) (by omega) (by omega) rfl rfl ?_
           refine sy_nilCheck rfl rfl rfl ?_
           refine sy_field fld_74_3 rfl rfl rfl ?_
           first | refine sy_stl 0 sz_3 rfl rfl rfl rfl rfl rfl rfl rfl ?_ | refine sy_stl 1 sz_3 rfl rfl rfl rfl rfl rfl rfl rfl ?_ | refine sy_stl 2 sz_3 rfl rfl rfl rfl rfl rfl rfl rfl ?_ | refine sy_stl 3 sz_3 rfl rfl rfl rfl rfl rfl rfl rfl ?_ | refine sy_stl 4 sz_3 rfl rfl rfl rfl rfl rfl rfl rfl ?_ | refine sy_stl 5 sz_3 rfl rfl rfl rfl rfl rfl rfl rfl ?_
           refine sy_nil rfl ?_
           refine ny_next ?_
           refine cy_seq ?_
           refine cy_region ?_
           first | refine sy_ldar 0 agg_30 rfl rfl rfl rfl rfl ?_ | refine sy_ldar 1 agg_30 rfl rfl rfl rfl rfl ?_ | refine sy_ldar 2 agg_30 rfl rfl rfl rfl rfl ?_ | refine sy_ldar 3 agg_30 rfl rfl rfl rfl rfl ?_ | refine sy_ldar 4 agg_30 rfl rfl rfl rfl rfl ?_ | refine sy_ldar 5 agg_30 rfl rfl rfl rfl rfl ?_
           refine sy_move rfl rfl rfl ?_
           first | refine sy_stl 0 sz_30 rfl rfl rfl rfl rfl rfl rfl rfl ?_ | refine sy_stl 1 sz_30 rfl rfl rfl rfl rfl rfl rfl rfl ?_ | refine sy_stl 2 sz_30 rfl rfl rfl rfl rfl rfl rfl rfl ?_ | refine sy_stl 3 sz_30 rfl rfl rfl rfl rfl rfl rfl rfl ?_ | refine sy_stl 4 sz_30 rfl rfl rfl rfl rfl rfl rfl rfl ?_ | refine sy_stl 5 sz_30 rfl rfl rfl rfl rfl rfl rfl rfl ?_
           refine sy_assign rfl rfl rfl ?_
           refine sy_nil rfl ?_
           refine ny_next ?_
           refine cy_ret ?_
           exact ny_finR (resc1 0 rfl agg_30 rfl rfl rfl rfl) (fun w9 hs => ⟨.ok (g.tm, pri) st2 (g, o2, vn2), _, _, rfl, ⟨hro.symm.trans (loop_end hgo), rfl, hlgf, hm2, rfl⟩, hs.sel (is := [1, 2, 2]) rfl⟩)
         · refine sy_move rfl rfl rfl ?_
           refine sy_move rfl rfl rfl ?_
           refine sy_cmp rfl rfl rfl rfl rfl ?_
           refine sy_pickF rfl rfl rfl rfl ?_
           refine sy_move rfl rfl rfl ?_
           refine sy_cond (d := 51) _ rfl rfl (fun hg51 => ?_) (fun hg51 => ?_)
           · refine sy_skip rfl rfl rfl ?_
             refine sy_skip rfl rfl rfl ?_
             refine sy_skip rfl rfl rfl ?_
             refine sy_pickT rfl rfl rfl rfl ?_
             refine sy_nil rfl ?_
             refine ny_next ?_
             refine cy_condT rfl ?_
             have hgo : goesR L most pri st2 = false := by
              unfold goesR
              rw [hA, Bool.true_and]
              first
              | (have h9 : (refInfix (tokA L st2.at_).str.data.toList).2.2.2 = false := by simpa using hg46
                 rw [h9]; rfl)
              | (rw [decide_eq_false (p := (refInfix (tokA L st2.at_).str.data.toList).2.1 ≤ most) (by have := of_decide_eq_true hg51; omega), Bool.and_false]; rfl)
             refine cy_exit ?_
             refine ny_thenE ?_
             refine ny_blockY rfl ?_
             refine ny_thenE ?_
             refine ny_blockX ?_
             refine ny_next ?_
             refine cy_seq ?_
             refine cy_region ?_
             refine sy_move rfl rfl rfl ?_
             refine sy_nilCheck rfl rfl rfl ?_
             refine sy_field fld_74_3 rfl rfl rfl ?_
             first | refine sy_ldr 0 one_3 rfl rfl rfl rfl rfl ?_ | refine sy_ldr 1 one_3 rfl rfl rfl rfl rfl ?_ | refine sy_ldr 2 one_3 rfl rfl rfl rfl rfl ?_ | refine sy_ldr 3 one_3 rfl rfl rfl rfl rfl ?_ | refine sy_ldr 4 one_3 rfl rfl rfl rfl rfl ?_ | refine sy_ldr 5 one_3 rfl rfl rfl rfl rfl ?_
             refine sy_subi (z := inn) rfl rfl (by omega) (by omega) (by omega) rfl rfl ?_
             refine sy_nilCheck rfl rfl rfl ?_
             refine sy_field fld_74_3 rfl rfl rfl ?_
             first | refine sy_stl 0 sz_3 rfl rfl rfl rfl rfl rfl rfl rfl ?_ | refine sy_stl 1 sz_3 rfl rfl rfl rfl rfl rfl rfl rfl ?_ | refine sy_stl 2 sz_3 rfl rfl rfl rfl rfl rfl rfl rfl ?_ | refine sy_stl 3 sz_3 rfl rfl rfl rfl rfl rfl rfl rfl ?_ | refine sy_stl 4 sz_3 rfl rfl rfl rfl rfl rfl rfl rfl ?_ | refine sy_stl 5 sz_3 rfl rfl rfl rfl rfl rfl rfl rfl ?_
             refine sy_nil rfl ?_
             refine ny_next ?_
             refine cy_seq ?_
             refine cy_region ?_
             first | refine sy_ldar 0 agg_30 rfl rfl rfl rfl rfl ?_ | refine sy_ldar 1 agg_30 rfl rfl rfl rfl rfl ?_ | refine sy_ldar 2 agg_30 rfl rfl rfl rfl rfl ?_ | refine sy_ldar 3 agg_30 rfl rfl rfl rfl rfl ?_ | refine sy_ldar 4 agg_30 rfl rfl rfl rfl rfl ?_ | refine sy_ldar 5 agg_30 rfl rfl rfl rfl rfl ?_
             refine sy_move rfl rfl rfl ?_
             first | refine sy_stl 0 sz_30 rfl rfl rfl rfl rfl rfl rfl rfl ?_ | refine sy_stl 1 sz_30 rfl rfl rfl rfl rfl rfl rfl rfl ?_ | refine sy_stl 2 sz_30 rfl rfl rfl rfl rfl rfl rfl rfl ?_ | refine sy_stl 3 sz_30 rfl rfl rfl rfl rfl rfl rfl rfl ?_ | refine sy_stl 4 sz_30 rfl rfl rfl rfl rfl rfl rfl rfl ?_ | refine sy_stl 5 sz_30 rfl rfl rfl rfl rfl rfl rfl rfl ?_
             refine sy_assign rfl rfl rfl ?_
             refine sy_nil rfl ?_
             refine ny_next ?_
             refine cy_ret ?_
             exact ny_finR (resc1 0 rfl agg_30 rfl rfl rfl rfl) (fun w9 hs => ⟨.ok (g.tm, pri) st2 (g, o2, vn2), _, _, rfl, ⟨hro.symm.trans (loop_end hgo), rfl, hlgf, hm2, rfl⟩, hs.sel (is := [1, 2, 2]) rfl⟩)
           · refine sy_move rfl rfl rfl ?_
             refine sy_move rfl rfl rfl ?_
             refine sy_cmp rfl rfl rfl rfl rfl ?_
             refine sy_pickF rfl rfl rfl rfl ?_
             refine sy_nil rfl ?_
             refine ny_next ?_
             refine cy_cond rfl (fun hc55 => ?_) (fun hc55 => ?_)
             · have hgo : goesR L most pri st2 = false := by
                unfold goesR
                rw [hA, Bool.true_and, decide_eq_false (p := pri ≤ (refInfix (tokA L st2.at_).str.data.toList).1) (by have := of_decide_eq_true hc55; omega), Bool.and_false]
               refine cy_exit ?_
               refine ny_thenE ?_
               refine ny_blockY rfl ?_
               refine ny_thenE ?_
               refine ny_blockX ?_
               refine ny_next ?_
               refine cy_seq ?_
               refine cy_region ?_
               refine sy_move rfl rfl rfl ?_
               refine sy_nilCheck rfl rfl rfl ?_
               refine sy_field fld_74_3 rfl rfl rfl ?_
               first | refine sy_ldr 0 one_3 rfl rfl rfl rfl rfl ?_ | refine sy_ldr 1 one_3 rfl rfl rfl rfl rfl ?_ | refine sy_ldr 2 one_3 rfl rfl rfl rfl rfl ?_ | refine sy_ldr 3 one_3 rfl rfl rfl rfl rfl ?_ | refine sy_ldr 4 one_3 rfl rfl rfl rfl rfl ?_ | refine sy_ldr 5 one_3 rfl rfl rfl rfl rfl ?_
               refine sy_subi (z := inn) rfl rfl (by omega) (by omega) (by omega) rfl rfl ?_
               refine sy_nilCheck rfl rfl rfl ?_
               refine sy_field fld_74_3 rfl rfl rfl ?_
               first | refine sy_stl 0 sz_3 rfl rfl rfl rfl rfl rfl rfl rfl ?_ | refine sy_stl 1 sz_3 rfl rfl rfl rfl rfl rfl rfl rfl ?_ | refine sy_stl 2 sz_3 rfl rfl rfl rfl rfl rfl rfl rfl ?_ | refine sy_stl 3 sz_3 rfl rfl rfl rfl rfl rfl rfl rfl ?_ | refine sy_stl 4 sz_3 rfl rfl rfl rfl rfl rfl rfl rfl ?_ | refine sy_stl 5 sz_3 rfl rfl rfl rfl rfl rfl rfl rfl ?_
               refine sy_nil rfl ?_
               refine ny_next ?_
               refine cy_seq ?_
               refine cy_region ?_
               first | refine sy_ldar 0 agg_30 rfl rfl rfl rfl rfl ?_ | refine sy_ldar 1 agg_30 rfl rfl rfl rfl rfl ?_ | refine sy_ldar 2 agg_30 rfl rfl rfl rfl rfl ?_ | refine sy_ldar 3 agg_30 rfl rfl rfl rfl rfl ?_ | refine sy_ldar 4 agg_30 rfl rfl rfl rfl rfl ?_ | refine sy_ldar 5 agg_30 rfl rfl rfl rfl rfl ?_
               refine sy_move rfl rfl rfl ?_
               first | refine sy_stl 0 sz_30 rfl rfl rfl rfl rfl rfl rfl rfl ?_ | refine sy_stl 1 sz_30 rfl rfl rfl rfl rfl rfl rfl rfl ?_ | refine sy_stl 2 sz_30 rfl rfl rfl rfl rfl rfl rfl rfl ?_ | refine sy_stl 3 sz_30 rfl rfl rfl rfl rfl rfl rfl rfl ?_ | refine sy_stl 4 sz_30 rfl rfl rfl rfl rfl rfl rfl rfl ?_ | refine sy_stl 5 sz_30 rfl rfl rfl rfl rfl rfl rfl rfl ?_
               refine sy_assign rfl rfl rfl ?_
               refine sy_nil rfl ?_
               refine ny_next ?_
               refine cy_ret ?_
               exact ny_finR (resc1 0 rfl agg_30 rfl rfl rfl rfl) (fun w9 hs => ⟨.ok (g.tm, pri) st2 (g, o2, vn2), _, _, rfl, ⟨hro.symm.trans (loop_end hgo), rfl, hlgf, hm2, rfl⟩, hs.sel (is := [1, 2, 2]) rfl⟩)
             · have hgo : goesR L most pri st2 = true := by
                unfold goesR
                have h9 : (refInfix (tokA L st2.at_).str.data.toList).2.2.2 = true := by simpa using hg46
                rw [hA, Bool.true_and, h9, decide_eq_true (p := (refInfix (tokA L st2.at_).str.data.toList).2.1 ≤ most) (by have := of_decide_eq_false hg51; omega), decide_eq_true (p := pri ≤ (refInfix (tokA L st2.at_).str.data.toList).1) (by have := of_decide_eq_false hc55; omega)]
                rfl
               refine cy_skip ?_
               refine ny_next ?_
               refine cy_seq ?_
               refine cy_region ?_
               refine sy_move rfl rfl rfl ?_
               refine sy_nilCheck rfl rfl rfl ?_
               refine sy_field fld_74_1 rfl rfl rfl ?_
               first | refine sy_ldr 0 one_3 rfl rfl rfl rfl rfl ?_ | refine sy_ldr 1 one_3 rfl rfl rfl rfl rfl ?_ | refine sy_ldr 2 one_3 rfl rfl rfl rfl rfl ?_ | refine sy_ldr 3 one_3 rfl rfl rfl rfl rfl ?_ | refine sy_ldr 4 one_3 rfl rfl rfl rfl rfl ?_ | refine sy_ldr 5 one_3 rfl rfl rfl rfl rfl ?_
               refine sy_addi (z := ((st2.at_ + 1 : Nat) : Int)) rfl rfl (by omega) (by omega) (by omega) rfl rfl ?_
               have hlt := goes_lt hgo
               refine sy_nilCheck rfl rfl rfl ?_
               refine sy_field fld_74_1 rfl rfl rfl ?_
               first | refine sy_stl 0 sz_3 rfl rfl rfl rfl rfl rfl rfl rfl ?_ | refine sy_stl 1 sz_3 rfl rfl rfl rfl rfl rfl rfl rfl ?_ | refine sy_stl 2 sz_3 rfl rfl rfl rfl rfl rfl rfl rfl ?_ | refine sy_stl 3 sz_3 rfl rfl rfl rfl rfl rfl rfl rfl ?_ | refine sy_stl 4 sz_3 rfl rfl rfl rfl rfl rfl rfl rfl ?_ | refine sy_stl 5 sz_3 rfl rfl rfl rfl rfl rfl rfl rfl ?_
               refine sy_nil rfl ?_
               refine ny_next ?_
               refine cy_regionAP mixed ?_
               refine zy_qP 0 (fun c a d v w hq => by cases d <;> exact hq) rfl (by kernel_rfl) (fun hB8_0 => ?_)
               refine sy_move rfl rfl rfl ?_
               refine sy_nil1 (ny_zqP hB8_0 ?_)
               refine zy_qP 1 (fun c a d v w hq => by cases d <;> exact hq) rfl (by kernel_rfl) (fun hB8_1 => ?_)
               refine sy_field fld_65_1 rfl rfl rfl ?_
               refine sy_nil1 (ny_zqP hB8_1 ?_)
               refine zy_qP 2 (fun c a d v w hq => by cases d <;> exact hq) rfl (by kernel_rfl) (fun hB8_2 => ?_)
               refine sy_ldh one_9 rfl (Hp.blk hb8x 1 _ rfl) rfl rfl ?_
               refine sy_nil1 (ny_zqP hB8_2 ?_)
               refine zy_qP 4 (fun c a d v w hq => by cases d <;> exact hq) rfl (by kernel_rfl) (fun hB8_4 => ?_)
               refine sy_move rfl rfl rfl ?_
               refine sy_nil1 (ny_zqP hB8_4 ?_)
               refine zy_qP 5 (fun c a d v w hq => by cases d <;> exact hq) rfl (by kernel_rfl) (fun hB8_5 => ?_)
               refine sy_move rfl rfl rfl ?_
               refine sy_nil1 (ny_zqP hB8_5 ?_)
               refine zy_qP 9 (fun c a d v w hq => by cases d <;> exact hq) rfl (by kernel_rfl) (fun hB8_9 => ?_)
               refine sy_move rfl rfl rfl ?_
               refine sy_nil1 (ny_zqP hB8_9 ?_)
               refine zy_2P 3 6 (by kernel_rfl) ?_ ?_
               · refine zop_runP rfl rfl (fun hB8_3 => ?_)
                 first | refine sy_ldar 0 agg_30 rfl rfl rfl rfl rfl ?_ | refine sy_ldar 1 agg_30 rfl rfl rfl rfl rfl ?_ | refine sy_ldar 2 agg_30 rfl rfl rfl rfl rfl ?_ | refine sy_ldar 3 agg_30 rfl rfl rfl rfl rfl ?_ | refine sy_ldar 4 agg_30 rfl rfl rfl rfl rfl ?_ | refine sy_ldar 5 agg_30 rfl rfl rfl rfl rfl ?_
                 refine sy_nil rfl (ny_zyP hB8_3 (Hp.Le.refl _) ?_)
                 refine zy_1P 6 (by kernel_rfl) ?_
                 refine zop_runP rfl rfl (fun hB8_6 => ?_)
                 refine sy_callRO [0, 2, 2] call_37 rfl rfl (ihs (k - 1) (by omega) (inn + 1) (by omega) (by omega) (by omega) _ (adv st2) o2 vn2 _ hTz (by show st2.at_ + 1 ≤ _; omega) (by show st2.names.length ≤ st2.at_ + 1; omega) hm2) rfl rfl (fun a69 e69 h69x H69x hb69 hx69 hle69x => ?_) (fun x69 s69 g69 h69x H69x hk69 hx69 hle69x => ?_)
                 · obtain ⟨a9, i9, o9, v9, n9, rfl⟩ := hx69
                   refine ny_zyPP ?_
                   refine ny_blockP ?_
                   refine ny_thenP ?_
                   refine ny_blockP ?_
                   refine ny_thenP ?_
                   first
                   | exact ny_finP (fun w9 hs => ⟨.bad a69 e69, _, _, rfl, ⟨hro.symm.trans (loop_bad hgo hb69 (by omega)), _, _, _, _, _, rfl⟩, hs.sel (is := [0, 0, 0]) rfl⟩)
                   | exact ny_finP (fun w9 hs => ⟨.bad a71 e71, _, _, rfl, ⟨hro.symm.trans (loop_bad2 hgo hk69 (by rw [← hg69]; exact hb71) (by omega)), _, _, _, _, _, rfl⟩, hs.sel (is := [0, 0, 0]) rfl⟩)
                 · obtain ⟨hg69, hl69, hm69, rfl⟩ := hx69
                   replace hg69 : g69.1.tm = x69.1 := hg69
                   have hfw69 := read_fwd L lv (k - 1) _ (adv st2) x69 s69 (by show st2.at_ + 1 ≤ _; omega) hk69
                   have hww69 := read_wt L lv (k - 1) _ (adv st2) x69 s69 (by show st2.at_ + 1 ≤ _; omega) hk69
                   simp only [adv] at hfw69 hww69
                   rw [preW_succ hlt] at hww69
                   have hpw69 := hPW s69.at_
                   refine sy_nil rfl (ny_zyP hB8_6 hle69x ?_)
                   refine zy_1P 7 (by kernel_rfl) ?_
                   refine zop_runP rfl rfl (fun hB8_7 => ?_)
                   refine sy_buildSlice (cs := [g, g69.1].flatMap GT.cells) rfl (fun w => bsl_23_2_0x1 w) rfl rfl (fun b70 hb70 hM70 => ?_) (by first | exact hb0 | simp)
                   refine sy_frz 0 rfl hM70 (fun h70 hle70 hb70x => ?_)
                   have hr70 : RowsAt h70 (some ⟨b70, 0, none⟩) 4 ([g, g69.1].map GT.cells) := rows_blk (by decide) (GT.cells_len _) hb70x
                   refine sy_nil rfl (ny_zyP hB8_7 hle70 ?_)
                   refine zy_1P 8 (by kernel_rfl) ?_
                   refine zop_runP rfl rfl (fun hB8_8 => ?_)
                   refine sy_callRO [0] call_71 rfl rfl (mk_c (tokA L st2.at_).str (tokA_ok hqN st2.at_).2.1 [g, g69.1] (some ⟨b70, 0, none⟩) 2 r bm A c L lv _ ((hTz.le hle69x).le hle70) hL s69 (inn + 1) g69.2.2 hfw69.2.1 rfl hr70 (duoW (h := h70) ⟨(hlg.1.le hle69x).le hle70, hlg.2⟩ ⟨hl69.1.le hle70, hl69.2⟩ (by omega) (by rw [hg69]; omega)) (by simp) (by simp)) rfl rfl (fun a71 e71 h71x H71x hb71 hx71 hle71x => ?_) (fun x71 s71 g71 h71x H71x hk71 hx71 hle71x => ?_)
                   · subst hx71
                     refine ny_zyPP ?_
                     refine ny_blockP ?_
                     refine ny_thenP ?_
                     refine ny_blockP ?_
                     refine ny_thenP ?_
                     first
                     | exact ny_finP (fun w9 hs => ⟨.bad a69 e69, _, _, rfl, ⟨hro.symm.trans (loop_bad hgo hb69 (by omega)), _, _, _, _, _, rfl⟩, hs.sel (is := [0, 0, 0]) rfl⟩)
                     | exact ny_finP (fun w9 hs => ⟨.bad a71 e71, _, _, rfl, ⟨hro.symm.trans (loop_bad2 hgo hk69 (by rw [← hg69]; exact hb71) (by omega)), _, _, _, _, _, rfl⟩, hs.sel (is := [0, 0, 0]) rfl⟩)
                   · obtain ⟨hg71, hl71, rfl⟩ := hx71
                     have hst71 := (mkR_st hk71).symm
                     subst hst71
                     have hmw71 := mkR_wt hk71
                     rw [List.map_cons, List.map_cons, List.map_nil, wtTs_cons, wtTs_cons, wtTs_nil, hg69] at hmw71
                     refine sy_nil rfl (ny_zyP hB8_8 hle71x ?_)
                     refine zy_1P 10 (by kernel_rfl) ?_
                     refine zop_runP rfl rfl (fun hB8_10 => ?_)
                     first | refine sy_stl 0 sz_30 rfl rfl rfl rfl rfl rfl rfl rfl ?_ | refine sy_stl 1 sz_30 rfl rfl rfl rfl rfl rfl rfl rfl ?_ | refine sy_stl 2 sz_30 rfl rfl rfl rfl rfl rfl rfl rfl ?_ | refine sy_stl 3 sz_30 rfl rfl rfl rfl rfl rfl rfl rfl ?_ | refine sy_stl 4 sz_30 rfl rfl rfl rfl rfl rfl rfl rfl ?_ | refine sy_stl 5 sz_30 rfl rfl rfl rfl rfl rfl rfl rfl ?_
                     refine sy_nil rfl (ny_zyP hB8_10 (Hp.Le.refl _) ?_)
                     refine zy_qP 11 (fun c a d v w hq => by cases d <;> exact hq) rfl (by kernel_rfl) (fun hB8_11 => ?_)
                     refine sy_assign rfl rfl rfl ?_
                     refine sy_nil1 (ny_zqP hB8_11 ?_)
                     refine zy_doneP (by kernel_rfl) ?_
                     refine ny_blockN ?_
                     refine ny_roundK [0, 1, 4, 6] ⟨g71, (refInfix (tokA L st2.at_).str.data.toList).2.1, s69, g69.2.1, g69.2.2, h71x, m - 1⟩ [0, 3, 0, 0, 0] ⟨(by rw [hg71, ← loop_step hgo hk69 (by rw [← hg69]; exact hk71) (by omega)]; exact hro), (by show L.length + 1 ≤ m - 1 + s69.at_; omega), hfw69.2.1, (by show s69.names.length ≤ s69.at_; omega), hm69, (((hlez.trans hle8).trans hle69x).trans hle70).trans hle71x, hl71, (by show wtT g71.tm ≤ preW L s69.at_; rw [hg71]; omega)⟩ (by show L.length - s69.at_ < L.length - st2.at_; omega) rfl ⟨rfl, trivial⟩ rfl rfl
               · refine zop_runP rfl rfl (fun hB8_6 => ?_)
                 refine sy_callRO [0, 2, 2] call_37 rfl rfl (ihs (k - 1) (by omega) (inn + 1) (by omega) (by omega) (by omega) _ (adv st2) o2 vn2 _ hTz (by show st2.at_ + 1 ≤ _; omega) (by show st2.names.length ≤ st2.at_ + 1; omega) hm2) rfl rfl (fun a69 e69 h69x H69x hb69 hx69 hle69x => ?_) (fun x69 s69 g69 h69x H69x hk69 hx69 hle69x => ?_)
                 · obtain ⟨a9, i9, o9, v9, n9, rfl⟩ := hx69
                   refine ny_zyPP ?_
                   refine ny_blockP ?_
                   refine ny_thenP ?_
                   refine ny_blockP ?_
                   refine ny_thenP ?_
                   first
                   | exact ny_finP (fun w9 hs => ⟨.bad a69 e69, _, _, rfl, ⟨hro.symm.trans (loop_bad hgo hb69 (by omega)), _, _, _, _, _, rfl⟩, hs.sel (is := [0, 0, 0]) rfl⟩)
                   | exact ny_finP (fun w9 hs => ⟨.bad a71 e71, _, _, rfl, ⟨hro.symm.trans (loop_bad2 hgo hk69 (by rw [← hg69]; exact hb71) (by omega)), _, _, _, _, _, rfl⟩, hs.sel (is := [0, 0, 0]) rfl⟩)
                 · obtain ⟨hg69, hl69, hm69, rfl⟩ := hx69
                   replace hg69 : g69.1.tm = x69.1 := hg69
                   have hfw69 := read_fwd L lv (k - 1) _ (adv st2) x69 s69 (by show st2.at_ + 1 ≤ _; omega) hk69
                   have hww69 := read_wt L lv (k - 1) _ (adv st2) x69 s69 (by show st2.at_ + 1 ≤ _; omega) hk69
                   simp only [adv] at hfw69 hww69
                   rw [preW_succ hlt] at hww69
                   have hpw69 := hPW s69.at_
                   refine sy_nil rfl (ny_zyP hB8_6 hle69x ?_)
                   refine zy_1P 3 (by kernel_rfl) ?_
                   refine zop_runP rfl rfl (fun hB8_3 => ?_)
                   first | refine sy_ldar 0 agg_30 rfl rfl rfl rfl rfl ?_ | refine sy_ldar 1 agg_30 rfl rfl rfl rfl rfl ?_ | refine sy_ldar 2 agg_30 rfl rfl rfl rfl rfl ?_ | refine sy_ldar 3 agg_30 rfl rfl rfl rfl rfl ?_ | refine sy_ldar 4 agg_30 rfl rfl rfl rfl rfl ?_ | refine sy_ldar 5 agg_30 rfl rfl rfl rfl rfl ?_
                   refine sy_nil rfl (ny_zyP hB8_3 (Hp.Le.refl _) ?_)
                   refine zy_1P 7 (by kernel_rfl) ?_
                   refine zop_runP rfl rfl (fun hB8_7 => ?_)
                   refine sy_buildSlice (cs := [g, g69.1].flatMap GT.cells) rfl (fun w => bsl_23_2_0x1 w) rfl rfl (fun b70 hb70 hM70 => ?_) (by first | exact hb0 | simp)
                   refine sy_frz 0 rfl hM70 (fun h70 hle70 hb70x => ?_)
                   have hr70 : RowsAt h70 (some ⟨b70, 0, none⟩) 4 ([g, g69.1].map GT.cells) := rows_blk (by decide) (GT.cells_len _) hb70x
                   refine sy_nil rfl (ny_zyP hB8_7 hle70 ?_)
                   refine zy_1P 8 (by kernel_rfl) ?_
                   refine zop_runP rfl rfl (fun hB8_8 => ?_)
                   refine sy_callRO [0] call_71 rfl rfl (mk_c (tokA L st2.at_).str (tokA_ok hqN st2.at_).2.1 [g, g69.1] (some ⟨b70, 0, none⟩) 2 r bm A c L lv _ ((hTz.le hle69x).le hle70) hL s69 (inn + 1) g69.2.2 hfw69.2.1 rfl hr70 (duoW (h := h70) ⟨(hlg.1.le hle69x).le hle70, hlg.2⟩ ⟨hl69.1.le hle70, hl69.2⟩ (by omega) (by rw [hg69]; omega)) (by simp) (by simp)) rfl rfl (fun a71 e71 h71x H71x hb71 hx71 hle71x => ?_) (fun x71 s71 g71 h71x H71x hk71 hx71 hle71x => ?_)
                   · subst hx71
                     refine ny_zyPP ?_
                     refine ny_blockP ?_
                     refine ny_thenP ?_
                     refine ny_blockP ?_
                     refine ny_thenP ?_
                     first
                     | exact ny_finP (fun w9 hs => ⟨.bad a69 e69, _, _, rfl, ⟨hro.symm.trans (loop_bad hgo hb69 (by omega)), _, _, _, _, _, rfl⟩, hs.sel (is := [0, 0, 0]) rfl⟩)
                     | exact ny_finP (fun w9 hs => ⟨.bad a71 e71, _, _, rfl, ⟨hro.symm.trans (loop_bad2 hgo hk69 (by rw [← hg69]; exact hb71) (by omega)), _, _, _, _, _, rfl⟩, hs.sel (is := [0, 0, 0]) rfl⟩)
                   · obtain ⟨hg71, hl71, rfl⟩ := hx71
                     have hst71 := (mkR_st hk71).symm
                     subst hst71
                     have hmw71 := mkR_wt hk71
                     rw [List.map_cons, List.map_cons, List.map_nil, wtTs_cons, wtTs_cons, wtTs_nil, hg69] at hmw71
                     refine sy_nil rfl (ny_zyP hB8_8 hle71x ?_)
                     refine zy_1P 10 (by kernel_rfl) ?_
                     refine zop_runP rfl rfl (fun hB8_10 => ?_)
                     first | refine sy_stl 0 sz_30 rfl rfl rfl rfl rfl rfl rfl rfl ?_ | refine sy_stl 1 sz_30 rfl rfl rfl rfl rfl rfl rfl rfl ?_ | refine sy_stl 2 sz_30 rfl rfl rfl rfl rfl rfl rfl rfl ?_ | refine sy_stl 3 sz_30 rfl rfl rfl rfl rfl rfl rfl rfl ?_ | refine sy_stl 4 sz_30 rfl rfl rfl rfl rfl rfl rfl rfl ?_ | refine sy_stl 5 sz_30 rfl rfl rfl rfl rfl rfl rfl rfl ?_
                     refine sy_nil rfl (ny_zyP hB8_10 (Hp.Le.refl _) ?_)
                     refine zy_qP 11 (fun c a d v w hq => by cases d <;> exact hq) rfl (by kernel_rfl) (fun hB8_11 => ?_)
                     refine sy_assign rfl rfl rfl ?_
                     refine sy_nil1 (ny_zqP hB8_11 ?_)
                     refine zy_doneP (by kernel_rfl) ?_
                     refine ny_blockN ?_
                     refine ny_roundK [0, 1, 4, 6] ⟨g71, (refInfix (tokA L st2.at_).str.data.toList).2.1, s69, g69.2.1, g69.2.2, h71x, m - 1⟩ [0, 3, 0, 0, 0] ⟨(by rw [hg71, ← loop_step hgo hk69 (by rw [← hg69]; exact hk71) (by omega)]; exact hro), (by show L.length + 1 ≤ m - 1 + s69.at_; omega), hfw69.2.1, (by show s69.names.length ≤ s69.at_; omega), hm69, (((hlez.trans hle8).trans hle69x).trans hle70).trans hle71x, hl71, (by show wtT g71.tm ≤ preW L s69.at_; rw [hg71]; omega)⟩ (by show L.length - s69.at_ < L.length - st2.at_; omega) rfl ⟨rfl, trivial⟩ rfl rfl
       · refine sy_move rfl rfl rfl ?_
         refine sy_callR1 [0] call_69 rfl rfl (is_c ⟨#[44]⟩ r bm A c L lv _ hTz hL st2 (inn + 1) vn2 hat2) rfl rfl (fun x33 h33x H33x hx33 hle33x => ?_)
         obtain ⟨rfl, rfl⟩ := hx33
         refine sy_pickF rfl rfl rfl rfl ?_
         refine sy_not rfl rfl rfl ?_
         refine sy_nil rfl ?_
         refine ny_next ?_
         refine cy_cond rfl (fun hc35 => ?_) (fun hc35 => ?_)
         · have hA : ((((tokA L st2.at_).kind == 1) && !(tokA L st2.at_).quo) || isP L st2.at_ [44]) = false := by
            have h9 : isP L st2.at_ [44] = false := by simpa using hc35
            rw [h9, Bool.or_false]
            first | (rw [hg31, Bool.and_false]; done) | (rw [hg26]; rfl)
           have hgo : goesR L most pri st2 = false := by
            unfold goesR
            rw [hA]
            rfl
           refine cy_exit ?_
           refine ny_thenE ?_
           refine ny_blockY rfl ?_
           refine ny_thenE ?_
           refine ny_blockX ?_
           refine ny_next ?_
           refine cy_seq ?_
           refine cy_region ?_
           refine sy_move rfl rfl rfl ?_
           refine sy_nilCheck rfl rfl rfl ?_
           refine sy_field fld_74_3 rfl rfl rfl ?_
           first | refine sy_ldr 0 one_3 rfl rfl rfl rfl rfl ?_ | refine sy_ldr 1 one_3 rfl rfl rfl rfl rfl ?_ | refine sy_ldr 2 one_3 rfl rfl rfl rfl rfl ?_ | refine sy_ldr 3 one_3 rfl rfl rfl rfl rfl ?_ | refine sy_ldr 4 one_3 rfl rfl rfl rfl rfl ?_ | refine sy_ldr 5 one_3 rfl rfl rfl rfl rfl ?_
           refine sy_subi (z := inn) rfl rfl (by omega) (by omega) (by omega) rfl rfl ?_
           refine sy_nilCheck rfl rfl rfl ?_
           refine sy_field fld_74_3 rfl rfl rfl ?_
           first | refine sy_stl 0 sz_3 rfl rfl rfl rfl rfl rfl rfl rfl ?_ | refine sy_stl 1 sz_3 rfl rfl rfl rfl rfl rfl rfl rfl ?_ | refine sy_stl 2 sz_3 rfl rfl rfl rfl rfl rfl rfl rfl ?_ | refine sy_stl 3 sz_3 rfl rfl rfl rfl rfl rfl rfl rfl ?_ | refine sy_stl 4 sz_3 rfl rfl rfl rfl rfl rfl rfl rfl ?_ | refine sy_stl 5 sz_3 rfl rfl rfl rfl rfl rfl rfl rfl ?_
           refine sy_nil rfl ?_
           refine ny_next ?_
           refine cy_seq ?_
           refine cy_region ?_
           first | refine sy_ldar 0 agg_30 rfl rfl rfl rfl rfl ?_ | refine sy_ldar 1 agg_30 rfl rfl rfl rfl rfl ?_ | refine sy_ldar 2 agg_30 rfl rfl rfl rfl rfl ?_ | refine sy_ldar 3 agg_30 rfl rfl rfl rfl rfl ?_ | refine sy_ldar 4 agg_30 rfl rfl rfl rfl rfl ?_ | refine sy_ldar 5 agg_30 rfl rfl rfl rfl rfl ?_
           refine sy_move rfl rfl rfl ?_
           first | refine sy_stl 0 sz_30 rfl rfl rfl rfl rfl rfl rfl rfl ?_ | refine sy_stl 1 sz_30 rfl rfl rfl rfl rfl rfl rfl rfl ?_ | refine sy_stl 2 sz_30 rfl rfl rfl rfl rfl rfl rfl rfl ?_ | refine sy_stl 3 sz_30 rfl rfl rfl rfl rfl rfl rfl rfl ?_ | refine sy_stl 4 sz_30 rfl rfl rfl rfl rfl rfl rfl rfl ?_ | refine sy_stl 5 sz_30 rfl rfl rfl rfl rfl rfl rfl rfl ?_
           refine sy_assign rfl rfl rfl ?_
           refine sy_nil rfl ?_
           refine ny_next ?_
           refine cy_ret ?_
           exact ny_finR (resc1 0 rfl agg_30 rfl rfl rfl rfl) (fun w9 hs => ⟨.ok (g.tm, pri) st2 (g, o2, vn2), _, _, rfl, ⟨hro.symm.trans (loop_end hgo), rfl, hlgf, hm2, rfl⟩, hs.sel (is := [1, 2, 2]) rfl⟩)
         · have hA : ((((tokA L st2.at_).kind == 1) && !(tokA L st2.at_).quo) || isP L st2.at_ [44]) = true := by
            have h9 : isP L st2.at_ [44] = true := by simpa using hc35
            rw [h9, Bool.or_true]
           refine cy_skip ?_
           refine ny_next ?_
           refine cy_seq ?_
           refine cy_region ?_
           refine sy_field fld_65_1 rfl rfl rfl ?_
           refine sy_ldh one_9 rfl (Hp.blk hb8x 1 _ rfl) rfl rfl ?_
           refine sy_call rfl call_70 rfl (infix_c (tokA L st2.at_).str _) rfl rfl ?_
           refine sy_move rfl rfl rfl ?_
           refine sy_extract rfl rfl rfl rfl ?_
           refine sy_extract rfl rfl rfl rfl ?_
           refine sy_extract rfl rfl rfl rfl ?_
           refine sy_extract rfl rfl rfl rfl ?_
           refine sy_assign rfl rfl rfl ?_
           refine sy_assign rfl rfl rfl ?_
           refine sy_assign rfl rfl rfl ?_
           refine sy_assign rfl rfl rfl ?_
           refine sy_nil rfl ?_
           refine ny_next ?_
           refine cy_seq ?_
           refine cy_seq ?_
           refine cy_region ?_
           refine sy_move rfl rfl rfl ?_
           refine sy_not rfl rfl rfl ?_
           refine sy_move rfl rfl rfl ?_
           refine sy_cond (d := 46) _ rfl rfl (fun hg46 => ?_) (fun hg46 => ?_)
           · refine sy_skip rfl rfl rfl ?_
             refine sy_skip rfl rfl rfl ?_
             refine sy_skip rfl rfl rfl ?_
             refine sy_pickT rfl rfl rfl rfl ?_
             refine sy_move rfl rfl rfl ?_
             refine sy_skip rfl rfl rfl ?_
             refine sy_skip rfl rfl rfl ?_
             refine sy_skip rfl rfl rfl ?_
             refine sy_pickT rfl rfl rfl rfl ?_
             refine sy_nil rfl ?_
             refine ny_next ?_
             refine cy_condT rfl ?_
             have hgo : goesR L most pri st2 = false := by
              unfold goesR
              rw [hA, Bool.true_and]
              first
              | (have h9 : (refInfix (tokA L st2.at_).str.data.toList).2.2.2 = false := by simpa using hg46
                 rw [h9]; rfl)
              | (rw [decide_eq_false (p := (refInfix (tokA L st2.at_).str.data.toList).2.1 ≤ most) (by have := of_decide_eq_true hg51; omega), Bool.and_false]; rfl)
             refine cy_exit ?_
             refine ny_thenE ?_
             refine ny_blockY rfl ?_
             refine ny_thenE ?_
             refine ny_blockX ?_
             refine ny_next ?_
             refine cy_seq ?_
             refine cy_region ?_
             refine sy_move rfl rfl rfl ?_
             refine sy_nilCheck rfl rfl rfl ?_
             refine sy_field fld_74_3 rfl rfl rfl ?_
             first | refine sy_ldr 0 one_3 rfl rfl rfl rfl rfl ?_ | refine sy_ldr 1 one_3 rfl rfl rfl rfl rfl ?_ | refine sy_ldr 2 one_3 rfl rfl rfl rfl rfl ?_ | refine sy_ldr 3 one_3 rfl rfl rfl rfl rfl ?_ | refine sy_ldr 4 one_3 rfl rfl rfl rfl rfl ?_ | refine sy_ldr 5 one_3 rfl rfl rfl rfl rfl ?_
             refine sy_subi (z := inn) rfl rfl (by omega) (by omega) (by omega) rfl rfl ?_
             refine sy_nilCheck rfl rfl rfl ?_
             refine sy_field fld_74_3 rfl rfl rfl ?_
             first | refine sy_stl 0 sz_3 rfl rfl rfl rfl rfl rfl rfl rfl ?_ | refine sy_stl 1 sz_3 rfl rfl rfl rfl rfl rfl rfl rfl ?_ | refine sy_stl 2 sz_3 rfl rfl rfl rfl rfl rfl rfl rfl ?_ | refine sy_stl 3 sz_3 rfl rfl rfl rfl rfl rfl rfl rfl ?_ | refine sy_stl 4 sz_3 rfl rfl rfl rfl rfl rfl rfl rfl ?_ | refine sy_stl 5 sz_3 rfl rfl rfl rfl rfl rfl rfl rfl ?_
             refine sy_nil rfl ?_
             refine ny_next ?_
             refine cy_seq ?_
             refine cy_region ?_
             first | refine sy_ldar 0 agg_30 rfl rfl rfl rfl rfl ?_ | refine sy_ldar 1 agg_30 rfl rfl rfl rfl rfl ?_ | refine sy_ldar 2 agg_30 rfl rfl rfl rfl rfl ?_ | refine sy_ldar 3 agg_30 rfl rfl rfl rfl rfl ?_ | refine sy_ldar 4 agg_30 rfl rfl rfl rfl rfl ?_ | refine sy_ldar 5 agg_30 rfl rfl rfl rfl rfl ?_
             refine sy_move rfl rfl rfl ?_
             first | refine sy_stl 0 sz_30 rfl rfl rfl rfl rfl rfl rfl rfl ?_ | refine sy_stl 1 sz_30 rfl rfl rfl rfl rfl rfl rfl rfl ?_ | refine sy_stl 2 sz_30 rfl rfl rfl rfl rfl rfl rfl rfl ?_ | refine sy_stl 3 sz_30 rfl rfl rfl rfl rfl rfl rfl rfl ?_ | refine sy_stl 4 sz_30 rfl rfl rfl rfl rfl rfl rfl rfl ?_ | refine sy_stl 5 sz_30 rfl rfl rfl rfl rfl rfl rfl rfl ?_
             refine sy_assign rfl rfl rfl ?_
             refine sy_nil rfl ?_
             refine ny_next ?_
             refine cy_ret ?_
             exact ny_finR (resc1 0 rfl agg_30 rfl rfl rfl rfl) (fun w9 hs => ⟨.ok (g.tm, pri) st2 (g, o2, vn2), _, _, rfl, ⟨hro.symm.trans (loop_end hgo), rfl, hlgf, hm2, rfl⟩, hs.sel (is := [1, 2, 2]) rfl⟩)
           · refine sy_move rfl rfl rfl ?_
             refine sy_move rfl rfl rfl ?_
             refine sy_cmp rfl rfl rfl rfl rfl ?_
             refine sy_pickF rfl rfl rfl rfl ?_
             refine sy_move rfl rfl rfl ?_
             refine sy_cond (d := 51) _ rfl rfl (fun hg51 => ?_) (fun hg51 => ?_)
             · refine sy_skip rfl rfl rfl ?_
               refine sy_skip rfl rfl rfl ?_
               refine sy_skip rfl rfl rfl ?_
               refine sy_pickT rfl rfl rfl rfl ?_
               refine sy_nil rfl ?_
               refine ny_next ?_
               refine cy_condT rfl ?_
               have hgo : goesR L most pri st2 = false := by
                unfold goesR
                rw [hA, Bool.true_and]
                first
                | (have h9 : (refInfix (tokA L st2.at_).str.data.toList).2.2.2 = false := by simpa using hg46
                   rw [h9]; rfl)
                | (rw [decide_eq_false (p := (refInfix (tokA L st2.at_).str.data.toList).2.1 ≤ most) (by have := of_decide_eq_true hg51; omega), Bool.and_false]; rfl)
               refine cy_exit ?_
               refine ny_thenE ?_
               refine ny_blockY rfl ?_
               refine ny_thenE ?_
               refine ny_blockX ?_
               refine ny_next ?_
               refine cy_seq ?_
               refine cy_region ?_
               refine sy_move rfl rfl rfl ?_
               refine sy_nilCheck rfl rfl rfl ?_
               refine sy_field fld_74_3 rfl rfl rfl ?_
               first | refine sy_ldr 0 one_3 rfl rfl rfl rfl rfl ?_ | refine sy_ldr 1 one_3 rfl rfl rfl rfl rfl ?_ | refine sy_ldr 2 one_3 rfl rfl rfl rfl rfl ?_ | refine sy_ldr 3 one_3 rfl rfl rfl rfl rfl ?_ | refine sy_ldr 4 one_3 rfl rfl rfl rfl rfl ?_ | refine sy_ldr 5 one_3 rfl rfl rfl rfl rfl ?_
               refine sy_subi (z := inn) rfl rfl (by omega) (by omega) (by omega) rfl rfl ?_
               refine sy_nilCheck rfl rfl rfl ?_
               refine sy_field fld_74_3 rfl rfl rfl ?_
               first | refine sy_stl 0 sz_3 rfl rfl rfl rfl rfl rfl rfl rfl ?_ | refine sy_stl 1 sz_3 rfl rfl rfl rfl rfl rfl rfl rfl ?_ | refine sy_stl 2 sz_3 rfl rfl rfl rfl rfl rfl rfl rfl ?_ | refine sy_stl 3 sz_3 rfl rfl rfl rfl rfl rfl rfl rfl ?_ | refine sy_stl 4 sz_3 rfl rfl rfl rfl rfl rfl rfl rfl ?_ | refine sy_stl 5 sz_3 rfl rfl rfl rfl rfl rfl rfl rfl ?_
               refine sy_nil rfl ?_
               refine ny_next ?_
               refine cy_seq ?_
               refine cy_region ?_
               first | refine sy_ldar 0 agg_30 rfl rfl rfl rfl rfl ?_ | refine sy_ldar 1 agg_30 rfl rfl rfl rfl rfl ?_ | refine sy_ldar 2 agg_30 rfl rfl rfl rfl rfl ?_ | refine sy_ldar 3 agg_30 rfl rfl rfl rfl rfl ?_ | refine sy_ldar 4 agg_30 rfl rfl rfl rfl rfl ?_ | refine sy_ldar 5 agg_30 rfl rfl rfl rfl rfl ?_
               refine sy_move rfl rfl rfl ?_
               first | refine sy_stl 0 sz_30 rfl rfl rfl rfl rfl rfl rfl rfl ?_ | refine sy_stl 1 sz_30 rfl rfl rfl rfl rfl rfl rfl rfl ?_ | refine sy_stl 2 sz_30 rfl rfl rfl rfl rfl rfl rfl rfl ?_ | refine sy_stl 3 sz_30 rfl rfl rfl rfl rfl rfl rfl rfl ?_ | refine sy_stl 4 sz_30 rfl rfl rfl rfl rfl rfl rfl rfl ?_ | refine sy_stl 5 sz_30 rfl rfl rfl rfl rfl rfl rfl rfl ?_
               refine sy_assign rfl rfl rfl ?_
               refine sy_nil rfl ?_
               refine ny_next ?_
               refine cy_ret ?_
               exact ny_finR (resc1 0 rfl agg_30 rfl rfl rfl rfl) (fun w9 hs => ⟨.ok (g.tm, pri) st2 (g, o2, vn2), _, _, rfl, ⟨hro.symm.trans (loop_end hgo), rfl, hlgf, hm2, rfl⟩, hs.sel (is := [1, 2, 2]) rfl⟩)
             · refine sy_move rfl rfl rfl ?_
               refine sy_move rfl rfl rfl ?_
               refine sy_cmp rfl rfl rfl rfl rfl ?_
               refine sy_pickF rfl rfl rfl rfl ?_
               refine sy_nil rfl ?_
               refine ny_next ?_
               refine cy_cond rfl (fun hc55 => ?_) (fun hc55 => ?_)
               · have hgo : goesR L most pri st2 = false := by
                  unfold goesR
                  rw [hA, Bool.true_and, decide_eq_false (p := pri ≤ (refInfix (tokA L st2.at_).str.data.toList).1) (by have := of_decide_eq_true hc55; omega), Bool.and_false]
                 refine cy_exit ?_
                 refine ny_thenE ?_
                 refine ny_blockY rfl ?_
                 refine ny_thenE ?_
                 refine ny_blockX ?_
                 refine ny_next ?_
                 refine cy_seq ?_
                 refine cy_region ?_
                 refine sy_move rfl rfl rfl ?_
                 refine sy_nilCheck rfl rfl rfl ?_
                 refine sy_field fld_74_3 rfl rfl rfl ?_
                 first | refine sy_ldr 0 one_3 rfl rfl rfl rfl rfl ?_ | refine sy_ldr 1 one_3 rfl rfl rfl rfl rfl ?_ | refine sy_ldr 2 one_3 rfl rfl rfl rfl rfl ?_ | refine sy_ldr 3 one_3 rfl rfl rfl rfl rfl ?_ | refine sy_ldr 4 one_3 rfl rfl rfl rfl rfl ?_ | refine sy_ldr 5 one_3 rfl rfl rfl rfl rfl ?_
                 refine sy_subi (z := inn) rfl rfl (by omega) (by omega) (by omega) rfl rfl ?_
                 refine sy_nilCheck rfl rfl rfl ?_
                 refine sy_field fld_74_3 rfl rfl rfl ?_
                 first | refine sy_stl 0 sz_3 rfl rfl rfl rfl rfl rfl rfl rfl ?_ | refine sy_stl 1 sz_3 rfl rfl rfl rfl rfl rfl rfl rfl ?_ | refine sy_stl 2 sz_3 rfl rfl rfl rfl rfl rfl rfl rfl ?_ | refine sy_stl 3 sz_3 rfl rfl rfl rfl rfl rfl rfl rfl ?_ | refine sy_stl 4 sz_3 rfl rfl rfl rfl rfl rfl rfl rfl ?_ | refine sy_stl 5 sz_3 rfl rfl rfl rfl rfl rfl rfl rfl ?_
                 refine sy_nil rfl ?_
                 refine ny_next ?_
                 refine cy_seq ?_
                 refine cy_region ?_
                 first | refine sy_ldar 0 agg_30 rfl rfl rfl rfl rfl ?_ | refine sy_ldar 1 agg_30 rfl rfl rfl rfl rfl ?_ | refine sy_ldar 2 agg_30 rfl rfl rfl rfl rfl ?_ | refine sy_ldar 3 agg_30 rfl rfl rfl rfl rfl ?_ | refine sy_ldar 4 agg_30 rfl rfl rfl rfl rfl ?_ | refine sy_ldar 5 agg_30 rfl rfl rfl rfl rfl ?_
                 refine sy_move rfl rfl rfl ?_
                 first | refine sy_stl 0 sz_30 rfl rfl rfl rfl rfl rfl rfl rfl ?_ | refine sy_stl 1 sz_30 rfl rfl rfl rfl rfl rfl rfl rfl ?_ | refine sy_stl 2 sz_30 rfl rfl rfl rfl rfl rfl rfl rfl ?_ | refine sy_stl 3 sz_30 rfl rfl rfl rfl rfl rfl rfl rfl ?_ | refine sy_stl 4 sz_30 rfl rfl rfl rfl rfl rfl rfl rfl ?_ | refine sy_stl 5 sz_30 rfl rfl rfl rfl rfl rfl rfl rfl ?_
                 refine sy_assign rfl rfl rfl ?_
                 refine sy_nil rfl ?_
                 refine ny_next ?_
                 refine cy_ret ?_
                 exact ny_finR (resc1 0 rfl agg_30 rfl rfl rfl rfl) (fun w9 hs => ⟨.ok (g.tm, pri) st2 (g, o2, vn2), _, _, rfl, ⟨hro.symm.trans (loop_end hgo), rfl, hlgf, hm2, rfl⟩, hs.sel (is := [1, 2, 2]) rfl⟩)
               · have hgo : goesR L most pri st2 = true := by
                  unfold goesR
                  have h9 : (refInfix (tokA L st2.at_).str.data.toList).2.2.2 = true := by simpa using hg46
                  rw [hA, Bool.true_and, h9, decide_eq_true (p := (refInfix (tokA L st2.at_).str.data.toList).2.1 ≤ most) (by have := of_decide_eq_false hg51; omega), decide_eq_true (p := pri ≤ (refInfix (tokA L st2.at_).str.data.toList).1) (by have := of_decide_eq_false hc55; omega)]
                  rfl
                 refine cy_skip ?_
                 refine ny_next ?_
                 refine cy_seq ?_
                 refine cy_region ?_
                 refine sy_move rfl rfl rfl ?_
                 refine sy_nilCheck rfl rfl rfl ?_
                 refine sy_field fld_74_1 rfl rfl rfl ?_
                 first | refine sy_ldr 0 one_3 rfl rfl rfl rfl rfl ?_ | refine sy_ldr 1 one_3 rfl rfl rfl rfl rfl ?_ | refine sy_ldr 2 one_3 rfl rfl rfl rfl rfl ?_ | refine sy_ldr 3 one_3 rfl rfl rfl rfl rfl ?_ | refine sy_ldr 4 one_3 rfl rfl rfl rfl rfl ?_ | refine sy_ldr 5 one_3 rfl rfl rfl rfl rfl ?_
                 refine sy_addi (z := ((st2.at_ + 1 : Nat) : Int)) rfl rfl (by omega) (by omega) (by omega) rfl rfl ?_
                 have hlt := goes_lt hgo
                 refine sy_nilCheck rfl rfl rfl ?_
                 refine sy_field fld_74_1 rfl rfl rfl ?_
                 first | refine sy_stl 0 sz_3 rfl rfl rfl rfl rfl rfl rfl rfl ?_ | refine sy_stl 1 sz_3 rfl rfl rfl rfl rfl rfl rfl rfl ?_ | refine sy_stl 2 sz_3 rfl rfl rfl rfl rfl rfl rfl rfl ?_ | refine sy_stl 3 sz_3 rfl rfl rfl rfl rfl rfl rfl rfl ?_ | refine sy_stl 4 sz_3 rfl rfl rfl rfl rfl rfl rfl rfl ?_ | refine sy_stl 5 sz_3 rfl rfl rfl rfl rfl rfl rfl rfl ?_
                 refine sy_nil rfl ?_
                 refine ny_next ?_
                 refine cy_regionAP mixed ?_
                 refine zy_qP 0 (fun c a d v w hq => by cases d <;> exact hq) rfl (by kernel_rfl) (fun hB8_0 => ?_)
                 refine sy_move rfl rfl rfl ?_
                 refine sy_nil1 (ny_zqP hB8_0 ?_)
                 refine zy_qP 1 (fun c a d v w hq => by cases d <;> exact hq) rfl (by kernel_rfl) (fun hB8_1 => ?_)
                 refine sy_field fld_65_1 rfl rfl rfl ?_
                 refine sy_nil1 (ny_zqP hB8_1 ?_)
                 refine zy_qP 2 (fun c a d v w hq => by cases d <;> exact hq) rfl (by kernel_rfl) (fun hB8_2 => ?_)
                 refine sy_ldh one_9 rfl (Hp.blk hb8x 1 _ rfl) rfl rfl ?_
                 refine sy_nil1 (ny_zqP hB8_2 ?_)
                 refine zy_qP 4 (fun c a d v w hq => by cases d <;> exact hq) rfl (by kernel_rfl) (fun hB8_4 => ?_)
                 refine sy_move rfl rfl rfl ?_
                 refine sy_nil1 (ny_zqP hB8_4 ?_)
                 refine zy_qP 5 (fun c a d v w hq => by cases d <;> exact hq) rfl (by kernel_rfl) (fun hB8_5 => ?_)
                 refine sy_move rfl rfl rfl ?_
                 refine sy_nil1 (ny_zqP hB8_5 ?_)
                 refine zy_qP 9 (fun c a d v w hq => by cases d <;> exact hq) rfl (by kernel_rfl) (fun hB8_9 => ?_)
                 refine sy_move rfl rfl rfl ?_
                 refine sy_nil1 (ny_zqP hB8_9 ?_)
                 refine zy_2P 3 6 (by kernel_rfl) ?_ ?_
                 · refine zop_runP rfl rfl (fun hB8_3 => ?_)
                   first | refine sy_ldar 0 agg_30 rfl rfl rfl rfl rfl ?_ | refine sy_ldar 1 agg_30 rfl rfl rfl rfl rfl ?_ | refine sy_ldar 2 agg_30 rfl rfl rfl rfl rfl ?_ | refine sy_ldar 3 agg_30 rfl rfl rfl rfl rfl ?_ | refine sy_ldar 4 agg_30 rfl rfl rfl rfl rfl ?_ | refine sy_ldar 5 agg_30 rfl rfl rfl rfl rfl ?_
                   refine sy_nil rfl (ny_zyP hB8_3 (Hp.Le.refl _) ?_)
                   refine zy_1P 6 (by kernel_rfl) ?_
                   refine zop_runP rfl rfl (fun hB8_6 => ?_)
                   refine sy_callRO [0, 2, 2] call_37 rfl rfl (ihs (k - 1) (by omega) (inn + 1) (by omega) (by omega) (by omega) _ (adv st2) o2 vn2 _ hTz (by show st2.at_ + 1 ≤ _; omega) (by show st2.names.length ≤ st2.at_ + 1; omega) hm2) rfl rfl (fun a69 e69 h69x H69x hb69 hx69 hle69x => ?_) (fun x69 s69 g69 h69x H69x hk69 hx69 hle69x => ?_)
                   · obtain ⟨a9, i9, o9, v9, n9, rfl⟩ := hx69
                     refine ny_zyPP ?_
                     refine ny_blockP ?_
                     refine ny_thenP ?_
                     refine ny_blockP ?_
                     refine ny_thenP ?_
                     first
                     | exact ny_finP (fun w9 hs => ⟨.bad a69 e69, _, _, rfl, ⟨hro.symm.trans (loop_bad hgo hb69 (by omega)), _, _, _, _, _, rfl⟩, hs.sel (is := [0, 0, 0]) rfl⟩)
                     | exact ny_finP (fun w9 hs => ⟨.bad a71 e71, _, _, rfl, ⟨hro.symm.trans (loop_bad2 hgo hk69 (by rw [← hg69]; exact hb71) (by omega)), _, _, _, _, _, rfl⟩, hs.sel (is := [0, 0, 0]) rfl⟩)
                   · obtain ⟨hg69, hl69, hm69, rfl⟩ := hx69
                     replace hg69 : g69.1.tm = x69.1 := hg69
                     have hfw69 := read_fwd L lv (k - 1) _ (adv st2) x69 s69 (by show st2.at_ + 1 ≤ _; omega) hk69
                     have hww69 := read_wt L lv (k - 1) _ (adv st2) x69 s69 (by show st2.at_ + 1 ≤ _; omega) hk69
                     simp only [adv] at hfw69 hww69
                     rw [preW_succ hlt] at hww69
                     have hpw69 := hPW s69.at_
                     refine sy_nil rfl (ny_zyP hB8_6 hle69x ?_)
                     refine zy_1P 7 (by kernel_rfl) ?_
                     refine zop_runP rfl rfl (fun hB8_7 => ?_)
                     refine sy_buildSlice (cs := [g, g69.1].flatMap GT.cells) rfl (fun w => bsl_23_2_0x1 w) rfl rfl (fun b70 hb70 hM70 => ?_) (by first | exact hb0 | simp)
                     refine sy_frz 0 rfl hM70 (fun h70 hle70 hb70x => ?_)
                     have hr70 : RowsAt h70 (some ⟨b70, 0, none⟩) 4 ([g, g69.1].map GT.cells) := rows_blk (by decide) (GT.cells_len _) hb70x
                     refine sy_nil rfl (ny_zyP hB8_7 hle70 ?_)
                     refine zy_1P 8 (by kernel_rfl) ?_
                     refine zop_runP rfl rfl (fun hB8_8 => ?_)
                     refine sy_callRO [0] call_71 rfl rfl (mk_c (tokA L st2.at_).str (tokA_ok hqN st2.at_).2.1 [g, g69.1] (some ⟨b70, 0, none⟩) 2 r bm A c L lv _ ((hTz.le hle69x).le hle70) hL s69 (inn + 1) g69.2.2 hfw69.2.1 rfl hr70 (duoW (h := h70) ⟨(hlg.1.le hle69x).le hle70, hlg.2⟩ ⟨hl69.1.le hle70, hl69.2⟩ (by omega) (by rw [hg69]; omega)) (by simp) (by simp)) rfl rfl (fun a71 e71 h71x H71x hb71 hx71 hle71x => ?_) (fun x71 s71 g71 h71x H71x hk71 hx71 hle71x => ?_)
                     · subst hx71
                       refine ny_zyPP ?_
                       refine ny_blockP ?_
                       refine ny_thenP ?_
                       refine ny_blockP ?_
                       refine ny_thenP ?_
                       first
                       | exact ny_finP (fun w9 hs => ⟨.bad a69 e69, _, _, rfl, ⟨hro.symm.trans (loop_bad hgo hb69 (by omega)), _, _, _, _, _, rfl⟩, hs.sel (is := [0, 0, 0]) rfl⟩)
                       | exact ny_finP (fun w9 hs => ⟨.bad a71 e71, _, _, rfl, ⟨hro.symm.trans (loop_bad2 hgo hk69 (by rw [← hg69]; exact hb71) (by omega)), _, _, _, _, _, rfl⟩, hs.sel (is := [0, 0, 0]) rfl⟩)
                     · obtain ⟨hg71, hl71, rfl⟩ := hx71
                       have hst71 := (mkR_st hk71).symm
                       subst hst71
                       have hmw71 := mkR_wt hk71
                       rw [List.map_cons, List.map_cons, List.map_nil, wtTs_cons, wtTs_cons, wtTs_nil, hg69] at hmw71
                       refine sy_nil rfl (ny_zyP hB8_8 hle71x ?_)
                       refine zy_1P 10 (by kernel_rfl) ?_
                       refine zop_runP rfl rfl (fun hB8_10 => ?_)
                       first | refine sy_stl 0 sz_30 rfl rfl rfl rfl rfl rfl rfl rfl ?_ | refine sy_stl 1 sz_30 rfl rfl rfl rfl rfl rfl rfl rfl ?_ | refine sy_stl 2 sz_30 rfl rfl rfl rfl rfl rfl rfl rfl ?_ | refine sy_stl 3 sz_30 rfl rfl rfl rfl rfl rfl rfl rfl ?_ | refine sy_stl 4 sz_30 rfl rfl rfl rfl rfl rfl rfl rfl ?_ | refine sy_stl 5 sz_30 rfl rfl rfl rfl rfl rfl rfl rfl ?_
                       refine sy_nil rfl (ny_zyP hB8_10 (Hp.Le.refl _) ?_)
                       refine zy_qP 11 (fun c a d v w hq => by cases d <;> exact hq) rfl (by kernel_rfl) (fun hB8_11 => ?_)
                       refine sy_assign rfl rfl rfl ?_
                       refine sy_nil1 (ny_zqP hB8_11 ?_)
                       refine zy_doneP (by kernel_rfl) ?_
                       refine ny_blockN ?_
                       refine ny_roundK [0, 1, 4, 6] ⟨g71, (refInfix (tokA L st2.at_).str.data.toList).2.1, s69, g69.2.1, g69.2.2, h71x, m - 1⟩ [0, 3, 0, 0, 0] ⟨(by rw [hg71, ← loop_step hgo hk69 (by rw [← hg69]; exact hk71) (by omega)]; exact hro), (by show L.length + 1 ≤ m - 1 + s69.at_; omega), hfw69.2.1, (by show s69.names.length ≤ s69.at_; omega), hm69, (((hlez.trans hle8).trans hle69x).trans hle70).trans hle71x, hl71, (by show wtT g71.tm ≤ preW L s69.at_; rw [hg71]; omega)⟩ (by show L.length - s69.at_ < L.length - st2.at_; omega) rfl ⟨rfl, trivial⟩ rfl rfl
                 · refine zop_runP rfl rfl (fun hB8_6 => ?_)
                   refine sy_callRO [0, 2, 2] call_37 rfl rfl (ihs (k - 1) (by omega) (inn + 1) (by omega) (by omega) (by omega) _ (adv st2) o2 vn2 _ hTz (by show st2.at_ + 1 ≤ _; omega) (by show st2.names.length ≤ st2.at_ + 1; omega) hm2) rfl rfl (fun a69 e69 h69x H69x hb69 hx69 hle69x => ?_) (fun x69 s69 g69 h69x H69x hk69 hx69 hle69x => ?_)
                   · obtain ⟨a9, i9, o9, v9, n9, rfl⟩ := hx69
                     refine ny_zyPP ?_
                     refine ny_blockP ?_
                     refine ny_thenP ?_
                     refine ny_blockP ?_
                     refine ny_thenP ?_
                     first
                     | exact ny_finP (fun w9 hs => ⟨.bad a69 e69, _, _, rfl, ⟨hro.symm.trans (loop_bad hgo hb69 (by omega)), _, _, _, _, _, rfl⟩, hs.sel (is := [0, 0, 0]) rfl⟩)
                     | exact ny_finP (fun w9 hs => ⟨.bad a71 e71, _, _, rfl, ⟨hro.symm.trans (loop_bad2 hgo hk69 (by rw [← hg69]; exact hb71) (by omega)), _, _, _, _, _, rfl⟩, hs.sel (is := [0, 0, 0]) rfl⟩)
                   · obtain ⟨hg69, hl69, hm69, rfl⟩ := hx69
                     replace hg69 : g69.1.tm = x69.1 := hg69
                     have hfw69 := read_fwd L lv (k - 1) _ (adv st2) x69 s69 (by show st2.at_ + 1 ≤ _; omega) hk69
                     have hww69 := read_wt L lv (k - 1) _ (adv st2) x69 s69 (by show st2.at_ + 1 ≤ _; omega) hk69
                     simp only [adv] at hfw69 hww69
                     rw [preW_succ hlt] at hww69
                     have hpw69 := hPW s69.at_
                     refine sy_nil rfl (ny_zyP hB8_6 hle69x ?_)
                     refine zy_1P 3 (by kernel_rfl) ?_
                     refine zop_runP rfl rfl (fun hB8_3 => ?_)
                     first | refine sy_ldar 0 agg_30 rfl rfl rfl rfl rfl ?_ | refine sy_ldar 1 agg_30 rfl rfl rfl rfl rfl ?_ | refine sy_ldar 2 agg_30 rfl rfl rfl rfl rfl ?_ | refine sy_ldar 3 agg_30 rfl rfl rfl rfl rfl ?_ | refine sy_ldar 4 agg_30 rfl rfl rfl rfl rfl ?_ | refine sy_ldar 5 agg_30 rfl rfl rfl rfl rfl ?_
                     refine sy_nil rfl (ny_zyP hB8_3 (Hp.Le.refl _) ?_)
                     refine zy_1P 7 (by kernel_rfl) ?_
                     refine zop_runP rfl rfl (fun hB8_7 => ?_)
                     refine sy_buildSlice (cs := [g, g69.1].flatMap GT.cells) rfl (fun w => bsl_23_2_0x1 w) rfl rfl (fun b70 hb70 hM70 => ?_) (by first | exact hb0 | simp)
                     refine sy_frz 0 rfl hM70 (fun h70 hle70 hb70x => ?_)
                     have hr70 : RowsAt h70 (some ⟨b70, 0, none⟩) 4 ([g, g69.1].map GT.cells) := rows_blk (by decide) (GT.cells_len _) hb70x
                     refine sy_nil rfl (ny_zyP hB8_7 hle70 ?_)
                     refine zy_1P 8 (by kernel_rfl) ?_
                     refine zop_runP rfl rfl (fun hB8_8 => ?_)
                     refine sy_callRO [0] call_71 rfl rfl (mk_c (tokA L st2.at_).str (tokA_ok hqN st2.at_).2.1 [g, g69.1] (some ⟨b70, 0, none⟩) 2 r bm A c L lv _ ((hTz.le hle69x).le hle70) hL s69 (inn + 1) g69.2.2 hfw69.2.1 rfl hr70 (duoW (h := h70) ⟨(hlg.1.le hle69x).le hle70, hlg.2⟩ ⟨hl69.1.le hle70, hl69.2⟩ (by omega) (by rw [hg69]; omega)) (by simp) (by simp)) rfl rfl (fun a71 e71 h71x H71x hb71 hx71 hle71x => ?_) (fun x71 s71 g71 h71x H71x hk71 hx71 hle71x => ?_)
                     · subst hx71
                       refine ny_zyPP ?_
                       refine ny_blockP ?_
                       refine ny_thenP ?_
                       refine ny_blockP ?_
                       refine ny_thenP ?_
                       first
                       | exact ny_finP (fun w9 hs => ⟨.bad a69 e69, _, _, rfl, ⟨hro.symm.trans (loop_bad hgo hb69 (by omega)), _, _, _, _, _, rfl⟩, hs.sel (is := [0, 0, 0]) rfl⟩)
                       | exact ny_finP (fun w9 hs => ⟨.bad a71 e71, _, _, rfl, ⟨hro.symm.trans (loop_bad2 hgo hk69 (by rw [← hg69]; exact hb71) (by omega)), _, _, _, _, _, rfl⟩, hs.sel (is := [0, 0, 0]) rfl⟩)
                     · obtain ⟨hg71, hl71, rfl⟩ := hx71
                       have hst71 := (mkR_st hk71).symm
                       subst hst71
                       have hmw71 := mkR_wt hk71
                       rw [List.map_cons, List.map_cons, List.map_nil, wtTs_cons, wtTs_cons, wtTs_nil, hg69] at hmw71
                       refine sy_nil rfl (ny_zyP hB8_8 hle71x ?_)
                       refine zy_1P 10 (by kernel_rfl) ?_
                       refine zop_runP rfl rfl (fun hB8_10 => ?_)
                       first | refine sy_stl 0 sz_30 rfl rfl rfl rfl rfl rfl rfl rfl ?_ | refine sy_stl 1 sz_30 rfl rfl rfl rfl rfl rfl rfl rfl ?_ | refine sy_stl 2 sz_30 rfl rfl rfl rfl rfl rfl rfl rfl ?_ | refine sy_stl 3 sz_30 rfl rfl rfl rfl rfl rfl rfl rfl ?_ | refine sy_stl 4 sz_30 rfl rfl rfl rfl rfl rfl rfl rfl ?_ | refine sy_stl 5 sz_30 rfl rfl rfl rfl rfl rfl rfl rfl ?_
                       refine sy_nil rfl (ny_zyP hB8_10 (Hp.Le.refl _) ?_)
                       refine zy_qP 11 (fun c a d v w hq => by cases d <;> exact hq) rfl (by kernel_rfl) (fun hB8_11 => ?_)
                       refine sy_assign rfl rfl rfl ?_
                       refine sy_nil1 (ny_zqP hB8_11 ?_)
                       refine zy_doneP (by kernel_rfl) ?_
                       refine ny_blockN ?_
                       refine ny_roundK [0, 1, 4, 6] ⟨g71, (refInfix (tokA L st2.at_).str.data.toList).2.1, s69, g69.2.1, g69.2.2, h71x, m - 1⟩ [0, 3, 0, 0, 0] ⟨(by rw [hg71, ← loop_step hgo hk69 (by rw [← hg69]; exact hk71) (by omega)]; exact hro), (by show L.length + 1 ≤ m - 1 + s69.at_; omega), hfw69.2.1, (by show s69.names.length ≤ s69.at_; omega), hm69, (((hlez.trans hle8).trans hle69x).trans hle70).trans hle71x, hl71, (by show wtT g71.tm ≤ preW L s69.at_; rw [hg71]; omega)⟩ (by show L.length - s69.at_ < L.length - st2.at_; omega) rfl ⟨rfl, trivial⟩ rfl rfl
     · refine sy_skip rfl rfl rfl ?_
       refine sy_skip rfl rfl rfl ?_
       refine sy_skip rfl rfl rfl ?_
       refine sy_pickF rfl rfl rfl rfl ?_
       refine sy_move rfl rfl rfl ?_
       refine sy_move rfl rfl rfl ?_
       refine sy_callR1 [0] call_69 rfl rfl (is_c ⟨#[44]⟩ r bm A c L lv _ hTz hL st2 (inn + 1) vn2 hat2) rfl rfl (fun x33 h33x H33x hx33 hle33x => ?_)
       obtain ⟨rfl, rfl⟩ := hx33
       refine sy_pickF rfl rfl rfl rfl ?_
       refine sy_not rfl rfl rfl ?_
       refine sy_nil rfl ?_
       refine ny_next ?_
       refine cy_cond rfl (fun hc35 => ?_) (fun hc35 => ?_)
       · have hA : ((((tokA L st2.at_).kind == 1) && !(tokA L st2.at_).quo) || isP L st2.at_ [44]) = false := by
          have h9 : isP L st2.at_ [44] = false := by simpa using hc35
          rw [h9, Bool.or_false]
          first | (rw [hg31, Bool.and_false]; done) | (rw [hg26]; rfl)
         have hgo : goesR L most pri st2 = false := by
          unfold goesR
          rw [hA]
          rfl
         refine cy_exit ?_
         refine ny_thenE ?_
         refine ny_blockY rfl ?_
         refine ny_thenE ?_
         refine ny_blockX ?_
         refine ny_next ?_
         refine cy_seq ?_
         refine cy_region ?_
         refine sy_move rfl rfl rfl ?_
         refine sy_nilCheck rfl rfl rfl ?_
         refine sy_field fld_74_3 rfl rfl rfl ?_
         first | refine sy_ldr 0 one_3 rfl rfl rfl rfl rfl ?_ | refine sy_ldr 1 one_3 rfl rfl rfl rfl rfl ?_ | refine sy_ldr 2 one_3 rfl rfl rfl rfl rfl ?_ | refine sy_ldr 3 one_3 rfl rfl rfl rfl rfl ?_ | refine sy_ldr 4 one_3 rfl rfl rfl rfl rfl ?_ | refine sy_ldr 5 one_3 rfl rfl rfl rfl rfl ?_
         refine sy_subi (z := inn) rfl rfl (by omega) (by omega) (by omega) rfl rfl ?_
         refine sy_nilCheck rfl rfl rfl ?_
         refine sy_field fld_74_3 rfl rfl rfl ?_
         first | refine sy_stl 0 sz_3 rfl rfl rfl rfl rfl rfl rfl rfl ?_ | refine sy_stl 1 sz_3 rfl rfl rfl rfl rfl rfl rfl rfl ?_ | refine sy_stl 2 sz_3 rfl rfl rfl rfl rfl rfl rfl rfl ?_ | refine sy_stl 3 sz_3 rfl rfl rfl rfl rfl rfl rfl rfl ?_ | refine sy_stl 4 sz_3 rfl rfl rfl rfl rfl rfl rfl rfl ?_ | refine sy_stl 5 sz_3 rfl rfl rfl rfl rfl rfl rfl rfl ?_
         refine sy_nil rfl ?_
         refine ny_next ?_
         refine cy_seq ?_
         refine cy_region ?_
         first | refine sy_ldar 0 agg_30 rfl rfl rfl rfl rfl ?_ | refine sy_ldar 1 agg_30 rfl rfl rfl rfl rfl ?_ | refine sy_ldar 2 agg_30 rfl rfl rfl rfl rfl ?_ | refine sy_ldar 3 agg_30 rfl rfl rfl rfl rfl ?_ | refine sy_ldar 4 agg_30 rfl rfl rfl rfl rfl ?_ | refine sy_ldar 5 agg_30 rfl rfl rfl rfl rfl ?_
         refine sy_move rfl rfl rfl ?_
         first | refine sy_stl 0 sz_30 rfl rfl rfl rfl rfl rfl rfl rfl ?_ | refine sy_stl 1 sz_30 rfl rfl rfl rfl rfl rfl rfl rfl ?_ | refine sy_stl 2 sz_30 rfl rfl rfl rfl rfl rfl rfl rfl ?_ | refine sy_stl 3 sz_30 rfl rfl rfl rfl rfl rfl rfl rfl ?_ | refine sy_stl 4 sz_30 rfl rfl rfl rfl rfl rfl rfl rfl ?_ | refine sy_stl 5 sz_30 rfl rfl rfl rfl rfl rfl rfl rfl ?_
         refine sy_assign rfl rfl rfl ?_
         refine sy_nil rfl ?_
         refine ny_next ?_
         refine cy_ret ?_
         exact ny_finR (resc1 0 rfl agg_30 rfl rfl rfl rfl) (fun w9 hs => ⟨.ok (g.tm, pri) st2 (g, o2, vn2), _, _, rfl, ⟨hro.symm.trans (loop_end hgo), rfl, hlgf, hm2, rfl⟩, hs.sel (is := [1, 2, 2]) rfl⟩)
       · have hA : ((((tokA L st2.at_).kind == 1) && !(tokA L st2.at_).quo) || isP L st2.at_ [44]) = true := by
          have h9 : isP L st2.at_ [44] = true := by simpa using hc35
          rw [h9, Bool.or_true]
         refine cy_skip ?_
         refine ny_next ?_
         refine cy_seq ?_
         refine cy_region ?_
         refine sy_field fld_65_1 rfl rfl rfl ?_
         refine sy_ldh one_9 rfl (Hp.blk hb8x 1 _ rfl) rfl rfl ?_
         refine sy_call rfl call_70 rfl (infix_c (tokA L st2.at_).str _) rfl rfl ?_
         refine sy_move rfl rfl rfl ?_
         refine sy_extract rfl rfl rfl rfl ?_
         refine sy_extract rfl rfl rfl rfl ?_
         refine sy_extract rfl rfl rfl rfl ?_
         refine sy_extract rfl rfl rfl rfl ?_
         refine sy_assign rfl rfl rfl ?_
         refine sy_assign rfl rfl rfl ?_
         refine sy_assign rfl rfl rfl ?_
         refine sy_assign rfl rfl rfl ?_
         refine sy_nil rfl ?_
         refine ny_next ?_
         refine cy_seq ?_
         refine cy_seq ?_
         refine cy_region ?_
         refine sy_move rfl rfl rfl ?_
         refine sy_not rfl rfl rfl ?_
         refine sy_move rfl rfl rfl ?_
         refine sy_cond (d := 46) _ rfl rfl (fun hg46 => ?_) (fun hg46 => ?_)
         · refine sy_skip rfl rfl rfl ?_
           refine sy_skip rfl rfl rfl ?_
           refine sy_skip rfl rfl rfl ?_
           refine sy_pickT rfl rfl rfl rfl ?_
           refine sy_move rfl rfl rfl ?_
           refine sy_skip rfl rfl rfl ?_
           refine sy_skip rfl rfl rfl ?_
           refine sy_skip rfl rfl rfl ?_
           refine sy_pickT rfl rfl rfl rfl ?_
           refine sy_nil rfl ?_
           refine ny_next ?_
           refine cy_condT rfl ?_
           have hgo : goesR L most pri st2 = false := by
            unfold goesR
            rw [hA, Bool.true_and]
            first
            | (have h9 : (refInfix (tokA L st2.at_).str.data.toList).2.2.2 = false := by simpa using hg46
               rw [h9]; rfl)
            | (rw [decide_eq_false (p := (refInfix (tokA L st2.at_).str.data.toList).2.1 ≤ most) (by have := of_decide_eq_true hg51; omega), Bool.and_false]; rfl)
           refine cy_exit ?_
           refine ny_thenE ?_
           refine ny_blockY rfl ?_
           refine ny_thenE ?_
           refine ny_blockX ?_
           refine ny_next ?_
           refine cy_seq ?_
           refine cy_region ?_
           refine sy_move rfl rfl rfl ?_
           refine sy_nilCheck rfl rfl rfl ?_
           refine sy_field fld_74_3 rfl rfl rfl ?_
           first | refine sy_ldr 0 one_3 rfl rfl rfl rfl rfl ?_ | refine sy_ldr 1 one_3 rfl rfl rfl rfl rfl ?_ | refine sy_ldr 2 one_3 rfl rfl rfl rfl rfl ?_ | refine sy_ldr 3 one_3 rfl rfl rfl rfl rfl ?_ | refine sy_ldr 4 one_3 rfl rfl rfl rfl rfl ?_ | refine sy_ldr 5 one_3 rfl rfl rfl rfl rfl ?_
           refine sy_subi (z := inn) rfl rfl (by omega) (by omega) (by omega) rfl rfl ?_
           refine sy_nilCheck rfl rfl rfl ?_
           refine sy_field fld_74_3 rfl rfl rfl ?_
           first | refine sy_stl 0 sz_3 rfl rfl rfl rfl rfl rfl rfl rfl ?_ | refine sy_stl 1 sz_3 rfl rfl rfl rfl rfl rfl rfl rfl ?_ | refine sy_stl 2 sz_3 rfl rfl rfl rfl rfl rfl rfl rfl ?_ | refine sy_stl 3 sz_3 rfl rfl rfl rfl rfl rfl rfl rfl ?_ | refine sy_stl 4 sz_3 rfl rfl rfl rfl rfl rfl rfl rfl ?_ | refine sy_stl 5 sz_3 rfl rfl rfl rfl rfl rfl rfl rfl ?_
           refine sy_nil rfl ?_
           refine ny_next ?_
           refine cy_seq ?_
           refine cy_region ?_
           first | refine sy_ldar 0 agg_30 rfl rfl rfl rfl rfl ?_ | refine sy_ldar 1 agg_30 rfl rfl rfl rfl rfl ?_ | refine sy_ldar 2 agg_30 rfl rfl rfl rfl rfl ?_ | refine sy_ldar 3 agg_30 rfl rfl rfl rfl rfl ?_ | refine sy_ldar 4 agg_30 rfl rfl rfl rfl rfl ?_ | refine sy_ldar 5 agg_30 rfl rfl rfl rfl rfl ?_
           refine sy_move rfl rfl rfl ?_
           first | refine sy_stl 0 sz_30 rfl rfl rfl rfl rfl rfl rfl rfl ?_ | refine sy_stl 1 sz_30 rfl rfl rfl rfl rfl rfl rfl rfl ?_ | refine sy_stl 2 sz_30 rfl rfl rfl rfl rfl rfl rfl rfl ?_ | refine sy_stl 3 sz_30 rfl rfl rfl rfl rfl rfl rfl rfl ?_ | refine sy_stl 4 sz_30 rfl rfl rfl rfl rfl rfl rfl rfl ?_ | refine sy_stl 5 sz_30 rfl rfl rfl rfl rfl rfl rfl rfl ?_
           refine sy_assign rfl rfl rfl ?_
           refine sy_nil rfl ?_
           refine ny_next ?_
           refine cy_ret ?_
           exact ny_finR (resc1 0 rfl agg_30 rfl rfl rfl rfl) (fun w9 hs => ⟨.ok (g.tm, pri) st2 (g, o2, vn2), _, _, rfl, ⟨hro.symm.trans (loop_end hgo), rfl, hlgf, hm2, rfl⟩, hs.sel (is := [1, 2, 2]) rfl⟩)
         · refine sy_move rfl rfl rfl ?_
           refine sy_move rfl rfl rfl ?_
           refine sy_cmp rfl rfl rfl rfl rfl ?_
           refine sy_pickF rfl rfl rfl rfl ?_
           refine sy_move rfl rfl rfl ?_
           refine sy_cond (d := 51) _ rfl rfl (fun hg51 => ?_) (fun hg51 => ?_)
           · refine sy_skip rfl rfl rfl ?_
             refine sy_skip rfl rfl rfl ?_
             refine sy_skip rfl rfl rfl ?_
             refine sy_pickT rfl rfl rfl rfl ?_
             refine sy_nil rfl ?_
             refine ny_next ?_
             refine cy_condT rfl ?_
             have hgo : goesR L most pri st2 = false := by
              unfold goesR
              rw [hA, Bool.true_and]
              first
              | (have h9 : (refInfix (tokA L st2.at_).str.data.toList).2.2.2 = false := by simpa using hg46
                 rw [h9]; rfl)
              | (rw [decide_eq_false (p := (refInfix (tokA L st2.at_).str.data.toList).2.1 ≤ most) (by have := of_decide_eq_true hg51; omega), Bool.and_false]; rfl)
             refine cy_exit ?_
             refine ny_thenE ?_
             refine ny_blockY rfl ?_
             refine ny_thenE ?_
             refine ny_blockX ?_
             refine ny_next ?_
             refine cy_seq ?_
             refine cy_region ?_
             refine sy_move rfl rfl rfl ?_
             refine sy_nilCheck rfl rfl rfl ?_
             refine sy_field fld_74_3 rfl rfl rfl ?_
             first | refine sy_ldr 0 one_3 rfl rfl rfl rfl rfl ?_ | refine sy_ldr 1 one_3 rfl rfl rfl rfl rfl ?_ | refine sy_ldr 2 one_3 rfl rfl rfl rfl rfl ?_ | refine sy_ldr 3 one_3 rfl rfl rfl rfl rfl ?_ | refine sy_ldr 4 one_3 rfl rfl rfl rfl rfl ?_ | refine sy_ldr 5 one_3 rfl rfl rfl rfl rfl ?_
             refine sy_subi (z := inn) rfl rfl (by omega) (by omega) (by omega) rfl rfl ?_
             refine sy_nilCheck rfl rfl rfl ?_
             refine sy_field fld_74_3 rfl rfl rfl ?_
             first | refine sy_stl 0 sz_3 rfl rfl rfl rfl rfl rfl rfl rfl ?_ | refine sy_stl 1 sz_3 rfl rfl rfl rfl rfl rfl rfl rfl ?_ | refine sy_stl 2 sz_3 rfl rfl rfl rfl rfl rfl rfl rfl ?_ | refine sy_stl 3 sz_3 rfl rfl rfl rfl rfl rfl rfl rfl ?_ | refine sy_stl 4 sz_3 rfl rfl rfl rfl rfl rfl rfl rfl ?_ | refine sy_stl 5 sz_3 rfl rfl rfl rfl rfl rfl rfl rfl ?_
             refine sy_nil rfl ?_
             refine ny_next ?_
             refine cy_seq ?_
             refine cy_region ?_
             first | refine sy_ldar 0 agg_30 rfl rfl rfl rfl rfl ?_ | refine sy_ldar 1 agg_30 rfl rfl rfl rfl rfl ?_ | refine sy_ldar 2 agg_30 rfl rfl rfl rfl rfl ?_ | refine sy_ldar 3 agg_30 rfl rfl rfl rfl rfl ?_ | refine sy_ldar 4 agg_30 rfl rfl rfl rfl rfl ?_ | refine sy_ldar 5 agg_30 rfl rfl rfl rfl rfl ?_
             refine sy_move rfl rfl rfl ?_
             first | refine sy_stl 0 sz_30 rfl rfl rfl rfl rfl rfl rfl rfl ?_ | refine sy_stl 1 sz_30 rfl rfl rfl rfl rfl rfl rfl rfl ?_ | refine sy_stl 2 sz_30 rfl rfl rfl rfl rfl rfl rfl rfl ?_ | refine sy_stl 3 sz_30 rfl rfl rfl rfl rfl rfl rfl rfl ?_ | refine sy_stl 4 sz_30 rfl rfl rfl rfl rfl rfl rfl rfl ?_ | refine sy_stl 5 sz_30 rfl rfl rfl rfl rfl rfl rfl rfl ?_
             refine sy_assign rfl rfl rfl ?_
             refine sy_nil rfl ?_
             refine ny_next ?_
             refine cy_ret ?_
             exact ny_finR (resc1 0 rfl agg_30 rfl rfl rfl rfl) (fun w9 hs => ⟨.ok (g.tm, pri) st2 (g, o2, vn2), _, _, rfl, ⟨hro.symm.trans (loop_end hgo), rfl, hlgf, hm2, rfl⟩, hs.sel (is := [1, 2, 2]) rfl⟩)
           · refine sy_move rfl rfl rfl ?_
             refine sy_move rfl rfl rfl ?_
             refine sy_cmp rfl rfl rfl rfl rfl ?_
             refine sy_pickF rfl rfl rfl rfl ?_
             refine sy_nil rfl ?_
             refine ny_next ?_
             refine cy_cond rfl (fun hc55 => ?_) (fun hc55 => ?_)
             · have hgo : goesR L most pri st2 = false := by
                unfold goesR
                rw [hA, Bool.true_and, decide_eq_false (p := pri ≤ (refInfix (tokA L st2.at_).str.data.toList).1) (by have := of_decide_eq_true hc55; omega), Bool.and_false]
               refine cy_exit ?_
               refine ny_thenE ?_
               refine ny_blockY rfl ?_
               refine ny_thenE ?_
               refine ny_blockX ?_
               refine ny_next ?_
               refine cy_seq ?_
               refine cy_region ?_
               refine sy_move rfl rfl rfl ?_
               refine sy_nilCheck rfl rfl rfl ?_
               refine sy_field fld_74_3 rfl rfl rfl ?_
               first | refine sy_ldr 0 one_3 rfl rfl rfl rfl rfl ?_ | refine sy_ldr 1 one_3 rfl rfl rfl rfl rfl ?_ | refine sy_ldr 2 one_3 rfl rfl rfl rfl rfl ?_ | refine sy_ldr 3 one_3 rfl rfl rfl rfl rfl ?_ | refine sy_ldr 4 one_3 rfl rfl rfl rfl rfl ?_ | refine sy_ldr 5 one_3 rfl rfl rfl rfl rfl ?_
               refine sy_subi (z := inn) rfl rfl (by omega) (by omega) (by omega) rfl rfl ?_
               refine sy_nilCheck rfl rfl rfl ?_
               refine sy_field fld_74_3 rfl rfl rfl ?_
               first | refine sy_stl 0 sz_3 rfl rfl rfl rfl rfl rfl rfl rfl ?_ | refine sy_stl 1 sz_3 rfl rfl rfl rfl rfl rfl rfl rfl ?_ | refine sy_stl 2 sz_3 rfl rfl rfl rfl rfl rfl rfl rfl ?_ | refine sy_stl 3 sz_3 rfl rfl rfl rfl rfl rfl rfl rfl ?_ | refine sy_stl 4 sz_3 rfl rfl rfl rfl rfl rfl rfl rfl ?_ | refine sy_stl 5 sz_3 rfl rfl rfl rfl rfl rfl rfl rfl ?_
               refine sy_nil rfl ?_
               refine ny_next ?_
               refine cy_seq ?_
               refine cy_region ?_
               first | refine sy_ldar 0 agg_30 rfl rfl rfl rfl rfl ?_ | refine sy_ldar 1 agg_30 rfl rfl rfl rfl rfl ?_ | refine sy_ldar 2 agg_30 rfl rfl rfl rfl rfl ?_ | refine sy_ldar 3 agg_30 rfl rfl rfl rfl rfl ?_ | refine sy_ldar 4 agg_30 rfl rfl rfl rfl rfl ?_ | refine sy_ldar 5 agg_30 rfl rfl rfl rfl rfl ?_
               refine sy_move rfl rfl rfl ?_
               first | refine sy_stl 0 sz_30 rfl rfl rfl rfl rfl rfl rfl rfl ?_ | refine sy_stl 1 sz_30 rfl rfl rfl rfl rfl rfl rfl rfl ?_ | refine sy_stl 2 sz_30 rfl rfl rfl rfl rfl rfl rfl rfl ?_ | refine sy_stl 3 sz_30 rfl rfl rfl rfl rfl rfl rfl rfl ?_ | refine sy_stl 4 sz_30 rfl rfl rfl rfl rfl rfl rfl rfl ?_ | refine sy_stl 5 sz_30 rfl rfl rfl rfl rfl rfl rfl rfl ?_
               refine sy_assign rfl rfl rfl ?_
               refine sy_nil rfl ?_
               refine ny_next ?_
               refine cy_ret ?_
               exact ny_finR (resc1 0 rfl agg_30 rfl rfl rfl rfl) (fun w9 hs => ⟨.ok (g.tm, pri) st2 (g, o2, vn2), _, _, rfl, ⟨hro.symm.trans (loop_end hgo), rfl, hlgf, hm2, rfl⟩, hs.sel (is := [1, 2, 2]) rfl⟩)
             · have hgo : goesR L most pri st2 = true := by
                unfold goesR
                have h9 : (refInfix (tokA L st2.at_).str.data.toList).2.2.2 = true := by simpa using hg46
                rw [hA, Bool.true_and, h9, decide_eq_true (p := (refInfix (tokA L st2.at_).str.data.toList).2.1 ≤ most) (by have := of_decide_eq_false hg51; omega), decide_eq_true (p := pri ≤ (refInfix (tokA L st2.at_).str.data.toList).1) (by have := of_decide_eq_false hc55; omega)]
                rfl
               refine cy_skip ?_
               refine ny_next ?_
               refine cy_seq ?_
               refine cy_region ?_
               refine sy_move rfl rfl rfl ?_
               refine sy_nilCheck rfl rfl rfl ?_
               refine sy_field fld_74_1 rfl rfl rfl ?_
               first | refine sy_ldr 0 one_3 rfl rfl rfl rfl rfl ?_ | refine sy_ldr 1 one_3 rfl rfl rfl rfl rfl ?_ | refine sy_ldr 2 one_3 rfl rfl rfl rfl rfl ?_ | refine sy_ldr 3 one_3 rfl rfl rfl rfl rfl ?_ | refine sy_ldr 4 one_3 rfl rfl rfl rfl rfl ?_ | refine sy_ldr 5 one_3 rfl rfl rfl rfl rfl ?_
               refine sy_addi (z := ((st2.at_ + 1 : Nat) : Int)) rfl rfl (by omega) (by omega) (by omega) rfl rfl ?_
               have hlt := goes_lt hgo
               refine sy_nilCheck rfl rfl rfl ?_
               refine sy_field fld_74_1 rfl rfl rfl ?_
               first | refine sy_stl 0 sz_3 rfl rfl rfl rfl rfl rfl rfl rfl ?_ | refine sy_stl 1 sz_3 rfl rfl rfl rfl rfl rfl rfl rfl ?_ | refine sy_stl 2 sz_3 rfl rfl rfl rfl rfl rfl rfl rfl ?_ | refine sy_stl 3 sz_3 rfl rfl rfl rfl rfl rfl rfl rfl ?_ | refine sy_stl 4 sz_3 rfl rfl rfl rfl rfl rfl rfl rfl ?_ | refine sy_stl 5 sz_3 rfl rfl rfl rfl rfl rfl rfl rfl ?_
               refine sy_nil rfl ?_
               refine ny_next ?_
               refine cy_regionAP mixed ?_
               refine zy_qP 0 (fun c a d v w hq => by cases d <;> exact hq) rfl (by kernel_rfl) (fun hB8_0 => ?_)
               refine sy_move rfl rfl rfl ?_
               refine sy_nil1 (ny_zqP hB8_0 ?_)
               refine zy_qP 1 (fun c a d v w hq => by cases d <;> exact hq) rfl (by kernel_rfl) (fun hB8_1 => ?_)
               refine sy_field fld_65_1 rfl rfl rfl ?_
               refine sy_nil1 (ny_zqP hB8_1 ?_)
               refine zy_qP 2 (fun c a d v w hq => by cases d <;> exact hq) rfl (by kernel_rfl) (fun hB8_2 => ?_)
               refine sy_ldh one_9 rfl (Hp.blk hb8x 1 _ rfl) rfl rfl ?_
               refine sy_nil1 (ny_zqP hB8_2 ?_)
               refine zy_qP 4 (fun c a d v w hq => by cases d <;> exact hq) rfl (by kernel_rfl) (fun hB8_4 => ?_)
               refine sy_move rfl rfl rfl ?_
               refine sy_nil1 (ny_zqP hB8_4 ?_)
               refine zy_qP 5 (fun c a d v w hq => by cases d <;> exact hq) rfl (by kernel_rfl) (fun hB8_5 => ?_)
               refine sy_move rfl rfl rfl ?_
               refine sy_nil1 (ny_zqP hB8_5 ?_)
               refine zy_qP 9 (fun c a d v w hq => by cases d <;> exact hq) rfl (by kernel_rfl) (fun hB8_9 => ?_)
               refine sy_move rfl rfl rfl ?_
               refine sy_nil1 (ny_zqP hB8_9 ?_)
               refine zy_2P 3 6 (by kernel_rfl) ?_ ?_
               · refine zop_runP rfl rfl (fun hB8_3 => ?_)
                 first | refine sy_ldar 0 agg_30 rfl rfl rfl rfl rfl ?_ | refine sy_ldar 1 agg_30 rfl rfl rfl rfl rfl ?_ | refine sy_ldar 2 agg_30 rfl rfl rfl rfl rfl ?_ | refine sy_ldar 3 agg_30 rfl rfl rfl rfl rfl ?_ | refine sy_ldar 4 agg_30 rfl rfl rfl rfl rfl ?_ | refine sy_ldar 5 agg_30 rfl rfl rfl rfl rfl ?_
                 refine sy_nil rfl (ny_zyP hB8_3 (Hp.Le.refl _) ?_)
                 refine zy_1P 6 (by kernel_rfl) ?_
                 refine zop_runP rfl rfl (fun hB8_6 => ?_)
                 refine sy_callRO [0, 2, 2] call_37 rfl rfl (ihs (k - 1) (by omega) (inn + 1) (by omega) (by omega) (by omega) _ (adv st2) o2 vn2 _ hTz (by show st2.at_ + 1 ≤ _; omega) (by show st2.names.length ≤ st2.at_ + 1; omega) hm2) rfl rfl (fun a69 e69 h69x H69x hb69 hx69 hle69x => ?_) (fun x69 s69 g69 h69x H69x hk69 hx69 hle69x => ?_)
                 · obtain ⟨a9, i9, o9, v9, n9, rfl⟩ := hx69
                   refine ny_zyPP ?_
                   refine ny_blockP ?_
                   refine ny_thenP ?_
                   refine ny_blockP ?_
                   refine ny_thenP ?_
                   first
                   | exact ny_finP (fun w9 hs => ⟨.bad a69 e69, _, _, rfl, ⟨hro.symm.trans (loop_bad hgo hb69 (by omega)), _, _, _, _, _, rfl⟩, hs.sel (is := [0, 0, 0]) rfl⟩)
                   | exact ny_finP (fun w9 hs => ⟨.bad a71 e71, _, _, rfl, ⟨hro.symm.trans (loop_bad2 hgo hk69 (by rw [← hg69]; exact hb71) (by omega)), _, _, _, _, _, rfl⟩, hs.sel (is := [0, 0, 0]) rfl⟩)
                 · obtain ⟨hg69, hl69, hm69, rfl⟩ := hx69
                   replace hg69 : g69.1.tm = x69.1 := hg69
                   have hfw69 := read_fwd L lv (k - 1) _ (adv st2) x69 s69 (by show st2.at_ + 1 ≤ _; omega) hk69
                   have hww69 := read_wt L lv (k - 1) _ (adv st2) x69 s69 (by show st2.at_ + 1 ≤ _; omega) hk69
                   simp only [adv] at hfw69 hww69
                   rw [preW_succ hlt] at hww69
                   have hpw69 := hPW s69.at_
                   refine sy_nil rfl (ny_zyP hB8_6 hle69x ?_)
                   refine zy_1P 7 (by kernel_rfl) ?_
                   refine zop_runP rfl rfl (fun hB8_7 => ?_)
                   refine sy_buildSlice (cs := [g, g69.1].flatMap GT.cells) rfl (fun w => bsl_23_2_0x1 w) rfl rfl (fun b70 hb70 hM70 => ?_) (by first | exact hb0 | simp)
                   refine sy_frz 0 rfl hM70 (fun h70 hle70 hb70x => ?_)
                   have hr70 : RowsAt h70 (some ⟨b70, 0, none⟩) 4 ([g, g69.1].map GT.cells) := rows_blk (by decide) (GT.cells_len _) hb70x
                   refine sy_nil rfl (ny_zyP hB8_7 hle70 ?_)
                   refine zy_1P 8 (by kernel_rfl) ?_
                   refine zop_runP rfl rfl (fun hB8_8 => ?_)
                   refine sy_callRO [0] call_71 rfl rfl (mk_c (tokA L st2.at_).str (tokA_ok hqN st2.at_).2.1 [g, g69.1] (some ⟨b70, 0, none⟩) 2 r bm A c L lv _ ((hTz.le hle69x).le hle70) hL s69 (inn + 1) g69.2.2 hfw69.2.1 rfl hr70 (duoW (h := h70) ⟨(hlg.1.le hle69x).le hle70, hlg.2⟩ ⟨hl69.1.le hle70, hl69.2⟩ (by omega) (by rw [hg69]; omega)) (by simp) (by simp)) rfl rfl (fun a71 e71 h71x H71x hb71 hx71 hle71x => ?_) (fun x71 s71 g71 h71x H71x hk71 hx71 hle71x => ?_)
                   · subst hx71
                     refine ny_zyPP ?_
                     refine ny_blockP ?_
                     refine ny_thenP ?_
                     refine ny_blockP ?_
                     refine ny_thenP ?_
                     first
                     | exact ny_finP (fun w9 hs => ⟨.bad a69 e69, _, _, rfl, ⟨hro.symm.trans (loop_bad hgo hb69 (by omega)), _, _, _, _, _, rfl⟩, hs.sel (is := [0, 0, 0]) rfl⟩)
                     | exact ny_finP (fun w9 hs => ⟨.bad a71 e71, _, _, rfl, ⟨hro.symm.trans (loop_bad2 hgo hk69 (by rw [← hg69]; exact hb71) (by omega)), _, _, _, _, _, rfl⟩, hs.sel (is := [0, 0, 0]) rfl⟩)
                   · obtain ⟨hg71, hl71, rfl⟩ := hx71
                     have hst71 := (mkR_st hk71).symm
                     subst hst71
                     have hmw71 := mkR_wt hk71
                     rw [List.map_cons, List.map_cons, List.map_nil, wtTs_cons, wtTs_cons, wtTs_nil, hg69] at hmw71
                     refine sy_nil rfl (ny_zyP hB8_8 hle71x ?_)
                     refine zy_1P 10 (by kernel_rfl) ?_
                     refine zop_runP rfl rfl (fun hB8_10 => ?_)
                     first | refine sy_stl 0 sz_30 rfl rfl rfl rfl rfl rfl rfl rfl ?_ | refine sy_stl 1 sz_30 rfl rfl rfl rfl rfl rfl rfl rfl ?_ | refine sy_stl 2 sz_30 rfl rfl rfl rfl rfl rfl rfl rfl ?_ | refine sy_stl 3 sz_30 rfl rfl rfl rfl rfl rfl rfl rfl ?_ | refine sy_stl 4 sz_30 rfl rfl rfl rfl rfl rfl rfl rfl ?_ | refine sy_stl 5 sz_30 rfl rfl rfl rfl rfl rfl rfl rfl ?_
                     refine sy_nil rfl (ny_zyP hB8_10 (Hp.Le.refl _) ?_)
                     refine zy_qP 11 (fun c a d v w hq => by cases d <;> exact hq) rfl (by kernel_rfl) (fun hB8_11 => ?_)
                     refine sy_assign rfl rfl rfl ?_
                     refine sy_nil1 (ny_zqP hB8_11 ?_)
                     refine zy_doneP (by kernel_rfl) ?_
                     refine ny_blockN ?_
                     refine ny_roundK [0, 1, 4, 6] ⟨g71, (refInfix (tokA L st2.at_).str.data.toList).2.1, s69, g69.2.1, g69.2.2, h71x, m - 1⟩ [0, 3, 0, 0, 0] ⟨(by rw [hg71, ← loop_step hgo hk69 (by rw [← hg69]; exact hk71) (by omega)]; exact hro), (by show L.length + 1 ≤ m - 1 + s69.at_; omega), hfw69.2.1, (by show s69.names.length ≤ s69.at_; omega), hm69, (((hlez.trans hle8).trans hle69x).trans hle70).trans hle71x, hl71, (by show wtT g71.tm ≤ preW L s69.at_; rw [hg71]; omega)⟩ (by show L.length - s69.at_ < L.length - st2.at_; omega) rfl ⟨rfl, trivial⟩ rfl rfl
               · refine zop_runP rfl rfl (fun hB8_6 => ?_)
                 refine sy_callRO [0, 2, 2] call_37 rfl rfl (ihs (k - 1) (by omega) (inn + 1) (by omega) (by omega) (by omega) _ (adv st2) o2 vn2 _ hTz (by show st2.at_ + 1 ≤ _; omega) (by show st2.names.length ≤ st2.at_ + 1; omega) hm2) rfl rfl (fun a69 e69 h69x H69x hb69 hx69 hle69x => ?_) (fun x69 s69 g69 h69x H69x hk69 hx69 hle69x => ?_)
                 · obtain ⟨a9, i9, o9, v9, n9, rfl⟩ := hx69
                   refine ny_zyPP ?_
                   refine ny_blockP ?_
                   refine ny_thenP ?_
                   refine ny_blockP ?_
                   refine ny_thenP ?_
                   first
                   | exact ny_finP (fun w9 hs => ⟨.bad a69 e69, _, _, rfl, ⟨hro.symm.trans (loop_bad hgo hb69 (by omega)), _, _, _, _, _, rfl⟩, hs.sel (is := [0, 0, 0]) rfl⟩)
                   | exact ny_finP (fun w9 hs => ⟨.bad a71 e71, _, _, rfl, ⟨hro.symm.trans (loop_bad2 hgo hk69 (by rw [← hg69]; exact hb71) (by omega)), _, _, _, _, _, rfl⟩, hs.sel (is := [0, 0, 0]) rfl⟩)
                 · obtain ⟨hg69, hl69, hm69, rfl⟩ := hx69
                   replace hg69 : g69.1.tm = x69.1 := hg69
                   have hfw69 := read_fwd L lv (k - 1) _ (adv st2) x69 s69 (by show st2.at_ + 1 ≤ _; omega) hk69
                   have hww69 := read_wt L lv (k - 1) _ (adv st2) x69 s69 (by show st2.at_ + 1 ≤ _; omega) hk69
                   simp only [adv] at hfw69 hww69
                   rw [preW_succ hlt] at hww69
                   have hpw69 := hPW s69.at_
                   refine sy_nil rfl (ny_zyP hB8_6 hle69x ?_)
                   refine zy_1P 3 (by kernel_rfl) ?_
                   refine zop_runP rfl rfl (fun hB8_3 => ?_)
                   first | refine sy_ldar 0 agg_30 rfl rfl rfl rfl rfl ?_ | refine sy_ldar 1 agg_30 rfl rfl rfl rfl rfl ?_ | refine sy_ldar 2 agg_30 rfl rfl rfl rfl rfl ?_ | refine sy_ldar 3 agg_30 rfl rfl rfl rfl rfl ?_ | refine sy_ldar 4 agg_30 rfl rfl rfl rfl rfl ?_ | refine sy_ldar 5 agg_30 rfl rfl rfl rfl rfl ?_
                   refine sy_nil rfl (ny_zyP hB8_3 (Hp.Le.refl _) ?_)
                   refine zy_1P 7 (by kernel_rfl) ?_
                   refine zop_runP rfl rfl (fun hB8_7 => ?_)
                   refine sy_buildSlice (cs := [g, g69.1].flatMap GT.cells) rfl (fun w => bsl_23_2_0x1 w) rfl rfl (fun b70 hb70 hM70 => ?_) (by first | exact hb0 | simp)
                   refine sy_frz 0 rfl hM70 (fun h70 hle70 hb70x => ?_)
                   have hr70 : RowsAt h70 (some ⟨b70, 0, none⟩) 4 ([g, g69.1].map GT.cells) := rows_blk (by decide) (GT.cells_len _) hb70x
                   refine sy_nil rfl (ny_zyP hB8_7 hle70 ?_)
                   refine zy_1P 8 (by kernel_rfl) ?_
                   refine zop_runP rfl rfl (fun hB8_8 => ?_)
                   refine sy_callRO [0] call_71 rfl rfl (mk_c (tokA L st2.at_).str (tokA_ok hqN st2.at_).2.1 [g, g69.1] (some ⟨b70, 0, none⟩) 2 r bm A c L lv _ ((hTz.le hle69x).le hle70) hL s69 (inn + 1) g69.2.2 hfw69.2.1 rfl hr70 (duoW (h := h70) ⟨(hlg.1.le hle69x).le hle70, hlg.2⟩ ⟨hl69.1.le hle70, hl69.2⟩ (by omega) (by rw [hg69]; omega)) (by simp) (by simp)) rfl rfl (fun a71 e71 h71x H71x hb71 hx71 hle71x => ?_) (fun x71 s71 g71 h71x H71x hk71 hx71 hle71x => ?_)
                   · subst hx71
                     refine ny_zyPP ?_
                     refine ny_blockP ?_
                     refine ny_thenP ?_
                     refine ny_blockP ?_
                     refine ny_thenP ?_
                     first
                     | exact ny_finP (fun w9 hs => ⟨.bad a69 e69, _, _, rfl, ⟨hro.symm.trans (loop_bad hgo hb69 (by omega)), _, _, _, _, _, rfl⟩, hs.sel (is := [0, 0, 0]) rfl⟩)
                     | exact ny_finP (fun w9 hs => ⟨.bad a71 e71, _, _, rfl, ⟨hro.symm.trans (loop_bad2 hgo hk69 (by rw [← hg69]; exact hb71) (by omega)), _, _, _, _, _, rfl⟩, hs.sel (is := [0, 0, 0]) rfl⟩)
                   · obtain ⟨hg71, hl71, rfl⟩ := hx71
                     have hst71 := (mkR_st hk71).symm
                     subst hst71
                     have hmw71 := mkR_wt hk71
                     rw [List.map_cons, List.map_cons, List.map_nil, wtTs_cons, wtTs_cons, wtTs_nil, hg69] at hmw71
                     refine sy_nil rfl (ny_zyP hB8_8 hle71x ?_)
                     refine zy_1P 10 (by kernel_rfl) ?_
                     refine zop_runP rfl rfl (fun hB8_10 => ?_)
                     first | refine sy_stl 0 sz_30 rfl rfl rfl rfl rfl rfl rfl rfl ?_ | refine sy_stl 1 sz_30 rfl rfl rfl rfl rfl rfl rfl rfl ?_ | refine sy_stl 2 sz_30 rfl rfl rfl rfl rfl rfl rfl rfl ?_ | refine sy_stl 3 sz_30 rfl rfl rfl rfl rfl rfl rfl rfl ?_ | refine sy_stl 4 sz_30 rfl rfl rfl rfl rfl rfl rfl rfl ?_ | refine sy_stl 5 sz_30 rfl rfl rfl rfl rfl rfl rfl rfl ?_
                     refine sy_nil rfl (ny_zyP hB8_10 (Hp.Le.refl _) ?_)
                     refine zy_qP 11 (fun c a d v w hq => by cases d <;> exact hq) rfl (by kernel_rfl) (fun hB8_11 => ?_)
                     refine sy_assign rfl rfl rfl ?_
                     refine sy_nil1 (ny_zqP hB8_11 ?_)
                     refine zy_doneP (by kernel_rfl) ?_
                     refine ny_blockN ?_
                     refine ny_roundK [0, 1, 4, 6] ⟨g71, (refInfix (tokA L st2.at_).str.data.toList).2.1, s69, g69.2.1, g69.2.2, h71x, m - 1⟩ [0, 3, 0, 0, 0] ⟨(by rw [hg71, ← loop_step hgo hk69 (by rw [← hg69]; exact hk71) (by omega)]; exact hro), (by show L.length + 1 ≤ m - 1 + s69.at_; omega), hfw69.2.1, (by show s69.names.length ≤ s69.at_; omega), hm69, (((hlez.trans hle8).trans hle69x).trans hle70).trans hle71x, hl71, (by show wtT g71.tm ≤ preW L s69.at_; rw [hg71]; omega)⟩ (by show L.length - s69.at_ < L.length - st2.at_; omega) rfl ⟨rfl, trivial⟩ rfl rfl
end Go.Proofs.YtanhhihechakhaaDoor
set_option linter.unusedVariables false
set_option linter.unusedSimpArgs false
namespace Go.Proofs.YtanhhihechakhaaDoor.E
open Go.RowKit
section
variable {P : Program} {n : Nat} {w0 : World} {M : List Nat} {h0 : Hp} {f : Tab} {h : Hp} {H : List Res}
theorem enterRecN {X : Type} {i d1 d2 t1 t2 : Nat} {p1 p2 : String} {a1 a2 : Array Edge} {c2 : Code} {Φ : X → Hp → List Res → Prop} {F : Nat} {fn : Func} {vs : List Value} (hf : P.funcs[F]? = some fn)
    (hb : fn.body = some (.seq (.region i #[⟨some d1, .call ⟨.builtin .recover, #[], #[]⟩, t1, p1, a1, none⟩, ⟨some d2, .assign (.tmp d1), t2, p2, a2, none⟩] false) c2)) (hi : initO 0 vs = some f) (hn : Nat.ble vs.length fn.ntmps = true) (hd1 : Nat.blt d1 fn.ntmps = true) (hd2 : Nat.blt d2 fn.ntmps = true)
    (k : ∀ w, (∀ x ∈ keysOf H, x < w.heap.size) → Cy P c2 (bodyPost P fn fun e w' => ∃ x h' H', (∃ v, e = .returned v) ∧ Φ x h' H' ∧ St w (keysOf H) h h' H' w') fn.ntmps [] w (keysOf H) h ((d2, .nilIface) :: (d1, .nilIface) :: f) h H) :
    CRD P F vs .returning .returning h H Φ :=
 fun w hs ho => by
  have hst := St.startN hs ho
  refine callsD_of_wpS hf hb fun c0 cs hc0 => ?_
  have ha : Holds fn.ntmps [] f { tmps := vs.toArray ++ Array.replicate (fn.ntmps - vs.toArray.size) undef, defers := [] } := by
   refine ⟨?_, rfl, fun i v hiv => ?_⟩
   · have := Nat.le_of_ble_eq_true hn
     simp
     omega
   · obtain ⟨_, h1⟩ := initO_get hi i v hiv
     have hlt := (List.getElem?_eq_some_iff.1 h1).1
     simp only [Nat.sub_zero] at h1 hlt
     rw [Array.getElem?_append_left (by simpa using hlt)]
     simpa using h1
  refine wpS_seq (wpS_region ?_)
  have hr : ∀ ev : Operand → Value, (execOp ev ⟨some d1, .call ⟨.builtin .recover, #[], #[]⟩, t1, p1, a1, none⟩).run P w = .ok .recover w := fun ev => rfl
  have ha1 := ha.put d1 .nilIface hd1
  have hev := ha1.ev (v := .nilIface) (x := .tmp d1) (by simp [Tab.ev, Tab.get])
  have hrec : recoverD (c0 :: cs) = none := by simp [recoverD, hc0]
  show wpOpsS P _ _ [0, 1] _ _ _
  generalize hA0 : ({ tmps := vs.toArray ++ Array.replicate (fn.ntmps - vs.toArray.size) undef, defers := [] } : Act) = A0 at ha ha1 hev ⊢
  simp only [wpOpsS, List.getElem?_toArray, List.getElem?_cons_zero, List.getElem?_cons_succ, Region.wanted, if_true, hr, hrec]
  have h2 : (execOp (A0.put (some d1) .nilIface).eval ⟨some d2, .assign (.tmp d1), t2, p2, a2, none⟩).run P w = .ok (.value .nilIface) w := by
   simp [execOp, hev]
  rw [h2]
  refine wpS_of_wp (wp_mono (k w ho.lt _ w (ha1.put d2 .nilIface hd2) hst) ?_)
  intro e a' w' hq
  have hfr : ∃ c', (c0 :: cs) = c' :: cs ∧ c'.mode = .returning := ⟨c0, rfl, hc0⟩
  cases e with
  | normal =>
   obtain ⟨h1, v', h3, x, h', H', h4, h5, h6⟩ := hq
   exact ⟨h1, _, rfl, v', h3, x, h', H', hc0, h4, h5, h6⟩
  | ret =>
   obtain ⟨h1, v', h3, x, h', H', h4, h5, h6⟩ := hq
   exact ⟨h1, _, rfl, v', h3, x, h', H', hc0, h4, h5, h6⟩
  | panic ch =>
   obtain ⟨h1, x, h', H', ⟨v', h4⟩, h5, h6⟩ := hq
   cases h4
  | exit i => exact hq.elim
  | goto i => exact hq.elim
  | outgrown =>
   obtain ⟨x, h', H', ⟨v', h4⟩, h5, h6⟩ := hq
   cases h4
theorem enterXD {X : Type} {rv : X → Value} {Φ : X → Hp → Prop} {F : Nat} {fn : Func} {c : Code} {vs : List Value} (hf : P.funcs[F]? = some fn) (hb : fn.body = some c) (hi : initO 0 vs = some f) (hn : Nat.ble vs.length fn.ntmps = true)
    (k : ∀ w, Cy P c (bodyPostD P fn fun e w' => ∃ x h', e = .returned (rv x) ∧ Φ x h' ∧ Grow h w h' w') fn.ntmps [] w [] h f h []) : CX P F vs h rv Φ := fun w hs => enterMD' hf hb hi hn (St.start hs []) (k w)
theorem resc4 {fn : Func} {t1 t2 t3 t4 y1 y2 y3 y4 e1 e2 e3 e4 l : Nat} {f1 f2 f3 f4 : Nat × Nat} {b1 b2 b3 b4 : Nat} {cs vs : List Value} {v2 v3 v4 : Value} {H1 H2 H3 H4 : List Res} (i1 i2 i3 i4 : Nat) (hr : fn.results = #[.cell t1 y1, .cell t2 y2, .cell t3 y3, .cell t4 y4]) (g1 : aggB P y1 l = true) (g2 : oneB P y2 = true) (g3 : oneB P y3 = true) (g4 : oneB P y4 = true)
    (k1 : f.get t1 = some (.pointer (some ⟨b1, 0, none⟩))) (k2 : f.get t2 = some (.pointer (some ⟨b2, 0, none⟩))) (k3 : f.get t3 = some (.pointer (some ⟨b3, 0, none⟩))) (k4 : f.get t4 = some (.pointer (some ⟨b4, 0, none⟩)))
    (p1 : pickR i1 H = some (.blk b1 (.cells cs.toArray e1 f1), H1)) (p2 : pickR i2 H = some (.blk b2 (.cells [v2].toArray e2 f2), H2)) (p3 : pickR i3 H = some (.blk b3 (.cells [v3].toArray e3 f3), H3)) (p4 : pickR i4 H = some (.blk b4 (.cells [v4].toArray e4 f4), H4)) (hc : sliceO 0 l cs = some vs) :
    ∀ a w, Holds n [] f a → St w0 M h0 h H w → (results fn a.tmps).run P w = .ok (.tuple #[.agg vs.toArray, v2, v3, v4]) w := fun a w ha hs => by
 have h1 := ha.get t1 _ k1
 have h2 := ha.get t2 _ k2
 have h3 := ha.get t3 _ k3
 have h4 := ha.get t4 _ k4
 have hb1 : w.heap[b1]? = some (.cells cs.toArray e1 f1) := (hs.swap (pickR_perm p1)).ok _ (List.mem_cons_self)
 have hb2 : w.heap[b2]? = some (.cells [v2].toArray e2 f2) := (hs.swap (pickR_perm p2)).ok _ (List.mem_cons_self)
 have hb3 : w.heap[b3]? = some (.cells [v3].toArray e3 f3) := (hs.swap (pickR_perm p3)).ok _ (List.mem_cons_self)
 have hb4 : w.heap[b4]? = some (.cells [v4].toArray e4 f4) := (hs.swap (pickR_perm p4)).ok _ (List.mem_cons_self)
 obtain ⟨h5, h6⟩ := agg_spec g1 w
 obtain ⟨h7, h8⟩ := sliceO_spec hc
 subst h7
 have ho2 := one_spec g2 w
 have ho3 := one_spec g3 w
 have ho4 := one_spec g4 w
 have c2 : w.cell? ⟨b2, 0, none⟩ = some v2 := by simp [World.cell?, hb2]
 have c3 : w.cell? ⟨b3, 0, none⟩ = some v3 := by simp [World.cell?, hb3]
 have c4 : w.cell? ⟨b4, 0, none⟩ = some v4 := by simp [World.cell?, hb4]
 have hl := run_loadCells_list (P := P) w ⟨b1, 0, none⟩ vs (fun j u hj => by
  rw [Addr.add_at]
  have := h8 j u hj
  simp only [Nat.zero_add] at this ⊢
  simp [World.cell?, hb1, this])
 simp [results, hr, h1, h2, h3, h4, asAddr, loadVar, h5, h6, hl, ho2, ho3, ho4, c2, c3, c4]
end
section
variable {m : Md} {P : Program} {ops : Array Oper} {Q : Exit → Act → World → Prop} {n : Nat} {D : List Deferred} {w0 : World} {M : List Nat} {h0 : Hp}
variable {f : Tab} {h : Hp} {H : List Res} {rest : List Oper} {d t s : Nat} {p : String} {af : Array Edge} {g : Option (Nat × Bool)}
theorem sy_fieldv {x : Operand} {vx v : Value} {xT fi : Nat} (hx : f.ev x = some vx) (hr : ∀ w, (Instr.field xT vx fi).run P w = .ok v w) (hw : gok ops f g = some true) (hn : Nat.blt d n = true)
    (k : Sy m P ops Q n D w0 M h0 rest ((d, v) :: f) h H) : Sy m P ops Q n D w0 M h0 (⟨some d, .field xT x fi, t, p, af, g⟩ :: rest) f h H :=
 sy_val hw rfl hn (fun a w ha _ => by simp [execOp, ha.ev hx, hr]) k
theorem cy_rowform {c : Code} {v : Value} {e sz l : Nat} {xs : List Value} {H1 : List Res} (i : Nat) (hp : pickR i H = some (.row v e sz l xs, H1)) (k : ∀ A cc, v = .slice A l cc → Cy P c Q n D w0 M h0 f h H) : Cy P c Q n D w0 M h0 f h H := fun a w ha hs => by
 have hr : w.ownsRow 0 e sz v l xs := (hs.swap (pickR_perm hp)).ok _ (List.mem_cons_self)
 rcases hr.2 with ⟨rfl, rfl⟩ | ⟨g, cap, cur, rfl, _⟩
 · exact k none 0 rfl a w ha hs
 · exact k _ cap rfl a w ha hs
end
end Go.Proofs.YtanhhihechakhaaDoor.E
set_option linter.unusedVariables false
set_option linter.unusedSimpArgs false
namespace Go.Proofs.YtanhhihechakhaaDoor.ReadP
open Go.RowKit Go.Proofs.YtanhhihechakhaaDoor.E Go.Proofs.YtanhhihechakhaaDoor.TokP Go.Proofs.YtanhhihechakhaaDoor.TermP Go.Proofs.YtanhhihechakhaaDoor.WrP Go.Proofs.YtanhhihechakhaaDoor.OpsP
theorem varsF_cons (l : List Int) (p : Tm) (ps : List Tm) : varsF l (p :: ps) = varsF (if p.k = 1 ∧ ¬ l.contains p.n = true then l ++ [p.n] else l) ps := rfl
theorem varsF_skip {p : Tm} (l : List Int) (ps : List Tm) (h : ¬ p.k = 1) : varsF l (p :: ps) = varsF l ps := by
 rw [varsF_cons, if_neg (fun h9 => h h9.1)]
theorem vf_fun (l : List Int) (s : ByteArray) (k : List Tm) : varsF l (partsT (funT s k)) = varsF l (partsTs k) := by
 unfold funT
 rw [parts_mk, varsF_skip _ _ (by show ¬ (3 : Int) = 1; decide)]
theorem vf_one (l : List Int) (x : Tm) : varsF l (partsTs [x]) = varsF l (partsT x) := by
 rw [partsTs_cons, partsTs_nil, List.append_nil]
def allA (lv : Int) (l : List UInt8) : RA := match scanA l with
 | .bad a w e => .bad a e
 | .ok ts => allS (ts.map rtOf) lv (ts.length + 1) 0 []
end Go.Proofs.YtanhhihechakhaaDoor.ReadP
set_option linter.unusedVariables false
set_option linter.unusedSimpArgs false
namespace Go.Proofs.YtanhhihechakhaaDoor.ReadP
open Go.RowKit Go.Proofs.YtanhhihechakhaaDoor.E Go.Proofs.YtanhhihechakhaaDoor.TokP Go.Proofs.YtanhhihechakhaaDoor.TermP Go.Proofs.YtanhhihechakhaaDoor.WrP Go.Proofs.YtanhhihechakhaaDoor.OpsP
def StopR (t : RT) : Prop := t.kind = 0 ∨ t.kind = 5 ∨ (t.kind = 4 ∧ t.str.data.toList = [41])
/-! sentences -/
theorem readS_ok {L : List RT} {lv : Int} {i : Nat} {x : Tm} {s : RSt} (h : readS L lv i = .ok x s) : ∃ p s2, readT L lv 60 1200 ⟨i, []⟩ = .ok (x, p) s2 ∧ (tokA L s2.at_).kind = 5 ∧ chkT lv x = 0 ∧ s = adv s2 := by
 unfold readS at h
 split at h
 · cases h
 · rename_i y s2 h2
   split at h
   · rename_i hk
     split at h
     · rename_i hc
       cases h
       exact ⟨y.2, s2, h2, hk, hc, rfl⟩
     · cases h
   · cases h
theorem readS_of {L : List RT} {lv : Int} {i : Nat} {x : Tm × Int} {s2 : RSt} (h : readT L lv 60 1200 ⟨i, []⟩ = .ok x s2) (hk : (tokA L s2.at_).kind = 5) (hc : chkT lv x.1 = 0) : readS L lv i = .ok x.1 (adv s2) := by
 unfold readS
 rw [h]
 simp only
 rw [if_pos hk, if_pos hc]
theorem readS_fwd {L : List RT} {lv : Int} {i : Nat} {x : Tm} {s : RSt} (hi : i ≤ L.length) (h : readS L lv i = .ok x s) : i + 1 < s.at_ ∧ s.at_ ≤ L.length := by
 obtain ⟨p, s2, h1, h2, h3, rfl⟩ := readS_ok h
 have h4 := read_fwd L lv 60 _ _ _ _ hi h1
 have h5 := tok_lt (L := L) (i := s2.at_) (by rw [h2]; decide)
 simp only [adv] at h4 ⊢
 omega
end Go.Proofs.YtanhhihechakhaaDoor.ReadP
set_option linter.unusedVariables false
set_option linter.unusedSimpArgs false
namespace Go.Proofs.YtanhhihechakhaaDoor.ReadP
open Go.RowKit Go.Proofs.YtanhhihechakhaaDoor.E Go.Proofs.YtanhhihechakhaaDoor.TokP Go.Proofs.YtanhhihechakhaaDoor.TermP Go.Proofs.YtanhhihechakhaaDoor.WrP Go.Proofs.YtanhhihechakhaaDoor.OpsP
inductive Sents (L : List RT) (lv : Int) : Nat → List Tm → Prop
 | done {i : Nat} (h : L.length ≤ i) : Sents L lv i []
 | more {i : Nat} {x : Tm} {s : RSt} {l : List Tm} (h : i < L.length) (hr : readS L lv i = .ok x s) (k : Sents L lv s.at_ l) : Sents L lv i (x :: l)
theorem sents_all {L : List RT} {lv : Int} {i : Nat} {l : List Tm} (hs : Sents L lv i l) : ∀ (k : Nat) (acc : List Tm), i ≤ L.length → L.length + 1 ≤ k + i → allS L lv k i acc = .ok (acc ++ l) := by
 induction hs with
 | done h =>
  intro k acc hi hk
  obtain ⟨k, rfl⟩ : ∃ m, k = m + 1 := ⟨k - 1, by omega⟩
  unfold allS
  rw [if_pos h, List.append_nil]
 | @more i x s l h hr _ ih =>
  intro k acc hi hk
  obtain ⟨k, rfl⟩ : ∃ m, k = m + 1 := ⟨k - 1, by omega⟩
  have hf := readS_fwd hi hr
  unfold allS
  rw [if_neg (by omega), hr]
  simp only
  rw [ih k (acc ++ [x]) hf.2 (by omega), List.append_assoc]
  rfl
theorem allA_of {lv : Int} {t : List UInt8} {ts : List Tk} {l : List Tm} (hl : t.length ≤ 4096) (hx : Lx false t ts) (hs : Sents (ts.map rtOf) lv 0 l) : allA lv t = .ok l := by
 unfold allA
 rw [scan_ok hl hx]
 simp only
 rw [sents_all hs (ts.length + 1) [] (Nat.zero_le _) (by rw [List.length_map]; omega), List.nil_append]
theorem allA_bad {lv : Int} {t : List UInt8} {ts : List Tk} {a : Nat} {e : Int} (hl : t.length ≤ 4096) (hx : Lx false t ts) (h0 : 0 < ts.length) (hs : readS (ts.map rtOf) lv 0 = .bad a e) : allA lv t = .bad a e := by
 unfold allA
 rw [scan_ok hl hx]
 simp only
 unfold allS
 rw [if_neg (by rw [List.length_map]; omega), hs]
end Go.Proofs.YtanhhihechakhaaDoor.ReadP
set_option linter.unusedVariables false
set_option linter.unusedSimpArgs false
namespace Go.Proofs.YtanhhihechakhaaDoor.ReadP
open Go.RowKit Go.Proofs.YtanhhihechakhaaDoor.E Go.Proofs.YtanhhihechakhaaDoor.ReplP Go.Proofs.YtanhhihechakhaaDoor.TokP Go.Proofs.YtanhhihechakhaaDoor.TermP Go.Proofs.YtanhhihechakhaaDoor.WrP Go.Proofs.YtanhhihechakhaaDoor.OpsP
theorem pad_blank {p : List UInt8} (h : p.all blankB = true) : padB p := by
 induction p with
 | nil => exact pad_nil
 | cons c p ih =>
  rw [List.all_cons, Bool.and_eq_true] at h
  exact pad_sp (by
   intro h9
   have h1 := h.1
   rw [h9] at h1
   exact absurd h1 (by decide)) h.1 (ih h.2)
theorem ends_blank {c : UInt8} (h : ¬ c = 46) (l : List UInt8) : endsB (c :: l) = false := by
 have e : pointB (c :: l) = false := by
  show (c == 46) = false
  exact beq_eq_false_iff_ne.2 h
 unfold endsB
 rw [e, Bool.false_and]
theorem lx_pad1 {p x : List UInt8} {ts : List Tk} (hp : padB p) (h1 : 1 ≤ p.length) (b : Bool) (h : Lx false x ts) : Lx b (p ++ x) ts := by
 cases h with
 | done h => exact .done (by rw [hp, h, List.length_append])
 | tok h hr ha he k =>
  have e : (decide (skipN x = 0) && false) = (decide (skipN (p ++ x) = 0) && b) := by
   rw [hp, Bool.and_false, decide_eq_false (by omega), Bool.false_and]
  rw [e]
  exact .tok (pad_ne hp h) (by rw [pad_drop hp]; exact hr) ha he k
end Go.Proofs.YtanhhihechakhaaDoor.ReadP
set_option linter.unusedVariables false
set_option linter.unusedSimpArgs false
namespace Go.Proofs.YtanhhihechakhaaDoor.ReadP
open Go.RowKit Go.Proofs.YtanhhihechakhaaDoor.E Go.Proofs.YtanhhihechakhaaDoor.ReplP Go.Proofs.YtanhhihechakhaaDoor.TokP Go.Proofs.YtanhhihechakhaaDoor.TermP Go.Proofs.YtanhhihechakhaaDoor.WrP Go.Proofs.YtanhhihechakhaaDoor.OpsP
def OkB {α : Type} (r : RO α) : Prop := ∀ a e, r = .bad a e → 1 ≤ e ∧ e ≤ 7
section
variable {L : List RT} {lv : Int} {tm : Rd}
theorem okb_ok {α : Type} (x : α) (s : RSt) : OkB (.ok x s) := fun a e h => by cases h
theorem okb_bad {α : Type} (a : Nat) {e : Int} (h : 1 ≤ e ∧ e ≤ 7) : OkB (.bad a e : RO α) := fun a e h => by cases h; assumption
theorem okb_at {α β : Type} {r : RO α} {a : Nat} {e : Int} (h : OkB r) (he : r = .bad a e) : OkB (.bad a e : RO β) := okb_bad a (h a e he)
theorem mk_okb (s : ByteArray) (l : List Tm) (st : RSt) : OkB (mkR lv s l st) := by
 unfold mkR
 split
 · split
   · split
     · exact okb_ok _ _
     · exact okb_bad _ (by decide)
   · exact okb_ok _ _
 · exact okb_ok _ _
theorem want_okb {α : Type} (c : List UInt8) (x : α) (st : RSt) : OkB (wantR L c x st) := by
 unfold wantR
 split
 · exact okb_ok _ _
 · exact okb_bad _ (by decide)
theorem map_okb {α β : Type} (f : α → β) {r : RO α} (h : OkB r) : OkB (mapR f r) := fun a e he => by
 cases r with
 | ok x s => cases he
 | bad b c => cases he; exact h _ _ rfl
theorem more_okb (ht : ∀ most st, OkB (tm most st)) : ∀ (n : Nat) (acc : List Tm) (st : RSt), OkB (moreR L tm n acc st)
 | 0, acc, st => okb_ok _ _
 | n + 1, acc, st => by
  unfold moreR
  split
  · split
    · exact more_okb ht n _ _
    · rename_i a e h; exact okb_at (ht _ _) h
  · exact okb_ok _ _
theorem args_okb (ht : ∀ most st, OkB (tm most st)) (st : RSt) : OkB (argsR L tm st) := by
 unfold argsR
 split
 · exact more_okb ht _ _ _
 · rename_i a e h; exact okb_at (ht _ _) h
theorem list_okb (ht : ∀ most st, OkB (tm most st)) (st : RSt) : OkB (listR L tm st) := by
 unfold listR
 split
 · exact okb_ok _ _
 · split
   · rename_i a e h; exact okb_at (args_okb ht _) h
   · split
     · split
       · exact want_okb _ _ _
       · rename_i a e h; exact okb_at (ht _ _) h
     · exact want_okb _ _ _
theorem name_okb (ht : ∀ most st, OkB (tm most st)) (t : RT) (most : Int) (st : RSt) : OkB (nameR L lv tm t most st) := by
 unfold nameR
 split
 · split
   · rename_i a e h; exact okb_at (args_okb ht _) h
   · split
     · rename_i a e h; exact okb_at (want_okb _ _ _) h
     · exact map_okb _ (mk_okb _ _ _)
 · split
   · exact okb_ok _ _
   · split
     · exact okb_ok _ _
     · split
       · split
         · rename_i a e h; exact okb_at (ht _ _) h
         · exact map_okb _ (mk_okb _ _ _)
       · exact okb_ok _ _
theorem first_okb (ht : ∀ most st, OkB (tm most st)) (most : Int) (st : RSt) : OkB (firstR L lv tm most st) := by
 unfold firstR
 split
 · exact okb_bad _ (by decide)
 · split
   · exact okb_ok _ _
   · split
     · exact okb_ok _ _
     · split
       · exact name_okb ht _ _ _
       · split
         · split
           · rename_i a e h; exact okb_at (ht _ _) h
           · exact want_okb _ _ _
         · split
           · exact map_okb _ (list_okb ht _)
           · exact okb_bad _ (by decide)
theorem loop_okb (ht : ∀ most st, OkB (tm most st)) (most : Int) : ∀ (n : Nat) (x : Tm) (pri : Int) (st : RSt), OkB (loopR L lv tm most n x pri st)
 | 0, x, pri, st => okb_ok _ _
 | n + 1, x, pri, st => by
  unfold loopR
  split
  · split
    · rename_i a e h; exact okb_at (ht _ _) h
    · split
      · rename_i a e h; exact okb_at (mk_okb _ _ _) h
      · exact loop_okb ht most n _ _ _
  · exact okb_ok _ _
end
theorem read_okb (L : List RT) (lv : Int) : ∀ (k : Nat) (most : Int) (st : RSt), OkB (readT L lv k most st) := fun k => by
 induction k using Nat.strongRecOn with
 | _ k ih =>
  match k, ih with
  | 0, _ => intro most st; rw [readT]; exact okb_bad _ (by decide)
  | 1, _ => intro most st; rw [readT]; exact okb_bad _ (by decide)
  | k + 2, ih =>
   intro most st
   simp only [readT]
   split
   · rename_i a e h; exact okb_at (first_okb (ih k (by omega)) _ _) h
   · exact loop_okb (ih (k + 1) (by omega)) _ _ _ _ _
theorem chk_range (lv : Int) (t : Tm) : 0 ≤ chkT lv t ∧ chkT lv t ≤ 7 := by
 unfold chkT
 split
 · decide
 · split
   · decide
   · split <;> decide
theorem readS_okb (L : List RT) (lv : Int) (i : Nat) : OkB (readS L lv i) := by
 unfold readS
 split
 · rename_i a e h; exact okb_at (read_okb _ _ _ _ _) h
 · rename_i x s2 h
   split
   · split
     · exact okb_ok _ _
     · rename_i hc
       have := chk_range lv x.1
       exact okb_bad _ (by omega)
   · exact okb_bad _ (by decide)
theorem pad32 : padB [32] := pad_blank (by decide)
end Go.Proofs.YtanhhihechakhaaDoor.ReadP
set_option linter.unusedVariables false
set_option linter.unusedSimpArgs false
namespace Go.Proofs.YtanhhihechakhaaDoor.ReadP
open Go.RowKit Go.Proofs.YtanhhihechakhaaDoor.E Go.Proofs.YtanhhihechakhaaDoor.ReplP Go.Proofs.YtanhhihechakhaaDoor.TokP Go.Proofs.YtanhhihechakhaaDoor.TermP Go.Proofs.YtanhhihechakhaaDoor.WrP Go.Proofs.YtanhhihechakhaaDoor.OpsP
section
variable {L : List RT} {lv : Int} {i : Nat} {t : RT} {r : List RT}
theorem dr_lt (h : L.drop i = t :: r) : i < L.length := by
 rcases Nat.lt_or_ge i L.length with h1 | h1
 · exact h1
 · rw [List.drop_eq_nil_of_le h1] at h; cases h
theorem dr_tok (h : L.drop i = t :: r) : tokA L i = t := by
 have hl := dr_lt h
 rw [List.drop_eq_getElem_cons hl] at h
 unfold tokA
 rw [List.getElem?_eq_getElem hl]
 exact (List.cons.inj h).1
theorem dr_next (h : L.drop i = t :: r) : L.drop (i + 1) = r := by
 have hl := dr_lt h
 rw [List.drop_eq_getElem_cons hl] at h
 exact (List.cons.inj h).2
def pT (t : RT) (c : List UInt8) : Bool := (t.kind == 4) && (t.str.data.toList == c)
theorem dr_p (h : L.drop i = t :: r) (c : List UInt8) : isP L i c = pT t c := by
 unfold isP pT
 rw [dr_tok h]
def goT (t : RT) (most pri : Int) : Bool := ((t.kind == 1) && !t.quo || pT t [44]) && ((refInfix t.str.data.toList).2.2.2 && decide ((refInfix t.str.data.toList).2.1 ≤ most) && decide (pri ≤ (refInfix t.str.data.toList).1))
theorem dr_goes (h : L.drop i = t :: r) (most pri : Int) (n : List ByteArray) : goesR L most pri ⟨i, n⟩ = goT t most pri := by
 unfold goesR goT
 rw [dr_p (i := i) h, dr_tok (i := i) h]
theorem loop_stop {tm : Rd} {most pri : Int} {st : RSt} (h : goesR L most pri st = false) (n : Nat) (x : Tm) : loopR L lv tm most n x pri st = .ok (x, pri) st := by
 cases n with
 | zero => rfl
 | succ m => unfold loopR; rw [if_neg (by rw [h]; decide)]
theorem loop_go {tm : Rd} {most pri : Int} {st s2 s3 : RSt} {x z : Tm} {y : Tm × Int} {n : Nat} (hp : goesR L most pri st = true) (hk : tm (refInfix (tokA L st.at_).str.data.toList).2.2.1 (adv st) = .ok y s2) (hm : mkR lv (tokA L st.at_).str [x, y.1] s2 = .ok z s3) : loopR L lv tm most (n + 1) x pri st = loopR L lv tm most n z (refInfix (tokA L st.at_).str.data.toList).2.1 s3 := by
 conv => lhs; unfold loopR
 rw [if_pos hp, hk]
 simp only
 rw [hm]
theorem read_first {k : Nat} {most : Int} {st s2 : RSt} {x : Tm} {p : Int} (h : firstR L lv (readT L lv k) most st = .ok (x, p) s2) (hg : goesR L most p s2 = false) : readT L lv (k + 2) most st = .ok (x, p) s2 := by
 simp only [readT]
 rw [h]
 exact loop_stop hg _ _
theorem read_loop {k : Nat} {most : Int} {st s2 : RSt} {x : Tm} {p : Int} (h : firstR L lv (readT L lv k) most st = .ok (x, p) s2) : readT L lv (k + 2) most st = loopR L lv (readT L lv (k + 1)) most (L.length + 1) x p s2 := by
 simp only [readT]
 rw [h]
theorem read_firstbad {k : Nat} {most : Int} {st : RSt} {a : Nat} {e : Int} (h : firstR L lv (readT L lv k) most st = .bad a e) : readT L lv (k + 2) most st = .bad a e := by
 simp only [readT]
 rw [h]
theorem first_num {tm : Rd} {most : Int} {n : List ByteArray} (h : L.drop i = t :: r) (hk : t.kind = 3) (h0 : 0 ≤ t.num) : firstR L lv tm most ⟨i, n⟩ = .ok (numT t.num, 0) ⟨i + 1, n⟩ := by
 unfold firstR
 rw [dr_tok (i := i) h, if_neg (fun h9 => by omega), if_pos hk]
 rfl
theorem first_var {tm : Rd} {most : Int} {n : List ByteArray} (h : L.drop i = t :: r) (hk : t.kind = 2) : firstR L lv tm most ⟨i, n⟩ = .ok ((varR t.str ⟨i + 1, n⟩).1, 0) (varR t.str ⟨i + 1, n⟩).2 := by
 unfold firstR
 rw [dr_tok (i := i) h, if_neg (fun h9 => by omega), if_neg (by omega), if_pos hk]
 rfl
theorem first_name {tm : Rd} {most : Int} {n : List ByteArray} (h : L.drop i = t :: r) (hk : t.kind = 1) : firstR L lv tm most ⟨i, n⟩ = nameR L lv tm t most ⟨i + 1, n⟩ := by
 unfold firstR
 rw [dr_tok (i := i) h, if_neg (fun h9 => by omega), if_neg (by omega), if_neg (by omega), if_pos hk]
 rfl
theorem name_atom {tm : Rd} {most : Int} {n : List ByteArray} {t u : RT} {r : List RT} (h : L.drop i = u :: r) (h1 : pT u [40] = false) (h2 : ¬ u.kind = 3) (h3 : beginsR u = false) : nameR L lv tm t most ⟨i, n⟩ = .ok (funT t.str [], 0) ⟨i, n⟩ := by
 have p1 : isP L i [40] = false := by rw [dr_p h]; exact h1
 unfold nameR
 rw [dr_tok (i := i) h, if_neg (fun h9 => by have := h9.2; rw [show isP L (⟨i, n⟩ : RSt).at_ [40] = false from p1] at this; cases this)]
 split
 · rfl
 · rw [if_neg (fun h9 => h2 h9.2.2), if_neg (fun h9 => by have := h9.2.2; rw [h3] at this; cases this)]
theorem name_args {tm : Rd} {most : Int} {n : List ByteArray} {t u : RT} {r : List RT} {l : List Tm} {s2 : RSt} (h : L.drop i = u :: r) (h1 : u.tight = true) (h2 : pT u [40] = true) (ha : argsR L tm ⟨i + 1, n⟩ = .ok l s2) (hw : isP L s2.at_ [41] = true) : nameR L lv tm t most ⟨i, n⟩ = mapR (·, 0) (mkR lv t.str l (adv s2)) := by
 have p1 : isP L i [40] = true := by rw [dr_p h]; exact h2
 have e : wantR L [41] l s2 = .ok l (adv s2) := by unfold wantR; rw [if_pos hw]
 unfold nameR
 rw [dr_tok (i := i) h, if_pos ⟨h1, p1⟩]
 have ea : adv (⟨i, n⟩ : RSt) = ⟨i + 1, n⟩ := rfl
 rw [ea, ha]
 simp only
 rw [e]
theorem mk_fun {s : ByteArray} {l : List Tm} {st : RSt} (h : ¬ (s = atS ∧ l.length = 2)) : mkR lv s l st = .ok (funT s l) st := by
 unfold mkR
 split
 · rw [if_neg (fun h9 => h ⟨h9, rfl⟩)]
 · rfl
theorem more_one {tm : Rd} {n : Nat} {acc : List Tm} {st s2 : RSt} {x : Tm × Int} (hp : isP L st.at_ [44] = true) (hk : tm 999 (adv st) = .ok x s2) : moreR L tm (n + 1) acc st = moreR L tm n (acc ++ [x.1]) s2 := by
 conv => lhs; unfold moreR
 rw [if_pos hp, hk]
theorem more_stop {tm : Rd} {n : Nat} {acc : List Tm} {st : RSt} (hp : isP L st.at_ [44] = false) : moreR L tm n acc st = .ok acc st := by
 cases n with
 | zero => rfl
 | succ m => unfold moreR; rw [if_neg (by rw [hp]; decide)]
end
/-! a whole text that is one sentence -/
theorem whole_ok {lv : Int} {L : List RT} {x : Tm} {p : Int} {s2 : RSt} (h : readT L lv 60 1200 ⟨0, []⟩ = .ok (x, p) s2) (hk : (tokA L s2.at_).kind = 5) (hc : chkT lv x = 0) (hl : L.length = s2.at_ + 1) : Sents L lv 0 [x] :=
 .more (by omega) (readS_of (x := (x, p)) h hk hc) (.done (by show L.length ≤ s2.at_ + 1; omega))
/-! texts' tokens, as the reader sees them -/
def LxR (b : Bool) (l : List UInt8) (rs : List RT) : Prop := ∃ ts, Lx b l ts ∧ ts.map rtOf = rs
theorem lxr_nil (b : Bool) : LxR b [] [] := ⟨[], .done (by rw [skip_nil]; rfl), rfl⟩
theorem lxr_sp {b : Bool} {x : List UInt8} {rs : List RT} (h : LxR false x rs) : LxR b (32 :: x) rs := by
 obtain ⟨ts, h1, h2⟩ := h
 exact ⟨ts, lx_pad1 (p := [32]) pad32 (by decide) b h1, h2⟩
theorem lxr_tok {b : Bool} {c : UInt8} {x : List UInt8} {a : Ans} {y : List UInt8} {rs : List RT} (h37 : ¬ c = 37) (hb : blankB c = false) (ha : one1 (c :: x) = a) (he : errA a = none) (hd : (c :: x).drop a.used = y) (hk : LxR true y rs) : LxR b (c :: x) (⟨a.kind, a.str, a.num, a.quo, b⟩ :: rs) := by
 obtain ⟨ts, h1, h2⟩ := hk
 have hz := skip_zero (t := x) h37 hb
 subst hd
 have h3 := Lx.tok (b := b) (l := c :: x) (r := c :: x) (a := a) (ts := ts) (by rw [hz]; simp) (by rw [hz]; rfl) ha.symm he h1
 have e : (decide (skipN (c :: x) = 0) && b) = b := by rw [hz]; rfl
 rw [e] at h3
 exact ⟨_, h3, by rw [List.map_cons, h2]; rfl⟩
def pnR (c : UInt8) (b : Bool) : RT := ⟨4, ⟨#[c]⟩, 0, false, b⟩
theorem punct_kind : ∀ c ∈ punctL, ¬ c = 37 ∧ blankB c = false ∧ smallB c = false ∧ bigB c = false ∧ digitB c = false ∧ ((c.toNat : Int) == 39) = false := by decide
theorem lxr_punct {b : Bool} {c : UInt8} {x : List UInt8} {rs : List RT} (hc : c ∈ punctL) (hk : LxR true x rs) : LxR b (c :: x) (pnR c b :: rs) := by
 obtain ⟨h1, h2, h3, h4, h5, h6⟩ := punct_kind c hc
 have ha : one1 (c :: x) = .tok 4 ⟨#[c]⟩ 0 false 1 := by
  show oneC c (c :: x) = _
  unfold oneC
  rw [h3, h4, h5, h6, if_neg (by decide), if_neg (by decide), if_neg (by decide), if_neg (by decide), if_pos (by rw [List.contains_eq_mem, decide_eq_true_iff]; exact hc)]
  rfl
 exact lxr_tok h1 h2 ha rfl rfl hk
def digR (n : Nat) (b : Bool) : RT := ⟨3, ⟨#[]⟩, (n : Int), false, b⟩
def digC (n : Nat) : UInt8 := UInt8.ofNat (48 + n)
theorem wrap_dig : ∀ n < 10, IntKind.i64.wrap ((n : Nat) : Int) = ((n : Nat) : Int) := by decide
theorem lxr_digit {b : Bool} {n : Nat} {x : List UInt8} {rs : List RT} (hn : n < 10) (hx : runB digitB x = 0) (hd : dotB x[0]? = false ∨ digO x[1]? = false) (hk : LxR true x rs) : LxR b (digC n :: x) (digR n b :: rs) := by
 have h1 : digitB (digC n) = true := fig_digit hn
 have h2 := digit_kind (c := digC n) h1
 have hr : runB digitB (digC n :: x) = 1 := by rw [runB_yes h1, hx]
 have hf : figs (digC n :: x) = [digC n] := by unfold figs; rw [hr]; rfl
 have hv : valN [digC n] = n := by
  show 10 * 0 + ((digC n).toNat - 48) = n
  have := fig_byte hn
  show 10 * 0 + ((UInt8.ofNat (48 + n)).toNat - 48) = n
  omega
 have hdt : dottedB (digC n :: x) 1 = false := by
  unfold dottedB
  rw [List.getElem?_cons_succ, List.getElem?_cons_succ]
  rcases hd with h | h <;> rw [h] <;> simp
 have ha : one1 (digC n :: x) = .tok 3 ⟨#[]⟩ ((n : Nat) : Int) false 1 := by
  rw [one_digit h1]
  unfold numA
  rw [hr, hdt, if_neg (by decide), hf, hv, if_neg (by omega), wrap_dig n hn]
 exact lxr_tok h2.1 h2.2.1 ha rfl rfl hk
def endR (b : Bool) : RT := ⟨5, ⟨#[46]⟩, 0, false, b⟩
theorem lxr_end (b : Bool) : LxR b [46] [endR b] := by
 have ha : one1 [46] = .tok 5 ⟨#[46]⟩ 0 false 1 := by kernel_rfl
 exact lxr_tok (by decide) (by decide) ha (by decide) rfl (lxr_nil true)
def namR (l : List UInt8) (b : Bool) : RT := ⟨1, ⟨l.toArray⟩, 0, false, b⟩
theorem lxr_sign {b : Bool} {c : UInt8} {x : List UInt8} {rs : List RT} (hc : signB c = true) (h46 : ¬ c = 46) (hx : runB signB x = 0) (hk : LxR true x rs) : LxR b (c :: x) (namR [c] b :: rs) := by
 obtain ⟨k1, k2, k3, k4, k5, k6, k7, k8⟩ := sign_kind c hc
 have ha : one1 (c :: x) = .tok 1 ⟨#[c]⟩ 0 false 1 := by
  show oneC c (c :: x) = _
  unfold oneC
  rw [k1, k2, k3, k4, k5, k6, ends_blank h46, if_neg (by decide), if_neg (by decide), if_neg (by decide), if_neg (by decide), if_neg (by decide), if_neg (by decide), if_neg (by decide), if_pos hc, runB_yes hc, hx]
  rfl
 exact lxr_tok (fun h9 => by rw [h9] at k8; exact absurd k8 (by decide)) k7 ha rfl rfl hk
theorem lxr_small {b : Bool} {c : UInt8} {x : List UInt8} {rs : List RT} (hc : smallB c = true) (hx : runB letterB x = 0) (hk : LxR true x rs) : LxR b (c :: x) (namR [c] b :: rs) := by
 have h1 := small_kind hc
 have hl : letterB c = true := by unfold letterB; rw [hc]; rfl
 have ha : one1 (c :: x) = .tok 1 ⟨#[c]⟩ 0 false 1 := by
  show oneC c (c :: x) = _
  unfold oneC
  rw [if_pos hc, runB_yes hl, hx]
  rfl
 exact lxr_tok h1.1 h1.2 ha rfl rfl hk
theorem lxr_big {b : Bool} {c : UInt8} {x : List UInt8} {rs : List RT} (hc : c = 88 ∨ c = 84) (hx : runB letterB x = 0) (hk : LxR true x rs) : LxR b (c :: x) (⟨2, ⟨#[c]⟩, 0, false, b⟩ :: rs) := by
 have ha : one1 (c :: x) = .tok 2 ⟨#[c]⟩ 0 false 1 := by
  have hl : letterB c = true := by rcases hc with rfl | rfl <;> rfl
  have h2 : smallB c = false := by rcases hc with rfl | rfl <;> rfl
  have h3 : bigB c = true := by rcases hc with rfl | rfl <;> rfl
  show oneC c (c :: x) = _
  unfold oneC
  rw [h2, if_neg (by decide), if_pos h3, runB_yes hl, hx]
  rfl
 exact lxr_tok (by rcases hc with rfl | rfl <;> decide) (by rcases hc with rfl | rfl <;> decide) ha rfl rfl hk
theorem allA_lxr {lv : Int} {t : List UInt8} {rs : List RT} {l : List Tm} (hl : t.length ≤ 4096) (hx : LxR false t rs) (hs : Sents rs lv 0 l) : allA lv t = .ok l := by
 obtain ⟨ts, h1, h2⟩ := hx
 subst h2
 exact allA_of hl h1 hs
theorem allA_lxr_bad {lv : Int} {t : List UInt8} {rs : List RT} {a : Nat} {e : Int} (hl : t.length ≤ 4096) (hx : LxR false t rs) (h0 : 0 < rs.length) (hs : readS rs lv 0 = .bad a e) : allA lv t = .bad a e := by
 obtain ⟨ts, h1, h2⟩ := hx
 subst h2
 rw [List.length_map] at h0
 exact allA_bad hl h1 h0 hs
theorem readS_bad {L : List RT} {lv : Int} {i : Nat} {a : Nat} {e : Int} (h : readT L lv 60 1200 ⟨i, []⟩ = .bad a e) : readS L lv i = .bad a e := by
 unfold readS
 rw [h]
end Go.Proofs.YtanhhihechakhaaDoor.ReadP
set_option linter.unusedVariables false
set_option linter.unusedSimpArgs false
namespace Go.Proofs.YtanhhihechakhaaDoor.E
open Go.RowKit
theorem met_run {P : Program} {F t : Nat} {v recv r : Value} {name : String} {vs : Array Value} {w : World} (hm : (method (P.types.size + Made.depth) t v name).run P w = .ok (F, recv) w) (hr : (callFunc F (#[recv] ++ vs)).run P w = .ok (.value r) w) :
    (callMethod (.iface t v) name vs).run P w = .ok (.value r) w := by
 have hp : Sem.run P program w = .ok P w := rfl
 simp only [callMethod, Sem.run_bind, hp, Result.andThen_ok, hm, hr]
section
variable {m : Md} {P : Program} {ops : Array Oper} {Q : Exit → Act → World → Prop} {n : Nat} {D : List Deferred} {w0 : World} {M : List Nat} {h0 : Hp}
variable {f : Tab} {h : Hp} {H : List Res} {rest : List Oper} {o : Oper}
variable {d t s : Nat} {p : String} {af : Array Edge} {g : Option (Nat × Bool)} {F : Nat} {args : Array Operand} {tys : Array TypeId} {vs : List Value}
theorem sy_assert {x : Operand} {vx v : Value} {xT aT : TypeId} {ok : Bool} (hx : f.ev x = some vx) (hr : ∀ w, (Instr.typeAssert vx xT aT ok).run P w = .ok v w) (hw : gok ops f g = some true) (hn : Nat.blt d n = true)
    (k : Sy m P ops Q n D w0 M h0 rest ((d, v) :: f) h H) : Sy m P ops Q n D w0 M h0 (⟨some d, .typeAssert x xT aT ok, t, p, af, g⟩ :: rest) f h H :=
 sy_val hw rfl hn (fun a w ha _ => by simp [execOp, ha.ev hx, hr]) k
theorem sy_eqif {x y : Operand} {tx ty s2 : Nat} {vx vy : Value} {b : Bool} (hx : f.ev x = some (.iface tx vx)) (hy : f.ev y = some (.iface ty vy)) (hr : ∀ w, (binOp .eql s (.iface tx vx) (.iface ty vy)).run P w = .ok (.bool b) w) (hw : gok ops f g = some true) (hn : Nat.blt d n = true)
    (k : Sy m P ops Q n D w0 M h0 rest ((d, .bool b) :: f) h H) : Sy m P ops Q n D w0 M h0 (⟨some d, .binOp .eql s x y s2, t, p, af, g⟩ :: rest) f h H :=
 sy_val hw rfl hn (fun a w ha _ => by
  have hg : (eqGuard .eql s x y (.iface tx vx) (.iface ty vy)).run P w = .ok () w := by simp [eqGuard]
  simp [execOp, ha.ev hx, ha.ev hy, hg, hr]) k
theorem sy_exn {v : Nat → Value} {ob : Obj} (hx : f.evs args.toList = some vs) (hr : ∀ w, (callFunc F vs.toArray).run P w = .ok (.value (v w.heap.size)) (w.alloc ob)) (hw : gok ops f g = some true) (hn : Nat.blt d n = true)
    (k : ∀ b, w0.heap.size ≤ b → b ∉ M → Sy .txt P ops Q n D w0 M h0 rest ((d, v b) :: f) h (.blk b ob :: H)) (hM : ∀ x ∈ M, x < w0.heap.size) : Sy .txt P ops Q n D w0 M h0 (⟨some d, .call ⟨.value (.func F), args, tys⟩, t, p, af, g⟩ :: rest) f h H :=
 sy_op hw fun a w ha hs => by
  have h1 := map_evs ha hx
  have hrun : (execOp a.eval ⟨some d, .call ⟨.value (.func F), args, tys⟩, t, p, af, g⟩).run P w = .ok (.value (v w.heap.size)) (w.alloc ob) := by
   simp only [execOp, resolve, h1, Act.eval, Deferred.ofValue, Sem.run_bind, Sem.run_pure, Result.andThen_ok, invoke, Array.empty_append, Array.append_empty, hr w]
  unfold Oper.wp
  rw [hrun]
  exact k w.heap.size hs.frm.size (fun hx => by have := hM _ hx; have := hs.frm.size; omega) _ _ (ha.put d _ hn) (hs.alloc _)
theorem sy_exw2 {v old new : Value} {b off e : Nat} {cs cs' : List Value} {H1 : List Res} (i : Nat) (hx : f.evs args.toList = some vs) (hp : pickR i H = some (.blk b (.cells cs.toArray e (0, 0)), H1)) (ho : cs[off]? = some old) (hc : cs.set off new = cs')
    (hr : ∀ w, St w0 M h0 h H w → w.cell? ⟨b, off, none⟩ = some old → w.frozen? ⟨b, off, none⟩ = false → (callFunc F vs.toArray).run P w = .ok (.value v) (w.setCell ⟨b, off, none⟩ new)) (hw : gok ops f g = some true) (hn : Nat.blt d n = true)
    (k : Sy .txt P ops Q n D w0 M h0 rest ((d, v) :: f) h (.blk b (.cells cs'.toArray e (0, 0)) :: H1)) : Sy .txt P ops Q n D w0 M h0 (⟨some d, .call ⟨.value (.func F), args, tys⟩, t, p, af, g⟩ :: rest) f h H :=
 sy_op hw fun a w ha hs => by
  have hs' := hs.swap (pickR_perm hp)
  have hb : w.heap[b]? = some (.cells cs.toArray e (0, 0)) := hs'.ok _ (List.mem_cons_self)
  have hcell : w.cell? ⟨b, off, none⟩ = some old := by simp [World.cell?, hb, ho]
  have hfz : w.frozen? ⟨b, off, none⟩ = false := by simp [World.frozen?, hb]
  have h1 := map_evs ha hx
  have hrun : (execOp a.eval ⟨some d, .call ⟨.value (.func F), args, tys⟩, t, p, af, g⟩).run P w = .ok (.value v) (w.setCell ⟨b, off, none⟩ new) := by
   simp only [execOp, resolve, h1, Act.eval, Deferred.ofValue, Sem.run_bind, Sem.run_pure, Result.andThen_ok, invoke, Array.empty_append, Array.append_empty, hr w hs hcell hfz]
  unfold Oper.wp
  rw [hrun]
  refine k _ _ (ha.put d _ hn) (hs'.write (o' := .cells cs'.toArray e (0, 0)) ⟨rfl, rfl, rfl, by simp [World.setCell], fun j hj hm => heap_setCell_other w ⟨b, off, none⟩ j new (by simpa using hm)⟩ ?_)
  rw [heap_setCell_same w b off cs.toArray e new hb, ← hc]
  simp
theorem St.cellQ {b off e : Nat} {cs : List Value} {fr : Nat × Nat} {v : Value} {H1 : List Res} {w : World} (i : Nat) (hp : pickR i H = some (.blk b (.cells cs.toArray e fr), H1)) (hc : cs[off]? = some v) (hs : St w0 M h0 h H w) : w.cell? ⟨b, off, none⟩ = some v := by
 have h1 : w.heap[b]? = some (.cells cs.toArray e fr) := (hs.swap (pickR_perm hp)).ok _ (List.mem_cons_self)
 simp [World.cell?, h1, hc]
theorem sy_invq {recv : Operand} {name : String} {vr v : Value} (hr : f.ev recv = some vr) (hx : f.evs args.toList = some vs) (hmeth : ∀ w, (callMethod vr name vs.toArray).run P w = .ok (.value v) w) (hw : gok ops f g = some true) (hn : Nat.blt d n = true)
    (k : Sy m P ops Q n D w0 M h0 rest ((d, v) :: f) h H) : Sy m P ops Q n D w0 M h0 (⟨some d, .call ⟨.invoke recv name, args, tys⟩, t, p, af, g⟩ :: rest) f h H :=
 sy_val hw rfl hn (fun a w ha _ => by
  have h1 := map_evs ha hx
  have h2 : (#[vr] ++ vs.toArray)[0]? = some vr := by simp
  have h3 : (#[vr] ++ vs.toArray).extract 1 (#[vr] ++ vs.toArray).size = vs.toArray := by
   apply Array.ext'
   simp
  simp only [execOp, resolve, h1, ha.ev hr, Sem.run_bind, Sem.run_pure, Result.andThen_ok, invoke, h2, h3, hmeth]) k
end
end Go.Proofs.YtanhhihechakhaaDoor.E
set_option linter.unusedVariables false
set_option linter.unusedSimpArgs false
namespace Go.Proofs.YtanhhihechakhaaDoor
open Go.RowKit Go.Proofs.YtanhhihechakhaaDoor.E Go.Proofs.YtanhhihechakhaaDoor.ReplP Go.Proofs.YtanhhihechakhaaDoor.TokP Go.Proofs.YtanhhihechakhaaDoor.TermP Go.Proofs.YtanhhihechakhaaDoor.WrP Go.Proofs.YtanhhihechakhaaDoor.ReadP Go.Proofs.YtanhhihechakhaaDoor.OpsP
theorem read_tm (r bm : Nat) (A : Option Addr) (c : Nat) (L : List RT) (lv : Int) (hqN : ∀ x ∈ L, TokOk x) (hPW : ∀ i, preW L i ≤ 549755813888) (hL : L.length ≤ 1048576) : ∀ (k : Nat) (inn : Int), (inn + k = 60 ∨ k = 0 ∧ 60 ≤ inn) → 0 ≤ inn → inn ≤ 999000 → TmC r bm A c L lv inn (readT L lv k) := fun k => by
 induction k using Nat.strongRecOn with
 | _ k ih =>
  intro inn hk hi0 hi1 h st o vn most hT hat hnm hm
  exact term1_c r bm A c L lv h st inn o vn most _ (term_s r bm A c L lv h st inn o vn k hk hi0 hi1 ih most hqN hPW hT hL hat hnm hm)
theorem asFlt (a e : Int) (w : World) : (Instr.typeAssert (.iface 76 (.agg #[.int .i64 a, .int .i64 e])) 20 76 true).run Tryd.prog w = .ok (.tuple #[.agg #[.int .i64 a, .int .i64 e], .bool true]) w := by kernel_rfl
set_option maxRecDepth 100000 in
theorem read1p_c (b6 b7 b8 b9 : Nat) (x1 x2 x3 x4 v7 v8 v9 : Value) (a : Nat) (e : Int) (h : Hp) : CRD Tryd.prog 36 [.pointer (some ⟨b6, 0, none⟩), .pointer (some ⟨b7, 0, none⟩), .pointer (some ⟨b8, 0, none⟩), .pointer (some ⟨b9, 0, none⟩)] (.panicking [{ v := faultV 76 a e, recovered := false }]) (.panicking [{ v := faultV 76 a e, recovered := true }]) h [.blk b6 (.cells ([x1, x2, x3, x4] : List Value).toArray 30 (0, 0)), .blk b7 (.cells ([v7] : List Value).toArray 51 (0, 0)), .blk b8 (.cells ([v8] : List Value).toArray 3 (0, 0)), .blk b9 (.cells ([v9] : List Value).toArray 24 (0, 0))] (fun (_ : Unit) _ H' => H' = [.blk b6 (.cells ([.int .i64 0, .int .i64 0, .string ⟨#[]⟩, .slice none 0 0] : List Value).toArray 30 (0, 0)), .blk b7 (.cells ([.slice none 0 0] : List Value).toArray 51 (0, 0)), .blk b8 (.cells ([.int .i64 ((a : Nat) : Int)] : List Value).toArray 3 (0, 0)), .blk b9 (.cells ([.int .i64 e] : List Value).toArray 24 (0, 0))]) := by
 refine enterRec Tryd.func36 rfl rfl rfl rfl rfl (fun w hb0 => ?_)
 refine cy_seq ?_
 refine cy_region ?_
 refine sy_move rfl rfl rfl ?_
 refine sy_eqn Tryd.underlying20 rfl rfl rfl rfl rfl ?_
 refine sy_setT (d := 9) rfl rfl rfl ?_
 refine sy_nil rfl ?_
 refine ny_next ?_
 refine cy_condT rfl ?_
 refine cy_seq ?_
 refine cy_region ?_
 refine sy_move rfl rfl rfl ?_
 refine sy_assert rfl (fun w => asFlt _ _ w) rfl rfl ?_
 refine sy_move rfl rfl rfl ?_
 refine sy_extract rfl rfl rfl rfl ?_
 refine sy_extract rfl rfl rfl rfl ?_
 refine sy_setT (d := 14) rfl rfl rfl ?_
 refine sy_alloc zer_76 rfl rfl (fun b5 hb5 hM5 => ?_) (by first | exact hb0 | simp)
 first | refine sy_stl 0 sz_76 rfl rfl rfl rfl rfl rfl rfl rfl ?_ | refine sy_stl 1 sz_76 rfl rfl rfl rfl rfl rfl rfl rfl ?_ | refine sy_stl 2 sz_76 rfl rfl rfl rfl rfl rfl rfl rfl ?_ | refine sy_stl 3 sz_76 rfl rfl rfl rfl rfl rfl rfl rfl ?_ | refine sy_stl 4 sz_76 rfl rfl rfl rfl rfl rfl rfl rfl ?_
 refine sy_assign rfl rfl rfl ?_
 refine sy_nil rfl ?_
 refine ny_next ?_
 refine cy_seq ?_
 refine cy_seq ?_
 refine cy_region ?_
 refine sy_move rfl rfl rfl ?_
 refine sy_not rfl rfl rfl ?_
 refine sy_nil rfl ?_
 refine ny_next ?_
 refine cy_condF rfl ?_
 refine cy_skip ?_
 refine ny_next ?_
 refine cy_frz 0 rfl hM5 (fun h5 hle5 hb5x => ?_)
 refine cy_regionA mixed ?_
 refine zy_q 0 rfl (by kernel_rfl) (fun hB5_0 => ?_)
 refine sy_build rfl (fun w => bld_30_ w) rfl rfl ?_
 refine sy_nil1 (ny_zq hB5_0 ?_)
 refine zy_q 1 rfl (by kernel_rfl) (fun hB5_1 => ?_)
 refine sy_field fld_76_0 rfl rfl rfl ?_
 refine sy_nil1 (ny_zq hB5_1 ?_)
 refine zy_q 2 rfl (by kernel_rfl) (fun hB5_2 => ?_)
 refine sy_ldh one_3 rfl (Hp.blk hb5x 0 _ rfl) rfl rfl ?_
 refine sy_nil1 (ny_zq hB5_2 ?_)
 refine zy_q 3 rfl (by kernel_rfl) (fun hB5_3 => ?_)
 refine sy_field fld_76_1 rfl rfl rfl ?_
 refine sy_nil1 (ny_zq hB5_3 ?_)
 refine zy_q 4 rfl (by kernel_rfl) (fun hB5_4 => ?_)
 refine sy_ldh one_24 rfl (Hp.blk hb5x 1 _ rfl) rfl rfl ?_
 refine sy_nil1 (ny_zq hB5_4 ?_)
 refine zy_1 5 (by kernel_rfl) ?_
 refine zop_run rfl rfl (fun hB5_5 => ?_)
 first | refine sy_stl 0 sz_30 rfl rfl rfl rfl rfl rfl rfl rfl ?_ | refine sy_stl 1 sz_30 rfl rfl rfl rfl rfl rfl rfl rfl ?_ | refine sy_stl 2 sz_30 rfl rfl rfl rfl rfl rfl rfl rfl ?_ | refine sy_stl 3 sz_30 rfl rfl rfl rfl rfl rfl rfl rfl ?_ | refine sy_stl 4 sz_30 rfl rfl rfl rfl rfl rfl rfl rfl ?_
 refine sy_nil rfl (ny_zy hB5_5 (Hp.Le.refl _) ?_)
 refine zy_1 6 (by kernel_rfl) ?_
 refine zop_run rfl rfl (fun hB5_6 => ?_)
 first | refine sy_stl 0 sz_51 rfl rfl rfl rfl rfl rfl rfl rfl ?_ | refine sy_stl 1 sz_51 rfl rfl rfl rfl rfl rfl rfl rfl ?_ | refine sy_stl 2 sz_51 rfl rfl rfl rfl rfl rfl rfl rfl ?_ | refine sy_stl 3 sz_51 rfl rfl rfl rfl rfl rfl rfl rfl ?_ | refine sy_stl 4 sz_51 rfl rfl rfl rfl rfl rfl rfl rfl ?_
 refine sy_nil rfl (ny_zy hB5_6 (Hp.Le.refl _) ?_)
 refine zy_1 7 (by kernel_rfl) ?_
 refine zop_run rfl rfl (fun hB5_7 => ?_)
 first | refine sy_stl 0 sz_3 rfl rfl rfl rfl rfl rfl rfl rfl ?_ | refine sy_stl 1 sz_3 rfl rfl rfl rfl rfl rfl rfl rfl ?_ | refine sy_stl 2 sz_3 rfl rfl rfl rfl rfl rfl rfl rfl ?_ | refine sy_stl 3 sz_3 rfl rfl rfl rfl rfl rfl rfl rfl ?_ | refine sy_stl 4 sz_3 rfl rfl rfl rfl rfl rfl rfl rfl ?_
 refine sy_nil rfl (ny_zy hB5_7 (Hp.Le.refl _) ?_)
 refine zy_1 8 (by kernel_rfl) ?_
 refine zop_run rfl rfl (fun hB5_8 => ?_)
 first | refine sy_stl 0 sz_24 rfl rfl rfl rfl rfl rfl rfl rfl ?_ | refine sy_stl 1 sz_24 rfl rfl rfl rfl rfl rfl rfl rfl ?_ | refine sy_stl 2 sz_24 rfl rfl rfl rfl rfl rfl rfl rfl ?_ | refine sy_stl 3 sz_24 rfl rfl rfl rfl rfl rfl rfl rfl ?_ | refine sy_stl 4 sz_24 rfl rfl rfl rfl rfl rfl rfl rfl ?_
 refine sy_nil rfl (ny_zy hB5_8 (Hp.Le.refl _) ?_)
 refine zy_done (by kernel_rfl) ?_
 exact ny_fin (res0 rfl) (fun w hs => ⟨(), _, _, ⟨_, rfl⟩, rfl, hs.sel (is := [3, 2, 1, 0]) rfl⟩)
set_option maxRecDepth 100000 in
theorem read1n_c (b6 b7 b8 b9 : Nat) (h : Hp) (H : List Res) : CRD Tryd.prog 36 [.pointer (some ⟨b6, 0, none⟩), .pointer (some ⟨b7, 0, none⟩), .pointer (some ⟨b8, 0, none⟩), .pointer (some ⟨b9, 0, none⟩)] .returning .returning h H (fun (_ : Unit) _ H' => H' = H) := by
 refine enterRecN Tryd.func36 rfl rfl rfl rfl rfl (fun w hb0 => ?_)
 refine cy_seq ?_
 refine cy_region ?_
 refine sy_move rfl rfl rfl ?_
 refine sy_eqn Tryd.underlying20 rfl rfl rfl rfl rfl ?_
 refine sy_setF (d := 9) rfl rfl rfl ?_
 refine sy_nil rfl ?_
 refine ny_next ?_
 refine cy_condF rfl ?_
 refine cy_skip ?_
 exact ny_fin (res0 rfl) (fun w hs => ⟨(), _, _, ⟨_, rfl⟩, rfl, hs⟩)
abbrev RdA := GT × Value × Nat × Int
def RdP (L : List RT) (lv : Int) (i : Nat) (x : RdA) (h : Hp) : Prop := ((∃ s, readS L lv i = .ok x.1.tm s ∧ x.2.2.1 = s.at_ ∧ x.2.2.2 = 0) ∨ readS L lv i = .bad x.2.2.1 x.2.2.2) ∧ (Lies h x.1 ∧ Fits x.1)
theorem readS_no {L : List RT} {lv : Int} {i : Nat} {x : Tm × Int} {s2 : RSt} (h : readT L lv 60 1200 ⟨i, []⟩ = .ok x s2) (hk : ¬ (tokA L s2.at_).kind = 5) : readS L lv i = .bad s2.at_ 4 := by
 unfold readS
 rw [h]
 simp only
 rw [if_neg hk]
theorem readS_chk {L : List RT} {lv : Int} {i : Nat} {x : Tm × Int} {s2 : RSt} (h : readT L lv 60 1200 ⟨i, []⟩ = .ok x s2) (hk : (tokA L s2.at_).kind = 5) (hc : ¬ chkT lv x.1 = 0) : readS L lv i = .bad (s2.at_ + 1) (chkT lv x.1) := by
 unfold readS
 rw [h]
 simp only
 rw [if_pos hk, if_neg hc]
theorem lies_zero (h : Hp) : Lies h (GT.mk 0 0 ⟨#[]⟩ none 0 []) ∧ Fits (GT.mk 0 0 ⟨#[]⟩ none 0 []) := ⟨lies_leaf _ _ _ _, fits_leaf (by decide) (by decide) (by decide) (by decide) (by decide)⟩
theorem fldTok (k n : Int) (s : ByteArray) (q t : Bool) (w : World) : (Instr.field 65 (.agg #[.int .i64 k, .string s, .int .i64 n, .bool q, .bool t]) 0).run Tryd.prog w = .ok (.int .i64 k) w := by kernel_rfl
set_option maxRecDepth 100000 in
theorem read_c (A : Option Addr) (c : Nat) (L : List RT) (lv : Int) (i : Nat) (h : Hp) (hT : RowsAt h A 5 (L.map rtC)) (hL : L.length ≤ 1048576) (hqN : ∀ x ∈ L, TokOk x) (hPW : ∀ i, preW L i ≤ 549755813888) (hi : i ≤ L.length) : CX Tryd.prog 22 [.slice A L.length c, .int .i64 ((i : Nat) : Int), .int .i64 lv] h (fun x : RdA => .tuple #[.agg (GT.cells x.1).toArray, x.2.1, .int .i64 ((x.2.2.1 : Nat) : Int), .int .i64 x.2.2.2]) (RdP L lv i) := by
 refine enterXD Tryd.func22 rfl rfl rfl (fun w => ?_)
 refine cy_seq ?_
 refine cy_region ?_
 refine sy_alloc zer_30 rfl rfl (fun b6 hb6 hM6 => ?_) (by simp)
 refine sy_alloc zer_51 rfl rfl (fun b7 hb7 hM7 => ?_) (by simp)
 refine sy_alloc zer_3 rfl rfl (fun b8 hb8 hM8 => ?_) (by simp)
 refine sy_alloc zer_24 rfl rfl (fun b9 hb9 hM9 => ?_) (by simp)
 refine sy_nil rfl ?_
 refine ny_next ?_
 refine cy_seq ?_
 refine cy_seq ?_
 refine cy_region ?_
 refine sy_move rfl rfl rfl ?_
 refine sy_cmp rfl rfl rfl rfl rfl ?_
 refine sy_setF (d := 14) rfl rfl (decide_eq_false (by omega)) ?_
 refine sy_move rfl rfl rfl ?_
 refine sy_move rfl rfl rfl ?_
 refine sy_move rfl rfl rfl ?_
 refine sy_len rfl (len_slice Tryd.underlying45 _ _ _) rfl rfl ?_
 refine sy_cmp rfl rfl rfl rfl rfl ?_
 refine sy_setF (d := 19) rfl rfl (decide_eq_false (by omega)) ?_
 refine sy_pickF rfl rfl rfl rfl ?_
 refine sy_nil rfl ?_
 refine ny_next ?_
 refine cy_condF rfl ?_
 refine cy_skip ?_
 refine ny_next ?_
 refine cy_seq ?_
 refine cy_region ?_
 refine sy_move rfl rfl rfl ?_
 refine sy_move rfl rfl rfl ?_
 refine sy_move rfl rfl rfl ?_
 refine sy_makeMap (k := 9) (e := 3) rfl rfl (fun bm o25 hbm hMm hm25 => ?_) (by simp)
 refine sy_build rfl (fun w => bld_74_0x1x2x4 w) rfl rfl ?_
 refine sy_box rfl rfl rfl rfl (fun r hb27 hM27 => ?_) (by simp)
 refine sy_assign rfl rfl rfl ?_
 refine sy_nil rfl ?_
 refine ny_next ?_
 refine cy_seq ?_
 refine cy_region ?_
 refine sy_bind (s := 0) rfl rfl rfl rfl ?_
 refine sy_deferC (caps := [.pointer (some ⟨b6, 0, none⟩), .pointer (some ⟨b7, 0, none⟩), .pointer (some ⟨b8, 0, none⟩), .pointer (some ⟨b9, 0, none⟩)]) rfl rfl rfl ?_
 refine sy_nil rfl ?_
 refine ny_next ?_
 refine cy_seq ?_
 refine cy_nilRow 9 1 ?_
 refine cy_region ?_
 refine sy_move rfl rfl rfl ?_
 refine sy_callRO [1, 1, 0] call_37 rfl rfl (read_tm r bm A c L lv hqN hPW hL 60 0 (.inl rfl) (by decide) (by decide) _ ⟨i, []⟩ o25 (.slice none 0 0) 1200 hT hi (Nat.zero_le _) hm25) rfl rfl (fun a30 e30 h30x H30x hb30 hx30 hle30x => ?_) (fun x30 s30 g30 h30x H30x hk30 hx30 hle30x => ?_)
 · obtain ⟨a9, i9, o9, v9, n9, rfl⟩ := hx30
   refine ny_thenP ?_
   refine ny_finUP (lvU_cons [6, 5, 4, 3] call_36 rfl (by intro h9; cases h9) (read1p_c b6 b7 b8 b9 _ _ _ _ _ _ _ _ _ _) (fun _ h9y H9y hx9y hle9y => ?_))
   subst hx9y
   exact lvU_ret (resc4 0 1 2 3 rfl agg_30 one_51 one_3 one_24 rfl rfl rfl rfl rfl rfl rfl rfl rfl) (fun w9 hs => ⟨((GT.mk 0 0 ⟨#[]⟩ none 0 []), .slice none 0 0, a30, e30), h9y, rfl, ⟨.inr (readS_bad hb30), lies_zero _⟩, hs.toGrow⟩)
 · obtain ⟨hg30, hl30, hm30, rfl⟩ := hx30
   replace hg30 : g30.1.tm = x30.1 := hg30
   have hfw := read_fwd L lv 60 1200 ⟨i, []⟩ x30 s30 hi hk30
   have hww := read_wt L lv 60 1200 ⟨i, []⟩ x30 s30 hi hk30
   have hpw := hPW s30.at_
   have hT30 := hT.le hle30x
   refine sy_alloc zer_30 rfl rfl (fun b11 hb11 hM11 => ?_) (by simp)
   first | refine sy_stl 0 sz_30 rfl rfl rfl rfl rfl rfl rfl rfl ?_ | refine sy_stl 1 sz_30 rfl rfl rfl rfl rfl rfl rfl rfl ?_ | refine sy_stl 2 sz_30 rfl rfl rfl rfl rfl rfl rfl rfl ?_ | refine sy_stl 3 sz_30 rfl rfl rfl rfl rfl rfl rfl rfl ?_ | refine sy_stl 4 sz_30 rfl rfl rfl rfl rfl rfl rfl rfl ?_ | refine sy_stl 5 sz_30 rfl rfl rfl rfl rfl rfl rfl rfl ?_ | refine sy_stl 6 sz_30 rfl rfl rfl rfl rfl rfl rfl rfl ?_ | refine sy_stl 7 sz_30 rfl rfl rfl rfl rfl rfl rfl rfl ?_
   refine sy_nil rfl ?_
   refine ny_next ?_
   refine cy_seq ?_
   refine cy_seq ?_
   refine cy_region ?_
   refine sy_move rfl rfl rfl ?_
   refine sy_callR1 [1] call_38 rfl rfl (peek_c r bm A c L lv _ hT30 hL s30 0 g30.2.2 hfw.2.1) rfl rfl (fun x32 h32x H32x hx32 hle32x => ?_)
   obtain ⟨rfl, rfl⟩ := hx32
   refine sy_fieldv rfl (fun w => fldTok _ _ _ _ _ w) rfl rfl ?_
   refine sy_cmp rfl rfl rfl rfl rfl ?_
   refine sy_nil rfl ?_
   refine ny_next ?_
   refine cy_cond rfl (fun hc34 => ?_) (fun hc34 => ?_)
   · have hn34 : ¬ (tokA L s30.at_).kind = 5 := by simpa using hc34
     refine cy_region ?_
     refine sy_move rfl rfl rfl ?_
     refine sy_callR [0] call_39 rfl rfl (rbad_c r bm A c L lv _ hT30 hL s30 0 g30.2.2 hfw.2.1 4) rfl rfl (fun x36 h36x H36x hx36 hle36x => ?_)
     obtain ⟨rfl, rfl⟩ := hx36
     refine ny_thenP ?_
     refine ny_finUP (lvU_cons [7, 6, 5, 4] call_36 rfl (by intro h9; cases h9) (read1p_c b6 b7 b8 b9 _ _ _ _ _ _ _ _ _ _) (fun _ h9y H9y hx9y hle9y => ?_))
     subst hx9y
     exact lvU_ret (resc4 0 1 2 3 rfl agg_30 one_51 one_3 one_24 rfl rfl rfl rfl rfl rfl rfl rfl rfl) (fun w9 hs => ⟨((GT.mk 0 0 ⟨#[]⟩ none 0 []), .slice none 0 0, s30.at_, 4), h9y, rfl, ⟨.inr (readS_no hk30 hn34), lies_zero _⟩, hs.toGrow⟩)
   · have hn34 : (tokA L s30.at_).kind = 5 := by simpa using hc34
     have hlt := tok_lt (L := L) (i := s30.at_) (by rw [hn34]; decide)
     refine cy_skip ?_
     refine ny_next ?_
     refine cy_seq ?_
     refine cy_region ?_
     refine sy_move rfl rfl rfl ?_
     refine sy_nilCheck rfl rfl rfl ?_
     refine sy_field fld_74_1 rfl rfl rfl ?_
     first | refine sy_ldr 0 one_3 rfl rfl rfl rfl rfl ?_ | refine sy_ldr 1 one_3 rfl rfl rfl rfl rfl ?_ | refine sy_ldr 2 one_3 rfl rfl rfl rfl rfl ?_ | refine sy_ldr 3 one_3 rfl rfl rfl rfl rfl ?_ | refine sy_ldr 4 one_3 rfl rfl rfl rfl rfl ?_ | refine sy_ldr 5 one_3 rfl rfl rfl rfl rfl ?_ | refine sy_ldr 6 one_3 rfl rfl rfl rfl rfl ?_ | refine sy_ldr 7 one_3 rfl rfl rfl rfl rfl ?_
     refine sy_addi (z := ((s30.at_ + 1 : Nat) : Int)) rfl rfl (by omega) (by omega) (by omega) rfl rfl ?_
     refine sy_nilCheck rfl rfl rfl ?_
     refine sy_field fld_74_1 rfl rfl rfl ?_
     first | refine sy_stl 0 sz_3 rfl rfl rfl rfl rfl rfl rfl rfl ?_ | refine sy_stl 1 sz_3 rfl rfl rfl rfl rfl rfl rfl rfl ?_ | refine sy_stl 2 sz_3 rfl rfl rfl rfl rfl rfl rfl rfl ?_ | refine sy_stl 3 sz_3 rfl rfl rfl rfl rfl rfl rfl rfl ?_ | refine sy_stl 4 sz_3 rfl rfl rfl rfl rfl rfl rfl rfl ?_ | refine sy_stl 5 sz_3 rfl rfl rfl rfl rfl rfl rfl rfl ?_ | refine sy_stl 6 sz_3 rfl rfl rfl rfl rfl rfl rfl rfl ?_ | refine sy_stl 7 sz_3 rfl rfl rfl rfl rfl rfl rfl rfl ?_
     refine sy_nil rfl ?_
     refine ny_next ?_
     refine cy_seq ?_
     refine cy_seq ?_
     refine cy_region ?_
     first | refine sy_ldar 0 agg_30 rfl rfl rfl rfl rfl ?_ | refine sy_ldar 1 agg_30 rfl rfl rfl rfl rfl ?_ | refine sy_ldar 2 agg_30 rfl rfl rfl rfl rfl ?_ | refine sy_ldar 3 agg_30 rfl rfl rfl rfl rfl ?_ | refine sy_ldar 4 agg_30 rfl rfl rfl rfl rfl ?_ | refine sy_ldar 5 agg_30 rfl rfl rfl rfl rfl ?_ | refine sy_ldar 6 agg_30 rfl rfl rfl rfl rfl ?_ | refine sy_ldar 7 agg_30 rfl rfl rfl rfl rfl ?_
     refine sy_move rfl rfl rfl ?_
     refine sy_call rfl call_12 rfl (check_c g30.1 lv _ hl30.1 hl30.2 (by rw [wtG_tm, hg30]; omega)) rfl rfl ?_
     refine sy_assign rfl rfl rfl ?_
     refine sy_nil rfl ?_
     refine ny_next ?_
     refine cy_seq ?_
     refine cy_region ?_
     refine sy_move rfl rfl rfl ?_
     refine sy_cmp rfl rfl rfl rfl rfl ?_
     refine sy_nil rfl ?_
     refine ny_next ?_
     refine cy_cond rfl (fun hc48 => ?_) (fun hc48 => ?_)
     · have hn48 : ¬ chkT lv x30.1 = 0 := by rw [← hg30]; simpa using hc48
       refine cy_region ?_
       refine sy_move rfl rfl rfl ?_
       refine sy_move rfl rfl rfl ?_
       refine sy_callR [0] call_39 rfl rfl (rbad_c r bm A c L lv _ hT30 hL (adv s30) 0 g30.2.2 (by show s30.at_ + 1 ≤ _; omega) (chkT lv g30.1.tm)) rfl rfl (fun x51 h51x H51x hx51 hle51x => ?_)
       obtain ⟨rfl, rfl⟩ := hx51
       refine ny_thenP ?_
       refine ny_finUP (lvU_cons [7, 6, 5, 4] call_36 rfl (by intro h9; cases h9) (read1p_c b6 b7 b8 b9 _ _ _ _ _ _ _ _ _ _) (fun _ h9y H9y hx9y hle9y => ?_))
       subst hx9y
       exact lvU_ret (resc4 0 1 2 3 rfl agg_30 one_51 one_3 one_24 rfl rfl rfl rfl rfl rfl rfl rfl rfl) (fun w9 hs => ⟨((GT.mk 0 0 ⟨#[]⟩ none 0 []), .slice none 0 0, (s30.at_ + 1), (chkT lv g30.1.tm)), h9y, rfl, ⟨.inr (by rw [hg30]; exact readS_chk hk30 hn34 hn48), lies_zero _⟩, hs.toGrow⟩)
     · have hn48 : chkT lv g30.1.tm = 0 := by simpa using hc48
       refine cy_skip ?_
       refine ny_next ?_
       refine cy_seq ?_
       refine cy_rowform 3 rfl (fun A12 c12 hv12 => ?_)
       obtain ⟨g30a, o30, v30⟩ := g30
       simp only at hv12 hg30 hl30 hm30 hn48
       subst hv12
       refine cy_frz 1 rfl (by simp) (fun h11 hle11 hb11x => ?_)
       refine cy_frz 0 rfl (by simp) (fun h27 hle27 hb27x => ?_)
       replace hb11x := hle27 _ _ hb11x
       refine cy_regionA mixed ?_
       refine zy_q 0 rfl (by kernel_rfl) (fun hB12_0 => ?_)
       refine sy_ldah (vs := GT.cells g30a) agg_30 rfl rfl (Hp.blk hb11x) rfl rfl ?_
       refine sy_nil1 (ny_zq hB12_0 ?_)
       refine zy_q 1 rfl (by kernel_rfl) (fun hB12_1 => ?_)
       refine sy_move rfl rfl rfl ?_
       refine sy_nil1 (ny_zq hB12_1 ?_)
       refine zy_q 2 rfl (by kernel_rfl) (fun hB12_2 => ?_)
       refine sy_nilCheck rfl rfl rfl ?_
       refine sy_nil1 (ny_zq hB12_2 ?_)
       refine zy_q 3 rfl (by kernel_rfl) (fun hB12_3 => ?_)
       refine sy_field fld_74_5 rfl rfl rfl ?_
       refine sy_nil1 (ny_zq hB12_3 ?_)
       refine zy_q 4 rfl (by kernel_rfl) (fun hB12_4 => ?_)
       refine sy_ldh one_51 rfl (Hp.blk hb27x 5 _ rfl) rfl rfl ?_
       refine sy_nil1 (ny_zq hB12_4 ?_)
       refine zy_q 5 rfl (by kernel_rfl) (fun hB12_5 => ?_)
       refine sy_move rfl rfl rfl ?_
       refine sy_nil1 (ny_zq hB12_5 ?_)
       refine zy_q 6 rfl (by kernel_rfl) (fun hB12_6 => ?_)
       refine sy_nilCheck rfl rfl rfl ?_
       refine sy_nil1 (ny_zq hB12_6 ?_)
       refine zy_q 7 rfl (by kernel_rfl) (fun hB12_7 => ?_)
       refine sy_field fld_74_1 rfl rfl rfl ?_
       refine sy_nil1 (ny_zq hB12_7 ?_)
       refine zy_q 8 rfl (by kernel_rfl) (fun hB12_8 => ?_)
       refine sy_ldh one_3 rfl (Hp.blk hb27x 1 _ rfl) rfl rfl ?_
       refine sy_nil1 (ny_zq hB12_8 ?_)
       refine zy_1 9 (by kernel_rfl) ?_
       refine zop_run rfl rfl (fun hB12_9 => ?_)
       first | refine sy_stl 0 sz_30 rfl rfl rfl rfl rfl rfl rfl rfl ?_ | refine sy_stl 1 sz_30 rfl rfl rfl rfl rfl rfl rfl rfl ?_ | refine sy_stl 2 sz_30 rfl rfl rfl rfl rfl rfl rfl rfl ?_ | refine sy_stl 3 sz_30 rfl rfl rfl rfl rfl rfl rfl rfl ?_ | refine sy_stl 4 sz_30 rfl rfl rfl rfl rfl rfl rfl rfl ?_ | refine sy_stl 5 sz_30 rfl rfl rfl rfl rfl rfl rfl rfl ?_ | refine sy_stl 6 sz_30 rfl rfl rfl rfl rfl rfl rfl rfl ?_ | refine sy_stl 7 sz_30 rfl rfl rfl rfl rfl rfl rfl rfl ?_
       refine sy_nil rfl (ny_zy hB12_9 (Hp.Le.refl _) ?_)
       refine zy_1 10 (by kernel_rfl) ?_
       refine zop_run rfl rfl (fun hB12_10 => ?_)
       first | refine sy_stl 0 sz_51 rfl rfl rfl rfl rfl rfl rfl rfl ?_ | refine sy_stl 1 sz_51 rfl rfl rfl rfl rfl rfl rfl rfl ?_ | refine sy_stl 2 sz_51 rfl rfl rfl rfl rfl rfl rfl rfl ?_ | refine sy_stl 3 sz_51 rfl rfl rfl rfl rfl rfl rfl rfl ?_ | refine sy_stl 4 sz_51 rfl rfl rfl rfl rfl rfl rfl rfl ?_ | refine sy_stl 5 sz_51 rfl rfl rfl rfl rfl rfl rfl rfl ?_ | refine sy_stl 6 sz_51 rfl rfl rfl rfl rfl rfl rfl rfl ?_ | refine sy_stl 7 sz_51 rfl rfl rfl rfl rfl rfl rfl rfl ?_
       refine sy_nil rfl (ny_zy hB12_10 (Hp.Le.refl _) ?_)
       refine zy_1 11 (by kernel_rfl) ?_
       refine zop_run rfl rfl (fun hB12_11 => ?_)
       first | refine sy_stl 0 sz_3 rfl rfl rfl rfl rfl rfl rfl rfl ?_ | refine sy_stl 1 sz_3 rfl rfl rfl rfl rfl rfl rfl rfl ?_ | refine sy_stl 2 sz_3 rfl rfl rfl rfl rfl rfl rfl rfl ?_ | refine sy_stl 3 sz_3 rfl rfl rfl rfl rfl rfl rfl rfl ?_ | refine sy_stl 4 sz_3 rfl rfl rfl rfl rfl rfl rfl rfl ?_ | refine sy_stl 5 sz_3 rfl rfl rfl rfl rfl rfl rfl rfl ?_ | refine sy_stl 6 sz_3 rfl rfl rfl rfl rfl rfl rfl rfl ?_ | refine sy_stl 7 sz_3 rfl rfl rfl rfl rfl rfl rfl rfl ?_
       refine sy_nil rfl (ny_zy hB12_11 (Hp.Le.refl _) ?_)
       refine zy_1 12 (by kernel_rfl) ?_
       refine zop_run rfl rfl (fun hB12_12 => ?_)
       first | refine sy_stl 0 sz_24 rfl rfl rfl rfl rfl rfl rfl rfl ?_ | refine sy_stl 1 sz_24 rfl rfl rfl rfl rfl rfl rfl rfl ?_ | refine sy_stl 2 sz_24 rfl rfl rfl rfl rfl rfl rfl rfl ?_ | refine sy_stl 3 sz_24 rfl rfl rfl rfl rfl rfl rfl rfl ?_ | refine sy_stl 4 sz_24 rfl rfl rfl rfl rfl rfl rfl rfl ?_ | refine sy_stl 5 sz_24 rfl rfl rfl rfl rfl rfl rfl rfl ?_ | refine sy_stl 6 sz_24 rfl rfl rfl rfl rfl rfl rfl rfl ?_ | refine sy_stl 7 sz_24 rfl rfl rfl rfl rfl rfl rfl rfl ?_
       refine sy_nil rfl (ny_zy hB12_12 (Hp.Le.refl _) ?_)
       refine zy_done (by kernel_rfl) ?_
       refine ny_next ?_
       refine cy_ret ?_
       refine ny_finUR (lvU_cons [] call_36 rfl (by intro h9; cases h9) (read1n_c b6 b7 b8 b9 _ []) (fun _ h9y H9y hx9y hle9y => ?_))
       subst hx9y
       exact lvU_ret (resc4 3 2 1 0 rfl agg_30 one_51 one_3 one_24 rfl rfl rfl rfl rfl rfl rfl rfl rfl) (fun w9 hs => ⟨(g30a, .slice A12 s30.names.length c12, s30.at_ + 1, 0), h9y, rfl, ⟨.inl ⟨adv s30, (by show readS L lv i = .ok g30a.tm _; rw [hg30]; exact readS_of hk30 hn34 (by rw [← hg30]; exact hn48)), rfl, rfl⟩, ((hl30.1.le hle11).le hle27).le hle9y, hl30.2⟩, hs.toGrow⟩)
end Go.Proofs.YtanhhihechakhaaDoor
set_option linter.unusedVariables false
namespace Go.Proofs.YtanhhihechakhaaDoor
open Go.RowKit Go.Proofs.YtanhhihechakhaaDoor.E
theorem agg_95 : aggB Tryd.prog 95 3 = true := by kernel_rfl
theorem call_34 : callB Tryd.prog 34 = true := by kernel_rfl
theorem call_35 : callB Tryd.prog 35 = true := by kernel_rfl
theorem call_56 : callB Tryd.prog 56 = true := by kernel_rfl
theorem call_60 : callB Tryd.prog 60 = true := by kernel_rfl
theorem fld_84_1 : fldB Tryd.prog 84 1 1 = true := by kernel_rfl
theorem one_89 : oneB Tryd.prog 89 = true := by kernel_rfl
theorem sz_95 : szB Tryd.prog 95 3 = true := by kernel_rfl
theorem zer_95 : zerL Tryd.prog 95 = some [.pointer none, .pointer none, .int .u64 0] := by kernel_rfl
end Go.Proofs.YtanhhihechakhaaDoor
set_option linter.unusedVariables false
set_option linter.unusedSimpArgs false
namespace Go.Proofs.YtanhhihechakhaaDoor
open Go.RowKit Go.Extern.Stop Go.Stop Go.Extern Go.Proofs.YtanhhihechakhaaDoor.E
theorem typeOfRef (v : Value) (w : World) : (ReflectliteType.typeOf #[.iface 84 v]).run Tryd.prog w = .ok (.iface 108 (.agg #[.pointer (some ⟨2, 84, none⟩)])) w := by kernel_rfl
theorem tofRef (v : Value) (w : World) : (callFunc 55 #[.iface 84 v]).run Tryd.prog w = .ok (.value (.iface 108 (.agg #[.pointer (some ⟨2, 84, none⟩)]))) w := ext_run (e := ReflectliteType.typeOf) Tryd.func55 (by kernel_rfl) (by kernel_rfl) (by kernel_rfl) (by kernel_rfl) (typeOfRef v w)
theorem typeOfE (v : Value) (w : World) : (ReflectliteType.typeOf #[.iface 24 v]).run Tryd.prog w = .ok (.iface 108 (.agg #[.pointer (some ⟨2, 24, none⟩)])) w := by kernel_rfl
theorem tofE (v : Value) (w : World) : (callFunc 55 #[.iface 24 v]).run Tryd.prog w = .ok (.value (.iface 108 (.agg #[.pointer (some ⟨2, 24, none⟩)]))) w := ext_run (e := ReflectliteType.typeOf) Tryd.func55 (by kernel_rfl) (by kernel_rfl) (by kernel_rfl) (by kernel_rfl) (typeOfE v w)
theorem unpackP (t : Addr) (w : World) : (ReflectliteValue.unpack (.iface 70 (.pointer (some t)))).run Tryd.prog w = .ok (.agg #[.pointer (some ⟨2, 70, none⟩), .pointer (some ⟨w.heap.size, 0, none⟩), .int .u64 150]) (w.alloc (.cells #[.pointer (some t)] 70)) := by kernel_rfl
theorem vofP (t : Addr) (w : World) : (callFunc 57 #[.iface 70 (.pointer (some t))]).run Tryd.prog w = .ok (.value (.agg #[.pointer (some ⟨2, 70, none⟩), .pointer (some ⟨w.heap.size, 0, none⟩), .int .u64 150])) (w.alloc (.cells #[.pointer (some t)] 70)) := ext_run (e := (fun args => ReflectliteValue.unpack (args.getD 0 (.tuple #[])))) Tryd.func57 (by kernel_rfl) (by kernel_rfl) (by kernel_rfl) (by kernel_rfl) (unpackP t w)
theorem unpackE (x : Int) (w : World) : (ReflectliteValue.unpack (.iface 24 (.int .i64 x))).run Tryd.prog w = .ok (.agg #[.pointer (some ⟨2, 24, none⟩), .pointer (some ⟨w.heap.size, 0, none⟩), .int .u64 130]) (w.alloc (.cells #[.int .i64 x] 24)) := by kernel_rfl
theorem vofE (x : Int) (w : World) : (callFunc 57 #[.iface 24 (.int .i64 x)]).run Tryd.prog w = .ok (.value (.agg #[.pointer (some ⟨2, 24, none⟩), .pointer (some ⟨w.heap.size, 0, none⟩), .int .u64 130])) (w.alloc (.cells #[.int .i64 x] 24)) := ext_run (e := (fun args => ReflectliteValue.unpack (args.getD 0 (.tuple #[])))) Tryd.func57 (by kernel_rfl) (by kernel_rfl) (by kernel_rfl) (by kernel_rfl) (unpackE x w)
theorem typeP (a : Addr) (w : World) : (ReflectliteValue.methodAny (ReflectliteValue.valueError "reflectlite.Value.Type" 0) (fun t _ _ _ => ReflectliteType.toType t) #[.agg #[.pointer (some ⟨2, 70, none⟩), .pointer (some a), .int .u64 150]]).run Tryd.prog w = .ok (.iface 108 (.agg #[.pointer (some ⟨2, 70, none⟩)])) w := by kernel_rfl
theorem typP (a : Addr) (w : World) : (callFunc 58 #[.agg #[.pointer (some ⟨2, 70, none⟩), .pointer (some a), .int .u64 150]]).run Tryd.prog w = .ok (.value (.iface 108 (.agg #[.pointer (some ⟨2, 70, none⟩)]))) w := ext_run (e := (ReflectliteValue.methodAny (ReflectliteValue.valueError "reflectlite.Value.Type" 0) (fun t _ _ _ => ReflectliteType.toType t))) Tryd.func58 (by kernel_rfl) (by kernel_rfl) (by kernel_rfl) (by kernel_rfl) (typeP a w)
theorem mKindP (w : World) : (Go.method (Tryd.prog.types.size + Made.depth) 108 (.agg #[.pointer (some ⟨2, 70, none⟩)]) "Kind").run Tryd.prog w = .ok (99, .pointer (some ⟨2, 70, none⟩)) w := by kernel_rfl
theorem eKindP (w : World) : ((ReflectliteType.abiMethod fun t => do pure (.int .u8 (← Rtype.kind t))) #[.pointer (some ⟨2, 70, none⟩)]).run Tryd.prog w = .ok (.int .u8 22) w := by kernel_rfl
theorem cKindP (w : World) : (callMethod (.iface 108 (.agg #[.pointer (some ⟨2, 70, none⟩)])) "Kind" #[]).run Tryd.prog w = .ok (.value (.int .u8 22)) w := met_run (mKindP w) (ext_run (e := (ReflectliteType.abiMethod fun t => do pure (.int .u8 (← Rtype.kind t)))) Tryd.func99 (by kernel_rfl) (by kernel_rfl) (by kernel_rfl) (by kernel_rfl) (eKindP w))
theorem mKindE (w : World) : (Go.method (Tryd.prog.types.size + Made.depth) 108 (.agg #[.pointer (some ⟨2, 24, none⟩)]) "Kind").run Tryd.prog w = .ok (99, .pointer (some ⟨2, 24, none⟩)) w := by kernel_rfl
theorem eKindE (w : World) : ((ReflectliteType.abiMethod fun t => do pure (.int .u8 (← Rtype.kind t))) #[.pointer (some ⟨2, 24, none⟩)]).run Tryd.prog w = .ok (.int .u8 2) w := by kernel_rfl
theorem cKindE (w : World) : (callMethod (.iface 108 (.agg #[.pointer (some ⟨2, 24, none⟩)])) "Kind" #[]).run Tryd.prog w = .ok (.value (.int .u8 2)) w := met_run (mKindE w) (ext_run (e := (ReflectliteType.abiMethod fun t => do pure (.int .u8 (← Rtype.kind t)))) Tryd.func99 (by kernel_rfl) (by kernel_rfl) (by kernel_rfl) (by kernel_rfl) (eKindE w))
theorem mElem (w : World) : (Go.method (Tryd.prog.types.size + Made.depth) 108 (.agg #[.pointer (some ⟨2, 70, none⟩)]) "Elem").run Tryd.prog w = .ok (111, .agg #[.pointer (some ⟨2, 70, none⟩)]) w := by kernel_rfl
theorem eElem (w : World) : ((ReflectliteType.method ReflectliteType.elem) #[.agg #[.pointer (some ⟨2, 70, none⟩)]]).run Tryd.prog w = .ok (.iface 108 (.agg #[.pointer (some ⟨2, 24, none⟩)])) w := by kernel_rfl
theorem cElem (w : World) : (callMethod (.iface 108 (.agg #[.pointer (some ⟨2, 70, none⟩)])) "Elem" #[]).run Tryd.prog w = .ok (.value (.iface 108 (.agg #[.pointer (some ⟨2, 24, none⟩)]))) w := met_run (mElem w) (ext_run (e := (ReflectliteType.method ReflectliteType.elem)) Tryd.func111 (by kernel_rfl) (by kernel_rfl) (by kernel_rfl) (by kernel_rfl) (eElem w))
theorem mImp (w : World) : (Go.method (Tryd.prog.types.size + Made.depth) 108 (.agg #[.pointer (some ⟨2, 24, none⟩)]) "Implements").run Tryd.prog w = .ok (112, .agg #[.pointer (some ⟨2, 24, none⟩)]) w := by kernel_rfl
theorem eImp (w : World) : ((ReflectliteType.relation "Implements" ReflectliteType.implements_) #[.agg #[.pointer (some ⟨2, 24, none⟩)], .iface 108 (.agg #[.pointer (some ⟨2, 47, none⟩)])]).run Tryd.prog w = .ok (.bool true) w := by kernel_rfl
theorem cImp (w : World) : (callMethod (.iface 108 (.agg #[.pointer (some ⟨2, 24, none⟩)])) "Implements" #[.iface 108 (.agg #[.pointer (some ⟨2, 47, none⟩)])]).run Tryd.prog w = .ok (.value (.bool true)) w := met_run (mImp w) (ext_run (e := (ReflectliteType.relation "Implements" ReflectliteType.implements_)) Tryd.func112 (by kernel_rfl) (by kernel_rfl) (by kernel_rfl) (by kernel_rfl) (eImp w))
theorem mAssR (w : World) : (Go.method (Tryd.prog.types.size + Made.depth) 108 (.agg #[.pointer (some ⟨2, 84, none⟩)]) "AssignableTo").run Tryd.prog w = .ok (109, .agg #[.pointer (some ⟨2, 84, none⟩)]) w := by kernel_rfl
theorem eAssR (w : World) : ((ReflectliteType.relation "AssignableTo" ReflectliteType.assignableTo) #[.agg #[.pointer (some ⟨2, 84, none⟩)], .iface 108 (.agg #[.pointer (some ⟨2, 24, none⟩)])]).run Tryd.prog w = .ok (.bool false) w := by kernel_rfl
theorem cAssR (w : World) : (callMethod (.iface 108 (.agg #[.pointer (some ⟨2, 84, none⟩)])) "AssignableTo" #[.iface 108 (.agg #[.pointer (some ⟨2, 24, none⟩)])]).run Tryd.prog w = .ok (.value (.bool false)) w := met_run (mAssR w) (ext_run (e := (ReflectliteType.relation "AssignableTo" ReflectliteType.assignableTo)) Tryd.func109 (by kernel_rfl) (by kernel_rfl) (by kernel_rfl) (by kernel_rfl) (eAssR w))
theorem mAssE (w : World) : (Go.method (Tryd.prog.types.size + Made.depth) 108 (.agg #[.pointer (some ⟨2, 24, none⟩)]) "AssignableTo").run Tryd.prog w = .ok (109, .agg #[.pointer (some ⟨2, 24, none⟩)]) w := by kernel_rfl
theorem eAssE (w : World) : ((ReflectliteType.relation "AssignableTo" ReflectliteType.assignableTo) #[.agg #[.pointer (some ⟨2, 24, none⟩)], .iface 108 (.agg #[.pointer (some ⟨2, 24, none⟩)])]).run Tryd.prog w = .ok (.bool true) w := by kernel_rfl
theorem cAssE (w : World) : (callMethod (.iface 108 (.agg #[.pointer (some ⟨2, 24, none⟩)])) "AssignableTo" #[.iface 108 (.agg #[.pointer (some ⟨2, 24, none⟩)])]).run Tryd.prog w = .ok (.value (.bool true)) w := met_run (mAssE w) (ext_run (e := (ReflectliteType.relation "AssignableTo" ReflectliteType.assignableTo)) Tryd.func109 (by kernel_rfl) (by kernel_rfl) (by kernel_rfl) (by kernel_rfl) (eAssE w))
theorem mCmp (w : World) : (Go.method (Tryd.prog.types.size + Made.depth) 108 (.agg #[.pointer (some ⟨2, 24, none⟩)]) "Comparable").run Tryd.prog w = .ok (110, .agg #[.pointer (some ⟨2, 24, none⟩)]) w := by kernel_rfl
theorem eCmp (w : World) : ((ReflectliteType.method fun t => do Rtype.noPackHeld "Comparable" t; pure (.bool (← typeInfo t).comparable)) #[.agg #[.pointer (some ⟨2, 24, none⟩)]]).run Tryd.prog w = .ok (.bool true) w := by kernel_rfl
theorem cCmp (w : World) : (callMethod (.iface 108 (.agg #[.pointer (some ⟨2, 24, none⟩)])) "Comparable" #[]).run Tryd.prog w = .ok (.value (.bool true)) w := met_run (mCmp w) (ext_run (e := (ReflectliteType.method fun t => do Rtype.noPackHeld "Comparable" t; pure (.bool (← typeInfo t).comparable))) Tryd.func110 (by kernel_rfl) (by kernel_rfl) (by kernel_rfl) (by kernel_rfl) (eCmp w))
theorem rlm (z : Sem Value) (f : TypeId → Addr → Nat → Nat → Sem Value) (v : Value) : ReflectliteValue.method z f #[v] = (do match ← ReflectliteValue.parts v with | none => z | some (t, a, fl) => f t a fl (fl % 32)) := rfl
theorem partsP (a : Addr) (w : World) : (ReflectliteValue.parts (.agg #[.pointer (some ⟨2, 70, none⟩), .pointer (some a), .int .u64 150])).run Tryd.prog w = .ok (some (70, a, 150)) w := by kernel_rfl
theorem partsE (a : Addr) (w : World) : (ReflectliteValue.parts (.agg #[.pointer (some ⟨2, 24, none⟩), .pointer (some a), .int .u64 130])).run Tryd.prog w = .ok (some (24, a, 130)) w := by kernel_rfl
theorem partsEa (a : Addr) (w : World) : (ReflectliteValue.parts (.agg #[.pointer (some ⟨2, 24, none⟩), .pointer (some a), .int .u64 386])).run Tryd.prog w = .ok (some (24, a, 386)) w := by kernel_rfl
theorem isNilP (a p : Addr) (W : World) (ha : W.cell? a = some (.pointer (some p))) : (ReflectliteValue.method (ReflectliteValue.valueError "reflectlite.Value.IsNil" 0) ReflectliteValue.isNil #[.agg #[.pointer (some ⟨2, 70, none⟩), .pointer (some a), .int .u64 150]]).run Tryd.prog W = .ok (.bool false) W := by
 rw [rlm]
 simp only [Sem.run_bind, partsP, Result.andThen]
 simp [ReflectliteValue.isNil, loadVar, isAgg, underlying, Tryd.underlying70, ha, Result.andThen]
theorem nilP (a p : Addr) (w : World) (ha : w.cell? a = some (.pointer (some p))) : (callFunc 59 #[.agg #[.pointer (some ⟨2, 70, none⟩), .pointer (some a), .int .u64 150]]).run Tryd.prog w = .ok (.value (.bool false)) w := ext_run (e := (ReflectliteValue.method (ReflectliteValue.valueError "reflectlite.Value.IsNil" 0) ReflectliteValue.isNil)) Tryd.func59 (by kernel_rfl) (by kernel_rfl) (by kernel_rfl) (by kernel_rfl) (isNilP a p w ha)
theorem elemOfP (w : World) : (Rtype.elem? 70).run Tryd.prog w = .ok (some 24) w := by kernel_rfl
theorem mkE (p : Addr) (w : World) : (ReflectliteValue.mk 24 p ReflectliteValue.flagAddr).run Tryd.prog w = .ok (.agg #[.pointer (some ⟨2, 24, none⟩), .pointer (some p), .int .u64 386]) w := by kernel_rfl
theorem elemVP (a p : Addr) (W : World) (ha : W.cell? a = some (.pointer (some p))) : (ReflectliteValue.method (ReflectliteValue.valueError "reflectlite.Value.Elem" 0) ReflectliteValue.elem #[.agg #[.pointer (some ⟨2, 70, none⟩), .pointer (some a), .int .u64 150]]).run Tryd.prog W = .ok (.agg #[.pointer (some ⟨2, 24, none⟩), .pointer (some p), .int .u64 386]) W := by
 rw [rlm]
 simp only [Sem.run_bind, partsP, Result.andThen]
 simp [ReflectliteValue.elem, loadVar, isAgg, underlying, Tryd.underlying70, ha, Result.andThen, elemOfP, mkE]
theorem elmP (a p : Addr) (w : World) (ha : w.cell? a = some (.pointer (some p))) : (callFunc 65 #[.agg #[.pointer (some ⟨2, 70, none⟩), .pointer (some a), .int .u64 150]]).run Tryd.prog w = .ok (.value (.agg #[.pointer (some ⟨2, 24, none⟩), .pointer (some p), .int .u64 386])) w := ext_run (e := (ReflectliteValue.method (ReflectliteValue.valueError "reflectlite.Value.Elem" 0) ReflectliteValue.elem)) Tryd.func65 (by kernel_rfl) (by kernel_rfl) (by kernel_rfl) (by kernel_rfl) (elemVP a p w ha)
theorem rls (v x : Value) : ReflectliteValue.set #[v, x] = (do
    let (some (dst, a, fl), some (src, b, _)) := (← ReflectliteValue.parts v, ← ReflectliteValue.parts x)
     | unsupported (.noEntry "extern/(internal/reflectlite.Value).Set.zeroValue")
    if fl / ReflectliteValue.flagAddr % 2 == 0 then unsupported (.noEntry "extern/(internal/reflectlite.Value).Set.unaddressable")
    let val ← loadVar src b
    if ← Rtype.directlyAssignable dst src then storeVar dst a val
    else if ← Rtype.implements dst src then
     if (← Rtype.kind src) == 20 then
      match val with
      | .nilIface => unsupported (.noEntry "extern/reflectlite: a nil value of one interface type handed on as a value of another")
      | _ => storeVar dst a val
     else storeVar dst a (.iface src val)
    else panicString ("reflectlite.Set: value of type " ++ (← Rtype.spelt src) ++ " is not assignable to type " ++ (← Rtype.spelt dst))
    pure (.tuple #[])) := rfl
theorem directE (w : World) : (Rtype.directlyAssignable 24 24).run Tryd.prog w = .ok true w := by kernel_rfl
theorem setE (ta b : Addr) (x : Int) (old : Value) (W : World) (hb : W.cell? b = some (.int .i64 x)) (ht : W.cell? ta = some old) (hf : W.frozen? ta = false) :
    (ReflectliteValue.set #[.agg #[.pointer (some ⟨2, 24, none⟩), .pointer (some ta), .int .u64 386], .agg #[.pointer (some ⟨2, 24, none⟩), .pointer (some b), .int .u64 130]]).run Tryd.prog W = .ok (.tuple #[]) (W.setCell ta (.int .i64 x)) := by
 rw [rls]
 simp only [Sem.run_bind, partsEa, partsE, Result.andThen]
 simp [ReflectliteValue.flagAddr, loadVar, isAgg, underlying, Tryd.underlying24, hb, Result.andThen, directE, storeVar, Value.cells, storeCells, Addr.add]
 rw [run_store Tryd.prog W ta _ _ (by rfl)]
 simp [ht, hf]
theorem setX (ta b : Addr) (x : Int) (old : Value) (w : World) (hb : w.cell? b = some (.int .i64 x)) (ht : w.cell? ta = some old) (hf : w.frozen? ta = false) : (callFunc 66 #[.agg #[.pointer (some ⟨2, 24, none⟩), .pointer (some ta), .int .u64 386], .agg #[.pointer (some ⟨2, 24, none⟩), .pointer (some b), .int .u64 130]]).run Tryd.prog w = .ok (.value (.tuple #[])) (w.setCell ta (.int .i64 x)) := ext_run (e := ReflectliteValue.set) Tryd.func66 (by kernel_rfl) (by kernel_rfl) (by kernel_rfl) (by kernel_rfl) (setE ta b x old w hb ht hf)
theorem asRIs (v : Value) (xT : TypeId) (w : World) : (Instr.typeAssert (.iface 84 v) xT 110 true).run Tryd.prog w = .ok (.tuple #[.nilIface, .bool false]) w := run_typeAssert_lacksB Tryd.underlying110 (by kernel_rfl) (by kernel_rfl) v xT w
theorem asRAs (v : Value) (xT : TypeId) (w : World) : (Instr.typeAssert (.iface 84 v) xT 120 true).run Tryd.prog w = .ok (.tuple #[.nilIface, .bool false]) w := run_typeAssert_lacksB Tryd.underlying120 (by kernel_rfl) (by kernel_rfl) v xT w
theorem asRUn (v : Value) (xT : TypeId) (w : World) : (Instr.typeAssert (.iface 84 v) xT 113 true).run Tryd.prog w = .ok (.tuple #[.iface 84 v, .bool true]) w := run_typeAssert_hasB Tryd.underlying113 (by kernel_rfl) v xT w
theorem asEIs (v : Value) (xT : TypeId) (w : World) : (Instr.typeAssert (.iface 24 v) xT 110 true).run Tryd.prog w = .ok (.tuple #[.nilIface, .bool false]) w := run_typeAssert_lacksB Tryd.underlying110 (by kernel_rfl) (by kernel_rfl) v xT w
theorem asEUn (v : Value) (xT : TypeId) (w : World) : (Instr.typeAssert (.iface 24 v) xT 113 true).run Tryd.prog w = .ok (.tuple #[.nilIface, .bool false]) w := run_typeAssert_lacksB Tryd.underlying113 (by kernel_rfl) (by kernel_rfl) v xT w
theorem asEUns (v : Value) (xT : TypeId) (w : World) : (Instr.typeAssert (.iface 24 v) xT 115 true).run Tryd.prog w = .ok (.tuple #[.nilIface, .bool false]) w := run_typeAssert_lacksB Tryd.underlying115 (by kernel_rfl) (by kernel_rfl) v xT w
theorem eqRE (v u : Value) (w : World) : (binOp .eql 47 (.iface 84 v) (.iface 24 u)).run Tryd.prog w = .ok (.bool false) w := run_eql_iface_types 84 24 v u Tryd.underlying47 (by decide) w
theorem eqEE (x y : Int) (w : World) : (binOp .eql 47 (.iface 24 (.int .i64 x)) (.iface 24 (.int .i64 y))).run Tryd.prog w = .ok (.bool (x == y)) w := by kernel_rfl
theorem unwR (s : ByteArray) (e : Int) (w : World) : (callMethod (.iface 84 (.agg #[.string s, .int .i64 e])) "Unwrap" #[]).run Tryd.prog w = .ok (.enter 104 #[.agg #[.string s, .int .i64 e]]) w := by kernel_rfl
end Go.Proofs.YtanhhihechakhaaDoor
set_option linter.unusedVariables false
set_option linter.unusedSimpArgs false
namespace Go.Proofs.YtanhhihechakhaaDoor
open Go.RowKit Go.Proofs.YtanhhihechakhaaDoor.E
set_option maxRecDepth 100000 in
theorem unwrap_c (s : ByteArray) (e : Int) (h : Hp) : C0 Tryd.prog 104 [.agg #[.string s, .int .i64 e]] h (.iface 24 (.int .i64 e)) := by
 refine enter0 Tryd.func104 rfl rfl rfl (fun w => ?_)
 refine cy_seq ?_
 refine cy_region ?_
 refine sy_box rfl rfl rfl rfl (fun b1 hb1 hM1 => ?_) (by simp)
 refine sy_assign rfl rfl rfl ?_
 refine sy_nil rfl ?_
 refine ny_next ?_
 refine cy_seq ?_
 refine cy_region ?_
 refine sy_field fld_84_1 rfl rfl rfl ?_
 first | refine sy_ldr 0 one_24 rfl rfl rfl rfl rfl ?_ | refine sy_ldr 1 one_24 rfl rfl rfl rfl rfl ?_
 refine sy_iface Tryd.underlying24 rfl rfl rfl rfl ?_
 refine sy_assign rfl rfl rfl ?_
 refine sy_nil rfl ?_
 refine ny_next ?_
 refine cy_ret ?_
 refine ny_finR (res1 rfl rfl) (fun w hs => ⟨?_, hs.frm⟩)
 rfl
set_option maxRecDepth 100000 in
theorem is2R_c (s : ByteArray) (e : Int) (h : Hp) : C0 Tryd.prog 56 [.iface 84 (.agg #[.string s, .int .i64 e]), .iface 24 (.int .i64 1), .bool true] h (.bool (e == 1)) := by
 refine enter0 Tryd.func56 rfl rfl rfl (fun w => ?_)
 refine cy_seq ?_
 refine cy_region ?_
 refine sy_assign rfl rfl rfl ?_
 refine sy_nil rfl ?_
 refine ny_next ?_
 refine cy_block ?_
 refine cy_rounds 1 ?_
 refine cy_block ?_
 refine cy_seq ?_
 refine cy_seq ?_
 refine cy_region ?_
 refine sy_move rfl rfl rfl ?_
 refine sy_setT (d := 14) rfl rfl rfl ?_
 refine sy_move rfl rfl rfl ?_
 refine sy_move rfl rfl rfl ?_
 refine sy_move rfl rfl rfl ?_
 refine sy_eqif rfl rfl (fun w => eqRE _ _ w) rfl rfl ?_
 refine sy_pickT rfl rfl rfl rfl ?_
 refine sy_setF (d := 19) rfl rfl rfl ?_
 refine sy_nil rfl ?_
 refine ny_next ?_
 refine cy_condF rfl ?_
 refine cy_skip ?_
 refine ny_next ?_
 refine cy_seq ?_
 refine cy_seq ?_
 refine cy_region ?_
 refine sy_move rfl rfl rfl ?_
 refine sy_assert rfl (fun w => asRIs _ _ w) rfl rfl ?_
 refine sy_move rfl rfl rfl ?_
 refine sy_extract rfl rfl rfl rfl ?_
 refine sy_extract rfl rfl rfl rfl ?_
 refine sy_setF (d := 24) rfl rfl rfl ?_
 refine sy_assign rfl rfl rfl ?_
 refine sy_assign rfl rfl rfl ?_
 refine sy_nil rfl ?_
 refine ny_next ?_
 refine cy_seq ?_
 refine cy_region ?_
 refine sy_move rfl rfl rfl ?_
 refine sy_move rfl rfl rfl ?_
 refine sy_skip rfl rfl rfl ?_
 refine sy_skip rfl rfl rfl ?_
 refine sy_skip rfl rfl rfl ?_
 refine sy_pickF rfl rfl rfl rfl ?_
 refine sy_nil rfl ?_
 refine ny_next ?_
 refine cy_condF rfl ?_
 refine cy_skip ?_
 refine ny_next ?_
 refine cy_seq ?_
 refine cy_region ?_
 refine sy_move rfl rfl rfl ?_
 refine sy_nil rfl ?_
 refine ny_next ?_
 refine cy_block ?_
 refine cy_seq ?_
 refine cy_region ?_
 refine sy_assert rfl (fun w => asRUn _ _ w) rfl rfl ?_
 refine sy_extract rfl rfl rfl rfl ?_
 refine sy_setT (d := 33) rfl rfl rfl ?_
 refine sy_extract rfl rfl rfl rfl ?_
 refine sy_nil rfl ?_
 refine ny_next ?_
 refine cy_condT rfl ?_
 refine cy_seq ?_
 refine cy_region ?_
 refine sy_assign rfl rfl rfl ?_
 refine sy_nil rfl ?_
 refine ny_next ?_
 refine cy_seq ?_
 refine cy_region ?_
 refine sy_move rfl rfl rfl ?_
 refine sy_invoke rfl rfl rfl (fun w => unwR s e w) (unwrap_c s e h) rfl rfl ?_
 refine sy_assign rfl rfl rfl ?_
 refine sy_nil rfl ?_
 refine ny_next ?_
 refine cy_seq ?_
 refine cy_region ?_
 refine sy_move rfl rfl rfl ?_
 refine sy_eqn Tryd.underlying47 rfl rfl rfl rfl rfl ?_
 refine sy_setF (d := 38) rfl rfl rfl ?_
 refine sy_nil rfl ?_
 refine ny_next ?_
 refine cy_condF rfl ?_
 refine cy_skip ?_
 refine ny_blockN ?_
 refine ny_blockN ?_
 refine ny_again ?_
 refine cy_block ?_
 refine cy_seq ?_
 refine cy_seq ?_
 refine cy_region ?_
 refine sy_move rfl rfl rfl ?_
 refine sy_setT (d := 14) rfl rfl rfl ?_
 refine sy_move rfl rfl rfl ?_
 refine sy_move rfl rfl rfl ?_
 refine sy_move rfl rfl rfl ?_
 refine sy_eqif rfl rfl (fun w => eqEE _ _ w) rfl rfl ?_
 refine sy_pickT rfl rfl rfl rfl ?_
 refine sy_nil rfl ?_
 refine ny_next ?_
 refine cy_cond rfl (fun hc19 => ?_) (fun hc19 => ?_)
 · refine cy_seq ?_
   refine cy_region ?_
   refine sy_assign rfl rfl rfl ?_
   refine sy_nil rfl ?_
   refine ny_next ?_
   refine cy_ret ?_
   refine ny_thenR ?_
   refine ny_blockR ?_
   refine ny_thenR ?_
   refine ny_blockR ?_
   refine ny_finR (res1 rfl rfl) (fun w hs => ⟨?_, hs.frm⟩)
   first | rw [hc19] | (simp_all; done) | rfl
 · refine cy_skip ?_
   refine ny_next ?_
   refine cy_seq ?_
   refine cy_seq ?_
   refine cy_region ?_
   refine sy_move rfl rfl rfl ?_
   refine sy_assert rfl (fun w => asEIs _ _ w) rfl rfl ?_
   refine sy_move rfl rfl rfl ?_
   refine sy_extract rfl rfl rfl rfl ?_
   refine sy_extract rfl rfl rfl rfl ?_
   refine sy_setF (d := 24) rfl rfl rfl ?_
   refine sy_assign rfl rfl rfl ?_
   refine sy_assign rfl rfl rfl ?_
   refine sy_nil rfl ?_
   refine ny_next ?_
   refine cy_seq ?_
   refine cy_region ?_
   refine sy_move rfl rfl rfl ?_
   refine sy_move rfl rfl rfl ?_
   refine sy_skip rfl rfl rfl ?_
   refine sy_skip rfl rfl rfl ?_
   refine sy_skip rfl rfl rfl ?_
   refine sy_pickF rfl rfl rfl rfl ?_
   refine sy_nil rfl ?_
   refine ny_next ?_
   refine cy_condF rfl ?_
   refine cy_skip ?_
   refine ny_next ?_
   refine cy_seq ?_
   refine cy_region ?_
   refine sy_move rfl rfl rfl ?_
   refine sy_nil rfl ?_
   refine ny_next ?_
   refine cy_block ?_
   refine cy_seq ?_
   refine cy_region ?_
   refine sy_assert rfl (fun w => asEUn _ _ w) rfl rfl ?_
   refine sy_extract rfl rfl rfl rfl ?_
   refine sy_setF (d := 33) rfl rfl rfl ?_
   refine sy_extract rfl rfl rfl rfl ?_
   refine sy_nil rfl ?_
   refine ny_next ?_
   refine cy_condF rfl ?_
   refine cy_seq ?_
   refine cy_region ?_
   refine sy_assert rfl (fun w => asEUns _ _ w) rfl rfl ?_
   refine sy_extract rfl rfl rfl rfl ?_
   refine sy_setF (d := 40) rfl rfl rfl ?_
   refine sy_extract rfl rfl rfl rfl ?_
   refine sy_nil rfl ?_
   refine ny_next ?_
   refine cy_condF rfl ?_
   refine cy_seq ?_
   refine cy_region ?_
   refine sy_assign rfl rfl rfl ?_
   refine sy_nil rfl ?_
   refine ny_next ?_
   refine cy_seq ?_
   refine cy_region ?_
   refine sy_assign rfl rfl rfl ?_
   refine sy_nil rfl ?_
   refine ny_next ?_
   refine cy_ret ?_
   refine ny_blockR ?_
   refine ny_blockR ?_
   refine ny_thenR ?_
   refine ny_blockR ?_
   refine ny_finR (res1 rfl rfl) (fun w hs => ⟨?_, hs.frm⟩)
   first | rw [hc19] | (simp_all; done) | rfl
set_option maxRecDepth 100000 in
theorem isR_c (s : ByteArray) (e : Int) (h : Hp) : C0 Tryd.prog 34 [.iface 84 (.agg #[.string s, .int .i64 e]), .iface 24 (.int .i64 1)] h (.bool (e == 1)) := by
 refine enter0 Tryd.func34 rfl rfl rfl (fun w => ?_)
 refine cy_seq ?_
 refine cy_region ?_
 refine sy_assign rfl rfl rfl ?_
 refine sy_nil rfl ?_
 refine ny_next ?_
 refine cy_seq ?_
 refine cy_seq ?_
 refine cy_region ?_
 refine sy_move rfl rfl rfl ?_
 refine sy_eqn Tryd.underlying47 rfl rfl rfl rfl rfl ?_
 refine sy_setF (d := 7) rfl rfl rfl ?_
 refine sy_move rfl rfl rfl ?_
 refine sy_move rfl rfl rfl ?_
 refine sy_eqn Tryd.underlying47 rfl rfl rfl rfl rfl ?_
 refine sy_pickF rfl rfl rfl rfl ?_
 refine sy_setF (d := 11) rfl rfl rfl ?_
 refine sy_nil rfl ?_
 refine ny_next ?_
 refine cy_condF rfl ?_
 refine cy_skip ?_
 refine ny_next ?_
 refine cy_seq ?_
 refine cy_region ?_
 refine sy_move rfl rfl rfl ?_
 refine sy_exq rfl (fun w hs => tofE _ w) rfl rfl ?_
 refine sy_invq rfl rfl (fun w => cCmp w) rfl rfl ?_
 refine sy_assign rfl rfl rfl ?_
 refine sy_nil rfl ?_
 refine ny_next ?_
 refine cy_seq ?_
 refine cy_region ?_
 refine sy_move rfl rfl rfl ?_
 refine sy_move rfl rfl rfl ?_
 refine sy_move rfl rfl rfl ?_
 refine sy_call rfl call_56 rfl (is2R_c s e h) rfl rfl ?_
 refine sy_assign rfl rfl rfl ?_
 refine sy_nil rfl ?_
 refine ny_next ?_
 refine cy_ret ?_
 refine ny_finR (res1 rfl rfl) (fun w hs => ⟨?_, hs.frm⟩)
 rfl
set_option maxRecDepth 100000 in
theorem as2R_c (s : ByteArray) (e x0 : Int) (b bq : Nat) (h : Hp) (hq : h bq = some (.cells #[.pointer (some ⟨b, 0, none⟩)] 70 (0, 0))) : CXM Tryd.prog 60 [.iface 84 (.agg #[.string s, .int .i64 e]), .iface 70 (.pointer (some ⟨b, 0, none⟩)), .agg #[.pointer (some ⟨2, 70, none⟩), .pointer (some ⟨bq, 0, none⟩), .int .u64 150], .iface 108 (.agg #[.pointer (some ⟨2, 24, none⟩)])] h b (.cells [.int .i64 x0].toArray 24 (0, 0)) (fun _ : Unit => .bool true) (fun _ _ o => o = .cells [.int .i64 e].toArray 24 (0, 0)) := by
 refine enterXM Tryd.func60 rfl rfl rfl (fun w hb0 => ?_)
 refine cy_seq ?_
 refine cy_region ?_
 refine sy_box rfl rfl rfl rfl (fun b6 hb6 hM6 => ?_) (by simp only [List.mem_singleton]; rintro _ rfl; exact hb0)
 refine sy_assign rfl rfl rfl ?_
 refine sy_nil rfl ?_
 refine ny_next ?_
 refine cy_block ?_
 refine cy_rounds 1 ?_
 refine cy_block ?_
 refine cy_seq ?_
 refine cy_seq ?_
 refine cy_region ?_
 refine sy_move rfl rfl rfl ?_
 refine sy_exq rfl (fun w hs => tofRef _ w) rfl rfl ?_
 refine sy_move rfl rfl rfl ?_
 refine sy_invq rfl rfl (fun w => cAssR w) rfl rfl ?_
 refine sy_setF (d := 19) rfl rfl rfl ?_
 refine sy_nil rfl ?_
 refine ny_next ?_
 refine cy_condF rfl ?_
 refine cy_skip ?_
 refine ny_next ?_
 refine cy_seq ?_
 refine cy_seq ?_
 refine cy_region ?_
 refine sy_move rfl rfl rfl ?_
 refine sy_assert rfl (fun w => asRAs _ _ w) rfl rfl ?_
 refine sy_move rfl rfl rfl ?_
 refine sy_extract rfl rfl rfl rfl ?_
 refine sy_extract rfl rfl rfl rfl ?_
 refine sy_setF (d := 29) rfl rfl rfl ?_
 refine sy_assign rfl rfl rfl ?_
 refine sy_assign rfl rfl rfl ?_
 refine sy_nil rfl ?_
 refine ny_next ?_
 refine cy_seq ?_
 refine cy_region ?_
 refine sy_move rfl rfl rfl ?_
 refine sy_move rfl rfl rfl ?_
 refine sy_skip rfl rfl rfl ?_
 refine sy_skip rfl rfl rfl ?_
 refine sy_skip rfl rfl rfl ?_
 refine sy_pickF rfl rfl rfl rfl ?_
 refine sy_nil rfl ?_
 refine ny_next ?_
 refine cy_condF rfl ?_
 refine cy_skip ?_
 refine ny_next ?_
 refine cy_seq ?_
 refine cy_region ?_
 refine sy_move rfl rfl rfl ?_
 refine sy_nil rfl ?_
 refine ny_next ?_
 refine cy_block ?_
 refine cy_seq ?_
 refine cy_region ?_
 refine sy_assert rfl (fun w => asRUn _ _ w) rfl rfl ?_
 refine sy_extract rfl rfl rfl rfl ?_
 refine sy_setT (d := 38) rfl rfl rfl ?_
 refine sy_extract rfl rfl rfl rfl ?_
 refine sy_nil rfl ?_
 refine ny_next ?_
 refine cy_condT rfl ?_
 refine cy_seq ?_
 refine cy_region ?_
 refine sy_assign rfl rfl rfl ?_
 refine sy_nil rfl ?_
 refine ny_next ?_
 refine cy_seq ?_
 refine cy_region ?_
 refine sy_move rfl rfl rfl ?_
 refine sy_invoke rfl rfl rfl (fun w => unwR s e w) (unwrap_c s e h) rfl rfl ?_
 refine sy_assign rfl rfl rfl ?_
 refine sy_nil rfl ?_
 refine ny_next ?_
 refine cy_seq ?_
 refine cy_region ?_
 refine sy_move rfl rfl rfl ?_
 refine sy_eqn Tryd.underlying47 rfl rfl rfl rfl rfl ?_
 refine sy_setF (d := 43) rfl rfl rfl ?_
 refine sy_nil rfl ?_
 refine ny_next ?_
 refine cy_condF rfl ?_
 refine cy_skip ?_
 refine ny_blockN ?_
 refine ny_blockN ?_
 refine ny_again ?_
 refine cy_block ?_
 refine cy_seq ?_
 refine cy_seq ?_
 refine cy_region ?_
 refine sy_move rfl rfl rfl ?_
 refine sy_exq rfl (fun w hs => tofE _ w) rfl rfl ?_
 refine sy_move rfl rfl rfl ?_
 refine sy_invq rfl rfl (fun w => cAssE w) rfl rfl ?_
 refine sy_setT (d := 19) rfl rfl rfl ?_
 refine sy_nil rfl ?_
 refine ny_next ?_
 refine cy_condT rfl ?_
 refine cy_seq ?_
 refine cy_region ?_
 first | refine sy_ldar 0 agg_95 rfl rfl rfl rfl rfl ?_ | refine sy_ldar 1 agg_95 rfl rfl rfl rfl rfl ?_ | refine sy_ldar 2 agg_95 rfl rfl rfl rfl rfl ?_ | refine sy_ldar 3 agg_95 rfl rfl rfl rfl rfl ?_ | refine sy_ldar 4 agg_95 rfl rfl rfl rfl rfl ?_ | refine sy_ldar 5 agg_95 rfl rfl rfl rfl rfl ?_
 refine sy_exq rfl (fun w hs => elmP ⟨bq, 0, none⟩ ⟨b, 0, none⟩ w (hs.sub.cell (Hp.blk hq 0 _ rfl))) rfl rfl ?_
 refine sy_move rfl rfl rfl ?_
 refine sy_exn (v := fun b2 => .agg #[.pointer (some ⟨2, 24, none⟩), .pointer (some ⟨b2, 0, none⟩), .int .u64 130]) rfl (fun w => vofE e w) rfl rfl (fun b23 hb23 hM23 => ?_) (by simp only [List.mem_singleton]; rintro _ rfl; exact hb0)
 refine sy_exw2 (off := 0) (old := .int .i64 x0) (new := .int .i64 e) (cs := [.int .i64 x0]) 2 rfl rfl rfl rfl (fun w hs hc hz => setX ⟨b, 0, none⟩ ⟨b23, 0, none⟩ e _ w (hs.cellQ 0 (cs := [.int .i64 e]) rfl rfl) hc hz) rfl rfl ?_
 refine sy_nil rfl ?_
 refine ny_next ?_
 refine cy_seq ?_
 refine cy_region ?_
 refine sy_assign rfl rfl rfl ?_
 refine sy_nil rfl ?_
 refine ny_next ?_
 refine cy_ret ?_
 refine ny_thenR ?_
 refine ny_blockR ?_
 refine ny_thenR ?_
 refine ny_blockR ?_
 exact ny_finR (res1 rfl rfl) (fun w hs => ⟨(), _, _, rfl, rfl, hs.toTurn⟩)
set_option maxRecDepth 100000 in
theorem asR_c (s : ByteArray) (e x0 : Int) (b : Nat) (h : Hp) (hG : h.cell ⟨0, 0, none⟩ = some (.iface 108 (.agg #[.pointer (some ⟨2, 47, none⟩)]))) : CXM Tryd.prog 35 [.iface 84 (.agg #[.string s, .int .i64 e]), .iface 70 (.pointer (some ⟨b, 0, none⟩))] h b (.cells [.int .i64 x0].toArray 24 (0, 0)) (fun _ : Unit => .bool true) (fun _ _ o => o = .cells [.int .i64 e].toArray 24 (0, 0)) := by
 refine enterXM Tryd.func35 rfl rfl rfl (fun w hb0 => ?_)
 refine cy_seq ?_
 refine cy_region ?_
 refine sy_assign rfl rfl rfl ?_
 refine sy_nil rfl ?_
 refine ny_next ?_
 refine cy_seq ?_
 refine cy_seq ?_
 refine cy_region ?_
 refine sy_move rfl rfl rfl ?_
 refine sy_eqn Tryd.underlying47 rfl rfl rfl rfl rfl ?_
 refine sy_setF (d := 9) rfl rfl rfl ?_
 refine sy_nil rfl ?_
 refine ny_next ?_
 refine cy_condF rfl ?_
 refine cy_skip ?_
 refine ny_next ?_
 refine cy_seq ?_
 refine cy_seq ?_
 refine cy_region ?_
 refine sy_move rfl rfl rfl ?_
 refine sy_eqn Tryd.underlying20 rfl rfl rfl rfl rfl ?_
 refine sy_setF (d := 11) rfl rfl rfl ?_
 refine sy_nil rfl ?_
 refine ny_next ?_
 refine cy_condF rfl ?_
 refine cy_skip ?_
 refine ny_next ?_
 refine cy_seq ?_
 refine cy_region ?_
 refine sy_move rfl rfl rfl ?_
 refine sy_exn (v := fun b2 => .agg #[.pointer (some ⟨2, 70, none⟩), .pointer (some ⟨b2, 0, none⟩), .int .u64 150]) rfl (fun w => vofP ⟨b, 0, none⟩ w) rfl rfl (fun b14 hb14 hM14 => ?_) (by simp only [List.mem_singleton]; rintro _ rfl; exact hb0)
 refine sy_frz 0 rfl hM14 (fun hq hleq hbq => ?_)
 refine sy_alloc zer_95 rfl rfl (fun b5 hb5 hM5 => ?_) (by simp only [List.mem_singleton]; rintro _ rfl; exact hb0)
 first | refine sy_stl 0 sz_95 rfl rfl rfl rfl rfl rfl rfl rfl ?_ | refine sy_stl 1 sz_95 rfl rfl rfl rfl rfl rfl rfl rfl ?_ | refine sy_stl 2 sz_95 rfl rfl rfl rfl rfl rfl rfl rfl ?_ | refine sy_stl 3 sz_95 rfl rfl rfl rfl rfl rfl rfl rfl ?_ | refine sy_stl 4 sz_95 rfl rfl rfl rfl rfl rfl rfl rfl ?_ | refine sy_stl 5 sz_95 rfl rfl rfl rfl rfl rfl rfl rfl ?_
 refine sy_nil rfl ?_
 refine ny_next ?_
 refine cy_seq ?_
 refine cy_region ?_
 first | refine sy_ldar 0 agg_95 rfl rfl rfl rfl rfl ?_ | refine sy_ldar 1 agg_95 rfl rfl rfl rfl rfl ?_ | refine sy_ldar 2 agg_95 rfl rfl rfl rfl rfl ?_ | refine sy_ldar 3 agg_95 rfl rfl rfl rfl rfl ?_ | refine sy_ldar 4 agg_95 rfl rfl rfl rfl rfl ?_ | refine sy_ldar 5 agg_95 rfl rfl rfl rfl rfl ?_
 refine sy_exq rfl (fun w hs => typP ⟨b14, 0, none⟩ w) rfl rfl ?_
 refine sy_assign rfl rfl rfl ?_
 refine sy_nil rfl ?_
 refine ny_next ?_
 refine cy_seq ?_
 refine cy_seq ?_
 refine cy_region ?_
 refine sy_move rfl rfl rfl ?_
 refine sy_invq rfl rfl (fun w => cKindP w) rfl rfl ?_
 refine sy_cmp rfl rfl rfl rfl rfl ?_
 refine sy_setF (d := 19) rfl rfl rfl ?_
 refine sy_move rfl rfl rfl ?_
 first | refine sy_ldar 0 agg_95 rfl rfl rfl rfl rfl ?_ | refine sy_ldar 1 agg_95 rfl rfl rfl rfl rfl ?_ | refine sy_ldar 2 agg_95 rfl rfl rfl rfl rfl ?_ | refine sy_ldar 3 agg_95 rfl rfl rfl rfl rfl ?_ | refine sy_ldar 4 agg_95 rfl rfl rfl rfl rfl ?_ | refine sy_ldar 5 agg_95 rfl rfl rfl rfl rfl ?_
 refine sy_exq rfl (fun w hs => nilP ⟨b14, 0, none⟩ ⟨b, 0, none⟩ w (hs.sub.cell (Hp.blk hbq 0 _ rfl))) rfl rfl ?_
 refine sy_pickF rfl rfl rfl rfl ?_
 refine sy_setF (d := 23) rfl rfl rfl ?_
 refine sy_nil rfl ?_
 refine ny_next ?_
 refine cy_condF rfl ?_
 refine cy_skip ?_
 refine ny_next ?_
 refine cy_seq ?_
 refine cy_region ?_
 refine sy_move rfl rfl rfl ?_
 refine sy_invq rfl rfl (fun w => cElem w) rfl rfl ?_
 refine sy_assign rfl rfl rfl ?_
 refine sy_nil rfl ?_
 refine ny_next ?_
 refine cy_seq ?_
 refine cy_seq ?_
 refine cy_region ?_
 refine sy_move rfl rfl rfl ?_
 refine sy_invq rfl rfl (fun w => cKindE w) rfl rfl ?_
 refine sy_cmp rfl rfl rfl rfl rfl ?_
 refine sy_setT (d := 29) rfl rfl rfl ?_
 refine sy_move rfl rfl rfl ?_
 refine sy_move rfl rfl rfl ?_
 refine sy_ldh one_89 rfl (hleq.cell hG) rfl rfl ?_
 refine sy_invq rfl rfl (fun w => cImp w) rfl rfl ?_
 refine sy_setT (d := 33) rfl rfl rfl ?_
 refine sy_not rfl rfl rfl ?_
 refine sy_pickT rfl rfl rfl rfl ?_
 refine sy_setF (d := 35) rfl rfl rfl ?_
 refine sy_nil rfl ?_
 refine ny_next ?_
 refine cy_condF rfl ?_
 refine cy_skip ?_
 refine ny_next ?_
 refine cy_seq ?_
 refine cy_region ?_
 refine sy_move rfl rfl rfl ?_
 refine sy_move rfl rfl rfl ?_
 first | refine sy_ldar 0 agg_95 rfl rfl rfl rfl rfl ?_ | refine sy_ldar 1 agg_95 rfl rfl rfl rfl rfl ?_ | refine sy_ldar 2 agg_95 rfl rfl rfl rfl rfl ?_ | refine sy_ldar 3 agg_95 rfl rfl rfl rfl rfl ?_ | refine sy_ldar 4 agg_95 rfl rfl rfl rfl rfl ?_ | refine sy_ldar 5 agg_95 rfl rfl rfl rfl rfl ?_
 refine sy_move rfl rfl rfl ?_
 refine sy_callxm 1 call_60 rfl rfl (as2R_c s e x0 b b14 hq hbq) rfl rfl (fun x41 h41 o41 hx41 hle41 => ?_)
 subst hx41
 refine sy_assign rfl rfl rfl ?_
 refine sy_nil rfl ?_
 refine ny_next ?_
 refine cy_ret ?_
 exact ny_finR (res1 rfl rfl) (fun w hs => ⟨(), _, _, rfl, rfl, hs.toTurn⟩)
set_option maxRecDepth 100000 in
theorem codeR_c (s : ByteArray) (e : Int) (h : Hp) (hG : h.cell ⟨0, 0, none⟩ = some (.iface 108 (.agg #[.pointer (some ⟨2, 47, none⟩)]))) : C0 Tryd.prog 21 [.iface 84 (.agg #[.string s, .int .i64 e])] h (.int .i64 e) := by
 refine enter0 Tryd.func21 rfl rfl rfl (fun w => ?_)
 refine cy_seq ?_
 refine cy_region ?_
 refine sy_assign rfl rfl rfl ?_
 refine sy_nil rfl ?_
 refine ny_next ?_
 refine cy_seq ?_
 refine cy_region ?_
 refine sy_alloc zer_24 rfl rfl (fun b3 hb3 hM3 => ?_) (by simp)
 refine sy_nil rfl ?_
 refine ny_next ?_
 refine cy_seq ?_
 refine cy_block ?_
 refine cy_seq ?_
 refine cy_region ?_
 refine sy_move rfl rfl rfl ?_
 refine sy_eqn Tryd.underlying47 rfl rfl rfl rfl rfl ?_
 refine sy_setF (d := 6) rfl rfl rfl ?_
 refine sy_assign rfl rfl rfl ?_
 refine sy_nil rfl ?_
 refine ny_next ?_
 refine cy_condF rfl ?_
 refine cy_seq ?_
 refine cy_region ?_
 refine sy_move rfl rfl rfl ?_
 refine sy_iface Tryd.underlying24 rfl rfl rfl rfl ?_
 refine sy_call rfl call_34 rfl (isR_c s e h) rfl rfl ?_
 refine sy_assign rfl rfl rfl ?_
 refine sy_nil rfl ?_
 refine ny_next ?_
 refine cy_cond rfl (fun hc7 => ?_) (fun hc7 => ?_)
 · refine cy_seq ?_
   refine cy_region ?_
   refine sy_assign rfl rfl rfl ?_
   refine sy_nil rfl ?_
   refine ny_next ?_
   refine cy_ret ?_
   refine ny_blockR ?_
   refine ny_thenR ?_
   refine ny_finR (res1 rfl rfl) (fun w hs => ⟨?_, hs.frm⟩)
   first | rfl | (have he1 := eq_of_beq hc7; rw [he1]) | (simp_all; done)
 · refine cy_seq ?_
   refine cy_region ?_
   refine sy_move rfl rfl rfl ?_
   refine sy_iface Tryd.underlying70 rfl rfl rfl rfl ?_
   refine sy_callxm 0 call_35 rfl rfl (asR_c s e 0 _ h hG) rfl rfl (fun x14 h14 o14 hx14 hle14 => ?_)
   subst hx14
   refine sy_setT (d := 14) rfl rfl rfl ?_
   refine sy_assign rfl rfl rfl ?_
   refine sy_nil rfl ?_
   refine ny_next ?_
   refine cy_condT rfl ?_
   refine cy_seq ?_
   refine cy_region ?_
   first | refine sy_ldr 0 one_24 rfl rfl rfl rfl rfl ?_ | refine sy_ldr 1 one_24 rfl rfl rfl rfl rfl ?_ | refine sy_ldr 2 one_24 rfl rfl rfl rfl rfl ?_
   refine sy_assign rfl rfl rfl ?_
   refine sy_nil rfl ?_
   refine ny_next ?_
   refine cy_ret ?_
   refine ny_blockR ?_
   refine ny_thenR ?_
   refine ny_finR (res1 rfl rfl) (fun w hs => ⟨?_, hs.frm⟩)
   first | rfl | (have he1 := eq_of_beq hc7; rw [he1]) | (simp_all; done)
end Go.Proofs.YtanhhihechakhaaDoor
set_option linter.unusedVariables false
set_option linter.unusedSimpArgs false
namespace Go.Proofs.YtanhhihechakhaaDoor.ReadP
open Go.RowKit Go.Proofs.YtanhhihechakhaaDoor.E Go.Proofs.YtanhhihechakhaaDoor.ReplP Go.Proofs.YtanhhihechakhaaDoor.TokP Go.Proofs.YtanhhihechakhaaDoor.TermP Go.Proofs.YtanhhihechakhaaDoor.WrP Go.Proofs.YtanhhihechakhaaDoor.OpsP
def NumOk (a : Ans) : Prop := -9223372036854775808 ≤ a.num ∧ a.num ≤ 9223372036854775807
theorem numok_zero (k : Int) (s : ByteArray) (q : Bool) (u : Nat) : NumOk (.tok k s 0 q u) := by exact ⟨by show (-9223372036854775808 : Int) ≤ 0; decide, by show (0 : Int) ≤ 9223372036854775807; decide⟩
theorem numok_bad (w : ByteArray) (e : Int) : NumOk (.bad w e) := by exact ⟨by show (-9223372036854775808 : Int) ≤ 0; decide, by show (0 : Int) ≤ 9223372036854775807; decide⟩
theorem quo_numok : ∀ (m : Nat) (r out : List UInt8) (k : Nat), r.length ≤ m → NumOk (quoL r out k)
 | _, [], _, _, _ => by rw [quoL]; exact numok_bad _ _
 | 0, _ :: _, _, _, h => by simp at h
 | m + 1, [c], out, k, h => by
  rw [quoL]
  split
  · exact numok_zero _ _ _ _
  · split
    · exact numok_bad _ _
    · split <;> exact numok_bad _ _
 | m + 1, c :: d :: t, out, k, h => by
  have hl : t.length + 1 ≤ m := by simpa using h
  rw [quoL]
  split
  · split
    · exact quo_numok m t _ _ (by omega)
    · exact numok_zero _ _ _ _
  · split
    · split
      · exact quo_numok m t _ _ (by omega)
      · exact numok_bad _ _
    · split
      · exact numok_bad _ _
      · exact quo_numok m (d :: t) _ _ (by simpa using hl)
theorem one_numok (c : UInt8) (l : List UInt8) : NumOk (oneC c l) := by
 unfold oneC
 split
 · exact numok_zero _ _ _ _
 split
 · exact numok_zero _ _ _ _
 split
 · unfold numA
   split
   · exact numok_bad _ _
   · split
     · exact numok_bad _ _
     · exact wrap_bounds _
 split
 · exact quo_numok _ _ _ _ (Nat.le_refl _)
 split
 · exact numok_zero _ _ _ _
 split
 · exact numok_zero _ _ _ _
 split
 · exact numok_zero _ _ _ _
 split
 · exact numok_zero _ _ _ _
 · exact numok_bad _ _
theorem lx_numok {b : Bool} {l : List UInt8} {ts : List Tk} (h : Lx b l ts) : ∀ t ∈ ts, NumOk t.a := by
 induction h with
 | done h => intro t ht; exact (List.not_mem_nil ht).elim
 | tok h hr ha he k ih =>
  intro t ht
  rcases List.mem_cons.1 ht with rfl | ht
  · show NumOk _
    rw [ha]
    exact one_numok _ _
  · exact ih t ht
theorem lx_tokok {b : Bool} {l : List UInt8} {ts : List Tk} (h : Lx b l ts) : ∀ x ∈ ts.map rtOf, TokOk x := fun x hx => by
 obtain ⟨t, ht, rfl⟩ := List.mem_map.1 hx
 have h1 := (lx_fair h).1 t ht
 have h2 := lx_numok h t ht
 refine ⟨⟨?_, ?_⟩, ?_, h2⟩
 · have := h1.kind.1; show _ ≤ t.a.kind; omega
 · have := h1.kind.2; show t.a.kind ≤ _; omega
 · have := h1.size; show t.a.str.size ≤ _; omega
theorem preW_le : ∀ {L : List RT} (i : Nat), (∀ t ∈ L, t.str.size ≤ 64) → preW L i ≤ 72 * L.length
 | _, 0, _ => by rw [preW]; exact Nat.zero_le _
 | [], i + 1, _ => by rw [preW]; exact Nat.zero_le _
 | t :: l, i + 1, h => by
  have h1 := preW_le (L := l) i (fun x hx => h x (List.mem_cons_of_mem _ hx))
  have h2 := h t List.mem_cons_self
  rw [preW, List.length_cons]
  omega
theorem lx_preW {b : Bool} {l : List UInt8} {ts : List Tk} (h : Lx b l ts) (hl : l.length ≤ 4096) (i : Nat) : preW (ts.map rtOf) i ≤ 294912 := by
 have h1 := (lx_fair h).2.2.1
 have h2 := preW_le (L := ts.map rtOf) i (fun x hx => by
  obtain ⟨t, ht, rfl⟩ := List.mem_map.1 hx
  exact ((lx_fair h).1 t ht).size)
 rw [List.length_map] at h2
 omega
/-! part by part -/
def raT : RA → List Tm
 | .ok l => l
 | .bad _ _ => []
def raAt : RA → Nat
 | .ok _ => 0
 | .bad a _ => a
def raE : RA → Int
 | .ok _ => 0
 | .bad _ e => e
theorem allA_no {lv : Int} {l : List UInt8} {x : ByteArray × Int} (h : scE (scanA l) = some x) : allA lv l = .bad (scAt (scanA l)) x.2 := by
 unfold allA
 cases hs : scanA l with
 | ok ts => rw [hs] at h; cases h
 | bad a w e => rw [hs] at h; cases h; rfl
theorem allA_yes {lv : Int} {l : List UInt8} (h : scE (scanA l) = none) : allA lv l = allS ((scTs (scanA l)).map rtOf) lv ((scTs (scanA l)).length + 1) 0 [] := by
 unfold allA
 cases hs : scanA l with
 | ok ts => rfl
 | bad a w e => rw [hs] at h; cases h
theorem scan_lx {l : List UInt8} (h : scE (scanA l) = none) : l.length ≤ 4096 ∧ Lx false l (scTs (scanA l)) := by
 have hl : l.length ≤ 4096 := by
  rcases Nat.lt_or_ge 4096 l.length with h1 | h1
  · unfold scanA at h
    rw [if_pos h1] at h
    cases h
  · exact h1
 exact ⟨hl, TokP.sc_lx hl h⟩
theorem allS_end {L : List RT} {lv : Int} {k i : Nat} {acc : List Tm} (h : L.length ≤ i) : allS L lv k i acc = .ok acc := by
 cases k with
 | zero => rfl
 | succ k => unfold allS; rw [if_pos h]
theorem allS_no {L : List RT} {lv : Int} {k i a : Nat} {e : Int} {acc : List Tm} (hk : 1 ≤ k) (h : ¬ L.length ≤ i) (hr : readS L lv i = .bad a e) : allS L lv k i acc = .bad a e := by
 obtain ⟨m, rfl⟩ : ∃ m, k = m + 1 := ⟨k - 1, by omega⟩
 unfold allS
 rw [if_neg h, hr]
theorem allS_more {L : List RT} {lv : Int} {k i : Nat} {x : Tm} {s : RSt} {acc : List Tm} (hk : 1 ≤ k) (h : ¬ L.length ≤ i) (hr : readS L lv i = .ok x s) : allS L lv k i acc = allS L lv (k - 1) s.at_ (acc ++ [x]) := by
 obtain ⟨m, rfl⟩ : ∃ m, k = m + 1 := ⟨k - 1, by omega⟩
 conv => lhs; unfold allS
 rw [if_neg h, hr]
 rfl
theorem readS_wt {L : List RT} {lv : Int} {i : Nat} {x : Tm} {s : RSt} (hi : i ≤ L.length) (h : readS L lv i = .ok x s) : ∃ j, wtT x ≤ preW L j := by
 obtain ⟨p, s2, h1, _⟩ := readS_ok h
 have := read_wt L lv 60 _ _ _ _ hi h1
 exact ⟨s2.at_, by simp only at this; omega⟩
end Go.Proofs.YtanhhihechakhaaDoor.ReadP
set_option linter.unusedVariables false
set_option linter.unusedSimpArgs false
namespace Go.Proofs.YtanhhihechakhaaDoor
open Go.RowKit Go.Proofs.YtanhhihechakhaaDoor.E Go.Proofs.YtanhhihechakhaaDoor.ReplP Go.Proofs.YtanhhihechakhaaDoor.TokP Go.Proofs.YtanhhihechakhaaDoor.TermP Go.Proofs.YtanhhihechakhaaDoor.WrP Go.Proofs.YtanhhihechakhaaDoor.ReadP Go.Proofs.YtanhhihechakhaaDoor.OpsP
def Hdl (h : Hp) : Prop := h.cell ⟨0, 0, none⟩ = some (.iface 108 (.agg #[.pointer (some ⟨2, 47, none⟩)]))
theorem Hdl.le {h h' : Hp} (hh : Hdl h) (hl : h.Le h') : Hdl h' := hl.cell hh
theorem scan2_c (s : ByteArray) (h : Hp) : CX Tryd.prog 20 [.string s] h (fun x : Option Addr × Nat => .tuple #[.slice x.1 (scTs (scanA s.data.toList)).length x.2, .int .i64 ((scAt (scanA s.data.toList) : Nat) : Int), errV 84 (scE (scanA s.data.toList))]) (fun x h' => RowsAt h' x.1 5 ((scTs (scanA s.data.toList)).map tkC) ∧ (scTs (scanA s.data.toList)).length ≤ x.2) := fun w hs => (scan_c s h w hs).mono fun e w' ⟨x, h', he, hx, hg⟩ => by
 cases hr : scanA s.data.toList with
 | ok ts =>
  rw [hr] at he hx
  exact ⟨x, h', he, hx, hg⟩
 | bad i a b =>
  rw [hr] at he
  exact ⟨(none, 0), h', he, ⟨fun j c hj => by simp [scTs] at hj, Nat.le_refl _⟩, hg⟩
theorem rows_rt {h : Hp} {A : Option Addr} {ts : List Tk} (hr : RowsAt h A 5 (ts.map tkC)) : RowsAt h A 5 ((ts.map rtOf).map rtC) := by
 rw [List.map_map]
 exact hr
structure LZ where
 acc : List GT
 i : Nat
 v : Value
 hh : Hp
 n : Nat
abbrev RdR := List GT × Option Addr × Nat
def AllP (r : RA) (x : RdR) (h : Hp) : Prop := x.1.map GT.tm = raT r ∧ RowsAt h x.2.1 4 (x.1.map GT.cells) ∧ x.1.length ≤ x.2.2 ∧ x.1.length ≤ 4096 ∧ ∀ t ∈ x.1, (Lies h t ∧ Fits t) ∧ wtG t ≤ 294912
theorem allP_no (a : Nat) (e : Int) (h : Hp) : AllP (.bad a e) ([], none, 0) h := ⟨rfl, fun j c hj => by simp at hj, Nat.le_refl _, Nat.zero_le _, fun t ht => (List.not_mem_nil ht).elim⟩
set_option maxRecDepth 100000 in
theorem allR_c (s : ByteArray) (lv : Int) (h : Hp) (hh : Hdl h) : CX Tryd.prog 10 [.string s, .int .i64 lv] h (fun x : RdR => .tuple #[.slice x.2.1 x.1.length x.2.2, .int .i64 ((raAt (allA lv s.data.toList) : Nat) : Int), .int .i64 (raE (allA lv s.data.toList))]) (AllP (allA lv s.data.toList)) := by
 refine enterX Tryd.func10 rfl rfl rfl (fun w => ?_)
 refine cy_seq ?_
 refine cy_region ?_
 refine sy_assign rfl rfl rfl ?_
 refine sy_assign rfl rfl rfl ?_
 refine sy_assign rfl rfl rfl ?_
 refine sy_nil rfl ?_
 refine ny_next ?_
 refine cy_seq ?_
 refine cy_region ?_
 refine sy_move rfl rfl rfl ?_
 refine sy_callx call_20 rfl (scan2_c s _) rfl rfl (fun x18 h18 hx18 hle18 => ?_)
 obtain ⟨A18, c18⟩ := x18
 obtain ⟨hr18, hq18⟩ := hx18
 simp only at hr18 hq18 ⊢
 replace hh := hh.le hle18
 refine sy_move rfl rfl rfl ?_
 refine sy_extract rfl rfl rfl rfl ?_
 refine sy_extract rfl rfl rfl rfl ?_
 refine sy_extract rfl rfl rfl rfl ?_
 refine sy_assign rfl rfl rfl ?_
 refine sy_assign rfl rfl rfl ?_
 refine sy_assign rfl rfl rfl ?_
 refine sy_nil rfl ?_
 refine ny_next ?_
 refine cy_seq ?_
 refine cy_seq ?_
 refine cy_region ?_
 refine sy_move rfl rfl rfl ?_
 refine sy_eqn (e := (scE (scanA s.data.toList)).isNone) Tryd.underlying47 rfl (nilB_err _ _) rfl rfl rfl ?_
 refine sy_nil rfl ?_
 refine ny_next ?_
 refine cy_cond rfl (fun hc23 => ?_) (fun hc23 => ?_)
 · have hn1 : ¬ scE (scanA s.data.toList) = none := fun h9 => by rw [h9] at hc23; exact absurd hc23 (by decide)
   obtain ⟨x9, hx9⟩ := Option.ne_none_iff_exists'.1 hn1
   rw [hx9]
   refine cy_seq ?_
   refine cy_region ?_
   refine sy_move rfl rfl rfl ?_
   refine sy_move rfl rfl rfl ?_
   refine sy_call rfl call_21 rfl (codeR_c x9.1 x9.2 _ hh) rfl rfl ?_
   refine sy_assign rfl rfl rfl ?_
   refine sy_assign rfl rfl rfl ?_
   refine sy_assign rfl rfl rfl ?_
   refine sy_nil rfl ?_
   refine ny_next ?_
   refine cy_ret ?_
   refine ny_thenR ?_
   have hres : (allA lv s.data.toList) = .bad (scAt (scanA s.data.toList)) x9.2 := allA_no hx9
   refine ny_finR (res3 rfl rfl rfl rfl) (fun w9 hs => ⟨([], none, 0), _, ?_, ?_, hs.toGrow⟩)
   · rw [hres]; rfl
   · rw [hres]; exact allP_no _ _ _
 · have hok : scE (scanA s.data.toList) = none := Option.isNone_iff_eq_none.1 (by simpa using hc23)
   obtain ⟨hl4, hlx⟩ := scan_lx hok
   have hyes := allA_yes (lv := lv) hok
   have hlen := (lx_fair hlx).2.2.1
   have hqN := lx_tokok hlx
   have hpw := lx_preW hlx hl4
   have hT := rows_rt hr18
   have hmL : ((scTs (scanA s.data.toList)).map rtOf).length = (scTs (scanA s.data.toList)).length := List.length_map _
   refine cy_skip ?_
   refine ny_next ?_
   refine cy_seq ?_
   refine cy_region ?_
   refine sy_assign rfl rfl rfl ?_
   refine sy_nil rfl ?_
   refine ny_next ?_
   refine cy_seq ?_
   refine cy_seq ?_
   refine cy_region ?_
   refine sy_assign rfl rfl rfl ?_
   refine sy_nil rfl ?_
   refine ny_next ?_
   refine cy_block ?_
   refine cy_nilRow 30 4 ?_
   refine cy_loopK (ι := LZ) [1, 7] rfl (fun z => z.i ≤ (scTs (scanA s.data.toList)).length ∧ allS ((scTs (scanA s.data.toList)).map rtOf) lv z.n z.i (z.acc.map GT.tm) = allS ((scTs (scanA s.data.toList)).map rtOf) lv ((scTs (scanA s.data.toList)).length + 1) 0 [] ∧ (scTs (scanA s.data.toList)).length + 1 ≤ z.n + z.i ∧ h18.Le z.hh ∧ (∀ t ∈ z.acc, (Lies z.hh t ∧ Fits t) ∧ wtG t ≤ 294912) ∧ z.acc.length ≤ z.i) (fun z => (scTs (scanA s.data.toList)).length - z.i) (fun z => [(10, z.v), (11, .int .i64 (z.i : Int))]) (fun z => z.hh) (fun z => [.row z.v 30 4 z.acc.length ((z.acc.map GT.cells).flatten)]) ⟨[], 0, .slice none 0 0, h18, (scTs (scanA s.data.toList)).length + 1⟩ [0] ⟨Nat.zero_le _, rfl, Nat.le_refl _, Hp.Le.refl _, (fun t h9 => (List.not_mem_nil h9).elim), Nat.le_refl _⟩ ⟨rfl, rfl, trivial⟩ rfl rfl ?_
   rintro ⟨acc, i, v10, hz, m⟩ ⟨hI, hro, hmn, hlez, hgt, hac⟩
   simp only at hI hro hmn hlez hgt hac ⊢
   have hTz := hT.le hlez
   refine cy_seq ?_
   refine cy_seq ?_
   refine cy_region ?_
   refine sy_move rfl rfl rfl ?_
   refine sy_move rfl rfl rfl ?_
   refine sy_len rfl (len_slice Tryd.underlying45 _ _ _) rfl rfl ?_
   refine sy_cmp rfl rfl rfl rfl rfl ?_
   refine sy_nil rfl ?_
   refine ny_next ?_
   refine cy_cond rfl (fun hc30 => ?_) (fun hc30 => ?_)
   · have hlt : i < (scTs (scanA s.data.toList)).length := by have := of_decide_eq_true hc30; omega
     refine cy_skip ?_
     refine ny_next ?_
     refine cy_block ?_
     refine cy_seq ?_
     refine cy_region ?_
     refine sy_move rfl rfl rfl ?_
     refine sy_move rfl rfl rfl ?_
     refine sy_move rfl rfl rfl ?_
     refine sy_callx call_22 rfl (show CX Tryd.prog _ [.slice A18 (scTs (scanA s.data.toList)).length c18, _, _] _ _ _ from hmL ▸ read_c A18 c18 ((scTs (scanA s.data.toList)).map rtOf) lv i _ hTz (by omega) hqN (fun j => Nat.le_trans (hpw j) (by decide)) (by omega)) rfl rfl (fun x35 h35 hx35 hle35 => ?_)
     obtain ⟨hro35, hlg⟩ := hx35
     refine sy_move rfl rfl rfl ?_
     refine sy_extract rfl rfl rfl rfl ?_
     refine sy_extract rfl rfl rfl rfl ?_
     refine sy_extract rfl rfl rfl rfl ?_
     refine sy_extract rfl rfl rfl rfl ?_
     refine sy_alloc zer_30 rfl rfl (fun b12 hb12 hM12 => ?_) (by simp)
     first | refine sy_stl 0 sz_30 rfl rfl rfl rfl rfl rfl rfl rfl ?_ | refine sy_stl 1 sz_30 rfl rfl rfl rfl rfl rfl rfl rfl ?_ | refine sy_stl 2 sz_30 rfl rfl rfl rfl rfl rfl rfl rfl ?_ | refine sy_stl 3 sz_30 rfl rfl rfl rfl rfl rfl rfl rfl ?_ | refine sy_stl 4 sz_30 rfl rfl rfl rfl rfl rfl rfl rfl ?_ | refine sy_stl 5 sz_30 rfl rfl rfl rfl rfl rfl rfl rfl ?_ | refine sy_stl 6 sz_30 rfl rfl rfl rfl rfl rfl rfl rfl ?_ | refine sy_stl 7 sz_30 rfl rfl rfl rfl rfl rfl rfl rfl ?_
     refine sy_assign rfl rfl rfl ?_
     refine sy_assign rfl rfl rfl ?_
     refine sy_assign rfl rfl rfl ?_
     refine sy_nil rfl ?_
     refine ny_next ?_
     refine cy_seq ?_
     refine cy_seq ?_
     refine cy_region ?_
     refine sy_move rfl rfl rfl ?_
     refine sy_cmp rfl rfl rfl rfl rfl ?_
     refine sy_nil rfl ?_
     refine ny_next ?_
     refine cy_cond rfl (fun hc41 => ?_) (fun hc41 => ?_)
     · have hrb : readS ((scTs (scanA s.data.toList)).map rtOf) lv i = .bad x35.2.2.1 x35.2.2.2 := by
        rcases hro35 with ⟨s9, _, _, h9⟩ | h9
        · rw [h9] at hc41; exact absurd hc41 (by decide)
        · exact h9
       refine cy_seq ?_
       refine cy_region ?_
       refine sy_move rfl rfl rfl ?_
       refine sy_move rfl rfl rfl ?_
       refine sy_assign rfl rfl rfl ?_
       refine sy_assign rfl rfl rfl ?_
       refine sy_assign rfl rfl rfl ?_
       refine sy_nil rfl ?_
       refine ny_next ?_
       refine cy_ret ?_
       refine ny_thenR ?_
       refine ny_blockR ?_
       refine ny_thenR ?_
       refine ny_blockR ?_
       refine ny_thenR ?_
       have hres : (allA lv s.data.toList) = .bad x35.2.2.1 x35.2.2.2 := by rw [hyes, ← hro]; exact allS_no (by omega) (by omega) hrb
       refine ny_finR (res3 rfl rfl rfl rfl) (fun w9 hs => ⟨([], none, 0), _, ?_, ?_, hs.toGrow⟩)
       · rw [hres]; rfl
       · rw [hres]; exact allP_no _ _ _
     · obtain ⟨s9, hrk, hat35⟩ : ∃ s9, readS ((scTs (scanA s.data.toList)).map rtOf) lv i = .ok x35.1.tm s9 ∧ x35.2.2.1 = s9.at_ := by
        rcases hro35 with ⟨s9, h9, h8, _⟩ | h9
        · exact ⟨s9, h9, h8⟩
        · have h8 := (readS_okb _ _ _ _ _ h9).1
          have h7 : x35.2.2.2 = 0 := by simpa using hc41
          omega
       have hfw := readS_fwd (by omega) hrk
       have hwt35 : wtG x35.1 ≤ 294912 := by
        obtain ⟨j, hj⟩ := readS_wt (by omega) hrk
        rw [wtG_tm]
        exact Nat.le_trans hj (hpw j)
       refine cy_skip ?_
       refine ny_next ?_
       refine cy_seq ?_
       refine cy_region ?_
       refine sy_move rfl rfl rfl ?_
       first | refine sy_ldar 0 agg_30 rfl rfl rfl rfl rfl ?_ | refine sy_ldar 1 agg_30 rfl rfl rfl rfl rfl ?_ | refine sy_ldar 2 agg_30 rfl rfl rfl rfl rfl ?_ | refine sy_ldar 3 agg_30 rfl rfl rfl rfl rfl ?_ | refine sy_ldar 4 agg_30 rfl rfl rfl rfl rfl ?_ | refine sy_ldar 5 agg_30 rfl rfl rfl rfl rfl ?_ | refine sy_ldar 6 agg_30 rfl rfl rfl rfl rfl ?_ | refine sy_ldar 7 agg_30 rfl rfl rfl rfl rfl ?_
       refine sy_buildSlice (cs := [x35.1].flatMap GT.cells) rfl (fun w => bsl_23_1_0 w) rfl rfl (fun b46 hb46 hM46 => ?_) (by simp)
       refine sy_append 2 0 row_23 (by decide) rfl rfl rfl rfl rfl rfl (by omega) (by simp only [maxLen]; omega) rfl rfl (fun v47 => ?_)
       refine sy_assign rfl rfl rfl ?_
       refine sy_nil rfl ?_
       refine ny_next ?_
       refine cy_region ?_
       refine sy_move rfl rfl rfl ?_
       refine sy_assign rfl rfl rfl ?_
       refine sy_nil rfl ?_
       refine ny_blockN ?_
       refine ny_roundK [1, 7] ⟨acc ++ [x35.1], x35.2.2.1, v47, h35, m - 1⟩ [0] ⟨(by show x35.2.2.1 ≤ _; omega), (by rw [← hro, allS_more (by omega) (by omega) hrk, List.map_append, List.map_cons, List.map_nil, hat35]), (by show (scTs (scanA s.data.toList)).length + 1 ≤ m - 1 + x35.2.2.1; omega), hlez.trans hle35, (fun t h9 => (List.mem_append.1 h9).elim (fun h8 => ⟨⟨(hgt t h8).1.1.le hle35, (hgt t h8).1.2⟩, (hgt t h8).2⟩) (fun h8 => by rw [List.mem_singleton.1 h8]; exact ⟨hlg, hwt35⟩)), (by show (acc ++ [x35.1]).length ≤ x35.2.2.1; rw [List.length_append, List.length_cons, List.length_nil]; omega)⟩ (by show (scTs (scanA s.data.toList)).length - x35.2.2.1 < (scTs (scanA s.data.toList)).length - i; omega) rfl ⟨rfl, rfl, trivial⟩ rfl (by show some [_] = some [_]; rw [List.length_append, GT.cells_snoc]; rfl)
   · have hie : i = (scTs (scanA s.data.toList)).length := by have := of_decide_eq_false hc30; omega
     refine cy_frzRow 0 rfl (fun _ _ => by simp) (fun AF cF hF hvF hlcF hcmF _ hleF hcellF => ?_)
     subst hvF
     refine cy_exit ?_
     refine ny_thenE ?_
     refine ny_thenE ?_
     refine ny_blockX ?_
     refine ny_next ?_
     refine cy_seq ?_
     refine cy_region ?_
     refine sy_move rfl rfl rfl ?_
     refine sy_assign rfl rfl rfl ?_
     refine sy_assign rfl rfl rfl ?_
     refine sy_assign rfl rfl rfl ?_
     refine sy_nil rfl ?_
     refine ny_next ?_
     refine cy_ret ?_
     have hres : (allA lv s.data.toList) = .ok (acc.map GT.tm) := by rw [hyes, ← hro]; exact allS_end (by omega)
     refine ny_finR (res3 rfl rfl rfl rfl) (fun w9 hs => ⟨(acc, AF, cF), hF, ?_, ?_, hs.toGrow⟩)
     · rw [hres]; rfl
     · rw [hres]; exact ⟨rfl, rows_row (by decide) (GT.cells_len _) hcellF, hlcF, (by show acc.length ≤ 4096; omega), fun t h9 => ⟨⟨(hgt t h9).1.1.le hleF, (hgt t h9).1.2⟩, (hgt t h9).2⟩⟩
end Go.Proofs.YtanhhihechakhaaDoor
set_option linter.unusedVariables false
namespace Go.Proofs.YtanhhihechakhaaDoor.ReadP
open Go.RowKit Go.Proofs.YtanhhihechakhaaDoor.E Go.Proofs.YtanhhihechakhaaDoor.ReplP Go.Proofs.YtanhhihechakhaaDoor.TokP Go.Proofs.YtanhhihechakhaaDoor.TermP Go.Proofs.YtanhhihechakhaaDoor.WrP Go.Proofs.YtanhhihechakhaaDoor.OpsP
def shL7 : List Tm := [funT ⟨#[45]⟩ [funT ⟨#[45]⟩ [numT 1, numT 2], numT 3], .mk 4 2 ⟨#[]⟩ [funT ⟨#[97]⟩ []]]
theorem sh_all : allA 4 [49, 32, 45, 32, 50, 32, 45, 32, 51, 46, 32, 97, 64, 50, 46] = .ok shL7 := by kernel_rfl
end Go.Proofs.YtanhhihechakhaaDoor.ReadP
set_option linter.unusedVariables false
namespace Go.Proofs.YtanhhihechakhaaDoor
open Go.ChangeShapes Go.WideShapes Go.ChangeAt Go.RowKit Go.Proofs.YtanhhihechakhaaDoor.E
theorem own : ownKnob Tryd.prog.godebug = none := by kernel_rfl
theorem et : Tryd.prog.globalNamed "errors.errorType" = some 0 := by kernel_rfl
theorem rtT : (Tryd.prog.cutTypes.find? (·.1 == "internal/reflectlite.rtype")).map (·.2) = some 108 := by kernel_rfl
theorem typesN : Tryd.prog.types.size = 172 := by kernel_rfl
theorem oneRow : ((List.range 172).filter fun t => Tryd.prog.rowNamed t [101, 114, 114, 111, 114]) = [47] := by kernel_rfl
theorem hdl_of {W : World} (h : laidMetH Tryd.prog [("errors.errorType", Rows.laid_errors_errorType)] W) : Hdl (hpOf W) := by
 have h' := (laidMetH_iff.1 h).2
 have hm0 : ("errors.errorType", (Rows.laid_errors_errorType : DataW Unit)) ∈ ([("errors.errorType", Rows.laid_errors_errorType)] : List (String × DataW Unit)).filter fun x => x.2.handleName?.isSome := by
  have e : (([("errors.errorType", Rows.laid_errors_errorType)] : List (String × DataW Unit)).filter fun x => x.2.handleName?.isSome) = [("errors.errorType", Rows.laid_errors_errorType)] := by kernel_rfl
  rw [e]
  exact List.mem_singleton.2 rfl
 have h2 : ∃ name u ty, (Rows.laid_errors_errorType : DataW Unit).handleName? = some name ∧ (Tryd.prog.cutTypes.find? (·.1 == "internal/reflectlite.rtype")).map (·.2) = some u ∧ ty < Tryd.prog.types.size ∧ Tryd.prog.rowNamed ty name = true ∧ W.var? Tryd.prog "errors.errorType" = some #[.iface u (.agg #[typeHandle Tryd.prog ty])] := h' _ hm0
 obtain ⟨name, u, ty, e1, e2, e3, e4, e5⟩ := h2
 have en : name = [101, 114, 114, 111, 114] := (Option.some.inj e1).symm
 subst en
 obtain rfl := Option.some.inj (rtT.symm.trans e2)
 have hm : ty ∈ (List.range 172).filter fun t => Tryd.prog.rowNamed t [101, 114, 114, 111, 114] := List.mem_filter.2 ⟨List.mem_range.2 (by rw [← typesN]; exact e3), e4⟩
 rw [oneRow] at hm
 obtain rfl := List.mem_singleton.1 hm
 have hh : typeHandle Tryd.prog 47 = .pointer (some ⟨2, 47, none⟩) := by kernel_rfl
 rw [hh] at e5
 have h3 : W.cell? ⟨0, 0, none⟩ = some (.iface 108 (.agg #[.pointer (some ⟨2, 47, none⟩)])) := by simpa using World.var?_cell et e5 0
 exact h3
theorem door_met (os : Os) (args : Array Value) : laidMetH Tryd.prog [("errors.errorType", Rows.laid_errors_errorType)] ((World.doorLaid Tryd.prog 400 os).forCall (fun _ _ => 0) ⟨#[], args, []⟩).memory :=
 laidMetH_of_parts (laidMet_of_run' 8 (by kernel_rfl) (by kernel_rfl)) (by kernel_rfl)
end Go.Proofs.YtanhhihechakhaaDoor
set_option linter.unusedVariables false
namespace Go.Proofs.YtanhhihechakhaaDoor
open Go.RowKit Go.Proofs.YtanhhihechakhaaDoor.E
theorem call_10 : callB Tryd.prog 10 = true := by kernel_rfl
theorem call_9 : callB Tryd.prog 9 = true := by kernel_rfl
end Go.Proofs.YtanhhihechakhaaDoor
set_option linter.unusedVariables false
set_option linter.unusedSimpArgs false
namespace Go.Proofs.YtanhhihechakhaaDoor
open Go.RowKit Go.Proofs.YtanhhihechakhaaDoor.E Go.Proofs.YtanhhihechakhaaDoor.ReplP Go.Proofs.YtanhhihechakhaaDoor.TokP Go.Proofs.YtanhhihechakhaaDoor.TermP Go.Proofs.YtanhhihechakhaaDoor.WrP Go.Proofs.YtanhhihechakhaaDoor.ReadP Go.Proofs.YtanhhihechakhaaDoor.OpsP
theorem allL_c (s : ByteArray) (l : List UInt8) (hl : s.data.toList = l) (lv : Int) (h : Hp) (hh : Hdl h) : CX Tryd.prog 10 [.string s, .int .i64 lv] h (fun x : RdR => .tuple #[.slice x.2.1 x.1.length x.2.2, .int .i64 ((raAt (allA lv l) : Nat) : Int), .int .i64 (raE (allA lv l))]) (AllP (allA lv l)) := by
 subst hl
 exact allR_c s lv h hh
theorem map_two {es : List GT} {x y : Tm} (h : es.map GT.tm = [x, y]) : ∃ a b, es = [a, b] ∧ a.tm = x ∧ b.tm = y := by
 match es, h with
 | [a, b], h =>
  simp only [List.map_cons, List.map_nil, List.cons.injEq, and_true] at h
  exact ⟨a, b, rfl, h.1, h.2⟩
theorem map_one {es : List GT} {x : Tm} (h : es.map GT.tm = [x]) : ∃ a, es = [a] ∧ a.tm = x := by
 match es, h with
 | [a], h =>
  simp only [List.map_cons, List.map_nil, List.cons.injEq, and_true] at h
  exact ⟨a, rfl, h⟩
theorem same_refl {a b : Tm} (h : a = b) : sameT a b = true := (same_eq a b).2 h
set_option maxRecDepth 100000 in
theorem shown07_c (h : Hp) (hh : Hdl h) : C0 Tryd.prog 9 [] h (.bool true) := by
 refine enter0 Tryd.func9 rfl rfl rfl (fun w => ?_)
 refine cy_seq ?_
 refine cy_region ?_
 refine sy_assign rfl rfl rfl ?_
 refine sy_nil rfl ?_
 refine ny_next ?_
 refine cy_seq ?_
 refine cy_region ?_
 refine sy_callx call_10 rfl (allL_c _ ([49, 32, 45, 32, 50, 32, 45, 32, 51, 46, 32, 97, 64, 50, 46]) (rfl) (4) _ hh) rfl rfl (fun x6 h6 hx6 hle6 => ?_)
 obtain ⟨es6, A6, c6⟩ := x6
 obtain ⟨hT6, hr6, hc6, hz6, hg6⟩ := hx6
 simp only at hT6 hr6 hc6 hz6 hg6 ⊢
 replace hh := hh.le hle6
 rw [sh_all] at hT6 ⊢
 obtain ⟨q0, q1, rfl, hq0, hq1⟩ := map_two hT6
 have hk1 : q1.k = 4 := by rw [← GT.tm_k, hq1]; rfl
 have hn1 : q1.n = 2 := by rw [← GT.tm_n, hq1]; rfl
 refine sy_move rfl rfl rfl ?_
 refine sy_extract rfl rfl rfl rfl ?_
 refine sy_extract rfl rfl rfl rfl ?_
 refine sy_extract rfl rfl rfl rfl ?_
 refine sy_assign rfl rfl rfl ?_
 refine sy_assign rfl rfl rfl ?_
 refine sy_assign rfl rfl rfl ?_
 refine sy_nil rfl ?_
 refine ny_next ?_
 refine cy_seq ?_
 refine cy_region ?_
 refine sy_call rfl call_15 rfl (num_c 1 _) rfl rfl ?_
 refine sy_call rfl call_15 rfl (num_c 2 _) rfl rfl ?_
 refine sy_buildSlice (cs := [(GT.mk 2 1 ⟨#[]⟩ none 0 []), (GT.mk 2 2 ⟨#[]⟩ none 0 [])].flatMap GT.cells) rfl (fun w => bsl_23_2_0x1 w) rfl rfl (fun b12 hb12 hM12 => ?_) (by simp)
 refine sy_frz 0 rfl (by simp) (fun h12 hle12 hbx12 => ?_)
 replace hh := hh.le hle12
 have hr12 : RowsAt h12 (some ⟨b12, 0, none⟩) 4 ([(GT.mk 2 1 ⟨#[]⟩ none 0 []), (GT.mk 2 2 ⟨#[]⟩ none 0 [])].map GT.cells) := rows_blk (by decide) (GT.cells_len _) hbx12
 refine sy_callx call_16 rfl (make_c ⟨#[45]⟩ (some ⟨b12, 0, none⟩) 2 [(GT.mk 2 1 ⟨#[]⟩ none 0 []), (GT.mk 2 2 ⟨#[]⟩ none 0 [])] _ rfl hr12 (by simp)) rfl rfl (fun x13 h13 hx13 hle13 => ?_)
 obtain ⟨A13, c13⟩ := x13
 replace hh := hh.le hle13
 have hlf13 : Lies h13 (GT.mk 3 0 ⟨#[45]⟩ A13 c13 [(GT.mk 2 1 ⟨#[]⟩ none 0 []), (GT.mk 2 2 ⟨#[]⟩ none 0 [])]) ∧ Fits (GT.mk 3 0 ⟨#[45]⟩ A13 c13 [(GT.mk 2 1 ⟨#[]⟩ none 0 []), (GT.mk 2 2 ⟨#[]⟩ none 0 [])]) := ⟨.intro _ _ _ _ _ _ hx13.2 hx13.1 (fun t h9 => (duo (h := h13) ⟨lies_leaf _ _ _ _, fits_leaf (by decide) (by decide) (by first | decide | omega) (by first | decide | omega) (by decide)⟩ ⟨lies_leaf _ _ _ _, fits_leaf (by decide) (by decide) (by first | decide | omega) (by first | decide | omega) (by decide)⟩ t h9).1), fits_kids (by decide) (by decide) (by decide) (by decide) (by decide) (by simp) (fun t h9 => (duo (h := h13) ⟨lies_leaf _ _ _ _, fits_leaf (by decide) (by decide) (by first | decide | omega) (by first | decide | omega) (by decide)⟩ ⟨lies_leaf _ _ _ _, fits_leaf (by decide) (by decide) (by first | decide | omega) (by first | decide | omega) (by decide)⟩ t h9).2)⟩
 refine sy_call rfl call_15 rfl (num_c 3 _) rfl rfl ?_
 refine sy_buildSlice (cs := [(GT.mk 3 0 ⟨#[45]⟩ A13 c13 [(GT.mk 2 1 ⟨#[]⟩ none 0 []), (GT.mk 2 2 ⟨#[]⟩ none 0 [])]), (GT.mk 2 3 ⟨#[]⟩ none 0 [])].flatMap GT.cells) rfl (fun w => bsl_23_2_0x1 w) rfl rfl (fun b15 hb15 hM15 => ?_) (by simp)
 refine sy_frz 0 rfl (by simp) (fun h15 hle15 hbx15 => ?_)
 replace hh := hh.le hle15
 have hr15 : RowsAt h15 (some ⟨b15, 0, none⟩) 4 ([(GT.mk 3 0 ⟨#[45]⟩ A13 c13 [(GT.mk 2 1 ⟨#[]⟩ none 0 []), (GT.mk 2 2 ⟨#[]⟩ none 0 [])]), (GT.mk 2 3 ⟨#[]⟩ none 0 [])].map GT.cells) := rows_blk (by decide) (GT.cells_len _) hbx15
 refine sy_callx call_16 rfl (make_c ⟨#[45]⟩ (some ⟨b15, 0, none⟩) 2 [(GT.mk 3 0 ⟨#[45]⟩ A13 c13 [(GT.mk 2 1 ⟨#[]⟩ none 0 []), (GT.mk 2 2 ⟨#[]⟩ none 0 [])]), (GT.mk 2 3 ⟨#[]⟩ none 0 [])] _ rfl hr15 (by simp)) rfl rfl (fun x16 h16 hx16 hle16 => ?_)
 obtain ⟨A16, c16⟩ := x16
 replace hh := hh.le hle16
 have hlf16 : Lies h16 (GT.mk 3 0 ⟨#[45]⟩ A16 c16 [(GT.mk 3 0 ⟨#[45]⟩ A13 c13 [(GT.mk 2 1 ⟨#[]⟩ none 0 []), (GT.mk 2 2 ⟨#[]⟩ none 0 [])]), (GT.mk 2 3 ⟨#[]⟩ none 0 [])]) ∧ Fits (GT.mk 3 0 ⟨#[45]⟩ A16 c16 [(GT.mk 3 0 ⟨#[45]⟩ A13 c13 [(GT.mk 2 1 ⟨#[]⟩ none 0 []), (GT.mk 2 2 ⟨#[]⟩ none 0 [])]), (GT.mk 2 3 ⟨#[]⟩ none 0 [])]) := ⟨.intro _ _ _ _ _ _ hx16.2 hx16.1 (fun t h9 => (duo (h := h16) ⟨(hlf13.1.le hle15).le hle16, hlf13.2⟩ ⟨lies_leaf _ _ _ _, fits_leaf (by decide) (by decide) (by first | decide | omega) (by first | decide | omega) (by decide)⟩ t h9).1), fits_kids (by decide) (by decide) (by decide) (by decide) (by decide) (by simp) (fun t h9 => (duo (h := h16) ⟨(hlf13.1.le hle15).le hle16, hlf13.2⟩ ⟨lies_leaf _ _ _ _, fits_leaf (by decide) (by decide) (by first | decide | omega) (by first | decide | omega) (by decide)⟩ t h9).2)⟩
 refine sy_alloc zer_30 rfl rfl (fun b4 hb4 hM4 => ?_) (by simp)
 first | refine sy_stl 0 sz_30 rfl rfl rfl rfl rfl rfl rfl rfl ?_ | refine sy_stl 1 sz_30 rfl rfl rfl rfl rfl rfl rfl rfl ?_ | refine sy_stl 2 sz_30 rfl rfl rfl rfl rfl rfl rfl rfl ?_
 refine sy_nil rfl ?_
 refine ny_next ?_
 refine cy_seq ?_
 refine cy_frz 0 rfl (by simp) (fun h3 hle3 hbx3 => ?_)
 have hr7 := ((((hr6.le hle12).le hle13).le hle15).le hle16).le hle3
 have hg7 : ∀ t ∈ [q0, q1], Lies h3 t ∧ Fits t := fun t h9 => ⟨(((((hg6 t h9).1.1.le hle12).le hle13).le hle15).le hle16).le hle3, (hg6 t h9).1.2⟩
 replace hlf16 : Lies h3 (GT.mk 3 0 ⟨#[45]⟩ A16 c16 [(GT.mk 3 0 ⟨#[45]⟩ A13 c13 [(GT.mk 2 1 ⟨#[]⟩ none 0 []), (GT.mk 2 2 ⟨#[]⟩ none 0 [])]), (GT.mk 2 3 ⟨#[]⟩ none 0 [])]) ∧ Fits (GT.mk 3 0 ⟨#[45]⟩ A16 c16 [(GT.mk 3 0 ⟨#[45]⟩ A13 c13 [(GT.mk 2 1 ⟨#[]⟩ none 0 []), (GT.mk 2 2 ⟨#[]⟩ none 0 [])]), (GT.mk 2 3 ⟨#[]⟩ none 0 [])]) := ⟨hlf16.1.le hle3, hlf16.2⟩
 refine cy_regionQ mixed (by kernel_rfl) ?_
 refine sy_move rfl rfl rfl ?_
 refine sy_cmp rfl rfl rfl rfl rfl ?_
 refine sy_move rfl rfl rfl ?_
 refine sy_setT (d := 19) rfl rfl (by first | rfl | decide | kernel_rfl | (simp; done) | (simp_all; done)) ?_
 refine sy_move rfl rfl rfl ?_
 refine sy_len rfl (len_slice Tryd.underlying23 _ _ _) rfl rfl ?_
 refine sy_cmp rfl rfl rfl rfl rfl ?_
 refine sy_pickT rfl rfl rfl rfl ?_
 refine sy_move rfl rfl rfl ?_
 refine sy_setT (d := 24) rfl rfl (by first | rfl | decide | kernel_rfl | (simp; done) | (simp_all; done)) ?_
 refine sy_move rfl rfl rfl ?_
 refine sy_idxR (i := 0) (fc := GT.cells) (es := [q0, q1]) els_23 rfl rfl hr7 rfl (by simp) rfl rfl (fun e26 b26 o26 he26 hA26 hc26 => ?_)
 obtain rfl : q0 = e26 := Option.some.inj he26
 refine sy_ldah (vs := GT.cells q0) agg_30 rfl rfl hc26 rfl rfl ?_
 refine sy_ldah (vs := GT.cells (GT.mk 3 0 ⟨#[45]⟩ A16 c16 [(GT.mk 3 0 ⟨#[45]⟩ A13 c13 [(GT.mk 2 1 ⟨#[]⟩ none 0 []), (GT.mk 2 2 ⟨#[]⟩ none 0 [])]), (GT.mk 2 3 ⟨#[]⟩ none 0 [])])) agg_30 rfl rfl (Hp.blk hbx3) rfl rfl ?_
 refine sy_call rfl call_17 rfl (same_c q0 (GT.mk 3 0 ⟨#[45]⟩ A16 c16 [(GT.mk 3 0 ⟨#[45]⟩ A13 c13 [(GT.mk 2 1 ⟨#[]⟩ none 0 []), (GT.mk 2 2 ⟨#[]⟩ none 0 [])]), (GT.mk 2 3 ⟨#[]⟩ none 0 [])]) _ (hg7 q0 (by simp)).1 (hg7 q0 (by simp)).2 hlf16.1 hlf16.2) rfl rfl ?_
 rw [same_refl (a := q0.tm) (b := (GT.mk 3 0 ⟨#[45]⟩ A16 c16 [(GT.mk 3 0 ⟨#[45]⟩ A13 c13 [(GT.mk 2 1 ⟨#[]⟩ none 0 []), (GT.mk 2 2 ⟨#[]⟩ none 0 [])]), (GT.mk 2 3 ⟨#[]⟩ none 0 [])]).tm) (by rw [hq0]; simp only [GT.tm_mk, List.map_cons, List.map_nil]; rfl)]
 refine sy_setT (d := 29) rfl rfl rfl ?_
 refine sy_pickT rfl rfl rfl rfl ?_
 refine sy_move rfl rfl rfl ?_
 refine sy_move rfl rfl rfl ?_
 refine sy_idxR (i := 1) (fc := GT.cells) (es := [q0, q1]) els_23 rfl rfl hr7 rfl (by simp) rfl rfl (fun e33 b33 o33 he33 hA33 hc33 => ?_)
 obtain rfl : q1 = e33 := Option.some.inj he33
 refine sy_field fld_30_0 rfl rfl rfl ?_
 refine sy_ldh one_3 rfl (hc33 0 _ rfl) rfl rfl ?_
 refine sy_cmp rfl rfl rfl rfl rfl ?_
 refine sy_setT (d := 36) rfl rfl (by rw [hk1]; rfl) ?_
 refine sy_pickT rfl rfl rfl rfl ?_
 refine sy_move rfl rfl rfl ?_
 refine sy_move rfl rfl rfl ?_
 refine sy_idxR (i := 1) (fc := GT.cells) (es := [q0, q1]) els_23 rfl rfl hr7 rfl (by simp) rfl rfl (fun e40 b40 o40 he40 hA40 hc40 => ?_)
 obtain rfl : q1 = e40 := Option.some.inj he40
 refine sy_field fld_30_1 rfl rfl rfl ?_
 refine sy_ldh one_2 rfl (hc40 1 _ rfl) rfl rfl ?_
 refine sy_cmp rfl rfl rfl rfl rfl ?_
 refine sy_setT (d := 43) rfl rfl (by rw [hn1]; rfl) ?_
 refine sy_pickT rfl rfl rfl rfl ?_
 refine sy_assign rfl rfl rfl ?_
 refine sy_nil rfl ?_
 refine ny_next ?_
 refine cy_ret ?_
 refine ny_finR (res1 rfl rfl) (fun w hs => ⟨rfl, hs.frm⟩)
end Go.Proofs.YtanhhihechakhaaDoor
set_option linter.unusedVariables false
set_option linter.unusedSimpArgs false
namespace Go.Proofs.YtanhhihechakhaaDoor.ReadP
open Go.RowKit Go.Proofs.YtanhhihechakhaaDoor.E Go.Proofs.YtanhhihechakhaaDoor.ReplP Go.Proofs.YtanhhihechakhaaDoor.TokP Go.Proofs.YtanhhihechakhaaDoor.TermP Go.Proofs.YtanhhihechakhaaDoor.WrP Go.Proofs.YtanhhihechakhaaDoor.OpsP
def ChkB (lv : Int) (t : Tm) (p d : Nat) : Prop := (partsT t).all (aloneT lv) = true ∧ (partsT t).length ≤ p ∧ deepT t ≤ d
theorem chkb_ok {lv : Int} {t : Tm} {p d : Nat} (h : ChkB lv t p d) (hp : p ≤ 1000) (hd : d ≤ 60) : chkT lv t = 0 := by
 unfold chkT
 rw [if_neg (by have := h.2.1; omega), if_neg (by have := h.2.2; omega), if_pos h.1]
theorem deep_mk1 (k n : Int) (s : ByteArray) (kids : List Tm) : deepT (.mk k n s kids) = 1 + deepTs kids := by rw [deepT]
theorem chkb_atom (lv : Int) {s : ByteArray} (hs : s.size ≤ 64) : ChkB lv (funT s []) 1 1 := by
 unfold ChkB funT
 rw [parts_mk, partsTs_nil, deep_mk1, deepTs]
 refine ⟨?_, Nat.le_refl _, Nat.le_refl _⟩
 rw [List.all_cons, aloneT, if_neg (by decide), if_neg (by decide), if_pos rfl, decide_eq_true hs]
 rfl
theorem chkb_one {lv : Int} {s : ByteArray} (hs : s.size ≤ 64) {a : Tm} {p d : Nat} (ha : ChkB lv a p d) : ChkB lv (funT s [a]) (1 + p) (1 + d) := by
 unfold ChkB funT
 rw [parts_mk, partsTs_cons, partsTs_nil, List.append_nil, deep_mk1, deepTs, deepTs]
 refine ⟨?_, ?_, ?_⟩
 · rw [List.all_cons, ha.1, aloneT, if_neg (by decide), if_neg (by decide), if_pos rfl, decide_eq_true hs]
   rfl
 · rw [List.length_cons]; have := ha.2.1; omega
 · have := ha.2.2; omega
theorem chkb_seal {lv n : Int} (h0 : 0 ≤ n) (h1 : n < lv) {a : Tm} {p d : Nat} (ha : ChkB lv a p d) (hv : varsT a = []) : ChkB lv (.mk 4 n ⟨#[]⟩ [a]) (1 + p) (1 + d) := by
 unfold ChkB
 rw [parts_mk, partsTs_cons, partsTs_nil, List.append_nil, deep_mk1, deepTs, deepTs]
 refine ⟨?_, ?_, ?_⟩
 · rw [List.all_cons, ha.1, aloneT, if_neg (by decide), if_neg (by decide), if_neg (by decide), if_pos rfl, decide_eq_true h0, decide_eq_true h1, List.map_cons, List.map_nil, hv]
   rfl
 · rw [List.length_cons]; have := ha.2.1; omega
 · have := ha.2.2; omega
section
variable {L : List RT} {lv : Int}
theorem read_dig (k : Nat) {i d : Nat} {b : Bool} {most : Int} {nm : List ByteArray} {t : RT} {r : List RT} (h : L.drop i = digR d b :: t :: r) (hg : goT t most 0 = false) : readT L lv (k + 2) most ⟨i, nm⟩ = .ok (numT (d : Int), 0) ⟨i + 1, nm⟩ := by
 have f1 := first_num (L := L) (lv := lv) (tm := readT L lv k) (most := most) (n := nm) h rfl (by show (0 : Int) ≤ (d : Int); omega)
 exact read_first f1 (by rw [dr_goes (i := i + 1) (dr_next h)]; exact hg)
end
end Go.Proofs.YtanhhihechakhaaDoor.ReadP
set_option linter.unusedVariables false
set_option linter.unusedSimpArgs false
namespace Go.Proofs.YtanhhihechakhaaDoor.ReadP
open Go.RowKit Go.Proofs.YtanhhihechakhaaDoor.E Go.Proofs.YtanhhihechakhaaDoor.ReplP Go.Proofs.YtanhhihechakhaaDoor.TokP Go.Proofs.YtanhhihechakhaaDoor.TermP Go.Proofs.YtanhhihechakhaaDoor.WrP Go.Proofs.YtanhhihechakhaaDoor.OpsP
def inC (v : Bool) (c : UInt8) : UInt8 := if v = true then 88 else c
def inR (v : Bool) (c : UInt8) : RT := if v = true then ⟨2, ⟨#[88]⟩, 0, false, true⟩ else namR [c] true
def inT (v : Bool) (c : UInt8) : Tm := if v = true then letT 0 else funT ⟨[c].toArray⟩ []
def inN (v : Bool) : List ByteArray := if v = true then [⟨#[88]⟩] else []
def fS : ByteArray := ⟨#[102]⟩
def fT (v : Bool) (c : UInt8) : Tm := funT fS [inT v c]
def se1C (v : Bool) (c : UInt8) (d : Nat) : List UInt8 := [102, 40, inC v c, 41, 64, digC d, 32, 46]
def se1R (v : Bool) (c : UInt8) (d : Nat) : List RT := [namR [102] false, pnR 40 true, inR v c, pnR 41 true, namR [64] true, digR d true, endR false]
def se2C (v : Bool) (c : UInt8) (d : Nat) : List UInt8 := [64, 40, 102, 40, inC v c, 41, 44, 32, digC d, 41, 46]
def se2R (v : Bool) (c : UInt8) (d : Nat) : List RT := [namR [64] false, pnR 40 true, namR [102] true, pnR 40 true, inR v c, pnR 41 true, pnR 44 true, digR d false, pnR 41 true, endR true]
theorem lxr_in {v : Bool} {c : UInt8} {x : List UInt8} {rs : List RT} (hc : smallB c = true) (hx : runB letterB x = 0) (hk : LxR true x rs) : LxR true (inC v c :: x) (inR v c :: rs) := by
 cases v with
 | true => exact lxr_big (c := 88) (.inl rfl) hx hk
 | false => exact lxr_small hc hx hk
theorem lxr_f {b v : Bool} {c : UInt8} {x : List UInt8} {rs : List RT} (hc : smallB c = true) (hk : LxR true x rs) : LxR b (102 :: 40 :: inC v c :: 41 :: x) (namR [102] b :: pnR 40 true :: inR v c :: pnR 41 true :: rs) :=
 lxr_small (by decide) (by rw [runB_no (by decide)]) (lxr_punct (by decide) (lxr_in hc (by rw [runB_no (by decide)]) (lxr_punct (by decide) hk)))
theorem lxr_se1 {v : Bool} {c : UInt8} {d : Nat} (hc : smallB c = true) (hd : d < 10) : LxR false (se1C v c d) (se1R v c d) := by
 refine lxr_f (x := [64, digC d, 32, 46]) hc ?_
 have hsg : runB signB [digC d, 32, 46] = 0 := by
  have h1 : digitB (digC d) = true := fig_digit hd
  have h2 : signB (digC d) = false := by
   cases hs : signB (digC d) with
   | false => rfl
   | true => rw [(sign_kind _ hs).2.2.1] at h1; cases h1
  exact runB_no h2
 exact lxr_sign (c := 64) (by decide) (by decide) hsg (lxr_digit hd rfl (.inl rfl) (lxr_sp (lxr_end false)))
theorem lxr_se2 {v : Bool} {c : UInt8} {d : Nat} (hc : smallB c = true) (hd : d < 10) : LxR false (se2C v c d) (se2R v c d) :=
 lxr_sign (c := 64) (by decide) (by decide) (by rw [runB_no (by decide)]) (lxr_punct (by decide) (lxr_f (x := [44, 32, digC d, 41, 46]) hc (lxr_punct (by decide) (lxr_sp (lxr_digit hd (by rw [runB_no (by decide)]) (.inl rfl) (lxr_punct (by decide) (lxr_end true)))))))
section
variable {L : List RT} {lv : Int}
theorem read_in (k : Nat) {v : Bool} {c : UInt8} {i : Nat} {t : RT} {r : List RT} (h : L.drop i = inR v c :: t :: r) (hg : goT t 999 0 = false) (h1 : pT t [40] = false) (h2 : ¬ t.kind = 3) (h3 : beginsR t = false) : readT L lv (k + 2) 999 ⟨i, []⟩ = .ok (inT v c, 0) ⟨i + 1, inN v⟩ := by
 have hn := dr_next h
 cases v with
 | true =>
  have f1 := first_var (L := L) (lv := lv) (tm := readT L lv k) (most := 999) (n := []) h rfl
  exact read_first (p := 0) f1 (by show goesR L 999 0 ⟨i + 1, _⟩ = false; rw [dr_goes (i := i + 1) hn]; exact hg)
 | false =>
  have f1 := first_name (L := L) (lv := lv) (tm := readT L lv k) (most := 999) (n := []) h rfl
  rw [name_atom hn h1 h2 h3] at f1
  exact read_first (p := 0) f1 (by rw [dr_goes (i := i + 1) hn]; exact hg)
theorem first_f (k : Nat) {v : Bool} {c : UInt8} {b : Bool} {i : Nat} {most : Int} {r : List RT} (h : L.drop i = namR [102] b :: pnR 40 true :: inR v c :: pnR 41 true :: r) : firstR L lv (readT L lv (k + 2)) most ⟨i, []⟩ = .ok (fT v c, 0) ⟨i + 4, inN v⟩ := by
 have h1 := dr_next h
 have h2 := dr_next h1
 have h3 := dr_next h2
 have f1 := first_name (L := L) (lv := lv) (tm := readT L lv (k + 2)) (most := most) (n := []) h rfl
 have r1 := read_in (lv := lv) k h2 (by decide) (by decide) (by decide) (by decide)
 have ha : argsR L (readT L lv (k + 2)) ⟨i + 1 + 1, []⟩ = .ok [inT v c] ⟨i + 1 + 1 + 1, inN v⟩ := by
  unfold argsR
  rw [r1]
  exact more_stop (by rw [dr_p (i := i + 1 + 1 + 1) h3]; decide)
 have hn := name_args (L := L) (lv := lv) (t := namR [102] b) (most := most) (n := []) h1 rfl (by decide) ha (by show isP L (i + 1 + 1 + 1) [41] = true; rw [dr_p h3]; decide)
 rw [f1, hn, mk_fun (by intro h9; exact absurd h9.2 (by show ¬ (1 : Nat) = 2; decide))]
 rfl
end
theorem vars_f (v : Bool) (c : UInt8) : varsT (fT v c) = if v = true then [0] else [] := by
 unfold varsT fT
 rw [vf_fun, vf_one]
 cases v with
 | true =>
  show varsF [] (partsT (letT 0)) = [0]
  unfold letT
  rw [parts_mk, partsTs_nil]
  rfl
 | false =>
  show varsF [] (partsT (funT _ [])) = []
  rw [vf_fun, partsTs_nil]
  rfl
theorem mk_at (lv : Int) (v : Bool) (c : UInt8) (d : Nat) (st : RSt) : mkR lv atS [fT v c, numT (d : Int)] st = if v = false ∧ (d : Int) < lv then .ok (.mk 4 (d : Int) ⟨#[]⟩ [fT v c]) st else .bad st.at_ 4 := by
 have e : mkR lv atS [fT v c, numT (d : Int)] st = if (numT (d : Int)).k = 2 ∧ 0 ≤ (numT (d : Int)).n ∧ (numT (d : Int)).n < lv ∧ varsT (fT v c) = [] then .ok (.mk 4 (numT (d : Int)).n ⟨#[]⟩ [fT v c]) st else .bad st.at_ 4 := by
  unfold mkR
  simp only [if_true]
 rw [e, vars_f]
 by_cases h : v = false ∧ (d : Int) < lv
 · rw [if_pos h, if_pos]
   · rfl
   · refine ⟨rfl, by show (0 : Int) ≤ (d : Int); omega, h.2, ?_⟩
     rw [h.1]
     rfl
 · rw [if_neg h, if_neg]
   rintro ⟨_, _, h2, h3⟩
   apply h
   refine ⟨?_, h2⟩
   cases v with
   | false => rfl
   | true => cases h3
theorem chk_seal {lv : Int} {c : UInt8} {d : Nat} (h : (d : Int) < lv) : chkT lv (.mk 4 (d : Int) ⟨#[]⟩ [fT false c]) = 0 := by
 have h1 : ChkB lv (inT false c) 1 1 := chkb_atom lv (by show (1 : Nat) ≤ 64; decide)
 have h2 : ChkB lv (fT false c) 2 2 := chkb_one (by decide) h1
 exact chkb_ok (chkb_seal (by omega) h h2 (by rw [vars_f]; rfl)) (by decide) (by decide)
theorem seal_read {lv : Int} {v : Bool} {c : UInt8} {d : Nat} (hc : smallB c = true) (hd : d < 10) : (v = false ∧ (d : Int) < lv → allA lv (se1C v c d) = .ok [.mk 4 (d : Int) ⟨#[]⟩ [fT v c]]) ∧ (¬ (v = false ∧ (d : Int) < lv) → ∃ a, allA lv (se1C v c d) = .bad a 4) := by
 have hx := lxr_se1 (v := v) hc hd
 have hlen : (se1C v c d).length ≤ 4096 := by show (8 : Nat) ≤ 4096; decide
 have h0 : (se1R v c d).drop 0 = namR [102] false :: pnR 40 true :: inR v c :: pnR 41 true :: [namR [64] true, digR d true, endR false] := rfl
 have h4 : (se1R v c d).drop 4 = [namR [64] true, digR d true, endR false] := rfl
 have h5 : (se1R v c d).drop 5 = digR d true :: endR false :: [] := rfl
 have h6 : (se1R v c d).drop 6 = [endR false] := rfl
 have f1 := first_f (lv := lv) (most := 1200) 56 h0
 have r1 := read_loop (lv := lv) (k := 58) f1
 have et : tokA (se1R v c d) 4 = namR [64] true := dr_tok h4
 have hg : goesR (se1R v c d) 1200 0 ⟨4, inN v⟩ = true := by rw [dr_goes h4]; decide
 have hgs : ∀ m : Int, ∀ p : Int, goesR (se1R v c d) m p ⟨6, inN v⟩ = false := fun m p => by
  rw [dr_goes h6]
  unfold goT
  have e : (((endR false).kind == 1) && !(endR false).quo || pT (endR false) [44]) = false := by decide
  rw [e, Bool.false_and]
 have f2 := first_num (L := se1R v c d) (lv := lv) (tm := readT (se1R v c d) lv 57) (most := (refInfix [64]).2.2.1) (n := inN v) h5 rfl (by show (0 : Int) ≤ (d : Int); omega)
 have r2 := read_first (k := 57) f2 (hgs _ _)
 have hk : readT (se1R v c d) lv 59 (refInfix (tokA (se1R v c d) (⟨4, inN v⟩ : RSt).at_).str.data.toList).2.2.1 (adv ⟨4, inN v⟩) = .ok (numT (d : Int), 0) ⟨6, inN v⟩ := by
  show readT (se1R v c d) lv 59 (refInfix (tokA (se1R v c d) 4).str.data.toList).2.2.1 ⟨5, inN v⟩ = _
  rw [et]
  exact r2
 have hm := mk_at lv v c d ⟨6, inN v⟩
 have hsn : (tokA (se1R v c d) (⟨4, inN v⟩ : RSt).at_).str = atS := by
  show (tokA (se1R v c d) 4).str = atS
  rw [et]
  rfl
 constructor
 · intro hcond
   rw [if_pos hcond] at hm
   have hl := loop_go (L := se1R v c d) (lv := lv) (n := (se1R v c d).length) hg hk (by rw [hsn]; exact hm)
   have hr : readT (se1R v c d) lv 60 1200 ⟨0, []⟩ = .ok (.mk 4 (d : Int) ⟨#[]⟩ [fT v c], (refInfix (tokA (se1R v c d) (⟨4, inN v⟩ : RSt).at_).str.data.toList).2.1) ⟨6, inN v⟩ := by
    rw [r1]
    refine hl.trans ?_
    exact loop_stop (hgs _ _) _ _
   refine allA_lxr hlen hx (whole_ok hr (by rw [dr_tok h6]; rfl) ?_ rfl)
   obtain ⟨rfl, h9⟩ := hcond
   exact chk_seal h9
 · intro hcond
   rw [if_neg hcond] at hm
   refine ⟨6, allA_lxr_bad hlen hx (by show 0 < 7; decide) (readS_bad ?_)⟩
   rw [r1]
   show loopR _ _ _ _ ((se1R v c d).length + 1) _ _ ⟨4, inN v⟩ = _
   unfold loopR
   rw [if_pos hg, hk]
   simp only
   rw [hsn, hm]
theorem seal_read2 {lv : Int} {v : Bool} {c : UInt8} {d : Nat} (hc : smallB c = true) (hd : d < 10) : (v = false ∧ (d : Int) < lv → allA lv (se2C v c d) = .ok [.mk 4 (d : Int) ⟨#[]⟩ [fT v c]]) ∧ (¬ (v = false ∧ (d : Int) < lv) → ∃ a, allA lv (se2C v c d) = .bad a 4) := by
 have hx := lxr_se2 (v := v) hc hd
 have hlen : (se2C v c d).length ≤ 4096 := by show (11 : Nat) ≤ 4096; decide
 have h0 : (se2R v c d).drop 0 = namR [64] false :: pnR 40 true :: [namR [102] true, pnR 40 true, inR v c, pnR 41 true, pnR 44 true, digR d false, pnR 41 true, endR true] := rfl
 have h1 : (se2R v c d).drop 1 = pnR 40 true :: [namR [102] true, pnR 40 true, inR v c, pnR 41 true, pnR 44 true, digR d false, pnR 41 true, endR true] := rfl
 have h2 : (se2R v c d).drop 2 = namR [102] true :: pnR 40 true :: inR v c :: pnR 41 true :: [pnR 44 true, digR d false, pnR 41 true, endR true] := rfl
 have h6 : (se2R v c d).drop 6 = pnR 44 true :: [digR d false, pnR 41 true, endR true] := rfl
 have h7 : (se2R v c d).drop 7 = digR d false :: pnR 41 true :: [endR true] := rfl
 have h8 : (se2R v c d).drop 8 = pnR 41 true :: [endR true] := rfl
 have h9 : (se2R v c d).drop 9 = [endR true] := rfl
 have f1 := first_name (L := se2R v c d) (lv := lv) (tm := readT (se2R v c d) lv 58) (most := 1200) (n := []) h0 rfl
 have g1 := first_f (lv := lv) (most := 999) 54 h2
 have r1 := read_first (k := 56) g1 (by show goesR _ 999 0 ⟨6, inN v⟩ = false; rw [dr_goes h6]; decide)
 have r2 := read_dig (lv := lv) 56 (most := 999) (nm := inN v) h7 (by decide)
 have ha : argsR (se2R v c d) (readT (se2R v c d) lv 58) ⟨2, []⟩ = .ok [fT v c, numT (d : Int)] ⟨8, inN v⟩ := by
  unfold argsR
  rw [r1]
  show moreR _ _ ((se2R v c d).length + 1) [fT v c] ⟨6, inN v⟩ = _
  rw [more_one (st := ⟨6, inN v⟩) (by show isP _ 6 [44] = true; rw [dr_p h6]; decide) r2]
  exact more_stop (by show isP _ 8 [44] = false; rw [dr_p h8]; decide)
 have hn := name_args (L := se2R v c d) (lv := lv) (t := namR [64] false) (most := 1200) (n := []) h1 rfl (by decide) ha (by show isP _ 8 [41] = true; rw [dr_p h8]; decide)
 have hm := mk_at lv v c d ⟨9, inN v⟩
 rw [hn] at f1
 have f2 : firstR (se2R v c d) lv (readT (se2R v c d) lv 58) 1200 ⟨0, []⟩ = mapR (·, 0) (if v = false ∧ (d : Int) < lv then .ok (.mk 4 (d : Int) ⟨#[]⟩ [fT v c]) ⟨9, inN v⟩ else .bad 9 4) := f1.trans (congrArg _ hm)
 constructor
 · intro hcond
   rw [if_pos hcond] at f2
   have hr := read_first (k := 58) (x := .mk 4 (d : Int) ⟨#[]⟩ [fT v c]) (p := 0) f2 (by rw [dr_goes h9]; decide)
   refine allA_lxr hlen hx (whole_ok hr (by rw [dr_tok h9]; rfl) ?_ rfl)
   obtain ⟨rfl, hlt⟩ := hcond
   exact chk_seal hlt
 · intro hcond
   rw [if_neg hcond] at f2
   exact ⟨9, allA_lxr_bad hlen hx (by show 0 < 10; decide) (readS_bad (read_firstbad f2))⟩
end Go.Proofs.YtanhhihechakhaaDoor.ReadP
set_option linter.unusedVariables false
set_option linter.unusedSimpArgs false
namespace Go.Proofs.YtanhhihechakhaaDoor
open Go.RowKit Go.Proofs.YtanhhihechakhaaDoor.E Go.Proofs.YtanhhihechakhaaDoor.ReplP Go.Proofs.YtanhhihechakhaaDoor.TokP Go.Proofs.YtanhhihechakhaaDoor.TermP Go.Proofs.YtanhhihechakhaaDoor.WrP Go.Proofs.YtanhhihechakhaaDoor.ReadP Go.Proofs.YtanhhihechakhaaDoor.OpsP
def dgN (u : UInt8) : Nat := u.toNat % 10
theorem dgN_lt (u : UInt8) : dgN u < 10 := Nat.mod_lt _ (by decide)
theorem dig_byte (u : UInt8) : ((48 + dgN u : Nat) : Int) = ((digC (dgN u)).toNat : Int) := by
 have := fig_byte (dgN_lt u)
 unfold digC
 rw [this]
theorem bz (l : List UInt8) : (⟨l.toArray⟩ : ByteArray).size = l.length := by simp [ByteArray.size]
end Go.Proofs.YtanhhihechakhaaDoor

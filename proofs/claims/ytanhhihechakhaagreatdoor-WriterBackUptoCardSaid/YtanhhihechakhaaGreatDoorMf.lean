/- The engine, the plain laws and the walks of this seat, part 6: what the functions answer. Conditions: as each says; printed by programs of this session. -/
import Derived.Test.YtanhhihechakhaaGreatDoorProg
import Derived.Test.YtanhhihechakhaaGreatDoorRows
import Derived.LaidMore
import Derived.LaidSub
import Derived.LaidHandle
import Derived.Stop.Joined
import Derived.Deep.Slices
import Derived.Deep.DeepHandedRow
import Derived.Test.YtanhhihechakhaaGreatDoorMe
set_option linter.unusedVariables false
set_option linter.unusedSimpArgs false
namespace Go.Proofs.YtanhhihechakhaaGreatDoor
open Go.RowKit Go.Proofs.YtanhhihechakhaaGreatDoor.E Go.Proofs.YtanhhihechakhaaGreatDoor.ReplP Go.Proofs.YtanhhihechakhaaGreatDoor.TokP Go.Proofs.YtanhhihechakhaaGreatDoor.TermP Go.Proofs.YtanhhihechakhaaGreatDoor.WrP Go.Proofs.YtanhhihechakhaaGreatDoor.ReadP Go.Proofs.YtanhhihechakhaaGreatDoor.OpsP
theorem loop_end {L : List RT} {lv : Int} {tm : Rd} {most pri : Int} {n : Nat} {x : Tm} {st : RSt} (hp : goesR L most pri st = false) : loopR L lv tm most n x pri st = .ok (x, pri) st := by
 cases n with
 | zero => rfl
 | succ m =>
  unfold loopR
  rw [if_neg (by rw [hp]; decide)]
theorem loop_bad {L : List RT} {lv : Int} {tm : Rd} {most pri : Int} {n : Nat} {x : Tm} {st : RSt} {a : Nat} {e : Int} (hp : goesR L most pri st = true) (hk : tm (refInfix (tokA L st.at_).str.data.toList).2.2.1 (adv st) = .bad a e) (hn : 1 ≤ n) : loopR L lv tm most n x pri st = .bad a e := by
 obtain ⟨m, rfl⟩ : ∃ m, n = m + 1 := ⟨n - 1, by omega⟩
 unfold loopR
 rw [if_pos hp, hk]
theorem loop_bad2 {L : List RT} {lv : Int} {tm : Rd} {most pri : Int} {n : Nat} {x : Tm} {y : Tm × Int} {st s2 : RSt} {a : Nat} {e : Int} (hp : goesR L most pri st = true) (hk : tm (refInfix (tokA L st.at_).str.data.toList).2.2.1 (adv st) = .ok y s2) (hm : mkR lv (tokA L st.at_).str [x, y.1] s2 = .bad a e) (hn : 1 ≤ n) : loopR L lv tm most n x pri st = .bad a e := by
 obtain ⟨m, rfl⟩ : ∃ m, n = m + 1 := ⟨n - 1, by omega⟩
 unfold loopR
 rw [if_pos hp, hk]
 simp only
 rw [hm]
theorem loop_step {L : List RT} {lv : Int} {tm : Rd} {most pri : Int} {n : Nat} {x z : Tm} {y : Tm × Int} {st s2 s3 : RSt} (hp : goesR L most pri st = true) (hk : tm (refInfix (tokA L st.at_).str.data.toList).2.2.1 (adv st) = .ok y s2) (hm : mkR lv (tokA L st.at_).str [x, y.1] s2 = .ok z s3) (hn : 1 ≤ n) : loopR L lv tm most n x pri st = loopR L lv tm most (n - 1) z (refInfix (tokA L st.at_).str.data.toList).2.1 s3 := by
 obtain ⟨m, rfl⟩ : ∃ m, n = m + 1 := ⟨n - 1, by omega⟩
 conv => lhs; unfold loopR
 rw [if_pos hp, hk]
 simp only
 rw [hm]
 rfl
structure TZ where
 g : GT
 pri : Int
 st : RSt
 o : Obj
 vn : Value
 hh : Hp
 n : Nat
theorem tk_bad {L : List RT} {lv : Int} {k : Nat} {inn most : Int} {st : RSt} {a : Nat} {e : Int} (hk : inn + k = 60 ∨ k = 0 ∧ 60 ≤ inn) (hb : (if inn + 1 > 60 then RO.bad st.at_ 7 else RO.ok () st : RO Unit) = .bad a e) : readT L lv k most st = .bad a e := by
 have h1 : inn + 1 > 60 := by
  by_cases h : inn + 1 > 60
  · exact h
  · rw [if_neg h] at hb; cases hb
 rw [if_pos h1] at hb
 cases hb
 obtain rfl : k = 0 := by omega
 rw [readT]
theorem tk_low {st : RSt} {inn : Int} {s : RSt} (hb : (if inn + 1 > 60 then RO.bad st.at_ 7 else RO.ok () st : RO Unit) = .ok () s) : ¬ inn + 1 > 60 := fun h => by
 rw [if_pos h] at hb; cases hb
theorem tk_bad2 {L : List RT} {lv : Int} {k : Nat} {inn most : Int} {st : RSt} {a : Nat} {e : Int} (hk : inn + k = 60 ∨ k = 0 ∧ 60 ≤ inn) (h1 : ¬ inn + 1 > 60) (hb : (if inn + 1 + 1 > 60 then .bad st.at_ 7 else firstR L lv (readT L lv (k - 2)) most st) = .bad a e) : readT L lv k most st = .bad a e := by
 by_cases h2 : inn + 1 + 1 > 60
 · rw [if_pos h2] at hb
   cases hb
   obtain rfl : k = 1 := by omega
   rw [readT]
 · rw [if_neg h2] at hb
   obtain ⟨k, rfl⟩ : ∃ m, k = m + 2 := ⟨k - 2, by omega⟩
   have e : k + 2 - 2 = k := by omega
   rw [e] at hb
   simp only [readT]
   rw [hb]
theorem tk_ok {L : List RT} {lv : Int} {k : Nat} {inn most : Int} {st s : RSt} {x : Tm × Int} (hk : inn + k = 60 ∨ k = 0 ∧ 60 ≤ inn) (h1 : ¬ inn + 1 > 60) (hb : (if inn + 1 + 1 > 60 then .bad st.at_ 7 else firstR L lv (readT L lv (k - 2)) most st) = .ok x s) : loopR L lv (readT L lv (k - 1)) most (L.length + 1) x.1 x.2 s = readT L lv k most st ∧ 2 ≤ k ∧ firstR L lv (readT L lv (k - 2)) most st = .ok x s := by
 by_cases h2 : inn + 1 + 1 > 60
 · rw [if_pos h2] at hb
   cases hb
 · rw [if_neg h2] at hb
   refine ⟨?_, by omega, hb⟩
   obtain ⟨k, rfl⟩ : ∃ m, k = m + 2 := ⟨k - 2, by omega⟩
   have e : k + 2 - 2 = k := by omega
   have e2 : k + 2 - 1 = k + 1 := by omega
   rw [e] at hb
   rw [e2]
   simp only [readT]
   rw [hb]
theorem duoW {h : Hp} {a b : GT} {n : Nat} (ha : Lies h a ∧ Fits a) (hb : Lies h b ∧ Fits b) (hwa : wtT a.tm ≤ n) (hwb : wtT b.tm ≤ n) : ∀ t ∈ [a, b], (Lies h t ∧ Fits t) ∧ wtG t ≤ n := fun t ht => by
 rcases List.mem_cons.1 ht with rfl | ht
 · exact ⟨ha, by rw [wtG_tm]; exact hwa⟩
 · rw [List.mem_singleton.1 ht]
   exact ⟨hb, by rw [wtG_tm]; exact hwb⟩
set_option maxRecDepth 100000 in
theorem term_s (r bm : Nat) (A : Option Addr) (c : Nat) (L : List RT) (lv : Int) (h : Hp) (st : RSt) (inn : Int) (o : Obj) (vn : Value) (k : Nat) (hk : inn + k = 60 ∨ k = 0 ∧ 60 ≤ inn) (hi0 : 0 ≤ inn) (hi1 : inn ≤ 999000) (ihs : ∀ (k2 : Nat), k2 < k → ∀ (inn2 : Int), (inn2 + k2 = 60 ∨ k2 = 0 ∧ 60 ≤ inn2) → 0 ≤ inn2 → inn2 ≤ 999000 → TmC r bm A c L lv inn2 (readT L lv k2)) (most : Int) (hqN : ∀ x ∈ L, TokOk x) (hPW : ∀ i, preW L i ≤ 549755813888) (hT : RowsAt h A 5 (L.map rtC)) (hL : L.length ≤ 1048576) (hat : st.at_ ≤ L.length) (hnm : st.names.length ≤ st.at_) (hm : MapV Tryz.prog 9 3 o st.names.length (lastI st.names)) : RdC r bm A c L lv 83 [.int .i64 most] h st inn o vn (readT L lv k most st) (·.1) (fun x g => .tuple #[.agg (GT.cells g).toArray, .int .i64 x.2]) := by
 refine enterR Tryz.func83 rfl rfl rfl (fun w hb0 => ?_)
 refine cy_seq ?_
 refine cy_region ?_
 refine sy_alloc zer_24 rfl rfl (fun b4 hb4 hM4 => ?_) (by first | exact hb0 | simp)
 refine sy_assign rfl rfl rfl ?_
 refine sy_nil rfl ?_
 refine ny_next ?_
 refine cy_seq ?_
 refine cy_region ?_
 refine sy_move rfl rfl rfl ?_
 refine sy_callRO [1] call_96 rfl rfl (deeper_c r bm A c L lv _ hT hL st inn vn hat hi0 (by omega)) rfl rfl (fun a14 e14 h14x H14x hb14 hx14 hle14x => ?_) (fun x14 s14 g14 h14x H14x hk14 hx14 hle14x => ?_)
 · obtain ⟨rfl, rfl⟩ := hx14
   refine ny_thenP ?_
   exact ny_finP (fun w9 hs => ⟨.bad a14 e14, _, _, rfl, ⟨tk_bad hk hb14, _, _, _, _, _, rfl⟩, hs.sel (is := [0, 1, 1]) rfl⟩)
 · obtain ⟨rfl, rfl⟩ := hx14
   have hlow := tk_low hk14
   refine sy_nil rfl ?_
   refine ny_next ?_
   refine cy_seq ?_
   refine cy_region ?_
   refine sy_move rfl rfl rfl ?_
   refine sy_move rfl rfl rfl ?_
   refine sy_callRO [0, 1, 1] call_97 rfl rfl (first_c r bm A c L lv _ st (inn + 1) o vn most hqN _ (read_fwd L lv (k - 2)) (read_wt L lv (k - 2)) hPW (by omega) (by omega) (ihs (k - 2) (by omega) (inn + 1 + 1) (by omega) (by omega) (by omega)) hT hL hat hnm hm) rfl rfl (fun a18 e18 h18x H18x hb18 hx18 hle18x => ?_) (fun x18 s18 g18 h18x H18x hk18 hx18 hle18x => ?_)
   · obtain ⟨a9, i9, o9, v9, n9, rfl⟩ := hx18
     refine ny_thenP ?_
     exact ny_finP (fun w9 hs => ⟨.bad a18 e18, _, _, rfl, ⟨tk_bad2 hk hlow hb18, _, _, _, _, _, rfl⟩, hs.sel (is := [0, 0, 0]) rfl⟩)
   · obtain ⟨hg18, hl18, hm18, rfl⟩ := hx18
     obtain ⟨hkey, hk2, hfst⟩ := tk_ok hk hlow hk18
     have hfw := first_fwd (lv := lv) (read_fwd L lv (k - 2)) most st x18 s18 hat hfst
     have hww := first_wt (lv := lv) (read_fwd L lv (k - 2)) (read_wt L lv (k - 2)) most st x18 s18 hat hfst
     replace hg18 : g18.1.tm = x18.1 := hg18
     refine sy_move rfl rfl rfl ?_
     refine sy_extract rfl rfl rfl rfl ?_
     refine sy_extract rfl rfl rfl rfl ?_
     refine sy_alloc zer_24 rfl rfl (fun b6 hb6 hM6 => ?_) (by first | exact hb0 | simp)
     refine sy_stl 0 sz_24 rfl rfl rfl rfl rfl rfl rfl rfl ?_
     refine sy_assign rfl rfl rfl ?_
     refine sy_nil rfl ?_
     refine ny_next ?_
     refine cy_seq ?_
     refine cy_block ?_
     refine cy_loopK (ι := TZ) [0, 1, 4, 6] rfl (fun z => loopR L lv (readT L lv (k - 1)) most z.n z.g.tm z.pri z.st = readT L lv k most st ∧ L.length + 1 ≤ z.n + z.st.at_ ∧ z.st.at_ ≤ L.length ∧ z.st.names.length ≤ z.st.at_ ∧ MapV Tryz.prog 9 3 z.o z.st.names.length (lastI z.st.names) ∧ h18x.Le z.hh ∧ (Lies z.hh z.g ∧ Fits z.g) ∧ wtT z.g.tm ≤ preW L z.st.at_) (fun z => L.length - z.st.at_) (fun z => [(7, .int .i64 z.pri)]) (fun z => z.hh) (fun z => [.blk b6 (.cells (GT.cells z.g).toArray 24 (0, 0)), .blk b4 (.cells ([.int .i64 0, .int .i64 0, .string ⟨#[]⟩, .slice none 0 0] : List Value).toArray 24 (0, 0)), .blk r (.cells [.slice A L.length c, .int .i64 ((z.st.at_ : Nat) : Int), .int .i64 lv, .int .i64 (inn + 1), .map (some bm), z.vn].toArray 88 (0, 0)), .blk bm z.o, .row z.vn 9 1 z.st.names.length ((z.st.names.map strC).flatten)]) ⟨g18.1, x18.2, s18, g18.2.1, g18.2.2, h18x, L.length + 1⟩ [0, 3, 0, 0, 0] ⟨(by rw [← hkey, hg18]), (by show L.length + 1 ≤ L.length + 1 + s18.at_; omega), hfw.2.1, (by show s18.names.length ≤ s18.at_; omega), hm18, Hp.Le.refl _, hl18, (by show wtT g18.1.tm ≤ preW L s18.at_; rw [hg18]; omega)⟩ ⟨rfl, trivial⟩ rfl rfl ?_
     rintro ⟨g, pri, st2, o2, vn2, hz, m⟩ ⟨hro, hmn, hat2, hnm2, hm2, hlez, hlg, hwg⟩
     simp only at hro hmn hat2 hnm2 hm2 hlez hlg hwg ⊢
     have hTz : RowsAt hz A 5 (L.map rtC) := (hT.le hle18x).le hlez
     refine cy_block ?_
     refine cy_seq ?_
     refine cy_region ?_
     refine sy_move rfl rfl rfl ?_
     refine sy_callR1 [2] call_56 rfl rfl (peek_c r bm A c L lv _ hTz hL st2 (inn + 1) vn2 hat2) rfl rfl (fun x22 h22x H22x hx22 hle22x => ?_)
     obtain ⟨rfl, rfl⟩ := hx22
     refine sy_alloc zer_79 rfl rfl (fun b8 hb8 hM8 => ?_) (by first | exact hb0 | simp)
     refine sy_stl 0 sz_79 rfl rfl rfl rfl rfl rfl rfl rfl ?_
     refine sy_nil rfl ?_
     refine ny_next ?_
     refine cy_seq ?_
     refine cy_seq ?_
     refine cy_frz 0 rfl hM8 (fun h8 hle8 hb8x => ?_)
     replace hTz := hTz.le hle8
     replace hlg : Lies h8 g ∧ Fits g := ⟨hlg.1.le hle8, hlg.2⟩
     have hlgf := hlg
     refine cy_region ?_
     refine sy_field fld_79_0 rfl rfl rfl ?_
     refine sy_ldh one_3 rfl (Hp.blk hb8x 0 _ rfl) rfl rfl ?_
     refine sy_cmp rfl rfl rfl rfl rfl ?_
     refine sy_move rfl rfl rfl ?_
     refine sy_cond (d := 26) _ rfl rfl (fun hg26 => ?_) (fun hg26 => ?_)
     · refine sy_field fld_79_3 rfl rfl rfl ?_
       refine sy_ldh one_4 rfl (Hp.blk hb8x 3 _ rfl) rfl rfl ?_
       refine sy_not rfl rfl rfl ?_
       refine sy_pickT rfl rfl rfl rfl ?_
       refine sy_move rfl rfl rfl ?_
       refine sy_cond (d := 31) _ rfl rfl (fun hg31 => ?_) (fun hg31 => ?_)
       · refine sy_skip rfl rfl rfl ?_
         refine sy_skip rfl rfl rfl ?_
         refine sy_pickT rfl rfl rfl rfl ?_
         refine sy_not rfl rfl rfl ?_
         refine sy_nil rfl ?_
         refine ny_next ?_
         refine cy_condF rfl ?_
         have hA : ((((tokA L st2.at_).kind == 1) && !(tokA L st2.at_).quo) || isP L st2.at_ [44]) = true := by rw [hg26, hg31]; rfl
         refine cy_skip ?_
         refine ny_next ?_
         refine cy_seq ?_
         refine cy_region ?_
         refine sy_field fld_79_1 rfl rfl rfl ?_
         refine sy_ldh one_9 rfl (Hp.blk hb8x 1 _ rfl) rfl rfl ?_
         refine sy_call rfl call_99 rfl (infix_c (tokA L st2.at_).str _) rfl rfl ?_
         refine sy_move rfl rfl rfl ?_
         refine sy_extract rfl rfl rfl rfl ?_
         refine sy_extract rfl rfl rfl rfl ?_
         refine sy_extract rfl rfl rfl rfl ?_
         refine sy_extract rfl rfl rfl rfl ?_
         refine sy_assign rfl rfl rfl ?_
         refine sy_assign rfl rfl rfl ?_
         refine sy_assign rfl rfl rfl ?_
         refine sy_assign rfl rfl rfl ?_
         refine sy_nil rfl ?_
         refine ny_next ?_
         refine cy_seq ?_
         refine cy_seq ?_
         refine cy_region ?_
         refine sy_move rfl rfl rfl ?_
         refine sy_not rfl rfl rfl ?_
         refine sy_move rfl rfl rfl ?_
         refine sy_cond (d := 46) _ rfl rfl (fun hg46 => ?_) (fun hg46 => ?_)
         · refine sy_skip rfl rfl rfl ?_
           refine sy_skip rfl rfl rfl ?_
           refine sy_skip rfl rfl rfl ?_
           refine sy_pickT rfl rfl rfl rfl ?_
           refine sy_move rfl rfl rfl ?_
           refine sy_skip rfl rfl rfl ?_
           refine sy_skip rfl rfl rfl ?_
           refine sy_skip rfl rfl rfl ?_
           refine sy_pickT rfl rfl rfl rfl ?_
           refine sy_nil rfl ?_
           refine ny_next ?_
           refine cy_condT rfl ?_
           have hgo : goesR L most pri st2 = false := by
            unfold goesR
            rw [hA, Bool.true_and]
            first
            | (have h9 : (refInfix (tokA L st2.at_).str.data.toList).2.2.2 = false := by simpa using hg46
               rw [h9]; rfl)
            | (rw [decide_eq_false (p := (refInfix (tokA L st2.at_).str.data.toList).2.1 ≤ most) (by have := of_decide_eq_true hg51; omega), Bool.and_false]; rfl)
           refine cy_exit ?_
           refine ny_thenE ?_
           refine ny_blockY rfl ?_
           refine ny_thenE ?_
           refine ny_blockX ?_
           refine ny_next ?_
           refine cy_seq ?_
           refine cy_region ?_
           refine sy_move rfl rfl rfl ?_
           refine sy_nilCheck rfl rfl rfl ?_
           refine sy_field fld_88_3 rfl rfl rfl ?_
           refine sy_ldr 0 one_3 rfl rfl rfl rfl rfl ?_
           refine sy_subi (z := inn) rfl rfl (by omega) (by omega) (by omega) rfl rfl ?_
           refine sy_nilCheck rfl rfl rfl ?_
           refine sy_field fld_88_3 rfl rfl rfl ?_
           refine sy_stl 0 sz_3 rfl rfl rfl rfl rfl rfl rfl rfl ?_
           refine sy_nil rfl ?_
           refine ny_next ?_
           refine cy_seq ?_
           refine cy_region ?_
           refine sy_ldar 1 agg_24 rfl rfl rfl rfl rfl ?_
           refine sy_move rfl rfl rfl ?_
           refine sy_stl 2 sz_24 rfl rfl rfl rfl rfl rfl rfl rfl ?_
           refine sy_assign rfl rfl rfl ?_
           refine sy_nil rfl ?_
           refine ny_next ?_
           refine cy_ret ?_
           exact ny_finR (resc1 0 rfl agg_24 rfl rfl rfl rfl) (fun w9 hs => ⟨.ok (g.tm, pri) st2 (g, o2, vn2), _, _, rfl, ⟨hro.symm.trans (loop_end hgo), rfl, hlgf, hm2, rfl⟩, hs.sel (is := [1, 2, 2]) rfl⟩)
         · refine sy_move rfl rfl rfl ?_
           refine sy_move rfl rfl rfl ?_
           refine sy_cmp rfl rfl rfl rfl rfl ?_
           refine sy_pickF rfl rfl rfl rfl ?_
           refine sy_move rfl rfl rfl ?_
           refine sy_cond (d := 51) _ rfl rfl (fun hg51 => ?_) (fun hg51 => ?_)
           · refine sy_skip rfl rfl rfl ?_
             refine sy_skip rfl rfl rfl ?_
             refine sy_skip rfl rfl rfl ?_
             refine sy_pickT rfl rfl rfl rfl ?_
             refine sy_nil rfl ?_
             refine ny_next ?_
             refine cy_condT rfl ?_
             have hgo : goesR L most pri st2 = false := by
              unfold goesR
              rw [hA, Bool.true_and]
              first
              | (have h9 : (refInfix (tokA L st2.at_).str.data.toList).2.2.2 = false := by simpa using hg46
                 rw [h9]; rfl)
              | (rw [decide_eq_false (p := (refInfix (tokA L st2.at_).str.data.toList).2.1 ≤ most) (by have := of_decide_eq_true hg51; omega), Bool.and_false]; rfl)
             refine cy_exit ?_
             refine ny_thenE ?_
             refine ny_blockY rfl ?_
             refine ny_thenE ?_
             refine ny_blockX ?_
             refine ny_next ?_
             refine cy_seq ?_
             refine cy_region ?_
             refine sy_move rfl rfl rfl ?_
             refine sy_nilCheck rfl rfl rfl ?_
             refine sy_field fld_88_3 rfl rfl rfl ?_
             refine sy_ldr 0 one_3 rfl rfl rfl rfl rfl ?_
             refine sy_subi (z := inn) rfl rfl (by omega) (by omega) (by omega) rfl rfl ?_
             refine sy_nilCheck rfl rfl rfl ?_
             refine sy_field fld_88_3 rfl rfl rfl ?_
             refine sy_stl 0 sz_3 rfl rfl rfl rfl rfl rfl rfl rfl ?_
             refine sy_nil rfl ?_
             refine ny_next ?_
             refine cy_seq ?_
             refine cy_region ?_
             refine sy_ldar 1 agg_24 rfl rfl rfl rfl rfl ?_
             refine sy_move rfl rfl rfl ?_
             refine sy_stl 2 sz_24 rfl rfl rfl rfl rfl rfl rfl rfl ?_
             refine sy_assign rfl rfl rfl ?_
             refine sy_nil rfl ?_
             refine ny_next ?_
             refine cy_ret ?_
             exact ny_finR (resc1 0 rfl agg_24 rfl rfl rfl rfl) (fun w9 hs => ⟨.ok (g.tm, pri) st2 (g, o2, vn2), _, _, rfl, ⟨hro.symm.trans (loop_end hgo), rfl, hlgf, hm2, rfl⟩, hs.sel (is := [1, 2, 2]) rfl⟩)
           · refine sy_move rfl rfl rfl ?_
             refine sy_move rfl rfl rfl ?_
             refine sy_cmp rfl rfl rfl rfl rfl ?_
             refine sy_pickF rfl rfl rfl rfl ?_
             refine sy_nil rfl ?_
             refine ny_next ?_
             refine cy_cond rfl (fun hc55 => ?_) (fun hc55 => ?_)
             · have hgo : goesR L most pri st2 = false := by
                unfold goesR
                rw [hA, Bool.true_and, decide_eq_false (p := pri ≤ (refInfix (tokA L st2.at_).str.data.toList).1) (by have := of_decide_eq_true hc55; omega), Bool.and_false]
               refine cy_exit ?_
               refine ny_thenE ?_
               refine ny_blockY rfl ?_
               refine ny_thenE ?_
               refine ny_blockX ?_
               refine ny_next ?_
               refine cy_seq ?_
               refine cy_region ?_
               refine sy_move rfl rfl rfl ?_
               refine sy_nilCheck rfl rfl rfl ?_
               refine sy_field fld_88_3 rfl rfl rfl ?_
               refine sy_ldr 0 one_3 rfl rfl rfl rfl rfl ?_
               refine sy_subi (z := inn) rfl rfl (by omega) (by omega) (by omega) rfl rfl ?_
               refine sy_nilCheck rfl rfl rfl ?_
               refine sy_field fld_88_3 rfl rfl rfl ?_
               refine sy_stl 0 sz_3 rfl rfl rfl rfl rfl rfl rfl rfl ?_
               refine sy_nil rfl ?_
               refine ny_next ?_
               refine cy_seq ?_
               refine cy_region ?_
               refine sy_ldar 1 agg_24 rfl rfl rfl rfl rfl ?_
               refine sy_move rfl rfl rfl ?_
               refine sy_stl 2 sz_24 rfl rfl rfl rfl rfl rfl rfl rfl ?_
               refine sy_assign rfl rfl rfl ?_
               refine sy_nil rfl ?_
               refine ny_next ?_
               refine cy_ret ?_
               exact ny_finR (resc1 0 rfl agg_24 rfl rfl rfl rfl) (fun w9 hs => ⟨.ok (g.tm, pri) st2 (g, o2, vn2), _, _, rfl, ⟨hro.symm.trans (loop_end hgo), rfl, hlgf, hm2, rfl⟩, hs.sel (is := [1, 2, 2]) rfl⟩)
             · have hgo : goesR L most pri st2 = true := by
                unfold goesR
                have h9 : (refInfix (tokA L st2.at_).str.data.toList).2.2.2 = true := by simpa using hg46
                rw [hA, Bool.true_and, h9, decide_eq_true (p := (refInfix (tokA L st2.at_).str.data.toList).2.1 ≤ most) (by have := of_decide_eq_false hg51; omega), decide_eq_true (p := pri ≤ (refInfix (tokA L st2.at_).str.data.toList).1) (by have := of_decide_eq_false hc55; omega)]
                rfl
               refine cy_skip ?_
               refine ny_next ?_
               refine cy_seq ?_
               refine cy_region ?_
               refine sy_move rfl rfl rfl ?_
               refine sy_nilCheck rfl rfl rfl ?_
               refine sy_field fld_88_1 rfl rfl rfl ?_
               refine sy_ldr 0 one_3 rfl rfl rfl rfl rfl ?_
               refine sy_addi (z := ((st2.at_ + 1 : Nat) : Int)) rfl rfl (by omega) (by omega) (by omega) rfl rfl ?_
               have hlt := goes_lt hgo
               refine sy_nilCheck rfl rfl rfl ?_
               refine sy_field fld_88_1 rfl rfl rfl ?_
               refine sy_stl 0 sz_3 rfl rfl rfl rfl rfl rfl rfl rfl ?_
               refine sy_nil rfl ?_
               refine ny_next ?_
               refine cy_regionAP mixed ?_
               refine zy_qP 0 (fun c a d v w hq => by cases d <;> exact hq) rfl (by kernel_rfl) (fun hB8_0 => ?_)
               refine sy_move rfl rfl rfl ?_
               refine sy_nil1 (ny_zqP hB8_0 ?_)
               refine zy_qP 1 (fun c a d v w hq => by cases d <;> exact hq) rfl (by kernel_rfl) (fun hB8_1 => ?_)
               refine sy_field fld_79_1 rfl rfl rfl ?_
               refine sy_nil1 (ny_zqP hB8_1 ?_)
               refine zy_qP 2 (fun c a d v w hq => by cases d <;> exact hq) rfl (by kernel_rfl) (fun hB8_2 => ?_)
               refine sy_ldh one_9 rfl (Hp.blk hb8x 1 _ rfl) rfl rfl ?_
               refine sy_nil1 (ny_zqP hB8_2 ?_)
               refine zy_qP 4 (fun c a d v w hq => by cases d <;> exact hq) rfl (by kernel_rfl) (fun hB8_4 => ?_)
               refine sy_move rfl rfl rfl ?_
               refine sy_nil1 (ny_zqP hB8_4 ?_)
               refine zy_qP 5 (fun c a d v w hq => by cases d <;> exact hq) rfl (by kernel_rfl) (fun hB8_5 => ?_)
               refine sy_move rfl rfl rfl ?_
               refine sy_nil1 (ny_zqP hB8_5 ?_)
               refine zy_qP 9 (fun c a d v w hq => by cases d <;> exact hq) rfl (by kernel_rfl) (fun hB8_9 => ?_)
               refine sy_move rfl rfl rfl ?_
               refine sy_nil1 (ny_zqP hB8_9 ?_)
               refine zy_2P 3 6 (by kernel_rfl) ?_ ?_
               · refine zop_runP rfl rfl (fun hB8_3 => ?_)
                 refine sy_ldar 1 agg_24 rfl rfl rfl rfl rfl ?_
                 refine sy_nil rfl (ny_zyP hB8_3 (Hp.Le.refl _) ?_)
                 refine zy_1P 6 (by kernel_rfl) ?_
                 refine zop_runP rfl rfl (fun hB8_6 => ?_)
                 refine sy_callRO [0, 2, 2] call_55 rfl rfl (ihs (k - 1) (by omega) (inn + 1) (by omega) (by omega) (by omega) _ (adv st2) o2 vn2 _ hTz (by show st2.at_ + 1 ≤ _; omega) (by show st2.names.length ≤ st2.at_ + 1; omega) hm2) rfl rfl (fun a69 e69 h69x H69x hb69 hx69 hle69x => ?_) (fun x69 s69 g69 h69x H69x hk69 hx69 hle69x => ?_)
                 · obtain ⟨a9, i9, o9, v9, n9, rfl⟩ := hx69
                   refine ny_zyPP ?_
                   refine ny_blockP ?_
                   refine ny_thenP ?_
                   refine ny_blockP ?_
                   refine ny_thenP ?_
                   exact ny_finP (fun w9 hs => ⟨.bad a69 e69, _, _, rfl, ⟨hro.symm.trans (loop_bad hgo hb69 (by omega)), _, _, _, _, _, rfl⟩, hs.sel (is := [0, 0, 0]) rfl⟩)
                 · obtain ⟨hg69, hl69, hm69, rfl⟩ := hx69
                   replace hg69 : g69.1.tm = x69.1 := hg69
                   have hfw69 := read_fwd L lv (k - 1) _ (adv st2) x69 s69 (by show st2.at_ + 1 ≤ _; omega) hk69
                   have hww69 := read_wt L lv (k - 1) _ (adv st2) x69 s69 (by show st2.at_ + 1 ≤ _; omega) hk69
                   simp only [adv] at hfw69 hww69
                   rw [preW_succ hlt] at hww69
                   have hpw69 := hPW s69.at_
                   refine sy_nil rfl (ny_zyP hB8_6 hle69x ?_)
                   refine zy_1P 7 (by kernel_rfl) ?_
                   refine zop_runP rfl rfl (fun hB8_7 => ?_)
                   refine sy_buildSlice (cs := [g, g69.1].flatMap GT.cells) rfl (fun w => bsl_22_2_0x1 w) rfl rfl (fun b70 hb70 hM70 => ?_) (by first | exact hb0 | simp)
                   refine sy_frz 0 rfl hM70 (fun h70 hle70 hb70x => ?_)
                   have hr70 : RowsAt h70 (some ⟨b70, 0, none⟩) 4 ([g, g69.1].map GT.cells) := rows_blk (by decide) (GT.cells_len _) hb70x
                   refine sy_nil rfl (ny_zyP hB8_7 hle70 ?_)
                   refine zy_1P 8 (by kernel_rfl) ?_
                   refine zop_runP rfl rfl (fun hB8_8 => ?_)
                   refine sy_callRO [0] call_100 rfl rfl (mk_c (tokA L st2.at_).str (tokA_ok hqN st2.at_).2.1 [g, g69.1] (some ⟨b70, 0, none⟩) 2 r bm A c L lv _ ((hTz.le hle69x).le hle70) hL s69 (inn + 1) g69.2.2 hfw69.2.1 rfl hr70 (duoW (h := h70) ⟨(hlg.1.le hle69x).le hle70, hlg.2⟩ ⟨hl69.1.le hle70, hl69.2⟩ (by omega) (by rw [hg69]; omega)) (by simp) (by simp)) rfl rfl (fun a71 e71 h71x H71x hb71 hx71 hle71x => ?_) (fun x71 s71 g71 h71x H71x hk71 hx71 hle71x => ?_)
                   · subst hx71
                     refine ny_zyPP ?_
                     refine ny_blockP ?_
                     refine ny_thenP ?_
                     refine ny_blockP ?_
                     refine ny_thenP ?_
                     exact ny_finP (fun w9 hs => ⟨.bad a71 e71, _, _, rfl, ⟨hro.symm.trans (loop_bad2 hgo hk69 (by rw [← hg69]; exact hb71) (by omega)), _, _, _, _, _, rfl⟩, hs.sel (is := [0, 0, 0]) rfl⟩)
                   · obtain ⟨hg71, hl71, rfl⟩ := hx71
                     have hst71 := (mkR_st hk71).symm
                     subst hst71
                     have hmw71 := mkR_wt hk71
                     rw [List.map_cons, List.map_cons, List.map_nil, wtTs_cons, wtTs_cons, wtTs_nil, hg69] at hmw71
                     refine sy_nil rfl (ny_zyP hB8_8 hle71x ?_)
                     refine zy_1P 10 (by kernel_rfl) ?_
                     refine zop_runP rfl rfl (fun hB8_10 => ?_)
                     refine sy_stl 3 sz_24 rfl rfl rfl rfl rfl rfl rfl rfl ?_
                     refine sy_nil rfl (ny_zyP hB8_10 (Hp.Le.refl _) ?_)
                     refine zy_qP 11 (fun c a d v w hq => by cases d <;> exact hq) rfl (by kernel_rfl) (fun hB8_11 => ?_)
                     refine sy_assign rfl rfl rfl ?_
                     refine sy_nil1 (ny_zqP hB8_11 ?_)
                     refine zy_doneP (by kernel_rfl) ?_
                     refine ny_blockN ?_
                     refine ny_roundK [0, 1, 4, 6] ⟨g71, (refInfix (tokA L st2.at_).str.data.toList).2.1, s69, g69.2.1, g69.2.2, h71x, m - 1⟩ [0, 3, 0, 0, 0] ⟨(by rw [hg71, ← loop_step hgo hk69 (by rw [← hg69]; exact hk71) (by omega)]; exact hro), (by show L.length + 1 ≤ m - 1 + s69.at_; omega), hfw69.2.1, (by show s69.names.length ≤ s69.at_; omega), hm69, (((hlez.trans hle8).trans hle69x).trans hle70).trans hle71x, hl71, (by show wtT g71.tm ≤ preW L s69.at_; rw [hg71]; omega)⟩ (by show L.length - s69.at_ < L.length - st2.at_; omega) rfl ⟨rfl, trivial⟩ rfl rfl
               · refine zop_runP rfl rfl (fun hB8_6 => ?_)
                 refine sy_callRO [0, 2, 2] call_55 rfl rfl (ihs (k - 1) (by omega) (inn + 1) (by omega) (by omega) (by omega) _ (adv st2) o2 vn2 _ hTz (by show st2.at_ + 1 ≤ _; omega) (by show st2.names.length ≤ st2.at_ + 1; omega) hm2) rfl rfl (fun a69 e69 h69x H69x hb69 hx69 hle69x => ?_) (fun x69 s69 g69 h69x H69x hk69 hx69 hle69x => ?_)
                 · obtain ⟨a9, i9, o9, v9, n9, rfl⟩ := hx69
                   refine ny_zyPP ?_
                   refine ny_blockP ?_
                   refine ny_thenP ?_
                   refine ny_blockP ?_
                   refine ny_thenP ?_
                   exact ny_finP (fun w9 hs => ⟨.bad a69 e69, _, _, rfl, ⟨hro.symm.trans (loop_bad hgo hb69 (by omega)), _, _, _, _, _, rfl⟩, hs.sel (is := [0, 0, 0]) rfl⟩)
                 · obtain ⟨hg69, hl69, hm69, rfl⟩ := hx69
                   replace hg69 : g69.1.tm = x69.1 := hg69
                   have hfw69 := read_fwd L lv (k - 1) _ (adv st2) x69 s69 (by show st2.at_ + 1 ≤ _; omega) hk69
                   have hww69 := read_wt L lv (k - 1) _ (adv st2) x69 s69 (by show st2.at_ + 1 ≤ _; omega) hk69
                   simp only [adv] at hfw69 hww69
                   rw [preW_succ hlt] at hww69
                   have hpw69 := hPW s69.at_
                   refine sy_nil rfl (ny_zyP hB8_6 hle69x ?_)
                   refine zy_1P 3 (by kernel_rfl) ?_
                   refine zop_runP rfl rfl (fun hB8_3 => ?_)
                   refine sy_ldar 3 agg_24 rfl rfl rfl rfl rfl ?_
                   refine sy_nil rfl (ny_zyP hB8_3 (Hp.Le.refl _) ?_)
                   refine zy_1P 7 (by kernel_rfl) ?_
                   refine zop_runP rfl rfl (fun hB8_7 => ?_)
                   refine sy_buildSlice (cs := [g, g69.1].flatMap GT.cells) rfl (fun w => bsl_22_2_0x1 w) rfl rfl (fun b70 hb70 hM70 => ?_) (by first | exact hb0 | simp)
                   refine sy_frz 0 rfl hM70 (fun h70 hle70 hb70x => ?_)
                   have hr70 : RowsAt h70 (some ⟨b70, 0, none⟩) 4 ([g, g69.1].map GT.cells) := rows_blk (by decide) (GT.cells_len _) hb70x
                   refine sy_nil rfl (ny_zyP hB8_7 hle70 ?_)
                   refine zy_1P 8 (by kernel_rfl) ?_
                   refine zop_runP rfl rfl (fun hB8_8 => ?_)
                   refine sy_callRO [0] call_100 rfl rfl (mk_c (tokA L st2.at_).str (tokA_ok hqN st2.at_).2.1 [g, g69.1] (some ⟨b70, 0, none⟩) 2 r bm A c L lv _ ((hTz.le hle69x).le hle70) hL s69 (inn + 1) g69.2.2 hfw69.2.1 rfl hr70 (duoW (h := h70) ⟨(hlg.1.le hle69x).le hle70, hlg.2⟩ ⟨hl69.1.le hle70, hl69.2⟩ (by omega) (by rw [hg69]; omega)) (by simp) (by simp)) rfl rfl (fun a71 e71 h71x H71x hb71 hx71 hle71x => ?_) (fun x71 s71 g71 h71x H71x hk71 hx71 hle71x => ?_)
                   · subst hx71
                     refine ny_zyPP ?_
                     refine ny_blockP ?_
                     refine ny_thenP ?_
                     refine ny_blockP ?_
                     refine ny_thenP ?_
                     exact ny_finP (fun w9 hs => ⟨.bad a71 e71, _, _, rfl, ⟨hro.symm.trans (loop_bad2 hgo hk69 (by rw [← hg69]; exact hb71) (by omega)), _, _, _, _, _, rfl⟩, hs.sel (is := [0, 0, 0]) rfl⟩)
                   · obtain ⟨hg71, hl71, rfl⟩ := hx71
                     have hst71 := (mkR_st hk71).symm
                     subst hst71
                     have hmw71 := mkR_wt hk71
                     rw [List.map_cons, List.map_cons, List.map_nil, wtTs_cons, wtTs_cons, wtTs_nil, hg69] at hmw71
                     refine sy_nil rfl (ny_zyP hB8_8 hle71x ?_)
                     refine zy_1P 10 (by kernel_rfl) ?_
                     refine zop_runP rfl rfl (fun hB8_10 => ?_)
                     refine sy_stl 3 sz_24 rfl rfl rfl rfl rfl rfl rfl rfl ?_
                     refine sy_nil rfl (ny_zyP hB8_10 (Hp.Le.refl _) ?_)
                     refine zy_qP 11 (fun c a d v w hq => by cases d <;> exact hq) rfl (by kernel_rfl) (fun hB8_11 => ?_)
                     refine sy_assign rfl rfl rfl ?_
                     refine sy_nil1 (ny_zqP hB8_11 ?_)
                     refine zy_doneP (by kernel_rfl) ?_
                     refine ny_blockN ?_
                     refine ny_roundK [0, 1, 4, 6] ⟨g71, (refInfix (tokA L st2.at_).str.data.toList).2.1, s69, g69.2.1, g69.2.2, h71x, m - 1⟩ [0, 3, 0, 0, 0] ⟨(by rw [hg71, ← loop_step hgo hk69 (by rw [← hg69]; exact hk71) (by omega)]; exact hro), (by show L.length + 1 ≤ m - 1 + s69.at_; omega), hfw69.2.1, (by show s69.names.length ≤ s69.at_; omega), hm69, (((hlez.trans hle8).trans hle69x).trans hle70).trans hle71x, hl71, (by show wtT g71.tm ≤ preW L s69.at_; rw [hg71]; omega)⟩ (by show L.length - s69.at_ < L.length - st2.at_; omega) rfl ⟨rfl, trivial⟩ rfl rfl
       · refine sy_move rfl rfl rfl ?_
         refine sy_callR1 [0] call_98 rfl rfl (is_c ⟨#[44]⟩ r bm A c L lv _ hTz hL st2 (inn + 1) vn2 hat2) rfl rfl (fun x33 h33x H33x hx33 hle33x => ?_)
         obtain ⟨rfl, rfl⟩ := hx33
         refine sy_pickF rfl rfl rfl rfl ?_
         refine sy_not rfl rfl rfl ?_
         refine sy_nil rfl ?_
         refine ny_next ?_
         refine cy_cond rfl (fun hc35 => ?_) (fun hc35 => ?_)
         · have hA : ((((tokA L st2.at_).kind == 1) && !(tokA L st2.at_).quo) || isP L st2.at_ [44]) = false := by
            have h9 : isP L st2.at_ [44] = false := by simpa using hc35
            rw [h9, Bool.or_false]
            (rw [hg31, Bool.and_false]; done)
           have hgo : goesR L most pri st2 = false := by
            unfold goesR
            rw [hA]
            rfl
           refine cy_exit ?_
           refine ny_thenE ?_
           refine ny_blockY rfl ?_
           refine ny_thenE ?_
           refine ny_blockX ?_
           refine ny_next ?_
           refine cy_seq ?_
           refine cy_region ?_
           refine sy_move rfl rfl rfl ?_
           refine sy_nilCheck rfl rfl rfl ?_
           refine sy_field fld_88_3 rfl rfl rfl ?_
           refine sy_ldr 0 one_3 rfl rfl rfl rfl rfl ?_
           refine sy_subi (z := inn) rfl rfl (by omega) (by omega) (by omega) rfl rfl ?_
           refine sy_nilCheck rfl rfl rfl ?_
           refine sy_field fld_88_3 rfl rfl rfl ?_
           refine sy_stl 0 sz_3 rfl rfl rfl rfl rfl rfl rfl rfl ?_
           refine sy_nil rfl ?_
           refine ny_next ?_
           refine cy_seq ?_
           refine cy_region ?_
           refine sy_ldar 1 agg_24 rfl rfl rfl rfl rfl ?_
           refine sy_move rfl rfl rfl ?_
           refine sy_stl 2 sz_24 rfl rfl rfl rfl rfl rfl rfl rfl ?_
           refine sy_assign rfl rfl rfl ?_
           refine sy_nil rfl ?_
           refine ny_next ?_
           refine cy_ret ?_
           exact ny_finR (resc1 0 rfl agg_24 rfl rfl rfl rfl) (fun w9 hs => ⟨.ok (g.tm, pri) st2 (g, o2, vn2), _, _, rfl, ⟨hro.symm.trans (loop_end hgo), rfl, hlgf, hm2, rfl⟩, hs.sel (is := [1, 2, 2]) rfl⟩)
         · have hA : ((((tokA L st2.at_).kind == 1) && !(tokA L st2.at_).quo) || isP L st2.at_ [44]) = true := by
            have h9 : isP L st2.at_ [44] = true := by simpa using hc35
            rw [h9, Bool.or_true]
           refine cy_skip ?_
           refine ny_next ?_
           refine cy_seq ?_
           refine cy_region ?_
           refine sy_field fld_79_1 rfl rfl rfl ?_
           refine sy_ldh one_9 rfl (Hp.blk hb8x 1 _ rfl) rfl rfl ?_
           refine sy_call rfl call_99 rfl (infix_c (tokA L st2.at_).str _) rfl rfl ?_
           refine sy_move rfl rfl rfl ?_
           refine sy_extract rfl rfl rfl rfl ?_
           refine sy_extract rfl rfl rfl rfl ?_
           refine sy_extract rfl rfl rfl rfl ?_
           refine sy_extract rfl rfl rfl rfl ?_
           refine sy_assign rfl rfl rfl ?_
           refine sy_assign rfl rfl rfl ?_
           refine sy_assign rfl rfl rfl ?_
           refine sy_assign rfl rfl rfl ?_
           refine sy_nil rfl ?_
           refine ny_next ?_
           refine cy_seq ?_
           refine cy_seq ?_
           refine cy_region ?_
           refine sy_move rfl rfl rfl ?_
           refine sy_not rfl rfl rfl ?_
           refine sy_move rfl rfl rfl ?_
           refine sy_cond (d := 46) _ rfl rfl (fun hg46 => ?_) (fun hg46 => ?_)
           · refine sy_skip rfl rfl rfl ?_
             refine sy_skip rfl rfl rfl ?_
             refine sy_skip rfl rfl rfl ?_
             refine sy_pickT rfl rfl rfl rfl ?_
             refine sy_move rfl rfl rfl ?_
             refine sy_skip rfl rfl rfl ?_
             refine sy_skip rfl rfl rfl ?_
             refine sy_skip rfl rfl rfl ?_
             refine sy_pickT rfl rfl rfl rfl ?_
             refine sy_nil rfl ?_
             refine ny_next ?_
             refine cy_condT rfl ?_
             have hgo : goesR L most pri st2 = false := by
              unfold goesR
              rw [hA, Bool.true_and]
              first
              | (have h9 : (refInfix (tokA L st2.at_).str.data.toList).2.2.2 = false := by simpa using hg46
                 rw [h9]; rfl)
              | (rw [decide_eq_false (p := (refInfix (tokA L st2.at_).str.data.toList).2.1 ≤ most) (by have := of_decide_eq_true hg51; omega), Bool.and_false]; rfl)
             refine cy_exit ?_
             refine ny_thenE ?_
             refine ny_blockY rfl ?_
             refine ny_thenE ?_
             refine ny_blockX ?_
             refine ny_next ?_
             refine cy_seq ?_
             refine cy_region ?_
             refine sy_move rfl rfl rfl ?_
             refine sy_nilCheck rfl rfl rfl ?_
             refine sy_field fld_88_3 rfl rfl rfl ?_
             refine sy_ldr 0 one_3 rfl rfl rfl rfl rfl ?_
             refine sy_subi (z := inn) rfl rfl (by omega) (by omega) (by omega) rfl rfl ?_
             refine sy_nilCheck rfl rfl rfl ?_
             refine sy_field fld_88_3 rfl rfl rfl ?_
             refine sy_stl 0 sz_3 rfl rfl rfl rfl rfl rfl rfl rfl ?_
             refine sy_nil rfl ?_
             refine ny_next ?_
             refine cy_seq ?_
             refine cy_region ?_
             refine sy_ldar 1 agg_24 rfl rfl rfl rfl rfl ?_
             refine sy_move rfl rfl rfl ?_
             refine sy_stl 2 sz_24 rfl rfl rfl rfl rfl rfl rfl rfl ?_
             refine sy_assign rfl rfl rfl ?_
             refine sy_nil rfl ?_
             refine ny_next ?_
             refine cy_ret ?_
             exact ny_finR (resc1 0 rfl agg_24 rfl rfl rfl rfl) (fun w9 hs => ⟨.ok (g.tm, pri) st2 (g, o2, vn2), _, _, rfl, ⟨hro.symm.trans (loop_end hgo), rfl, hlgf, hm2, rfl⟩, hs.sel (is := [1, 2, 2]) rfl⟩)
           · refine sy_move rfl rfl rfl ?_
             refine sy_move rfl rfl rfl ?_
             refine sy_cmp rfl rfl rfl rfl rfl ?_
             refine sy_pickF rfl rfl rfl rfl ?_
             refine sy_move rfl rfl rfl ?_
             refine sy_cond (d := 51) _ rfl rfl (fun hg51 => ?_) (fun hg51 => ?_)
             · refine sy_skip rfl rfl rfl ?_
               refine sy_skip rfl rfl rfl ?_
               refine sy_skip rfl rfl rfl ?_
               refine sy_pickT rfl rfl rfl rfl ?_
               refine sy_nil rfl ?_
               refine ny_next ?_
               refine cy_condT rfl ?_
               have hgo : goesR L most pri st2 = false := by
                unfold goesR
                rw [hA, Bool.true_and]
                first
                | (have h9 : (refInfix (tokA L st2.at_).str.data.toList).2.2.2 = false := by simpa using hg46
                   rw [h9]; rfl)
                | (rw [decide_eq_false (p := (refInfix (tokA L st2.at_).str.data.toList).2.1 ≤ most) (by have := of_decide_eq_true hg51; omega), Bool.and_false]; rfl)
               refine cy_exit ?_
               refine ny_thenE ?_
               refine ny_blockY rfl ?_
               refine ny_thenE ?_
               refine ny_blockX ?_
               refine ny_next ?_
               refine cy_seq ?_
               refine cy_region ?_
               refine sy_move rfl rfl rfl ?_
               refine sy_nilCheck rfl rfl rfl ?_
               refine sy_field fld_88_3 rfl rfl rfl ?_
               refine sy_ldr 0 one_3 rfl rfl rfl rfl rfl ?_
               refine sy_subi (z := inn) rfl rfl (by omega) (by omega) (by omega) rfl rfl ?_
               refine sy_nilCheck rfl rfl rfl ?_
               refine sy_field fld_88_3 rfl rfl rfl ?_
               refine sy_stl 0 sz_3 rfl rfl rfl rfl rfl rfl rfl rfl ?_
               refine sy_nil rfl ?_
               refine ny_next ?_
               refine cy_seq ?_
               refine cy_region ?_
               refine sy_ldar 1 agg_24 rfl rfl rfl rfl rfl ?_
               refine sy_move rfl rfl rfl ?_
               refine sy_stl 2 sz_24 rfl rfl rfl rfl rfl rfl rfl rfl ?_
               refine sy_assign rfl rfl rfl ?_
               refine sy_nil rfl ?_
               refine ny_next ?_
               refine cy_ret ?_
               exact ny_finR (resc1 0 rfl agg_24 rfl rfl rfl rfl) (fun w9 hs => ⟨.ok (g.tm, pri) st2 (g, o2, vn2), _, _, rfl, ⟨hro.symm.trans (loop_end hgo), rfl, hlgf, hm2, rfl⟩, hs.sel (is := [1, 2, 2]) rfl⟩)
             · refine sy_move rfl rfl rfl ?_
               refine sy_move rfl rfl rfl ?_
               refine sy_cmp rfl rfl rfl rfl rfl ?_
               refine sy_pickF rfl rfl rfl rfl ?_
               refine sy_nil rfl ?_
               refine ny_next ?_
               refine cy_cond rfl (fun hc55 => ?_) (fun hc55 => ?_)
               · have hgo : goesR L most pri st2 = false := by
                  unfold goesR
                  rw [hA, Bool.true_and, decide_eq_false (p := pri ≤ (refInfix (tokA L st2.at_).str.data.toList).1) (by have := of_decide_eq_true hc55; omega), Bool.and_false]
                 refine cy_exit ?_
                 refine ny_thenE ?_
                 refine ny_blockY rfl ?_
                 refine ny_thenE ?_
                 refine ny_blockX ?_
                 refine ny_next ?_
                 refine cy_seq ?_
                 refine cy_region ?_
                 refine sy_move rfl rfl rfl ?_
                 refine sy_nilCheck rfl rfl rfl ?_
                 refine sy_field fld_88_3 rfl rfl rfl ?_
                 refine sy_ldr 0 one_3 rfl rfl rfl rfl rfl ?_
                 refine sy_subi (z := inn) rfl rfl (by omega) (by omega) (by omega) rfl rfl ?_
                 refine sy_nilCheck rfl rfl rfl ?_
                 refine sy_field fld_88_3 rfl rfl rfl ?_
                 refine sy_stl 0 sz_3 rfl rfl rfl rfl rfl rfl rfl rfl ?_
                 refine sy_nil rfl ?_
                 refine ny_next ?_
                 refine cy_seq ?_
                 refine cy_region ?_
                 refine sy_ldar 1 agg_24 rfl rfl rfl rfl rfl ?_
                 refine sy_move rfl rfl rfl ?_
                 refine sy_stl 2 sz_24 rfl rfl rfl rfl rfl rfl rfl rfl ?_
                 refine sy_assign rfl rfl rfl ?_
                 refine sy_nil rfl ?_
                 refine ny_next ?_
                 refine cy_ret ?_
                 exact ny_finR (resc1 0 rfl agg_24 rfl rfl rfl rfl) (fun w9 hs => ⟨.ok (g.tm, pri) st2 (g, o2, vn2), _, _, rfl, ⟨hro.symm.trans (loop_end hgo), rfl, hlgf, hm2, rfl⟩, hs.sel (is := [1, 2, 2]) rfl⟩)
               · have hgo : goesR L most pri st2 = true := by
                  unfold goesR
                  have h9 : (refInfix (tokA L st2.at_).str.data.toList).2.2.2 = true := by simpa using hg46
                  rw [hA, Bool.true_and, h9, decide_eq_true (p := (refInfix (tokA L st2.at_).str.data.toList).2.1 ≤ most) (by have := of_decide_eq_false hg51; omega), decide_eq_true (p := pri ≤ (refInfix (tokA L st2.at_).str.data.toList).1) (by have := of_decide_eq_false hc55; omega)]
                  rfl
                 refine cy_skip ?_
                 refine ny_next ?_
                 refine cy_seq ?_
                 refine cy_region ?_
                 refine sy_move rfl rfl rfl ?_
                 refine sy_nilCheck rfl rfl rfl ?_
                 refine sy_field fld_88_1 rfl rfl rfl ?_
                 refine sy_ldr 0 one_3 rfl rfl rfl rfl rfl ?_
                 refine sy_addi (z := ((st2.at_ + 1 : Nat) : Int)) rfl rfl (by omega) (by omega) (by omega) rfl rfl ?_
                 have hlt := goes_lt hgo
                 refine sy_nilCheck rfl rfl rfl ?_
                 refine sy_field fld_88_1 rfl rfl rfl ?_
                 refine sy_stl 0 sz_3 rfl rfl rfl rfl rfl rfl rfl rfl ?_
                 refine sy_nil rfl ?_
                 refine ny_next ?_
                 refine cy_regionAP mixed ?_
                 refine zy_qP 0 (fun c a d v w hq => by cases d <;> exact hq) rfl (by kernel_rfl) (fun hB8_0 => ?_)
                 refine sy_move rfl rfl rfl ?_
                 refine sy_nil1 (ny_zqP hB8_0 ?_)
                 refine zy_qP 1 (fun c a d v w hq => by cases d <;> exact hq) rfl (by kernel_rfl) (fun hB8_1 => ?_)
                 refine sy_field fld_79_1 rfl rfl rfl ?_
                 refine sy_nil1 (ny_zqP hB8_1 ?_)
                 refine zy_qP 2 (fun c a d v w hq => by cases d <;> exact hq) rfl (by kernel_rfl) (fun hB8_2 => ?_)
                 refine sy_ldh one_9 rfl (Hp.blk hb8x 1 _ rfl) rfl rfl ?_
                 refine sy_nil1 (ny_zqP hB8_2 ?_)
                 refine zy_qP 4 (fun c a d v w hq => by cases d <;> exact hq) rfl (by kernel_rfl) (fun hB8_4 => ?_)
                 refine sy_move rfl rfl rfl ?_
                 refine sy_nil1 (ny_zqP hB8_4 ?_)
                 refine zy_qP 5 (fun c a d v w hq => by cases d <;> exact hq) rfl (by kernel_rfl) (fun hB8_5 => ?_)
                 refine sy_move rfl rfl rfl ?_
                 refine sy_nil1 (ny_zqP hB8_5 ?_)
                 refine zy_qP 9 (fun c a d v w hq => by cases d <;> exact hq) rfl (by kernel_rfl) (fun hB8_9 => ?_)
                 refine sy_move rfl rfl rfl ?_
                 refine sy_nil1 (ny_zqP hB8_9 ?_)
                 refine zy_2P 3 6 (by kernel_rfl) ?_ ?_
                 · refine zop_runP rfl rfl (fun hB8_3 => ?_)
                   refine sy_ldar 1 agg_24 rfl rfl rfl rfl rfl ?_
                   refine sy_nil rfl (ny_zyP hB8_3 (Hp.Le.refl _) ?_)
                   refine zy_1P 6 (by kernel_rfl) ?_
                   refine zop_runP rfl rfl (fun hB8_6 => ?_)
                   refine sy_callRO [0, 2, 2] call_55 rfl rfl (ihs (k - 1) (by omega) (inn + 1) (by omega) (by omega) (by omega) _ (adv st2) o2 vn2 _ hTz (by show st2.at_ + 1 ≤ _; omega) (by show st2.names.length ≤ st2.at_ + 1; omega) hm2) rfl rfl (fun a69 e69 h69x H69x hb69 hx69 hle69x => ?_) (fun x69 s69 g69 h69x H69x hk69 hx69 hle69x => ?_)
                   · obtain ⟨a9, i9, o9, v9, n9, rfl⟩ := hx69
                     refine ny_zyPP ?_
                     refine ny_blockP ?_
                     refine ny_thenP ?_
                     refine ny_blockP ?_
                     refine ny_thenP ?_
                     exact ny_finP (fun w9 hs => ⟨.bad a69 e69, _, _, rfl, ⟨hro.symm.trans (loop_bad hgo hb69 (by omega)), _, _, _, _, _, rfl⟩, hs.sel (is := [0, 0, 0]) rfl⟩)
                   · obtain ⟨hg69, hl69, hm69, rfl⟩ := hx69
                     replace hg69 : g69.1.tm = x69.1 := hg69
                     have hfw69 := read_fwd L lv (k - 1) _ (adv st2) x69 s69 (by show st2.at_ + 1 ≤ _; omega) hk69
                     have hww69 := read_wt L lv (k - 1) _ (adv st2) x69 s69 (by show st2.at_ + 1 ≤ _; omega) hk69
                     simp only [adv] at hfw69 hww69
                     rw [preW_succ hlt] at hww69
                     have hpw69 := hPW s69.at_
                     refine sy_nil rfl (ny_zyP hB8_6 hle69x ?_)
                     refine zy_1P 7 (by kernel_rfl) ?_
                     refine zop_runP rfl rfl (fun hB8_7 => ?_)
                     refine sy_buildSlice (cs := [g, g69.1].flatMap GT.cells) rfl (fun w => bsl_22_2_0x1 w) rfl rfl (fun b70 hb70 hM70 => ?_) (by first | exact hb0 | simp)
                     refine sy_frz 0 rfl hM70 (fun h70 hle70 hb70x => ?_)
                     have hr70 : RowsAt h70 (some ⟨b70, 0, none⟩) 4 ([g, g69.1].map GT.cells) := rows_blk (by decide) (GT.cells_len _) hb70x
                     refine sy_nil rfl (ny_zyP hB8_7 hle70 ?_)
                     refine zy_1P 8 (by kernel_rfl) ?_
                     refine zop_runP rfl rfl (fun hB8_8 => ?_)
                     refine sy_callRO [0] call_100 rfl rfl (mk_c (tokA L st2.at_).str (tokA_ok hqN st2.at_).2.1 [g, g69.1] (some ⟨b70, 0, none⟩) 2 r bm A c L lv _ ((hTz.le hle69x).le hle70) hL s69 (inn + 1) g69.2.2 hfw69.2.1 rfl hr70 (duoW (h := h70) ⟨(hlg.1.le hle69x).le hle70, hlg.2⟩ ⟨hl69.1.le hle70, hl69.2⟩ (by omega) (by rw [hg69]; omega)) (by simp) (by simp)) rfl rfl (fun a71 e71 h71x H71x hb71 hx71 hle71x => ?_) (fun x71 s71 g71 h71x H71x hk71 hx71 hle71x => ?_)
                     · subst hx71
                       refine ny_zyPP ?_
                       refine ny_blockP ?_
                       refine ny_thenP ?_
                       refine ny_blockP ?_
                       refine ny_thenP ?_
                       exact ny_finP (fun w9 hs => ⟨.bad a71 e71, _, _, rfl, ⟨hro.symm.trans (loop_bad2 hgo hk69 (by rw [← hg69]; exact hb71) (by omega)), _, _, _, _, _, rfl⟩, hs.sel (is := [0, 0, 0]) rfl⟩)
                     · obtain ⟨hg71, hl71, rfl⟩ := hx71
                       have hst71 := (mkR_st hk71).symm
                       subst hst71
                       have hmw71 := mkR_wt hk71
                       rw [List.map_cons, List.map_cons, List.map_nil, wtTs_cons, wtTs_cons, wtTs_nil, hg69] at hmw71
                       refine sy_nil rfl (ny_zyP hB8_8 hle71x ?_)
                       refine zy_1P 10 (by kernel_rfl) ?_
                       refine zop_runP rfl rfl (fun hB8_10 => ?_)
                       refine sy_stl 3 sz_24 rfl rfl rfl rfl rfl rfl rfl rfl ?_
                       refine sy_nil rfl (ny_zyP hB8_10 (Hp.Le.refl _) ?_)
                       refine zy_qP 11 (fun c a d v w hq => by cases d <;> exact hq) rfl (by kernel_rfl) (fun hB8_11 => ?_)
                       refine sy_assign rfl rfl rfl ?_
                       refine sy_nil1 (ny_zqP hB8_11 ?_)
                       refine zy_doneP (by kernel_rfl) ?_
                       refine ny_blockN ?_
                       refine ny_roundK [0, 1, 4, 6] ⟨g71, (refInfix (tokA L st2.at_).str.data.toList).2.1, s69, g69.2.1, g69.2.2, h71x, m - 1⟩ [0, 3, 0, 0, 0] ⟨(by rw [hg71, ← loop_step hgo hk69 (by rw [← hg69]; exact hk71) (by omega)]; exact hro), (by show L.length + 1 ≤ m - 1 + s69.at_; omega), hfw69.2.1, (by show s69.names.length ≤ s69.at_; omega), hm69, (((hlez.trans hle8).trans hle69x).trans hle70).trans hle71x, hl71, (by show wtT g71.tm ≤ preW L s69.at_; rw [hg71]; omega)⟩ (by show L.length - s69.at_ < L.length - st2.at_; omega) rfl ⟨rfl, trivial⟩ rfl rfl
                 · refine zop_runP rfl rfl (fun hB8_6 => ?_)
                   refine sy_callRO [0, 2, 2] call_55 rfl rfl (ihs (k - 1) (by omega) (inn + 1) (by omega) (by omega) (by omega) _ (adv st2) o2 vn2 _ hTz (by show st2.at_ + 1 ≤ _; omega) (by show st2.names.length ≤ st2.at_ + 1; omega) hm2) rfl rfl (fun a69 e69 h69x H69x hb69 hx69 hle69x => ?_) (fun x69 s69 g69 h69x H69x hk69 hx69 hle69x => ?_)
                   · obtain ⟨a9, i9, o9, v9, n9, rfl⟩ := hx69
                     refine ny_zyPP ?_
                     refine ny_blockP ?_
                     refine ny_thenP ?_
                     refine ny_blockP ?_
                     refine ny_thenP ?_
                     exact ny_finP (fun w9 hs => ⟨.bad a69 e69, _, _, rfl, ⟨hro.symm.trans (loop_bad hgo hb69 (by omega)), _, _, _, _, _, rfl⟩, hs.sel (is := [0, 0, 0]) rfl⟩)
                   · obtain ⟨hg69, hl69, hm69, rfl⟩ := hx69
                     replace hg69 : g69.1.tm = x69.1 := hg69
                     have hfw69 := read_fwd L lv (k - 1) _ (adv st2) x69 s69 (by show st2.at_ + 1 ≤ _; omega) hk69
                     have hww69 := read_wt L lv (k - 1) _ (adv st2) x69 s69 (by show st2.at_ + 1 ≤ _; omega) hk69
                     simp only [adv] at hfw69 hww69
                     rw [preW_succ hlt] at hww69
                     have hpw69 := hPW s69.at_
                     refine sy_nil rfl (ny_zyP hB8_6 hle69x ?_)
                     refine zy_1P 3 (by kernel_rfl) ?_
                     refine zop_runP rfl rfl (fun hB8_3 => ?_)
                     refine sy_ldar 3 agg_24 rfl rfl rfl rfl rfl ?_
                     refine sy_nil rfl (ny_zyP hB8_3 (Hp.Le.refl _) ?_)
                     refine zy_1P 7 (by kernel_rfl) ?_
                     refine zop_runP rfl rfl (fun hB8_7 => ?_)
                     refine sy_buildSlice (cs := [g, g69.1].flatMap GT.cells) rfl (fun w => bsl_22_2_0x1 w) rfl rfl (fun b70 hb70 hM70 => ?_) (by first | exact hb0 | simp)
                     refine sy_frz 0 rfl hM70 (fun h70 hle70 hb70x => ?_)
                     have hr70 : RowsAt h70 (some ⟨b70, 0, none⟩) 4 ([g, g69.1].map GT.cells) := rows_blk (by decide) (GT.cells_len _) hb70x
                     refine sy_nil rfl (ny_zyP hB8_7 hle70 ?_)
                     refine zy_1P 8 (by kernel_rfl) ?_
                     refine zop_runP rfl rfl (fun hB8_8 => ?_)
                     refine sy_callRO [0] call_100 rfl rfl (mk_c (tokA L st2.at_).str (tokA_ok hqN st2.at_).2.1 [g, g69.1] (some ⟨b70, 0, none⟩) 2 r bm A c L lv _ ((hTz.le hle69x).le hle70) hL s69 (inn + 1) g69.2.2 hfw69.2.1 rfl hr70 (duoW (h := h70) ⟨(hlg.1.le hle69x).le hle70, hlg.2⟩ ⟨hl69.1.le hle70, hl69.2⟩ (by omega) (by rw [hg69]; omega)) (by simp) (by simp)) rfl rfl (fun a71 e71 h71x H71x hb71 hx71 hle71x => ?_) (fun x71 s71 g71 h71x H71x hk71 hx71 hle71x => ?_)
                     · subst hx71
                       refine ny_zyPP ?_
                       refine ny_blockP ?_
                       refine ny_thenP ?_
                       refine ny_blockP ?_
                       refine ny_thenP ?_
                       exact ny_finP (fun w9 hs => ⟨.bad a71 e71, _, _, rfl, ⟨hro.symm.trans (loop_bad2 hgo hk69 (by rw [← hg69]; exact hb71) (by omega)), _, _, _, _, _, rfl⟩, hs.sel (is := [0, 0, 0]) rfl⟩)
                     · obtain ⟨hg71, hl71, rfl⟩ := hx71
                       have hst71 := (mkR_st hk71).symm
                       subst hst71
                       have hmw71 := mkR_wt hk71
                       rw [List.map_cons, List.map_cons, List.map_nil, wtTs_cons, wtTs_cons, wtTs_nil, hg69] at hmw71
                       refine sy_nil rfl (ny_zyP hB8_8 hle71x ?_)
                       refine zy_1P 10 (by kernel_rfl) ?_
                       refine zop_runP rfl rfl (fun hB8_10 => ?_)
                       refine sy_stl 3 sz_24 rfl rfl rfl rfl rfl rfl rfl rfl ?_
                       refine sy_nil rfl (ny_zyP hB8_10 (Hp.Le.refl _) ?_)
                       refine zy_qP 11 (fun c a d v w hq => by cases d <;> exact hq) rfl (by kernel_rfl) (fun hB8_11 => ?_)
                       refine sy_assign rfl rfl rfl ?_
                       refine sy_nil1 (ny_zqP hB8_11 ?_)
                       refine zy_doneP (by kernel_rfl) ?_
                       refine ny_blockN ?_
                       refine ny_roundK [0, 1, 4, 6] ⟨g71, (refInfix (tokA L st2.at_).str.data.toList).2.1, s69, g69.2.1, g69.2.2, h71x, m - 1⟩ [0, 3, 0, 0, 0] ⟨(by rw [hg71, ← loop_step hgo hk69 (by rw [← hg69]; exact hk71) (by omega)]; exact hro), (by show L.length + 1 ≤ m - 1 + s69.at_; omega), hfw69.2.1, (by show s69.names.length ≤ s69.at_; omega), hm69, (((hlez.trans hle8).trans hle69x).trans hle70).trans hle71x, hl71, (by show wtT g71.tm ≤ preW L s69.at_; rw [hg71]; omega)⟩ (by show L.length - s69.at_ < L.length - st2.at_; omega) rfl ⟨rfl, trivial⟩ rfl rfl
     · refine sy_skip rfl rfl rfl ?_
       refine sy_skip rfl rfl rfl ?_
       refine sy_skip rfl rfl rfl ?_
       refine sy_pickF rfl rfl rfl rfl ?_
       refine sy_move rfl rfl rfl ?_
       refine sy_move rfl rfl rfl ?_
       refine sy_callR1 [0] call_98 rfl rfl (is_c ⟨#[44]⟩ r bm A c L lv _ hTz hL st2 (inn + 1) vn2 hat2) rfl rfl (fun x33 h33x H33x hx33 hle33x => ?_)
       obtain ⟨rfl, rfl⟩ := hx33
       refine sy_pickF rfl rfl rfl rfl ?_
       refine sy_not rfl rfl rfl ?_
       refine sy_nil rfl ?_
       refine ny_next ?_
       refine cy_cond rfl (fun hc35 => ?_) (fun hc35 => ?_)
       · have hA : ((((tokA L st2.at_).kind == 1) && !(tokA L st2.at_).quo) || isP L st2.at_ [44]) = false := by
          have h9 : isP L st2.at_ [44] = false := by simpa using hc35
          rw [h9, Bool.or_false]
          (rw [hg26]; rfl)
         have hgo : goesR L most pri st2 = false := by
          unfold goesR
          rw [hA]
          rfl
         refine cy_exit ?_
         refine ny_thenE ?_
         refine ny_blockY rfl ?_
         refine ny_thenE ?_
         refine ny_blockX ?_
         refine ny_next ?_
         refine cy_seq ?_
         refine cy_region ?_
         refine sy_move rfl rfl rfl ?_
         refine sy_nilCheck rfl rfl rfl ?_
         refine sy_field fld_88_3 rfl rfl rfl ?_
         refine sy_ldr 0 one_3 rfl rfl rfl rfl rfl ?_
         refine sy_subi (z := inn) rfl rfl (by omega) (by omega) (by omega) rfl rfl ?_
         refine sy_nilCheck rfl rfl rfl ?_
         refine sy_field fld_88_3 rfl rfl rfl ?_
         refine sy_stl 0 sz_3 rfl rfl rfl rfl rfl rfl rfl rfl ?_
         refine sy_nil rfl ?_
         refine ny_next ?_
         refine cy_seq ?_
         refine cy_region ?_
         refine sy_ldar 1 agg_24 rfl rfl rfl rfl rfl ?_
         refine sy_move rfl rfl rfl ?_
         refine sy_stl 2 sz_24 rfl rfl rfl rfl rfl rfl rfl rfl ?_
         refine sy_assign rfl rfl rfl ?_
         refine sy_nil rfl ?_
         refine ny_next ?_
         refine cy_ret ?_
         exact ny_finR (resc1 0 rfl agg_24 rfl rfl rfl rfl) (fun w9 hs => ⟨.ok (g.tm, pri) st2 (g, o2, vn2), _, _, rfl, ⟨hro.symm.trans (loop_end hgo), rfl, hlgf, hm2, rfl⟩, hs.sel (is := [1, 2, 2]) rfl⟩)
       · have hA : ((((tokA L st2.at_).kind == 1) && !(tokA L st2.at_).quo) || isP L st2.at_ [44]) = true := by
          have h9 : isP L st2.at_ [44] = true := by simpa using hc35
          rw [h9, Bool.or_true]
         refine cy_skip ?_
         refine ny_next ?_
         refine cy_seq ?_
         refine cy_region ?_
         refine sy_field fld_79_1 rfl rfl rfl ?_
         refine sy_ldh one_9 rfl (Hp.blk hb8x 1 _ rfl) rfl rfl ?_
         refine sy_call rfl call_99 rfl (infix_c (tokA L st2.at_).str _) rfl rfl ?_
         refine sy_move rfl rfl rfl ?_
         refine sy_extract rfl rfl rfl rfl ?_
         refine sy_extract rfl rfl rfl rfl ?_
         refine sy_extract rfl rfl rfl rfl ?_
         refine sy_extract rfl rfl rfl rfl ?_
         refine sy_assign rfl rfl rfl ?_
         refine sy_assign rfl rfl rfl ?_
         refine sy_assign rfl rfl rfl ?_
         refine sy_assign rfl rfl rfl ?_
         refine sy_nil rfl ?_
         refine ny_next ?_
         refine cy_seq ?_
         refine cy_seq ?_
         refine cy_region ?_
         refine sy_move rfl rfl rfl ?_
         refine sy_not rfl rfl rfl ?_
         refine sy_move rfl rfl rfl ?_
         refine sy_cond (d := 46) _ rfl rfl (fun hg46 => ?_) (fun hg46 => ?_)
         · refine sy_skip rfl rfl rfl ?_
           refine sy_skip rfl rfl rfl ?_
           refine sy_skip rfl rfl rfl ?_
           refine sy_pickT rfl rfl rfl rfl ?_
           refine sy_move rfl rfl rfl ?_
           refine sy_skip rfl rfl rfl ?_
           refine sy_skip rfl rfl rfl ?_
           refine sy_skip rfl rfl rfl ?_
           refine sy_pickT rfl rfl rfl rfl ?_
           refine sy_nil rfl ?_
           refine ny_next ?_
           refine cy_condT rfl ?_
           have hgo : goesR L most pri st2 = false := by
            unfold goesR
            rw [hA, Bool.true_and]
            first
            | (have h9 : (refInfix (tokA L st2.at_).str.data.toList).2.2.2 = false := by simpa using hg46
               rw [h9]; rfl)
            | (rw [decide_eq_false (p := (refInfix (tokA L st2.at_).str.data.toList).2.1 ≤ most) (by have := of_decide_eq_true hg51; omega), Bool.and_false]; rfl)
           refine cy_exit ?_
           refine ny_thenE ?_
           refine ny_blockY rfl ?_
           refine ny_thenE ?_
           refine ny_blockX ?_
           refine ny_next ?_
           refine cy_seq ?_
           refine cy_region ?_
           refine sy_move rfl rfl rfl ?_
           refine sy_nilCheck rfl rfl rfl ?_
           refine sy_field fld_88_3 rfl rfl rfl ?_
           refine sy_ldr 0 one_3 rfl rfl rfl rfl rfl ?_
           refine sy_subi (z := inn) rfl rfl (by omega) (by omega) (by omega) rfl rfl ?_
           refine sy_nilCheck rfl rfl rfl ?_
           refine sy_field fld_88_3 rfl rfl rfl ?_
           refine sy_stl 0 sz_3 rfl rfl rfl rfl rfl rfl rfl rfl ?_
           refine sy_nil rfl ?_
           refine ny_next ?_
           refine cy_seq ?_
           refine cy_region ?_
           refine sy_ldar 1 agg_24 rfl rfl rfl rfl rfl ?_
           refine sy_move rfl rfl rfl ?_
           refine sy_stl 2 sz_24 rfl rfl rfl rfl rfl rfl rfl rfl ?_
           refine sy_assign rfl rfl rfl ?_
           refine sy_nil rfl ?_
           refine ny_next ?_
           refine cy_ret ?_
           exact ny_finR (resc1 0 rfl agg_24 rfl rfl rfl rfl) (fun w9 hs => ⟨.ok (g.tm, pri) st2 (g, o2, vn2), _, _, rfl, ⟨hro.symm.trans (loop_end hgo), rfl, hlgf, hm2, rfl⟩, hs.sel (is := [1, 2, 2]) rfl⟩)
         · refine sy_move rfl rfl rfl ?_
           refine sy_move rfl rfl rfl ?_
           refine sy_cmp rfl rfl rfl rfl rfl ?_
           refine sy_pickF rfl rfl rfl rfl ?_
           refine sy_move rfl rfl rfl ?_
           refine sy_cond (d := 51) _ rfl rfl (fun hg51 => ?_) (fun hg51 => ?_)
           · refine sy_skip rfl rfl rfl ?_
             refine sy_skip rfl rfl rfl ?_
             refine sy_skip rfl rfl rfl ?_
             refine sy_pickT rfl rfl rfl rfl ?_
             refine sy_nil rfl ?_
             refine ny_next ?_
             refine cy_condT rfl ?_
             have hgo : goesR L most pri st2 = false := by
              unfold goesR
              rw [hA, Bool.true_and]
              first
              | (have h9 : (refInfix (tokA L st2.at_).str.data.toList).2.2.2 = false := by simpa using hg46
                 rw [h9]; rfl)
              | (rw [decide_eq_false (p := (refInfix (tokA L st2.at_).str.data.toList).2.1 ≤ most) (by have := of_decide_eq_true hg51; omega), Bool.and_false]; rfl)
             refine cy_exit ?_
             refine ny_thenE ?_
             refine ny_blockY rfl ?_
             refine ny_thenE ?_
             refine ny_blockX ?_
             refine ny_next ?_
             refine cy_seq ?_
             refine cy_region ?_
             refine sy_move rfl rfl rfl ?_
             refine sy_nilCheck rfl rfl rfl ?_
             refine sy_field fld_88_3 rfl rfl rfl ?_
             refine sy_ldr 0 one_3 rfl rfl rfl rfl rfl ?_
             refine sy_subi (z := inn) rfl rfl (by omega) (by omega) (by omega) rfl rfl ?_
             refine sy_nilCheck rfl rfl rfl ?_
             refine sy_field fld_88_3 rfl rfl rfl ?_
             refine sy_stl 0 sz_3 rfl rfl rfl rfl rfl rfl rfl rfl ?_
             refine sy_nil rfl ?_
             refine ny_next ?_
             refine cy_seq ?_
             refine cy_region ?_
             refine sy_ldar 1 agg_24 rfl rfl rfl rfl rfl ?_
             refine sy_move rfl rfl rfl ?_
             refine sy_stl 2 sz_24 rfl rfl rfl rfl rfl rfl rfl rfl ?_
             refine sy_assign rfl rfl rfl ?_
             refine sy_nil rfl ?_
             refine ny_next ?_
             refine cy_ret ?_
             exact ny_finR (resc1 0 rfl agg_24 rfl rfl rfl rfl) (fun w9 hs => ⟨.ok (g.tm, pri) st2 (g, o2, vn2), _, _, rfl, ⟨hro.symm.trans (loop_end hgo), rfl, hlgf, hm2, rfl⟩, hs.sel (is := [1, 2, 2]) rfl⟩)
           · refine sy_move rfl rfl rfl ?_
             refine sy_move rfl rfl rfl ?_
             refine sy_cmp rfl rfl rfl rfl rfl ?_
             refine sy_pickF rfl rfl rfl rfl ?_
             refine sy_nil rfl ?_
             refine ny_next ?_
             refine cy_cond rfl (fun hc55 => ?_) (fun hc55 => ?_)
             · have hgo : goesR L most pri st2 = false := by
                unfold goesR
                rw [hA, Bool.true_and, decide_eq_false (p := pri ≤ (refInfix (tokA L st2.at_).str.data.toList).1) (by have := of_decide_eq_true hc55; omega), Bool.and_false]
               refine cy_exit ?_
               refine ny_thenE ?_
               refine ny_blockY rfl ?_
               refine ny_thenE ?_
               refine ny_blockX ?_
               refine ny_next ?_
               refine cy_seq ?_
               refine cy_region ?_
               refine sy_move rfl rfl rfl ?_
               refine sy_nilCheck rfl rfl rfl ?_
               refine sy_field fld_88_3 rfl rfl rfl ?_
               refine sy_ldr 0 one_3 rfl rfl rfl rfl rfl ?_
               refine sy_subi (z := inn) rfl rfl (by omega) (by omega) (by omega) rfl rfl ?_
               refine sy_nilCheck rfl rfl rfl ?_
               refine sy_field fld_88_3 rfl rfl rfl ?_
               refine sy_stl 0 sz_3 rfl rfl rfl rfl rfl rfl rfl rfl ?_
               refine sy_nil rfl ?_
               refine ny_next ?_
               refine cy_seq ?_
               refine cy_region ?_
               refine sy_ldar 1 agg_24 rfl rfl rfl rfl rfl ?_
               refine sy_move rfl rfl rfl ?_
               refine sy_stl 2 sz_24 rfl rfl rfl rfl rfl rfl rfl rfl ?_
               refine sy_assign rfl rfl rfl ?_
               refine sy_nil rfl ?_
               refine ny_next ?_
               refine cy_ret ?_
               exact ny_finR (resc1 0 rfl agg_24 rfl rfl rfl rfl) (fun w9 hs => ⟨.ok (g.tm, pri) st2 (g, o2, vn2), _, _, rfl, ⟨hro.symm.trans (loop_end hgo), rfl, hlgf, hm2, rfl⟩, hs.sel (is := [1, 2, 2]) rfl⟩)
             · have hgo : goesR L most pri st2 = true := by
                unfold goesR
                have h9 : (refInfix (tokA L st2.at_).str.data.toList).2.2.2 = true := by simpa using hg46
                rw [hA, Bool.true_and, h9, decide_eq_true (p := (refInfix (tokA L st2.at_).str.data.toList).2.1 ≤ most) (by have := of_decide_eq_false hg51; omega), decide_eq_true (p := pri ≤ (refInfix (tokA L st2.at_).str.data.toList).1) (by have := of_decide_eq_false hc55; omega)]
                rfl
               refine cy_skip ?_
               refine ny_next ?_
               refine cy_seq ?_
               refine cy_region ?_
               refine sy_move rfl rfl rfl ?_
               refine sy_nilCheck rfl rfl rfl ?_
               refine sy_field fld_88_1 rfl rfl rfl ?_
               refine sy_ldr 0 one_3 rfl rfl rfl rfl rfl ?_
               refine sy_addi (z := ((st2.at_ + 1 : Nat) : Int)) rfl rfl (by omega) (by omega) (by omega) rfl rfl ?_
               have hlt := goes_lt hgo
               refine sy_nilCheck rfl rfl rfl ?_
               refine sy_field fld_88_1 rfl rfl rfl ?_
               refine sy_stl 0 sz_3 rfl rfl rfl rfl rfl rfl rfl rfl ?_
               refine sy_nil rfl ?_
               refine ny_next ?_
               refine cy_regionAP mixed ?_
               refine zy_qP 0 (fun c a d v w hq => by cases d <;> exact hq) rfl (by kernel_rfl) (fun hB8_0 => ?_)
               refine sy_move rfl rfl rfl ?_
               refine sy_nil1 (ny_zqP hB8_0 ?_)
               refine zy_qP 1 (fun c a d v w hq => by cases d <;> exact hq) rfl (by kernel_rfl) (fun hB8_1 => ?_)
               refine sy_field fld_79_1 rfl rfl rfl ?_
               refine sy_nil1 (ny_zqP hB8_1 ?_)
               refine zy_qP 2 (fun c a d v w hq => by cases d <;> exact hq) rfl (by kernel_rfl) (fun hB8_2 => ?_)
               refine sy_ldh one_9 rfl (Hp.blk hb8x 1 _ rfl) rfl rfl ?_
               refine sy_nil1 (ny_zqP hB8_2 ?_)
               refine zy_qP 4 (fun c a d v w hq => by cases d <;> exact hq) rfl (by kernel_rfl) (fun hB8_4 => ?_)
               refine sy_move rfl rfl rfl ?_
               refine sy_nil1 (ny_zqP hB8_4 ?_)
               refine zy_qP 5 (fun c a d v w hq => by cases d <;> exact hq) rfl (by kernel_rfl) (fun hB8_5 => ?_)
               refine sy_move rfl rfl rfl ?_
               refine sy_nil1 (ny_zqP hB8_5 ?_)
               refine zy_qP 9 (fun c a d v w hq => by cases d <;> exact hq) rfl (by kernel_rfl) (fun hB8_9 => ?_)
               refine sy_move rfl rfl rfl ?_
               refine sy_nil1 (ny_zqP hB8_9 ?_)
               refine zy_2P 3 6 (by kernel_rfl) ?_ ?_
               · refine zop_runP rfl rfl (fun hB8_3 => ?_)
                 refine sy_ldar 1 agg_24 rfl rfl rfl rfl rfl ?_
                 refine sy_nil rfl (ny_zyP hB8_3 (Hp.Le.refl _) ?_)
                 refine zy_1P 6 (by kernel_rfl) ?_
                 refine zop_runP rfl rfl (fun hB8_6 => ?_)
                 refine sy_callRO [0, 2, 2] call_55 rfl rfl (ihs (k - 1) (by omega) (inn + 1) (by omega) (by omega) (by omega) _ (adv st2) o2 vn2 _ hTz (by show st2.at_ + 1 ≤ _; omega) (by show st2.names.length ≤ st2.at_ + 1; omega) hm2) rfl rfl (fun a69 e69 h69x H69x hb69 hx69 hle69x => ?_) (fun x69 s69 g69 h69x H69x hk69 hx69 hle69x => ?_)
                 · obtain ⟨a9, i9, o9, v9, n9, rfl⟩ := hx69
                   refine ny_zyPP ?_
                   refine ny_blockP ?_
                   refine ny_thenP ?_
                   refine ny_blockP ?_
                   refine ny_thenP ?_
                   exact ny_finP (fun w9 hs => ⟨.bad a69 e69, _, _, rfl, ⟨hro.symm.trans (loop_bad hgo hb69 (by omega)), _, _, _, _, _, rfl⟩, hs.sel (is := [0, 0, 0]) rfl⟩)
                 · obtain ⟨hg69, hl69, hm69, rfl⟩ := hx69
                   replace hg69 : g69.1.tm = x69.1 := hg69
                   have hfw69 := read_fwd L lv (k - 1) _ (adv st2) x69 s69 (by show st2.at_ + 1 ≤ _; omega) hk69
                   have hww69 := read_wt L lv (k - 1) _ (adv st2) x69 s69 (by show st2.at_ + 1 ≤ _; omega) hk69
                   simp only [adv] at hfw69 hww69
                   rw [preW_succ hlt] at hww69
                   have hpw69 := hPW s69.at_
                   refine sy_nil rfl (ny_zyP hB8_6 hle69x ?_)
                   refine zy_1P 7 (by kernel_rfl) ?_
                   refine zop_runP rfl rfl (fun hB8_7 => ?_)
                   refine sy_buildSlice (cs := [g, g69.1].flatMap GT.cells) rfl (fun w => bsl_22_2_0x1 w) rfl rfl (fun b70 hb70 hM70 => ?_) (by first | exact hb0 | simp)
                   refine sy_frz 0 rfl hM70 (fun h70 hle70 hb70x => ?_)
                   have hr70 : RowsAt h70 (some ⟨b70, 0, none⟩) 4 ([g, g69.1].map GT.cells) := rows_blk (by decide) (GT.cells_len _) hb70x
                   refine sy_nil rfl (ny_zyP hB8_7 hle70 ?_)
                   refine zy_1P 8 (by kernel_rfl) ?_
                   refine zop_runP rfl rfl (fun hB8_8 => ?_)
                   refine sy_callRO [0] call_100 rfl rfl (mk_c (tokA L st2.at_).str (tokA_ok hqN st2.at_).2.1 [g, g69.1] (some ⟨b70, 0, none⟩) 2 r bm A c L lv _ ((hTz.le hle69x).le hle70) hL s69 (inn + 1) g69.2.2 hfw69.2.1 rfl hr70 (duoW (h := h70) ⟨(hlg.1.le hle69x).le hle70, hlg.2⟩ ⟨hl69.1.le hle70, hl69.2⟩ (by omega) (by rw [hg69]; omega)) (by simp) (by simp)) rfl rfl (fun a71 e71 h71x H71x hb71 hx71 hle71x => ?_) (fun x71 s71 g71 h71x H71x hk71 hx71 hle71x => ?_)
                   · subst hx71
                     refine ny_zyPP ?_
                     refine ny_blockP ?_
                     refine ny_thenP ?_
                     refine ny_blockP ?_
                     refine ny_thenP ?_
                     exact ny_finP (fun w9 hs => ⟨.bad a71 e71, _, _, rfl, ⟨hro.symm.trans (loop_bad2 hgo hk69 (by rw [← hg69]; exact hb71) (by omega)), _, _, _, _, _, rfl⟩, hs.sel (is := [0, 0, 0]) rfl⟩)
                   · obtain ⟨hg71, hl71, rfl⟩ := hx71
                     have hst71 := (mkR_st hk71).symm
                     subst hst71
                     have hmw71 := mkR_wt hk71
                     rw [List.map_cons, List.map_cons, List.map_nil, wtTs_cons, wtTs_cons, wtTs_nil, hg69] at hmw71
                     refine sy_nil rfl (ny_zyP hB8_8 hle71x ?_)
                     refine zy_1P 10 (by kernel_rfl) ?_
                     refine zop_runP rfl rfl (fun hB8_10 => ?_)
                     refine sy_stl 3 sz_24 rfl rfl rfl rfl rfl rfl rfl rfl ?_
                     refine sy_nil rfl (ny_zyP hB8_10 (Hp.Le.refl _) ?_)
                     refine zy_qP 11 (fun c a d v w hq => by cases d <;> exact hq) rfl (by kernel_rfl) (fun hB8_11 => ?_)
                     refine sy_assign rfl rfl rfl ?_
                     refine sy_nil1 (ny_zqP hB8_11 ?_)
                     refine zy_doneP (by kernel_rfl) ?_
                     refine ny_blockN ?_
                     refine ny_roundK [0, 1, 4, 6] ⟨g71, (refInfix (tokA L st2.at_).str.data.toList).2.1, s69, g69.2.1, g69.2.2, h71x, m - 1⟩ [0, 3, 0, 0, 0] ⟨(by rw [hg71, ← loop_step hgo hk69 (by rw [← hg69]; exact hk71) (by omega)]; exact hro), (by show L.length + 1 ≤ m - 1 + s69.at_; omega), hfw69.2.1, (by show s69.names.length ≤ s69.at_; omega), hm69, (((hlez.trans hle8).trans hle69x).trans hle70).trans hle71x, hl71, (by show wtT g71.tm ≤ preW L s69.at_; rw [hg71]; omega)⟩ (by show L.length - s69.at_ < L.length - st2.at_; omega) rfl ⟨rfl, trivial⟩ rfl rfl
               · refine zop_runP rfl rfl (fun hB8_6 => ?_)
                 refine sy_callRO [0, 2, 2] call_55 rfl rfl (ihs (k - 1) (by omega) (inn + 1) (by omega) (by omega) (by omega) _ (adv st2) o2 vn2 _ hTz (by show st2.at_ + 1 ≤ _; omega) (by show st2.names.length ≤ st2.at_ + 1; omega) hm2) rfl rfl (fun a69 e69 h69x H69x hb69 hx69 hle69x => ?_) (fun x69 s69 g69 h69x H69x hk69 hx69 hle69x => ?_)
                 · obtain ⟨a9, i9, o9, v9, n9, rfl⟩ := hx69
                   refine ny_zyPP ?_
                   refine ny_blockP ?_
                   refine ny_thenP ?_
                   refine ny_blockP ?_
                   refine ny_thenP ?_
                   exact ny_finP (fun w9 hs => ⟨.bad a69 e69, _, _, rfl, ⟨hro.symm.trans (loop_bad hgo hb69 (by omega)), _, _, _, _, _, rfl⟩, hs.sel (is := [0, 0, 0]) rfl⟩)
                 · obtain ⟨hg69, hl69, hm69, rfl⟩ := hx69
                   replace hg69 : g69.1.tm = x69.1 := hg69
                   have hfw69 := read_fwd L lv (k - 1) _ (adv st2) x69 s69 (by show st2.at_ + 1 ≤ _; omega) hk69
                   have hww69 := read_wt L lv (k - 1) _ (adv st2) x69 s69 (by show st2.at_ + 1 ≤ _; omega) hk69
                   simp only [adv] at hfw69 hww69
                   rw [preW_succ hlt] at hww69
                   have hpw69 := hPW s69.at_
                   refine sy_nil rfl (ny_zyP hB8_6 hle69x ?_)
                   refine zy_1P 3 (by kernel_rfl) ?_
                   refine zop_runP rfl rfl (fun hB8_3 => ?_)
                   refine sy_ldar 3 agg_24 rfl rfl rfl rfl rfl ?_
                   refine sy_nil rfl (ny_zyP hB8_3 (Hp.Le.refl _) ?_)
                   refine zy_1P 7 (by kernel_rfl) ?_
                   refine zop_runP rfl rfl (fun hB8_7 => ?_)
                   refine sy_buildSlice (cs := [g, g69.1].flatMap GT.cells) rfl (fun w => bsl_22_2_0x1 w) rfl rfl (fun b70 hb70 hM70 => ?_) (by first | exact hb0 | simp)
                   refine sy_frz 0 rfl hM70 (fun h70 hle70 hb70x => ?_)
                   have hr70 : RowsAt h70 (some ⟨b70, 0, none⟩) 4 ([g, g69.1].map GT.cells) := rows_blk (by decide) (GT.cells_len _) hb70x
                   refine sy_nil rfl (ny_zyP hB8_7 hle70 ?_)
                   refine zy_1P 8 (by kernel_rfl) ?_
                   refine zop_runP rfl rfl (fun hB8_8 => ?_)
                   refine sy_callRO [0] call_100 rfl rfl (mk_c (tokA L st2.at_).str (tokA_ok hqN st2.at_).2.1 [g, g69.1] (some ⟨b70, 0, none⟩) 2 r bm A c L lv _ ((hTz.le hle69x).le hle70) hL s69 (inn + 1) g69.2.2 hfw69.2.1 rfl hr70 (duoW (h := h70) ⟨(hlg.1.le hle69x).le hle70, hlg.2⟩ ⟨hl69.1.le hle70, hl69.2⟩ (by omega) (by rw [hg69]; omega)) (by simp) (by simp)) rfl rfl (fun a71 e71 h71x H71x hb71 hx71 hle71x => ?_) (fun x71 s71 g71 h71x H71x hk71 hx71 hle71x => ?_)
                   · subst hx71
                     refine ny_zyPP ?_
                     refine ny_blockP ?_
                     refine ny_thenP ?_
                     refine ny_blockP ?_
                     refine ny_thenP ?_
                     exact ny_finP (fun w9 hs => ⟨.bad a71 e71, _, _, rfl, ⟨hro.symm.trans (loop_bad2 hgo hk69 (by rw [← hg69]; exact hb71) (by omega)), _, _, _, _, _, rfl⟩, hs.sel (is := [0, 0, 0]) rfl⟩)
                   · obtain ⟨hg71, hl71, rfl⟩ := hx71
                     have hst71 := (mkR_st hk71).symm
                     subst hst71
                     have hmw71 := mkR_wt hk71
                     rw [List.map_cons, List.map_cons, List.map_nil, wtTs_cons, wtTs_cons, wtTs_nil, hg69] at hmw71
                     refine sy_nil rfl (ny_zyP hB8_8 hle71x ?_)
                     refine zy_1P 10 (by kernel_rfl) ?_
                     refine zop_runP rfl rfl (fun hB8_10 => ?_)
                     refine sy_stl 3 sz_24 rfl rfl rfl rfl rfl rfl rfl rfl ?_
                     refine sy_nil rfl (ny_zyP hB8_10 (Hp.Le.refl _) ?_)
                     refine zy_qP 11 (fun c a d v w hq => by cases d <;> exact hq) rfl (by kernel_rfl) (fun hB8_11 => ?_)
                     refine sy_assign rfl rfl rfl ?_
                     refine sy_nil1 (ny_zqP hB8_11 ?_)
                     refine zy_doneP (by kernel_rfl) ?_
                     refine ny_blockN ?_
                     refine ny_roundK [0, 1, 4, 6] ⟨g71, (refInfix (tokA L st2.at_).str.data.toList).2.1, s69, g69.2.1, g69.2.2, h71x, m - 1⟩ [0, 3, 0, 0, 0] ⟨(by rw [hg71, ← loop_step hgo hk69 (by rw [← hg69]; exact hk71) (by omega)]; exact hro), (by show L.length + 1 ≤ m - 1 + s69.at_; omega), hfw69.2.1, (by show s69.names.length ≤ s69.at_; omega), hm69, (((hlez.trans hle8).trans hle69x).trans hle70).trans hle71x, hl71, (by show wtT g71.tm ≤ preW L s69.at_; rw [hg71]; omega)⟩ (by show L.length - s69.at_ < L.length - st2.at_; omega) rfl ⟨rfl, trivial⟩ rfl rfl
end Go.Proofs.YtanhhihechakhaaGreatDoor
set_option linter.unusedVariables false
set_option linter.unusedSimpArgs false
namespace Go.Proofs.YtanhhihechakhaaGreatDoor.E
open Go.RowKit
section
variable {P : Program} {n : Nat} {w0 : World} {M : List Nat} {h0 : Hp} {f : Tab} {h : Hp} {H : List Res}
theorem enterRecN {X : Type} {i d1 d2 t1 t2 : Nat} {p1 p2 : String} {a1 a2 : Array Edge} {c2 : Code} {Φ : X → Hp → List Res → Prop} {F : Nat} {fn : Func} {vs : List Value} (hf : P.funcs[F]? = some fn)
    (hb : fn.body = some (.seq (.region i #[⟨some d1, .call ⟨.builtin .recover, #[], #[]⟩, t1, p1, a1, none⟩, ⟨some d2, .assign (.tmp d1), t2, p2, a2, none⟩] false) c2)) (hi : initO 0 vs = some f) (hn : Nat.ble vs.length fn.ntmps = true) (hd1 : Nat.blt d1 fn.ntmps = true) (hd2 : Nat.blt d2 fn.ntmps = true)
    (k : ∀ w, (∀ x ∈ keysOf H, x < w.heap.size) → Cy P c2 (bodyPost P fn fun e w' => ∃ x h' H', (∃ v, e = .returned v) ∧ Φ x h' H' ∧ St w (keysOf H) h h' H' w') fn.ntmps [] w (keysOf H) h ((d2, .nilIface) :: (d1, .nilIface) :: f) h H) :
    CRD P F vs .returning .returning h H Φ :=
 fun w hs ho => by
  have hst := St.startN hs ho
  refine callsD_of_wpS hf hb fun c0 cs hc0 => ?_
  have ha : Holds fn.ntmps [] f { tmps := vs.toArray ++ Array.replicate (fn.ntmps - vs.toArray.size) undef, defers := [] } := by
   refine ⟨?_, rfl, fun i v hiv => ?_⟩
   · have := Nat.le_of_ble_eq_true hn
     simp
     omega
   · obtain ⟨_, h1⟩ := initO_get hi i v hiv
     have hlt := (List.getElem?_eq_some_iff.1 h1).1
     simp only [Nat.sub_zero] at h1 hlt
     rw [Array.getElem?_append_left (by simpa using hlt)]
     simpa using h1
  refine wpS_seq (wpS_region ?_)
  have hr : ∀ ev : Operand → Value, (execOp ev ⟨some d1, .call ⟨.builtin .recover, #[], #[]⟩, t1, p1, a1, none⟩).run P w = .ok .recover w := fun ev => rfl
  have ha1 := ha.put d1 .nilIface hd1
  have hev := ha1.ev (v := .nilIface) (x := .tmp d1) (by simp [Tab.ev, Tab.get])
  have hrec : recoverD (c0 :: cs) = none := by simp [recoverD, hc0]
  show wpOpsS P _ _ [0, 1] _ _ _
  generalize hA0 : ({ tmps := vs.toArray ++ Array.replicate (fn.ntmps - vs.toArray.size) undef, defers := [] } : Act) = A0 at ha ha1 hev ⊢
  simp only [wpOpsS, List.getElem?_toArray, List.getElem?_cons_zero, List.getElem?_cons_succ, Region.wanted, if_true, hr, hrec]
  have h2 : (execOp (A0.put (some d1) .nilIface).eval ⟨some d2, .assign (.tmp d1), t2, p2, a2, none⟩).run P w = .ok (.value .nilIface) w := by
   simp [execOp, hev]
  rw [h2]
  refine wpS_of_wp (wp_mono (k w ho.lt _ w (ha1.put d2 .nilIface hd2) hst) ?_)
  intro e a' w' hq
  have hfr : ∃ c', (c0 :: cs) = c' :: cs ∧ c'.mode = .returning := ⟨c0, rfl, hc0⟩
  cases e with
  | normal =>
   obtain ⟨h1, v', h3, x, h', H', h4, h5, h6⟩ := hq
   exact ⟨h1, _, rfl, v', h3, x, h', H', hc0, h4, h5, h6⟩
  | ret =>
   obtain ⟨h1, v', h3, x, h', H', h4, h5, h6⟩ := hq
   exact ⟨h1, _, rfl, v', h3, x, h', H', hc0, h4, h5, h6⟩
  | panic ch =>
   obtain ⟨h1, x, h', H', ⟨v', h4⟩, h5, h6⟩ := hq
   cases h4
  | exit i => exact hq.elim
  | goto i => exact hq.elim
  | outgrown =>
   obtain ⟨x, h', H', ⟨v', h4⟩, h5, h6⟩ := hq
   cases h4
theorem enterXD {X : Type} {rv : X → Value} {Φ : X → Hp → Prop} {F : Nat} {fn : Func} {c : Code} {vs : List Value} (hf : P.funcs[F]? = some fn) (hb : fn.body = some c) (hi : initO 0 vs = some f) (hn : Nat.ble vs.length fn.ntmps = true)
    (k : ∀ w, Cy P c (bodyPostD P fn fun e w' => ∃ x h', e = .returned (rv x) ∧ Φ x h' ∧ Grow h w h' w') fn.ntmps [] w [] h f h []) : CX P F vs h rv Φ := fun w hs => enterMD' hf hb hi hn (St.start hs []) (k w)
theorem resc4 {fn : Func} {t1 t2 t3 t4 y1 y2 y3 y4 e1 e2 e3 e4 l : Nat} {f1 f2 f3 f4 : Nat × Nat} {b1 b2 b3 b4 : Nat} {cs vs : List Value} {v2 v3 v4 : Value} {H1 H2 H3 H4 : List Res} (i1 i2 i3 i4 : Nat) (hr : fn.results = #[.cell t1 y1, .cell t2 y2, .cell t3 y3, .cell t4 y4]) (g1 : aggB P y1 l = true) (g2 : oneB P y2 = true) (g3 : oneB P y3 = true) (g4 : oneB P y4 = true)
    (k1 : f.get t1 = some (.pointer (some ⟨b1, 0, none⟩))) (k2 : f.get t2 = some (.pointer (some ⟨b2, 0, none⟩))) (k3 : f.get t3 = some (.pointer (some ⟨b3, 0, none⟩))) (k4 : f.get t4 = some (.pointer (some ⟨b4, 0, none⟩)))
    (p1 : pickR i1 H = some (.blk b1 (.cells cs.toArray e1 f1), H1)) (p2 : pickR i2 H = some (.blk b2 (.cells [v2].toArray e2 f2), H2)) (p3 : pickR i3 H = some (.blk b3 (.cells [v3].toArray e3 f3), H3)) (p4 : pickR i4 H = some (.blk b4 (.cells [v4].toArray e4 f4), H4)) (hc : sliceO 0 l cs = some vs) :
    ∀ a w, Holds n [] f a → St w0 M h0 h H w → (results fn a.tmps).run P w = .ok (.tuple #[.agg vs.toArray, v2, v3, v4]) w := fun a w ha hs => by
 have h1 := ha.get t1 _ k1
 have h2 := ha.get t2 _ k2
 have h3 := ha.get t3 _ k3
 have h4 := ha.get t4 _ k4
 have hb1 : w.heap[b1]? = some (.cells cs.toArray e1 f1) := (hs.swap (pickR_perm p1)).ok _ (List.mem_cons_self)
 have hb2 : w.heap[b2]? = some (.cells [v2].toArray e2 f2) := (hs.swap (pickR_perm p2)).ok _ (List.mem_cons_self)
 have hb3 : w.heap[b3]? = some (.cells [v3].toArray e3 f3) := (hs.swap (pickR_perm p3)).ok _ (List.mem_cons_self)
 have hb4 : w.heap[b4]? = some (.cells [v4].toArray e4 f4) := (hs.swap (pickR_perm p4)).ok _ (List.mem_cons_self)
 obtain ⟨h5, h6⟩ := agg_spec g1 w
 obtain ⟨h7, h8⟩ := sliceO_spec hc
 subst h7
 have ho2 := one_spec g2 w
 have ho3 := one_spec g3 w
 have ho4 := one_spec g4 w
 have c2 : w.cell? ⟨b2, 0, none⟩ = some v2 := by simp [World.cell?, hb2]
 have c3 : w.cell? ⟨b3, 0, none⟩ = some v3 := by simp [World.cell?, hb3]
 have c4 : w.cell? ⟨b4, 0, none⟩ = some v4 := by simp [World.cell?, hb4]
 have hl := run_loadCells_list (P := P) w ⟨b1, 0, none⟩ vs (fun j u hj => by
  rw [Addr.add_at]
  have := h8 j u hj
  simp only [Nat.zero_add] at this ⊢
  simp [World.cell?, hb1, this])
 simp [results, hr, h1, h2, h3, h4, asAddr, loadVar, h5, h6, hl, ho2, ho3, ho4, c2, c3, c4]
end
section
variable {m : Md} {P : Program} {ops : Array Oper} {Q : Exit → Act → World → Prop} {n : Nat} {D : List Deferred} {w0 : World} {M : List Nat} {h0 : Hp}
variable {f : Tab} {h : Hp} {H : List Res} {rest : List Oper} {d t s : Nat} {p : String} {af : Array Edge} {g : Option (Nat × Bool)}
theorem sy_fieldv {x : Operand} {vx v : Value} {xT fi : Nat} (hx : f.ev x = some vx) (hr : ∀ w, (Instr.field xT vx fi).run P w = .ok v w) (hw : gok ops f g = some true) (hn : Nat.blt d n = true)
    (k : Sy m P ops Q n D w0 M h0 rest ((d, v) :: f) h H) : Sy m P ops Q n D w0 M h0 (⟨some d, .field xT x fi, t, p, af, g⟩ :: rest) f h H :=
 sy_val hw rfl hn (fun a w ha _ => by simp [execOp, ha.ev hx, hr]) k
theorem cy_rowform {c : Code} {v : Value} {e sz l : Nat} {xs : List Value} {H1 : List Res} (i : Nat) (hp : pickR i H = some (.row v e sz l xs, H1)) (k : ∀ A cc, v = .slice A l cc → Cy P c Q n D w0 M h0 f h H) : Cy P c Q n D w0 M h0 f h H := fun a w ha hs => by
 have hr : w.ownsRow 0 e sz v l xs := (hs.swap (pickR_perm hp)).ok _ (List.mem_cons_self)
 rcases hr.2 with ⟨rfl, rfl⟩ | ⟨g, cap, cur, rfl, _⟩
 · exact k none 0 rfl a w ha hs
 · exact k _ cap rfl a w ha hs
end
end Go.Proofs.YtanhhihechakhaaGreatDoor.E
set_option linter.unusedVariables false
set_option linter.unusedSimpArgs false
namespace Go.Proofs.YtanhhihechakhaaGreatDoor.ReadP
open Go.RowKit Go.Proofs.YtanhhihechakhaaGreatDoor.E Go.Proofs.YtanhhihechakhaaGreatDoor.TokP Go.Proofs.YtanhhihechakhaaGreatDoor.TermP Go.Proofs.YtanhhihechakhaaGreatDoor.WrP Go.Proofs.YtanhhihechakhaaGreatDoor.OpsP
theorem varsF_nil (l : List Int) : varsF l [] = l := rfl
theorem varsF_cons (l : List Int) (p : Tm) (ps : List Tm) : varsF l (p :: ps) = varsF (if p.k = 1 ∧ ¬ l.contains p.n = true then l ++ [p.n] else l) ps := rfl
theorem varsF_app (l : List Int) (p q : List Tm) : varsF l (p ++ q) = varsF (varsF l p) q := by simp [varsF, List.foldl_append]
theorem varsF_skip {p : Tm} (l : List Int) (ps : List Tm) (h : ¬ p.k = 1) : varsF l (p :: ps) = varsF l ps := by
 rw [varsF_cons, if_neg (fun h9 => h h9.1)]
theorem vf_two (l : List Int) (x y : Tm) : varsF l (partsTs [x, y]) = varsF (varsF l (partsT x)) (partsT y) := by
 rw [partsTs_cons, partsTs_cons, partsTs_nil, List.append_nil, varsF_app]
theorem vf_one (l : List Int) (x : Tm) : varsF l (partsTs [x]) = varsF l (partsT x) := by
 rw [partsTs_cons, partsTs_nil, List.append_nil]
def allA (lv : Int) (l : List UInt8) : RA := match scanA l with
 | .bad a w e => .bad a e
 | .ok ts => allS (ts.map rtOf) lv (ts.length + 1) 0 []
end Go.Proofs.YtanhhihechakhaaGreatDoor.ReadP
set_option linter.unusedVariables false
set_option linter.unusedSimpArgs false
namespace Go.Proofs.YtanhhihechakhaaGreatDoor.ReadP
open Go.RowKit Go.Proofs.YtanhhihechakhaaGreatDoor.E Go.Proofs.YtanhhihechakhaaGreatDoor.TokP Go.Proofs.YtanhhihechakhaaGreatDoor.TermP Go.Proofs.YtanhhihechakhaaGreatDoor.WrP Go.Proofs.YtanhhihechakhaaGreatDoor.OpsP
def StopR (t : RT) : Prop := t.kind = 0 ∨ t.kind = 5 ∨ (t.kind = 4 ∧ t.str.data.toList = [41])
/-! sentences -/
theorem readS_ok {L : List RT} {lv : Int} {i : Nat} {x : Tm} {s : RSt} (h : readS L lv i = .ok x s) : ∃ p s2, readT L lv 60 1200 ⟨i, []⟩ = .ok (x, p) s2 ∧ (tokA L s2.at_).kind = 5 ∧ chkT lv x = 0 ∧ s = adv s2 := by
 unfold readS at h
 split at h
 · cases h
 · rename_i y s2 h2
   split at h
   · rename_i hk
     split at h
     · rename_i hc
       cases h
       exact ⟨y.2, s2, h2, hk, hc, rfl⟩
     · cases h
   · cases h
theorem readS_of {L : List RT} {lv : Int} {i : Nat} {x : Tm × Int} {s2 : RSt} (h : readT L lv 60 1200 ⟨i, []⟩ = .ok x s2) (hk : (tokA L s2.at_).kind = 5) (hc : chkT lv x.1 = 0) : readS L lv i = .ok x.1 (adv s2) := by
 unfold readS
 rw [h]
 simp only
 rw [if_pos hk, if_pos hc]
theorem readS_fwd {L : List RT} {lv : Int} {i : Nat} {x : Tm} {s : RSt} (hi : i ≤ L.length) (h : readS L lv i = .ok x s) : i + 1 < s.at_ ∧ s.at_ ≤ L.length := by
 obtain ⟨p, s2, h1, h2, h3, rfl⟩ := readS_ok h
 have h4 := read_fwd L lv 60 _ _ _ _ hi h1
 have h5 := tok_lt (L := L) (i := s2.at_) (by rw [h2]; decide)
 simp only [adv] at h4 ⊢
 omega
end Go.Proofs.YtanhhihechakhaaGreatDoor.ReadP
set_option linter.unusedVariables false
set_option linter.unusedSimpArgs false
namespace Go.Proofs.YtanhhihechakhaaGreatDoor.ReadP
open Go.RowKit Go.Proofs.YtanhhihechakhaaGreatDoor.E Go.Proofs.YtanhhihechakhaaGreatDoor.TokP Go.Proofs.YtanhhihechakhaaGreatDoor.TermP Go.Proofs.YtanhhihechakhaaGreatDoor.WrP Go.Proofs.YtanhhihechakhaaGreatDoor.OpsP
inductive Sents (L : List RT) (lv : Int) : Nat → List Tm → Prop
 | done {i : Nat} (h : L.length ≤ i) : Sents L lv i []
 | more {i : Nat} {x : Tm} {s : RSt} {l : List Tm} (h : i < L.length) (hr : readS L lv i = .ok x s) (k : Sents L lv s.at_ l) : Sents L lv i (x :: l)
theorem sents_all {L : List RT} {lv : Int} {i : Nat} {l : List Tm} (hs : Sents L lv i l) : ∀ (k : Nat) (acc : List Tm), i ≤ L.length → L.length + 1 ≤ k + i → allS L lv k i acc = .ok (acc ++ l) := by
 induction hs with
 | done h =>
  intro k acc hi hk
  obtain ⟨k, rfl⟩ : ∃ m, k = m + 1 := ⟨k - 1, by omega⟩
  unfold allS
  rw [if_pos h, List.append_nil]
 | @more i x s l h hr _ ih =>
  intro k acc hi hk
  obtain ⟨k, rfl⟩ : ∃ m, k = m + 1 := ⟨k - 1, by omega⟩
  have hf := readS_fwd hi hr
  unfold allS
  rw [if_neg (by omega), hr]
  simp only
  rw [ih k (acc ++ [x]) hf.2 (by omega), List.append_assoc]
  rfl
theorem allA_of {lv : Int} {t : List UInt8} {ts : List Tk} {l : List Tm} (hl : t.length ≤ 4096) (hx : Lx false t ts) (hs : Sents (ts.map rtOf) lv 0 l) : allA lv t = .ok l := by
 unfold allA
 rw [scan_ok hl hx]
 simp only
 rw [sents_all hs (ts.length + 1) [] (Nat.zero_le _) (by rw [List.length_map]; omega), List.nil_append]
end Go.Proofs.YtanhhihechakhaaGreatDoor.ReadP
set_option linter.unusedVariables false
set_option linter.unusedSimpArgs false
namespace Go.Proofs.YtanhhihechakhaaGreatDoor.ReadP
open Go.RowKit Go.Proofs.YtanhhihechakhaaGreatDoor.E Go.Proofs.YtanhhihechakhaaGreatDoor.ReplP Go.Proofs.YtanhhihechakhaaGreatDoor.TokP Go.Proofs.YtanhhihechakhaaGreatDoor.TermP Go.Proofs.YtanhhihechakhaaGreatDoor.WrP Go.Proofs.YtanhhihechakhaaGreatDoor.OpsP
theorem pad_blank {p : List UInt8} (h : p.all blankB = true) : padB p := by
 induction p with
 | nil => exact pad_nil
 | cons c p ih =>
  rw [List.all_cons, Bool.and_eq_true] at h
  exact pad_sp (by
   intro h9
   have h1 := h.1
   rw [h9] at h1
   exact absurd h1 (by decide)) h.1 (ih h.2)
theorem ends_blank {c : UInt8} (h : ¬ c = 46) (l : List UInt8) : endsB (c :: l) = false := by
 have e : pointB (c :: l) = false := by
  show (c == 46) = false
  exact beq_eq_false_iff_ne.2 h
 unfold endsB
 rw [e, Bool.false_and]
theorem lx_pad1 {p x : List UInt8} {ts : List Tk} (hp : padB p) (h1 : 1 ≤ p.length) (b : Bool) (h : Lx false x ts) : Lx b (p ++ x) ts := by
 cases h with
 | done h => exact .done (by rw [hp, h, List.length_append])
 | tok h hr ha he k =>
  have e : (decide (skipN x = 0) && false) = (decide (skipN (p ++ x) = 0) && b) := by
   rw [hp, Bool.and_false, decide_eq_false (by omega), Bool.false_and]
  rw [e]
  exact .tok (pad_ne hp h) (by rw [pad_drop hp]; exact hr) ha he k
end Go.Proofs.YtanhhihechakhaaGreatDoor.ReadP
set_option linter.unusedVariables false
set_option linter.unusedSimpArgs false
namespace Go.Proofs.YtanhhihechakhaaGreatDoor.ReadP
open Go.RowKit Go.Proofs.YtanhhihechakhaaGreatDoor.E Go.Proofs.YtanhhihechakhaaGreatDoor.ReplP Go.Proofs.YtanhhihechakhaaGreatDoor.TokP Go.Proofs.YtanhhihechakhaaGreatDoor.TermP Go.Proofs.YtanhhihechakhaaGreatDoor.WrP Go.Proofs.YtanhhihechakhaaGreatDoor.OpsP
def OkB {α : Type} (r : RO α) : Prop := ∀ a e, r = .bad a e → 1 ≤ e ∧ e ≤ 7
section
variable {L : List RT} {lv : Int} {tm : Rd}
theorem okb_ok {α : Type} (x : α) (s : RSt) : OkB (.ok x s) := fun a e h => by cases h
theorem okb_bad {α : Type} (a : Nat) {e : Int} (h : 1 ≤ e ∧ e ≤ 7) : OkB (.bad a e : RO α) := fun a e h => by cases h; assumption
theorem okb_at {α β : Type} {r : RO α} {a : Nat} {e : Int} (h : OkB r) (he : r = .bad a e) : OkB (.bad a e : RO β) := okb_bad a (h a e he)
theorem mk_okb (s : ByteArray) (l : List Tm) (st : RSt) : OkB (mkR lv s l st) := by
 unfold mkR
 split
 · split
   · split
     · exact okb_ok _ _
     · exact okb_bad _ (by decide)
   · exact okb_ok _ _
 · exact okb_ok _ _
theorem want_okb {α : Type} (c : List UInt8) (x : α) (st : RSt) : OkB (wantR L c x st) := by
 unfold wantR
 split
 · exact okb_ok _ _
 · exact okb_bad _ (by decide)
theorem map_okb {α β : Type} (f : α → β) {r : RO α} (h : OkB r) : OkB (mapR f r) := fun a e he => by
 cases r with
 | ok x s => cases he
 | bad b c => cases he; exact h _ _ rfl
theorem more_okb (ht : ∀ most st, OkB (tm most st)) : ∀ (n : Nat) (acc : List Tm) (st : RSt), OkB (moreR L tm n acc st)
 | 0, acc, st => okb_ok _ _
 | n + 1, acc, st => by
  unfold moreR
  split
  · split
    · exact more_okb ht n _ _
    · rename_i a e h; exact okb_at (ht _ _) h
  · exact okb_ok _ _
theorem args_okb (ht : ∀ most st, OkB (tm most st)) (st : RSt) : OkB (argsR L tm st) := by
 unfold argsR
 split
 · exact more_okb ht _ _ _
 · rename_i a e h; exact okb_at (ht _ _) h
theorem list_okb (ht : ∀ most st, OkB (tm most st)) (st : RSt) : OkB (listR L tm st) := by
 unfold listR
 split
 · exact okb_ok _ _
 · split
   · rename_i a e h; exact okb_at (args_okb ht _) h
   · split
     · split
       · exact want_okb _ _ _
       · rename_i a e h; exact okb_at (ht _ _) h
     · exact want_okb _ _ _
theorem name_okb (ht : ∀ most st, OkB (tm most st)) (t : RT) (most : Int) (st : RSt) : OkB (nameR L lv tm t most st) := by
 unfold nameR
 split
 · split
   · rename_i a e h; exact okb_at (args_okb ht _) h
   · split
     · rename_i a e h; exact okb_at (want_okb _ _ _) h
     · exact map_okb _ (mk_okb _ _ _)
 · split
   · exact okb_ok _ _
   · split
     · exact okb_ok _ _
     · split
       · split
         · rename_i a e h; exact okb_at (ht _ _) h
         · exact map_okb _ (mk_okb _ _ _)
       · exact okb_ok _ _
theorem first_okb (ht : ∀ most st, OkB (tm most st)) (most : Int) (st : RSt) : OkB (firstR L lv tm most st) := by
 unfold firstR
 split
 · exact okb_bad _ (by decide)
 · split
   · exact okb_ok _ _
   · split
     · exact okb_ok _ _
     · split
       · exact name_okb ht _ _ _
       · split
         · split
           · rename_i a e h; exact okb_at (ht _ _) h
           · exact want_okb _ _ _
         · split
           · exact map_okb _ (list_okb ht _)
           · exact okb_bad _ (by decide)
theorem loop_okb (ht : ∀ most st, OkB (tm most st)) (most : Int) : ∀ (n : Nat) (x : Tm) (pri : Int) (st : RSt), OkB (loopR L lv tm most n x pri st)
 | 0, x, pri, st => okb_ok _ _
 | n + 1, x, pri, st => by
  unfold loopR
  split
  · split
    · rename_i a e h; exact okb_at (ht _ _) h
    · split
      · rename_i a e h; exact okb_at (mk_okb _ _ _) h
      · exact loop_okb ht most n _ _ _
  · exact okb_ok _ _
end
theorem read_okb (L : List RT) (lv : Int) : ∀ (k : Nat) (most : Int) (st : RSt), OkB (readT L lv k most st) := fun k => by
 induction k using Nat.strongRecOn with
 | _ k ih =>
  match k, ih with
  | 0, _ => intro most st; rw [readT]; exact okb_bad _ (by decide)
  | 1, _ => intro most st; rw [readT]; exact okb_bad _ (by decide)
  | k + 2, ih =>
   intro most st
   simp only [readT]
   split
   · rename_i a e h; exact okb_at (first_okb (ih k (by omega)) _ _) h
   · exact loop_okb (ih (k + 1) (by omega)) _ _ _ _ _
theorem chk_range (lv : Int) (t : Tm) : 0 ≤ chkT lv t ∧ chkT lv t ≤ 7 := by
 unfold chkT
 split
 · decide
 · split
   · decide
   · split <;> decide
theorem readS_okb (L : List RT) (lv : Int) (i : Nat) : OkB (readS L lv i) := by
 unfold readS
 split
 · rename_i a e h; exact okb_at (read_okb _ _ _ _ _) h
 · rename_i x s2 h
   split
   · split
     · exact okb_ok _ _
     · rename_i hc
       have := chk_range lv x.1
       exact okb_bad _ (by omega)
   · exact okb_bad _ (by decide)
theorem pad32 : padB [32] := pad_blank (by decide)
end Go.Proofs.YtanhhihechakhaaGreatDoor.ReadP
set_option linter.unusedVariables false
set_option linter.unusedSimpArgs false
namespace Go.Proofs.YtanhhihechakhaaGreatDoor.ReadP
open Go.RowKit Go.Proofs.YtanhhihechakhaaGreatDoor.E Go.Proofs.YtanhhihechakhaaGreatDoor.ReplP Go.Proofs.YtanhhihechakhaaGreatDoor.TokP Go.Proofs.YtanhhihechakhaaGreatDoor.TermP Go.Proofs.YtanhhihechakhaaGreatDoor.WrP Go.Proofs.YtanhhihechakhaaGreatDoor.OpsP
section
variable {L : List RT} {lv : Int} {i : Nat} {t : RT} {r : List RT}
theorem dr_lt (h : L.drop i = t :: r) : i < L.length := by
 rcases Nat.lt_or_ge i L.length with h1 | h1
 · exact h1
 · rw [List.drop_eq_nil_of_le h1] at h; cases h
theorem dr_tok (h : L.drop i = t :: r) : tokA L i = t := by
 have hl := dr_lt h
 rw [List.drop_eq_getElem_cons hl] at h
 unfold tokA
 rw [List.getElem?_eq_getElem hl]
 exact (List.cons.inj h).1
theorem dr_next (h : L.drop i = t :: r) : L.drop (i + 1) = r := by
 have hl := dr_lt h
 rw [List.drop_eq_getElem_cons hl] at h
 exact (List.cons.inj h).2
def pT (t : RT) (c : List UInt8) : Bool := (t.kind == 4) && (t.str.data.toList == c)
theorem dr_p (h : L.drop i = t :: r) (c : List UInt8) : isP L i c = pT t c := by
 unfold isP pT
 rw [dr_tok h]
def goT (t : RT) (most pri : Int) : Bool := ((t.kind == 1) && !t.quo || pT t [44]) && ((refInfix t.str.data.toList).2.2.2 && decide ((refInfix t.str.data.toList).2.1 ≤ most) && decide (pri ≤ (refInfix t.str.data.toList).1))
theorem dr_goes (h : L.drop i = t :: r) (most pri : Int) (n : List ByteArray) : goesR L most pri ⟨i, n⟩ = goT t most pri := by
 unfold goesR goT
 rw [dr_p (i := i) h, dr_tok (i := i) h]
theorem loop_stop {tm : Rd} {most pri : Int} {st : RSt} (h : goesR L most pri st = false) (n : Nat) (x : Tm) : loopR L lv tm most n x pri st = .ok (x, pri) st := by
 cases n with
 | zero => rfl
 | succ m => unfold loopR; rw [if_neg (by rw [h]; decide)]
theorem read_first {k : Nat} {most : Int} {st s2 : RSt} {x : Tm} {p : Int} (h : firstR L lv (readT L lv k) most st = .ok (x, p) s2) (hg : goesR L most p s2 = false) : readT L lv (k + 2) most st = .ok (x, p) s2 := by
 simp only [readT]
 rw [h]
 exact loop_stop hg _ _
theorem first_num {tm : Rd} {most : Int} {n : List ByteArray} (h : L.drop i = t :: r) (hk : t.kind = 3) (h0 : 0 ≤ t.num) : firstR L lv tm most ⟨i, n⟩ = .ok (numT t.num, 0) ⟨i + 1, n⟩ := by
 unfold firstR
 rw [dr_tok (i := i) h, if_neg (fun h9 => by omega), if_pos hk]
 rfl
theorem first_var {tm : Rd} {most : Int} {n : List ByteArray} (h : L.drop i = t :: r) (hk : t.kind = 2) : firstR L lv tm most ⟨i, n⟩ = .ok ((varR t.str ⟨i + 1, n⟩).1, 0) (varR t.str ⟨i + 1, n⟩).2 := by
 unfold firstR
 rw [dr_tok (i := i) h, if_neg (fun h9 => by omega), if_neg (by omega), if_pos hk]
 rfl
theorem first_name {tm : Rd} {most : Int} {n : List ByteArray} (h : L.drop i = t :: r) (hk : t.kind = 1) : firstR L lv tm most ⟨i, n⟩ = nameR L lv tm t most ⟨i + 1, n⟩ := by
 unfold firstR
 rw [dr_tok (i := i) h, if_neg (fun h9 => by omega), if_neg (by omega), if_neg (by omega), if_pos hk]
 rfl
theorem first_list {tm : Rd} {most : Int} {n : List ByteArray} (h : L.drop i = t :: r) (hp : pT t [91] = true) : firstR L lv tm most ⟨i, n⟩ = mapR (·, 0) (listR L tm ⟨i + 1, n⟩) := by
 unfold pT at hp
 rw [Bool.and_eq_true, beq_iff_eq, beq_iff_eq] at hp
 have p1 : isP L i [40] = false := by
  rw [dr_p h]
  unfold pT
  rw [hp.2, hp.1]
  rfl
 have p2 : isP L i [91] = true := by
  rw [dr_p h]
  unfold pT
  rw [hp.2, hp.1]
  rfl
 unfold firstR
 rw [dr_tok (i := i) h, if_neg (fun h9 => by omega), if_neg (by omega), if_neg (by omega), if_neg (by omega), if_neg (by show ¬ isP L i [40] = true; rw [p1]; decide), if_pos p2]
 rfl
theorem name_atom {tm : Rd} {most : Int} {n : List ByteArray} {t u : RT} {r : List RT} (h : L.drop i = u :: r) (h1 : pT u [40] = false) (h2 : ¬ u.kind = 3) (h3 : beginsR u = false) : nameR L lv tm t most ⟨i, n⟩ = .ok (funT t.str [], 0) ⟨i, n⟩ := by
 have p1 : isP L i [40] = false := by rw [dr_p h]; exact h1
 unfold nameR
 rw [dr_tok (i := i) h, if_neg (fun h9 => by have := h9.2; rw [show isP L (⟨i, n⟩ : RSt).at_ [40] = false from p1] at this; cases this)]
 split
 · rfl
 · rw [if_neg (fun h9 => h2 h9.2.2), if_neg (fun h9 => by have := h9.2.2; rw [h3] at this; cases this)]
theorem name_minus {tm : Rd} {most : Int} {n : List ByteArray} {t u : RT} {r : List RT} (h : L.drop i = u :: r) (hq : t.quo = false) (hs : t.str.data.toList = [45]) (h1 : u.tight = true) (h2 : u.kind = 3) : nameR L lv tm t most ⟨i, n⟩ = .ok (numT (IntKind.i64.wrap (-u.num)), 0) ⟨i + 1, n⟩ := by
 have p1 : isP L i [40] = false := by rw [dr_p h]; unfold pT; rw [h2]; rfl
 unfold nameR
 rw [dr_tok (i := i) h, if_neg (fun h9 => by have := h9.2; rw [show isP L (⟨i, n⟩ : RSt).at_ [40] = false from p1] at this; cases this), if_neg (by rw [hq]; decide), if_pos ⟨hs, h1, h2⟩]
 rfl
theorem name_args {tm : Rd} {most : Int} {n : List ByteArray} {t u : RT} {r : List RT} {l : List Tm} {s2 : RSt} (h : L.drop i = u :: r) (h1 : u.tight = true) (h2 : pT u [40] = true) (ha : argsR L tm ⟨i + 1, n⟩ = .ok l s2) (hw : isP L s2.at_ [41] = true) : nameR L lv tm t most ⟨i, n⟩ = mapR (·, 0) (mkR lv t.str l (adv s2)) := by
 have p1 : isP L i [40] = true := by rw [dr_p h]; exact h2
 have e : wantR L [41] l s2 = .ok l (adv s2) := by unfold wantR; rw [if_pos hw]
 unfold nameR
 rw [dr_tok (i := i) h, if_pos ⟨h1, p1⟩]
 have ea : adv (⟨i, n⟩ : RSt) = ⟨i + 1, n⟩ := rfl
 rw [ea, ha]
 simp only
 rw [e]
theorem mk_fun {s : ByteArray} {l : List Tm} {st : RSt} (h : ¬ (s = atS ∧ l.length = 2)) : mkR lv s l st = .ok (funT s l) st := by
 unfold mkR
 split
 · rw [if_neg (fun h9 => h ⟨h9, rfl⟩)]
 · rfl
theorem more_one {tm : Rd} {n : Nat} {acc : List Tm} {st s2 : RSt} {x : Tm × Int} (hp : isP L st.at_ [44] = true) (hk : tm 999 (adv st) = .ok x s2) : moreR L tm (n + 1) acc st = moreR L tm n (acc ++ [x.1]) s2 := by
 conv => lhs; unfold moreR
 rw [if_pos hp, hk]
theorem more_stop {tm : Rd} {n : Nat} {acc : List Tm} {st : RSt} (hp : isP L st.at_ [44] = false) : moreR L tm n acc st = .ok acc st := by
 cases n with
 | zero => rfl
 | succ m => unfold moreR; rw [if_neg (by rw [hp]; decide)]
end
/-! a whole text that is one sentence -/
theorem whole_ok {lv : Int} {L : List RT} {x : Tm} {p : Int} {s2 : RSt} (h : readT L lv 60 1200 ⟨0, []⟩ = .ok (x, p) s2) (hk : (tokA L s2.at_).kind = 5) (hc : chkT lv x = 0) (hl : L.length = s2.at_ + 1) : Sents L lv 0 [x] :=
 .more (by omega) (readS_of (x := (x, p)) h hk hc) (.done (by show L.length ≤ s2.at_ + 1; omega))
/-! texts' tokens, as the reader sees them -/
def LxR (b : Bool) (l : List UInt8) (rs : List RT) : Prop := ∃ ts, Lx b l ts ∧ ts.map rtOf = rs
theorem lxr_nil (b : Bool) : LxR b [] [] := ⟨[], .done (by rw [skip_nil]; rfl), rfl⟩
theorem lxr_sp {b : Bool} {x : List UInt8} {rs : List RT} (h : LxR false x rs) : LxR b (32 :: x) rs := by
 obtain ⟨ts, h1, h2⟩ := h
 exact ⟨ts, lx_pad1 (p := [32]) pad32 (by decide) b h1, h2⟩
theorem lxr_tok {b : Bool} {c : UInt8} {x : List UInt8} {a : Ans} {y : List UInt8} {rs : List RT} (h37 : ¬ c = 37) (hb : blankB c = false) (ha : one1 (c :: x) = a) (he : errA a = none) (hd : (c :: x).drop a.used = y) (hk : LxR true y rs) : LxR b (c :: x) (⟨a.kind, a.str, a.num, a.quo, b⟩ :: rs) := by
 obtain ⟨ts, h1, h2⟩ := hk
 have hz := skip_zero (t := x) h37 hb
 subst hd
 have h3 := Lx.tok (b := b) (l := c :: x) (r := c :: x) (a := a) (ts := ts) (by rw [hz]; simp) (by rw [hz]; rfl) ha.symm he h1
 have e : (decide (skipN (c :: x) = 0) && b) = b := by rw [hz]; rfl
 rw [e] at h3
 exact ⟨_, h3, by rw [List.map_cons, h2]; rfl⟩
def pnR (c : UInt8) (b : Bool) : RT := ⟨4, ⟨#[c]⟩, 0, false, b⟩
theorem punct_kind : ∀ c ∈ punctL, ¬ c = 37 ∧ blankB c = false ∧ smallB c = false ∧ bigB c = false ∧ digitB c = false ∧ ((c.toNat : Int) == 39) = false := by decide
theorem lxr_punct {b : Bool} {c : UInt8} {x : List UInt8} {rs : List RT} (hc : c ∈ punctL) (hk : LxR true x rs) : LxR b (c :: x) (pnR c b :: rs) := by
 obtain ⟨h1, h2, h3, h4, h5, h6⟩ := punct_kind c hc
 have ha : one1 (c :: x) = .tok 4 ⟨#[c]⟩ 0 false 1 := by
  show oneC c (c :: x) = _
  unfold oneC
  rw [h3, h4, h5, h6, if_neg (by decide), if_neg (by decide), if_neg (by decide), if_neg (by decide), if_pos (by rw [List.contains_eq_mem, decide_eq_true_iff]; exact hc)]
  rfl
 exact lxr_tok h1 h2 ha rfl rfl hk
def endR (b : Bool) : RT := ⟨5, ⟨#[46]⟩, 0, false, b⟩
theorem lxr_end (b : Bool) : LxR b [46] [endR b] := by
 have ha : one1 [46] = .tok 5 ⟨#[46]⟩ 0 false 1 := by kernel_rfl
 exact lxr_tok (by decide) (by decide) ha (by decide) rfl (lxr_nil true)
def namR (l : List UInt8) (b : Bool) : RT := ⟨1, ⟨l.toArray⟩, 0, false, b⟩
theorem lxr_sign {b : Bool} {c : UInt8} {x : List UInt8} {rs : List RT} (hc : signB c = true) (h46 : ¬ c = 46) (hx : runB signB x = 0) (hk : LxR true x rs) : LxR b (c :: x) (namR [c] b :: rs) := by
 obtain ⟨k1, k2, k3, k4, k5, k6, k7, k8⟩ := sign_kind c hc
 have ha : one1 (c :: x) = .tok 1 ⟨#[c]⟩ 0 false 1 := by
  show oneC c (c :: x) = _
  unfold oneC
  rw [k1, k2, k3, k4, k5, k6, ends_blank h46, if_neg (by decide), if_neg (by decide), if_neg (by decide), if_neg (by decide), if_neg (by decide), if_neg (by decide), if_neg (by decide), if_pos hc, runB_yes hc, hx]
  rfl
 exact lxr_tok (fun h9 => by rw [h9] at k8; exact absurd k8 (by decide)) k7 ha rfl rfl hk
theorem allA_lxr {lv : Int} {t : List UInt8} {rs : List RT} {l : List Tm} (hl : t.length ≤ 4096) (hx : LxR false t rs) (hs : Sents rs lv 0 l) : allA lv t = .ok l := by
 obtain ⟨ts, h1, h2⟩ := hx
 subst h2
 exact allA_of hl h1 hs
theorem readS_bad {L : List RT} {lv : Int} {i : Nat} {a : Nat} {e : Int} (h : readT L lv 60 1200 ⟨i, []⟩ = .bad a e) : readS L lv i = .bad a e := by
 unfold readS
 rw [h]
end Go.Proofs.YtanhhihechakhaaGreatDoor.ReadP
set_option linter.unusedVariables false
set_option linter.unusedSimpArgs false
namespace Go.Proofs.YtanhhihechakhaaGreatDoor
open Go.RowKit Go.Proofs.YtanhhihechakhaaGreatDoor.E Go.Proofs.YtanhhihechakhaaGreatDoor.ReplP Go.Proofs.YtanhhihechakhaaGreatDoor.TokP Go.Proofs.YtanhhihechakhaaGreatDoor.TermP Go.Proofs.YtanhhihechakhaaGreatDoor.WrP Go.Proofs.YtanhhihechakhaaGreatDoor.ReadP Go.Proofs.YtanhhihechakhaaGreatDoor.OpsP
theorem read_tm (r bm : Nat) (A : Option Addr) (c : Nat) (L : List RT) (lv : Int) (hqN : ∀ x ∈ L, TokOk x) (hPW : ∀ i, preW L i ≤ 549755813888) (hL : L.length ≤ 1048576) : ∀ (k : Nat) (inn : Int), (inn + k = 60 ∨ k = 0 ∧ 60 ≤ inn) → 0 ≤ inn → inn ≤ 999000 → TmC r bm A c L lv inn (readT L lv k) := fun k => by
 induction k using Nat.strongRecOn with
 | _ k ih =>
  intro inn hk hi0 hi1 h st o vn most hT hat hnm hm
  exact term1_c r bm A c L lv h st inn o vn most _ (term_s r bm A c L lv h st inn o vn k hk hi0 hi1 ih most hqN hPW hT hL hat hnm hm)
theorem asFlt (a e : Int) (w : World) : (Instr.typeAssert (.iface 90 (.agg #[.int .i64 a, .int .i64 e])) 20 90 true).run Tryz.prog w = .ok (.tuple #[.agg #[.int .i64 a, .int .i64 e], .bool true]) w := by kernel_rfl
set_option maxRecDepth 100000 in
theorem read1p_c (b6 b7 b8 b9 : Nat) (x1 x2 x3 x4 v7 v8 v9 : Value) (a : Nat) (e : Int) (h : Hp) : CRD Tryz.prog 54 [.pointer (some ⟨b6, 0, none⟩), .pointer (some ⟨b7, 0, none⟩), .pointer (some ⟨b8, 0, none⟩), .pointer (some ⟨b9, 0, none⟩)] (.panicking [{ v := faultV 90 a e, recovered := false }]) (.panicking [{ v := faultV 90 a e, recovered := true }]) h [.blk b6 (.cells ([x1, x2, x3, x4] : List Value).toArray 24 (0, 0)), .blk b7 (.cells ([v7] : List Value).toArray 37 (0, 0)), .blk b8 (.cells ([v8] : List Value).toArray 3 (0, 0)), .blk b9 (.cells ([v9] : List Value).toArray 27 (0, 0))] (fun (_ : Unit) _ H' => H' = [.blk b6 (.cells ([.int .i64 0, .int .i64 0, .string ⟨#[]⟩, .slice none 0 0] : List Value).toArray 24 (0, 0)), .blk b7 (.cells ([.slice none 0 0] : List Value).toArray 37 (0, 0)), .blk b8 (.cells ([.int .i64 ((a : Nat) : Int)] : List Value).toArray 3 (0, 0)), .blk b9 (.cells ([.int .i64 e] : List Value).toArray 27 (0, 0))]) := by
 refine enterRec Tryz.func54 rfl rfl rfl rfl rfl (fun w hb0 => ?_)
 refine cy_seq ?_
 refine cy_region ?_
 refine sy_move rfl rfl rfl ?_
 refine sy_eqn Tryz.underlying20 rfl rfl rfl rfl rfl ?_
 refine sy_setT (d := 9) rfl rfl rfl ?_
 refine sy_nil rfl ?_
 refine ny_next ?_
 refine cy_condT rfl ?_
 refine cy_seq ?_
 refine cy_region ?_
 refine sy_move rfl rfl rfl ?_
 refine sy_assert rfl (fun w => asFlt _ _ w) rfl rfl ?_
 refine sy_move rfl rfl rfl ?_
 refine sy_extract rfl rfl rfl rfl ?_
 refine sy_extract rfl rfl rfl rfl ?_
 refine sy_setT (d := 14) rfl rfl rfl ?_
 refine sy_alloc zer_90 rfl rfl (fun b5 hb5 hM5 => ?_) (by first | exact hb0 | simp)
 refine sy_stl 0 sz_90 rfl rfl rfl rfl rfl rfl rfl rfl ?_
 refine sy_assign rfl rfl rfl ?_
 refine sy_nil rfl ?_
 refine ny_next ?_
 refine cy_seq ?_
 refine cy_seq ?_
 refine cy_region ?_
 refine sy_move rfl rfl rfl ?_
 refine sy_not rfl rfl rfl ?_
 refine sy_nil rfl ?_
 refine ny_next ?_
 refine cy_condF rfl ?_
 refine cy_skip ?_
 refine ny_next ?_
 refine cy_frz 0 rfl hM5 (fun h5 hle5 hb5x => ?_)
 refine cy_regionA mixed ?_
 refine zy_q 0 rfl (by kernel_rfl) (fun hB5_0 => ?_)
 refine sy_build rfl (fun w => bld_24_ w) rfl rfl ?_
 refine sy_nil1 (ny_zq hB5_0 ?_)
 refine zy_q 1 rfl (by kernel_rfl) (fun hB5_1 => ?_)
 refine sy_field fld_90_0 rfl rfl rfl ?_
 refine sy_nil1 (ny_zq hB5_1 ?_)
 refine zy_q 2 rfl (by kernel_rfl) (fun hB5_2 => ?_)
 refine sy_ldh one_3 rfl (Hp.blk hb5x 0 _ rfl) rfl rfl ?_
 refine sy_nil1 (ny_zq hB5_2 ?_)
 refine zy_q 3 rfl (by kernel_rfl) (fun hB5_3 => ?_)
 refine sy_field fld_90_1 rfl rfl rfl ?_
 refine sy_nil1 (ny_zq hB5_3 ?_)
 refine zy_q 4 rfl (by kernel_rfl) (fun hB5_4 => ?_)
 refine sy_ldh one_27 rfl (Hp.blk hb5x 1 _ rfl) rfl rfl ?_
 refine sy_nil1 (ny_zq hB5_4 ?_)
 refine zy_1 5 (by kernel_rfl) ?_
 refine zop_run rfl rfl (fun hB5_5 => ?_)
 refine sy_stl 0 sz_24 rfl rfl rfl rfl rfl rfl rfl rfl ?_
 refine sy_nil rfl (ny_zy hB5_5 (Hp.Le.refl _) ?_)
 refine zy_1 6 (by kernel_rfl) ?_
 refine zop_run rfl rfl (fun hB5_6 => ?_)
 refine sy_stl 1 sz_37 rfl rfl rfl rfl rfl rfl rfl rfl ?_
 refine sy_nil rfl (ny_zy hB5_6 (Hp.Le.refl _) ?_)
 refine zy_1 7 (by kernel_rfl) ?_
 refine zop_run rfl rfl (fun hB5_7 => ?_)
 refine sy_stl 2 sz_3 rfl rfl rfl rfl rfl rfl rfl rfl ?_
 refine sy_nil rfl (ny_zy hB5_7 (Hp.Le.refl _) ?_)
 refine zy_1 8 (by kernel_rfl) ?_
 refine zop_run rfl rfl (fun hB5_8 => ?_)
 refine sy_stl 3 sz_27 rfl rfl rfl rfl rfl rfl rfl rfl ?_
 refine sy_nil rfl (ny_zy hB5_8 (Hp.Le.refl _) ?_)
 refine zy_done (by kernel_rfl) ?_
 exact ny_fin (res0 rfl) (fun w hs => ⟨(), _, _, ⟨_, rfl⟩, rfl, hs.sel (is := [3, 2, 1, 0]) rfl⟩)
set_option maxRecDepth 100000 in
theorem read1n_c (b6 b7 b8 b9 : Nat) (h : Hp) (H : List Res) : CRD Tryz.prog 54 [.pointer (some ⟨b6, 0, none⟩), .pointer (some ⟨b7, 0, none⟩), .pointer (some ⟨b8, 0, none⟩), .pointer (some ⟨b9, 0, none⟩)] .returning .returning h H (fun (_ : Unit) _ H' => H' = H) := by
 refine enterRecN Tryz.func54 rfl rfl rfl rfl rfl (fun w hb0 => ?_)
 refine cy_seq ?_
 refine cy_region ?_
 refine sy_move rfl rfl rfl ?_
 refine sy_eqn Tryz.underlying20 rfl rfl rfl rfl rfl ?_
 refine sy_setF (d := 9) rfl rfl rfl ?_
 refine sy_nil rfl ?_
 refine ny_next ?_
 refine cy_condF rfl ?_
 refine cy_skip ?_
 exact ny_fin (res0 rfl) (fun w hs => ⟨(), _, _, ⟨_, rfl⟩, rfl, hs⟩)
abbrev RdA := GT × Value × Nat × Int
def RdP (L : List RT) (lv : Int) (i : Nat) (x : RdA) (h : Hp) : Prop := ((∃ s, readS L lv i = .ok x.1.tm s ∧ x.2.2.1 = s.at_ ∧ x.2.2.2 = 0) ∨ readS L lv i = .bad x.2.2.1 x.2.2.2) ∧ (Lies h x.1 ∧ Fits x.1)
theorem readS_no {L : List RT} {lv : Int} {i : Nat} {x : Tm × Int} {s2 : RSt} (h : readT L lv 60 1200 ⟨i, []⟩ = .ok x s2) (hk : ¬ (tokA L s2.at_).kind = 5) : readS L lv i = .bad s2.at_ 4 := by
 unfold readS
 rw [h]
 simp only
 rw [if_neg hk]
theorem readS_chk {L : List RT} {lv : Int} {i : Nat} {x : Tm × Int} {s2 : RSt} (h : readT L lv 60 1200 ⟨i, []⟩ = .ok x s2) (hk : (tokA L s2.at_).kind = 5) (hc : ¬ chkT lv x.1 = 0) : readS L lv i = .bad (s2.at_ + 1) (chkT lv x.1) := by
 unfold readS
 rw [h]
 simp only
 rw [if_pos hk, if_neg hc]
theorem lies_zero (h : Hp) : Lies h (GT.mk 0 0 ⟨#[]⟩ none 0 []) ∧ Fits (GT.mk 0 0 ⟨#[]⟩ none 0 []) := ⟨lies_leaf _ _ _ _, fits_leaf (by decide) (by decide) (by decide) (by decide) (by decide)⟩
theorem fldTok (k n : Int) (s : ByteArray) (q t : Bool) (w : World) : (Instr.field 79 (.agg #[.int .i64 k, .string s, .int .i64 n, .bool q, .bool t]) 0).run Tryz.prog w = .ok (.int .i64 k) w := by kernel_rfl
set_option maxRecDepth 100000 in
theorem read_c (A : Option Addr) (c : Nat) (L : List RT) (lv : Int) (i : Nat) (h : Hp) (hT : RowsAt h A 5 (L.map rtC)) (hL : L.length ≤ 1048576) (hqN : ∀ x ∈ L, TokOk x) (hPW : ∀ i, preW L i ≤ 549755813888) (hi : i ≤ L.length) : CX Tryz.prog 36 [.slice A L.length c, .int .i64 ((i : Nat) : Int), .int .i64 lv] h (fun x : RdA => .tuple #[.agg (GT.cells x.1).toArray, x.2.1, .int .i64 ((x.2.2.1 : Nat) : Int), .int .i64 x.2.2.2]) (RdP L lv i) := by
 refine enterXD Tryz.func36 rfl rfl rfl (fun w => ?_)
 refine cy_seq ?_
 refine cy_region ?_
 refine sy_alloc zer_24 rfl rfl (fun b6 hb6 hM6 => ?_) (by simp)
 refine sy_alloc zer_37 rfl rfl (fun b7 hb7 hM7 => ?_) (by simp)
 refine sy_alloc zer_3 rfl rfl (fun b8 hb8 hM8 => ?_) (by simp)
 refine sy_alloc zer_27 rfl rfl (fun b9 hb9 hM9 => ?_) (by simp)
 refine sy_nil rfl ?_
 refine ny_next ?_
 refine cy_seq ?_
 refine cy_seq ?_
 refine cy_region ?_
 refine sy_move rfl rfl rfl ?_
 refine sy_cmp rfl rfl rfl rfl rfl ?_
 refine sy_setF (d := 14) rfl rfl (decide_eq_false (by omega)) ?_
 refine sy_move rfl rfl rfl ?_
 refine sy_move rfl rfl rfl ?_
 refine sy_move rfl rfl rfl ?_
 refine sy_len rfl (len_slice Tryz.underlying58 _ _ _) rfl rfl ?_
 refine sy_cmp rfl rfl rfl rfl rfl ?_
 refine sy_setF (d := 19) rfl rfl (decide_eq_false (by omega)) ?_
 refine sy_pickF rfl rfl rfl rfl ?_
 refine sy_nil rfl ?_
 refine ny_next ?_
 refine cy_condF rfl ?_
 refine cy_skip ?_
 refine ny_next ?_
 refine cy_seq ?_
 refine cy_region ?_
 refine sy_move rfl rfl rfl ?_
 refine sy_move rfl rfl rfl ?_
 refine sy_move rfl rfl rfl ?_
 refine sy_makeMap (k := 9) (e := 3) rfl rfl (fun bm o25 hbm hMm hm25 => ?_) (by simp)
 refine sy_build rfl (fun w => bld_88_0x1x2x4 w) rfl rfl ?_
 refine sy_box rfl rfl rfl rfl (fun r hb27 hM27 => ?_) (by simp)
 refine sy_assign rfl rfl rfl ?_
 refine sy_nil rfl ?_
 refine ny_next ?_
 refine cy_seq ?_
 refine cy_region ?_
 refine sy_bind (s := 0) rfl rfl rfl rfl ?_
 refine sy_deferC (caps := [.pointer (some ⟨b6, 0, none⟩), .pointer (some ⟨b7, 0, none⟩), .pointer (some ⟨b8, 0, none⟩), .pointer (some ⟨b9, 0, none⟩)]) rfl rfl rfl ?_
 refine sy_nil rfl ?_
 refine ny_next ?_
 refine cy_seq ?_
 refine cy_nilRow 9 1 ?_
 refine cy_region ?_
 refine sy_move rfl rfl rfl ?_
 refine sy_callRO [1, 1, 0] call_55 rfl rfl (read_tm r bm A c L lv hqN hPW hL 60 0 (.inl rfl) (by decide) (by decide) _ ⟨i, []⟩ o25 (.slice none 0 0) 1200 hT hi (Nat.zero_le _) hm25) rfl rfl (fun a30 e30 h30x H30x hb30 hx30 hle30x => ?_) (fun x30 s30 g30 h30x H30x hk30 hx30 hle30x => ?_)
 · obtain ⟨a9, i9, o9, v9, n9, rfl⟩ := hx30
   refine ny_thenP ?_
   refine ny_finUP (lvU_cons [6, 5, 4, 3] call_54 rfl (by intro h9; cases h9) (read1p_c b6 b7 b8 b9 _ _ _ _ _ _ _ _ _ _) (fun _ h9y H9y hx9y hle9y => ?_))
   subst hx9y
   exact lvU_ret (resc4 0 1 2 3 rfl agg_24 one_37 one_3 one_27 rfl rfl rfl rfl rfl rfl rfl rfl rfl) (fun w9 hs => ⟨((GT.mk 0 0 ⟨#[]⟩ none 0 []), .slice none 0 0, a30, e30), h9y, rfl, ⟨.inr (readS_bad hb30), lies_zero _⟩, hs.toGrow⟩)
 · obtain ⟨hg30, hl30, hm30, rfl⟩ := hx30
   replace hg30 : g30.1.tm = x30.1 := hg30
   have hfw := read_fwd L lv 60 1200 ⟨i, []⟩ x30 s30 hi hk30
   have hww := read_wt L lv 60 1200 ⟨i, []⟩ x30 s30 hi hk30
   have hpw := hPW s30.at_
   have hT30 := hT.le hle30x
   refine sy_alloc zer_24 rfl rfl (fun b11 hb11 hM11 => ?_) (by simp)
   refine sy_stl 0 sz_24 rfl rfl rfl rfl rfl rfl rfl rfl ?_
   refine sy_nil rfl ?_
   refine ny_next ?_
   refine cy_seq ?_
   refine cy_seq ?_
   refine cy_region ?_
   refine sy_move rfl rfl rfl ?_
   refine sy_callR1 [1] call_56 rfl rfl (peek_c r bm A c L lv _ hT30 hL s30 0 g30.2.2 hfw.2.1) rfl rfl (fun x32 h32x H32x hx32 hle32x => ?_)
   obtain ⟨rfl, rfl⟩ := hx32
   refine sy_fieldv rfl (fun w => fldTok _ _ _ _ _ w) rfl rfl ?_
   refine sy_cmp rfl rfl rfl rfl rfl ?_
   refine sy_nil rfl ?_
   refine ny_next ?_
   refine cy_cond rfl (fun hc34 => ?_) (fun hc34 => ?_)
   · have hn34 : ¬ (tokA L s30.at_).kind = 5 := by simpa using hc34
     refine cy_region ?_
     refine sy_move rfl rfl rfl ?_
     refine sy_callR [0] call_57 rfl rfl (rbad_c r bm A c L lv _ hT30 hL s30 0 g30.2.2 hfw.2.1 4) rfl rfl (fun x36 h36x H36x hx36 hle36x => ?_)
     obtain ⟨rfl, rfl⟩ := hx36
     refine ny_thenP ?_
     refine ny_finUP (lvU_cons [7, 6, 5, 4] call_54 rfl (by intro h9; cases h9) (read1p_c b6 b7 b8 b9 _ _ _ _ _ _ _ _ _ _) (fun _ h9y H9y hx9y hle9y => ?_))
     subst hx9y
     exact lvU_ret (resc4 0 1 2 3 rfl agg_24 one_37 one_3 one_27 rfl rfl rfl rfl rfl rfl rfl rfl rfl) (fun w9 hs => ⟨((GT.mk 0 0 ⟨#[]⟩ none 0 []), .slice none 0 0, s30.at_, 4), h9y, rfl, ⟨.inr (readS_no hk30 hn34), lies_zero _⟩, hs.toGrow⟩)
   · have hn34 : (tokA L s30.at_).kind = 5 := by simpa using hc34
     have hlt := tok_lt (L := L) (i := s30.at_) (by rw [hn34]; decide)
     refine cy_skip ?_
     refine ny_next ?_
     refine cy_seq ?_
     refine cy_region ?_
     refine sy_move rfl rfl rfl ?_
     refine sy_nilCheck rfl rfl rfl ?_
     refine sy_field fld_88_1 rfl rfl rfl ?_
     refine sy_ldr 0 one_3 rfl rfl rfl rfl rfl ?_
     refine sy_addi (z := ((s30.at_ + 1 : Nat) : Int)) rfl rfl (by omega) (by omega) (by omega) rfl rfl ?_
     refine sy_nilCheck rfl rfl rfl ?_
     refine sy_field fld_88_1 rfl rfl rfl ?_
     refine sy_stl 0 sz_3 rfl rfl rfl rfl rfl rfl rfl rfl ?_
     refine sy_nil rfl ?_
     refine ny_next ?_
     refine cy_seq ?_
     refine cy_seq ?_
     refine cy_region ?_
     refine sy_ldar 1 agg_24 rfl rfl rfl rfl rfl ?_
     refine sy_move rfl rfl rfl ?_
     refine sy_call rfl call_11 rfl (check_c g30.1 lv _ hl30.1 hl30.2 (by rw [wtG_tm, hg30]; omega)) rfl rfl ?_
     refine sy_assign rfl rfl rfl ?_
     refine sy_nil rfl ?_
     refine ny_next ?_
     refine cy_seq ?_
     refine cy_region ?_
     refine sy_move rfl rfl rfl ?_
     refine sy_cmp rfl rfl rfl rfl rfl ?_
     refine sy_nil rfl ?_
     refine ny_next ?_
     refine cy_cond rfl (fun hc48 => ?_) (fun hc48 => ?_)
     · have hn48 : ¬ chkT lv x30.1 = 0 := by rw [← hg30]; simpa using hc48
       refine cy_region ?_
       refine sy_move rfl rfl rfl ?_
       refine sy_move rfl rfl rfl ?_
       refine sy_callR [0] call_57 rfl rfl (rbad_c r bm A c L lv _ hT30 hL (adv s30) 0 g30.2.2 (by show s30.at_ + 1 ≤ _; omega) (chkT lv g30.1.tm)) rfl rfl (fun x51 h51x H51x hx51 hle51x => ?_)
       obtain ⟨rfl, rfl⟩ := hx51
       refine ny_thenP ?_
       refine ny_finUP (lvU_cons [7, 6, 5, 4] call_54 rfl (by intro h9; cases h9) (read1p_c b6 b7 b8 b9 _ _ _ _ _ _ _ _ _ _) (fun _ h9y H9y hx9y hle9y => ?_))
       subst hx9y
       exact lvU_ret (resc4 0 1 2 3 rfl agg_24 one_37 one_3 one_27 rfl rfl rfl rfl rfl rfl rfl rfl rfl) (fun w9 hs => ⟨((GT.mk 0 0 ⟨#[]⟩ none 0 []), .slice none 0 0, (s30.at_ + 1), (chkT lv g30.1.tm)), h9y, rfl, ⟨.inr (by rw [hg30]; exact readS_chk hk30 hn34 hn48), lies_zero _⟩, hs.toGrow⟩)
     · have hn48 : chkT lv g30.1.tm = 0 := by simpa using hc48
       refine cy_skip ?_
       refine ny_next ?_
       refine cy_seq ?_
       refine cy_rowform 3 rfl (fun A12 c12 hv12 => ?_)
       obtain ⟨g30a, o30, v30⟩ := g30
       simp only at hv12 hg30 hl30 hm30 hn48
       subst hv12
       refine cy_frz 1 rfl (by simp) (fun h11 hle11 hb11x => ?_)
       refine cy_frz 0 rfl (by simp) (fun h27 hle27 hb27x => ?_)
       replace hb11x := hle27 _ _ hb11x
       refine cy_regionA mixed ?_
       refine zy_q 0 rfl (by kernel_rfl) (fun hB12_0 => ?_)
       refine sy_ldah (vs := GT.cells g30a) agg_24 rfl rfl (Hp.blk hb11x) rfl rfl ?_
       refine sy_nil1 (ny_zq hB12_0 ?_)
       refine zy_q 1 rfl (by kernel_rfl) (fun hB12_1 => ?_)
       refine sy_move rfl rfl rfl ?_
       refine sy_nil1 (ny_zq hB12_1 ?_)
       refine zy_q 2 rfl (by kernel_rfl) (fun hB12_2 => ?_)
       refine sy_nilCheck rfl rfl rfl ?_
       refine sy_nil1 (ny_zq hB12_2 ?_)
       refine zy_q 3 rfl (by kernel_rfl) (fun hB12_3 => ?_)
       refine sy_field fld_88_5 rfl rfl rfl ?_
       refine sy_nil1 (ny_zq hB12_3 ?_)
       refine zy_q 4 rfl (by kernel_rfl) (fun hB12_4 => ?_)
       refine sy_ldh one_37 rfl (Hp.blk hb27x 5 _ rfl) rfl rfl ?_
       refine sy_nil1 (ny_zq hB12_4 ?_)
       refine zy_q 5 rfl (by kernel_rfl) (fun hB12_5 => ?_)
       refine sy_move rfl rfl rfl ?_
       refine sy_nil1 (ny_zq hB12_5 ?_)
       refine zy_q 6 rfl (by kernel_rfl) (fun hB12_6 => ?_)
       refine sy_nilCheck rfl rfl rfl ?_
       refine sy_nil1 (ny_zq hB12_6 ?_)
       refine zy_q 7 rfl (by kernel_rfl) (fun hB12_7 => ?_)
       refine sy_field fld_88_1 rfl rfl rfl ?_
       refine sy_nil1 (ny_zq hB12_7 ?_)
       refine zy_q 8 rfl (by kernel_rfl) (fun hB12_8 => ?_)
       refine sy_ldh one_3 rfl (Hp.blk hb27x 1 _ rfl) rfl rfl ?_
       refine sy_nil1 (ny_zq hB12_8 ?_)
       refine zy_1 9 (by kernel_rfl) ?_
       refine zop_run rfl rfl (fun hB12_9 => ?_)
       refine sy_stl 5 sz_24 rfl rfl rfl rfl rfl rfl rfl rfl ?_
       refine sy_nil rfl (ny_zy hB12_9 (Hp.Le.refl _) ?_)
       refine zy_1 10 (by kernel_rfl) ?_
       refine zop_run rfl rfl (fun hB12_10 => ?_)
       refine sy_stl 5 sz_37 rfl rfl rfl rfl rfl rfl rfl rfl ?_
       refine sy_nil rfl (ny_zy hB12_10 (Hp.Le.refl _) ?_)
       refine zy_1 11 (by kernel_rfl) ?_
       refine zop_run rfl rfl (fun hB12_11 => ?_)
       refine sy_stl 5 sz_3 rfl rfl rfl rfl rfl rfl rfl rfl ?_
       refine sy_nil rfl (ny_zy hB12_11 (Hp.Le.refl _) ?_)
       refine zy_1 12 (by kernel_rfl) ?_
       refine zop_run rfl rfl (fun hB12_12 => ?_)
       refine sy_stl 5 sz_27 rfl rfl rfl rfl rfl rfl rfl rfl ?_
       refine sy_nil rfl (ny_zy hB12_12 (Hp.Le.refl _) ?_)
       refine zy_done (by kernel_rfl) ?_
       refine ny_next ?_
       refine cy_ret ?_
       refine ny_finUR (lvU_cons [] call_54 rfl (by intro h9; cases h9) (read1n_c b6 b7 b8 b9 _ []) (fun _ h9y H9y hx9y hle9y => ?_))
       subst hx9y
       exact lvU_ret (resc4 3 2 1 0 rfl agg_24 one_37 one_3 one_27 rfl rfl rfl rfl rfl rfl rfl rfl rfl) (fun w9 hs => ⟨(g30a, .slice A12 s30.names.length c12, s30.at_ + 1, 0), h9y, rfl, ⟨.inl ⟨adv s30, (by show readS L lv i = .ok g30a.tm _; rw [hg30]; exact readS_of hk30 hn34 (by rw [← hg30]; exact hn48)), rfl, rfl⟩, ((hl30.1.le hle11).le hle27).le hle9y, hl30.2⟩, hs.toGrow⟩)
end Go.Proofs.YtanhhihechakhaaGreatDoor
set_option linter.unusedVariables false
namespace Go.Proofs.YtanhhihechakhaaGreatDoor
open Go.RowKit Go.Proofs.YtanhhihechakhaaGreatDoor.E
theorem agg_110 : aggB Tryz.prog 110 3 = true := by kernel_rfl
theorem call_52 : callB Tryz.prog 52 = true := by kernel_rfl
theorem call_53 : callB Tryz.prog 53 = true := by kernel_rfl
theorem call_78 : callB Tryz.prog 78 = true := by kernel_rfl
theorem call_82 : callB Tryz.prog 82 = true := by kernel_rfl
theorem fld_100_1 : fldB Tryz.prog 100 1 1 = true := by kernel_rfl
theorem one_105 : oneB Tryz.prog 105 = true := by kernel_rfl
theorem sz_110 : szB Tryz.prog 110 3 = true := by kernel_rfl
theorem zer_110 : zerL Tryz.prog 110 = some [.pointer none, .pointer none, .int .u64 0] := by kernel_rfl
end Go.Proofs.YtanhhihechakhaaGreatDoor
set_option linter.unusedVariables false
set_option linter.unusedSimpArgs false
namespace Go.Proofs.YtanhhihechakhaaGreatDoor
open Go.RowKit Go.Extern.Stop Go.Stop Go.Extern Go.Proofs.YtanhhihechakhaaGreatDoor.E
theorem typeOfRef (v : Value) (w : World) : (ReflectliteType.typeOf #[.iface 100 v]).run Tryz.prog w = .ok (.iface 125 (.agg #[.pointer (some ⟨5, 100, none⟩)])) w := by kernel_rfl
theorem tofRef (v : Value) (w : World) : (callFunc 77 #[.iface 100 v]).run Tryz.prog w = .ok (.value (.iface 125 (.agg #[.pointer (some ⟨5, 100, none⟩)]))) w := ext_run (e := ReflectliteType.typeOf) Tryz.func77 (by kernel_rfl) (by kernel_rfl) (by kernel_rfl) (by kernel_rfl) (typeOfRef v w)
theorem typeOfE (v : Value) (w : World) : (ReflectliteType.typeOf #[.iface 27 v]).run Tryz.prog w = .ok (.iface 125 (.agg #[.pointer (some ⟨5, 27, none⟩)])) w := by kernel_rfl
theorem tofE (v : Value) (w : World) : (callFunc 77 #[.iface 27 v]).run Tryz.prog w = .ok (.value (.iface 125 (.agg #[.pointer (some ⟨5, 27, none⟩)]))) w := ext_run (e := ReflectliteType.typeOf) Tryz.func77 (by kernel_rfl) (by kernel_rfl) (by kernel_rfl) (by kernel_rfl) (typeOfE v w)
theorem unpackP (t : Addr) (w : World) : (ReflectliteValue.unpack (.iface 84 (.pointer (some t)))).run Tryz.prog w = .ok (.agg #[.pointer (some ⟨5, 84, none⟩), .pointer (some ⟨w.heap.size, 0, none⟩), .int .u64 150]) (w.alloc (.cells #[.pointer (some t)] 84)) := by kernel_rfl
theorem vofP (t : Addr) (w : World) : (callFunc 79 #[.iface 84 (.pointer (some t))]).run Tryz.prog w = .ok (.value (.agg #[.pointer (some ⟨5, 84, none⟩), .pointer (some ⟨w.heap.size, 0, none⟩), .int .u64 150])) (w.alloc (.cells #[.pointer (some t)] 84)) := ext_run (e := (fun args => ReflectliteValue.unpack (args.getD 0 (.tuple #[])))) Tryz.func79 (by kernel_rfl) (by kernel_rfl) (by kernel_rfl) (by kernel_rfl) (unpackP t w)
theorem unpackE (x : Int) (w : World) : (ReflectliteValue.unpack (.iface 27 (.int .i64 x))).run Tryz.prog w = .ok (.agg #[.pointer (some ⟨5, 27, none⟩), .pointer (some ⟨w.heap.size, 0, none⟩), .int .u64 130]) (w.alloc (.cells #[.int .i64 x] 27)) := by kernel_rfl
theorem vofE (x : Int) (w : World) : (callFunc 79 #[.iface 27 (.int .i64 x)]).run Tryz.prog w = .ok (.value (.agg #[.pointer (some ⟨5, 27, none⟩), .pointer (some ⟨w.heap.size, 0, none⟩), .int .u64 130])) (w.alloc (.cells #[.int .i64 x] 27)) := ext_run (e := (fun args => ReflectliteValue.unpack (args.getD 0 (.tuple #[])))) Tryz.func79 (by kernel_rfl) (by kernel_rfl) (by kernel_rfl) (by kernel_rfl) (unpackE x w)
theorem typeP (a : Addr) (w : World) : (ReflectliteValue.methodAny (ReflectliteValue.valueError "reflectlite.Value.Type" 0) (fun t _ _ _ => ReflectliteType.toType t) #[.agg #[.pointer (some ⟨5, 84, none⟩), .pointer (some a), .int .u64 150]]).run Tryz.prog w = .ok (.iface 125 (.agg #[.pointer (some ⟨5, 84, none⟩)])) w := by kernel_rfl
theorem typP (a : Addr) (w : World) : (callFunc 80 #[.agg #[.pointer (some ⟨5, 84, none⟩), .pointer (some a), .int .u64 150]]).run Tryz.prog w = .ok (.value (.iface 125 (.agg #[.pointer (some ⟨5, 84, none⟩)]))) w := ext_run (e := (ReflectliteValue.methodAny (ReflectliteValue.valueError "reflectlite.Value.Type" 0) (fun t _ _ _ => ReflectliteType.toType t))) Tryz.func80 (by kernel_rfl) (by kernel_rfl) (by kernel_rfl) (by kernel_rfl) (typeP a w)
theorem mKindP (w : World) : (Go.method (Tryz.prog.types.size + Made.depth) 125 (.agg #[.pointer (some ⟨5, 84, none⟩)]) "Kind").run Tryz.prog w = .ok (174, .pointer (some ⟨5, 84, none⟩)) w := by kernel_rfl
theorem eKindP (w : World) : ((ReflectliteType.abiMethod fun t => do pure (.int .u8 (← Rtype.kind t))) #[.pointer (some ⟨5, 84, none⟩)]).run Tryz.prog w = .ok (.int .u8 22) w := by kernel_rfl
theorem cKindP (w : World) : (callMethod (.iface 125 (.agg #[.pointer (some ⟨5, 84, none⟩)])) "Kind" #[]).run Tryz.prog w = .ok (.value (.int .u8 22)) w := met_run (mKindP w) (ext_run (e := (ReflectliteType.abiMethod fun t => do pure (.int .u8 (← Rtype.kind t)))) Tryz.func174 (by kernel_rfl) (by kernel_rfl) (by kernel_rfl) (by kernel_rfl) (eKindP w))
theorem mKindE (w : World) : (Go.method (Tryz.prog.types.size + Made.depth) 125 (.agg #[.pointer (some ⟨5, 27, none⟩)]) "Kind").run Tryz.prog w = .ok (174, .pointer (some ⟨5, 27, none⟩)) w := by kernel_rfl
theorem eKindE (w : World) : ((ReflectliteType.abiMethod fun t => do pure (.int .u8 (← Rtype.kind t))) #[.pointer (some ⟨5, 27, none⟩)]).run Tryz.prog w = .ok (.int .u8 2) w := by kernel_rfl
theorem cKindE (w : World) : (callMethod (.iface 125 (.agg #[.pointer (some ⟨5, 27, none⟩)])) "Kind" #[]).run Tryz.prog w = .ok (.value (.int .u8 2)) w := met_run (mKindE w) (ext_run (e := (ReflectliteType.abiMethod fun t => do pure (.int .u8 (← Rtype.kind t)))) Tryz.func174 (by kernel_rfl) (by kernel_rfl) (by kernel_rfl) (by kernel_rfl) (eKindE w))
theorem mElem (w : World) : (Go.method (Tryz.prog.types.size + Made.depth) 125 (.agg #[.pointer (some ⟨5, 84, none⟩)]) "Elem").run Tryz.prog w = .ok (187, .agg #[.pointer (some ⟨5, 84, none⟩)]) w := by kernel_rfl
theorem eElem (w : World) : ((ReflectliteType.method ReflectliteType.elem) #[.agg #[.pointer (some ⟨5, 84, none⟩)]]).run Tryz.prog w = .ok (.iface 125 (.agg #[.pointer (some ⟨5, 27, none⟩)])) w := by kernel_rfl
theorem cElem (w : World) : (callMethod (.iface 125 (.agg #[.pointer (some ⟨5, 84, none⟩)])) "Elem" #[]).run Tryz.prog w = .ok (.value (.iface 125 (.agg #[.pointer (some ⟨5, 27, none⟩)]))) w := met_run (mElem w) (ext_run (e := (ReflectliteType.method ReflectliteType.elem)) Tryz.func187 (by kernel_rfl) (by kernel_rfl) (by kernel_rfl) (by kernel_rfl) (eElem w))
theorem mImp (w : World) : (Go.method (Tryz.prog.types.size + Made.depth) 125 (.agg #[.pointer (some ⟨5, 27, none⟩)]) "Implements").run Tryz.prog w = .ok (188, .agg #[.pointer (some ⟨5, 27, none⟩)]) w := by kernel_rfl
theorem eImp (w : World) : ((ReflectliteType.relation "Implements" ReflectliteType.implements_) #[.agg #[.pointer (some ⟨5, 27, none⟩)], .iface 125 (.agg #[.pointer (some ⟨5, 60, none⟩)])]).run Tryz.prog w = .ok (.bool true) w := by kernel_rfl
theorem cImp (w : World) : (callMethod (.iface 125 (.agg #[.pointer (some ⟨5, 27, none⟩)])) "Implements" #[.iface 125 (.agg #[.pointer (some ⟨5, 60, none⟩)])]).run Tryz.prog w = .ok (.value (.bool true)) w := met_run (mImp w) (ext_run (e := (ReflectliteType.relation "Implements" ReflectliteType.implements_)) Tryz.func188 (by kernel_rfl) (by kernel_rfl) (by kernel_rfl) (by kernel_rfl) (eImp w))
theorem mAssR (w : World) : (Go.method (Tryz.prog.types.size + Made.depth) 125 (.agg #[.pointer (some ⟨5, 100, none⟩)]) "AssignableTo").run Tryz.prog w = .ok (185, .agg #[.pointer (some ⟨5, 100, none⟩)]) w := by kernel_rfl
theorem eAssR (w : World) : ((ReflectliteType.relation "AssignableTo" ReflectliteType.assignableTo) #[.agg #[.pointer (some ⟨5, 100, none⟩)], .iface 125 (.agg #[.pointer (some ⟨5, 27, none⟩)])]).run Tryz.prog w = .ok (.bool false) w := by kernel_rfl
theorem cAssR (w : World) : (callMethod (.iface 125 (.agg #[.pointer (some ⟨5, 100, none⟩)])) "AssignableTo" #[.iface 125 (.agg #[.pointer (some ⟨5, 27, none⟩)])]).run Tryz.prog w = .ok (.value (.bool false)) w := met_run (mAssR w) (ext_run (e := (ReflectliteType.relation "AssignableTo" ReflectliteType.assignableTo)) Tryz.func185 (by kernel_rfl) (by kernel_rfl) (by kernel_rfl) (by kernel_rfl) (eAssR w))
theorem mAssE (w : World) : (Go.method (Tryz.prog.types.size + Made.depth) 125 (.agg #[.pointer (some ⟨5, 27, none⟩)]) "AssignableTo").run Tryz.prog w = .ok (185, .agg #[.pointer (some ⟨5, 27, none⟩)]) w := by kernel_rfl
theorem eAssE (w : World) : ((ReflectliteType.relation "AssignableTo" ReflectliteType.assignableTo) #[.agg #[.pointer (some ⟨5, 27, none⟩)], .iface 125 (.agg #[.pointer (some ⟨5, 27, none⟩)])]).run Tryz.prog w = .ok (.bool true) w := by kernel_rfl
theorem cAssE (w : World) : (callMethod (.iface 125 (.agg #[.pointer (some ⟨5, 27, none⟩)])) "AssignableTo" #[.iface 125 (.agg #[.pointer (some ⟨5, 27, none⟩)])]).run Tryz.prog w = .ok (.value (.bool true)) w := met_run (mAssE w) (ext_run (e := (ReflectliteType.relation "AssignableTo" ReflectliteType.assignableTo)) Tryz.func185 (by kernel_rfl) (by kernel_rfl) (by kernel_rfl) (by kernel_rfl) (eAssE w))
theorem mCmp (w : World) : (Go.method (Tryz.prog.types.size + Made.depth) 125 (.agg #[.pointer (some ⟨5, 27, none⟩)]) "Comparable").run Tryz.prog w = .ok (186, .agg #[.pointer (some ⟨5, 27, none⟩)]) w := by kernel_rfl
theorem eCmp (w : World) : ((ReflectliteType.method fun t => do Rtype.noPackHeld "Comparable" t; pure (.bool (← typeInfo t).comparable)) #[.agg #[.pointer (some ⟨5, 27, none⟩)]]).run Tryz.prog w = .ok (.bool true) w := by kernel_rfl
theorem cCmp (w : World) : (callMethod (.iface 125 (.agg #[.pointer (some ⟨5, 27, none⟩)])) "Comparable" #[]).run Tryz.prog w = .ok (.value (.bool true)) w := met_run (mCmp w) (ext_run (e := (ReflectliteType.method fun t => do Rtype.noPackHeld "Comparable" t; pure (.bool (← typeInfo t).comparable))) Tryz.func186 (by kernel_rfl) (by kernel_rfl) (by kernel_rfl) (by kernel_rfl) (eCmp w))
theorem rlm (z : Sem Value) (f : TypeId → Addr → Nat → Nat → Sem Value) (v : Value) : ReflectliteValue.method z f #[v] = (do match ← ReflectliteValue.parts v with | none => z | some (t, a, fl) => f t a fl (fl % 32)) := rfl
theorem partsP (a : Addr) (w : World) : (ReflectliteValue.parts (.agg #[.pointer (some ⟨5, 84, none⟩), .pointer (some a), .int .u64 150])).run Tryz.prog w = .ok (some (84, a, 150)) w := by kernel_rfl
theorem partsE (a : Addr) (w : World) : (ReflectliteValue.parts (.agg #[.pointer (some ⟨5, 27, none⟩), .pointer (some a), .int .u64 130])).run Tryz.prog w = .ok (some (27, a, 130)) w := by kernel_rfl
theorem partsEa (a : Addr) (w : World) : (ReflectliteValue.parts (.agg #[.pointer (some ⟨5, 27, none⟩), .pointer (some a), .int .u64 386])).run Tryz.prog w = .ok (some (27, a, 386)) w := by kernel_rfl
theorem isNilP (a p : Addr) (W : World) (ha : W.cell? a = some (.pointer (some p))) : (ReflectliteValue.method (ReflectliteValue.valueError "reflectlite.Value.IsNil" 0) ReflectliteValue.isNil #[.agg #[.pointer (some ⟨5, 84, none⟩), .pointer (some a), .int .u64 150]]).run Tryz.prog W = .ok (.bool false) W := by
 rw [rlm]
 simp only [Sem.run_bind, partsP, Result.andThen]
 simp [ReflectliteValue.isNil, loadVar, isAgg, underlying, Tryz.underlying84, ha, Result.andThen]
theorem nilP (a p : Addr) (w : World) (ha : w.cell? a = some (.pointer (some p))) : (callFunc 81 #[.agg #[.pointer (some ⟨5, 84, none⟩), .pointer (some a), .int .u64 150]]).run Tryz.prog w = .ok (.value (.bool false)) w := ext_run (e := (ReflectliteValue.method (ReflectliteValue.valueError "reflectlite.Value.IsNil" 0) ReflectliteValue.isNil)) Tryz.func81 (by kernel_rfl) (by kernel_rfl) (by kernel_rfl) (by kernel_rfl) (isNilP a p w ha)
theorem elemOfP (w : World) : (Rtype.elem? 84).run Tryz.prog w = .ok (some 27) w := by kernel_rfl
theorem mkE (p : Addr) (w : World) : (ReflectliteValue.mk 27 p ReflectliteValue.flagAddr).run Tryz.prog w = .ok (.agg #[.pointer (some ⟨5, 27, none⟩), .pointer (some p), .int .u64 386]) w := by kernel_rfl
theorem elemVP (a p : Addr) (W : World) (ha : W.cell? a = some (.pointer (some p))) : (ReflectliteValue.method (ReflectliteValue.valueError "reflectlite.Value.Elem" 0) ReflectliteValue.elem #[.agg #[.pointer (some ⟨5, 84, none⟩), .pointer (some a), .int .u64 150]]).run Tryz.prog W = .ok (.agg #[.pointer (some ⟨5, 27, none⟩), .pointer (some p), .int .u64 386]) W := by
 rw [rlm]
 simp only [Sem.run_bind, partsP, Result.andThen]
 simp [ReflectliteValue.elem, loadVar, isAgg, underlying, Tryz.underlying84, ha, Result.andThen, elemOfP, mkE]
theorem elmP (a p : Addr) (w : World) (ha : w.cell? a = some (.pointer (some p))) : (callFunc 94 #[.agg #[.pointer (some ⟨5, 84, none⟩), .pointer (some a), .int .u64 150]]).run Tryz.prog w = .ok (.value (.agg #[.pointer (some ⟨5, 27, none⟩), .pointer (some p), .int .u64 386])) w := ext_run (e := (ReflectliteValue.method (ReflectliteValue.valueError "reflectlite.Value.Elem" 0) ReflectliteValue.elem)) Tryz.func94 (by kernel_rfl) (by kernel_rfl) (by kernel_rfl) (by kernel_rfl) (elemVP a p w ha)
theorem rls (v x : Value) : ReflectliteValue.set #[v, x] = (do
    let (some (dst, a, fl), some (src, b, _)) := (← ReflectliteValue.parts v, ← ReflectliteValue.parts x)
     | unsupported (.noEntry "extern/(internal/reflectlite.Value).Set.zeroValue")
    if fl / ReflectliteValue.flagAddr % 2 == 0 then unsupported (.noEntry "extern/(internal/reflectlite.Value).Set.unaddressable")
    let val ← loadVar src b
    if ← Rtype.directlyAssignable dst src then storeVar dst a val
    else if ← Rtype.implements dst src then
     if (← Rtype.kind src) == 20 then
      match val with
      | .nilIface => unsupported (.noEntry "extern/reflectlite: a nil value of one interface type handed on as a value of another")
      | _ => storeVar dst a val
     else storeVar dst a (.iface src val)
    else panicString ("reflectlite.Set: value of type " ++ (← Rtype.spelt src) ++ " is not assignable to type " ++ (← Rtype.spelt dst))
    pure (.tuple #[])) := rfl
theorem directE (w : World) : (Rtype.directlyAssignable 27 27).run Tryz.prog w = .ok true w := by kernel_rfl
theorem setE (ta b : Addr) (x : Int) (old : Value) (W : World) (hb : W.cell? b = some (.int .i64 x)) (ht : W.cell? ta = some old) (hf : W.frozen? ta = false) :
    (ReflectliteValue.set #[.agg #[.pointer (some ⟨5, 27, none⟩), .pointer (some ta), .int .u64 386], .agg #[.pointer (some ⟨5, 27, none⟩), .pointer (some b), .int .u64 130]]).run Tryz.prog W = .ok (.tuple #[]) (W.setCell ta (.int .i64 x)) := by
 rw [rls]
 simp only [Sem.run_bind, partsEa, partsE, Result.andThen]
 simp [ReflectliteValue.flagAddr, loadVar, isAgg, underlying, Tryz.underlying27, hb, Result.andThen, directE, storeVar, Value.cells, storeCells, Addr.add]
 rw [run_store Tryz.prog W ta _ _ (by rfl)]
 simp [ht, hf]
theorem setX (ta b : Addr) (x : Int) (old : Value) (w : World) (hb : w.cell? b = some (.int .i64 x)) (ht : w.cell? ta = some old) (hf : w.frozen? ta = false) : (callFunc 95 #[.agg #[.pointer (some ⟨5, 27, none⟩), .pointer (some ta), .int .u64 386], .agg #[.pointer (some ⟨5, 27, none⟩), .pointer (some b), .int .u64 130]]).run Tryz.prog w = .ok (.value (.tuple #[])) (w.setCell ta (.int .i64 x)) := ext_run (e := ReflectliteValue.set) Tryz.func95 (by kernel_rfl) (by kernel_rfl) (by kernel_rfl) (by kernel_rfl) (setE ta b x old w hb ht hf)
theorem asRIs (v : Value) (xT : TypeId) (w : World) : (Instr.typeAssert (.iface 100 v) xT 127 true).run Tryz.prog w = .ok (.tuple #[.nilIface, .bool false]) w := run_typeAssert_lacksB Tryz.underlying127 (by kernel_rfl) (by kernel_rfl) v xT w
theorem asRAs (v : Value) (xT : TypeId) (w : World) : (Instr.typeAssert (.iface 100 v) xT 137 true).run Tryz.prog w = .ok (.tuple #[.nilIface, .bool false]) w := run_typeAssert_lacksB Tryz.underlying137 (by kernel_rfl) (by kernel_rfl) v xT w
theorem asRUn (v : Value) (xT : TypeId) (w : World) : (Instr.typeAssert (.iface 100 v) xT 130 true).run Tryz.prog w = .ok (.tuple #[.iface 100 v, .bool true]) w := run_typeAssert_hasB Tryz.underlying130 (by kernel_rfl) v xT w
theorem asEIs (v : Value) (xT : TypeId) (w : World) : (Instr.typeAssert (.iface 27 v) xT 127 true).run Tryz.prog w = .ok (.tuple #[.nilIface, .bool false]) w := run_typeAssert_lacksB Tryz.underlying127 (by kernel_rfl) (by kernel_rfl) v xT w
theorem asEUn (v : Value) (xT : TypeId) (w : World) : (Instr.typeAssert (.iface 27 v) xT 130 true).run Tryz.prog w = .ok (.tuple #[.nilIface, .bool false]) w := run_typeAssert_lacksB Tryz.underlying130 (by kernel_rfl) (by kernel_rfl) v xT w
theorem asEUns (v : Value) (xT : TypeId) (w : World) : (Instr.typeAssert (.iface 27 v) xT 132 true).run Tryz.prog w = .ok (.tuple #[.nilIface, .bool false]) w := run_typeAssert_lacksB Tryz.underlying132 (by kernel_rfl) (by kernel_rfl) v xT w
theorem eqRE (v u : Value) (w : World) : (binOp .eql 60 (.iface 100 v) (.iface 27 u)).run Tryz.prog w = .ok (.bool false) w := run_eql_iface_types 100 27 v u Tryz.underlying60 (by decide) w
theorem eqEE (x y : Int) (w : World) : (binOp .eql 60 (.iface 27 (.int .i64 x)) (.iface 27 (.int .i64 y))).run Tryz.prog w = .ok (.bool (x == y)) w := by kernel_rfl
theorem unwR (s : ByteArray) (e : Int) (w : World) : (callMethod (.iface 100 (.agg #[.string s, .int .i64 e])) "Unwrap" #[]).run Tryz.prog w = .ok (.enter 180 #[.agg #[.string s, .int .i64 e]]) w := by kernel_rfl
end Go.Proofs.YtanhhihechakhaaGreatDoor
set_option linter.unusedVariables false
set_option linter.unusedSimpArgs false
namespace Go.Proofs.YtanhhihechakhaaGreatDoor
open Go.RowKit Go.Proofs.YtanhhihechakhaaGreatDoor.E
set_option maxRecDepth 100000 in
theorem unwrap_c (s : ByteArray) (e : Int) (h : Hp) : C0 Tryz.prog 180 [.agg #[.string s, .int .i64 e]] h (.iface 27 (.int .i64 e)) := by
 refine enter0 Tryz.func180 rfl rfl rfl (fun w => ?_)
 refine cy_seq ?_
 refine cy_region ?_
 refine sy_box rfl rfl rfl rfl (fun b1 hb1 hM1 => ?_) (by simp)
 refine sy_assign rfl rfl rfl ?_
 refine sy_nil rfl ?_
 refine ny_next ?_
 refine cy_seq ?_
 refine cy_region ?_
 refine sy_field fld_100_1 rfl rfl rfl ?_
 refine sy_ldr 0 one_27 rfl rfl rfl rfl rfl ?_
 refine sy_iface Tryz.underlying27 rfl rfl rfl rfl ?_
 refine sy_assign rfl rfl rfl ?_
 refine sy_nil rfl ?_
 refine ny_next ?_
 refine cy_ret ?_
 refine ny_finR (res1 rfl rfl) (fun w hs => ⟨?_, hs.frm⟩)
 rfl
set_option maxRecDepth 100000 in
theorem is2R_c (s : ByteArray) (e : Int) (h : Hp) : C0 Tryz.prog 78 [.iface 100 (.agg #[.string s, .int .i64 e]), .iface 27 (.int .i64 1), .bool true] h (.bool (e == 1)) := by
 refine enter0 Tryz.func78 rfl rfl rfl (fun w => ?_)
 refine cy_seq ?_
 refine cy_region ?_
 refine sy_assign rfl rfl rfl ?_
 refine sy_nil rfl ?_
 refine ny_next ?_
 refine cy_block ?_
 refine cy_rounds 1 ?_
 refine cy_block ?_
 refine cy_seq ?_
 refine cy_seq ?_
 refine cy_region ?_
 refine sy_move rfl rfl rfl ?_
 refine sy_setT (d := 14) rfl rfl rfl ?_
 refine sy_move rfl rfl rfl ?_
 refine sy_move rfl rfl rfl ?_
 refine sy_move rfl rfl rfl ?_
 refine sy_eqif rfl rfl (fun w => eqRE _ _ w) rfl rfl ?_
 refine sy_pickT rfl rfl rfl rfl ?_
 refine sy_setF (d := 19) rfl rfl rfl ?_
 refine sy_nil rfl ?_
 refine ny_next ?_
 refine cy_condF rfl ?_
 refine cy_skip ?_
 refine ny_next ?_
 refine cy_seq ?_
 refine cy_seq ?_
 refine cy_region ?_
 refine sy_move rfl rfl rfl ?_
 refine sy_assert rfl (fun w => asRIs _ _ w) rfl rfl ?_
 refine sy_move rfl rfl rfl ?_
 refine sy_extract rfl rfl rfl rfl ?_
 refine sy_extract rfl rfl rfl rfl ?_
 refine sy_setF (d := 24) rfl rfl rfl ?_
 refine sy_assign rfl rfl rfl ?_
 refine sy_assign rfl rfl rfl ?_
 refine sy_nil rfl ?_
 refine ny_next ?_
 refine cy_seq ?_
 refine cy_region ?_
 refine sy_move rfl rfl rfl ?_
 refine sy_move rfl rfl rfl ?_
 refine sy_skip rfl rfl rfl ?_
 refine sy_skip rfl rfl rfl ?_
 refine sy_skip rfl rfl rfl ?_
 refine sy_pickF rfl rfl rfl rfl ?_
 refine sy_nil rfl ?_
 refine ny_next ?_
 refine cy_condF rfl ?_
 refine cy_skip ?_
 refine ny_next ?_
 refine cy_seq ?_
 refine cy_region ?_
 refine sy_move rfl rfl rfl ?_
 refine sy_nil rfl ?_
 refine ny_next ?_
 refine cy_block ?_
 refine cy_seq ?_
 refine cy_region ?_
 refine sy_assert rfl (fun w => asRUn _ _ w) rfl rfl ?_
 refine sy_extract rfl rfl rfl rfl ?_
 refine sy_setT (d := 33) rfl rfl rfl ?_
 refine sy_extract rfl rfl rfl rfl ?_
 refine sy_nil rfl ?_
 refine ny_next ?_
 refine cy_condT rfl ?_
 refine cy_seq ?_
 refine cy_region ?_
 refine sy_assign rfl rfl rfl ?_
 refine sy_nil rfl ?_
 refine ny_next ?_
 refine cy_seq ?_
 refine cy_region ?_
 refine sy_move rfl rfl rfl ?_
 refine sy_invoke rfl rfl rfl (fun w => unwR s e w) (unwrap_c s e h) rfl rfl ?_
 refine sy_assign rfl rfl rfl ?_
 refine sy_nil rfl ?_
 refine ny_next ?_
 refine cy_seq ?_
 refine cy_region ?_
 refine sy_move rfl rfl rfl ?_
 refine sy_eqn Tryz.underlying60 rfl rfl rfl rfl rfl ?_
 refine sy_setF (d := 38) rfl rfl rfl ?_
 refine sy_nil rfl ?_
 refine ny_next ?_
 refine cy_condF rfl ?_
 refine cy_skip ?_
 refine ny_blockN ?_
 refine ny_blockN ?_
 refine ny_again ?_
 refine cy_block ?_
 refine cy_seq ?_
 refine cy_seq ?_
 refine cy_region ?_
 refine sy_move rfl rfl rfl ?_
 refine sy_setT (d := 14) rfl rfl rfl ?_
 refine sy_move rfl rfl rfl ?_
 refine sy_move rfl rfl rfl ?_
 refine sy_move rfl rfl rfl ?_
 refine sy_eqif rfl rfl (fun w => eqEE _ _ w) rfl rfl ?_
 refine sy_pickT rfl rfl rfl rfl ?_
 refine sy_nil rfl ?_
 refine ny_next ?_
 refine cy_cond rfl (fun hc19 => ?_) (fun hc19 => ?_)
 · refine cy_seq ?_
   refine cy_region ?_
   refine sy_assign rfl rfl rfl ?_
   refine sy_nil rfl ?_
   refine ny_next ?_
   refine cy_ret ?_
   refine ny_thenR ?_
   refine ny_blockR ?_
   refine ny_thenR ?_
   refine ny_blockR ?_
   refine ny_finR (res1 rfl rfl) (fun w hs => ⟨?_, hs.frm⟩)
   rw [hc19]
 · refine cy_skip ?_
   refine ny_next ?_
   refine cy_seq ?_
   refine cy_seq ?_
   refine cy_region ?_
   refine sy_move rfl rfl rfl ?_
   refine sy_assert rfl (fun w => asEIs _ _ w) rfl rfl ?_
   refine sy_move rfl rfl rfl ?_
   refine sy_extract rfl rfl rfl rfl ?_
   refine sy_extract rfl rfl rfl rfl ?_
   refine sy_setF (d := 24) rfl rfl rfl ?_
   refine sy_assign rfl rfl rfl ?_
   refine sy_assign rfl rfl rfl ?_
   refine sy_nil rfl ?_
   refine ny_next ?_
   refine cy_seq ?_
   refine cy_region ?_
   refine sy_move rfl rfl rfl ?_
   refine sy_move rfl rfl rfl ?_
   refine sy_skip rfl rfl rfl ?_
   refine sy_skip rfl rfl rfl ?_
   refine sy_skip rfl rfl rfl ?_
   refine sy_pickF rfl rfl rfl rfl ?_
   refine sy_nil rfl ?_
   refine ny_next ?_
   refine cy_condF rfl ?_
   refine cy_skip ?_
   refine ny_next ?_
   refine cy_seq ?_
   refine cy_region ?_
   refine sy_move rfl rfl rfl ?_
   refine sy_nil rfl ?_
   refine ny_next ?_
   refine cy_block ?_
   refine cy_seq ?_
   refine cy_region ?_
   refine sy_assert rfl (fun w => asEUn _ _ w) rfl rfl ?_
   refine sy_extract rfl rfl rfl rfl ?_
   refine sy_setF (d := 33) rfl rfl rfl ?_
   refine sy_extract rfl rfl rfl rfl ?_
   refine sy_nil rfl ?_
   refine ny_next ?_
   refine cy_condF rfl ?_
   refine cy_seq ?_
   refine cy_region ?_
   refine sy_assert rfl (fun w => asEUns _ _ w) rfl rfl ?_
   refine sy_extract rfl rfl rfl rfl ?_
   refine sy_setF (d := 40) rfl rfl rfl ?_
   refine sy_extract rfl rfl rfl rfl ?_
   refine sy_nil rfl ?_
   refine ny_next ?_
   refine cy_condF rfl ?_
   refine cy_seq ?_
   refine cy_region ?_
   refine sy_assign rfl rfl rfl ?_
   refine sy_nil rfl ?_
   refine ny_next ?_
   refine cy_seq ?_
   refine cy_region ?_
   refine sy_assign rfl rfl rfl ?_
   refine sy_nil rfl ?_
   refine ny_next ?_
   refine cy_ret ?_
   refine ny_blockR ?_
   refine ny_blockR ?_
   refine ny_thenR ?_
   refine ny_blockR ?_
   refine ny_finR (res1 rfl rfl) (fun w hs => ⟨?_, hs.frm⟩)
   rw [hc19]
set_option maxRecDepth 100000 in
theorem isR_c (s : ByteArray) (e : Int) (h : Hp) : C0 Tryz.prog 52 [.iface 100 (.agg #[.string s, .int .i64 e]), .iface 27 (.int .i64 1)] h (.bool (e == 1)) := by
 refine enter0 Tryz.func52 rfl rfl rfl (fun w => ?_)
 refine cy_seq ?_
 refine cy_region ?_
 refine sy_assign rfl rfl rfl ?_
 refine sy_nil rfl ?_
 refine ny_next ?_
 refine cy_seq ?_
 refine cy_seq ?_
 refine cy_region ?_
 refine sy_move rfl rfl rfl ?_
 refine sy_eqn Tryz.underlying60 rfl rfl rfl rfl rfl ?_
 refine sy_setF (d := 7) rfl rfl rfl ?_
 refine sy_move rfl rfl rfl ?_
 refine sy_move rfl rfl rfl ?_
 refine sy_eqn Tryz.underlying60 rfl rfl rfl rfl rfl ?_
 refine sy_pickF rfl rfl rfl rfl ?_
 refine sy_setF (d := 11) rfl rfl rfl ?_
 refine sy_nil rfl ?_
 refine ny_next ?_
 refine cy_condF rfl ?_
 refine cy_skip ?_
 refine ny_next ?_
 refine cy_seq ?_
 refine cy_region ?_
 refine sy_move rfl rfl rfl ?_
 refine sy_exq rfl (fun w hs => tofE _ w) rfl rfl ?_
 refine sy_invq rfl rfl (fun w => cCmp w) rfl rfl ?_
 refine sy_assign rfl rfl rfl ?_
 refine sy_nil rfl ?_
 refine ny_next ?_
 refine cy_seq ?_
 refine cy_region ?_
 refine sy_move rfl rfl rfl ?_
 refine sy_move rfl rfl rfl ?_
 refine sy_move rfl rfl rfl ?_
 refine sy_call rfl call_78 rfl (is2R_c s e h) rfl rfl ?_
 refine sy_assign rfl rfl rfl ?_
 refine sy_nil rfl ?_
 refine ny_next ?_
 refine cy_ret ?_
 refine ny_finR (res1 rfl rfl) (fun w hs => ⟨?_, hs.frm⟩)
 rfl
set_option maxRecDepth 100000 in
theorem as2R_c (s : ByteArray) (e x0 : Int) (b bq : Nat) (h : Hp) (hq : h bq = some (.cells #[.pointer (some ⟨b, 0, none⟩)] 84 (0, 0))) : CXM Tryz.prog 82 [.iface 100 (.agg #[.string s, .int .i64 e]), .iface 84 (.pointer (some ⟨b, 0, none⟩)), .agg #[.pointer (some ⟨5, 84, none⟩), .pointer (some ⟨bq, 0, none⟩), .int .u64 150], .iface 125 (.agg #[.pointer (some ⟨5, 27, none⟩)])] h b (.cells [.int .i64 x0].toArray 27 (0, 0)) (fun _ : Unit => .bool true) (fun _ _ o => o = .cells [.int .i64 e].toArray 27 (0, 0)) := by
 refine enterXM Tryz.func82 rfl rfl rfl (fun w hb0 => ?_)
 refine cy_seq ?_
 refine cy_region ?_
 refine sy_box rfl rfl rfl rfl (fun b6 hb6 hM6 => ?_) (by simp only [List.mem_singleton]; rintro _ rfl; exact hb0)
 refine sy_assign rfl rfl rfl ?_
 refine sy_nil rfl ?_
 refine ny_next ?_
 refine cy_block ?_
 refine cy_rounds 1 ?_
 refine cy_block ?_
 refine cy_seq ?_
 refine cy_seq ?_
 refine cy_region ?_
 refine sy_move rfl rfl rfl ?_
 refine sy_exq rfl (fun w hs => tofRef _ w) rfl rfl ?_
 refine sy_move rfl rfl rfl ?_
 refine sy_invq rfl rfl (fun w => cAssR w) rfl rfl ?_
 refine sy_setF (d := 19) rfl rfl rfl ?_
 refine sy_nil rfl ?_
 refine ny_next ?_
 refine cy_condF rfl ?_
 refine cy_skip ?_
 refine ny_next ?_
 refine cy_seq ?_
 refine cy_seq ?_
 refine cy_region ?_
 refine sy_move rfl rfl rfl ?_
 refine sy_assert rfl (fun w => asRAs _ _ w) rfl rfl ?_
 refine sy_move rfl rfl rfl ?_
 refine sy_extract rfl rfl rfl rfl ?_
 refine sy_extract rfl rfl rfl rfl ?_
 refine sy_setF (d := 29) rfl rfl rfl ?_
 refine sy_assign rfl rfl rfl ?_
 refine sy_assign rfl rfl rfl ?_
 refine sy_nil rfl ?_
 refine ny_next ?_
 refine cy_seq ?_
 refine cy_region ?_
 refine sy_move rfl rfl rfl ?_
 refine sy_move rfl rfl rfl ?_
 refine sy_skip rfl rfl rfl ?_
 refine sy_skip rfl rfl rfl ?_
 refine sy_skip rfl rfl rfl ?_
 refine sy_pickF rfl rfl rfl rfl ?_
 refine sy_nil rfl ?_
 refine ny_next ?_
 refine cy_condF rfl ?_
 refine cy_skip ?_
 refine ny_next ?_
 refine cy_seq ?_
 refine cy_region ?_
 refine sy_move rfl rfl rfl ?_
 refine sy_nil rfl ?_
 refine ny_next ?_
 refine cy_block ?_
 refine cy_seq ?_
 refine cy_region ?_
 refine sy_assert rfl (fun w => asRUn _ _ w) rfl rfl ?_
 refine sy_extract rfl rfl rfl rfl ?_
 refine sy_setT (d := 38) rfl rfl rfl ?_
 refine sy_extract rfl rfl rfl rfl ?_
 refine sy_nil rfl ?_
 refine ny_next ?_
 refine cy_condT rfl ?_
 refine cy_seq ?_
 refine cy_region ?_
 refine sy_assign rfl rfl rfl ?_
 refine sy_nil rfl ?_
 refine ny_next ?_
 refine cy_seq ?_
 refine cy_region ?_
 refine sy_move rfl rfl rfl ?_
 refine sy_invoke rfl rfl rfl (fun w => unwR s e w) (unwrap_c s e h) rfl rfl ?_
 refine sy_assign rfl rfl rfl ?_
 refine sy_nil rfl ?_
 refine ny_next ?_
 refine cy_seq ?_
 refine cy_region ?_
 refine sy_move rfl rfl rfl ?_
 refine sy_eqn Tryz.underlying60 rfl rfl rfl rfl rfl ?_
 refine sy_setF (d := 43) rfl rfl rfl ?_
 refine sy_nil rfl ?_
 refine ny_next ?_
 refine cy_condF rfl ?_
 refine cy_skip ?_
 refine ny_blockN ?_
 refine ny_blockN ?_
 refine ny_again ?_
 refine cy_block ?_
 refine cy_seq ?_
 refine cy_seq ?_
 refine cy_region ?_
 refine sy_move rfl rfl rfl ?_
 refine sy_exq rfl (fun w hs => tofE _ w) rfl rfl ?_
 refine sy_move rfl rfl rfl ?_
 refine sy_invq rfl rfl (fun w => cAssE w) rfl rfl ?_
 refine sy_setT (d := 19) rfl rfl rfl ?_
 refine sy_nil rfl ?_
 refine ny_next ?_
 refine cy_condT rfl ?_
 refine cy_seq ?_
 refine cy_region ?_
 refine sy_ldar 0 agg_110 rfl rfl rfl rfl rfl ?_
 refine sy_exq rfl (fun w hs => elmP ⟨bq, 0, none⟩ ⟨b, 0, none⟩ w (hs.sub.cell (Hp.blk hq 0 _ rfl))) rfl rfl ?_
 refine sy_move rfl rfl rfl ?_
 refine sy_exn (v := fun b2 => .agg #[.pointer (some ⟨5, 27, none⟩), .pointer (some ⟨b2, 0, none⟩), .int .u64 130]) rfl (fun w => vofE e w) rfl rfl (fun b23 hb23 hM23 => ?_) (by simp only [List.mem_singleton]; rintro _ rfl; exact hb0)
 refine sy_exw2 (off := 0) (old := .int .i64 x0) (new := .int .i64 e) (cs := [.int .i64 x0]) 2 rfl rfl rfl rfl (fun w hs hc hz => setX ⟨b, 0, none⟩ ⟨b23, 0, none⟩ e _ w (hs.cellQ 0 (cs := [.int .i64 e]) rfl rfl) hc hz) rfl rfl ?_
 refine sy_nil rfl ?_
 refine ny_next ?_
 refine cy_seq ?_
 refine cy_region ?_
 refine sy_assign rfl rfl rfl ?_
 refine sy_nil rfl ?_
 refine ny_next ?_
 refine cy_ret ?_
 refine ny_thenR ?_
 refine ny_blockR ?_
 refine ny_thenR ?_
 refine ny_blockR ?_
 exact ny_finR (res1 rfl rfl) (fun w hs => ⟨(), _, _, rfl, rfl, hs.toTurn⟩)
set_option maxRecDepth 100000 in
theorem asR_c (s : ByteArray) (e x0 : Int) (b : Nat) (h : Hp) (hG : h.cell ⟨0, 0, none⟩ = some (.iface 125 (.agg #[.pointer (some ⟨5, 60, none⟩)]))) : CXM Tryz.prog 53 [.iface 100 (.agg #[.string s, .int .i64 e]), .iface 84 (.pointer (some ⟨b, 0, none⟩))] h b (.cells [.int .i64 x0].toArray 27 (0, 0)) (fun _ : Unit => .bool true) (fun _ _ o => o = .cells [.int .i64 e].toArray 27 (0, 0)) := by
 refine enterXM Tryz.func53 rfl rfl rfl (fun w hb0 => ?_)
 refine cy_seq ?_
 refine cy_region ?_
 refine sy_assign rfl rfl rfl ?_
 refine sy_nil rfl ?_
 refine ny_next ?_
 refine cy_seq ?_
 refine cy_seq ?_
 refine cy_region ?_
 refine sy_move rfl rfl rfl ?_
 refine sy_eqn Tryz.underlying60 rfl rfl rfl rfl rfl ?_
 refine sy_setF (d := 9) rfl rfl rfl ?_
 refine sy_nil rfl ?_
 refine ny_next ?_
 refine cy_condF rfl ?_
 refine cy_skip ?_
 refine ny_next ?_
 refine cy_seq ?_
 refine cy_seq ?_
 refine cy_region ?_
 refine sy_move rfl rfl rfl ?_
 refine sy_eqn Tryz.underlying20 rfl rfl rfl rfl rfl ?_
 refine sy_setF (d := 11) rfl rfl rfl ?_
 refine sy_nil rfl ?_
 refine ny_next ?_
 refine cy_condF rfl ?_
 refine cy_skip ?_
 refine ny_next ?_
 refine cy_seq ?_
 refine cy_region ?_
 refine sy_move rfl rfl rfl ?_
 refine sy_exn (v := fun b2 => .agg #[.pointer (some ⟨5, 84, none⟩), .pointer (some ⟨b2, 0, none⟩), .int .u64 150]) rfl (fun w => vofP ⟨b, 0, none⟩ w) rfl rfl (fun b14 hb14 hM14 => ?_) (by simp only [List.mem_singleton]; rintro _ rfl; exact hb0)
 refine sy_frz 0 rfl hM14 (fun hq hleq hbq => ?_)
 refine sy_alloc zer_110 rfl rfl (fun b5 hb5 hM5 => ?_) (by simp only [List.mem_singleton]; rintro _ rfl; exact hb0)
 refine sy_stl 0 sz_110 rfl rfl rfl rfl rfl rfl rfl rfl ?_
 refine sy_nil rfl ?_
 refine ny_next ?_
 refine cy_seq ?_
 refine cy_region ?_
 refine sy_ldar 0 agg_110 rfl rfl rfl rfl rfl ?_
 refine sy_exq rfl (fun w hs => typP ⟨b14, 0, none⟩ w) rfl rfl ?_
 refine sy_assign rfl rfl rfl ?_
 refine sy_nil rfl ?_
 refine ny_next ?_
 refine cy_seq ?_
 refine cy_seq ?_
 refine cy_region ?_
 refine sy_move rfl rfl rfl ?_
 refine sy_invq rfl rfl (fun w => cKindP w) rfl rfl ?_
 refine sy_cmp rfl rfl rfl rfl rfl ?_
 refine sy_setF (d := 19) rfl rfl rfl ?_
 refine sy_move rfl rfl rfl ?_
 refine sy_ldar 0 agg_110 rfl rfl rfl rfl rfl ?_
 refine sy_exq rfl (fun w hs => nilP ⟨b14, 0, none⟩ ⟨b, 0, none⟩ w (hs.sub.cell (Hp.blk hbq 0 _ rfl))) rfl rfl ?_
 refine sy_pickF rfl rfl rfl rfl ?_
 refine sy_setF (d := 23) rfl rfl rfl ?_
 refine sy_nil rfl ?_
 refine ny_next ?_
 refine cy_condF rfl ?_
 refine cy_skip ?_
 refine ny_next ?_
 refine cy_seq ?_
 refine cy_region ?_
 refine sy_move rfl rfl rfl ?_
 refine sy_invq rfl rfl (fun w => cElem w) rfl rfl ?_
 refine sy_assign rfl rfl rfl ?_
 refine sy_nil rfl ?_
 refine ny_next ?_
 refine cy_seq ?_
 refine cy_seq ?_
 refine cy_region ?_
 refine sy_move rfl rfl rfl ?_
 refine sy_invq rfl rfl (fun w => cKindE w) rfl rfl ?_
 refine sy_cmp rfl rfl rfl rfl rfl ?_
 refine sy_setT (d := 29) rfl rfl rfl ?_
 refine sy_move rfl rfl rfl ?_
 refine sy_move rfl rfl rfl ?_
 refine sy_ldh one_105 rfl (hleq.cell hG) rfl rfl ?_
 refine sy_invq rfl rfl (fun w => cImp w) rfl rfl ?_
 refine sy_setT (d := 33) rfl rfl rfl ?_
 refine sy_not rfl rfl rfl ?_
 refine sy_pickT rfl rfl rfl rfl ?_
 refine sy_setF (d := 35) rfl rfl rfl ?_
 refine sy_nil rfl ?_
 refine ny_next ?_
 refine cy_condF rfl ?_
 refine cy_skip ?_
 refine ny_next ?_
 refine cy_seq ?_
 refine cy_region ?_
 refine sy_move rfl rfl rfl ?_
 refine sy_move rfl rfl rfl ?_
 refine sy_ldar 0 agg_110 rfl rfl rfl rfl rfl ?_
 refine sy_move rfl rfl rfl ?_
 refine sy_callxm 1 call_82 rfl rfl (as2R_c s e x0 b b14 hq hbq) rfl rfl (fun x41 h41 o41 hx41 hle41 => ?_)
 subst hx41
 refine sy_assign rfl rfl rfl ?_
 refine sy_nil rfl ?_
 refine ny_next ?_
 refine cy_ret ?_
 exact ny_finR (res1 rfl rfl) (fun w hs => ⟨(), _, _, rfl, rfl, hs.toTurn⟩)
set_option maxRecDepth 100000 in
theorem codeR_c (s : ByteArray) (e : Int) (h : Hp) (hG : h.cell ⟨0, 0, none⟩ = some (.iface 125 (.agg #[.pointer (some ⟨5, 60, none⟩)]))) : C0 Tryz.prog 35 [.iface 100 (.agg #[.string s, .int .i64 e])] h (.int .i64 e) := by
 refine enter0 Tryz.func35 rfl rfl rfl (fun w => ?_)
 refine cy_seq ?_
 refine cy_region ?_
 refine sy_assign rfl rfl rfl ?_
 refine sy_nil rfl ?_
 refine ny_next ?_
 refine cy_seq ?_
 refine cy_region ?_
 refine sy_alloc zer_27 rfl rfl (fun b3 hb3 hM3 => ?_) (by simp)
 refine sy_nil rfl ?_
 refine ny_next ?_
 refine cy_seq ?_
 refine cy_block ?_
 refine cy_seq ?_
 refine cy_region ?_
 refine sy_move rfl rfl rfl ?_
 refine sy_eqn Tryz.underlying60 rfl rfl rfl rfl rfl ?_
 refine sy_setF (d := 6) rfl rfl rfl ?_
 refine sy_assign rfl rfl rfl ?_
 refine sy_nil rfl ?_
 refine ny_next ?_
 refine cy_condF rfl ?_
 refine cy_seq ?_
 refine cy_region ?_
 refine sy_move rfl rfl rfl ?_
 refine sy_iface Tryz.underlying27 rfl rfl rfl rfl ?_
 refine sy_call rfl call_52 rfl (isR_c s e h) rfl rfl ?_
 refine sy_assign rfl rfl rfl ?_
 refine sy_nil rfl ?_
 refine ny_next ?_
 refine cy_cond rfl (fun hc7 => ?_) (fun hc7 => ?_)
 · refine cy_seq ?_
   refine cy_region ?_
   refine sy_assign rfl rfl rfl ?_
   refine sy_nil rfl ?_
   refine ny_next ?_
   refine cy_ret ?_
   refine ny_blockR ?_
   refine ny_thenR ?_
   refine ny_finR (res1 rfl rfl) (fun w hs => ⟨?_, hs.frm⟩)
   (have he1 := eq_of_beq hc7; rw [he1])
 · refine cy_seq ?_
   refine cy_region ?_
   refine sy_move rfl rfl rfl ?_
   refine sy_iface Tryz.underlying84 rfl rfl rfl rfl ?_
   refine sy_callxm 0 call_53 rfl rfl (asR_c s e 0 _ h hG) rfl rfl (fun x14 h14 o14 hx14 hle14 => ?_)
   subst hx14
   refine sy_setT (d := 14) rfl rfl rfl ?_
   refine sy_assign rfl rfl rfl ?_
   refine sy_nil rfl ?_
   refine ny_next ?_
   refine cy_condT rfl ?_
   refine cy_seq ?_
   refine cy_region ?_
   refine sy_ldr 0 one_27 rfl rfl rfl rfl rfl ?_
   refine sy_assign rfl rfl rfl ?_
   refine sy_nil rfl ?_
   refine ny_next ?_
   refine cy_ret ?_
   refine ny_blockR ?_
   refine ny_thenR ?_
   refine ny_finR (res1 rfl rfl) (fun w hs => ⟨?_, hs.frm⟩)
   rfl
end Go.Proofs.YtanhhihechakhaaGreatDoor
set_option linter.unusedVariables false
set_option linter.unusedSimpArgs false
namespace Go.Proofs.YtanhhihechakhaaGreatDoor.ReadP
open Go.RowKit Go.Proofs.YtanhhihechakhaaGreatDoor.E Go.Proofs.YtanhhihechakhaaGreatDoor.ReplP Go.Proofs.YtanhhihechakhaaGreatDoor.TokP Go.Proofs.YtanhhihechakhaaGreatDoor.TermP Go.Proofs.YtanhhihechakhaaGreatDoor.WrP Go.Proofs.YtanhhihechakhaaGreatDoor.OpsP
def NumOk (a : Ans) : Prop := -9223372036854775808 ≤ a.num ∧ a.num ≤ 9223372036854775807
theorem numok_zero (k : Int) (s : ByteArray) (q : Bool) (u : Nat) : NumOk (.tok k s 0 q u) := by exact ⟨by show (-9223372036854775808 : Int) ≤ 0; decide, by show (0 : Int) ≤ 9223372036854775807; decide⟩
theorem numok_bad (w : ByteArray) (e : Int) : NumOk (.bad w e) := by exact ⟨by show (-9223372036854775808 : Int) ≤ 0; decide, by show (0 : Int) ≤ 9223372036854775807; decide⟩
theorem quo_numok : ∀ (m : Nat) (r out : List UInt8) (k : Nat), r.length ≤ m → NumOk (quoL r out k)
 | _, [], _, _, _ => by rw [quoL]; exact numok_bad _ _
 | 0, _ :: _, _, _, h => by simp at h
 | m + 1, [c], out, k, h => by
  rw [quoL]
  split
  · exact numok_zero _ _ _ _
  · split
    · exact numok_bad _ _
    · split <;> exact numok_bad _ _
 | m + 1, c :: d :: t, out, k, h => by
  have hl : t.length + 1 ≤ m := by simpa using h
  rw [quoL]
  split
  · split
    · exact quo_numok m t _ _ (by omega)
    · exact numok_zero _ _ _ _
  · split
    · split
      · exact quo_numok m t _ _ (by omega)
      · exact numok_bad _ _
    · split
      · exact numok_bad _ _
      · exact quo_numok m (d :: t) _ _ (by simpa using hl)
theorem one_numok (c : UInt8) (l : List UInt8) : NumOk (oneC c l) := by
 unfold oneC
 split
 · exact numok_zero _ _ _ _
 split
 · exact numok_zero _ _ _ _
 split
 · unfold numA
   split
   · exact numok_bad _ _
   · split
     · exact numok_bad _ _
     · exact wrap_bounds _
 split
 · exact quo_numok _ _ _ _ (Nat.le_refl _)
 split
 · exact numok_zero _ _ _ _
 split
 · exact numok_zero _ _ _ _
 split
 · exact numok_zero _ _ _ _
 split
 · exact numok_zero _ _ _ _
 · exact numok_bad _ _
theorem lx_numok {b : Bool} {l : List UInt8} {ts : List Tk} (h : Lx b l ts) : ∀ t ∈ ts, NumOk t.a := by
 induction h with
 | done h => intro t ht; exact (List.not_mem_nil ht).elim
 | tok h hr ha he k ih =>
  intro t ht
  rcases List.mem_cons.1 ht with rfl | ht
  · show NumOk _
    rw [ha]
    exact one_numok _ _
  · exact ih t ht
theorem lx_tokok {b : Bool} {l : List UInt8} {ts : List Tk} (h : Lx b l ts) : ∀ x ∈ ts.map rtOf, TokOk x := fun x hx => by
 obtain ⟨t, ht, rfl⟩ := List.mem_map.1 hx
 have h1 := (lx_fair h).1 t ht
 have h2 := lx_numok h t ht
 refine ⟨⟨?_, ?_⟩, ?_, h2⟩
 · have := h1.kind.1; show _ ≤ t.a.kind; omega
 · have := h1.kind.2; show t.a.kind ≤ _; omega
 · have := h1.size; show t.a.str.size ≤ _; omega
theorem preW_le : ∀ {L : List RT} (i : Nat), (∀ t ∈ L, t.str.size ≤ 64) → preW L i ≤ 72 * L.length
 | _, 0, _ => by rw [preW]; exact Nat.zero_le _
 | [], i + 1, _ => by rw [preW]; exact Nat.zero_le _
 | t :: l, i + 1, h => by
  have h1 := preW_le (L := l) i (fun x hx => h x (List.mem_cons_of_mem _ hx))
  have h2 := h t List.mem_cons_self
  rw [preW, List.length_cons]
  omega
theorem lx_preW {b : Bool} {l : List UInt8} {ts : List Tk} (h : Lx b l ts) (hl : l.length ≤ 4096) (i : Nat) : preW (ts.map rtOf) i ≤ 294912 := by
 have h1 := (lx_fair h).2.2.1
 have h2 := preW_le (L := ts.map rtOf) i (fun x hx => by
  obtain ⟨t, ht, rfl⟩ := List.mem_map.1 hx
  exact ((lx_fair h).1 t ht).size)
 rw [List.length_map] at h2
 omega
/-! part by part -/
def raT : RA → List Tm
 | .ok l => l
 | .bad _ _ => []
def raAt : RA → Nat
 | .ok _ => 0
 | .bad a _ => a
def raE : RA → Int
 | .ok _ => 0
 | .bad _ e => e
theorem allA_no {lv : Int} {l : List UInt8} {x : ByteArray × Int} (h : scE (scanA l) = some x) : allA lv l = .bad (scAt (scanA l)) x.2 := by
 unfold allA
 cases hs : scanA l with
 | ok ts => rw [hs] at h; cases h
 | bad a w e => rw [hs] at h; cases h; rfl
theorem allA_yes {lv : Int} {l : List UInt8} (h : scE (scanA l) = none) : allA lv l = allS ((scTs (scanA l)).map rtOf) lv ((scTs (scanA l)).length + 1) 0 [] := by
 unfold allA
 cases hs : scanA l with
 | ok ts => rfl
 | bad a w e => rw [hs] at h; cases h
theorem scan_lx {l : List UInt8} (h : scE (scanA l) = none) : l.length ≤ 4096 ∧ Lx false l (scTs (scanA l)) := by
 have hl : l.length ≤ 4096 := by
  rcases Nat.lt_or_ge 4096 l.length with h1 | h1
  · unfold scanA at h
    rw [if_pos h1] at h
    cases h
  · exact h1
 exact ⟨hl, TokP.sc_lx hl h⟩
theorem allS_end {L : List RT} {lv : Int} {k i : Nat} {acc : List Tm} (h : L.length ≤ i) : allS L lv k i acc = .ok acc := by
 cases k with
 | zero => rfl
 | succ k => unfold allS; rw [if_pos h]
theorem allS_no {L : List RT} {lv : Int} {k i a : Nat} {e : Int} {acc : List Tm} (hk : 1 ≤ k) (h : ¬ L.length ≤ i) (hr : readS L lv i = .bad a e) : allS L lv k i acc = .bad a e := by
 obtain ⟨m, rfl⟩ : ∃ m, k = m + 1 := ⟨k - 1, by omega⟩
 unfold allS
 rw [if_neg h, hr]
theorem allS_more {L : List RT} {lv : Int} {k i : Nat} {x : Tm} {s : RSt} {acc : List Tm} (hk : 1 ≤ k) (h : ¬ L.length ≤ i) (hr : readS L lv i = .ok x s) : allS L lv k i acc = allS L lv (k - 1) s.at_ (acc ++ [x]) := by
 obtain ⟨m, rfl⟩ : ∃ m, k = m + 1 := ⟨k - 1, by omega⟩
 conv => lhs; unfold allS
 rw [if_neg h, hr]
 rfl
theorem readS_wt {L : List RT} {lv : Int} {i : Nat} {x : Tm} {s : RSt} (hi : i ≤ L.length) (h : readS L lv i = .ok x s) : ∃ j, wtT x ≤ preW L j := by
 obtain ⟨p, s2, h1, _⟩ := readS_ok h
 have := read_wt L lv 60 _ _ _ _ hi h1
 exact ⟨s2.at_, by simp only at this; omega⟩
end Go.Proofs.YtanhhihechakhaaGreatDoor.ReadP
set_option linter.unusedVariables false
set_option linter.unusedSimpArgs false
namespace Go.Proofs.YtanhhihechakhaaGreatDoor
open Go.RowKit Go.Proofs.YtanhhihechakhaaGreatDoor.E Go.Proofs.YtanhhihechakhaaGreatDoor.ReplP Go.Proofs.YtanhhihechakhaaGreatDoor.TokP Go.Proofs.YtanhhihechakhaaGreatDoor.TermP Go.Proofs.YtanhhihechakhaaGreatDoor.WrP Go.Proofs.YtanhhihechakhaaGreatDoor.ReadP Go.Proofs.YtanhhihechakhaaGreatDoor.OpsP
def Hdl (h : Hp) : Prop := h.cell ⟨0, 0, none⟩ = some (.iface 125 (.agg #[.pointer (some ⟨5, 60, none⟩)]))
theorem Hdl.le {h h' : Hp} (hh : Hdl h) (hl : h.Le h') : Hdl h' := hl.cell hh
theorem scan2_c (s : ByteArray) (h : Hp) : CX Tryz.prog 34 [.string s] h (fun x : Option Addr × Nat => .tuple #[.slice x.1 (scTs (scanA s.data.toList)).length x.2, .int .i64 ((scAt (scanA s.data.toList) : Nat) : Int), errV 100 (scE (scanA s.data.toList))]) (fun x h' => RowsAt h' x.1 5 ((scTs (scanA s.data.toList)).map tkC) ∧ (scTs (scanA s.data.toList)).length ≤ x.2) := fun w hs => (scan_c s h w hs).mono fun e w' ⟨x, h', he, hx, hg⟩ => by
 cases hr : scanA s.data.toList with
 | ok ts =>
  rw [hr] at he hx
  exact ⟨x, h', he, hx, hg⟩
 | bad i a b =>
  rw [hr] at he
  exact ⟨(none, 0), h', he, ⟨fun j c hj => by simp [scTs] at hj, Nat.le_refl _⟩, hg⟩
theorem rows_rt {h : Hp} {A : Option Addr} {ts : List Tk} (hr : RowsAt h A 5 (ts.map tkC)) : RowsAt h A 5 ((ts.map rtOf).map rtC) := by
 rw [List.map_map]
 exact hr
structure LZ where
 acc : List GT
 i : Nat
 v : Value
 hh : Hp
 n : Nat
abbrev RdR := List GT × Option Addr × Nat
def AllP (r : RA) (x : RdR) (h : Hp) : Prop := x.1.map GT.tm = raT r ∧ RowsAt h x.2.1 4 (x.1.map GT.cells) ∧ x.1.length ≤ x.2.2 ∧ x.1.length ≤ 4096 ∧ ∀ t ∈ x.1, (Lies h t ∧ Fits t) ∧ wtG t ≤ 294912
theorem allP_no (a : Nat) (e : Int) (h : Hp) : AllP (.bad a e) ([], none, 0) h := ⟨rfl, fun j c hj => by simp at hj, Nat.le_refl _, Nat.zero_le _, fun t ht => (List.not_mem_nil ht).elim⟩
set_option maxRecDepth 100000 in
theorem allR_c (s : ByteArray) (lv : Int) (h : Hp) (hh : Hdl h) : CX Tryz.prog 16 [.string s, .int .i64 lv] h (fun x : RdR => .tuple #[.slice x.2.1 x.1.length x.2.2, .int .i64 ((raAt (allA lv s.data.toList) : Nat) : Int), .int .i64 (raE (allA lv s.data.toList))]) (AllP (allA lv s.data.toList)) := by
 refine enterX Tryz.func16 rfl rfl rfl (fun w => ?_)
 refine cy_seq ?_
 refine cy_region ?_
 refine sy_assign rfl rfl rfl ?_
 refine sy_assign rfl rfl rfl ?_
 refine sy_assign rfl rfl rfl ?_
 refine sy_nil rfl ?_
 refine ny_next ?_
 refine cy_seq ?_
 refine cy_region ?_
 refine sy_move rfl rfl rfl ?_
 refine sy_callx call_34 rfl (scan2_c s _) rfl rfl (fun x18 h18 hx18 hle18 => ?_)
 obtain ⟨A18, c18⟩ := x18
 obtain ⟨hr18, hq18⟩ := hx18
 simp only at hr18 hq18 ⊢
 replace hh := hh.le hle18
 refine sy_move rfl rfl rfl ?_
 refine sy_extract rfl rfl rfl rfl ?_
 refine sy_extract rfl rfl rfl rfl ?_
 refine sy_extract rfl rfl rfl rfl ?_
 refine sy_assign rfl rfl rfl ?_
 refine sy_assign rfl rfl rfl ?_
 refine sy_assign rfl rfl rfl ?_
 refine sy_nil rfl ?_
 refine ny_next ?_
 refine cy_seq ?_
 refine cy_seq ?_
 refine cy_region ?_
 refine sy_move rfl rfl rfl ?_
 refine sy_eqn (e := (scE (scanA s.data.toList)).isNone) Tryz.underlying60 rfl (nilB_err _ _) rfl rfl rfl ?_
 refine sy_nil rfl ?_
 refine ny_next ?_
 refine cy_cond rfl (fun hc23 => ?_) (fun hc23 => ?_)
 · have hn1 : ¬ scE (scanA s.data.toList) = none := fun h9 => by rw [h9] at hc23; exact absurd hc23 (by decide)
   obtain ⟨x9, hx9⟩ := Option.ne_none_iff_exists'.1 hn1
   rw [hx9]
   refine cy_seq ?_
   refine cy_region ?_
   refine sy_move rfl rfl rfl ?_
   refine sy_move rfl rfl rfl ?_
   refine sy_call rfl call_35 rfl (codeR_c x9.1 x9.2 _ hh) rfl rfl ?_
   refine sy_assign rfl rfl rfl ?_
   refine sy_assign rfl rfl rfl ?_
   refine sy_assign rfl rfl rfl ?_
   refine sy_nil rfl ?_
   refine ny_next ?_
   refine cy_ret ?_
   refine ny_thenR ?_
   have hres : (allA lv s.data.toList) = .bad (scAt (scanA s.data.toList)) x9.2 := allA_no hx9
   refine ny_finR (res3 rfl rfl rfl rfl) (fun w9 hs => ⟨([], none, 0), _, ?_, ?_, hs.toGrow⟩)
   · rw [hres]; rfl
   · rw [hres]; exact allP_no _ _ _
 · have hok : scE (scanA s.data.toList) = none := Option.isNone_iff_eq_none.1 (by simpa using hc23)
   obtain ⟨hl4, hlx⟩ := scan_lx hok
   have hyes := allA_yes (lv := lv) hok
   have hlen := (lx_fair hlx).2.2.1
   have hqN := lx_tokok hlx
   have hpw := lx_preW hlx hl4
   have hT := rows_rt hr18
   have hmL : ((scTs (scanA s.data.toList)).map rtOf).length = (scTs (scanA s.data.toList)).length := List.length_map _
   refine cy_skip ?_
   refine ny_next ?_
   refine cy_seq ?_
   refine cy_region ?_
   refine sy_assign rfl rfl rfl ?_
   refine sy_nil rfl ?_
   refine ny_next ?_
   refine cy_seq ?_
   refine cy_seq ?_
   refine cy_region ?_
   refine sy_assign rfl rfl rfl ?_
   refine sy_nil rfl ?_
   refine ny_next ?_
   refine cy_block ?_
   refine cy_nilRow 24 4 ?_
   refine cy_loopK (ι := LZ) [1, 7] rfl (fun z => z.i ≤ (scTs (scanA s.data.toList)).length ∧ allS ((scTs (scanA s.data.toList)).map rtOf) lv z.n z.i (z.acc.map GT.tm) = allS ((scTs (scanA s.data.toList)).map rtOf) lv ((scTs (scanA s.data.toList)).length + 1) 0 [] ∧ (scTs (scanA s.data.toList)).length + 1 ≤ z.n + z.i ∧ h18.Le z.hh ∧ (∀ t ∈ z.acc, (Lies z.hh t ∧ Fits t) ∧ wtG t ≤ 294912) ∧ z.acc.length ≤ z.i) (fun z => (scTs (scanA s.data.toList)).length - z.i) (fun z => [(10, z.v), (11, .int .i64 (z.i : Int))]) (fun z => z.hh) (fun z => [.row z.v 24 4 z.acc.length ((z.acc.map GT.cells).flatten)]) ⟨[], 0, .slice none 0 0, h18, (scTs (scanA s.data.toList)).length + 1⟩ [0] ⟨Nat.zero_le _, rfl, Nat.le_refl _, Hp.Le.refl _, (fun t h9 => (List.not_mem_nil h9).elim), Nat.le_refl _⟩ ⟨rfl, rfl, trivial⟩ rfl rfl ?_
   rintro ⟨acc, i, v10, hz, m⟩ ⟨hI, hro, hmn, hlez, hgt, hac⟩
   simp only at hI hro hmn hlez hgt hac ⊢
   have hTz := hT.le hlez
   refine cy_seq ?_
   refine cy_seq ?_
   refine cy_region ?_
   refine sy_move rfl rfl rfl ?_
   refine sy_move rfl rfl rfl ?_
   refine sy_len rfl (len_slice Tryz.underlying58 _ _ _) rfl rfl ?_
   refine sy_cmp rfl rfl rfl rfl rfl ?_
   refine sy_nil rfl ?_
   refine ny_next ?_
   refine cy_cond rfl (fun hc30 => ?_) (fun hc30 => ?_)
   · have hlt : i < (scTs (scanA s.data.toList)).length := by have := of_decide_eq_true hc30; omega
     refine cy_skip ?_
     refine ny_next ?_
     refine cy_block ?_
     refine cy_seq ?_
     refine cy_region ?_
     refine sy_move rfl rfl rfl ?_
     refine sy_move rfl rfl rfl ?_
     refine sy_move rfl rfl rfl ?_
     refine sy_callx call_36 rfl (show CX Tryz.prog _ [.slice A18 (scTs (scanA s.data.toList)).length c18, _, _] _ _ _ from hmL ▸ read_c A18 c18 ((scTs (scanA s.data.toList)).map rtOf) lv i _ hTz (by omega) hqN (fun j => Nat.le_trans (hpw j) (by decide)) (by omega)) rfl rfl (fun x35 h35 hx35 hle35 => ?_)
     obtain ⟨hro35, hlg⟩ := hx35
     refine sy_move rfl rfl rfl ?_
     refine sy_extract rfl rfl rfl rfl ?_
     refine sy_extract rfl rfl rfl rfl ?_
     refine sy_extract rfl rfl rfl rfl ?_
     refine sy_extract rfl rfl rfl rfl ?_
     refine sy_alloc zer_24 rfl rfl (fun b12 hb12 hM12 => ?_) (by simp)
     refine sy_stl 0 sz_24 rfl rfl rfl rfl rfl rfl rfl rfl ?_
     refine sy_assign rfl rfl rfl ?_
     refine sy_assign rfl rfl rfl ?_
     refine sy_assign rfl rfl rfl ?_
     refine sy_nil rfl ?_
     refine ny_next ?_
     refine cy_seq ?_
     refine cy_seq ?_
     refine cy_region ?_
     refine sy_move rfl rfl rfl ?_
     refine sy_cmp rfl rfl rfl rfl rfl ?_
     refine sy_nil rfl ?_
     refine ny_next ?_
     refine cy_cond rfl (fun hc41 => ?_) (fun hc41 => ?_)
     · have hrb : readS ((scTs (scanA s.data.toList)).map rtOf) lv i = .bad x35.2.2.1 x35.2.2.2 := by
        rcases hro35 with ⟨s9, _, _, h9⟩ | h9
        · rw [h9] at hc41; exact absurd hc41 (by decide)
        · exact h9
       refine cy_seq ?_
       refine cy_region ?_
       refine sy_move rfl rfl rfl ?_
       refine sy_move rfl rfl rfl ?_
       refine sy_assign rfl rfl rfl ?_
       refine sy_assign rfl rfl rfl ?_
       refine sy_assign rfl rfl rfl ?_
       refine sy_nil rfl ?_
       refine ny_next ?_
       refine cy_ret ?_
       refine ny_thenR ?_
       refine ny_blockR ?_
       refine ny_thenR ?_
       refine ny_blockR ?_
       refine ny_thenR ?_
       have hres : (allA lv s.data.toList) = .bad x35.2.2.1 x35.2.2.2 := by rw [hyes, ← hro]; exact allS_no (by omega) (by omega) hrb
       refine ny_finR (res3 rfl rfl rfl rfl) (fun w9 hs => ⟨([], none, 0), _, ?_, ?_, hs.toGrow⟩)
       · rw [hres]; rfl
       · rw [hres]; exact allP_no _ _ _
     · obtain ⟨s9, hrk, hat35⟩ : ∃ s9, readS ((scTs (scanA s.data.toList)).map rtOf) lv i = .ok x35.1.tm s9 ∧ x35.2.2.1 = s9.at_ := by
        rcases hro35 with ⟨s9, h9, h8, _⟩ | h9
        · exact ⟨s9, h9, h8⟩
        · have h8 := (readS_okb _ _ _ _ _ h9).1
          have h7 : x35.2.2.2 = 0 := by simpa using hc41
          omega
       have hfw := readS_fwd (by omega) hrk
       have hwt35 : wtG x35.1 ≤ 294912 := by
        obtain ⟨j, hj⟩ := readS_wt (by omega) hrk
        rw [wtG_tm]
        exact Nat.le_trans hj (hpw j)
       refine cy_skip ?_
       refine ny_next ?_
       refine cy_seq ?_
       refine cy_region ?_
       refine sy_move rfl rfl rfl ?_
       refine sy_ldar 0 agg_24 rfl rfl rfl rfl rfl ?_
       refine sy_buildSlice (cs := [x35.1].flatMap GT.cells) rfl (fun w => bsl_22_1_0 w) rfl rfl (fun b46 hb46 hM46 => ?_) (by simp)
       refine sy_append 2 0 row_22 (by decide) rfl rfl rfl rfl rfl rfl (by omega) (by simp only [maxLen]; omega) rfl rfl (fun v47 => ?_)
       refine sy_assign rfl rfl rfl ?_
       refine sy_nil rfl ?_
       refine ny_next ?_
       refine cy_region ?_
       refine sy_move rfl rfl rfl ?_
       refine sy_assign rfl rfl rfl ?_
       refine sy_nil rfl ?_
       refine ny_blockN ?_
       refine ny_roundK [1, 7] ⟨acc ++ [x35.1], x35.2.2.1, v47, h35, m - 1⟩ [0] ⟨(by show x35.2.2.1 ≤ _; omega), (by rw [← hro, allS_more (by omega) (by omega) hrk, List.map_append, List.map_cons, List.map_nil, hat35]), (by show (scTs (scanA s.data.toList)).length + 1 ≤ m - 1 + x35.2.2.1; omega), hlez.trans hle35, (fun t h9 => (List.mem_append.1 h9).elim (fun h8 => ⟨⟨(hgt t h8).1.1.le hle35, (hgt t h8).1.2⟩, (hgt t h8).2⟩) (fun h8 => by rw [List.mem_singleton.1 h8]; exact ⟨hlg, hwt35⟩)), (by show (acc ++ [x35.1]).length ≤ x35.2.2.1; rw [List.length_append, List.length_cons, List.length_nil]; omega)⟩ (by show (scTs (scanA s.data.toList)).length - x35.2.2.1 < (scTs (scanA s.data.toList)).length - i; omega) rfl ⟨rfl, rfl, trivial⟩ rfl (by show some [_] = some [_]; rw [List.length_append, GT.cells_snoc]; rfl)
   · have hie : i = (scTs (scanA s.data.toList)).length := by have := of_decide_eq_false hc30; omega
     refine cy_frzRow 0 rfl (fun _ _ => by simp) (fun AF cF hF hvF hlcF hcmF _ hleF hcellF => ?_)
     subst hvF
     refine cy_exit ?_
     refine ny_thenE ?_
     refine ny_thenE ?_
     refine ny_blockX ?_
     refine ny_next ?_
     refine cy_seq ?_
     refine cy_region ?_
     refine sy_move rfl rfl rfl ?_
     refine sy_assign rfl rfl rfl ?_
     refine sy_assign rfl rfl rfl ?_
     refine sy_assign rfl rfl rfl ?_
     refine sy_nil rfl ?_
     refine ny_next ?_
     refine cy_ret ?_
     have hres : (allA lv s.data.toList) = .ok (acc.map GT.tm) := by rw [hyes, ← hro]; exact allS_end (by omega)
     refine ny_finR (res3 rfl rfl rfl rfl) (fun w9 hs => ⟨(acc, AF, cF), hF, ?_, ?_, hs.toGrow⟩)
     · rw [hres]; rfl
     · rw [hres]; exact ⟨rfl, rows_row (by decide) (GT.cells_len _) hcellF, hlcF, (by show acc.length ≤ 4096; omega), fun t h9 => ⟨⟨(hgt t h9).1.1.le hleF, (hgt t h9).1.2⟩, (hgt t h9).2⟩⟩
end Go.Proofs.YtanhhihechakhaaGreatDoor
set_option linter.unusedVariables false
namespace Go.Proofs.YtanhhihechakhaaGreatDoor
open Go.ChangeShapes Go.WideShapes Go.ChangeAt Go.RowKit Go.Proofs.YtanhhihechakhaaGreatDoor.E
theorem own : ownKnob Tryz.prog.godebug = none := by kernel_rfl
theorem tab_of {W : World} (h : laidMetH Tryz.prog [("math/bits.deBruijn32tab", Rows.laid_math_bits_deBruijn32tab), ("math/bits.deBruijn64tab", Rows.laid_math_bits_deBruijn64tab), ("internal/strconv.uint64pow10", Rows.laid_internal_strconv_uint64pow10), ("errors.errorType", Rows.laid_errors_errorType)] W) : Tab10 (hpOf W) := by
 refine tab10_hp ?_
 have h2 := ((laidMetH_iff.1 h).1).filter (fun x => x.1 == "internal/strconv.uint64pow10")
 have e : (([("math/bits.deBruijn32tab", Rows.laid_math_bits_deBruijn32tab), ("math/bits.deBruijn64tab", Rows.laid_math_bits_deBruijn64tab), ("internal/strconv.uint64pow10", Rows.laid_internal_strconv_uint64pow10), ("errors.errorType", Rows.laid_errors_errorType)] : List (String × DataW Unit)).filter fun x => x.2.handleName?.isNone).filter (fun x => x.1 == "internal/strconv.uint64pow10") = [("internal/strconv.uint64pow10", Lib.tabData .u64 Lib.pow10Tab)] := by kernel_rfl
 rw [e] at h2
 exact Lib.tabIs_of_head (g := 2) (t := 177) (e := 121) (n := 20) (by kernel_rfl) (by kernel_rfl) Tryz.underlying177 Tryz.underlying121 (by kernel_rfl) (by kernel_rfl) h2
theorem et : Tryz.prog.globalNamed "errors.errorType" = some 0 := by kernel_rfl
theorem rtT : (Tryz.prog.cutTypes.find? (·.1 == "internal/reflectlite.rtype")).map (·.2) = some 125 := by kernel_rfl
theorem typesN : Tryz.prog.types.size = 280 := by kernel_rfl
theorem oneRow : ((List.range 280).filter fun t => Tryz.prog.rowNamed t [101, 114, 114, 111, 114]) = [60] := by kernel_rfl
theorem hdl_of {W : World} (h : laidMetH Tryz.prog [("math/bits.deBruijn32tab", Rows.laid_math_bits_deBruijn32tab), ("math/bits.deBruijn64tab", Rows.laid_math_bits_deBruijn64tab), ("internal/strconv.uint64pow10", Rows.laid_internal_strconv_uint64pow10), ("errors.errorType", Rows.laid_errors_errorType)] W) : Hdl (hpOf W) := by
 have h' := (laidMetH_iff.1 h).2
 have hm0 : ("errors.errorType", (Rows.laid_errors_errorType : DataW Unit)) ∈ ([("math/bits.deBruijn32tab", Rows.laid_math_bits_deBruijn32tab), ("math/bits.deBruijn64tab", Rows.laid_math_bits_deBruijn64tab), ("internal/strconv.uint64pow10", Rows.laid_internal_strconv_uint64pow10), ("errors.errorType", Rows.laid_errors_errorType)] : List (String × DataW Unit)).filter fun x => x.2.handleName?.isSome := by
  have e : (([("math/bits.deBruijn32tab", Rows.laid_math_bits_deBruijn32tab), ("math/bits.deBruijn64tab", Rows.laid_math_bits_deBruijn64tab), ("internal/strconv.uint64pow10", Rows.laid_internal_strconv_uint64pow10), ("errors.errorType", Rows.laid_errors_errorType)] : List (String × DataW Unit)).filter fun x => x.2.handleName?.isSome) = [("errors.errorType", Rows.laid_errors_errorType)] := by kernel_rfl
  rw [e]
  exact List.mem_singleton.2 rfl
 have h2 : ∃ name u ty, (Rows.laid_errors_errorType : DataW Unit).handleName? = some name ∧ (Tryz.prog.cutTypes.find? (·.1 == "internal/reflectlite.rtype")).map (·.2) = some u ∧ ty < Tryz.prog.types.size ∧ Tryz.prog.rowNamed ty name = true ∧ W.var? Tryz.prog "errors.errorType" = some #[.iface u (.agg #[typeHandle Tryz.prog ty])] := h' _ hm0
 obtain ⟨name, u, ty, e1, e2, e3, e4, e5⟩ := h2
 have en : name = [101, 114, 114, 111, 114] := (Option.some.inj e1).symm
 subst en
 obtain rfl := Option.some.inj (rtT.symm.trans e2)
 have hm : ty ∈ (List.range 280).filter fun t => Tryz.prog.rowNamed t [101, 114, 114, 111, 114] := List.mem_filter.2 ⟨List.mem_range.2 (by rw [← typesN]; exact e3), e4⟩
 rw [oneRow] at hm
 obtain rfl := List.mem_singleton.1 hm
 have hh : typeHandle Tryz.prog 60 = .pointer (some ⟨5, 60, none⟩) := by kernel_rfl
 rw [hh] at e5
 have h3 : W.cell? ⟨0, 0, none⟩ = some (.iface 125 (.agg #[.pointer (some ⟨5, 60, none⟩)])) := by simpa using World.var?_cell et e5 0
 exact h3
theorem door_met (os : Os) (args : Array Value) : laidMetH Tryz.prog [("math/bits.deBruijn32tab", Rows.laid_math_bits_deBruijn32tab), ("math/bits.deBruijn64tab", Rows.laid_math_bits_deBruijn64tab), ("internal/strconv.uint64pow10", Rows.laid_internal_strconv_uint64pow10), ("errors.errorType", Rows.laid_errors_errorType)] ((World.doorLaid Tryz.prog 400 os).forCall (fun _ _ => 0) ⟨#[], args, []⟩).memory :=
 laidMetH_of_parts (laidMet_of_run' 8 (by kernel_rfl) (by kernel_rfl)) (by kernel_rfl)
end Go.Proofs.YtanhhihechakhaaGreatDoor
set_option linter.unusedVariables false
set_option linter.unusedSimpArgs false
namespace Go.Proofs.YtanhhihechakhaaGreatDoor.E
open Go.ChangeShapes Go.WideShapes Go.ChangeAt Go.RowKit
def Wt {H : Type} (P : Program) (t : TypeId) (d : DataW H) : Prop := ∀ x ∈ d.weights P t, x ≤ reachBytes
theorem wt_all {H : Type} {P : Program} {e : TypeId} : ∀ {ds : List (DataW H)}, (∀ x ∈ DataW.weightsAll P e ds, x ≤ reachBytes) → ∀ d ∈ ds, Wt P e d
 | [], _, d, hd => (List.not_mem_nil hd).elim
 | y :: ds, h, d, hd => by
  unfold DataW.weightsAll at h
  rcases List.mem_cons.1 hd with rfl | hd
  · exact fun x hx => h x (List.mem_append_left _ hx)
  · exact wt_all (fun x hx => h x (List.mem_append_right _ hx)) d hd
theorem wt_each {H : Type} {P : Program} : ∀ {ts : List TypeId} {ds : List (DataW H)}, (∀ x ∈ DataW.weightsEach P ts ds, x ≤ reachBytes) → ∀ (j : Nat) (t : TypeId) (d : DataW H), ts[j]? = some t → ds[j]? = some d → Wt P t d
 | [], _, _, j, t, d, ht, _ => by simp at ht
 | _ :: _, [], _, j, t, d, _, hd => by simp at hd
 | t0 :: ts, d0 :: ds, h, j, t, d, ht, hd => by
  unfold DataW.weightsEach at h
  cases j with
  | zero =>
   simp only [List.getElem?_cons_zero, Option.some.injEq] at ht hd
   subst ht hd
   exact fun x hx => h x (List.mem_append_left _ hx)
  | succ j => exact wt_each (fun x hx => h x (List.mem_append_right _ hx)) j t d (by simpa using ht) (by simpa using hd)
theorem wt_struct {H : Type} {P : Program} {t : TypeId} {fs : Array Field} {parts : List (DataW H)} (hs : P.underlying t = some (.struct fs)) (h : Wt P t (.agg parts))   : ∀ (j : Nat) (f : Field) (d : DataW H), fs[j]? = some f → parts[j]? = some d → Wt P f.type d := fun j f d hf hd => by
 unfold Wt at h
 unfold DataW.weights at h
 rw [hs] at h
 exact wt_each h j f.type d (by simp [hf]) hd
theorem wt_slice {H : Type} {P : Program} {t e : TypeId} {elems spare : List (DataW H)} (hs : P.underlying t = some (.slice e)) (h : Wt P t (.slice elems spare)) : elems.length * P.bytesOf e ≤ reachBytes ∧ ∀ d ∈ elems, Wt P e d := by
 unfold Wt at h
 unfold DataW.weights at h
 rw [hs] at h
 simp only at h
 refine ⟨Nat.le_trans (Nat.mul_le_mul_right _ (Nat.le_add_right _ _)) (h _ (List.mem_cons_self)), wt_all fun x hx => h x (List.mem_cons_of_mem _ (List.mem_append_left _ hx))⟩
theorem wt_string {H : Type} {P : Program} {t : TypeId} {bs : List UInt8} (h : Wt (H := H) P t (.lit (.string bs))) : bs.length ≤ reachBytes := h _ (by simp [DataW.weights])
theorem wt_of {H : Type} {P : Program} {ts : List TypeId} {ds : List (DataW H)} (h : (DataW.weightsEach P ts ds).all (· ≤ reachBytes) = true) : ∀ x ∈ DataW.weightsEach P ts ds, x ≤ reachBytes := fun x hx => by
 have := List.all_eq_true.1 h x hx
 simpa using this
end Go.Proofs.YtanhhihechakhaaGreatDoor.E
set_option linter.unusedVariables false
set_option linter.unusedSimpArgs false
namespace Go.Proofs.YtanhhihechakhaaGreatDoor
open Go.ChangeShapes Go.WideShapes Go.ChangeAt Go.RowKit Go.Proofs.YtanhhihechakhaaGreatDoor.E
theorem holds0 (modest : Bool) (C : Checked) (f : FuncId) (args : Array Value) (w0 : World) : ({ modest := modest } : Assume).holds C.prog (lone (Frame.enter C.prog f args .normal) [] (w0.forCall (fun _ _ => 0) ⟨#[], args, []⟩)) := by
 simp only [Assume.holds]
 exact ⟨by simp, by simp, fun _ => Modest.zero, by simp, by simp⟩
theorem witness_row_shaped {H : Type} {enc : TypeId × Value → H} {C : Checked} {os : Os} {f : FuncId} {fn : Func} {s : OpenSpec} {conds : List PathCond} {apart : Bool} {laid : List (String × DataW Unit)} (modest : Bool) (w0 : World) (args : Array Value) (hos : w0.os = os)
    (hsh : (w0.forCall (fun _ _ => 0) ⟨#[], args, []⟩).Shaped C.prog) (hok : Input.okWideB C.prog (w0.forCall (fun _ _ => 0) ⟨#[], args, []⟩) f ⟨#[], args, []⟩ = true)
    (hrow : s.preRow enc C.prog fn conds apart laid (w0.forCall (fun _ _ => 0) ⟨#[], args, []⟩).memory args) :
    ∃ (w : World) (tape : Tape) (i : Input), w.os = os ∧ (w.forCall tape i).Shaped C.prog ∧ i.vars = [] ∧ Input.okWide C.prog (w.forCall tape i) .any w.heap.size f i ∧
     s.preRow enc C.prog fn conds apart laid (w.forCall tape i).memory i.args ∧ ({ modest := modest } : Assume).holds C.prog (lone (Frame.enter C.prog f i.args .normal) [] (w.forCall tape i)) :=
 ⟨w0, fun _ _ => 0, ⟨#[], args, []⟩, hos, hsh, (Input.okWide_of_okWideB (base := 0) hok).1, (Input.okWide_of_okWideB hok).2, hrow, holds0 modest C f args w0⟩
theorem bulk_mem {H : Type} : ∀ {l : List (DataW H)} {d : DataW H}, d ∈ l → Rows.uptoBulk d ≤ Rows.uptoBulkAll l
 | [], _, h => (List.not_mem_nil h).elim
 | x :: r, d, h => by
  simp only [Rows.uptoBulkAll]
  rcases List.mem_cons.1 h with rfl | h
  · omega
  · have := bulk_mem h
    omega
theorem bulk_at {H : Type} {ds : List (DataW H)} (h : Rows.uptoSmall H ds = true) (j : Nat) (d : DataW H) (hd : ds[j]? = some d) : Rows.uptoBulk d ≤ 1048576 := by
 have h1 : Rows.uptoBulkAll ds ≤ 1048576 := of_decide_eq_true h
 exact Nat.le_trans (bulk_mem (List.mem_of_getElem? hd)) h1
end Go.Proofs.YtanhhihechakhaaGreatDoor
set_option linter.unusedVariables false
namespace Go.Proofs.YtanhhihechakhaaGreatDoor
open Go.RowKit Go.Proofs.YtanhhihechakhaaGreatDoor.E
theorem bld_24_0x1x2 {x1 : Int} {x2 : Int} {x3 : ByteArray} (w : World) : (Instr.build 24 #[(0, .int .i64 x1), (1, .int .i64 x2), (2, .string x3)]).run Tryz.prog w = .ok (.agg #[.int .i64 x1, .int .i64 x2, .string x3, .slice none 0 0]) w := by kernel_rfl
theorem call_16 : callB Tryz.prog 16 = true := by kernel_rfl
theorem call_17 : callB Tryz.prog 17 = true := by kernel_rfl
theorem call_37 : callB Tryz.prog 37 = true := by kernel_rfl
theorem els_35 : elsB Tryz.prog 35 3 1 = true := by kernel_rfl
theorem sz_22 : szB Tryz.prog 22 1 = true := by kernel_rfl
theorem sz_2 : szB Tryz.prog 2 1 = true := by kernel_rfl
end Go.Proofs.YtanhhihechakhaaGreatDoor
set_option linter.unusedVariables false
set_option linter.unusedSimpArgs false
namespace Go.Proofs.YtanhhihechakhaaGreatDoor.ReadP
open Go.RowKit Go.Proofs.YtanhhihechakhaaGreatDoor.E Go.Proofs.YtanhhihechakhaaGreatDoor.ReplP Go.Proofs.YtanhhihechakhaaGreatDoor.TokP Go.Proofs.YtanhhihechakhaaGreatDoor.TermP Go.Proofs.YtanhhihechakhaaGreatDoor.WrP Go.Proofs.YtanhhihechakhaaGreatDoor.OpsP
inductive Rda : Tm → Prop
 | var (n : Int) (h0 : 0 ≤ n) (h1 : n < 4096) : Rda (.mk 1 n ⟨#[]⟩ [])
 | int (n : Int) (h0 : -9223372036854775808 ≤ n) (h1 : n ≤ 9223372036854775807) : Rda (.mk 2 n ⟨#[]⟩ [])
 | fn (s : ByteArray) (kids : List Tm) (hs : s.size ≤ 64) (ho : s.data.toList.all okB = true) (hat : ¬ (s = atS ∧ kids.length = 2)) (hk : ∀ t ∈ kids, Rda t) : Rda (.mk 3 0 s kids)
 | sld (n : Int) (t : Tm) (h0 : 0 ≤ n) (h1 : n < 16) (hv : varsT t = []) (hk : Rda t) : Rda (.mk 4 n ⟨#[]⟩ [t])
def Sn (y : List UInt8) : Prop := ∃ c r, y = c :: r ∧ (c = 32 ∨ c = 40 ∨ c = 41 ∨ c = 44)
def Sp (y : List UInt8) : Prop := ∃ c r, y = c :: r ∧ (c = 32 ∨ c = 41 ∨ c = 44)
theorem sp_sn {y : List UInt8} (h : Sp y) : Sn y := by
 obtain ⟨c, r, h1, h2⟩ := h
 exact ⟨c, r, h1, by rcases h2 with h | h | h <;> simp [h]⟩
theorem sn_run {p : UInt8 → Bool} (h32 : p 32 = false) (h40 : p 40 = false) (h41 : p 41 = false) (h44 : p 44 = false) {u y : List UInt8} (hy : Sn y) (hu : u.all p = true) : runB p (u ++ y) = u.length := by
 obtain ⟨c, r, rfl, hc⟩ := hy
 rcases hc with rfl | rfl | rfl | rfl
 · exact run_stop h32 u r hu
 · exact run_stop h40 u r hu
 · exact run_stop h41 u r hu
 · exact run_stop h44 u r hu
theorem quo_repl2 {y : List UInt8} (hy : Sn y) : ∀ (l out : List UInt8) (k : Nat), l.all okB = true → quoL (repl l ++ 39 :: y) out k = .tok 1 ⟨(out ++ l).toArray⟩ 0 true (k + (repl l).length + 1)
 | [], out, k, _ => by
  obtain ⟨c, r, rfl, hc⟩ := hy
  show quoL (39 :: c :: r) out k = _
  rw [quoL, if_pos rfl, if_neg (by rcases hc with rfl | rfl | rfl | rfl <;> decide), List.append_nil]
  rfl
 | c :: l, out, k, h => by
  rw [List.all_cons, Bool.and_eq_true] at h
  have e : repl (c :: l) = one c ++ repl l := by simp [repl]
  have ih := fun x k => quo_repl2 hy l (out ++ [x]) k h.2
  by_cases h10 : c = 10
  · subst h10
    have e1 : one 10 = [92, 110] := rfl
    rw [e, e1]
    show quoL (92 :: 110 :: (repl l ++ 39 :: y)) out k = _
    rw [quoL, if_neg (by decide), if_pos rfl]
    show quoL (repl l ++ 39 :: y) (out ++ [10]) (k + 2) = _
    rw [ih, List.append_assoc]
    congr 1
    simp; omega
  · by_cases h92 : c = 92
    · subst h92
      have e1 : one 92 = [92, 92] := rfl
      rw [e, e1]
      show quoL (92 :: 92 :: (repl l ++ 39 :: y)) out k = _
      rw [quoL, if_neg (by decide), if_pos rfl]
      show quoL (repl l ++ 39 :: y) (out ++ [92]) (k + 2) = _
      rw [ih, List.append_assoc]
      congr 1
      simp; omega
    · by_cases h39 : c = 39
      · subst h39
        have e1 : one 39 = [39, 39] := rfl
        rw [e, e1]
        show quoL (39 :: 39 :: (repl l ++ 39 :: y)) out k = _
        rw [quoL, if_pos rfl, if_pos rfl, ih, List.append_assoc]
        congr 1
        simp; omega
      · have e1 : one c = [c] := one_no (by unfold isSp; simp [h10, h92, h39])
        have hlow : ¬ (c.toNat : Int) < 32 := by
         have := h.1
         unfold okB at this
         simpa [h10] using this
        obtain ⟨d, t, ht⟩ : ∃ d t, repl l ++ 39 :: y = d :: t := by
         cases repl l with
         | nil => exact ⟨_, _, rfl⟩
         | cons d t => exact ⟨_, _, rfl⟩
        rw [e, e1]
        show quoL (c :: (repl l ++ 39 :: y)) out k = _
        rw [ht, quoL, if_neg h39, if_neg h92, if_neg hlow, ← ht, ih, List.append_assoc]
        congr 1
        simp; omega
def nmR (s : ByteArray) (q b : Bool) : RT := ⟨1, s, 0, q, b⟩
theorem err_tok (k : Int) (s : ByteArray) (n : Int) (q : Bool) (u : Nat) (hs : s.size ≤ 64) : errA (.tok k s n q u) = none := by
 unfold errA
 rw [if_neg]
 · rfl
 · rintro ⟨_, h9⟩
   have h9 : 64 < s.size := h9
   omega
theorem lxr_marks {b : Bool} {s : ByteArray} {y : List UInt8} {rs : List RT} (hs : s.size ≤ 64) (ho : s.data.toList.all okB = true) (hy : Sn y) (hk : LxR true y rs) : LxR b (39 :: (repl s.data.toList ++ [39]) ++ y) (nmR s true b :: rs) := by
 have e : 39 :: (repl s.data.toList ++ [39]) ++ y = 39 :: (repl s.data.toList ++ 39 :: y) := by simp
 have ha : one1 (39 :: (repl s.data.toList ++ 39 :: y)) = .tok 1 s 0 true (1 + (repl s.data.toList).length + 1) := by
  show quoL (repl s.data.toList ++ 39 :: y) [] 1 = _
  rw [quo_repl2 hy _ [] 1 ho, List.nil_append, ba_eta]
 rw [e]
 refine lxr_tok (by decide) (by decide) ha (err_tok _ _ _ _ _ hs) ?_ hk
 show (39 :: (repl s.data.toList ++ 39 :: y)).drop (1 + (repl s.data.toList).length + 1) = y
 have e2 : 39 :: (repl s.data.toList ++ 39 :: y) = (39 :: (repl s.data.toList ++ [39])) ++ y := by simp
 rw [e2]
 rw [show 1 + (repl s.data.toList).length + 1 = (39 :: (repl s.data.toList ++ [39])).length by simp; omega, List.drop_append_of_le_length (Nat.le_refl _), List.drop_length, List.nil_append]
theorem lxr_plain {b : Bool} {s : ByteArray} {c : UInt8} {t y : List UInt8} {rs : List RT} (e : s.data.toList = c :: t) (h1 : ¬ c = 37) (h2 : blankB c = false) (hl : s.size ≤ 64) (ha : one1 (c :: t ++ y) = firstT 1 (c :: t ++ y) (c :: t).length) (hk : LxR true y rs) : LxR b (c :: t ++ y) (nmR s false b :: rs) := by
 have e1 : firstT 1 (c :: t ++ y) (c :: t).length = .tok 1 s 0 false (c :: t).length := by
  unfold firstT
  rw [List.take_left, ← e, ba_eta]
 rw [e1] at ha
 refine lxr_tok h1 h2 ha (err_tok _ _ _ _ _ hl) ?_ hk
 show (c :: t ++ y).drop (c :: t).length = y
 rw [List.drop_append_of_le_length (Nat.le_refl _), List.drop_length, List.nil_append]
theorem lxr_name {b : Bool} {s : ByteArray} {y : List UInt8} {rs : List RT} (hs : s.size ≤ 64) (ho : s.data.toList.all okB = true) (hbr : ¬ s = brL) (hy : Sn y) (hk : LxR true y rs) : LxR b (qL s ++ y) (nmR s (!plainB s.data.toList) b :: rs) := by
 cases hp : plainB s.data.toList with
 | false =>
  rw [q_mark (by rw [hp]; decide)]
  exact lxr_marks hs ho hy hk
 | true =>
  rw [q_plain hp]
  have hpn := plain_pn hp
  cases hl : s.data.toList with
  | nil => rw [hl] at hpn; cases hpn
  | cons c t =>
   rw [hl] at hpn
   cases hpn with
   | br => exact absurd (ba_inj (by rw [hl]; rfl)) hbr
   | ex => exact lxr_plain hl (by decide) (by decide) hs rfl hk
   | se => exact lxr_plain hl (by decide) (by decide) hs rfl hk
   | lo _ _ hc hall =>
    have hkd := small_kind hc
    refine lxr_plain hl hkd.1 hkd.2 hs ?_ hk
    show oneC c (c :: t ++ y) = _
    unfold oneC
    rw [if_pos hc, sn_run (by decide) (by decide) (by decide) (by decide) hy hall]
   | si _ _ hall h46 =>
    have hc : signB c = true := by
     rw [List.all_cons, Bool.and_eq_true] at hall
     exact hall.1
    obtain ⟨k1, k2, k3, k4, k5, k6, k7, k8⟩ := sign_kind c hc
    refine lxr_plain hl (fun h9 => by rw [h9] at k8; exact absurd k8 (by decide)) k7 hs ?_ hk
    have hend : endsB (c :: t ++ y) = false := by
     unfold endsB
     cases t with
     | nil =>
      have h9 : ¬ c = 46 := fun h9 => h46 (by rw [h9])
      have : pointB ([c] ++ y) = false := by
       show (c == 46) = false
       rw [beq_eq_false_iff_ne]
       exact h9
      rw [this]
      rfl
     | cons d t =>
      have hd : signB d = true := by
       rw [List.all_cons, List.all_cons, Bool.and_eq_true, Bool.and_eq_true] at hall
       exact hall.2.1
      obtain ⟨_, _, _, _, _, _, d7, d8⟩ := sign_kind d hd
      obtain ⟨u, r, hyu, _⟩ := hy
      have e1 : (((c :: d :: t ++ y).length : Int) == 1) = false := by
       rw [beq_eq_false_iff_ne]
       simp only [List.length_append, List.length_cons]
       omega
      have e2 : afterB (c :: d :: t ++ y)[1]? = false := by
       show (blankB d || ((d.toNat : Int) == 37)) = false
       rw [d7, d8]
       rfl
      rw [e1, e2]
      simp
    show oneC c (c :: t ++ y) = _
    unfold oneC
    rw [k1, k2, k3, k4, k5, k6, hend, if_neg (by decide), if_neg (by decide), if_neg (by decide), if_neg (by decide), if_neg (by decide), if_neg (by decide), if_neg (by decide), if_pos hc, sn_run (by decide) (by decide) (by decide) (by decide) hy hall]
def numR (n : Int) (b : Bool) : RT := ⟨3, ⟨#[]⟩, IntKind.i64.wrap n, false, b⟩
theorem lxr_fig {b : Bool} {n : Nat} {y : List UInt8} {rs : List RT} (hn : n ≤ 9223372036854775808) (hy : Sn y) (hk : LxR true y rs) : LxR b (figL n ++ y) (numR (n : Int) b :: rs) := by
 have h := fig_all n n (Nat.le_refl _)
 obtain ⟨c, t, hc, hd⟩ := fig_cons n
 have hkd := digit_kind hd
 have hr : runB digitB (figL n ++ y) = (figL n).length := sn_run (by decide) (by decide) (by decide) (by decide) hy h.1
 have hf : figs (figL n ++ y) = figL n := by unfold figs; rw [hr, List.take_left]
 have hdt : dottedB (figL n ++ y) (figL n).length = false := by
  obtain ⟨u, r, rfl, hu⟩ := hy
  have e1 : (figL n ++ u :: r)[(figL n).length]? = some u := by rw [List.getElem?_append_right (Nat.le_refl _), Nat.sub_self]; rfl
  unfold dottedB
  rw [e1]
  have e2 : dotB (some u) = false := by rcases hu with rfl | rfl | rfl | rfl <;> rfl
  rw [e2]
  simp
 have ha : one1 (c :: (t ++ y)) = .tok 3 ⟨#[]⟩ (IntKind.i64.wrap (n : Int)) false (figL n).length := by
  rw [one_digit hd, ← List.cons_append, ← hc]
  unfold numA
  rw [hr, hdt, hf, h.2.1, if_neg (by decide), if_neg (by omega)]
 rw [hc, List.cons_append]
 refine lxr_tok hkd.1 hkd.2.1 ha (err_tok _ _ _ _ _ (by decide)) ?_ hk
 show (c :: (t ++ y)).drop (figL n).length = y
 rw [← List.cons_append, ← hc, List.drop_append_of_le_length (Nat.le_refl _), List.drop_length, List.nil_append]
def intRs (n : Int) (b : Bool) : List RT := if n < 0 then [namR [45] b, numR ((n.natAbs : Nat) : Int) true] else [numR ((n.toNat : Nat) : Int) b]
theorem lxr_itoa {b : Bool} {n : Int} {y : List UInt8} {rs : List RT} (h0 : -9223372036854775808 ≤ n) (h1 : n ≤ 9223372036854775807) (hy : Sn y) (hk : LxR true y rs) : LxR b (Lib.itoa n ++ y) (intRs n b ++ rs) := by
 unfold intRs
 by_cases hn : n < 0
 · rw [itoa_neg hn, if_pos hn, List.cons_append]
   obtain ⟨c, t, hc, hd⟩ := fig_cons n.natAbs
   have hsg : runB signB (figL n.natAbs ++ y) = 0 := by
    rw [hc, List.cons_append]
    have h2 : signB c = false := by
     cases hs : signB c with
     | false => rfl
     | true => rw [(sign_kind _ hs).2.2.1] at hd; cases hd
    exact runB_no h2
   exact lxr_sign (by decide) (by decide) hsg (lxr_fig (by omega) hy hk)
 · rw [itoa_pos hn, if_neg hn]
   exact lxr_fig (by omega) hy hk
def vnm (n : Int) : ByteArray := ⟨(95 :: Lib.itoa n).toArray⟩
def varR_ (n : Int) (b : Bool) : RT := ⟨2, vnm n, 0, false, b⟩
theorem digit_letter {c : UInt8} (h : digitB c = true) : letterB c = true := by unfold letterB; rw [h]; simp
theorem lxr_var {b : Bool} {n : Int} {y : List UInt8} {rs : List RT} (h0 : 0 ≤ n) (h1 : n < 4096) (hy : Sn y) (hk : LxR true y rs) : LxR b (95 :: Lib.itoa n ++ y) (varR_ n b :: rs) := by
 have h := fig_all n.toNat n.toNat (Nat.le_refl _)
 have hall : (95 :: Lib.itoa n).all letterB = true := by
  rw [itoa_pos (by omega), List.all_cons, List.all_eq_true.2 (fun c hc => digit_letter (List.all_eq_true.1 h.1 c hc))]
  rfl
 have hlen : (vnm n).size ≤ 64 := by
  have h9 : (vnm n).size = (95 :: Lib.itoa n).length := by unfold vnm; simp [ByteArray.size]
  have h8 := fig_len 3 n.toNat (by omega)
  rw [h9, List.length_cons, itoa_pos (by omega)]
  omega
 have ha : one1 (95 :: (Lib.itoa n ++ y)) = .tok 2 (vnm n) 0 false (95 :: Lib.itoa n).length := by
  show oneC 95 (95 :: Lib.itoa n ++ y) = _
  unfold oneC
  rw [if_neg (by decide), if_pos (by decide), sn_run (by decide) (by decide) (by decide) (by decide) hy hall]
  unfold firstT
  rw [List.take_left]
  rfl
 refine lxr_tok (by decide) (by decide) ha (err_tok _ _ _ _ _ hlen) ?_ hk
 show (95 :: Lib.itoa n ++ y).drop (95 :: Lib.itoa n).length = y
 rw [List.drop_append_of_le_length (Nat.le_refl _), List.drop_length, List.nil_append]
mutual
def tokR : Bool → Tm → List RT
 | b, .mk k n s kids => if k = 1 then [varR_ n b] else if k = 2 then intRs n b else if k = 3 then (if kids.length = 0 then (if s = brL then [pnR 91 b, pnR 93 true] else [nmR s (!plainB s.data.toList) b]) else nmR s (if s = brL then true else !plainB s.data.toList) b :: pnR 40 true :: (tokRs kids ++ [pnR 41 true])) else namR [64] b :: pnR 40 true :: (tokRs kids ++ pnR 44 true :: (intRs n true ++ [pnR 41 true]))
def tokRs : List Tm → List RT
 | [] => []
 | t :: r => tokR true t ++ tokRsC r
def tokRsC : List Tm → List RT
 | [] => []
 | t :: r => pnR 44 true :: (tokR true t ++ tokRsC r)
end
theorem tokR_var (b : Bool) (n : Int) : tokR b (.mk 1 n ⟨#[]⟩ []) = [varR_ n b] := by rw [tokR, if_pos rfl]
theorem tokR_int (b : Bool) (n : Int) : tokR b (.mk 2 n ⟨#[]⟩ []) = intRs n b := by rw [tokR, if_neg (by decide), if_pos rfl]
theorem tokR_br (b : Bool) : tokR b (.mk 3 0 brL []) = [pnR 91 b, pnR 93 true] := by
 rw [tokR, if_neg (by decide), if_neg (by decide), if_pos rfl, if_pos (show ([] : List Tm).length = 0 from rfl)]
 rfl
theorem tokR_atom (b : Bool) {s : ByteArray} (h : ¬ s = brL) : tokR b (.mk 3 0 s []) = [nmR s (!plainB s.data.toList) b] := by rw [tokR, if_neg (by decide), if_neg (by decide), if_pos rfl, if_pos (show ([] : List Tm).length = 0 from rfl), if_neg h]
theorem tokR_fn (b : Bool) (s : ByteArray) {kids : List Tm} (h : ¬ kids.length = 0) : tokR b (.mk 3 0 s kids) = nmR s (if s = brL then true else !plainB s.data.toList) b :: pnR 40 true :: (tokRs kids ++ [pnR 41 true]) := by rw [tokR, if_neg (by decide), if_neg (by decide), if_pos rfl, if_neg h]
theorem tokR_sld (b : Bool) (n : Int) (t : Tm) : tokR b (.mk 4 n ⟨#[]⟩ [t]) = namR [64] b :: pnR 40 true :: (tokR true t ++ pnR 44 true :: (intRs n true ++ [pnR 41 true])) := by
 rw [tokR, if_neg (by decide), if_neg (by decide), if_neg (by decide), tokRs, tokRsC, List.append_nil]
theorem tokRs_cons (t : Tm) (r : List Tm) : tokRs (t :: r) = tokR true t ++ tokRsC r := by rw [tokRs]
theorem tokRsC_cons (t : Tm) (r : List Tm) : tokRsC (t :: r) = pnR 44 true :: (tokR true t ++ tokRsC r) := by rw [tokRsC]
theorem tokRsC_nil : tokRsC [] = [] := by rw [tokRsC]
def LexT (t : Tm) : Prop := ∀ (b : Bool) (y : List UInt8) (rs : List RT), Sp y → LxR true y rs → LxR b (txt t ++ y) (tokR b t ++ rs)
theorem sp41 (y : List UInt8) : Sp (41 :: y) := ⟨41, y, rfl, .inr (.inl rfl)⟩
theorem sp44 (y : List UInt8) : Sp (44 :: y) := ⟨44, y, rfl, .inr (.inr rfl)⟩
theorem sn40 (y : List UInt8) : Sn (40 :: y) := ⟨40, y, rfl, .inr (.inl rfl)⟩
theorem spC (r : List Tm) (y : List UInt8) : Sp (txtsC r ++ 41 :: y) := by
 cases r with
 | nil => rw [txtsC_nil]; exact sp41 y
 | cons t r => rw [txtsC_cons]; exact ⟨44, _, rfl, .inr (.inr rfl)⟩
theorem lex_kidsC : ∀ (r : List Tm) (y : List UInt8) (rs : List RT), (∀ t ∈ r, LexT t) → LxR true (41 :: y) rs → LxR true (txtsC r ++ 41 :: y) (tokRsC r ++ rs)
 | [], y, rs, _, hk => by rw [txtsC_nil, tokRsC_nil]; exact hk
 | t :: r, y, rs, h, hk => by
  have ih := lex_kidsC r y rs (fun x hx => h x (List.mem_cons_of_mem _ hx)) hk
  have h1 := h t List.mem_cons_self true _ _ (spC r y) ih
  rw [txtsC_cons, tokRsC_cons, List.append_assoc, List.append_assoc]
  have h2 := lxr_punct (b := true) (c := 44) (by decide) h1
  have e : pnR 44 true :: (tokR true t ++ tokRsC r) ++ rs = pnR 44 true :: (tokR true t ++ (tokRsC r ++ rs)) := by simp
  rw [e]
  exact h2
theorem lex_kids {r : List Tm} (h0 : ¬ r.length = 0) {y : List UInt8} {rs : List RT} (h : ∀ t ∈ r, LexT t) (hk : LxR true (41 :: y) rs) : LxR true (txts r ++ 41 :: y) (tokRs r ++ rs) := by
 cases r with
 | nil => exact absurd rfl h0
 | cons t r =>
  have ih := lex_kidsC r y rs (fun x hx => h x (List.mem_cons_of_mem _ hx)) hk
  have h1 := h t List.mem_cons_self true _ _ (spC r y) ih
  rw [txts_cons, tokRs_cons, List.append_assoc, List.append_assoc]
  exact h1
theorem qL_br : qL brL = [91, 93] := q_plain (by decide)
theorem lex_txt : ∀ t : Tm, Rda t → LexT t := fun t => by
 induction t using Tm.ind with
 | h k n s kids ih =>
  intro hr b y rs hy hk
  have hn := sp_sn hy
  cases hr with
  | var _ h0 h1 =>
   rw [txt_v, tokR_var]
   exact lxr_var h0 h1 hn hk
  | int _ h0 h1 =>
   rw [txt_i, tokR_int]
   exact lxr_itoa h0 h1 hn hk
  | fn _ _ hs ho hat hkd =>
   rw [txt_fun rfl]
   by_cases hl : kids.length = 0
   · have : kids = [] := List.eq_nil_of_length_eq_zero hl
     subst this
     rw [if_pos (show ([] : List Tm).length = 0 from rfl)]
     by_cases hb : s = brL
     · subst hb
       rw [tokR_br, qL_br]
       exact lxr_punct (c := 91) (by decide) (lxr_punct (c := 93) (by decide) hk)
     · rw [tokR_atom b hb]
       exact lxr_name hs ho hb hn hk
   · rw [if_neg hl, tokR_fn b s hl]
     have h1 := lex_kids hl (y := y) (fun t ht => ih t ht (hkd t ht)) (lxr_punct (b := true) (c := 41) (by decide) hk)
     have h2 := lxr_punct (b := true) (c := 40) (by decide) h1
     have e : nmL s kids.length ++ [40] ++ txts kids ++ [41] ++ y = nmL s kids.length ++ (40 :: (txts kids ++ 41 :: y)) := by simp
     have e2 : nmR s (if s = brL then true else !plainB s.data.toList) b :: pnR 40 true :: (tokRs kids ++ [pnR 41 true]) ++ rs = nmR s (if s = brL then true else !plainB s.data.toList) b :: (pnR 40 true :: (tokRs kids ++ pnR 41 true :: rs)) := by simp
     rw [e, e2]
     by_cases hb : s = brL
     · subst hb
       have e3 : nmL brL kids.length = 39 :: (repl brL.data.toList ++ [39]) := by
        unfold nmL
        rw [if_pos ⟨rfl, by omega⟩]
        rfl
       rw [if_pos rfl, e3]
       exact lxr_marks (by decide) (by decide) (sn40 _) h2
     · have e3 : nmL s kids.length = qL s := by
        unfold nmL
        rw [if_neg (fun h9 => hb h9.1)]
       rw [if_neg hb, e3]
       exact lxr_name hs ho hb (sn40 _) h2
  | sld _ t h0 h1 hv hkt =>
   rw [Go.Proofs.YtanhhihechakhaaGreatDoor.WrP.txt_sealed, tokR_sld]
   have h2 := lxr_punct (b := true) (c := 41) (by decide) hk
   have h3 := lxr_itoa (b := true) (n := n) (by omega) (by omega) (sp_sn (sp41 y)) h2
   have h4 := lxr_punct (b := true) (c := 44) (by decide) h3
   have h5 := ih t (by simp) hkt true _ _ (sp44 _) h4
   have h6 := lxr_punct (b := true) (c := 40) (by decide) h5
   have h7 := lxr_sign (b := b) (c := 64) (by decide) (by decide) (by rw [runB_no (by decide)]) h6
   have e : namR [64] b :: pnR 40 true :: (tokR true t ++ pnR 44 true :: (intRs n true ++ [pnR 41 true])) ++ rs = namR [64] b :: pnR 40 true :: (tokR true t ++ pnR 44 true :: (intRs n true ++ pnR 41 true :: rs)) := by simp
   rw [e]
   exact h7
theorem lex_end {t : Tm} (h : Rda t) : LxR false (txt t ++ [32, 46]) (tokR false t ++ [endR false]) :=
 lex_txt t h false _ _ ⟨32, [46], rfl, .inl rfl⟩ (lxr_sp (lxr_end false))
end Go.Proofs.YtanhhihechakhaaGreatDoor.ReadP

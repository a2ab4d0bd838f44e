/- The laws on levels: each returns true, and turns nothing. Conditions: none. Printed by a program of this session. -/
import Derived.Test.YtbeocnhbbhidaaaFactsB
import Derived.Test.YtbeocnhbbhidaaaLattLaw
set_option linter.unusedVariables false
set_option linter.unusedSimpArgs false
namespace Go.Proofs.Ytbeocnhbbhidaaa
open Go.RowKit Go.Proofs.Ytbeocnhbbhidaaa.E Go.Proofs.Ytbeocnhbbhidaaa.LattP
theorem newGood_c (k : Nat) (A : Option Addr) (l c : Nat) (p : List (Int × Int)) (h : Hp) (hF : Fine (k : Int) p) (hp : PairsAt h A p) (hl : p.length = l) (hm : l ≤ 9223372036854775807) :
    CX Try.prog 24 [.int .i64 (k : Int), .slice A l c] h (fun g : Nat => newV (some g, 0)) (fun g h' => h' g = some (lat 67 k (ru k p))) := fun w hw => by
  refine (new_c k A l c p h hp hl hm w hw).mono fun e w' ⟨x, h', he, hx, hg⟩ => ?_
  rcases hx with ⟨g, rfl, _, hg2⟩ | ⟨rfl, ha⟩ | ⟨rfl, ha, hL⟩
  · exact ⟨g, h', he, hg2, hg⟩
  · exact absurd ⟨hF.1, hF.2.1, hF.2.2.1⟩ ha
  · exact absurd hF.2.2.2 hL
theorem newArg_c (n : Int) (A : Option Addr) (l c : Nat) (p : List (Int × Int)) (h : Hp) (hF : ¬ Args n p) (hp : PairsAt h A p) (hl : p.length = l) (hm : l ≤ 9223372036854775807) :
    C0 Try.prog 24 [.int .i64 n, .slice A l c] h (newV (none, 1)) := fun w hw => by
  refine (new_c n A l c p h hp hl hm w hw).mono fun e w' ⟨x, h', he, hx, hg⟩ => ?_
  rcases hx with ⟨g, rfl, ha, hg2⟩ | ⟨rfl, ha⟩ | ⟨rfl, ha, hL⟩
  · exact absurd ⟨ha.1, ha.2.1, ha.2.2.1⟩ hF
  · exact ⟨he, hg.frm⟩
  · exact absurd ha hF
theorem newForm_c (n : Int) (A : Option Addr) (l c : Nat) (p : List (Int × Int)) (h : Hp) (hA : Args n p) (hF : ¬ IsLatt n.toNat p) (hp : PairsAt h A p) (hl : p.length = l) (hm : l ≤ 9223372036854775807) :
    C0 Try.prog 24 [.int .i64 n, .slice A l c] h (newV (none, 4)) := fun w hw => by
  refine (new_c n A l c p h hp hl hm w hw).mono fun e w' ⟨x, h', he, hx, hg⟩ => ?_
  rcases hx with ⟨g, rfl, ha, hg2⟩ | ⟨rfl, ha⟩ | ⟨rfl, ha, hL⟩
  · exact absurd ha.2.2.2 hF
  · exact absurd hA ha
  · exact ⟨he, hg.frm⟩
theorem newErr_c (n : Int) (A : Option Addr) (l c : Nat) (p : List (Int × Int)) (hl : p.length = l) (hm : l ≤ 9223372036854775807) (hF : ¬ Fine n p) :
    ∃ e : Int, (e != 0) = true ∧ ∀ h, PairsAt h A p → C0 Try.prog 24 [.int .i64 n, .slice A l c] h (newV (none, e)) := by
  by_cases hA : Args n p
  · exact ⟨4, by decide, fun h hp => newForm_c n A l c p h hA (fun hL => hF ⟨hA.1, hA.2.1, hA.2.2, hL⟩) hp hl hm⟩
  · exact ⟨1, by decide, fun h hp => newArg_c n A l c p h hA hp hl hm⟩
section
variable {g n : Nat} {p : List (Int × Int)} {h : Hp} {j m : Nat → Nat → Nat} {lo hi : Nat}
theorem Lat2.pos {lo hi : Nat} (L : Lat2 n p j m lo hi) : 1 ≤ n := by have := L.lon; omega
theorem joinJ_c (hg : h g = some (lat 67 n (ru n p))) (hn : n ≤ 16) (L : Lat2 n p j m lo hi) {x y : Nat} (hx : x < n) (hy : y < n) : C0 Try.prog 27 [.pointer (some ⟨g, 0, none⟩), .int .i64 (x : Int), .int .i64 (y : Int)] h (.int .i64 ((j x y : Nat) : Int)) := by
  rw [← L.je x y hx hy]
  exact join_c g n _ h hg (Lat2.pos L) hn (ru_lt hn p) _ _
theorem meetJ_c (hg : h g = some (lat 67 n (ru n p))) (hn : n ≤ 16) (L : Lat2 n p j m lo hi) {x y : Nat} (hx : x < n) (hy : y < n) : C0 Try.prog 28 [.pointer (some ⟨g, 0, none⟩), .int .i64 (x : Int), .int .i64 (y : Int)] h (.int .i64 ((m x y : Nat) : Int)) := by
  rw [← L.me x y hx hy]
  exact meet_c g n _ h hg (Lat2.pos L) hn (ru_lt hn p) _ _
theorem leqJ_c (hg : h g = some (lat 67 n (ru n p))) (hn : n ≤ 16) (L : Lat2 n p j m lo hi) (x y : Nat) : C0 Try.prog 29 [.pointer (some ⟨g, 0, none⟩), .int .i64 (x : Int), .int .i64 (y : Int)] h (.bool (leqI n (ru n p) x y)) :=
  leq_c g n _ h hg (Lat2.pos L) hn (ru_lt hn p) _ _
theorem botJ_c (hg : h g = some (lat 67 n (ru n p))) (hn : n ≤ 16) (L : Lat2 n p j m lo hi) : C0 Try.prog 31 [.pointer (some ⟨g, 0, none⟩)] h (.int .i64 (lo : Int)) := by
  rw [← L.loe]
  exact bot_c g n _ h hg (Lat2.pos L) hn (ru_lt hn p)
theorem topJ_c (hg : h g = some (lat 67 n (ru n p))) (hn : n ≤ 16) (L : Lat2 n p j m lo hi) : C0 Try.prog 32 [.pointer (some ⟨g, 0, none⟩)] h (.int .i64 (hi : Int)) := by
  rw [← L.hie]
  exact top_c g n _ h hg (Lat2.pos L) hn (ru_lt hn p)
end
set_option maxRecDepth 100000 in
theorem few_c (A : Option Addr) (l c : Nat) (h : Hp) (hlc : l ≤ c) : C0 Try.prog 25 [.slice A l c] h (.slice A (min l 100) c) := by
  refine enter0 Try.func25 rfl rfl rfl (fun w => ?_)
  refine cy_seq ?_
  refine cy_region ?_
  refine sy_assign rfl rfl rfl ?_
  refine sy_nil rfl ?_
  refine ny_next ?_
  refine cy_seq ?_
  refine cy_seq ?_
  refine cy_region ?_
  refine sy_move rfl rfl rfl ?_
  refine sy_len rfl (len_slice Try.underlying36 _ _ _) rfl rfl ?_
  refine sy_cmp rfl rfl rfl rfl rfl ?_
  refine sy_nil rfl ?_
  refine ny_next ?_
  refine cy_cond rfl (fun hc5 => ?_) (fun hc5 => ?_)
  · have hl1 : 100 < l := by have := of_decide_eq_true hc5; omega
    refine cy_seq ?_
    refine cy_region ?_
    refine sy_move rfl rfl rfl ?_
    refine sy_cutTo (k0 := 100) els_36 rfl rfl (by omega) rfl rfl ?_
    refine sy_assign rfl rfl rfl ?_
    refine sy_nil rfl ?_
    refine ny_next ?_
    refine cy_ret ?_
    refine ny_thenR ?_
    refine ny_finR (res1 rfl rfl) (fun w hs => ⟨?_, hs.frm⟩)
    first | rw [show min l 100 = 100 by omega] | rw [show min l 100 = l by omega]
  · have hl1 : ¬ 100 < l := by have := of_decide_eq_false hc5; omega
    refine cy_skip ?_
    refine ny_next ?_
    refine cy_seq ?_
    refine cy_region ?_
    refine sy_move rfl rfl rfl ?_
    refine sy_assign rfl rfl rfl ?_
    refine sy_nil rfl ?_
    refine ny_next ?_
    refine cy_ret ?_
    refine ny_finR (res1 rfl rfl) (fun w hs => ⟨?_, hs.frm⟩)
    first | rw [show min l 100 = 100 by omega] | rw [show min l 100 = l by omega]
set_option maxRecDepth 100000 in
theorem shown_c (h : Hp) : C0 Try.prog 23 [] h (.bool true) := by
  refine enter0 Try.func23 rfl rfl rfl (fun w => ?_)
  refine cy_seq ?_
  refine cy_region ?_
  refine sy_assign rfl rfl rfl ?_
  refine sy_nil rfl ?_
  refine ny_next ?_
  refine cy_seq ?_
  refine cy_region ?_
  refine sy_build rfl (fun w => bld_46_0x1 w) rfl rfl ?_
  refine sy_build rfl (fun w => bld_46_0x1 w) rfl rfl ?_
  refine sy_build rfl (fun w => bld_46_0x1 w) rfl rfl ?_
  refine sy_build rfl (fun w => bld_46_0x1 w) rfl rfl ?_
  refine sy_buildSlice rfl (fun w => bsl_36_4_0x1x2x3 w) rfl rfl (fun b8 hb8 hM8 => ?_) (by simp)
  refine sy_frz 0 rfl (by simp) (fun h2 hle2 hb2 => ?_)
  have hP0 : PairsAt h2 (some ⟨b8, 0, none⟩) p0 := pairs_blk (p := p0) hb2
  refine sy_callx call_24 rfl (newGood_c 4 _ 4 4 p0 h2 ⟨by decide, by decide, p0_in, p0_lat.1⟩ hP0 rfl (by decide)) rfl rfl (fun g h4 hg4 hle4 => ?_)
  refine sy_move rfl rfl rfl ?_
  refine sy_extract rfl rfl rfl rfl ?_
  refine sy_extract rfl rfl rfl rfl ?_
  refine sy_assign rfl rfl rfl ?_
  refine sy_assign rfl rfl rfl ?_
  refine sy_nil rfl ?_
  refine ny_next ?_
  refine cy_seq ?_
  refine cy_region ?_
  refine sy_move rfl rfl rfl ?_
  refine sy_cmp rfl rfl rfl rfl rfl ?_
  refine sy_move rfl rfl rfl ?_
  refine sy_setT (d := 14) rfl rfl (by first | rfl | decide | simp) ?_
  refine sy_move rfl rfl rfl ?_
  refine sy_eqp Try.underlying37 rfl rfl rfl rfl rfl ?_
  refine sy_pickT rfl rfl rfl rfl ?_
  refine sy_move rfl rfl rfl ?_
  refine sy_setT (d := 18) rfl rfl (by first | rfl | decide | simp) ?_
  refine sy_move rfl rfl rfl ?_
  refine sy_call rfl call_27 rfl (join_c g 4 (ru 4 p0) _ hg4 (by decide) (by decide) (ru_lt (by decide) p0) 1 2) rfl rfl ?_
  refine sy_cmp rfl rfl rfl rfl rfl ?_
  refine sy_setT (d := 21) rfl rfl (by rw [p0_join]; rfl) ?_
  refine sy_pickT rfl rfl rfl rfl ?_
  refine sy_move rfl rfl rfl ?_
  refine sy_move rfl rfl rfl ?_
  refine sy_call rfl call_28 rfl (meet_c g 4 (ru 4 p0) _ hg4 (by decide) (by decide) (ru_lt (by decide) p0) 1 2) rfl rfl ?_
  refine sy_cmp rfl rfl rfl rfl rfl ?_
  refine sy_setT (d := 26) rfl rfl (by rw [p0_meet]; rfl) ?_
  refine sy_pickT rfl rfl rfl rfl ?_
  refine sy_move rfl rfl rfl ?_
  refine sy_move rfl rfl rfl ?_
  refine sy_call rfl call_29 rfl (leq_c g 4 (ru 4 p0) _ hg4 (by decide) (by decide) (ru_lt (by decide) p0) 0 3) rfl rfl ?_
  refine sy_setT (d := 30) rfl rfl p0_leq ?_
  refine sy_pickT rfl rfl rfl rfl ?_
  refine sy_assign rfl rfl rfl ?_
  refine sy_nil rfl ?_
  refine ny_next ?_
  refine cy_ret ?_
  exact ny_finR (res1 rfl rfl) (fun w hs => ⟨rfl, hs.frm⟩)
set_option maxRecDepth 100000 in
theorem rules_bad (nb : UInt8) (A : Option Addr) (l c L : Nat) (q : List (Int × Int)) (ca cb cc : UInt8) (h : Hp) (hlc : l ≤ c) (hL : L = min l 100) (hq : PairsAt h A q) (hql : q.length = L) (e : Int) (he : (e != 0) = true) (hb : ∀ h, PairsAt h A q → C0 Try.prog 24 [.int .i64 (nb.toNat : Int), .slice A L c] h (newV (none, e))) : C0 Try.prog 8 [.int .u8 (nb.toNat : Int), .slice A l c, .int .u8 (ca.toNat : Int), .int .u8 (cb.toNat : Int), .int .u8 (cc.toNat : Int)] h (.bool true) := by
  have hnb := nb.toNat_lt
  refine enter0 Try.func8 rfl rfl rfl (fun w => ?_)
  refine cy_seq ?_
  refine cy_region ?_
  refine sy_assign rfl rfl rfl ?_
  refine sy_nil rfl ?_
  refine ny_next ?_
  refine cy_seq ?_
  refine cy_region ?_
  refine sy_call rfl call_23 rfl (shown_c _) rfl rfl ?_
  refine sy_assign rfl rfl rfl ?_
  refine sy_nil rfl ?_
  refine ny_next ?_
  refine cy_seq ?_
  refine cy_region ?_
  refine sy_move rfl rfl rfl ?_
  refine sy_convi Try.underlying5 Try.underlying3 rfl (by omega) (by omega) rfl rfl ?_
  refine sy_move rfl rfl rfl ?_
  refine sy_call rfl call_25 rfl (show C0 Try.prog 25 [.slice A l c] _ (.slice A L c) from hL ▸ few_c A l c _ hlc) rfl rfl ?_
  refine sy_call rfl call_24 rfl (hb _ hq) rfl rfl ?_
  refine sy_move rfl rfl rfl ?_
  refine sy_extract rfl rfl rfl rfl ?_
  refine sy_extract rfl rfl rfl rfl ?_
  refine sy_assign rfl rfl rfl ?_
  refine sy_assign rfl rfl rfl ?_
  refine sy_nil rfl ?_
  refine ny_next ?_
  refine cy_seq ?_
  refine cy_seq ?_
  refine cy_region ?_
  refine sy_move rfl rfl rfl ?_
  refine sy_cmp rfl rfl rfl rfl rfl ?_
  refine sy_setT (d := 27) rfl rfl he ?_
  refine sy_move rfl rfl rfl ?_
  refine sy_skip rfl rfl rfl ?_
  refine sy_skip rfl rfl rfl ?_
  refine sy_pickT rfl rfl rfl rfl ?_
  refine sy_nil rfl ?_
  refine ny_next ?_
  refine cy_condT rfl ?_
  refine cy_seq ?_
  refine cy_region ?_
  refine sy_move rfl rfl rfl ?_
  refine sy_move rfl rfl rfl ?_
  refine sy_setT (d := 33) rfl rfl (by first | rfl | decide | simp) ?_
  refine sy_move rfl rfl rfl ?_
  refine sy_cmp rfl rfl rfl rfl rfl ?_
  refine sy_setT (d := 35) rfl rfl he ?_
  refine sy_pickT rfl rfl rfl rfl ?_
  refine sy_assign rfl rfl rfl ?_
  refine sy_nil rfl ?_
  refine ny_next ?_
  refine cy_ret ?_
  refine ny_thenR ?_
  exact ny_finR (res1 rfl rfl) (fun w hs => ⟨rfl, hs.frm⟩)
set_option maxRecDepth 100000 in
theorem rules_good (nb : UInt8) (A : Option Addr) (l c L : Nat) (q : List (Int × Int)) (ca cb cc : UInt8) (h : Hp) (hlc : l ≤ c) (hL : L = min l 100) (hq : PairsAt h A q) (hql : q.length = L) (x : Nat) (hx : x = ca.toNat % nb.toNat) (y : Nat) (hy : y = cb.toNat % nb.toNat) (z : Nat) (hz : z = cc.toNat % nb.toNat) (hF : Fine (nb.toNat : Int) q) (j m : Nat → Nat → Nat) (lo hi : Nat) (L2 : Lat2 nb.toNat q j m lo hi) : C0 Try.prog 8 [.int .u8 (nb.toNat : Int), .slice A l c, .int .u8 (ca.toNat : Int), .int .u8 (cb.toNat : Int), .int .u8 (cc.toNat : Int)] h (.bool true) := by
  have hnb := nb.toNat_lt
  have hN1 : 1 ≤ nb.toNat := by have := hF.1; omega
  have hN16 : nb.toNat ≤ 16 := by have := hF.2.1; omega
  have hxn : x < nb.toNat := by rw [hx]; exact Nat.mod_lt _ hN1
  have hyn : y < nb.toNat := by rw [hy]; exact Nat.mod_lt _ hN1
  have hzn : z < nb.toNat := by rw [hz]; exact Nat.mod_lt _ hN1
  have hca2 := ca.toNat_lt
  have hcb2 := cb.toNat_lt
  have hcc2 := cc.toNat_lt
  refine enter0 Try.func8 rfl rfl rfl (fun w => ?_)
  refine cy_seq ?_
  refine cy_region ?_
  refine sy_assign rfl rfl rfl ?_
  refine sy_nil rfl ?_
  refine ny_next ?_
  refine cy_seq ?_
  refine cy_region ?_
  refine sy_call rfl call_23 rfl (shown_c _) rfl rfl ?_
  refine sy_assign rfl rfl rfl ?_
  refine sy_nil rfl ?_
  refine ny_next ?_
  refine cy_seq ?_
  refine cy_region ?_
  refine sy_move rfl rfl rfl ?_
  refine sy_convi Try.underlying5 Try.underlying3 rfl (by omega) (by omega) rfl rfl ?_
  refine sy_move rfl rfl rfl ?_
  refine sy_call rfl call_25 rfl (show C0 Try.prog 25 [.slice A l c] _ (.slice A L c) from hL ▸ few_c A l c _ hlc) rfl rfl ?_
  refine sy_callx call_24 rfl (newGood_c nb.toNat A L c q _ hF hq hql (by omega)) rfl rfl (fun g h2 hg hleh2 => ?_)
  refine sy_move rfl rfl rfl ?_
  refine sy_extract rfl rfl rfl rfl ?_
  refine sy_extract rfl rfl rfl rfl ?_
  refine sy_assign rfl rfl rfl ?_
  refine sy_assign rfl rfl rfl ?_
  refine sy_nil rfl ?_
  refine ny_next ?_
  refine cy_seq ?_
  refine cy_seq ?_
  refine cy_region ?_
  refine sy_move rfl rfl rfl ?_
  refine sy_cmp rfl rfl rfl rfl rfl ?_
  refine sy_setF (d := 27) rfl rfl rfl ?_
  refine sy_move rfl rfl rfl ?_
  refine sy_move rfl rfl rfl ?_
  refine sy_eqp Try.underlying37 rfl rfl rfl rfl rfl ?_
  refine sy_setF (d := 30) rfl rfl rfl ?_
  refine sy_pickF rfl rfl rfl rfl ?_
  refine sy_nil rfl ?_
  refine ny_next ?_
  refine cy_condF rfl ?_
  refine cy_skip ?_
  refine ny_next ?_
  refine cy_seq ?_
  refine cy_region ?_
  refine sy_move rfl rfl rfl ?_
  refine sy_convi Try.underlying5 Try.underlying3 rfl (by omega) (by omega) rfl rfl ?_
  refine sy_move rfl rfl rfl ?_
  refine sy_call rfl call_26 rfl (len_c _ _ _ _ hg) rfl rfl ?_
  refine sy_rem (z := ((x : Nat) : Int)) rfl rfl (by omega) (by omega) (by omega) (by omega) rfl rfl ?_
  refine sy_assign rfl rfl rfl ?_
  refine sy_nil rfl ?_
  refine ny_next ?_
  refine cy_seq ?_
  refine cy_region ?_
  refine sy_move rfl rfl rfl ?_
  refine sy_convi Try.underlying5 Try.underlying3 rfl (by omega) (by omega) rfl rfl ?_
  refine sy_move rfl rfl rfl ?_
  refine sy_call rfl call_26 rfl (len_c _ _ _ _ hg) rfl rfl ?_
  refine sy_rem (z := ((y : Nat) : Int)) rfl rfl (by omega) (by omega) (by omega) (by omega) rfl rfl ?_
  refine sy_assign rfl rfl rfl ?_
  refine sy_nil rfl ?_
  refine ny_next ?_
  refine cy_seq ?_
  refine cy_region ?_
  refine sy_move rfl rfl rfl ?_
  refine sy_convi Try.underlying5 Try.underlying3 rfl (by omega) (by omega) rfl rfl ?_
  refine sy_move rfl rfl rfl ?_
  refine sy_call rfl call_26 rfl (len_c _ _ _ _ hg) rfl rfl ?_
  refine sy_rem (z := ((z : Nat) : Int)) rfl rfl (by omega) (by omega) (by omega) (by omega) rfl rfl ?_
  refine sy_assign rfl rfl rfl ?_
  refine sy_nil rfl ?_
  refine ny_next ?_
  refine cy_seq ?_
  refine cy_seq ?_
  refine cy_region ?_
  refine sy_move rfl rfl rfl ?_
  refine sy_move rfl rfl rfl ?_
  refine sy_move rfl rfl rfl ?_
  refine sy_call rfl call_27 rfl (joinJ_c hg hN16 L2 hxn hyn) rfl rfl ?_
  refine sy_move rfl rfl rfl ?_
  refine sy_move rfl rfl rfl ?_
  refine sy_move rfl rfl rfl ?_
  refine sy_call rfl call_27 rfl (joinJ_c hg hN16 L2 hyn hxn) rfl rfl ?_
  refine sy_cmp rfl rfl rfl rfl rfl ?_
  refine sy_setF (d := 60) rfl rfl (by rw [cast_bne, L2.jc hxn hyn]; simp) ?_
  refine sy_move rfl rfl rfl ?_
  refine sy_move rfl rfl rfl ?_
  refine sy_move rfl rfl rfl ?_
  refine sy_move rfl rfl rfl ?_
  refine sy_call rfl call_28 rfl (meetJ_c hg hN16 L2 hxn hyn) rfl rfl ?_
  refine sy_move rfl rfl rfl ?_
  refine sy_move rfl rfl rfl ?_
  refine sy_move rfl rfl rfl ?_
  refine sy_call rfl call_28 rfl (meetJ_c hg hN16 L2 hyn hxn) rfl rfl ?_
  refine sy_cmp rfl rfl rfl rfl rfl ?_
  refine sy_setF (d := 70) rfl rfl (by rw [cast_bne, L2.mc hxn hyn]; simp) ?_
  refine sy_pickF rfl rfl rfl rfl ?_
  refine sy_move rfl rfl rfl ?_
  refine sy_move rfl rfl rfl ?_
  refine sy_move rfl rfl rfl ?_
  refine sy_move rfl rfl rfl ?_
  refine sy_call rfl call_27 rfl (joinJ_c hg hN16 L2 hxn hxn) rfl rfl ?_
  refine sy_move rfl rfl rfl ?_
  refine sy_cmp rfl rfl rfl rfl rfl ?_
  refine sy_setF (d := 78) rfl rfl (by rw [cast_bne, L2.ji hxn]; simp) ?_
  refine sy_pickF rfl rfl rfl rfl ?_
  refine sy_move rfl rfl rfl ?_
  refine sy_move rfl rfl rfl ?_
  refine sy_move rfl rfl rfl ?_
  refine sy_move rfl rfl rfl ?_
  refine sy_call rfl call_28 rfl (meetJ_c hg hN16 L2 hxn hxn) rfl rfl ?_
  refine sy_move rfl rfl rfl ?_
  refine sy_cmp rfl rfl rfl rfl rfl ?_
  refine sy_setF (d := 86) rfl rfl (by rw [cast_bne, L2.mi hxn]; simp) ?_
  refine sy_pickF rfl rfl rfl rfl ?_
  refine sy_nil rfl ?_
  refine ny_next ?_
  refine cy_condF rfl ?_
  refine cy_skip ?_
  refine ny_next ?_
  refine cy_seq ?_
  refine cy_seq ?_
  refine cy_region ?_
  refine sy_move rfl rfl rfl ?_
  refine sy_move rfl rfl rfl ?_
  refine sy_move rfl rfl rfl ?_
  refine sy_move rfl rfl rfl ?_
  refine sy_call rfl call_27 rfl (joinJ_c hg hN16 L2 hxn hyn) rfl rfl ?_
  refine sy_move rfl rfl rfl ?_
  refine sy_call rfl call_27 rfl (joinJ_c hg hN16 L2 (L2.jn _ _ hxn hyn) hzn) rfl rfl ?_
  refine sy_move rfl rfl rfl ?_
  refine sy_move rfl rfl rfl ?_
  refine sy_move rfl rfl rfl ?_
  refine sy_move rfl rfl rfl ?_
  refine sy_move rfl rfl rfl ?_
  refine sy_call rfl call_27 rfl (joinJ_c hg hN16 L2 hyn hzn) rfl rfl ?_
  refine sy_call rfl call_27 rfl (joinJ_c hg hN16 L2 hxn (L2.jn _ _ hyn hzn)) rfl rfl ?_
  refine sy_cmp rfl rfl rfl rfl rfl ?_
  refine sy_setF (d := 102) rfl rfl (by rw [cast_bne, L2.ja hxn hyn hzn]; simp) ?_
  refine sy_move rfl rfl rfl ?_
  refine sy_move rfl rfl rfl ?_
  refine sy_move rfl rfl rfl ?_
  refine sy_move rfl rfl rfl ?_
  refine sy_move rfl rfl rfl ?_
  refine sy_call rfl call_28 rfl (meetJ_c hg hN16 L2 hxn hyn) rfl rfl ?_
  refine sy_move rfl rfl rfl ?_
  refine sy_call rfl call_28 rfl (meetJ_c hg hN16 L2 (L2.mn _ _ hxn hyn) hzn) rfl rfl ?_
  refine sy_move rfl rfl rfl ?_
  refine sy_move rfl rfl rfl ?_
  refine sy_move rfl rfl rfl ?_
  refine sy_move rfl rfl rfl ?_
  refine sy_move rfl rfl rfl ?_
  refine sy_call rfl call_28 rfl (meetJ_c hg hN16 L2 hyn hzn) rfl rfl ?_
  refine sy_call rfl call_28 rfl (meetJ_c hg hN16 L2 hxn (L2.mn _ _ hyn hzn)) rfl rfl ?_
  refine sy_cmp rfl rfl rfl rfl rfl ?_
  refine sy_setF (d := 118) rfl rfl (by rw [cast_bne, L2.ma hxn hyn hzn]; simp) ?_
  refine sy_pickF rfl rfl rfl rfl ?_
  refine sy_nil rfl ?_
  refine ny_next ?_
  refine cy_condF rfl ?_
  refine cy_skip ?_
  refine ny_next ?_
  refine cy_seq ?_
  refine cy_region ?_
  refine sy_move rfl rfl rfl ?_
  refine sy_move rfl rfl rfl ?_
  refine sy_setT (d := 121) rfl rfl (by first | rfl | decide | simp) ?_
  refine sy_move rfl rfl rfl ?_
  refine sy_move rfl rfl rfl ?_
  refine sy_move rfl rfl rfl ?_
  refine sy_move rfl rfl rfl ?_
  refine sy_move rfl rfl rfl ?_
  refine sy_call rfl call_28 rfl (meetJ_c hg hN16 L2 hxn hyn) rfl rfl ?_
  refine sy_call rfl call_27 rfl (joinJ_c hg hN16 L2 hxn (L2.mn _ _ hxn hyn)) rfl rfl ?_
  refine sy_move rfl rfl rfl ?_
  refine sy_cmp rfl rfl rfl rfl rfl ?_
  refine sy_setT (d := 130) rfl rfl (by rw [cast_beq, L2.jab hxn hyn]; simp) ?_
  refine sy_pickT rfl rfl rfl rfl ?_
  refine sy_move rfl rfl rfl ?_
  refine sy_move rfl rfl rfl ?_
  refine sy_move rfl rfl rfl ?_
  refine sy_move rfl rfl rfl ?_
  refine sy_move rfl rfl rfl ?_
  refine sy_move rfl rfl rfl ?_
  refine sy_call rfl call_27 rfl (joinJ_c hg hN16 L2 hxn hyn) rfl rfl ?_
  refine sy_call rfl call_28 rfl (meetJ_c hg hN16 L2 hxn (L2.jn _ _ hxn hyn)) rfl rfl ?_
  refine sy_move rfl rfl rfl ?_
  refine sy_cmp rfl rfl rfl rfl rfl ?_
  refine sy_setT (d := 141) rfl rfl (by rw [cast_beq, L2.mab hxn hyn]; simp) ?_
  refine sy_pickT rfl rfl rfl rfl ?_
  refine sy_move rfl rfl rfl ?_
  refine sy_move rfl rfl rfl ?_
  refine sy_move rfl rfl rfl ?_
  refine sy_move rfl rfl rfl ?_
  refine sy_call rfl call_29 rfl (leqJ_c hg hN16 L2 _ _) rfl rfl ?_
  refine sy_move rfl rfl rfl ?_
  refine sy_move rfl rfl rfl ?_
  refine sy_move rfl rfl rfl ?_
  refine sy_call rfl call_27 rfl (joinJ_c hg hN16 L2 hxn hyn) rfl rfl ?_
  refine sy_move rfl rfl rfl ?_
  refine sy_cmp rfl rfl rfl rfl rfl ?_
  refine sy_eqb Try.underlying4 rfl rfl rfl rfl ?_
  refine sy_setT (d := 154) rfl rfl (by rw [cast_beq, L2.lj hxn hyn]; simp) ?_
  refine sy_pickT rfl rfl rfl rfl ?_
  refine sy_move rfl rfl rfl ?_
  refine sy_move rfl rfl rfl ?_
  refine sy_move rfl rfl rfl ?_
  refine sy_move rfl rfl rfl ?_
  refine sy_call rfl call_29 rfl (leqJ_c hg hN16 L2 _ _) rfl rfl ?_
  refine sy_move rfl rfl rfl ?_
  refine sy_move rfl rfl rfl ?_
  refine sy_move rfl rfl rfl ?_
  refine sy_call rfl call_28 rfl (meetJ_c hg hN16 L2 hxn hyn) rfl rfl ?_
  refine sy_move rfl rfl rfl ?_
  refine sy_cmp rfl rfl rfl rfl rfl ?_
  refine sy_eqb Try.underlying4 rfl rfl rfl rfl ?_
  refine sy_setT (d := 167) rfl rfl (by rw [cast_beq, L2.lm hxn hyn]; simp) ?_
  refine sy_pickT rfl rfl rfl rfl ?_
  refine sy_assign rfl rfl rfl ?_
  refine sy_nil rfl ?_
  refine ny_next ?_
  refine cy_ret ?_
  refine ny_finR (res1 rfl rfl) (fun w hs => ⟨?_, hs.frm⟩)
  rfl
theorem rules_c (nb : UInt8) (A : Option Addr) (l c L : Nat) (q : List (Int × Int)) (ca cb cc : UInt8) (h : Hp) (hlc : l ≤ c) (hL : L = min l 100) (hq : PairsAt h A q) (hql : q.length = L) : C0 Try.prog 8 [.int .u8 (nb.toNat : Int), .slice A l c, .int .u8 (ca.toNat : Int), .int .u8 (cb.toNat : Int), .int .u8 (cc.toNat : Int)] h (.bool true) := by
  by_cases hF : Fine (nb.toNat : Int) q
  · obtain ⟨j, m, lo, hi, L2⟩ := IsLatt.two (n := nb.toNat) hF.2.2.2 (by have := hF.1; omega)
    exact rules_good nb A l c L q ca cb cc h hlc hL hq hql _ rfl _ rfl _ rfl hF j m lo hi L2
  · obtain ⟨e, he, hb⟩ := newErr_c nb.toNat A L c q hql (by omega) hF
    exact rules_bad nb A l c L q ca cb cc h hlc hL hq hql e he hb
end Go.Proofs.Ytbeocnhbbhidaaa

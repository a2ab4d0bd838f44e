/- More laws on levels: each returns true, and turns nothing. Conditions: none. Printed by a program of this session. -/
import Derived.Test.YtbeocnhbbhidaaaFactsC
import Derived.Test.YtbeocnhbbhidaaaLattLaw2
set_option linter.unusedVariables false
set_option linter.unusedSimpArgs false
namespace Go.Proofs.Ytbeocnhbbhidaaa
open Go.RowKit Go.Proofs.Ytbeocnhbbhidaaa.E Go.Proofs.Ytbeocnhbbhidaaa.LattP
theorem joinV_c {g n : Nat} {p : List (Int × Int)} {h : Hp} {a b z : Int} (hg : h g = some (lat 67 n (ru n p))) (hn1 : 1 ≤ n) (hn : n ≤ 16) (hz : joinI n (ru n p) a b = z) : C0 Try.prog 27 [.pointer (some ⟨g, 0, none⟩), .int .i64 a, .int .i64 b] h (.int .i64 z) := by
  rw [← hz]
  exact join_c g n _ h hg hn1 hn (ru_lt hn p) _ _
theorem meetV_c {g n : Nat} {p : List (Int × Int)} {h : Hp} {a b z : Int} (hg : h g = some (lat 67 n (ru n p))) (hn1 : 1 ≤ n) (hn : n ≤ 16) (hz : meetI n (ru n p) a b = z) : C0 Try.prog 28 [.pointer (some ⟨g, 0, none⟩), .int .i64 a, .int .i64 b] h (.int .i64 z) := by
  rw [← hz]
  exact meet_c g n _ h hg hn1 hn (ru_lt hn p) _ _
theorem leqV_c {g n : Nat} {p : List (Int × Int)} {h : Hp} {a b : Int} {z : Bool} (hg : h g = some (lat 67 n (ru n p))) (hn1 : 1 ≤ n) (hn : n ≤ 16) (hz : leqI n (ru n p) a b = z) : C0 Try.prog 29 [.pointer (some ⟨g, 0, none⟩), .int .i64 a, .int .i64 b] h (.bool z) := by
  rw [← hz]
  exact leq_c g n _ h hg hn1 hn (ru_lt hn p) _ _
theorem botV_c {g n : Nat} {p : List (Int × Int)} {h : Hp} {z : Int} (hg : h g = some (lat 67 n (ru n p))) (hn1 : 1 ≤ n) (hn : n ≤ 16) (hz : botI n (ru n p) = z) : C0 Try.prog 31 [.pointer (some ⟨g, 0, none⟩)] h (.int .i64 z) := by
  rw [← hz]
  exact bot_c g n _ h hg hn1 hn (ru_lt hn p)
theorem topV_c {g n : Nat} {p : List (Int × Int)} {h : Hp} {z : Int} (hg : h g = some (lat 67 n (ru n p))) (hn1 : 1 ≤ n) (hn : n ≤ 16) (hz : topI n (ru n p) = z) : C0 Try.prog 32 [.pointer (some ⟨g, 0, none⟩)] h (.int .i64 z) := by
  rw [← hz]
  exact top_c g n _ h hg hn1 hn (ru_lt hn p)
set_option maxRecDepth 100000 in
theorem grows_bad (nb : UInt8) (A : Option Addr) (l c L : Nat) (q : List (Int × Int)) (ca cb cc : UInt8) (h : Hp) (hlc : l ≤ c) (hL : L = min l 100) (hq : PairsAt h A q) (hql : q.length = L) (e : Int) (he : (e != 0) = true) (hb : ∀ h, PairsAt h A q → C0 Try.prog 24 [.int .i64 (nb.toNat : Int), .slice A L c] h (newV (none, e))) : C0 Try.prog 10 [.int .u8 (nb.toNat : Int), .slice A l c, .int .u8 (ca.toNat : Int), .int .u8 (cb.toNat : Int), .int .u8 (cc.toNat : Int)] h (.bool true) := by
  have hnb := nb.toNat_lt
  refine enter0 Try.func10 rfl rfl rfl (fun w => ?_)
  refine cy_seq ?_
  refine cy_region ?_
  refine sy_assign rfl rfl rfl ?_
  refine sy_nil rfl ?_
  refine ny_next ?_
  refine cy_seq ?_
  refine cy_region ?_
  refine sy_call rfl call_23 rfl (shown_c _) rfl rfl ?_
  refine sy_assign rfl rfl rfl ?_
  refine sy_nil rfl ?_
  refine ny_next ?_
  refine cy_seq ?_
  refine cy_region ?_
  refine sy_move rfl rfl rfl ?_
  refine sy_convi Try.underlying5 Try.underlying3 rfl (by omega) (by omega) rfl rfl ?_
  refine sy_move rfl rfl rfl ?_
  refine sy_call rfl call_25 rfl (show C0 Try.prog 25 [.slice A l c] _ (.slice A L c) from hL ▸ few_c A l c _ hlc) rfl rfl ?_
  refine sy_call rfl call_24 rfl (hb _ hq) rfl rfl ?_
  refine sy_move rfl rfl rfl ?_
  refine sy_extract rfl rfl rfl rfl ?_
  refine sy_extract rfl rfl rfl rfl ?_
  refine sy_assign rfl rfl rfl ?_
  refine sy_assign rfl rfl rfl ?_
  refine sy_nil rfl ?_
  refine ny_next ?_
  refine cy_seq ?_
  refine cy_seq ?_
  refine cy_region ?_
  refine sy_move rfl rfl rfl ?_
  refine sy_cmp rfl rfl rfl rfl rfl ?_
  refine sy_setT (d := 27) rfl rfl he ?_
  refine sy_move rfl rfl rfl ?_
  refine sy_skip rfl rfl rfl ?_
  refine sy_skip rfl rfl rfl ?_
  refine sy_pickT rfl rfl rfl rfl ?_
  refine sy_nil rfl ?_
  refine ny_next ?_
  refine cy_condT rfl ?_
  refine cy_seq ?_
  refine cy_region ?_
  refine sy_move rfl rfl rfl ?_
  refine sy_move rfl rfl rfl ?_
  refine sy_setT (d := 33) rfl rfl (by first | rfl | decide | simp) ?_
  refine sy_move rfl rfl rfl ?_
  refine sy_cmp rfl rfl rfl rfl rfl ?_
  refine sy_setT (d := 35) rfl rfl he ?_
  refine sy_pickT rfl rfl rfl rfl ?_
  refine sy_assign rfl rfl rfl ?_
  refine sy_nil rfl ?_
  refine ny_next ?_
  refine cy_ret ?_
  refine ny_thenR ?_
  exact ny_finR (res1 rfl rfl) (fun w hs => ⟨rfl, hs.frm⟩)
set_option maxRecDepth 100000 in
theorem grows_good (nb : UInt8) (A : Option Addr) (l c L : Nat) (q : List (Int × Int)) (ca cb cc : UInt8) (h : Hp) (hlc : l ≤ c) (hL : L = min l 100) (hq : PairsAt h A q) (hql : q.length = L) (x : Nat) (hx : x = ca.toNat % nb.toNat) (y : Nat) (hy : y = cb.toNat % nb.toNat) (z : Nat) (hz : z = cc.toNat % nb.toNat) (hF : Fine (nb.toNat : Int) q) (j m : Nat → Nat → Nat) (lo hi : Nat) (L2 : Lat2 nb.toNat q j m lo hi) : C0 Try.prog 10 [.int .u8 (nb.toNat : Int), .slice A l c, .int .u8 (ca.toNat : Int), .int .u8 (cb.toNat : Int), .int .u8 (cc.toNat : Int)] h (.bool true) := by
  have hnb := nb.toNat_lt
  have hN1 : 1 ≤ nb.toNat := by have := hF.1; omega
  have hN16 : nb.toNat ≤ 16 := by have := hF.2.1; omega
  have hxn : x < nb.toNat := by rw [hx]; exact Nat.mod_lt _ hN1
  have hyn : y < nb.toNat := by rw [hy]; exact Nat.mod_lt _ hN1
  have hzn : z < nb.toNat := by rw [hz]; exact Nat.mod_lt _ hN1
  have hca2 := ca.toNat_lt
  have hcb2 := cb.toNat_lt
  have hcc2 := cc.toNat_lt
  refine enter0 Try.func10 rfl rfl rfl (fun w => ?_)
  refine cy_seq ?_
  refine cy_region ?_
  refine sy_assign rfl rfl rfl ?_
  refine sy_nil rfl ?_
  refine ny_next ?_
  refine cy_seq ?_
  refine cy_region ?_
  refine sy_call rfl call_23 rfl (shown_c _) rfl rfl ?_
  refine sy_assign rfl rfl rfl ?_
  refine sy_nil rfl ?_
  refine ny_next ?_
  refine cy_seq ?_
  refine cy_region ?_
  refine sy_move rfl rfl rfl ?_
  refine sy_convi Try.underlying5 Try.underlying3 rfl (by omega) (by omega) rfl rfl ?_
  refine sy_move rfl rfl rfl ?_
  refine sy_call rfl call_25 rfl (show C0 Try.prog 25 [.slice A l c] _ (.slice A L c) from hL ▸ few_c A l c _ hlc) rfl rfl ?_
  refine sy_callx call_24 rfl (newGood_c nb.toNat A L c q _ hF hq hql (by omega)) rfl rfl (fun g h2 hg hleh2 => ?_)
  refine sy_move rfl rfl rfl ?_
  refine sy_extract rfl rfl rfl rfl ?_
  refine sy_extract rfl rfl rfl rfl ?_
  refine sy_assign rfl rfl rfl ?_
  refine sy_assign rfl rfl rfl ?_
  refine sy_nil rfl ?_
  refine ny_next ?_
  refine cy_seq ?_
  refine cy_seq ?_
  refine cy_region ?_
  refine sy_move rfl rfl rfl ?_
  refine sy_cmp rfl rfl rfl rfl rfl ?_
  refine sy_setF (d := 27) rfl rfl rfl ?_
  refine sy_move rfl rfl rfl ?_
  refine sy_move rfl rfl rfl ?_
  refine sy_eqp Try.underlying37 rfl rfl rfl rfl rfl ?_
  refine sy_setF (d := 30) rfl rfl rfl ?_
  refine sy_pickF rfl rfl rfl rfl ?_
  refine sy_nil rfl ?_
  refine ny_next ?_
  refine cy_condF rfl ?_
  refine cy_skip ?_
  refine ny_next ?_
  refine cy_seq ?_
  refine cy_region ?_
  refine sy_move rfl rfl rfl ?_
  refine sy_convi Try.underlying5 Try.underlying3 rfl (by omega) (by omega) rfl rfl ?_
  refine sy_move rfl rfl rfl ?_
  refine sy_call rfl call_26 rfl (len_c _ _ _ _ hg) rfl rfl ?_
  refine sy_rem (z := ((x : Nat) : Int)) rfl rfl (by omega) (by omega) (by omega) (by omega) rfl rfl ?_
  refine sy_assign rfl rfl rfl ?_
  refine sy_nil rfl ?_
  refine ny_next ?_
  refine cy_seq ?_
  refine cy_region ?_
  refine sy_move rfl rfl rfl ?_
  refine sy_convi Try.underlying5 Try.underlying3 rfl (by omega) (by omega) rfl rfl ?_
  refine sy_move rfl rfl rfl ?_
  refine sy_call rfl call_26 rfl (len_c _ _ _ _ hg) rfl rfl ?_
  refine sy_rem (z := ((y : Nat) : Int)) rfl rfl (by omega) (by omega) (by omega) (by omega) rfl rfl ?_
  refine sy_assign rfl rfl rfl ?_
  refine sy_nil rfl ?_
  refine ny_next ?_
  refine cy_seq ?_
  refine cy_region ?_
  refine sy_move rfl rfl rfl ?_
  refine sy_convi Try.underlying5 Try.underlying3 rfl (by omega) (by omega) rfl rfl ?_
  refine sy_move rfl rfl rfl ?_
  refine sy_call rfl call_26 rfl (len_c _ _ _ _ hg) rfl rfl ?_
  refine sy_rem (z := ((z : Nat) : Int)) rfl rfl (by omega) (by omega) (by omega) (by omega) rfl rfl ?_
  refine sy_assign rfl rfl rfl ?_
  refine sy_nil rfl ?_
  refine ny_next ?_
  refine cy_seq ?_
  refine cy_seq ?_
  refine cy_region ?_
  refine sy_move rfl rfl rfl ?_
  refine sy_move rfl rfl rfl ?_
  refine sy_move rfl rfl rfl ?_
  refine sy_call rfl call_29 rfl (leqJ_c hg hN16 L2 _ _) rfl rfl ?_
  refine sy_not rfl rfl rfl ?_
  refine sy_nil rfl ?_
  refine ny_next ?_
  refine cy_cond rfl (fun hc56 => ?_) (fun hc56 => ?_)
  · refine cy_seq ?_
    refine cy_region ?_
    refine sy_move rfl rfl rfl ?_
    refine sy_assign rfl rfl rfl ?_
    refine sy_nil rfl ?_
    refine ny_next ?_
    refine cy_ret ?_
    refine ny_thenR ?_
    refine ny_finR (res1 rfl rfl) (fun w hs => ⟨?_, hs.frm⟩)
    rfl
  · have hxy : LattP.Reach q x y := (leq_ru hxn hyn).1 (by simpa using hc56)
    refine cy_skip ?_
    refine ny_next ?_
    refine cy_seq ?_
    refine cy_region ?_
    refine sy_move rfl rfl rfl ?_
    refine sy_move rfl rfl rfl ?_
    refine sy_setT (d := 59) rfl rfl (by first | rfl | decide | simp) ?_
    refine sy_move rfl rfl rfl ?_
    refine sy_move rfl rfl rfl ?_
    refine sy_move rfl rfl rfl ?_
    refine sy_move rfl rfl rfl ?_
    refine sy_call rfl call_27 rfl (joinJ_c hg hN16 L2 hxn hzn) rfl rfl ?_
    refine sy_move rfl rfl rfl ?_
    refine sy_move rfl rfl rfl ?_
    refine sy_move rfl rfl rfl ?_
    refine sy_call rfl call_27 rfl (joinJ_c hg hN16 L2 hyn hzn) rfl rfl ?_
    refine sy_call rfl call_29 rfl (leqJ_c hg hN16 L2 _ _) rfl rfl ?_
    refine sy_setT (d := 69) rfl rfl ((leq_ru (L2.jn _ _ hxn hzn) (L2.jn _ _ hyn hzn)).2 (L2.gj hxn hyn hzn hxy)) ?_
    refine sy_pickT rfl rfl rfl rfl ?_
    refine sy_move rfl rfl rfl ?_
    refine sy_move rfl rfl rfl ?_
    refine sy_move rfl rfl rfl ?_
    refine sy_move rfl rfl rfl ?_
    refine sy_move rfl rfl rfl ?_
    refine sy_call rfl call_28 rfl (meetJ_c hg hN16 L2 hxn hzn) rfl rfl ?_
    refine sy_move rfl rfl rfl ?_
    refine sy_move rfl rfl rfl ?_
    refine sy_move rfl rfl rfl ?_
    refine sy_call rfl call_28 rfl (meetJ_c hg hN16 L2 hyn hzn) rfl rfl ?_
    refine sy_call rfl call_29 rfl (leqJ_c hg hN16 L2 _ _) rfl rfl ?_
    refine sy_setT (d := 81) rfl rfl ((leq_ru (L2.mn _ _ hxn hzn) (L2.mn _ _ hyn hzn)).2 (L2.gm hxn hyn hzn hxy)) ?_
    refine sy_pickT rfl rfl rfl rfl ?_
    refine sy_move rfl rfl rfl ?_
    refine sy_move rfl rfl rfl ?_
    refine sy_move rfl rfl rfl ?_
    refine sy_move rfl rfl rfl ?_
    refine sy_move rfl rfl rfl ?_
    refine sy_move rfl rfl rfl ?_
    refine sy_call rfl call_27 rfl (joinJ_c hg hN16 L2 hyn hzn) rfl rfl ?_
    refine sy_call rfl call_29 rfl (leqJ_c hg hN16 L2 _ _) rfl rfl ?_
    refine sy_setT (d := 90) rfl rfl ((leq_ru hxn (L2.jn _ _ hyn hzn)).2 (hxy.trans (L2.jl _ _ hyn hzn))) ?_
    refine sy_pickT rfl rfl rfl rfl ?_
    refine sy_move rfl rfl rfl ?_
    refine sy_move rfl rfl rfl ?_
    refine sy_move rfl rfl rfl ?_
    refine sy_move rfl rfl rfl ?_
    refine sy_call rfl call_29 rfl (leqJ_c hg hN16 L2 _ _) rfl rfl ?_
    refine sy_not rfl rfl rfl ?_
    refine sy_move rfl rfl rfl ?_
    refine sy_cond (d := 98) _ rfl rfl (fun hg98 => ?_) (fun hg98 => ?_)
    · refine sy_skip rfl rfl rfl ?_
      refine sy_skip rfl rfl rfl ?_
      refine sy_skip rfl rfl rfl ?_
      refine sy_skip rfl rfl rfl ?_
      refine sy_pickT rfl rfl rfl rfl ?_
      refine sy_pickT rfl rfl rfl rfl ?_
      refine sy_assign rfl rfl rfl ?_
      refine sy_nil rfl ?_
      refine ny_next ?_
      refine cy_ret ?_
      refine ny_finR (res1 rfl rfl) (fun w hs => ⟨?_, hs.frm⟩)
      rfl
    · refine sy_move rfl rfl rfl ?_
      refine sy_move rfl rfl rfl ?_
      refine sy_move rfl rfl rfl ?_
      refine sy_call rfl call_29 rfl (leqJ_c hg hN16 L2 _ _) rfl rfl ?_
      refine sy_setT (d := 102) rfl rfl ((leq_ru hxn hzn).2 (hxy.trans ((leq_ru hyn hzn).1 (by simpa using hg98)))) ?_
      refine sy_pickF rfl rfl rfl rfl ?_
      refine sy_pickT rfl rfl rfl rfl ?_
      refine sy_assign rfl rfl rfl ?_
      refine sy_nil rfl ?_
      refine ny_next ?_
      refine cy_ret ?_
      refine ny_finR (res1 rfl rfl) (fun w hs => ⟨?_, hs.frm⟩)
      rfl
theorem grows_c (nb : UInt8) (A : Option Addr) (l c L : Nat) (q : List (Int × Int)) (ca cb cc : UInt8) (h : Hp) (hlc : l ≤ c) (hL : L = min l 100) (hq : PairsAt h A q) (hql : q.length = L) : C0 Try.prog 10 [.int .u8 (nb.toNat : Int), .slice A l c, .int .u8 (ca.toNat : Int), .int .u8 (cb.toNat : Int), .int .u8 (cc.toNat : Int)] h (.bool true) := by
  by_cases hF : Fine (nb.toNat : Int) q
  · obtain ⟨j, m, lo, hi, L2⟩ := IsLatt.two (n := nb.toNat) hF.2.2.2 (by have := hF.1; omega)
    exact grows_good nb A l c L q ca cb cc h hlc hL hq hql _ rfl _ rfl _ rfl hF j m lo hi L2
  · obtain ⟨e, he, hb⟩ := newErr_c nb.toNat A L c q hql (by omega) hF
    exact grows_bad nb A l c L q ca cb cc h hlc hL hq hql e he hb
set_option maxRecDepth 100000 in
theorem pairs_bad (nb : UInt8) (A : Option Addr) (l c L : Nat) (q : List (Int × Int)) (ca cb cc : UInt8) (h : Hp) (hlc : l ≤ c) (hL : L = min l 100) (hq : PairsAt h A q) (hql : q.length = L) (e : Int) (he : (e != 0) = true) (hb : ∀ h, PairsAt h A q → C0 Try.prog 24 [.int .i64 (nb.toNat : Int), .slice A L c] h (newV (none, e))) : C0 Try.prog 9 [.int .u8 (nb.toNat : Int), .slice A l c, .int .u8 (ca.toNat : Int), .int .u8 (cb.toNat : Int), .int .u8 (cc.toNat : Int)] h (.bool true) := by
  have hnb := nb.toNat_lt
  refine enter0 Try.func9 rfl rfl rfl (fun w => ?_)
  refine cy_seq ?_
  refine cy_region ?_
  refine sy_assign rfl rfl rfl ?_
  refine sy_nil rfl ?_
  refine ny_next ?_
  refine cy_seq ?_
  refine cy_region ?_
  refine sy_call rfl call_23 rfl (shown_c _) rfl rfl ?_
  refine sy_assign rfl rfl rfl ?_
  refine sy_nil rfl ?_
  refine ny_next ?_
  refine cy_seq ?_
  refine cy_region ?_
  refine sy_move rfl rfl rfl ?_
  refine sy_call rfl call_25 rfl (show C0 Try.prog 25 [.slice A l c] _ (.slice A L c) from hL ▸ few_c A l c _ hlc) rfl rfl ?_
  refine sy_assign rfl rfl rfl ?_
  refine sy_nil rfl ?_
  refine ny_next ?_
  refine cy_seq ?_
  refine cy_region ?_
  refine sy_move rfl rfl rfl ?_
  refine sy_convi Try.underlying5 Try.underlying3 rfl (by omega) (by omega) rfl rfl ?_
  refine sy_move rfl rfl rfl ?_
  refine sy_call rfl call_24 rfl (hb _ hq) rfl rfl ?_
  refine sy_move rfl rfl rfl ?_
  refine sy_extract rfl rfl rfl rfl ?_
  refine sy_extract rfl rfl rfl rfl ?_
  refine sy_assign rfl rfl rfl ?_
  refine sy_assign rfl rfl rfl ?_
  refine sy_nil rfl ?_
  refine ny_next ?_
  refine cy_seq ?_
  refine cy_seq ?_
  refine cy_region ?_
  refine sy_move rfl rfl rfl ?_
  refine sy_cmp rfl rfl rfl rfl rfl ?_
  refine sy_setT (d := 33) rfl rfl he ?_
  refine sy_move rfl rfl rfl ?_
  refine sy_skip rfl rfl rfl ?_
  refine sy_skip rfl rfl rfl ?_
  refine sy_pickT rfl rfl rfl rfl ?_
  refine sy_nil rfl ?_
  refine ny_next ?_
  refine cy_condT rfl ?_
  refine cy_seq ?_
  refine cy_region ?_
  refine sy_move rfl rfl rfl ?_
  refine sy_move rfl rfl rfl ?_
  refine sy_setT (d := 39) rfl rfl (by first | rfl | decide | simp) ?_
  refine sy_move rfl rfl rfl ?_
  refine sy_cmp rfl rfl rfl rfl rfl ?_
  refine sy_setT (d := 41) rfl rfl he ?_
  refine sy_pickT rfl rfl rfl rfl ?_
  refine sy_assign rfl rfl rfl ?_
  refine sy_nil rfl ?_
  refine ny_next ?_
  refine cy_ret ?_
  refine ny_thenR ?_
  exact ny_finR (res1 rfl rfl) (fun w hs => ⟨rfl, hs.frm⟩)
set_option maxRecDepth 100000 in
theorem pairs_good (nb : UInt8) (A : Option Addr) (l c L : Nat) (q : List (Int × Int)) (ca cb cc : UInt8) (h : Hp) (hlc : l ≤ c) (hL : L = min l 100) (hq : PairsAt h A q) (hql : q.length = L) (x : Nat) (hx : x = ca.toNat % nb.toNat) (y : Nat) (hy : y = cb.toNat % nb.toNat) (z : Nat) (hz : z = cc.toNat % nb.toNat) (hF : Fine (nb.toNat : Int) q) (j m : Nat → Nat → Nat) (lo hi : Nat) (L2 : Lat2 nb.toNat q j m lo hi) : C0 Try.prog 9 [.int .u8 (nb.toNat : Int), .slice A l c, .int .u8 (ca.toNat : Int), .int .u8 (cb.toNat : Int), .int .u8 (cc.toNat : Int)] h (.bool true) := by
  have hnb := nb.toNat_lt
  have hN1 : 1 ≤ nb.toNat := by have := hF.1; omega
  have hN16 : nb.toNat ≤ 16 := by have := hF.2.1; omega
  have hxn : x < nb.toNat := by rw [hx]; exact Nat.mod_lt _ hN1
  have hyn : y < nb.toNat := by rw [hy]; exact Nat.mod_lt _ hN1
  have hzn : z < nb.toNat := by rw [hz]; exact Nat.mod_lt _ hN1
  have hca2 := ca.toNat_lt
  have hcb2 := cb.toNat_lt
  have hcc2 := cc.toNat_lt
  refine enter0 Try.func9 rfl rfl rfl (fun w => ?_)
  refine cy_seq ?_
  refine cy_region ?_
  refine sy_assign rfl rfl rfl ?_
  refine sy_nil rfl ?_
  refine ny_next ?_
  refine cy_seq ?_
  refine cy_region ?_
  refine sy_call rfl call_23 rfl (shown_c _) rfl rfl ?_
  refine sy_assign rfl rfl rfl ?_
  refine sy_nil rfl ?_
  refine ny_next ?_
  refine cy_seq ?_
  refine cy_region ?_
  refine sy_move rfl rfl rfl ?_
  refine sy_call rfl call_25 rfl (show C0 Try.prog 25 [.slice A l c] _ (.slice A L c) from hL ▸ few_c A l c _ hlc) rfl rfl ?_
  refine sy_assign rfl rfl rfl ?_
  refine sy_nil rfl ?_
  refine ny_next ?_
  refine cy_seq ?_
  refine cy_region ?_
  refine sy_move rfl rfl rfl ?_
  refine sy_convi Try.underlying5 Try.underlying3 rfl (by omega) (by omega) rfl rfl ?_
  refine sy_move rfl rfl rfl ?_
  refine sy_callx call_24 rfl (newGood_c nb.toNat A L c q _ hF hq hql (by omega)) rfl rfl (fun g h2 hg hleh2 => ?_)
  refine sy_move rfl rfl rfl ?_
  refine sy_extract rfl rfl rfl rfl ?_
  refine sy_extract rfl rfl rfl rfl ?_
  refine sy_assign rfl rfl rfl ?_
  refine sy_assign rfl rfl rfl ?_
  refine sy_nil rfl ?_
  refine ny_next ?_
  refine cy_seq ?_
  refine cy_seq ?_
  refine cy_region ?_
  refine sy_move rfl rfl rfl ?_
  refine sy_cmp rfl rfl rfl rfl rfl ?_
  refine sy_setF (d := 33) rfl rfl rfl ?_
  refine sy_move rfl rfl rfl ?_
  refine sy_move rfl rfl rfl ?_
  refine sy_eqp Try.underlying37 rfl rfl rfl rfl rfl ?_
  refine sy_setF (d := 36) rfl rfl rfl ?_
  refine sy_pickF rfl rfl rfl rfl ?_
  refine sy_nil rfl ?_
  refine ny_next ?_
  refine cy_condF rfl ?_
  refine cy_skip ?_
  refine ny_next ?_
  refine cy_seq ?_
  refine cy_region ?_
  refine sy_move rfl rfl rfl ?_
  refine sy_convi Try.underlying5 Try.underlying3 rfl (by omega) (by omega) rfl rfl ?_
  refine sy_move rfl rfl rfl ?_
  refine sy_call rfl call_26 rfl (len_c _ _ _ _ hg) rfl rfl ?_
  refine sy_rem (z := ((x : Nat) : Int)) rfl rfl (by omega) (by omega) (by omega) (by omega) rfl rfl ?_
  refine sy_assign rfl rfl rfl ?_
  refine sy_nil rfl ?_
  refine ny_next ?_
  refine cy_seq ?_
  refine cy_region ?_
  refine sy_move rfl rfl rfl ?_
  refine sy_convi Try.underlying5 Try.underlying3 rfl (by omega) (by omega) rfl rfl ?_
  refine sy_move rfl rfl rfl ?_
  refine sy_call rfl call_26 rfl (len_c _ _ _ _ hg) rfl rfl ?_
  refine sy_rem (z := ((y : Nat) : Int)) rfl rfl (by omega) (by omega) (by omega) (by omega) rfl rfl ?_
  refine sy_assign rfl rfl rfl ?_
  refine sy_nil rfl ?_
  refine ny_next ?_
  refine cy_seq ?_
  refine cy_region ?_
  refine sy_assign rfl rfl rfl ?_
  refine sy_nil rfl ?_
  refine ny_next ?_
  refine cy_seq ?_
  refine cy_seq ?_
  refine cy_region ?_
  refine sy_move rfl rfl rfl ?_
  refine sy_len rfl (len_slice Try.underlying36 _ _ _) rfl rfl ?_
  refine sy_subi (z := (L : Int) - 1 - ((0 : Nat) : Int)) rfl rfl (by omega) (by omega) (by omega) rfl rfl ?_
  refine sy_assign rfl rfl rfl ?_
  refine sy_nil rfl ?_
  refine ny_next ?_
  refine cy_block ?_
  refine cy_nilRow 46 2 ?_
  have hq2 := hq.le hleh2
  refine cy_loop (ι := Nat × Value) (fun s => s.1 ≤ L) (fun s => L - s.1) (fun s => [(0, .int .u8 (nb.toNat : Int)), (4, .int .u8 (cc.toNat : Int)), (11, .bool true), (12, .slice A L c), (13, .pointer (some ⟨g, 0, none⟩)), (15, .int .i64 (x : Int)), (16, .int .i64 (y : Int)), (17, s.2), (18, .int .i64 ((L : Int) - 1 - (s.1 : Int)))]) (fun _ => h2) (fun s => [Res.row s.2 46 2 (bk q s.1).length (pairC (bk q s.1))]) (0, .slice none 0 0) [0] (Nat.zero_le _) ⟨rfl, rfl, rfl, rfl, rfl, rfl, rfl, rfl, rfl, trivial⟩ rfl rfl ?_
  rintro ⟨k, v⟩ hk
  simp only at hk ⊢
  refine cy_seq ?_
  refine cy_seq ?_
  refine cy_region ?_
  refine sy_move rfl rfl rfl ?_
  refine sy_cmp rfl rfl rfl rfl rfl ?_
  refine sy_nil rfl ?_
  refine ny_next ?_
  refine cy_cond rfl (fun hc57 => ?_) (fun hc57 => ?_)
  · have hkl : k < L := by have := of_decide_eq_true hc57; omega
    obtain ⟨⟨p1, p2⟩, hp⟩ : ∃ p, q[q.length - 1 - k]? = some p := ⟨_, List.getElem?_eq_getElem (by omega)⟩
    obtain ⟨gg, off, rfl, _⟩ := hq2 _ _ hp
    have hke : (L : Int) - 1 - (k : Int) = ((q.length - 1 - k : Nat) : Int) := by omega
    rw [hke]
    have hbl := bk_len (q := q) (k := k) (by omega)
    refine cy_skip ?_
    refine ny_next ?_
    refine cy_seq ?_
    refine cy_block ?_
    refine cy_regionH mixedA (by kernel_rfl) ?_
    refine sy_move rfl rfl rfl ?_
    refine sy_move rfl rfl rfl ?_
    refine sy_move rfl rfl rfl ?_
    refine sy_idxS (ik := .i64) (i := ((q.length - 1 - k : Nat) : Int)) els_36 rfl rfl (by omega) (by omega) rfl rfl ?_
    refine sy_ldah (vs := [.int .i64 p1, .int .i64 p2]) agg_46 rfl rfl (hq2.get hp) rfl rfl ?_
    refine sy_move rfl rfl rfl ?_
    refine sy_move rfl rfl rfl ?_
    refine sy_idxS (ik := .i64) (i := ((q.length - 1 - k : Nat) : Int)) els_36 rfl rfl (by omega) (by omega) rfl rfl ?_
    refine sy_ldah (vs := [.int .i64 p1, .int .i64 p2]) agg_46 rfl rfl (hq2.get hp) rfl rfl ?_
    refine sy_buildSliceH (by kernel_rfl) rfl (fun w => bsl_36_2_0x1 w) rfl rfl (fun b69 hb69 hM69 => ?_) (by simp)
    refine sy_appendH 1 0 (by kernel_rfl) row_36 (by decide) rfl rfl rfl rfl rfl rfl (by omega) (by simp only [maxLen]; omega) rfl rfl (fun v70 => ?_)
    refine sy_assign rfl rfl rfl ?_
    refine sy_nilH ?_
    refine ny_blockN ?_
    refine ny_next ?_
    refine cy_region ?_
    refine sy_move rfl rfl rfl ?_
    refine sy_subi (z := (L : Int) - 1 - ((k + 1 : Nat) : Int)) rfl rfl (by omega) (by omega) (by omega) rfl rfl ?_
    refine sy_assign rfl rfl rfl ?_
    refine sy_nil rfl ?_
    refine ny_round (k + 1, v70) [0] (show k + 1 ≤ L by omega) (show L - (k + 1) < L - k by omega) ⟨rfl, rfl, rfl, rfl, rfl, rfl, rfl, rfl, rfl, trivial⟩ rfl ?_
    show _ = some [Res.row v70 46 2 (bk q (k + 1)).length (pairC (bk q (k + 1)))]
    rw [bk_succ (by omega) hp, List.length_append, pairC_append]
    rfl
  · have hkl : k = L := by have := of_decide_eq_false hc57; omega
    subst hkl
    have hbl := bk_len (q := q) (k := k) (by omega)
    refine cy_exit ?_
    refine ny_thenE ?_
    refine ny_thenE ?_
    refine ny_blockX ?_
    refine ny_next ?_
    refine cy_seq ?_
    refine cy_region ?_
    refine sy_move rfl rfl rfl ?_
    refine sy_move rfl rfl rfl ?_
    refine sy_move rfl rfl rfl ?_
    refine sy_move rfl rfl rfl ?_
    refine sy_call rfl call_28 rfl (meetJ_c hg hN16 L2 hxn hyn) rfl rfl ?_
    refine sy_move rfl rfl rfl ?_
    refine sy_move rfl rfl rfl ?_
    refine sy_move rfl rfl rfl ?_
    refine sy_call rfl call_27 rfl (joinJ_c hg hN16 L2 hxn hyn) rfl rfl ?_
    refine sy_build rfl (fun w => bld_46_0x1 w) rfl rfl ?_
    refine sy_move rfl rfl rfl ?_
    refine sy_move rfl rfl rfl ?_
    refine sy_build rfl (fun w => bld_46_0x1 w) rfl rfl ?_
    refine sy_buildSlice rfl (fun w => bsl_36_2_0x1 w) rfl rfl (fun b84 hb84 hM84 => ?_) (by simp)
    refine sy_append 1 0 row_36 (by decide) rfl rfl rfl rfl rfl rfl (by omega) (by simp only [maxLen]; omega) rfl rfl (fun v85 => ?_)
    refine sy_assign rfl rfl rfl ?_
    refine sy_nil rfl ?_
    refine ny_next ?_
    refine cy_seq ?_
    refine cy_frzRow 0 rfl (fun _ _ => by simp) (fun A2 c2 h3 hv2 hlc2 hcm2 hlen2 hle3 hcell2 => ?_)
    subst hv2
    have hk0 : q.length = k := by omega
    obtain ⟨hF2, hru2⟩ := bk_fine hF L2 hxn hyn
    have hq3 : PairsAt h3 A2 (bk q q.length ++ [((m x y : Int), (j x y : Int)), ((x : Int), (x : Int))]) := pairs_row (by rw [pairC_append, hk0]; exact hcell2)
    refine cy_region ?_
    refine sy_move rfl rfl rfl ?_
    refine sy_convi Try.underlying5 Try.underlying3 rfl (by omega) (by omega) rfl rfl ?_
    refine sy_move rfl rfl rfl ?_
    refine sy_callx call_24 rfl (newGood_c nb.toNat A2 _ c2 (bk q q.length ++ [((m x y : Int), (j x y : Int)), ((x : Int), (x : Int))]) _ hF2 hq3 (by rw [List.length_append, hk0]; rfl) (by omega)) rfl rfl (fun g3 h4 hg3 hle4 => ?_)
    rw [hru2] at hg3
    have hg4 := hle4 _ _ (hle3 _ _ hg)
    refine sy_move rfl rfl rfl ?_
    refine sy_extract rfl rfl rfl rfl ?_
    refine sy_extract rfl rfl rfl rfl ?_
    refine sy_assign rfl rfl rfl ?_
    refine sy_assign rfl rfl rfl ?_
    refine sy_nil rfl ?_
    refine ny_next ?_
    refine cy_seq ?_
    refine cy_seq ?_
    refine cy_region ?_
    refine sy_move rfl rfl rfl ?_
    refine sy_cmp rfl rfl rfl rfl rfl ?_
    refine sy_setF (d := 94) rfl rfl rfl ?_
    refine sy_move rfl rfl rfl ?_
    refine sy_move rfl rfl rfl ?_
    refine sy_eqp Try.underlying37 rfl rfl rfl rfl rfl ?_
    refine sy_setF (d := 97) rfl rfl rfl ?_
    refine sy_pickF rfl rfl rfl rfl ?_
    refine sy_nil rfl ?_
    refine ny_next ?_
    refine cy_condF rfl ?_
    refine cy_skip ?_
    refine ny_next ?_
    refine cy_seq ?_
    refine cy_region ?_
    refine sy_move rfl rfl rfl ?_
    refine sy_convi Try.underlying5 Try.underlying3 rfl (by omega) (by omega) rfl rfl ?_
    refine sy_move rfl rfl rfl ?_
    refine sy_call rfl call_26 rfl (len_c _ _ _ _ hg4) rfl rfl ?_
    refine sy_rem (z := ((z : Nat) : Int)) rfl rfl (by omega) (by omega) (by omega) (by omega) rfl rfl ?_
    refine sy_assign rfl rfl rfl ?_
    refine sy_nil rfl ?_
    refine ny_next ?_
    refine cy_seq ?_
    refine cy_region ?_
    refine sy_move rfl rfl rfl ?_
    refine sy_move rfl rfl rfl ?_
    refine sy_setT (d := 105) rfl rfl (by first | rfl | decide | simp) ?_
    refine sy_move rfl rfl rfl ?_
    refine sy_move rfl rfl rfl ?_
    refine sy_move rfl rfl rfl ?_
    refine sy_call rfl call_27 rfl (joinJ_c hg3 hN16 L2 hxn hzn) rfl rfl ?_
    refine sy_move rfl rfl rfl ?_
    refine sy_move rfl rfl rfl ?_
    refine sy_move rfl rfl rfl ?_
    refine sy_call rfl call_27 rfl (joinJ_c hg4 hN16 L2 hxn hzn) rfl rfl ?_
    refine sy_cmp rfl rfl rfl rfl rfl ?_
    refine sy_setT (d := 114) rfl rfl (by rw [cast_beq]; simp) ?_
    refine sy_pickT rfl rfl rfl rfl ?_
    refine sy_move rfl rfl rfl ?_
    refine sy_move rfl rfl rfl ?_
    refine sy_move rfl rfl rfl ?_
    refine sy_move rfl rfl rfl ?_
    refine sy_call rfl call_28 rfl (meetJ_c hg3 hN16 L2 hyn hzn) rfl rfl ?_
    refine sy_move rfl rfl rfl ?_
    refine sy_move rfl rfl rfl ?_
    refine sy_move rfl rfl rfl ?_
    refine sy_call rfl call_28 rfl (meetJ_c hg4 hN16 L2 hyn hzn) rfl rfl ?_
    refine sy_cmp rfl rfl rfl rfl rfl ?_
    refine sy_setT (d := 125) rfl rfl (by rw [cast_beq]; simp) ?_
    refine sy_pickT rfl rfl rfl rfl ?_
    refine sy_move rfl rfl rfl ?_
    refine sy_move rfl rfl rfl ?_
    refine sy_move rfl rfl rfl ?_
    refine sy_move rfl rfl rfl ?_
    refine sy_call rfl call_29 rfl (leqJ_c hg3 hN16 L2 _ _) rfl rfl ?_
    refine sy_move rfl rfl rfl ?_
    refine sy_move rfl rfl rfl ?_
    refine sy_move rfl rfl rfl ?_
    refine sy_call rfl call_29 rfl (leqJ_c hg4 hN16 L2 _ _) rfl rfl ?_
    refine sy_eqb Try.underlying4 rfl rfl rfl rfl ?_
    refine sy_setT (d := 136) rfl rfl (by simp) ?_
    refine sy_pickT rfl rfl rfl rfl ?_
    refine sy_assign rfl rfl rfl ?_
    refine sy_nil rfl ?_
    refine ny_next ?_
    refine cy_ret ?_
    refine ny_finR (res1 rfl rfl) (fun w hs => ⟨?_, hs.frm⟩)
    rfl
theorem pairs_c (nb : UInt8) (A : Option Addr) (l c L : Nat) (q : List (Int × Int)) (ca cb cc : UInt8) (h : Hp) (hlc : l ≤ c) (hL : L = min l 100) (hq : PairsAt h A q) (hql : q.length = L) : C0 Try.prog 9 [.int .u8 (nb.toNat : Int), .slice A l c, .int .u8 (ca.toNat : Int), .int .u8 (cb.toNat : Int), .int .u8 (cc.toNat : Int)] h (.bool true) := by
  by_cases hF : Fine (nb.toNat : Int) q
  · obtain ⟨j, m, lo, hi, L2⟩ := IsLatt.two (n := nb.toNat) hF.2.2.2 (by have := hF.1; omega)
    exact pairs_good nb A l c L q ca cb cc h hlc hL hq hql _ rfl _ rfl _ rfl hF j m lo hi L2
  · obtain ⟨e, he, hb⟩ := newErr_c nb.toNat A L c q hql (by omega) hF
    exact pairs_bad nb A l c L q ca cb cc h hlc hL hq hql e he hb
end Go.Proofs.Ytbeocnhbbhidaaa

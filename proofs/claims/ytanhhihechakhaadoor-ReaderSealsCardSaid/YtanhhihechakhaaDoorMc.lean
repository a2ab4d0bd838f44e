/- The engine, the plain laws and the walks of this seat, part 3: what the functions answer. Conditions: as each says; printed by programs of this session. -/
import Derived.RangeFuncNested
import Derived.RangeFuncBound
import Derived.RangeFuncLeaves
import Derived.TacticsInMore
import Derived.Test.YtanhhihechakhaaDoorMb
set_option linter.unusedVariables false
set_option linter.unusedSimpArgs false
namespace Go.Proofs.YtanhhihechakhaaDoor
open Go.RowKit Go.Proofs.YtanhhihechakhaaDoor.E Go.Proofs.YtanhhihechakhaaDoor.ReplP Go.Proofs.YtanhhihechakhaaDoor.TokP Go.Proofs.YtanhhihechakhaaDoor.TermP Go.Proofs.YtanhhihechakhaaDoor.WrP
theorem deepTs_snoc : ∀ (l : List Tm) (t : Tm), deepTs (l ++ [t]) = max (deepTs l) (deepT t)
 | [], t => by simp only [List.nil_append, deepTs]; omega
 | x :: l, t => by rw [List.cons_append, deepTs, deepTs, deepTs_snoc l t]; omega
theorem max_if (a b : Nat) : (if (b : Int) > (a : Int) then (b : Int) else (a : Int)) = ((max a b : Nat) : Int) := by split <;> omega
theorem deep_mk (k n : Int) (s : ByteArray) (kids : List Tm) : deepT (.mk k n s kids) = 1 + deepTs kids := by rw [deepT]
theorem deepTs_succ {l : List GT} {i : Nat} {t : GT} (h : l[i]? = some t) : deepTs ((l.take (i + 1)).map GT.tm) = max (deepTs ((l.take i).map GT.tm)) (deepT t.tm) := by rw [take_snoc h, List.map_append, List.map_cons, List.map_nil, deepTs_snoc]
theorem deepTs_le : ∀ (l : List GT), (∀ t ∈ l, deepT t.tm ≤ wtG t) → deepTs (l.map GT.tm) ≤ wtGs l
 | [], _ => by rw [List.map_nil, deepTs]; exact Nat.zero_le _
 | t :: l, h => by
  have h1 := h t List.mem_cons_self
  have h2 := deepTs_le l (fun u hu => h u (List.mem_cons_of_mem _ hu))
  rw [List.map_cons, deepTs, wtGs_cons]
  omega
theorem deep_wt : ∀ t : GT, deepT t.tm ≤ wtG t := fun t => by
 induction t using GT.ind with
 | h k n s A c kids ih =>
  have := deepTs_le kids ih
  rw [GT.tm_mk, deep_mk, wtG_mk]
  omega
theorem wtG_at {l : List GT} {i : Nat} {t : GT} (h : l[i]? = some t) : wtG t ≤ wtGs l := wtGs_kid (List.mem_of_getElem? h)
theorem take_deep (l : List GT) (i : Nat) : deepTs ((l.take i).map GT.tm) ≤ wtGs l := Nat.le_trans (deepTs_le _ (fun t _ => deep_wt t)) (by
 induction l generalizing i with
 | nil => rw [List.take_nil]; exact Nat.le_refl _
 | cons x l ih =>
  cases i with
  | zero => rw [List.take_zero, wtGs_nil]; exact Nat.zero_le _
  | succ i => rw [List.take_succ_cons, wtGs_cons, wtGs_cons]; exact Nat.add_le_add_left (ih i) _)
mutual
def sameT : Tm → Tm → Bool | .mk k n s ks, .mk k2 n2 s2 ls => (k == k2) && (n == n2) && (s.data.toList == s2.data.toList) && samesT ks ls
def samesT : List Tm → List Tm → Bool | [], [] => true | [], _ :: _ => false | _ :: _, [] => false | t :: l, u :: m => sameT t u && samesT l m
end
theorem same_mk (k n k2 n2 : Int) (s s2 : ByteArray) (ks ls : List Tm) : sameT (.mk k n s ks) (.mk k2 n2 s2 ls) = ((k == k2) && (n == n2) && (s.data.toList == s2.data.toList) && samesT ks ls) := by rw [sameT]
theorem sames_eq : ∀ (ks ls : List Tm), (∀ t ∈ ks, ∀ u, sameT t u = true ↔ t = u) → (samesT ks ls = true ↔ ks = ls)
 | [], [], _ => by simp [samesT]
 | [], _ :: _, _ => by simp [samesT]
 | _ :: _, [], _ => by simp [samesT]
 | t :: l, u :: m, h => by
  rw [samesT, Bool.and_eq_true, h t List.mem_cons_self u, sames_eq l m (fun x hx => h x (List.mem_cons_of_mem _ hx)), List.cons.injEq]
theorem same_eq : ∀ t u : Tm, sameT t u = true ↔ t = u := fun t => by
 induction t using Tm.ind with
 | h k n s kids ih =>
  intro u
  cases u with
  | mk k2 n2 s2 ls =>
   rw [same_mk, Bool.and_eq_true, Bool.and_eq_true, Bool.and_eq_true, sames_eq kids ls ih, beq_iff_eq, beq_iff_eq, beq_iff_eq, Tm.mk.injEq]
   constructor
   · rintro ⟨⟨⟨h1, h2⟩, h3⟩, h4⟩
     exact ⟨h1, h2, ba_inj h3, h4⟩
   · rintro ⟨h1, h2, h3, h4⟩
     exact ⟨⟨⟨h1, h2⟩, by rw [h3]⟩, h4⟩
theorem sames_succ : ∀ {ks ls : List GT} {i : Nat} {x y : GT}, ks[i]? = some x → ls[i]? = some y → samesT ((ks.take (i + 1)).map GT.tm) ((ls.take (i + 1)).map GT.tm) = (samesT ((ks.take i).map GT.tm) ((ls.take i).map GT.tm) && sameT x.tm y.tm)
 | [], _, i, x, y, h, _ => by simp at h
 | _ :: _, [], i, x, y, _, h => by simp at h
 | a :: ks, b :: ls, 0, x, y, hx, hy => by
  simp only [List.getElem?_cons_zero, Option.some.injEq] at hx hy
  subst hx hy
  simp [samesT]
 | a :: ks, b :: ls, i + 1, x, y, hx, hy => by
  have ih := sames_succ (ks := ks) (ls := ls) (i := i) (by simpa using hx) (by simpa using hy)
  rw [List.take_succ_cons, List.take_succ_cons, List.take_succ_cons, List.take_succ_cons, List.map_cons, List.map_cons, List.map_cons, List.map_cons, samesT, samesT, ih, Bool.and_assoc]
theorem sames_no : ∀ {ks ls : List GT} {i : Nat} {x y : GT}, ks[i]? = some x → ls[i]? = some y → sameT x.tm y.tm = false → samesT (ks.map GT.tm) (ls.map GT.tm) = false
 | [], _, i, x, y, h, _, _ => by simp at h
 | _ :: _, [], i, x, y, _, h, _ => by simp at h
 | a :: ks, b :: ls, 0, x, y, hx, hy, hn => by
  simp only [List.getElem?_cons_zero, Option.some.injEq] at hx hy
  subst hx hy
  rw [List.map_cons, List.map_cons, samesT, hn]
  rfl
 | a :: ks, b :: ls, i + 1, x, y, hx, hy, hn => by
  rw [List.map_cons, List.map_cons, samesT, sames_no (ks := ks) (ls := ls) (i := i) (by simpa using hx) (by simpa using hy) hn, Bool.and_false]
theorem sames_len : ∀ {ks ls : List Tm}, ¬ ks.length = ls.length → samesT ks ls = false
 | [], [], h => absurd rfl h
 | [], _ :: _, _ => by rw [samesT]
 | _ :: _, [], _ => by rw [samesT]
 | a :: ks, b :: ls, h => by rw [samesT, sames_len (ks := ks) (ls := ls) (by simpa using h), Bool.and_false]
theorem lies_rows {h : Hp} {u : GT} (hm : Lies h u) : RowsAt h u.A 4 (u.kids.map GT.cells) := by cases u; exact hm.rows
theorem lies_kid {h : Hp} {u x : GT} (hm : Lies h u) (hx : x ∈ u.kids) : Lies h x := by cases u; exact hm.kid hx
theorem fits_kid {u x : GT} (hm : Fits u) (hx : x ∈ u.kids) : Fits x := by cases u; exact hm.kid hx
set_option maxRecDepth 100000 in
theorem deep_c (t : GT) : ∀ h, Lies h t → Fits t → wtG t ≤ 1099511627776 → C0 Tryd.prog 26 [.agg (GT.cells t).toArray] h (.int .i64 ((deepT t.tm : Nat) : Int)) := by
 induction t using GT.ind
 rename_i tk tn ts tA tc kids ih
 intro h hl hf hw
 rw [wtG_mk] at hw
 have hroom := hf.room
 show C0 Tryd.prog 26 [.agg #[.int .i64 tk, .int .i64 tn, .string ts, .slice tA kids.length tc]] h (.int .i64 ((deepT (GT.mk tk tn ts tA tc kids).tm : Nat) : Int))
 refine enter0 Tryd.func26 rfl rfl rfl (fun w => ?_)
 refine cy_seq ?_
 refine cy_region ?_
 refine sy_box rfl rfl rfl rfl (fun b1 hb1 hM1 => ?_) (by simp)
 refine sy_assign rfl rfl rfl ?_
 refine sy_nil rfl ?_
 refine ny_next ?_
 refine cy_seq ?_
 refine cy_frz 0 rfl (by simp) (fun h1 hle1 hbx => ?_)
 replace hl := hl.le hle1
 have hr := hl.rows
 refine cy_region ?_
 refine sy_assign rfl rfl rfl ?_
 refine sy_nil rfl ?_
 refine ny_next ?_
 refine cy_seq ?_
 refine cy_seq ?_
 refine cy_region ?_
 refine sy_field fld_30_3 rfl rfl rfl ?_
 refine sy_ldh one_23 rfl (Hp.blk hbx 3 _ rfl) rfl rfl ?_
 refine sy_len rfl (len_slice Tryd.underlying23 _ _ _) rfl rfl ?_
 refine sy_move rfl rfl rfl ?_
 refine sy_nil rfl ?_
 refine ny_next ?_
 refine cy_block ?_
 refine cy_loopK (ι := Nat) [7, 8] rfl (fun i => i ≤ kids.length) (fun i => kids.length - i) (fun i => [(3, .int .i64 ((deepTs ((kids.take i).map GT.tm) : Nat) : Int)), (9, .int .i64 (i : Int))]) (fun i => h1) (fun i => []) 0 [] (Nat.zero_le _) ⟨congrArg (fun z : Nat => some (Value.int .i64 (z : Int))) (by rw [List.take_zero, List.map_nil, deepTs]), rfl, trivial⟩ rfl rfl ?_
 rintro i hI
 refine cy_seq ?_
 refine cy_region ?_
 refine sy_cmp rfl rfl rfl rfl rfl ?_
 refine sy_nil rfl ?_
 refine ny_next ?_
 refine cy_seq ?_
 refine cy_cond rfl (fun hc10 => ?_) (fun hc10 => ?_)
 · have hlti : i < kids.length := by have := of_decide_eq_true hc10; omega
   refine cy_skip ?_
   refine ny_next ?_
   refine cy_seq ?_
   refine cy_block ?_
   refine cy_seq ?_
   refine cy_region ?_
   refine sy_idxR (fc := GT.cells) (es := kids) els_23 rfl rfl hr rfl (by omega) rfl rfl (fun e11 b11 o11 he11 hA11 hc11 => ?_)
   refine sy_ldah (vs := GT.cells e11) agg_30 rfl rfl hc11 rfl rfl ?_
   refine sy_alloc zer_30 rfl rfl (fun b5 hb5 hM5 => ?_) (by simp)
   first | refine sy_stl 0 sz_30 rfl rfl rfl rfl rfl rfl rfl rfl ?_ | refine sy_stl 1 sz_30 rfl rfl rfl rfl rfl rfl rfl rfl ?_ | refine sy_stl 2 sz_30 rfl rfl rfl rfl rfl rfl rfl rfl ?_
   refine sy_nil rfl ?_
   refine ny_next ?_
   refine cy_region ?_
   refine sy_move rfl rfl rfl ?_
   first | refine sy_ldar 0 agg_30 rfl rfl rfl rfl rfl ?_ | refine sy_ldar 1 agg_30 rfl rfl rfl rfl rfl ?_ | refine sy_ldar 2 agg_30 rfl rfl rfl rfl rfl ?_
   refine sy_call rfl call_26 rfl (ih e11 (List.mem_of_getElem? he11) _ (hl.at he11) (hf.at he11) (by have := wtG_at he11; omega)) rfl rfl ?_
   refine sy_max rfl rfl rfl rfl ?_
   rw [max_if, ← deepTs_succ he11]
   refine sy_assign rfl rfl rfl ?_
   refine sy_nil rfl ?_
   refine ny_blockN ?_
   refine ny_next ?_
   refine cy_region ?_
   refine sy_addi (z := ((i + 1 : Nat) : Int)) rfl rfl (by omega) (by omega) (by omega) rfl rfl ?_
   refine sy_move rfl rfl rfl ?_
   refine sy_nil rfl ?_
   refine ny_roundK [7, 8] (i + 1) [] (show i + 1 ≤ kids.length by omega) (show kids.length - (i + 1) < kids.length - i by omega) rfl ⟨rfl, rfl, trivial⟩ rfl rfl
 · have hie : i = kids.length := by have := of_decide_eq_false hc10; omega
   subst hie
   have hlim := take_deep kids kids.length
   have hdm : deepT (GT.mk tk tn ts tA tc kids).tm = 1 + deepTs (kids.map GT.tm) := by rw [GT.tm_mk, deep_mk]
   rw [List.take_length] at hlim ⊢
   refine cy_exit ?_
   refine ny_thenE ?_
   refine ny_thenE ?_
   refine ny_blockX ?_
   refine ny_next ?_
   refine cy_seq ?_
   refine cy_region ?_
   refine sy_move rfl rfl rfl ?_
   refine sy_addi (z := ((deepT (GT.mk tk tn ts tA tc kids).tm : Nat) : Int)) rfl rfl (by omega) (by omega) (by omega) rfl rfl ?_
   refine sy_assign rfl rfl rfl ?_
   refine sy_nil rfl ?_
   refine ny_next ?_
   refine cy_ret ?_
   refine ny_finR (res1 rfl rfl) (fun w hs => ⟨?_, hs.frm⟩)
   rfl
set_option maxRecDepth 100000 in
theorem eqf_c (ks ls : List GT) (A B : Option Addr) (c d : Nat) (h : Hp) (hK : RowsAt h A 4 (ks.map GT.cells)) (hL : RowsAt h B 4 (ls.map GT.cells)) (hgK : ∀ t ∈ ks, Lies h t ∧ Fits t) (hgL : ∀ t ∈ ls, Lies h t ∧ Fits t) (hlK : ks.length ≤ 2513169434916) (ih : ∀ t ∈ ks, ∀ (u : GT) (h : Hp), Lies h t → Fits t → Lies h u → Fits u → C0 Tryd.prog 17 [.agg (GT.cells t).toArray, .agg (GT.cells u).toArray] h (.bool (sameT t.tm u.tm))) : C0 Tryd.prog 30 [.slice A ks.length c, .slice B ls.length d, .func (.func 17) #[] #[]] h (.bool (samesT (ks.map GT.tm) (ls.map GT.tm))) := by
 refine enter0 Tryd.func30 rfl rfl rfl (fun w => ?_)
 refine cy_seq ?_
 refine cy_region ?_
 refine sy_assign rfl rfl rfl ?_
 refine sy_nil rfl ?_
 refine ny_next ?_
 refine cy_seq ?_
 refine cy_seq ?_
 refine cy_region ?_
 refine sy_move rfl rfl rfl ?_
 refine sy_len rfl (len_slice Tryd.underlying23 _ _ _) rfl rfl ?_
 refine sy_move rfl rfl rfl ?_
 refine sy_len rfl (len_slice Tryd.underlying23 _ _ _) rfl rfl ?_
 refine sy_cmp rfl rfl rfl rfl rfl ?_
 refine sy_nil rfl ?_
 refine ny_next ?_
 refine cy_cond rfl (fun hc14 => ?_) (fun hc14 => ?_)
 · have hne : ¬ ks.length = ls.length := by
    intro h9
    rw [h9] at hc14
    simp at hc14
   have hres := sames_len (ks := ks.map GT.tm) (ls := ls.map GT.tm) (by rwa [List.length_map, List.length_map])
   refine cy_seq ?_
   refine cy_region ?_
   refine sy_assign rfl rfl rfl ?_
   refine sy_nil rfl ?_
   refine ny_next ?_
   refine cy_ret ?_
   refine ny_thenR ?_
   refine ny_finR (res1 rfl rfl) (fun w hs2 => ⟨?_, hs2.frm⟩)
   rw [hres]
 · have heq : ks.length = ls.length := by
    have h9 : ((ks.length : Int) == (ls.length : Int)) = true := by simpa using hc14
    have := eq_of_beq h9
    omega
   refine cy_skip ?_
   refine ny_next ?_
   refine cy_seq ?_
   refine cy_seq ?_
   refine cy_region ?_
   refine sy_move rfl rfl rfl ?_
   refine sy_len rfl (len_slice Tryd.underlying23 _ _ _) rfl rfl ?_
   refine sy_move rfl rfl rfl ?_
   refine sy_nil rfl ?_
   refine ny_next ?_
   refine cy_block ?_
   refine cy_loopK (ι := Nat) [1, 2, 15, 16] rfl (fun i => i ≤ ks.length ∧ samesT ((ks.take i).map GT.tm) ((ls.take i).map GT.tm) = true) (fun i => ks.length - i) (fun i => [(17, .int .i64 (i : Int))]) (fun i => h) (fun i => []) 0 [] ⟨Nat.zero_le _, by simp [samesT]⟩ ⟨rfl, trivial⟩ rfl rfl ?_
   rintro i ⟨hI, hall⟩
   refine cy_seq ?_
   refine cy_region ?_
   refine sy_cmp rfl rfl rfl rfl rfl ?_
   refine sy_nil rfl ?_
   refine ny_next ?_
   refine cy_seq ?_
   refine cy_cond rfl (fun hc18 => ?_) (fun hc18 => ?_)
   · have hlti : i < ks.length := by have := of_decide_eq_true hc18; omega
     refine cy_skip ?_
     refine ny_next ?_
     refine cy_seq ?_
     refine cy_block ?_
     refine cy_seq ?_
     refine cy_region ?_
     refine sy_move rfl rfl rfl ?_
     refine sy_idxR (fc := GT.cells) (es := ks) els_23 rfl rfl hK rfl (by omega) rfl rfl (fun e20 b20 o20 he20 hA20 hc20 => ?_)
     refine sy_ldah (vs := GT.cells e20) agg_30 rfl rfl hc20 rfl rfl ?_
     refine sy_alloc zer_30 rfl rfl (fun b8 hb8 hM8 => ?_) (by simp)
     refine sy_assign rfl rfl rfl ?_
     first | refine sy_stl 0 sz_30 rfl rfl rfl rfl rfl rfl rfl rfl ?_ | refine sy_stl 1 sz_30 rfl rfl rfl rfl rfl rfl rfl rfl ?_ | refine sy_stl 2 sz_30 rfl rfl rfl rfl rfl rfl rfl rfl ?_
     refine sy_nil rfl ?_
     refine ny_next ?_
     refine cy_seq ?_
     refine cy_region ?_
     refine sy_move rfl rfl rfl ?_
     refine sy_move rfl rfl rfl ?_
     refine sy_idxR (fc := GT.cells) (es := ls) els_23 rfl rfl hL rfl (by omega) rfl rfl (fun e24 b24 o24 he24 hA24 hc24 => ?_)
     refine sy_ldah (vs := GT.cells e24) agg_30 rfl rfl hc24 rfl rfl ?_
     refine sy_alloc zer_30 rfl rfl (fun b9 hb9 hM9 => ?_) (by simp)
     first | refine sy_stl 0 sz_30 rfl rfl rfl rfl rfl rfl rfl rfl ?_ | refine sy_stl 1 sz_30 rfl rfl rfl rfl rfl rfl rfl rfl ?_ | refine sy_stl 2 sz_30 rfl rfl rfl rfl rfl rfl rfl rfl ?_
     refine sy_nil rfl ?_
     refine ny_next ?_
     refine cy_seq ?_
     refine cy_region ?_
     refine sy_move rfl rfl rfl ?_
     first | refine sy_ldar 0 agg_30 rfl rfl rfl rfl rfl ?_ | refine sy_ldar 1 agg_30 rfl rfl rfl rfl rfl ?_ | refine sy_ldar 2 agg_30 rfl rfl rfl rfl rfl ?_
     first | refine sy_ldar 0 agg_30 rfl rfl rfl rfl rfl ?_ | refine sy_ldar 1 agg_30 rfl rfl rfl rfl rfl ?_ | refine sy_ldar 2 agg_30 rfl rfl rfl rfl rfl ?_
     refine sy_callv rfl call_17 rfl rfl (caps := []) (ih e20 (List.mem_of_getElem? he20) e24 _ (hgK e20 (List.mem_of_getElem? he20)).1 (hgK e20 (List.mem_of_getElem? he20)).2 (hgL e24 (List.mem_of_getElem? he24)).1 (hgL e24 (List.mem_of_getElem? he24)).2) rfl rfl ?_
     refine sy_not rfl rfl rfl ?_
     refine sy_nil rfl ?_
     refine ny_next ?_
     refine cy_cond rfl (fun hc30 => ?_) (fun hc30 => ?_)
     · have hres := sames_no he20 he24 (by simpa using hc30)
       refine cy_seq ?_
       refine cy_region ?_
       refine sy_assign rfl rfl rfl ?_
       refine sy_nil rfl ?_
       refine ny_next ?_
       refine cy_ret ?_
       refine ny_blockR ?_
       refine ny_thenR ?_
       refine ny_thenR ?_
       refine ny_blockR ?_
       refine ny_thenR ?_
       refine ny_finR (res1 rfl rfl) (fun w hs2 => ⟨?_, hs2.frm⟩)
       rw [hres]
     · refine cy_skip ?_
       refine ny_blockN ?_
       refine ny_next ?_
       refine cy_region ?_
       refine sy_addi (z := ((i + 1 : Nat) : Int)) rfl rfl (by omega) (by omega) (by omega) rfl rfl ?_
       refine sy_move rfl rfl rfl ?_
       refine sy_nil rfl ?_
       refine ny_roundK [1, 2, 15, 16] (i + 1) [] ⟨(show i + 1 ≤ ks.length by omega), by rw [sames_succ he20 he24, hall]; simpa using hc30⟩ (show ks.length - (i + 1) < ks.length - i by omega) rfl ⟨rfl, trivial⟩ rfl rfl
   · have hie : i = ks.length := by have := of_decide_eq_false hc18; omega
     subst hie
     rw [List.take_length, heq, List.take_length] at hall
     refine cy_exit ?_
     refine ny_thenE ?_
     refine ny_thenE ?_
     refine ny_blockX ?_
     refine ny_next ?_
     refine cy_seq ?_
     refine cy_region ?_
     refine sy_assign rfl rfl rfl ?_
     refine sy_nil rfl ?_
     refine ny_next ?_
     refine cy_ret ?_
     refine ny_finR (res1 rfl rfl) (fun w hs2 => ⟨?_, hs2.frm⟩)
     rw [hall]
set_option maxRecDepth 100000 in
theorem same_c (t : GT) : ∀ (u : GT) (h : Hp), Lies h t → Fits t → Lies h u → Fits u → C0 Tryd.prog 17 [.agg (GT.cells t).toArray, .agg (GT.cells u).toArray] h (.bool (sameT t.tm u.tm)) := by
 induction t using GT.ind
 rename_i tk tn ts tA tc kids ih
 intro u h hl hf hm hg
 show C0 Tryd.prog 17 [.agg #[.int .i64 tk, .int .i64 tn, .string ts, .slice tA kids.length tc], .agg #[.int .i64 u.k, .int .i64 u.n, .string u.s, .slice u.A u.kids.length u.c]] h (.bool (sameT (GT.mk tk tn ts tA tc kids).tm u.tm))
 refine enter0 Tryd.func17 rfl rfl rfl (fun w => ?_)
 refine cy_seq ?_
 refine cy_region ?_
 refine sy_box rfl rfl rfl rfl (fun b2 hb2 hM2 => ?_) (by simp)
 refine sy_box rfl rfl rfl rfl (fun b3 hb3 hM3 => ?_) (by simp)
 refine sy_assign rfl rfl rfl ?_
 refine sy_nil rfl ?_
 refine ny_next ?_
 refine cy_seq ?_
 refine cy_frz 0 rfl (by simp) (fun h1 hle1 hbu => ?_)
 refine cy_frz 0 rfl (by simp) (fun h2 hle2 hbt => ?_)
 replace hbu := hle2 _ _ hbu
 replace hl := (hl.le hle1).le hle2
 replace hm := (hm.le hle1).le hle2
 refine cy_region ?_
 refine sy_field fld_30_0 rfl rfl rfl ?_
 refine sy_ldh one_3 rfl (Hp.blk hbt 0 _ rfl) rfl rfl ?_
 refine sy_field fld_30_0 rfl rfl rfl ?_
 refine sy_ldh one_3 rfl (Hp.blk hbu 0 _ rfl) rfl rfl ?_
 refine sy_cmp rfl rfl rfl rfl rfl ?_
 refine sy_move rfl rfl rfl ?_
 refine sy_cond (d := 10) _ rfl rfl (fun hg10 => ?_) (fun hg10 => ?_)
 · refine sy_field fld_30_1 rfl rfl rfl ?_
   refine sy_ldh one_2 rfl (Hp.blk hbt 1 _ rfl) rfl rfl ?_
   refine sy_field fld_30_1 rfl rfl rfl ?_
   refine sy_ldh one_2 rfl (Hp.blk hbu 1 _ rfl) rfl rfl ?_
   refine sy_cmp rfl rfl rfl rfl rfl ?_
   refine sy_pickT rfl rfl rfl rfl ?_
   refine sy_move rfl rfl rfl ?_
   refine sy_cond (d := 17) _ rfl rfl (fun hg17 => ?_) (fun hg17 => ?_)
   · refine sy_field fld_30_2 rfl rfl rfl ?_
     refine sy_ldh one_9 rfl (Hp.blk hbt 2 _ rfl) rfl rfl ?_
     refine sy_field fld_30_2 rfl rfl rfl ?_
     refine sy_ldh one_9 rfl (Hp.blk hbu 2 _ rfl) rfl rfl ?_
     refine sy_eqs rfl rfl rfl rfl ?_
     refine sy_pickT rfl rfl rfl rfl ?_
     refine sy_move rfl rfl rfl ?_
     refine sy_cond (d := 24) _ rfl rfl (fun hg24 => ?_) (fun hg24 => ?_)
     · refine sy_field fld_30_3 rfl rfl rfl ?_
       refine sy_ldh one_23 rfl (Hp.blk hbt 3 _ rfl) rfl rfl ?_
       refine sy_field fld_30_3 rfl rfl rfl ?_
       refine sy_ldh one_23 rfl (Hp.blk hbu 3 _ rfl) rfl rfl ?_
       refine sy_call rfl call_30 rfl (eqf_c kids u.kids tA u.A tc u.c _ hl.rows (lies_rows hm) (fun x hx => ⟨hl.kid hx, hf.kid hx⟩) (fun x hx => ⟨lies_kid hm hx, fits_kid hg hx⟩) (by have := hf.room; omega) ih) rfl rfl ?_
       refine sy_pickT rfl rfl rfl rfl ?_
       refine sy_assign rfl rfl rfl ?_
       refine sy_nil rfl ?_
       refine ny_next ?_
       refine cy_ret ?_
       refine ny_finR (res1 rfl rfl) (fun w hs2 => ⟨?_, hs2.frm⟩)
       rw [GT.tm_mk, ← Tm.eta u.tm, GT.tm_k, GT.tm_n, GT.tm_s, GT.tm_kids, same_mk]
       first | (rw [hg10, hg17, hg24]; rfl) | (rw [hg10, hg17]; rfl) | (rw [hg10]; rfl)
     · refine sy_skip rfl rfl rfl ?_
       refine sy_skip rfl rfl rfl ?_
       refine sy_skip rfl rfl rfl ?_
       refine sy_skip rfl rfl rfl ?_
       refine sy_skip rfl rfl rfl ?_
       refine sy_pickF rfl rfl rfl rfl ?_
       refine sy_assign rfl rfl rfl ?_
       refine sy_nil rfl ?_
       refine ny_next ?_
       refine cy_ret ?_
       refine ny_finR (res1 rfl rfl) (fun w hs2 => ⟨?_, hs2.frm⟩)
       rw [GT.tm_mk, ← Tm.eta u.tm, GT.tm_k, GT.tm_n, GT.tm_s, GT.tm_kids, same_mk]
       first | (rw [hg10, hg17, hg24]; rfl) | (rw [hg10, hg17]; rfl) | (rw [hg10]; rfl)
   · refine sy_skip rfl rfl rfl ?_
     refine sy_skip rfl rfl rfl ?_
     refine sy_skip rfl rfl rfl ?_
     refine sy_skip rfl rfl rfl ?_
     refine sy_skip rfl rfl rfl ?_
     refine sy_pickF rfl rfl rfl rfl ?_
     refine sy_move rfl rfl rfl ?_
     refine sy_skip rfl rfl rfl ?_
     refine sy_skip rfl rfl rfl ?_
     refine sy_skip rfl rfl rfl ?_
     refine sy_skip rfl rfl rfl ?_
     refine sy_skip rfl rfl rfl ?_
     refine sy_pickF rfl rfl rfl rfl ?_
     refine sy_assign rfl rfl rfl ?_
     refine sy_nil rfl ?_
     refine ny_next ?_
     refine cy_ret ?_
     refine ny_finR (res1 rfl rfl) (fun w hs2 => ⟨?_, hs2.frm⟩)
     rw [GT.tm_mk, ← Tm.eta u.tm, GT.tm_k, GT.tm_n, GT.tm_s, GT.tm_kids, same_mk]
     first | (rw [hg10, hg17, hg24]; rfl) | (rw [hg10, hg17]; rfl) | (rw [hg10]; rfl)
 · refine sy_skip rfl rfl rfl ?_
   refine sy_skip rfl rfl rfl ?_
   refine sy_skip rfl rfl rfl ?_
   refine sy_skip rfl rfl rfl ?_
   refine sy_skip rfl rfl rfl ?_
   refine sy_pickF rfl rfl rfl rfl ?_
   refine sy_move rfl rfl rfl ?_
   refine sy_skip rfl rfl rfl ?_
   refine sy_skip rfl rfl rfl ?_
   refine sy_skip rfl rfl rfl ?_
   refine sy_skip rfl rfl rfl ?_
   refine sy_skip rfl rfl rfl ?_
   refine sy_pickF rfl rfl rfl rfl ?_
   refine sy_move rfl rfl rfl ?_
   refine sy_skip rfl rfl rfl ?_
   refine sy_skip rfl rfl rfl ?_
   refine sy_skip rfl rfl rfl ?_
   refine sy_skip rfl rfl rfl ?_
   refine sy_skip rfl rfl rfl ?_
   refine sy_pickF rfl rfl rfl rfl ?_
   refine sy_assign rfl rfl rfl ?_
   refine sy_nil rfl ?_
   refine ny_next ?_
   refine cy_ret ?_
   refine ny_finR (res1 rfl rfl) (fun w hs2 => ⟨?_, hs2.frm⟩)
   rw [GT.tm_mk, ← Tm.eta u.tm, GT.tm_k, GT.tm_n, GT.tm_s, GT.tm_kids, same_mk]
   first | (rw [hg10, hg17, hg24]; rfl) | (rw [hg10, hg17]; rfl) | (rw [hg10]; rfl)
end Go.Proofs.YtanhhihechakhaaDoor
set_option linter.unusedVariables false
set_option linter.unusedSimpArgs false
namespace Go.Proofs.YtanhhihechakhaaDoor.E
open Go.RowKit
/-! the fence that asks nothing -/
theorem wide_room (k : Nat) : Fence.wide.room k := fun d h => by simp [Fence.wide] at h
theorem wide_depth {k m : Nat} : Fence.wide.depth.isSome = true → k ≤ m := fun h => by simp [Fence.wide] at h
theorem round_any {m m' : Nat} {P : Program} {l : Nat} {f : FuncId} {tmps : Array Value} {assign body : Code} {w : World} {R : Ending → World → Prop} (h : RoundIn Fence.wide m P l f tmps assign body w R) : RoundIn Fence.wide m' P l f tmps assign body w R := ⟨h.1, fun c cs _ => h.2 c cs (wide_room _)⟩
theorem yield_any {m : Nat} (m' : Nat) {P : Program} {l : Nat} {args : Array Value} {W : World} {R : Ending → World → Prop} (h : YieldAt Fence.wide m P l args W R) : YieldAt Fence.wide m' P l args W R := by
 obtain ⟨fn, tmps, assign, body, hy, hR⟩ := h
 exact ⟨fn, tmps, assign, body, hy, round_any hR⟩
/-! in a round -/
def isDefer : Op → Bool
 | .defer _ => true
 | _ => false
theorem upon_in {l : Nat} {P : Program} {o : Oper} {a : Act} {next next' : Act → World → Prop} {Q : Exit → Act → World → Prop} (hn : ∀ a w, next a w → next' a w) (hQ : ¬ LetsOut Q) {r : Result Next} (h : o.upon P a next Q r) : o.uponIn (Fence.wide.inRound l) 0 P a next' Q r := by
 cases r with
 | ok x w' =>
  cases x with
  | value v => exact hn _ _ h
  | skip => exact hn _ _ h
  | defer d => exact hn _ _ h
  | enter f args =>
   refine ⟨wide_depth, CallsIn.inRound l (callsIn_wide.2 (Calls.mono h ?_))⟩
   intro e w' h'
   cases e with
   | returned v => exact hn _ _ h'
   | panicked ch => exact h'
   | outgrown => exact h'
  | row row args =>
   refine ⟨wide_depth, fun c cs _ => ?_⟩
   obtain ⟨v, w'', hR, hs⟩ := h c cs
   exact ⟨v, w'', hn _ _ hR, stepsIn_wide.2 hs⟩
  | _ => exact h.elim
 | halt h' w' =>
  cases h' with
  | panic v => exact h
  | _ => exact h.elim
theorem list_in {l : Nat} {P : Program} {ops : Array Oper} {Q : Exit → Act → World → Prop} (hQ : ¬ LetsOut Q) : ∀ (rest : List Oper), (rest.all fun o => !isDefer o.op) = true → ∀ a w, wpList P ops Q rest a w → wpListIn (Fence.wide.inRound l) 0 P ops Q rest a w
 | [], _, a, w, h => h
 | o :: rest, hd, a, w, h => by
  rw [List.all_cons, Bool.and_eq_true] at hd
  have ih := list_in (l := l) (P := P) (ops := ops) hQ rest hd.2
  unfold wpList at h
  unfold wpListIn
  split
  · rename_i hw
    rw [if_pos hw] at h
    rcases h with h | h
    · refine ⟨fun _ _ => trivial, ?_⟩
      rw [Oper.semAt_eq _ _ _ (fun c hc => by have := hd.1; rw [hc] at this; simp [isDefer] at this)]
      exact upon_in (fun a w => ih a w) hQ h
    · exact (hQ h.2).elim
  · rename_i hw
    rw [if_neg hw] at h
    exact ⟨fun _ _ => trivial, ih _ _ h⟩
def Cyr (l : Nat) (P : Program) (c : Code) (Q : Exit → Act → World → Prop) (n : Nat) (D : List Deferred) (w0 : World) (M : List Nat) (h0 : Hp) (f : Tab) (h : Hp) (H : List Res) : Prop :=
 ∀ a w, Holds n D f a → St w0 M h0 h H w → c.wpIn (Fence.wide.inRound l) 0 P Q a w
section
variable {l : Nat} {P : Program} {Q : Exit → Act → World → Prop} {n : Nat} {D : List Deferred} {w0 : World} {M : List Nat} {h0 : Hp} {f : Tab} {h : Hp} {H : List Res}
theorem cyr_seq {x y : Code} (k : Cyr l P x (Exit.then (y.wpIn (Fence.wide.inRound l) 0 P Q) Q) n D w0 M h0 f h H) : Cyr l P (.seq x y) Q n D w0 M h0 f h H := fun a w ha hs => wpIn_seq (k a w ha hs)
theorem cyr_skip (k : Ny Q .normal n D w0 M h0 f h H) : Cyr l P .skip Q n D w0 M h0 f h H := fun a w ha hs => wpIn_skip (k a w ha hs)
theorem cyr_ret (k : Ny Q .ret n D w0 M h0 f h H) : Cyr l P .ret Q n D w0 M h0 f h H := fun a w ha hs => wpIn_ret (k a w ha hs)
theorem cyr_block {i : Nat} {c : Code} (k : Cyr l P c (Exit.inBlock i Q) n D w0 M h0 f h H) : Cyr l P (.block i c) Q n D w0 M h0 f h H := fun a w ha hs => wpIn_block (k a w ha hs)
theorem cyr_condF {c : Operand} {x y : Code} (hc : f.ev c = some (.bool false)) (k : Cyr l P y Q n D w0 M h0 f h H) : Cyr l P (.cond c x y) Q n D w0 M h0 f h H := fun a w ha hs => wpIn_cond_false (ha.ev hc) (k a w ha hs)
theorem cyr_cond {c : Operand} {x y : Code} {e : Bool} (hc : f.ev c = some (.bool e)) (kt : e = true → Cyr l P x Q n D w0 M h0 f h H) (kf : e = false → Cyr l P y Q n D w0 M h0 f h H) : Cyr l P (.cond c x y) Q n D w0 M h0 f h H := fun a w ha hs => by
 cases e with
 | true => exact wpIn_cond_true (ha.ev hc) (kt rfl a w ha hs)
 | false => exact wpIn_cond_false (ha.ev hc) (kf rfl a w ha hs)
theorem cyr_region {i : Nat} {os : List Oper} (hQ : ¬ LetsOut Q) (hd : (os.all fun o => !isDefer o.op) = true) (k : Sy .txt P os.toArray Q n D w0 M h0 os f h H) : Cyr l P (.region i os.toArray false) Q n D w0 M h0 f h H :=
 fun a w ha hs => wpIn_region_list (show wpListIn _ 0 P os.toArray Q os.toArray.toList a w from list_in hQ os hd a w (k a w ha hs))
theorem nyr_next {y : Code} (k : Cyr l P y Q n D w0 M h0 f h H) : Ny (Exit.then (y.wpIn (Fence.wide.inRound l) 0 P Q) Q) .normal n D w0 M h0 f h H := k
theorem lets_then {K : Act → World → Prop} (h : ¬ LetsOut Q) : ¬ LetsOut (Exit.then K Q) := h
end
/-! a call, and a call of yield, behind which the world may be any -/
theorem upon_wide {P : Program} {o : Oper} {a : Act} {next next' : Act → World → Prop} {Q : Exit → Act → World → Prop} (hn : ∀ a w, next a w → next' a w) (hQ : ¬ LetsOut Q) {r : Result Next} (h : o.upon P a next Q r) : o.uponIn Fence.wide 0 P a next' Q r := by
 cases r with
 | ok x w' =>
  cases x with
  | value v => exact hn _ _ h
  | skip => exact hn _ _ h
  | defer d => exact hn _ _ h
  | enter f args =>
   refine ⟨wide_depth, callsIn_wide.2 (Calls.mono h ?_)⟩
   intro e w' h'
   cases e with
   | returned v => exact hn _ _ h'
   | panicked ch => exact h'
   | outgrown => exact h'
  | row row args =>
   refine ⟨wide_depth, fun c cs _ => ?_⟩
   obtain ⟨v, w'', hR, hs⟩ := h c cs
   exact ⟨v, w'', hn _ _ hR, stepsIn_wide.2 hs⟩
  | _ => exact h.elim
 | halt h' w' =>
  cases h' with
  | panic v => exact h
  | _ => exact h.elim
theorem list_wide {P : Program} {ops : Array Oper} {Q : Exit → Act → World → Prop} {tl : List Oper} (hQ : ¬ LetsOut Q) : ∀ (rest : List Oper) a w, wpList P ops (Exit.then (wpListIn Fence.wide 0 P ops Q tl) Q) rest a w → wpListIn Fence.wide 0 P ops Q (rest ++ tl) a w
 | [], a, w, h => h
 | o :: rest, a, w, h => by
  have ih := list_wide (P := P) (ops := ops) (tl := tl) hQ rest
  unfold wpList at h
  rw [List.cons_append]
  unfold wpListIn
  split
  · rename_i hw
    rw [if_pos hw] at h
    rcases h with h | h
    · refine ⟨fun _ _ => trivial, ?_⟩
      rw [show Oper.semAt Fence.wide.round a.eval o = execOp a.eval o from rfl]
      have h1 := upon_wide (next' := wpListIn Fence.wide 0 P ops Q (rest ++ tl)) (fun a w => ih a w) (show ¬ LetsOut (Exit.then (wpListIn Fence.wide 0 P ops Q tl) Q) from hQ) h
      revert h1
      generalize (execOp a.eval o).run P w = r
      intro h1
      cases r with
      | ok x w' =>
       cases x with
       | enter f args =>
        refine ⟨h1.1, CallsIn.mono h1.2 ?_⟩
        intro e w' h'
        cases e with
        | returned v => exact h'
        | panicked ch => exact h'
        | outgrown => exact h'
       | round l' f tmps assign body =>
        refine ⟨h1.1, RoundIn.mono h1.2 ?_⟩
        intro e w' h'
        cases e with
        | returned v => exact h'
        | panicked ch => exact h'
        | outgrown => exact h'
       | _ => exact h1
      | halt h' w' =>
       cases h' with
       | panic v => exact h1
       | _ => exact h1
    · exact (hQ h.2).elim
  · rename_i hw
    rw [if_neg hw] at h
    exact ⟨fun _ _ => trivial, ih _ _ h⟩
theorem list_wide0 {P : Program} {ops : Array Oper} {Q : Exit → Act → World → Prop} (hQ : ¬ LetsOut Q) (rest : List Oper) (a : Act) (w : World) (h : wpList P ops Q rest a w) : wpListIn Fence.wide 0 P ops Q rest a w := by
 have h2 : wpList P ops (Exit.then (wpListIn Fence.wide 0 P ops Q []) Q) rest a w := by
  have : (Exit.then (wpListIn Fence.wide 0 P ops Q []) Q) = Q := by
   funext e a w
   cases e <;> rfl
  rw [this]
  exact h
 have h1 := list_wide (tl := []) hQ rest a w h2
 rwa [List.append_nil] at h1
section
variable {P : Program} {ops : Array Oper} {Q : Exit → Act → World → Prop} {n : Nat} {D : List Deferred} {w0 : World} {M : List Nat} {h0 : Hp} {f : Tab} {h : Hp} {H : List Res} {rest : List Oper}
def Anew (K : World → List Nat → Hp → Hp → List Res → Prop) (w' : World) : Prop := ∃ w1 M1 h1' h1 H1, St w1 M1 h1' h1 H1 w' ∧ K w1 M1 h1' h1 H1
theorem sy_callW {d t : Nat} {p : String} {af : Array Edge} {g : Option (Nat × Bool)} {F : Nat} {args : Array Operand} {tys : Array TypeId} {vs : List Value} (hF : callB P F = true) (hx : f.evs args.toList = some vs) (hw : gok ops f g = some true) (hn : Nat.blt d n = true)
    (hc : ∀ w, St w0 M h0 h H w → Calls P F vs.toArray w fun e w' => ∃ v, e = .returned v ∧ Anew (fun w1 M1 h1' h1 H1 => Sy .txt P ops Q n D w1 M1 h1' rest ((d, v) :: f) h1 H1) w') : Sy .txt P ops Q n D w0 M h0 (⟨some d, .call ⟨.value (.func F), args, tys⟩, t, p, af, g⟩ :: rest) f h H :=
 sy_op hw fun a w ha hs => by
  unfold Oper.wp
  rw [run_callF hF ha hx]
  refine (hc w hs).mono fun e w' ⟨v, he, w1, M1, h1', h1, H1, ht, hk⟩ => ?_
  subst he
  exact hk _ w' (ha.put d _ hn) ht
theorem cy_yield {i : Nat} {ls l1 l2 : List Oper} (N : Nat) (hQ : ¬ LetsOut Q) (hs : splitO N ls = some (l1, l2)) (k : Sy .txt P ls.toArray (Exit.then (wpListIn Fence.wide 0 P ls.toArray Q l2) Q) n D w0 M h0 l1 f h H) : Cy P (.region i ls.toArray false) Q n D w0 M h0 f h H :=
 fun a w ha hst => wpIn_wide.1 (wpIn_region_list (show wpListIn Fence.wide 0 P ls.toArray Q ls.toArray.toList a w from by
  have h1 := list_wide (tl := l2) hQ l1 a w (k a w ha hst)
  obtain ⟨e1, e2⟩ := splitO_spec hs
  rw [← e1, ← e2, List.take_append_drop] at h1
  exact h1))
theorem run_yieldOp {a : Act} {w : World} {dst : Option Nat} {t : Nat} {p : String} {af : Array Edge} {g : Option (Nat × Bool)} {x : Operand} {args : Array Operand} {tys : Array TypeId} {vs : List Value} {l : Nat} (ha : Holds n D f a) (hv : f.ev x = some (.func (.yield l) #[] #[])) (hx : f.evs args.toList = some vs) {fn : FuncId} {tmps : Array Value} {assign body : Code}
    (hy : (Instr.yield l vs.toArray).run P w = .ok (.round l fn tmps assign body) w) : (execOp a.eval ⟨dst, .call ⟨.value x, args, tys⟩, t, p, af, g⟩).run P w = .ok (.round l fn tmps assign body) w := by
 have h1 : args.map a.eval = vs.toArray := by
  rw [← ha.evs hx]
  apply Array.ext'
  simp
 simp only [execOp, resolve, h1, ha.ev hv, Deferred.ofValue, Sem.run_bind, Sem.run_pure, Result.andThen_ok, invoke, Array.empty_append, Array.append_empty, hy]
theorem ny_yield {Q' : Exit → Act → World → Prop} {d t : Nat} {p : String} {af : Array Edge} {x : Operand} {args : Array Operand} {tys : Array TypeId} {vs : List Value} {l : Nat} {R : World → Ending → World → Prop} (hQ : ¬ LetsOut Q) (hv : f.ev x = some (.func (.yield l) #[] #[])) (hx : f.evs args.toList = some vs) (hn : Nat.blt d n = true)
    (hY : ∀ w, St w0 M h0 h H w → YieldAt Fence.wide 0 P l vs.toArray w (R w))
    (k : ∀ w e w', St w0 M h0 h H w → R w e w' → ∃ v, e = .returned v ∧ Anew (fun w1 M1 h1' h1 H1 => Sy .txt P ops Q n D w1 M1 h1' rest ((d, v) :: f) h1 H1) w') :
    Ny (Exit.then (wpListIn Fence.wide 0 P ops Q (⟨some d, .call ⟨.value x, args, tys⟩, t, p, af, none⟩ :: rest)) Q') .normal n D w0 M h0 f h H := fun a w ha hs => by
 show wpListIn Fence.wide 0 P ops Q (_ :: rest) a w
 unfold wpListIn
 rw [if_pos (by simp [Region.wanted])]
 obtain ⟨fn, tmps, assign, body, hy, hR⟩ := hY w hs
 refine ⟨fun _ _ => trivial, ?_⟩
 rw [show ∀ o : Oper, Oper.semAt Fence.wide.round a.eval o = execOp a.eval o from fun _ => rfl, run_yieldOp ha hv hx hy]
 refine ⟨wide_depth, RoundIn.mono hR ?_⟩
 intro e w' hr
 obtain ⟨v, rfl, w1, M1, h1', h1, H1, ht, hk⟩ := k w e w' hs hr
 exact list_wide0 hQ rest _ _ (hk _ w' (ha.put d _ hn) ht)
end
/-! what a round leaves -/
def Res.apart (ty : TypeId) : Res → Bool
 | .blk _ (.cells _ t _) => !(t == ty)
 | .blk _ _ => false
 | .row _ e _ _ _ => !(e == ty)
theorem apart_cells {ty : TypeId} {r : Res} {W : World} (ha : r.apart ty = true) (hk : r.Ok W) {k : Nat} (hkey : r.key = some k) : ∃ c t fr, W.heap[k]? = some (.cells c t fr) ∧ t ≠ ty := by
 cases r with
 | blk g o =>
  simp only [Res.key, Option.some.injEq] at hkey
  subst hkey
  cases o with
  | cells c t fr => exact ⟨c, t, fr, hk, by simpa [Res.apart] using ha⟩
  | _ => simp [Res.apart] at ha
 | row v e size n xs =>
  rcases hk.2 with ⟨h1, _⟩ | ⟨g, cap, cur, rfl, h2, h3, h4⟩
  · rw [h1] at hkey; simp [Res.key, Value.ownBlock] at hkey
  · simp only [Res.key, Value.ownBlock, Option.some.injEq] at hkey
    subst hkey
    exact ⟨cur, e, _, h3, by simpa [Res.apart] using ha⟩
def KT (ty : TypeId) (h : Hp) (W W' : World) : Prop := (h.Sub W → h.Sub W') ∧ ∀ (k : Nat) (c : Array Value) (fr : Nat × Nat), W.heap[k]? = some (.cells c ty fr) → W'.heap[k]? = some (.cells c ty fr)
theorem KT.refl (ty : TypeId) (h : Hp) (W : World) : KT ty h W W := ⟨fun h => h, fun _ _ _ h => h⟩
theorem KT.trans {ty : TypeId} {h : Hp} {A B C : World} (x : KT ty h A B) (y : KT ty h B C) : KT ty h A C := ⟨fun hs => y.1 (x.1 hs), fun k c fr hk => y.2 k c fr (x.2 k c fr hk)⟩
theorem KT.frm {ty : TypeId} {h : Hp} {A B : World} (f : Frm A [] B) : KT ty h A B := ⟨fun hs k o hk => (f.block k (Array.getElem?_eq_some_iff.1 (hs k o hk)).1 (by simp)).trans (hs k o hk), fun k c fr hk => (f.block k (Array.getElem?_eq_some_iff.1 hk).1 (by simp)).trans hk⟩
theorem KT.put {ty : TypeId} {h : Hp} {w : World} (hs : h.Sub w) (W : World) (l : Nat) (o o' : Obj) (hl : w.heap.size ≤ l) (ho : W.heap[l]? = some o) (hc : o.isCells = false) : KT ty h W (W.putObj l o') := by
 refine ⟨fun hS k x hk => ?_, fun k c fr hk => ?_⟩
 · have h1 := (Array.getElem?_eq_some_iff.1 (hs k x hk)).1
   exact (World.putObj_heap_other (by omega)).trans (hS k x hk)
 · have hne : k ≠ l := fun e => by subst e; rw [ho] at hk; cases hk; cases hc
   exact (World.putObj_heap_other (by omega)).trans hk
section
variable {w0 : World} {M : List Nat} {h0 h h' : Hp} {R R' : List Res} {W W' : World} {ty : TypeId}
theorem St.restart (s : St w0 M h0 h R W) : St W (keysOf R) h h R W :=
 ⟨Frm.refl W _, s.sub, Hp.Le.refl h, fun _ _ => rfl, s.ok, fun r hr k hk => ⟨(s.own r hr k hk).1, .inr (mem_keys hr hk)⟩, s.dis⟩
theorem St.join (s : St w0 M h0 h R W) (t : St W (keysOf R) h h' R' W') (hle : h.Le h') : St w0 M h0 h R' W' := by
 have hin : ∀ x, x ∈ keysOf R → w0.heap.size ≤ x ∨ x ∈ M := fun x hx => by
  obtain ⟨r, hr, hk⟩ := List.mem_filterMap.1 hx
  exact (s.own r hr x hk).2
 refine ⟨s.frm.transM t.frm hin, fun k o hk => t.sub k o (hle k o hk), s.le, s.old, t.ok, fun r hr k hk => ?_, t.dis⟩
 have h1 := t.own r hr k hk
 refine ⟨?_, ?_⟩
 · cases hh : h k with
   | none => rfl
   | some o => rw [hle k o hh] at h1; cases h1.1
 · rcases h1.2 with h2 | h2
   · exact .inl (Nat.le_trans s.frm.size h2)
   · exact hin k h2
theorem St.kept (s : St w0 M h0 h R W) (ha : ∀ r ∈ R, r.apart ty = true) (t : St W (keysOf R) h h' R' W') (hle : h.Le h') : KT ty h W W' ∧ ∀ B, KeepsFrom B W W' := by
 have hin : ∀ k ∈ keysOf R, ∃ c t fr, W.heap[k]? = some (.cells c t fr) ∧ t ≠ ty := fun k hk => by
  obtain ⟨r, hr, hkey⟩ := List.mem_filterMap.1 hk
  exact apart_cells (ha r hr) (s.ok r hr) hkey
 refine ⟨⟨fun _ k o hk => t.sub k o (hle k o hk), fun k c fr hk => (t.frm.block k (Array.getElem?_eq_some_iff.1 hk).1 (fun hm => ?_)).trans hk⟩, fun B => ⟨t.frm.size, fun k o _ hk ho => (t.frm.block k (Array.getElem?_eq_some_iff.1 hk).1 (fun hm => ?_)).trans hk⟩⟩
 · obtain ⟨c', t', fr', h1, h2⟩ := hin k hm
   rw [h1] at hk
   cases hk
   exact h2 rfl
 · obtain ⟨c', t', fr', h1, h2⟩ := hin k hm
   rw [h1] at hk
   cases hk
   cases ho
theorem St.grown {B : Nat} {row : Option Nat} (s : St w0 M h0 h R W) (ha : ∀ r ∈ R, r.apart ty = true) (hB : w0.heap.size ≤ B) (hh : ∀ k o, h k = some o → k < B) (g : W.grownBy W' row) (hr : ∀ r, row = some r → B ≤ r ∧ ∃ o : Obj, W.heap[r]? = some o ∧ o.isCells = false) : St w0 M h0 h R W' := by
 have hsm : ∀ k, k < B → some k ≠ row := fun k hk e => by have := (hr k e.symm).1; omega
 refine ⟨⟨g.os.trans s.frm.os, g.tape.trans s.frm.tape, g.output.trans s.frm.output, Nat.le_trans s.frm.size g.size, fun k hk hm => (g.block k (Nat.lt_of_lt_of_le hk s.frm.size) (hsm k (by omega))).trans (s.frm.block k hk hm)⟩,
  fun k o hk => (g.block k (Array.getElem?_eq_some_iff.1 (s.sub k o hk)).1 (hsm k (hh k o hk))).trans (s.sub k o hk), s.le, s.old, fun r hr' => ?_, s.own, s.dis⟩
 refine Res.Ok.keep (s.ok r hr') fun k hk => ?_
 obtain ⟨c, t, fr, h1, _⟩ := apart_cells (ha r hr') (s.ok r hr') hk
 refine g.block k (Array.getElem?_eq_some_iff.1 h1).1 (fun e => ?_)
 obtain ⟨_, o, h2, h3⟩ := hr k e.symm
 rw [h1] at h2
 cases h2
 cases h3
end
end Go.Proofs.YtanhhihechakhaaDoor.E
set_option linter.unusedVariables false
set_option linter.unusedSimpArgs false
namespace Go.Proofs.YtanhhihechakhaaDoor.E
open Go.RowKit
section
variable {P : Program} {Q : Exit → Act → World → Prop} {n : Nat} {w0 : World} {M : List Nat} {h0 : Hp} {f : Tab} {h : Hp} {H : List Res}
def RQ {α : Type} (Φ : List α → List Res → Prop) (Φx : Code → List α → List Res → Prop) (xs : List α) (W : World) (ks : List Nat) (h : Hp) : Exit → Act → World → Prop
 | .normal, _, W' => ∃ h' R', h.Le h' ∧ Φ xs R' ∧ St W ks h h' R' W'
 | .ret, _, W' => ∃ h' R', h.Le h' ∧ Φx .ret xs R' ∧ St W ks h h' R' W'
 | .exit i, _, W' => ∃ h' R', h.Le h' ∧ Φx (.exit i) xs R' ∧ St W ks h h' R' W'
 | _, _, _ => False
theorem cy_range {α : Type} {p : Tmp} {x : Operand} {assign body : Code} {gf : Nat} {caps : List Value} {enc : α → Value} {S Sp : List α → Prop} {N : Nat} (ty : TypeId) (Φ : List α → List Res → Prop) (Φx : Code → List α → List Res → Prop) (Ax : α → Act → World → Prop)
    (hg : f.ev x = some (.func (.func gf) #[] caps.toArray)) (eg : callB P gf = true) (hp : Nat.blt p n = true)
    (hseq : ∀ W, h.Sub W → SeqStopsK Fence.wide 1 P gf caps.toArray (fun y => #[enc y]) (KT ty h) S Sp N W)
    (hap : ∀ pre R, Φ pre R → ∀ r ∈ R, r.apart ty = true) (hapx : ∀ c pre R, Φx c pre R → ∀ r ∈ R, r.apart ty = true)
    (hH : Φ [] H) (hAx : ∀ y a' B, OwnFrom B (fun (_ : Unit) W => Ax y a' W))
    (hassign : ∀ l pre y R a0 W, Φ pre R → St W (keysOf R) h h R W → Holds n [] ((p, enc y) :: f) a0 → ∀ K : Act → World → Prop, (∀ a' W', St W (keysOf R) h h R W' → Ax y a' W' → K a' W') → assign.wpIn (Fence.wide.inRound l) 0 P (Exit.then K (fun _ _ _ => False)) a0 W)
    (hbody : ∀ l pre y R a' W, Φ pre R → St W (keysOf R) h h R W → Ax y a' W → pre.length < N → body.wpIn (Fence.wide.inRound l) 0 P (RQ Φ Φx (pre ++ [y]) W (keysOf R) h) a' W)
    (hdone : ∀ b xs R, S xs → Φ xs R → Ny Q .normal n [⟨.collected b, #[]⟩] w0 M h0 f h (.blk b (.deferred (some [])) :: R))
    (hstop : ∀ b c pre R, Sp pre → Φx c pre R → Cy P c Q n [⟨.collected b, #[]⟩] w0 M h0 f h (.blk b (.deferred (some [])) :: R)) :
    Cy P (.rangeFunc x #[p] assign body) Q n [] w0 M h0 f h H := fun a w ha hs => by
 have hlt : ∀ k o, h k = some o → k < w.heap.size := fun k o hk => (Array.getElem?_eq_some_iff.1 (hs.sub k o hk)).1
 have own : ∀ (Ψ : List α → List Res → Prop), (∀ pre R, Ψ pre R → ∀ r ∈ R, r.apart ty = true) → OwnFrom w.heap.size (fun pre W => ∃ R, Ψ pre R ∧ St w0 M h0 h R W) := fun Ψ hΨ s W W' row ⟨R, h1, h2⟩ hgr hr => ⟨R, h1, h2.grown (hΨ _ _ h1) hs.frm.size hlt hgr hr⟩
 have mark : ∀ {b : Nat} {W : World} {R : List Res}, w.heap.size ≤ b → (∀ r ∈ R, r.apart ty = true) → St w0 M h0 h R W → W.heap[b]? = some (.deferred (some [])) → St w0 M h0 h (.blk b (.deferred (some [])) :: R) W := fun {b W R} hb hR t hd => by
  refine ⟨t.frm, t.sub, t.le, t.old, fun r hr => ?_, fun r hr k hk => ?_, List.pairwise_cons.2 ⟨fun r hr k hk hk2 => ?_, t.dis⟩⟩
  · rcases List.mem_cons.1 hr with rfl | hr
    · exact hd
    · exact t.ok r hr
  · rcases List.mem_cons.1 hr with rfl | hr
    · simp only [Res.key, Option.some.injEq] at hk
      subst hk
      refine ⟨?_, .inl (Nat.le_trans hs.frm.size hb)⟩
      cases hh : h b with
      | none => rfl
      | some o => have := hlt b o hh; omega
    · exact t.own r hr k hk
  · simp only [Res.key, Option.some.injEq] at hk
    subst hk
    obtain ⟨c, ty', fr, h1, _⟩ := apart_cells (hR r hr) (t.ok r hr) hk2
    rw [hd] at h1
    cases h1
 refine wpIn_wide.1 (wpIn_rangeFunc_ownH (F := Fence.wide) (n := 2) (w0 := w) (encs := fun y => #[enc y]) rfl (by decide) (ha.ev hg) trivial (fun args w => call_spec eg args w) (hseq w hs.sub) (fun x y => x.trans y) (fun W l o o' hl ho hc _ => KT.put hs.sub W l o o' hl ho hc) (Below.refl _ _) (fun _ => rfl)
  (fun pre W => ∃ R, Φ pre R ∧ St w0 M h0 h R W) (fun c pre W => ∃ R, Φx c pre R ∧ St w0 M h0 h R W) (own Φ hap) (fun c => own (Φx c) (hapx c)) ⟨H, hH, hs⟩ Ax (fun y a' => hAx y a' _) ?_ ?_ ?_ ?_)
 · rintro l pre y W K ⟨R, h1, h2⟩ hK
   refine hassign l pre y R _ W h1 h2.restart ?_ K fun a' W' t hx => ?_
   · have h3 := ha.put p (enc y) hp
     have e : (#[p].zip #[enc y]).foldl (fun t (x : Tmp × Value) => t.setIfInBounds x.1 x.2) a.tmps = (a.put (some p) (enc y)).tmps := by simp [Act.put]
     refine ⟨?_, rfl, ?_⟩
     · show ((#[p].zip #[enc y]).foldl (fun t (x : Tmp × Value) => t.setIfInBounds x.1 x.2) a.tmps).size = n
       rw [e]
       exact h3.size
     · intro i v hi
       show ((#[p].zip #[enc y]).foldl (fun t (x : Tmp × Value) => t.setIfInBounds x.1 x.2) a.tmps)[i]? = some v
       rw [e]
       exact h3.get i v hi
   · have := h2.kept (hap _ _ h1) t (Hp.Le.refl h)
     exact hK a' W' (this.2 _) this.1 ⟨R, h1, h2.join t (Hp.Le.refl h)⟩ hx
 · rintro l pre y a' W _ _ ⟨R, h1, h2⟩ hx hl
   refine wpIn_mono (hbody l pre y R a' W h1 h2.restart hx hl) ?_
   intro e a'' W' hq
   cases e with
   | normal =>
    obtain ⟨h', R', hle, h3, t⟩ := hq
    have := h2.kept (hap _ _ h1) t hle
    exact ⟨this.2 _, this.1, R', h3, h2.join t hle⟩
   | ret =>
    obtain ⟨h', R', hle, h3, t⟩ := hq
    exact ⟨(h2.kept (hap _ _ h1) t hle).2 _, R', h3, h2.join t hle⟩
   | exit i =>
    obtain ⟨h', R', hle, h3, t⟩ := hq
    exact ⟨(h2.kept (hap _ _ h1) t hle).2 _, R', h3, h2.join t hle⟩
   | _ => exact hq.elim
 · rintro b xs W hb hS ⟨R, h1, h2⟩ hd
   refine hdone b xs R hS h1 _ W ?_ (mark hb (hap _ _ h1) h2 hd)
   exact ⟨ha.size, by rw [ha.defers], ha.get⟩
 · rintro b c pre W hb hS ⟨R, h1, h2⟩ hd
   refine wpIn_wide.2 (hstop b c pre R hS h1 _ W ?_ (mark hb (hapx _ _ _ h1) h2 hd))
   exact ⟨ha.size, by rw [ha.defers], ha.get⟩
/-! the world told of anew -/
def emp : Hp := fun _ => none
theorem emp_sub (w : World) : emp.Sub w := fun k o hk => by cases hk
theorem cy_anew {D : List Deferred} {c : Code} (k : ∀ w, St w0 M h0 h H w → Anew (fun w1 M1 h1' h1 H1 => Cy P c Q n D w1 M1 h1' f h1 H1) w) : Cy P c Q n D w0 M h0 f h H := fun a w ha hs => by
 obtain ⟨w1, M1, h1', h1, H1, ht, hk⟩ := k w hs
 exact hk a w ha ht
def RoundA (I : Nat → World → Prop) (μ : Nat → Nat) (F : Nat → Tab) (n : Nat) (D : List Deferred) (i : Nat) : Act → World → Prop := fun a w => ∃ i', μ i' < μ i ∧ Holds n D (F i') a ∧ I i' w
theorem cy_loopA {D : List Deferred} {c : Code} (I : Nat → World → Prop) (μ : Nat → Nat) (F : Nat → Tab) (i0 : Nat) (hF : Tab.Le (F i0) f) (hI : ∀ w, St w0 M h0 h H w → I i0 w)
    (round : ∀ i w, I i w → ∃ h1, h1.Sub w ∧ Cy P c (Exit.then (RoundA I μ F n D i) Q) n D w [] h1 (F i) h1 []) : Cy P (.loop c) Q n D w0 M h0 f h H := by
 intro a w ha hs
 refine wp_loop_ghost (fun k a w => ∃ i, μ i = k ∧ Holds n D (F i) a ∧ I i w) (μ i0) ⟨i0, rfl, ha.weak hF, hI w hs⟩ ?_
 rintro k a w ⟨i, rfl, ha, hi⟩
 obtain ⟨h1, hs1, hk⟩ := round i w hi
 refine wp_mono (hk a w ha (St.start hs1 [])) ?_
 intro e a' w' hq
 cases e with
 | normal =>
  obtain ⟨i', h2, h3, h4⟩ := hq
  exact ⟨μ i', h2, i', rfl, h3, h4⟩
 | exit id => exact hq
 | goto l => exact hq
 | ret => exact hq
 | panic ch => exact hq
 | outgrown => exact hq
theorem ny_roundA {D : List Deferred} {I : Nat → World → Prop} {μ : Nat → Nat} {F : Nat → Tab} {i : Nat} (i' : Nat) (hμ : μ i' < μ i) (hF : Tab.Le (F i') f) (hI : ∀ w, St w0 M h0 h H w → I i' w) : Ny (Exit.then (RoundA I μ F n D i) Q) .normal n D w0 M h0 f h H := fun a w ha hs => ⟨i', hμ, ha.weak hF, hI w hs⟩
/-! entry and return -/
theorem enterMK {F : Nat} {fn : Func} {c : Code} {vs : List Value} {R : Ending → World → Prop} (hf : P.funcs[F]? = some fn) (hb : fn.body = some c) (hi : initO 0 vs = some f) (hn : Nat.ble vs.length fn.ntmps = true)
    {w : World} (hs : St w M h0 h H w) (k : Cy P c (bodyPostM Fence.wide 0 P fn R) fn.ntmps [] w M h0 f h H) : Calls P F vs.toArray w R := by
 refine callsIn_wide.1 (callsIn_of_wp_marks (n := 0) hf hb trivial (wpIn_wide.2 (k _ w ⟨?_, rfl, fun i v hiv => ?_⟩ hs)))
 · have := Nat.le_of_ble_eq_true hn
   simp
   omega
 · obtain ⟨_, h1⟩ := initO_get hi i v hiv
   have hlt := (List.getElem?_eq_some_iff.1 h1).1
   simp only [Nat.sub_zero] at h1 hlt
   rw [Array.getElem?_append_left (by simpa using hlt)]
   simpa using h1
theorem enterK0 {F : Nat} {fn : Func} {c : Code} {vs : List Value} {v : Value} (hf : P.funcs[F]? = some fn) (hb : fn.body = some c) (hi : initO 0 vs = some f) (hn : Nat.ble vs.length fn.ntmps = true)
    (k : ∀ w, Cy P c (bodyPostM Fence.wide 0 P fn fun e w' => e = .returned v ∧ Frm w [] w') fn.ntmps [] w [] h f h []) : C0 P F vs h v := fun w hs => enterMK hf hb hi hn (St.start hs []) (k w)
theorem enterKX {X : Type} {rv : X → Value} {Φ : X → Hp → Prop} {F : Nat} {fn : Func} {c : Code} {vs : List Value} (hf : P.funcs[F]? = some fn) (hb : fn.body = some c) (hi : initO 0 vs = some f) (hn : Nat.ble vs.length fn.ntmps = true)
    (k : ∀ w, Cy P c (bodyPostM Fence.wide 0 P fn fun e w' => ∃ x h', e = .returned (rv x) ∧ Φ x h' ∧ Grow h w h' w') fn.ntmps [] w [] h f h []) : CX P F vs h rv Φ := fun w hs => enterMK hf hb hi hn (St.start hs []) (k w)
theorem leave_mark {fn : Func} {R : Ending → World → Prop} {b i : Nat} {H1 : List Res} {a : Act} {w : World} {v : Value} (hp : pickR i H = some (.blk b (.deferred (some [])), H1))
    (hres : ∀ a w, Holds n [⟨.collected b, #[]⟩] f a → St w0 M h0 h (.blk b (.deferred none) :: H1) w → (results fn a.tmps).run P w = .ok v w) (k : ∀ w, St w0 M h0 h (.blk b (.deferred none) :: H1) w → R (.returned v) w)
    (ha : Holds n [⟨.collected b, #[]⟩] f a) (hs : St w0 M h0 h H w) : LeavesInM Fence.wide 0 P fn a.tmps R a.defers .returning w := by
 have hs' := hs.swap (pickR_perm hp)
 have hb : w.heap[b]? = some (.deferred (some [])) := hs'.ok _ (List.mem_cons_self)
 have hlt : b < w.heap.size := (Array.getElem?_eq_some_iff.1 hb).1
 have t : St w0 M h0 h (.blk b (.deferred none) :: H1) (w.putObj b (.deferred none)) :=
  hs'.write ⟨rfl, rfl, rfl, by simp [World.putObj], fun k hk hm => World.putObj_heap_other (by simpa using hm)⟩ (World.putObj_heap_same hlt)
 rw [ha.defers]
 exact ⟨by simp, .inl ⟨_, _, rfl, run_takeDeferred hb, v, hres a _ ha t, k _ t⟩⟩
theorem ny_finKR {fn : Func} {R : Ending → World → Prop} {b i : Nat} {H1 : List Res} {v : Value} (hp : pickR i H = some (.blk b (.deferred (some [])), H1))
    (hres : ∀ a w, Holds n [⟨.collected b, #[]⟩] f a → St w0 M h0 h (.blk b (.deferred none) :: H1) w → (results fn a.tmps).run P w = .ok v w) (k : ∀ w, St w0 M h0 h (.blk b (.deferred none) :: H1) w → R (.returned v) w) :
    Ny (bodyPostM Fence.wide 0 P fn R) .ret n [⟨.collected b, #[]⟩] w0 M h0 f h H := fun a w ha hs => leave_mark hp hres k ha hs
theorem ny_finM {fn : Func} {R : Ending → World → Prop} {v : Value} (hres : ∀ a w, Holds n [] f a → St w0 M h0 h H w → (results fn a.tmps).run P w = .ok v w) (k : ∀ w, St w0 M h0 h H w → R (.returned v) w) : Ny (bodyPostM Fence.wide 0 P fn R) .ret n [] w0 M h0 f h H :=
 fun a w ha hs => by
  show LeavesInM Fence.wide 0 P fn a.tmps R a.defers .returning w
  rw [ha.defers]
  exact ⟨v, hres a w ha hs, k w hs⟩
theorem ares1 {fn : Func} {D : List Deferred} {t : Nat} {v : Value} (hr : fn.results = #[.tmp t]) (hv : f.get t = some v) : ∀ a w, Holds n D f a → St w0 M h0 h H w → (results fn a.tmps).run P w = .ok v w := fun a w ha _ => by
 have := ha.get t v hv
 rw [results_tmp hr]
 simp [this]
theorem aresc0 {fn : Func} {D : List Deferred} {t ty e : Nat} {fr : Nat × Nat} {b : Nat} {v : Value} {H1 : List Res} (i : Nat) (hr : fn.results = #[.cell t ty]) (hty : oneB P ty = true) (hv : f.get t = some (.pointer (some ⟨b, 0, none⟩)))
    (hp : pickR i H = some (.blk b (.cells [v].toArray e fr), H1)) : ∀ a w, Holds n D f a → St w0 M h0 h H w → (results fn a.tmps).run P w = .ok v w := fun a w ha hs => by
 have h1 := ha.get t _ hv
 have hb : w.heap[b]? = some (.cells [v].toArray e fr) := (hs.swap (pickR_perm hp)).ok _ (List.mem_cons_self)
 have hc : w.cell? ⟨b, 0, none⟩ = some v := by simp [World.cell?, hb]
 have h5 := one_spec hty w
 simp [results, hr, h1, asAddr, loadVar, h5, hc]
theorem cyr_enter {l : Nat} {c : Code} {a : Act} {w : World} (k : Cyr l P c Q n [] w0 M h0 f h H) (ha : Holds n [] f a) (hs : St w0 M h0 h H w) : c.wpIn (Fence.wide.inRound l) 0 P Q a w := k a w ha hs
theorem St.keys_lt {W : World} {R : List Res} (s : St w0 M h0 h R W) : ∀ x ∈ keysOf R, x < W.heap.size := fun x hx => by
 obtain ⟨r, hr, hk⟩ := List.mem_filterMap.1 hx
 exact Res.Ok.lt (s.ok r hr) hk
theorem St.forget {W W' : World} {ks : List Nat} {hu h' : Hp} {R' : List Res} (t : St W ks hu h' R' W') (hle : h.Le h') : St W ks h h R' W' := by
 refine ⟨t.frm, fun k o hk => t.sub k o (hle k o hk), Hp.Le.refl h, fun _ _ => rfl, t.ok, fun r hr k hk => ⟨?_, (t.own r hr k hk).2⟩, t.dis⟩
 cases hh : h k with
 | none => rfl
 | some o =>
  have := (t.own r hr k hk).1
  rw [hle k o hh] at this
  cases this
theorem St.know {ty : TypeId} {W : World} {R : List Res} {b : Nat} {c : Array Value} {fr : Nat × Nat} (s : St W (keysOf R) h h R W) (ha : ∀ r ∈ R, r.apart ty = true) (hb : W.heap[b]? = some (.cells c ty fr)) : ∃ h', h.Le h' ∧ h' b = some (.cells c ty fr) ∧ St W (keysOf R) h' h' R W := by
 refine ⟨h.upd b (.cells c ty fr), fun k o hk => ?_, Hp.upd_same h b _, ⟨s.frm, Hp.upd_sub s.sub hb, Hp.Le.refl _, fun _ _ => rfl, s.ok, fun r hr k hk => ⟨?_, (s.own r hr k hk).2⟩, s.dis⟩⟩
 · by_cases e : k = b
   · subst e
     rw [Hp.upd_same, ← s.sub k o hk, hb]
   · simpa [Hp.upd, e] using hk
 · obtain ⟨c', t', fr', h1, h2⟩ := apart_cells (ha r hr) (s.ok r hr) hk
   have hne : k ≠ b := fun e => by subst e; rw [h1] at hb; cases hb; exact h2 rfl
   simpa [Hp.upd, hne] using (s.own r hr k hk).1
end
end Go.Proofs.YtanhhihechakhaaDoor.E
set_option linter.unusedVariables false
set_option linter.unusedSimpArgs false
namespace Go.Proofs.YtanhhihechakhaaDoor
open Go.RowKit Go.Proofs.YtanhhihechakhaaDoor.E Go.Proofs.YtanhhihechakhaaDoor.ReplP Go.Proofs.YtanhhihechakhaaDoor.TokP Go.Proofs.YtanhhihechakhaaDoor.TermP Go.Proofs.YtanhhihechakhaaDoor.WrP
mutual
/-- a term's parts, itself first -/
def prts : GT → List GT | .mk k n s A c kids => .mk k n s A c kids :: prtss kids
def prtss : List GT → List GT | [] => [] | t :: l => prts t ++ prtss l
end
theorem prts_mk (k n : Int) (s : ByteArray) (A : Option Addr) (c : Nat) (kids : List GT) : prts (.mk k n s A c kids) = .mk k n s A c kids :: prtss kids := by rw [prts]
theorem prtss_nil : prtss [] = [] := by rw [prtss]
theorem prtss_cons (t : GT) (l : List GT) : prtss (t :: l) = prts t ++ prtss l := by rw [prtss]
theorem prtss_snoc : ∀ (l : List GT) (t : GT), prtss (l ++ [t]) = prtss l ++ prts t
 | [], t => by rw [List.nil_append, prtss_cons, prtss_nil, List.nil_append, List.append_nil]
 | x :: l, t => by rw [List.cons_append, prtss_cons, prtss_cons, prtss_snoc l t, List.append_assoc]
theorem prtss_succ {l : List GT} {i : Nat} {t : GT} (h : l[i]? = some t) : prtss (l.take (i + 1)) = prtss (l.take i) ++ prts t := by rw [take_snoc h, prtss_snoc]
theorem prtss_split (l : List GT) (i : Nat) : prtss l = prtss (l.take i) ++ prtss (l.drop i) := by
 conv => lhs; rw [← List.take_append_drop i l]
 induction l.take i with
 | nil => rw [List.nil_append, prtss_nil, List.nil_append]
 | cons x m ih => rw [List.cons_append, prtss_cons, prtss_cons, ih, List.append_assoc]
theorem prtss_pre {l : List GT} {i : Nat} {t : GT} (h : l[i]? = some t) : ∃ r, prtss l = prtss (l.take i) ++ prts t ++ r := ⟨prtss (l.drop (i + 1)), by rw [prtss_split l (i + 1), prtss_succ h]⟩
theorem prts_wt : ∀ t : GT, (prts t).length ≤ wtG t := fun t => by
 induction t using GT.ind with
 | h k n s A c kids ih =>
  have key : ∀ l : List GT, (∀ t ∈ l, (prts t).length ≤ wtG t) → (prtss l).length ≤ wtGs l := fun l => by
   induction l with
   | nil => intro _; rw [prtss_nil]; exact Nat.zero_le _
   | cons x l ihl =>
    intro h
    have h1 := h x List.mem_cons_self
    have h2 := ihl (fun u hu => h u (List.mem_cons_of_mem _ hu))
    rw [prtss_cons, wtGs_cons, List.length_append]
    omega
  have := key kids ih
  rw [prts_mk, wtG_mk, List.length_cons]
  omega
theorem prts_tm : ∀ t : GT, (prts t).map GT.tm = partsT t.tm := fun t => by
 induction t using GT.ind with
 | h k n s A c kids ih =>
  have key : ∀ l : List GT, (∀ t ∈ l, (prts t).map GT.tm = partsT t.tm) → (prtss l).map GT.tm = partsTs (l.map GT.tm) := fun l => by
   induction l with
   | nil => intro _; rw [prtss_nil, List.map_nil, partsTs_nil]
   | cons x l ihl =>
    intro h
    rw [prtss_cons, List.map_append, List.map_cons, partsTs_cons, h x List.mem_cons_self, ihl (fun u hu => h u (List.mem_cons_of_mem _ hu))]
  rw [prts_mk, List.map_cons, key kids ih, GT.tm_mk, parts_mk]
abbrev TA (h : Hp) := {t : GT // (Lies h t ∧ Fits t) ∧ wtG t ≤ 1099511627776}
theorem abides_frm {β : Type} {B : Nat} {J : β → World → Prop} (h : AbidesFrom B J) : ∀ s W W', J s W → Frm W [] W' → J s W' := fun s W W' hj f => h s W W' none hj ⟨f.os, f.tape, f.output, f.size, fun k hk _ => f.block k hk (by simp)⟩ (fun r e => by cases e)
abbrev WalkR (h : Hp) (J Jx : List (TA h) → World → Prop) (pre : List (TA h)) (W : World) (t : GT) : Ending → World → Prop := fun e W' => ∃ b : Bool, e = .returned (.bool b) ∧ (b = true → ∃ ys : List (TA h), ys.map (·.1) = prts t ∧ J (pre ++ ys) W' ∧ KT 30 h W W') ∧ (b = false → ∃ q : List (TA h), q.map (·.1) <+: prts t ∧ Jx (pre ++ q) W')
abbrev AxV (h : Hp) (n p : Nat) (tab : Tab) (y : TA h) (a' : Act) (W : World) : Prop := ∃ bb, W.heap[bb]? = some (.cells (GT.cells y.1).toArray 30 (0, 0)) ∧ Holds n [] ((p, .pointer (some ⟨bb, 0, none⟩)) :: tab) a'
theorem axV_own (h : Hp) (n p : Nat) (tab : Tab) : ∀ (y : TA h) (a' : Act) (B : Nat), OwnFrom B (fun (_ : Unit) W => AxV h n p tab y a' W) := fun y a' B s W W' row ⟨bb, h1, h2⟩ hg hr => ⟨bb, (hg.block bb (Array.getElem?_eq_some_iff.1 h1).1 (fun e => by obtain ⟨_, o, h3, h4⟩ := hr bb e.symm; rw [h1] at h3; cases h3; cases h4)).trans h1, h2⟩
set_option maxRecDepth 100000 in
theorem walk_c (h : Hp) (l N : Nat) (J Jx : List (TA h) → World → Prop) (hJ : ∀ s W W', J s W → Frm W [] W' → J s W') (hJx : ∀ s W W', Jx s W → Frm W [] W' → Jx s W') (hY : ∀ (pre : List (TA h)) (x : TA h) (W : World), J pre W → pre.length < N → YieldAt Fence.wide 0 Tryd.prog l #[.agg (GT.cells x.1).toArray] W fun e W' => (e = .returned (.bool true) ∧ J (pre ++ [x]) W' ∧ KT 30 h W W') ∨ (e = .returned (.bool false) ∧ Jx (pre ++ [x]) W')) (t : GT) : ∀ (hT : (Lies h t ∧ Fits t) ∧ wtG t ≤ 1099511627776) (pre : List (TA h)) (W : World), h.Sub W → J pre W → pre.length + (prts t).length ≤ N → Calls Tryd.prog 41 (List.toArray [.agg (GT.cells t).toArray, .func (.yield l) #[] #[]]) W (WalkR h J Jx pre W t) := by
 induction t using GT.ind
 rename_i tk tn ts tA tc kids ih
 intro hT pre W hsub hJ0 hN
 have hl := hT.1.1
 have hf := hT.1.2
 have hwt := hT.2
 rw [wtG_mk] at hwt
 have hr := hl.rows
 have hroom := hf.room
 show Calls Tryd.prog 41 (List.toArray [.agg #[.int .i64 tk, .int .i64 tn, .string ts, .slice tA kids.length tc], .func (.yield l) #[] #[]]) W (WalkR h J Jx pre W (GT.mk tk tn ts tA tc kids))
 refine enterM (h0 := h) (M := []) Tryd.func41 rfl rfl rfl (St.start hsub []) ?_
 refine cy_seq ?_
 refine cy_region ?_
 refine sy_box rfl rfl rfl rfl (fun b2 hb2 hM2 => ?_) (by simp)
 refine sy_assign rfl rfl rfl ?_
 refine sy_nil rfl ?_
 refine ny_next ?_
 refine cy_seq ?_
 refine cy_seq ?_
 refine cy_yield 2 (lets_then (fun ⟨_, _, hq⟩ => by obtain ⟨b, he, _⟩ := hq; cases he)) rfl ?_
 refine sy_move rfl rfl rfl ?_
 refine sy_ldar 0 agg_30 rfl rfl rfl rfl rfl ?_
 refine sy_nil rfl ?_
 refine ny_yield (R := fun w8 e W' => (e = .returned (.bool true) ∧ J (pre ++ [⟨(GT.mk tk tn ts tA tc kids), hT⟩]) W' ∧ KT 30 h w8 W') ∨ (e = .returned (.bool false) ∧ Jx (pre ++ [⟨(GT.mk tk tn ts tA tc kids), hT⟩]) W')) (lets_then (fun ⟨_, _, hq⟩ => by obtain ⟨b, he, _⟩ := hq; cases he)) rfl rfl rfl (fun w8 hs8 => hY pre ⟨(GT.mk tk tn ts tA tc kids), hT⟩ w8 (hJ _ _ _ hJ0 hs8.frm) (by rw [prts_mk, List.length_cons] at hN; omega)) (fun w8 e w9 hs8 hr8 => ?_)
 have hbx8 : w8.heap[b2]? = some _ := hs8.ok _ (List.mem_cons_self)
 obtain ⟨b9, rfl, hT9, hF9⟩ : ∃ b9 : Bool, e = .returned (.bool b9) ∧ (b9 = true → J (pre ++ [⟨(GT.mk tk tn ts tA tc kids), hT⟩]) w9 ∧ KT 30 h w8 w9) ∧ (b9 = false → Jx (pre ++ [⟨(GT.mk tk tn ts tA tc kids), hT⟩]) w9) := by
  rcases hr8 with ⟨h1, h2, h3⟩ | ⟨h1, h2⟩
  · exact ⟨true, h1, fun _ => ⟨h2, h3⟩, fun h9 => (by cases h9)⟩
  · exact ⟨false, h1, fun h9 => (by cases h9), fun _ => h2⟩
 refine ⟨.bool b9, rfl, w9, [], emp, emp, [], St.start (emp_sub w9) [], ?_⟩
 refine sy_not rfl rfl rfl ?_
 refine sy_nil rfl ?_
 refine ny_next ?_
 refine cy_cond rfl (fun hc10 => ?_) (fun hc10 => ?_)
 · refine cy_seq ?_
   refine cy_region ?_
   refine sy_assign rfl rfl rfl ?_
   refine sy_nil rfl ?_
   refine ny_next ?_
   refine cy_ret ?_
   refine ny_thenR ?_
   refine ny_finR (res1 rfl rfl) (fun w hs => ?_)
   refine ⟨false, rfl, fun h9 => (by cases h9), fun _ => ⟨[⟨(GT.mk tk tn ts tA tc kids), hT⟩], ?_, hJx _ _ _ (hF9 (by simpa using hc10)) hs.frm⟩⟩
   rw [prts_mk]
   exact ⟨_, rfl⟩
 · refine cy_skip ?_
   refine ny_next ?_
   refine cy_seq ?_
   refine cy_seq ?_
   obtain ⟨hJ9, hk9⟩ := hT9 (by simpa using hc10)
   refine cy_anew (fun w3 hs3 => ?_)
   have hk3 : KT 30 h W w3 := ((KT.frm hs8.frm).trans hk9).trans (KT.frm hs3.frm)
   have hbx3 := (KT.frm (ty := 30) (h := h) hs3.frm).2 _ _ _ (hk9.2 _ _ _ hbx8)
   have hJ3 := hJ _ _ _ hJ9 hs3.frm
   refine ⟨w3, [], h.upd b2 (.cells [.int .i64 tk, .int .i64 tn, .string ts, .slice tA kids.length tc].toArray 30 (0, 0)), h.upd b2 (.cells [.int .i64 tk, .int .i64 tn, .string ts, .slice tA kids.length tc].toArray 30 (0, 0)), [], St.start (Hp.upd_sub (hk3.1 hsub) hbx3) [], ?_⟩
   have hbx := Hp.upd_same h b2 (.cells [.int .i64 tk, .int .i64 tn, .string ts, .slice tA kids.length tc].toArray 30 (0, 0))
   refine cy_region ?_
   refine sy_field fld_30_3 rfl rfl rfl ?_
   refine sy_ldh one_23 rfl (Hp.blk hbx 3 _ rfl) rfl rfl ?_
   refine sy_len rfl (len_slice Tryd.underlying23 _ _ _) rfl rfl ?_
   refine sy_move rfl rfl rfl ?_
   refine sy_nil rfl ?_
   refine ny_next ?_
   refine cy_block ?_
   refine cy_loopA (fun i w => i ≤ kids.length ∧ ∃ ys : List (TA h), ys.map (·.1) = (GT.mk tk tn ts tA tc kids) :: prtss (kids.take i) ∧ J (pre ++ ys) w ∧ KT 30 h W w) (fun i => kids.length - i) (fun i => [(14, .int .i64 (i : Int)), (13, .int .i64 (kids.length : Int)), (12, .slice tA kids.length tc), (1, .func (.yield l) #[] #[])]) 0 ⟨rfl, rfl, rfl, rfl, trivial⟩ (fun w4 hs4 => ⟨Nat.zero_le _, [⟨(GT.mk tk tn ts tA tc kids), hT⟩], by rw [List.take_zero, prtss_nil]; rfl, hJ _ _ _ hJ3 hs4.frm, hk3.trans (KT.frm hs4.frm)⟩) (fun i w4 ⟨hI, ys, hys, hJ4, hk4⟩ => ⟨h, hk4.1 hsub, ?_⟩)
   refine cy_seq ?_
   refine cy_region ?_
   refine sy_cmp rfl rfl rfl rfl rfl ?_
   refine sy_nil rfl ?_
   refine ny_next ?_
   refine cy_seq ?_
   refine cy_cond rfl (fun hc15 => ?_) (fun hc15 => ?_)
   · have hlti : i < kids.length := by have := of_decide_eq_true hc15; omega
     refine cy_skip ?_
     refine ny_next ?_
     refine cy_seq ?_
     refine cy_block ?_
     refine cy_seq ?_
     refine cy_region ?_
     refine sy_idxR (i := i) (fc := GT.cells) (es := kids) els_23 rfl rfl hr rfl (by omega) rfl rfl (fun e16 b16 o16 he16 hA16 hc16 => ?_)
     refine sy_ldah (vs := GT.cells e16) agg_30 rfl rfl hc16 rfl rfl ?_
     refine sy_alloc zer_30 rfl rfl (fun b6 hb6 hM6 => ?_) (by simp)
     first | refine sy_stl 0 sz_30 rfl rfl rfl rfl rfl rfl rfl rfl ?_ | refine sy_stl 1 sz_30 rfl rfl rfl rfl rfl rfl rfl rfl ?_
     refine sy_nil rfl ?_
     refine ny_next ?_
     refine cy_seq ?_
     refine cy_region ?_
     first | refine sy_ldar 0 agg_30 rfl rfl rfl rfl rfl ?_ | refine sy_ldar 1 agg_30 rfl rfl rfl rfl rfl ?_
     refine sy_move rfl rfl rfl ?_
     refine sy_callW call_41 rfl rfl rfl (fun w20 hs20 => ?_)
     refine (ih e16 (List.mem_of_getElem? he16) ⟨⟨hl.at he16, hf.at he16⟩, by have := wtG_at he16; omega⟩ (pre ++ ys) w20 ((hk4.trans (KT.frm hs20.frm)).1 hsub) (hJ _ _ _ hJ4 hs20.frm) ?_).mono ?_
     · obtain ⟨r2, hr2⟩ := prtss_pre he16
       have h1 := congrArg List.length hys
       have h2 := congrArg List.length hr2
       rw [List.length_map, List.length_cons] at h1
       rw [prts_mk, List.length_cons] at hN
       simp only [List.length_append] at h2 ⊢
       omega
     rintro e w21 ⟨b20, rfl, hT20, hF20⟩
     refine ⟨.bool b20, rfl, w21, [], emp, emp, [], St.start (emp_sub w21) [], ?_⟩
     refine sy_not rfl rfl rfl ?_
     refine sy_nil rfl ?_
     refine ny_next ?_
     refine cy_cond rfl (fun hc21 => ?_) (fun hc21 => ?_)
     · refine cy_seq ?_
       refine cy_region ?_
       refine sy_assign rfl rfl rfl ?_
       refine sy_nil rfl ?_
       refine ny_next ?_
       refine cy_ret ?_
       refine ny_blockR ?_
       refine ny_thenR ?_
       refine ny_thenR ?_
       refine ny_blockR ?_
       refine ny_thenR ?_
       refine ny_finR (res1 rfl rfl) (fun w hs => ?_)
       obtain ⟨q, hq1, hq2⟩ := hF20 (by simpa using hc21)
       refine ⟨false, rfl, fun h9 => (by cases h9), fun _ => ⟨ys ++ q, ?_, by rw [← List.append_assoc]; exact hJx _ _ _ hq2 hs.frm⟩⟩
       obtain ⟨r, hr9⟩ := hq1
       obtain ⟨r2, hr2⟩ := prtss_pre he16
       rw [List.map_append, hys, prts_mk, hr2, ← hr9]
       exact ⟨r ++ r2, by simp⟩
     · refine cy_skip ?_
       refine ny_blockN ?_
       refine ny_next ?_
       refine cy_region ?_
       refine sy_addi (z := ((i + 1 : Nat) : Int)) rfl rfl (by omega) (by omega) (by omega) rfl rfl ?_
       refine sy_move rfl rfl rfl ?_
       refine sy_nil rfl ?_
       refine ny_roundA (i + 1) (show kids.length - (i + 1) < kids.length - i by omega) ⟨rfl, rfl, rfl, rfl, trivial⟩ (fun w5 hs5 => ?_)
       obtain ⟨ys2, hys2, hJ20, hk20⟩ := hT20 (by simpa using hc21)
       exact ⟨(by omega), ys ++ ys2, by rw [List.map_append, hys, hys2, prtss_succ he16]; rfl, by rw [← List.append_assoc]; exact hJ _ _ _ hJ20 hs5.frm, ((hk4.trans (KT.frm hs20.frm)).trans hk20).trans (KT.frm hs5.frm)⟩
   · have hie : i = kids.length := by have := of_decide_eq_false hc15; omega
     refine cy_exit ?_
     refine ny_thenE ?_
     refine ny_thenE ?_
     refine ny_blockX ?_
     refine ny_next ?_
     refine cy_seq ?_
     refine cy_region ?_
     refine sy_assign rfl rfl rfl ?_
     refine sy_nil rfl ?_
     refine ny_next ?_
     refine cy_ret ?_
     refine ny_finR (res1 rfl rfl) (fun w hs => ?_)
     refine ⟨true, rfl, fun _ => ⟨ys, ?_, hJ _ _ _ hJ4 hs.frm, hk4.trans (KT.frm hs.frm)⟩, fun h9 => (by cases h9)⟩
     rw [hys, hie, List.take_length, prts_mk]
abbrev StopR (h : Hp) (J Jx : List (TA h) → World → Prop) (t : GT) : Ending → World → Prop := fun e W' => (∃ v, e = .returned v) ∧ ((∃ xs : List (TA h), xs.map (·.1) = prts t ∧ J xs W') ∨ (∃ pre : List (TA h), pre.map (·.1) <+: prts t ∧ Jx pre W'))
set_option maxRecDepth 100000 in
theorem stops_c (h : Hp) (b : Nat) (t : GT) (hT : (Lies h t ∧ Fits t) ∧ wtG t ≤ 1099511627776) (hb : h b = some (.cells (GT.cells t).toArray 30 (0, 0))) (W0 : World) (hs0 : h.Sub W0) : SeqStopsK Fence.wide 1 Tryd.prog 40 #[.pointer (some ⟨b, 0, none⟩)] (fun x : TA h => #[.agg (GT.cells x.1).toArray]) (KT 30 h) (fun xs => xs.map (·.1) = prts t) (fun pre => pre.map (·.1) <+: prts t) (prts t).length W0 := by
 intro l J Jx W hW hJ hJx hY h0
 have hsub : h.Sub W := fun k o hk => (hW.block k (Array.getElem?_eq_some_iff.1 (hs0 k o hk)).1).trans (hs0 k o hk)
 refine callsIn_wide.2 ?_
 show Calls Tryd.prog 40 (List.toArray [.func (.yield l) #[] #[], .pointer (some ⟨b, 0, none⟩)]) W (StopR h J Jx t)
 refine enterM (h0 := h) (M := []) Tryd.func40 rfl rfl rfl (St.start hsub []) ?_
 refine cy_region ?_
 refine sy_ldah (vs := GT.cells t) agg_30 rfl rfl (Hp.blk hb) rfl rfl ?_
 refine sy_move rfl rfl rfl ?_
 refine sy_callW call_41 rfl rfl rfl (fun w5 hs5 => ?_)
 refine (walk_c h l (prts t).length J Jx (abides_frm hJ) (abides_frm hJx) (fun pre x W1 hj hl => yield_any 0 (hY pre x W1 hj hl)) t hT [] w5 (fun k o hk => (hs5.frm.block k (Array.getElem?_eq_some_iff.1 (hsub k o hk)).1 (by simp)).trans (hsub k o hk)) (abides_frm hJ _ _ _ h0 hs5.frm) (by rw [List.length_nil, Nat.zero_add]; exact Nat.le_refl _)).mono ?_
 rintro e w6 ⟨b5, rfl, hT5, hF5⟩
 refine ⟨.bool b5, rfl, w6, [], emp, emp, [], St.start (emp_sub w6) [], ?_⟩
 refine sy_nil rfl ?_
 refine ny_fin (res0 rfl) (fun w hs => ⟨⟨_, rfl⟩, ?_⟩)
 cases b5 with
 | true =>
  obtain ⟨ys, h1, h2, h3⟩ := hT5 rfl
  exact .inl ⟨ys, h1, abides_frm hJ _ _ _ h2 hs.frm⟩
 | false =>
  obtain ⟨q, h1, h2⟩ := hF5 rfl
  exact .inr ⟨q, h1, abides_frm hJx _ _ _ h2 hs.frm⟩
set_option maxRecDepth 100000 in
theorem parts_c (t : GT) (h : Hp) : CX Tryd.prog 23 [.agg (GT.cells t).toArray] h (fun b : Nat => .func (.func 40) #[] #[.pointer (some ⟨b, 0, none⟩)]) (fun b h' => h' b = some (.cells (GT.cells t).toArray 30 (0, 0))) := by
 refine enterX Tryd.func23 rfl rfl rfl (fun w => ?_)
 refine cy_seq ?_
 refine cy_region ?_
 refine sy_box rfl rfl rfl rfl (fun b1 hb1 hM1 => ?_) (by simp)
 refine sy_assign rfl rfl rfl ?_
 refine sy_nil rfl ?_
 refine ny_next ?_
 refine cy_seq ?_
 refine cy_region ?_
 refine sy_bind (s := 0) rfl rfl rfl rfl ?_
 refine sy_assign rfl rfl rfl ?_
 refine sy_nil rfl ?_
 refine ny_next ?_
 refine cy_ret ?_
 refine ny_frz 0 rfl (by simp) (fun h9 hle9 hb9 => ?_)
 exact ny_finR (res1 rfl rfl) (fun w hs => ⟨b1, h9, rfl, hb9, hs.toGrow⟩)
set_option maxRecDepth 100000 in
theorem tsize_c (t : GT) (h : Hp) (hl : Lies h t) (hf : Fits t) (hw : wtG t ≤ 1099511627776) : C0 Tryd.prog 25 [.agg (GT.cells t).toArray] h (.int .i64 (((prts t).length : Nat) : Int)) := by
 show C0 Tryd.prog 25 [.agg #[.int .i64 t.k, .int .i64 t.n, .string t.s, .slice t.A t.kids.length t.c]] h _
 refine enterK0 Tryd.func25 rfl rfl rfl (fun w => ?_)
 refine cy_seq ?_
 refine cy_region ?_
 refine sy_box rfl rfl rfl rfl (fun b1 hb1 hM1 => ?_) (by simp)
 refine sy_assign rfl rfl rfl ?_
 refine sy_nil rfl ?_
 refine ny_next ?_
 refine cy_seq ?_
 refine cy_frz 0 rfl (by simp) (fun h1 hle1 hbx => ?_)
 replace hl := hl.le hle1
 refine cy_region ?_
 refine sy_alloc zer_3 rfl rfl (fun b3 hb3 hM3 => ?_) (by simp)
 first | refine sy_stl 0 sz_3 rfl rfl rfl rfl rfl rfl rfl rfl ?_ | refine sy_stl 1 sz_3 rfl rfl rfl rfl rfl rfl rfl rfl ?_
 refine sy_nil rfl ?_
 refine ny_next ?_
 refine cy_seq ?_
 refine cy_seq ?_
 refine cy_region ?_
 refine sy_ldah (vs := GT.cells t) agg_30 rfl rfl (Hp.blk hbx) rfl rfl ?_
 refine sy_callx call_23 rfl (parts_c t _) rfl rfl (fun bp h5 hbp hle5 => ?_)
 replace hl := hl.le hle5
 replace hbx := hle5 _ _ hbx
 refine sy_nil rfl ?_
 refine ny_next ?_
 refine cy_block ?_
 refine cy_range (α := TA h5) 30 (fun pre R => R = [.blk b3 (.cells [.int .i64 ((pre.length : Nat) : Int)].toArray 3 (0, 0))]) (fun _ _ _ => False) (fun y a' _ => Holds Tryd.f25.ntmps [] [(3, .pointer (some ⟨b3, 0, none⟩))] a') rfl call_40 rfl (fun W hs => stops_c h5 bp t ⟨⟨hl, hf⟩, hw⟩ hbp W hs) (fun pre R hR r hr => by rw [hR] at hr; rw [List.mem_singleton.1 hr]; rfl) (fun c pre R hR => hR.elim) rfl (fun y a' B s W W' row hs _ _ => hs) (fun l pre y R a0 W hR hst ha K hK => wpIn_skip (hK a0 W hst (ha.weak ⟨rfl, trivial⟩))) ?_ ?_ ?_
 · rintro l pre y R a' W rfl hst ha hlen
   have hpw := prts_wt t
   refine cyr_enter ?_ ha hst
   refine cyr_block ?_
   refine cyr_region (fun ⟨_, _, hq⟩ => hq) rfl ?_
   first | refine sy_ldr 0 one_3 rfl rfl rfl rfl rfl ?_ | refine sy_ldr 1 one_3 rfl rfl rfl rfl rfl ?_
   refine sy_addi (z := ((pre.length + 1 : Nat) : Int)) rfl rfl (by omega) (by omega) (by omega) rfl rfl ?_
   first | refine sy_stl 0 sz_3 rfl rfl rfl rfl rfl rfl rfl rfl ?_ | refine sy_stl 1 sz_3 rfl rfl rfl rfl rfl rfl rfl rfl ?_
   refine sy_nil rfl ?_
   refine ny_blockN ?_
   exact fun a2 W2 _ hst2 => ⟨h5, _, Hp.Le.refl _, (by show [Res.blk _ _] = [Res.blk _ _]; rw [List.length_append]; rfl), hst2⟩
 · rintro bD xs R hS rfl
   have hlen : xs.length = (prts t).length := by rw [← hS, List.length_map]
   refine ny_blockN ?_
   refine ny_next ?_
   refine cy_seq ?_
   refine cy_region ?_
   first | refine sy_ldr 0 one_3 rfl rfl rfl rfl rfl ?_ | refine sy_ldr 1 one_3 rfl rfl rfl rfl rfl ?_
   refine sy_assign rfl rfl rfl ?_
   refine sy_nil rfl ?_
   refine ny_next ?_
   refine cy_ret ?_
   refine ny_finKR (i := 0) rfl (ares1 rfl rfl) (fun w hs => ⟨?_, hs.frm⟩)
   rw [hlen]
 · intro bD c pre R _ hR
   exact hR.elim
def intC (z : Int) : List Value := [.int .i64 z]
theorem intC_len (l : List Int) : ∀ c ∈ l.map intC, c.length = 1 := fun c hc => by
 obtain ⟨t, _, rfl⟩ := List.mem_map.1 hc
 rfl
theorem intC_snoc (l : List Int) (z : Int) : ((l ++ [z]).map intC).flatten = (l.map intC).flatten ++ [.int .i64 z] := by
 rw [List.map_append, List.flatten_append]
 simp [intC]
def vl {h : Hp} (pre : List (TA h)) : List Int := varsF [] (pre.map fun y => y.1.tm)
theorem varsF_snoc (l : List Int) (ps : List Tm) (p : Tm) : varsF l (ps ++ [p]) = if p.k = 1 ∧ ¬ (varsF l ps).contains p.n = true then varsF l ps ++ [p.n] else varsF l ps := by simp [varsF, List.foldl_append]
theorem vl_snoc {h : Hp} (pre : List (TA h)) (y : TA h) : vl (pre ++ [y]) = if y.1.k = 1 ∧ ¬ (vl pre).contains y.1.n = true then vl pre ++ [y.1.n] else vl pre := by
 unfold vl
 rw [List.map_append, List.map_cons, List.map_nil, varsF_snoc, GT.tm_k, GT.tm_n]
theorem varsF_len : ∀ (ps : List Tm) (l : List Int), (varsF l ps).length ≤ l.length + ps.length
 | [], l => by simp [varsF]
 | p :: ps, l => by
  have h := varsF_len ps (if p.k = 1 ∧ ¬ l.contains p.n = true then l ++ [p.n] else l)
  have e : varsF l (p :: ps) = varsF (if p.k = 1 ∧ ¬ l.contains p.n = true then l ++ [p.n] else l) ps := rfl
  rw [e, List.length_cons]
  split at h
  · rename_i hc
    rw [if_pos hc]
    rw [List.length_append, List.length_cons, List.length_nil] at h
    omega
  · rename_i hc
    rw [if_neg hc]
    omega
theorem vl_len {h : Hp} (pre : List (TA h)) : (vl pre).length ≤ pre.length := by
 have := varsF_len (pre.map fun y => y.1.tm) []
 rw [List.length_nil, List.length_map] at this
 unfold vl
 omega
theorem vl_all {h : Hp} {xs : List (TA h)} {t : GT} (hS : xs.map (·.1) = prts t) : vl xs = varsT t.tm := by
 unfold vl varsT
 rw [← prts_tm, ← hS, List.map_map]
 rfl
theorem contains_cR (v : Value) (zs : List Int) (x : Int) (h : Hp) (hN : zs.length ≤ 9223372036854775807) : CR Tryd.prog 24 [v, .int .i64 x] h [.row v 3 1 zs.length ((zs.map intC).flatten)] (fun _ : Unit => .returned (.bool (zs.contains x))) (fun _ h' H' => h' = h ∧ H' = [.row v 3 1 zs.length ((zs.map intC).flatten)]) := fun w hw ho => by
 have t := St.startN hw ho
 have hok := t.ok _ (List.mem_cons_self)
 have fin : ∀ w', Frm w [] w' → St w (keysOf [.row v 3 1 zs.length ((zs.map intC).flatten)]) h h [.row v 3 1 zs.length ((zs.map intC).flatten)] w' := fun w' hf => t.grow hf
 rcases hok.2 with ⟨rfl, h0⟩ | ⟨g, cap, cur, rfl, h2, h3, h4, h5, h6, h7⟩
 · have hz : zs = [] := List.eq_nil_of_length_eq_zero h0
   subst hz
   exact (contains_c none 0 [] x h (fun j c hj => by simp at hj) (by simp) w hw).mono fun e w' ⟨he, hf⟩ => ⟨(), h, _, he, ⟨rfl, rfl⟩, fin w' hf⟩
 · have hr : RowsAt (h.upd g (.cells cur 3 (0, 0))) (some ⟨g, 0, none⟩) 1 (zs.map fun z => [Value.int .i64 z]) := by
    intro j c hj
    refine ⟨g, 0, rfl, fun jj u hu => ?_⟩
    rw [List.getElem?_map] at hj
    obtain ⟨z, hz, rfl⟩ := Option.map_eq_some_iff.1 hj
    cases jj with
    | succ jj => simp at hu
    | zero =>
     simp only [List.getElem?_cons_zero, Option.some.injEq] at hu
     subst hu
     have hfl : ∀ l : List Int, (l.map intC).flatten = l.map fun z => Value.int .i64 z := fun l => by
      induction l with
      | nil => rfl
      | cons a l ih => rw [List.map_cons, List.flatten_cons, ih]; rfl
     rw [hfl] at h7
     have h8 : (cur.toList.take (zs.length * 1))[j]? = some (Value.int .i64 z) := by rw [h7, List.getElem?_map, hz]; rfl
     have hjl := (List.getElem?_eq_some_iff.1 hz).1
     rw [List.getElem?_take] at h8
     rw [if_pos (by omega)] at h8
     simp only [Hp.cell, Hp.upd_same]
     simpa using h8
   exact (contains_c (some ⟨g, 0, none⟩) cap zs x _ hr hN w (Hp.upd_sub hw h3)).mono fun e w' ⟨he, hf⟩ => ⟨(), h, _, he, ⟨rfl, rfl⟩, fin w' hf⟩
set_option maxRecDepth 100000 in
theorem vars_c (t : GT) (h : Hp) (hl : Lies h t) (hf : Fits t) (hw : wtG t ≤ 1099511627776) : CX Tryd.prog 11 [.agg (GT.cells t).toArray] h (fun x : Option Addr × Nat => .slice x.1 (varsT t.tm).length x.2) (fun x h' => RowsAt h' x.1 1 ((varsT t.tm).map intC) ∧ (varsT t.tm).length ≤ x.2) := by
 show CX Tryd.prog 11 [.agg #[.int .i64 t.k, .int .i64 t.n, .string t.s, .slice t.A t.kids.length t.c]] h _ _
 refine enterKX Tryd.func11 rfl rfl rfl (fun w => ?_)
 refine cy_seq ?_
 refine cy_region ?_
 refine sy_box rfl rfl rfl rfl (fun b1 hb1 hM1 => ?_) (by first | exact hb0 | simp)
 refine sy_assign rfl rfl rfl ?_
 refine sy_nil rfl ?_
 refine ny_next ?_
 refine cy_seq ?_
 refine cy_frz 0 rfl (by simp) (fun h1 hle1 hbx => ?_)
 replace hl := hl.le hle1
 refine cy_region ?_
 refine sy_alloc zer_27 rfl rfl (fun b3 hb3 hM3 => ?_) (by first | exact hb0 | simp)
 refine sy_nil rfl ?_
 refine ny_next ?_
 refine cy_seq ?_
 refine cy_seq ?_
 refine cy_region ?_
 refine sy_ldah (vs := GT.cells t) agg_30 rfl rfl (Hp.blk hbx) rfl rfl ?_
 refine sy_callx call_23 rfl (parts_c t _) rfl rfl (fun bp h6 hbp hle6 => ?_)
 replace hl := hl.le hle6
 replace hbx := hle6 _ _ hbx
 refine sy_nil rfl ?_
 refine ny_next ?_
 refine cy_block ?_
 refine cy_nilRow 3 1 ?_
 refine cy_range (α := TA h6) 30 (fun pre R => ∃ v, R = [.row v 3 1 (vl pre).length (((vl pre).map intC).flatten), .blk b3 (.cells [v].toArray 27 (0, 0))]) (fun _ _ _ => False) (AxV h6 Tryd.f11.ntmps 4 [(3, .pointer (some ⟨b3, 0, none⟩))]) rfl call_40 rfl (fun W hs => stops_c h6 bp t ⟨⟨hl, hf⟩, hw⟩ hbp W hs) (fun pre R hR r hr => by
     obtain ⟨v, rfl⟩ := hR
     simp only [List.mem_cons, List.not_mem_nil, or_false] at hr
     rcases hr with rfl | rfl <;> rfl) (fun c pre R hR => hR.elim) ⟨_, rfl⟩ (axV_own _ _ _ _) (fun l pre y R a0 W hR hst ha K hK => by
     have hb0 := hst.keys_lt
     refine cyr_enter ?_ ha hst
     refine cyr_region (fun ⟨_, _, hq⟩ => hq) rfl ?_
     refine sy_alloc zer_30 rfl rfl (fun bb hbb hMb => ?_) hb0
     refine sy_stl 0 sz_30 rfl rfl rfl rfl rfl rfl rfl rfl ?_
     refine sy_nil rfl ?_
     exact fun a2 W2 ha2 hst2 => hK a2 W2 (hst2.perm (List.sublist_cons_self _ _)) ⟨bb, hst2.ok _ (List.mem_cons_self), ha2.weak ⟨rfl, rfl, trivial⟩⟩) ?_ ?_ ?_
 · rintro l pre y R a' W ⟨v, rfl⟩ hst ⟨bb, hbb, ha⟩ hlen
   have hpw := prts_wt t
   have hvn := vl_len pre
   obtain ⟨hB, hleB, hbB, hstB⟩ := hst.know (fun r hr => by
    simp only [List.mem_cons, List.not_mem_nil, or_false] at hr
    rcases hr with rfl | rfl <;> rfl) hbb
   have hb0 := hstB.keys_lt
   refine cyr_enter ?_ ha hstB
   refine cyr_block ?_
   refine cyr_seq ?_
   refine cyr_region (fun ⟨_, _, hq⟩ => hq) rfl ?_
   refine sy_field fld_30_0 rfl rfl rfl ?_
   refine sy_ldh one_3 rfl (Hp.blk hbB 0 _ rfl) rfl rfl ?_
   refine sy_cmp rfl rfl rfl rfl rfl ?_
   refine sy_move rfl rfl rfl ?_
   refine sy_cond (d := 11) _ rfl rfl (fun hg11 => ?_) (fun hg11 => ?_)
   · first | refine sy_ldr 0 one_27 rfl rfl rfl rfl rfl ?_ | refine sy_ldr 1 one_27 rfl rfl rfl rfl rfl ?_ | refine sy_ldr 2 one_27 rfl rfl rfl rfl rfl ?_
     refine sy_field fld_30_1 rfl rfl rfl ?_
     refine sy_ldh one_2 rfl (Hp.blk hbB 1 _ rfl) rfl rfl ?_
     refine sy_callR1 [0] call_24 rfl rfl (contains_cR v (vl pre) y.1.n _ (by omega)) rfl rfl (fun u15 h15 H15 hx15 hle15 => ?_)
     obtain ⟨rfl, rfl⟩ := hx15
     refine sy_not rfl rfl rfl ?_
     refine sy_pickT rfl rfl rfl rfl ?_
     refine sy_nil rfl ?_
     refine nyr_next ?_
     refine cyr_cond rfl (fun hc17 => ?_) (fun hc17 => ?_)
     · have hvl : vl (pre ++ [y]) = vl pre ++ [y.1.n] := by
        rw [vl_snoc, if_pos]
        exact ⟨by simpa using hg11, by simpa using hc17⟩
       refine cyr_region (fun ⟨_, _, hq⟩ => hq) rfl ?_
       first | refine sy_ldr 0 one_27 rfl rfl rfl rfl rfl ?_ | refine sy_ldr 1 one_27 rfl rfl rfl rfl rfl ?_ | refine sy_ldr 2 one_27 rfl rfl rfl rfl rfl ?_
       refine sy_field fld_30_1 rfl rfl rfl ?_
       refine sy_ldh one_2 rfl (Hp.blk hbB 1 _ rfl) rfl rfl ?_
       refine sy_buildSlice rfl (fun w => bsl_27_1_0 w) rfl rfl (fun b21 hb21 hM21 => ?_) (by first | exact hb0 | simp)
       refine sy_append 1 0 row_27 (by decide) rfl rfl rfl rfl rfl rfl (by omega) (by simp only [maxLen]; omega) rfl rfl (fun v22 => ?_)
       refine sy_rowform 0 rfl (fun A22 c22 hv22 => ?_)
       subst hv22
       first | refine sy_stl 0 sz_27 rfl rfl rfl rfl rfl rfl rfl rfl ?_ | refine sy_stl 1 sz_27 rfl rfl rfl rfl rfl rfl rfl rfl ?_ | refine sy_stl 2 sz_27 rfl rfl rfl rfl rfl rfl rfl rfl ?_
       refine sy_nil rfl ?_
       refine ny_blockN ?_
       first
        | exact fun a2 W2 _ hst2 => ⟨h6, [.row v 3 1 (vl pre).length (((vl pre).map intC).flatten), .blk b3 (.cells [v].toArray 27 (0, 0))], Hp.Le.refl _, ⟨v, by rw [hvl]⟩, hst2.forget hleB⟩
        | exact fun a2 W2 _ hst2 => ⟨h6, [.row (.slice A22 ((vl pre).length + 1) c22) 3 1 ((vl pre).length + 1) (((vl pre).map intC).flatten ++ [.int .i64 y.1.n]), .blk b3 (.cells [(.slice A22 ((vl pre).length + 1) c22)].toArray 27 (0, 0))], Hp.Le.refl _, ⟨_, by rw [hvl, intC_snoc, List.length_append]; rfl⟩, (hst2.sel (is := [0, 1]) rfl).forget hleB⟩
        | exact fun a2 W2 _ hst2 => ⟨h6, [.row (.slice A22 ((vl pre).length + 1) c22) 3 1 ((vl pre).length + 1) (((vl pre).map intC).flatten ++ [.int .i64 y.1.n]), .blk b3 (.cells [(.slice A22 ((vl pre).length + 1) c22)].toArray 27 (0, 0))], Hp.Le.refl _, ⟨_, by rw [hvl, intC_snoc, List.length_append]; rfl⟩, (hst2.sel (is := [0, 2]) rfl).forget hleB⟩
        | exact fun a2 W2 _ hst2 => ⟨h6, [.row (.slice A22 ((vl pre).length + 1) c22) 3 1 ((vl pre).length + 1) (((vl pre).map intC).flatten ++ [.int .i64 y.1.n]), .blk b3 (.cells [(.slice A22 ((vl pre).length + 1) c22)].toArray 27 (0, 0))], Hp.Le.refl _, ⟨_, by rw [hvl, intC_snoc, List.length_append]; rfl⟩, (hst2.sel (is := [1, 0]) rfl).forget hleB⟩
        | exact fun a2 W2 _ hst2 => ⟨h6, [.row (.slice A22 ((vl pre).length + 1) c22) 3 1 ((vl pre).length + 1) (((vl pre).map intC).flatten ++ [.int .i64 y.1.n]), .blk b3 (.cells [(.slice A22 ((vl pre).length + 1) c22)].toArray 27 (0, 0))], Hp.Le.refl _, ⟨_, by rw [hvl, intC_snoc, List.length_append]; rfl⟩, (hst2.sel (is := [2, 0]) rfl).forget hleB⟩
        | exact fun a2 W2 _ hst2 => ⟨h6, [.row (.slice A22 ((vl pre).length + 1) c22) 3 1 ((vl pre).length + 1) (((vl pre).map intC).flatten ++ [.int .i64 y.1.n]), .blk b3 (.cells [(.slice A22 ((vl pre).length + 1) c22)].toArray 27 (0, 0))], Hp.Le.refl _, ⟨_, by rw [hvl, intC_snoc, List.length_append]; rfl⟩, (hst2.sel (is := [1, 1]) rfl).forget hleB⟩
        | exact fun a2 W2 _ hst2 => ⟨h6, [.row (.slice A22 ((vl pre).length + 1) c22) 3 1 ((vl pre).length + 1) (((vl pre).map intC).flatten ++ [.int .i64 y.1.n]), .blk b3 (.cells [(.slice A22 ((vl pre).length + 1) c22)].toArray 27 (0, 0))], Hp.Le.refl _, ⟨_, by rw [hvl, intC_snoc, List.length_append]; rfl⟩, (hst2.sel (is := [2, 1]) rfl).forget hleB⟩
     · have hvl : vl (pre ++ [y]) = vl pre := by
        rw [vl_snoc, if_neg]
        rintro ⟨h9, h8⟩
        first | (simp [h9] at hg11; done) | (rw [Bool.not_eq_true] at h8; rw [h8] at hc17; cases hc17)
       refine cyr_skip ?_
       refine ny_blockN ?_
       first
        | exact fun a2 W2 _ hst2 => ⟨h6, [.row v 3 1 (vl pre).length (((vl pre).map intC).flatten), .blk b3 (.cells [v].toArray 27 (0, 0))], Hp.Le.refl _, ⟨v, by rw [hvl]⟩, hst2.forget hleB⟩
        | exact fun a2 W2 _ hst2 => ⟨h6, [.row (.slice A22 ((vl pre).length + 1) c22) 3 1 ((vl pre).length + 1) (((vl pre).map intC).flatten ++ [.int .i64 y.1.n]), .blk b3 (.cells [(.slice A22 ((vl pre).length + 1) c22)].toArray 27 (0, 0))], Hp.Le.refl _, ⟨_, by rw [hvl, intC_snoc, List.length_append]; rfl⟩, (hst2.sel (is := [0, 1]) rfl).forget hleB⟩
        | exact fun a2 W2 _ hst2 => ⟨h6, [.row (.slice A22 ((vl pre).length + 1) c22) 3 1 ((vl pre).length + 1) (((vl pre).map intC).flatten ++ [.int .i64 y.1.n]), .blk b3 (.cells [(.slice A22 ((vl pre).length + 1) c22)].toArray 27 (0, 0))], Hp.Le.refl _, ⟨_, by rw [hvl, intC_snoc, List.length_append]; rfl⟩, (hst2.sel (is := [0, 2]) rfl).forget hleB⟩
        | exact fun a2 W2 _ hst2 => ⟨h6, [.row (.slice A22 ((vl pre).length + 1) c22) 3 1 ((vl pre).length + 1) (((vl pre).map intC).flatten ++ [.int .i64 y.1.n]), .blk b3 (.cells [(.slice A22 ((vl pre).length + 1) c22)].toArray 27 (0, 0))], Hp.Le.refl _, ⟨_, by rw [hvl, intC_snoc, List.length_append]; rfl⟩, (hst2.sel (is := [1, 0]) rfl).forget hleB⟩
        | exact fun a2 W2 _ hst2 => ⟨h6, [.row (.slice A22 ((vl pre).length + 1) c22) 3 1 ((vl pre).length + 1) (((vl pre).map intC).flatten ++ [.int .i64 y.1.n]), .blk b3 (.cells [(.slice A22 ((vl pre).length + 1) c22)].toArray 27 (0, 0))], Hp.Le.refl _, ⟨_, by rw [hvl, intC_snoc, List.length_append]; rfl⟩, (hst2.sel (is := [2, 0]) rfl).forget hleB⟩
        | exact fun a2 W2 _ hst2 => ⟨h6, [.row (.slice A22 ((vl pre).length + 1) c22) 3 1 ((vl pre).length + 1) (((vl pre).map intC).flatten ++ [.int .i64 y.1.n]), .blk b3 (.cells [(.slice A22 ((vl pre).length + 1) c22)].toArray 27 (0, 0))], Hp.Le.refl _, ⟨_, by rw [hvl, intC_snoc, List.length_append]; rfl⟩, (hst2.sel (is := [1, 1]) rfl).forget hleB⟩
        | exact fun a2 W2 _ hst2 => ⟨h6, [.row (.slice A22 ((vl pre).length + 1) c22) 3 1 ((vl pre).length + 1) (((vl pre).map intC).flatten ++ [.int .i64 y.1.n]), .blk b3 (.cells [(.slice A22 ((vl pre).length + 1) c22)].toArray 27 (0, 0))], Hp.Le.refl _, ⟨_, by rw [hvl, intC_snoc, List.length_append]; rfl⟩, (hst2.sel (is := [2, 1]) rfl).forget hleB⟩
   · refine sy_skip rfl rfl rfl ?_
     refine sy_skip rfl rfl rfl ?_
     refine sy_skip rfl rfl rfl ?_
     refine sy_skip rfl rfl rfl ?_
     refine sy_skip rfl rfl rfl ?_
     refine sy_pickF rfl rfl rfl rfl ?_
     refine sy_nil rfl ?_
     refine nyr_next ?_
     refine cyr_condF rfl ?_
     have hvl : vl (pre ++ [y]) = vl pre := by
      rw [vl_snoc, if_neg]
      rintro ⟨h9, h8⟩
      first | (simp [h9] at hg11; done) | (rw [Bool.not_eq_true] at h8; rw [h8] at hc17; cases hc17)
     refine cyr_skip ?_
     refine ny_blockN ?_
     first
      | exact fun a2 W2 _ hst2 => ⟨h6, [.row v 3 1 (vl pre).length (((vl pre).map intC).flatten), .blk b3 (.cells [v].toArray 27 (0, 0))], Hp.Le.refl _, ⟨v, by rw [hvl]⟩, hst2.forget hleB⟩
      | exact fun a2 W2 _ hst2 => ⟨h6, [.row (.slice A22 ((vl pre).length + 1) c22) 3 1 ((vl pre).length + 1) (((vl pre).map intC).flatten ++ [.int .i64 y.1.n]), .blk b3 (.cells [(.slice A22 ((vl pre).length + 1) c22)].toArray 27 (0, 0))], Hp.Le.refl _, ⟨_, by rw [hvl, intC_snoc, List.length_append]; rfl⟩, (hst2.sel (is := [0, 1]) rfl).forget hleB⟩
      | exact fun a2 W2 _ hst2 => ⟨h6, [.row (.slice A22 ((vl pre).length + 1) c22) 3 1 ((vl pre).length + 1) (((vl pre).map intC).flatten ++ [.int .i64 y.1.n]), .blk b3 (.cells [(.slice A22 ((vl pre).length + 1) c22)].toArray 27 (0, 0))], Hp.Le.refl _, ⟨_, by rw [hvl, intC_snoc, List.length_append]; rfl⟩, (hst2.sel (is := [0, 2]) rfl).forget hleB⟩
      | exact fun a2 W2 _ hst2 => ⟨h6, [.row (.slice A22 ((vl pre).length + 1) c22) 3 1 ((vl pre).length + 1) (((vl pre).map intC).flatten ++ [.int .i64 y.1.n]), .blk b3 (.cells [(.slice A22 ((vl pre).length + 1) c22)].toArray 27 (0, 0))], Hp.Le.refl _, ⟨_, by rw [hvl, intC_snoc, List.length_append]; rfl⟩, (hst2.sel (is := [1, 0]) rfl).forget hleB⟩
      | exact fun a2 W2 _ hst2 => ⟨h6, [.row (.slice A22 ((vl pre).length + 1) c22) 3 1 ((vl pre).length + 1) (((vl pre).map intC).flatten ++ [.int .i64 y.1.n]), .blk b3 (.cells [(.slice A22 ((vl pre).length + 1) c22)].toArray 27 (0, 0))], Hp.Le.refl _, ⟨_, by rw [hvl, intC_snoc, List.length_append]; rfl⟩, (hst2.sel (is := [2, 0]) rfl).forget hleB⟩
      | exact fun a2 W2 _ hst2 => ⟨h6, [.row (.slice A22 ((vl pre).length + 1) c22) 3 1 ((vl pre).length + 1) (((vl pre).map intC).flatten ++ [.int .i64 y.1.n]), .blk b3 (.cells [(.slice A22 ((vl pre).length + 1) c22)].toArray 27 (0, 0))], Hp.Le.refl _, ⟨_, by rw [hvl, intC_snoc, List.length_append]; rfl⟩, (hst2.sel (is := [1, 1]) rfl).forget hleB⟩
      | exact fun a2 W2 _ hst2 => ⟨h6, [.row (.slice A22 ((vl pre).length + 1) c22) 3 1 ((vl pre).length + 1) (((vl pre).map intC).flatten ++ [.int .i64 y.1.n]), .blk b3 (.cells [(.slice A22 ((vl pre).length + 1) c22)].toArray 27 (0, 0))], Hp.Le.refl _, ⟨_, by rw [hvl, intC_snoc, List.length_append]; rfl⟩, (hst2.sel (is := [2, 1]) rfl).forget hleB⟩
 · rintro bD xs R hS ⟨v, rfl⟩
   have hvs := vl_all hS
   rw [hvs]
   refine ny_blockN ?_
   refine ny_next ?_
   refine cy_seq ?_
   refine cy_frzRow 1 rfl (fun _ _ => by simp) (fun A6 c6 h7 hv7 hlc7 hcm7 _ hle7 hcell7 => ?_)
   subst hv7
   refine cy_region ?_
   first | refine sy_ldr 0 one_27 rfl rfl rfl rfl rfl ?_ | refine sy_ldr 1 one_27 rfl rfl rfl rfl rfl ?_ | refine sy_ldr 2 one_27 rfl rfl rfl rfl rfl ?_
   refine sy_assign rfl rfl rfl ?_
   refine sy_nil rfl ?_
   refine ny_next ?_
   refine cy_ret ?_
   exact ny_finKR (i := 0) rfl (ares1 rfl rfl) (fun w hs => ⟨(A6, c6), h7, rfl, ⟨rows_row (by decide) (intC_len _) hcell7, hlc7⟩, hs.toGrow⟩)
 · intro bD c pre R _ hR
   exact hR.elim
theorem dec_eq (a b : Int) : decide (a = b) = (a == b) := by rw [Bool.eq_iff_iff]; simp
theorem dec_s (s : ByteArray) : decide (s = ⟨#[]⟩) = (s.data.toList == []) := by
 rw [Bool.eq_iff_iff, decide_eq_true_eq, beq_iff_eq]
 exact ⟨fun h => by rw [h], fun h => ba_inj h⟩
theorem dec_n (a b : Nat) : decide (a = b) = ((a : Int) == (b : Int)) := by
 rw [Bool.eq_iff_iff, decide_eq_true_eq, beq_iff_eq]
 omega
theorem alone1 {k n : Int} {s : ByteArray} {kids : List Tm} {lv : Int} (h : k = 1) : aloneT lv (.mk k n s kids) = (decide (n ≥ 0) && decide (n < 4096) && (s.data.toList == []) && ((kids.length : Int) == 0)) := by
 rw [aloneT, if_pos h, dec_s, dec_n]
 rfl
theorem alone2 {k n : Int} {s : ByteArray} {kids : List Tm} {lv : Int} (h1 : ¬ k = 1) (h : k = 2) : aloneT lv (.mk k n s kids) = ((s.data.toList == []) && ((kids.length : Int) == 0)) := by
 rw [aloneT, if_neg h1, if_pos h, dec_s, dec_n]
 rfl
theorem alone3 {k n : Int} {s : ByteArray} {kids : List Tm} {lv : Int} (h1 : ¬ k = 1) (h2 : ¬ k = 2) (h : k = 3) : aloneT lv (.mk k n s kids) = ((n == 0) && decide ((s.size : Int) ≤ 64) && decide ((kids.length : Int) ≤ 8)) := by
 rw [aloneT, if_neg h1, if_neg h2, if_pos h, dec_eq]
 congr 1
 · congr 1
   rw [Bool.eq_iff_iff, decide_eq_true_eq, decide_eq_true_eq]
   omega
 · rw [Bool.eq_iff_iff, decide_eq_true_eq, decide_eq_true_eq]
   omega
theorem alone4 {k n : Int} {s : ByteArray} {kids : List Tm} {lv : Int} (h1 : ¬ k = 1) (h2 : ¬ k = 2) (h3 : ¬ k = 3) (h : k = 4) : aloneT lv (.mk k n s kids) = ((s.data.toList == []) && decide (n ≥ 0) && decide (n < lv) && ((kids.length : Int) == 1) && decide ((kids.map fun t => (varsT t).length).sum = 0)) := by
 rw [aloneT, if_neg h1, if_neg h2, if_neg h3, if_pos h, dec_s, dec_n]
 rfl
theorem alone5 {k n : Int} {s : ByteArray} {kids : List Tm} {lv : Int} (h1 : ¬ k = 1) (h2 : ¬ k = 2) (h3 : ¬ k = 3) (h4 : ¬ k = 4) : aloneT lv (.mk k n s kids) = false := by rw [aloneT, if_neg h1, if_neg h2, if_neg h3, if_neg h4]
theorem sum_one {kids : List GT} {e : GT} (h : kids.length = 1) (he : kids[0]? = some e) : ((kids.map GT.tm).map fun t => (varsT t).length).sum = (varsT e.tm).length := by
 match kids, h, he with
 | [x], _, he =>
  have := Option.some.inj he
  subst this
  simp
set_option maxRecDepth 100000 in
theorem alone_c (t : GT) (lv : Int) (h : Hp) (hl : Lies h t) (hf : Fits t) (hw : wtG t ≤ 1099511627776) : C0 Tryd.prog 27 [.agg (GT.cells t).toArray, .int .i64 lv] h (.bool (aloneT lv t.tm)) := by
 cases t
 rename_i tk tn ts tA tc kids
 rw [wtG_mk] at hw
 have hroom := hf.room
 have hns := hf.nums.2.2
 show C0 Tryd.prog 27 [.agg #[.int .i64 tk, .int .i64 tn, .string ts, .slice tA kids.length tc], .int .i64 lv] h (.bool (aloneT lv (GT.mk tk tn ts tA tc kids).tm))
 refine enter0 Tryd.func27 rfl rfl rfl (fun w => ?_)
 refine cy_seq ?_
 refine cy_region ?_
 refine sy_box rfl rfl rfl rfl (fun b2 hb2 hM2 => ?_) (by simp)
 refine sy_assign rfl rfl rfl ?_
 refine sy_nil rfl ?_
 refine ny_next ?_
 refine cy_seq ?_
 refine cy_seq ?_
 refine cy_frz 0 rfl (by simp) (fun h1 hle1 hbx => ?_)
 replace hl := hl.le hle1
 have hr := hl.rows
 refine cy_region ?_
 refine sy_field fld_30_0 rfl rfl rfl ?_
 refine sy_ldh one_3 rfl (Hp.blk hbx 0 _ rfl) rfl rfl ?_
 refine sy_nil rfl ?_
 refine ny_next ?_
 refine cy_block ?_
 refine cy_seq ?_
 refine cy_region ?_
 refine sy_cmp rfl rfl rfl rfl rfl ?_
 refine sy_assign rfl rfl rfl ?_
 refine sy_nil rfl ?_
 refine ny_next ?_
 refine cy_cond rfl (fun hc7 => ?_) (fun hc7 => ?_)
 · have hk1 : tk = 1 := by simpa using hc7
   refine cy_seq ?_
   refine cy_region ?_
   refine sy_field fld_30_1 rfl rfl rfl ?_
   refine sy_ldh one_2 rfl (Hp.blk hbx 1 _ rfl) rfl rfl ?_
   refine sy_cmp rfl rfl rfl rfl rfl ?_
   refine sy_move rfl rfl rfl ?_
   refine sy_cond (d := 12) _ rfl rfl (fun hg12 => ?_) (fun hg12 => ?_)
   · refine sy_field fld_30_1 rfl rfl rfl ?_
     refine sy_ldh one_2 rfl (Hp.blk hbx 1 _ rfl) rfl rfl ?_
     refine sy_cmp rfl rfl rfl rfl rfl ?_
     refine sy_pickT rfl rfl rfl rfl ?_
     refine sy_move rfl rfl rfl ?_
     refine sy_cond (d := 17) _ rfl rfl (fun hg17 => ?_) (fun hg17 => ?_)
     · refine sy_field fld_30_2 rfl rfl rfl ?_
       refine sy_ldh one_9 rfl (Hp.blk hbx 2 _ rfl) rfl rfl ?_
       refine sy_eqs rfl rfl rfl rfl ?_
       refine sy_pickT rfl rfl rfl rfl ?_
       refine sy_move rfl rfl rfl ?_
       refine sy_cond (d := 22) _ rfl rfl (fun hg22 => ?_) (fun hg22 => ?_)
       · refine sy_field fld_30_3 rfl rfl rfl ?_
         refine sy_ldh one_23 rfl (Hp.blk hbx 3 _ rfl) rfl rfl ?_
         refine sy_len rfl (len_slice Tryd.underlying23 _ _ _) rfl rfl ?_
         refine sy_cmp rfl rfl rfl rfl rfl ?_
         refine sy_pickT rfl rfl rfl rfl ?_
         refine sy_assign rfl rfl rfl ?_
         refine sy_nil rfl ?_
         refine ny_next ?_
         refine cy_ret ?_
         refine ny_blockR ?_
         refine ny_thenR ?_
         refine ny_finR (res1 rfl rfl) (fun w hs2 => ⟨?_, hs2.frm⟩)
         rw [GT.tm_mk, alone1 hk1]
         try rw [List.length_map]
         first | (rw [hg12, hg17, hg22]; first | rfl | (rw [hsum]; rfl)) | (rw [hg12, hg17]; first | rfl | (rw [hsum]; rfl)) | (rw [hg12]; first | rfl | (rw [hsum]; rfl)) | rfl
       · refine sy_skip rfl rfl rfl ?_
         refine sy_skip rfl rfl rfl ?_
         refine sy_skip rfl rfl rfl ?_
         refine sy_skip rfl rfl rfl ?_
         refine sy_pickF rfl rfl rfl rfl ?_
         refine sy_assign rfl rfl rfl ?_
         refine sy_nil rfl ?_
         refine ny_next ?_
         refine cy_ret ?_
         refine ny_blockR ?_
         refine ny_thenR ?_
         refine ny_finR (res1 rfl rfl) (fun w hs2 => ⟨?_, hs2.frm⟩)
         rw [GT.tm_mk, alone1 hk1]
         try rw [List.length_map]
         first | (rw [hg12, hg17, hg22]; first | rfl | (rw [hsum]; rfl)) | (rw [hg12, hg17]; first | rfl | (rw [hsum]; rfl)) | (rw [hg12]; first | rfl | (rw [hsum]; rfl)) | rfl
     · refine sy_skip rfl rfl rfl ?_
       refine sy_skip rfl rfl rfl ?_
       refine sy_skip rfl rfl rfl ?_
       refine sy_pickF rfl rfl rfl rfl ?_
       refine sy_move rfl rfl rfl ?_
       refine sy_skip rfl rfl rfl ?_
       refine sy_skip rfl rfl rfl ?_
       refine sy_skip rfl rfl rfl ?_
       refine sy_skip rfl rfl rfl ?_
       refine sy_pickF rfl rfl rfl rfl ?_
       refine sy_assign rfl rfl rfl ?_
       refine sy_nil rfl ?_
       refine ny_next ?_
       refine cy_ret ?_
       refine ny_blockR ?_
       refine ny_thenR ?_
       refine ny_finR (res1 rfl rfl) (fun w hs2 => ⟨?_, hs2.frm⟩)
       rw [GT.tm_mk, alone1 hk1]
       try rw [List.length_map]
       first | (rw [hg12, hg17, hg22]; first | rfl | (rw [hsum]; rfl)) | (rw [hg12, hg17]; first | rfl | (rw [hsum]; rfl)) | (rw [hg12]; first | rfl | (rw [hsum]; rfl)) | rfl
   · refine sy_skip rfl rfl rfl ?_
     refine sy_skip rfl rfl rfl ?_
     refine sy_skip rfl rfl rfl ?_
     refine sy_pickF rfl rfl rfl rfl ?_
     refine sy_move rfl rfl rfl ?_
     refine sy_skip rfl rfl rfl ?_
     refine sy_skip rfl rfl rfl ?_
     refine sy_skip rfl rfl rfl ?_
     refine sy_pickF rfl rfl rfl rfl ?_
     refine sy_move rfl rfl rfl ?_
     refine sy_skip rfl rfl rfl ?_
     refine sy_skip rfl rfl rfl ?_
     refine sy_skip rfl rfl rfl ?_
     refine sy_skip rfl rfl rfl ?_
     refine sy_pickF rfl rfl rfl rfl ?_
     refine sy_assign rfl rfl rfl ?_
     refine sy_nil rfl ?_
     refine ny_next ?_
     refine cy_ret ?_
     refine ny_blockR ?_
     refine ny_thenR ?_
     refine ny_finR (res1 rfl rfl) (fun w hs2 => ⟨?_, hs2.frm⟩)
     rw [GT.tm_mk, alone1 hk1]
     try rw [List.length_map]
     first | (rw [hg12, hg17, hg22]; first | rfl | (rw [hsum]; rfl)) | (rw [hg12, hg17]; first | rfl | (rw [hsum]; rfl)) | (rw [hg12]; first | rfl | (rw [hsum]; rfl)) | rfl
 · have hk1 : ¬ tk = 1 := by simpa using hc7
   refine cy_seq ?_
   refine cy_region ?_
   refine sy_cmp rfl rfl rfl rfl rfl ?_
   refine sy_assign rfl rfl rfl ?_
   refine sy_nil rfl ?_
   refine ny_next ?_
   refine cy_cond rfl (fun hc28 => ?_) (fun hc28 => ?_)
   · have hk2 : tk = 2 := by simpa using hc28
     refine cy_seq ?_
     refine cy_region ?_
     refine sy_field fld_30_2 rfl rfl rfl ?_
     refine sy_ldh one_9 rfl (Hp.blk hbx 2 _ rfl) rfl rfl ?_
     refine sy_eqs rfl rfl rfl rfl ?_
     refine sy_move rfl rfl rfl ?_
     refine sy_cond (d := 33) _ rfl rfl (fun hg33 => ?_) (fun hg33 => ?_)
     · refine sy_field fld_30_3 rfl rfl rfl ?_
       refine sy_ldh one_23 rfl (Hp.blk hbx 3 _ rfl) rfl rfl ?_
       refine sy_len rfl (len_slice Tryd.underlying23 _ _ _) rfl rfl ?_
       refine sy_cmp rfl rfl rfl rfl rfl ?_
       refine sy_pickT rfl rfl rfl rfl ?_
       refine sy_assign rfl rfl rfl ?_
       refine sy_nil rfl ?_
       refine ny_next ?_
       refine cy_ret ?_
       refine ny_blockR ?_
       refine ny_thenR ?_
       refine ny_finR (res1 rfl rfl) (fun w hs2 => ⟨?_, hs2.frm⟩)
       rw [GT.tm_mk, alone2 hk1 hk2]
       try rw [List.length_map]
       first | (rw [hg33]; first | rfl | (rw [hsum]; rfl)) | rfl
     · refine sy_skip rfl rfl rfl ?_
       refine sy_skip rfl rfl rfl ?_
       refine sy_skip rfl rfl rfl ?_
       refine sy_skip rfl rfl rfl ?_
       refine sy_pickF rfl rfl rfl rfl ?_
       refine sy_assign rfl rfl rfl ?_
       refine sy_nil rfl ?_
       refine ny_next ?_
       refine cy_ret ?_
       refine ny_blockR ?_
       refine ny_thenR ?_
       refine ny_finR (res1 rfl rfl) (fun w hs2 => ⟨?_, hs2.frm⟩)
       rw [GT.tm_mk, alone2 hk1 hk2]
       try rw [List.length_map]
       first | (rw [hg33]; first | rfl | (rw [hsum]; rfl)) | rfl
   · have hk2 : ¬ tk = 2 := by simpa using hc28
     refine cy_seq ?_
     refine cy_region ?_
     refine sy_cmp rfl rfl rfl rfl rfl ?_
     refine sy_assign rfl rfl rfl ?_
     refine sy_nil rfl ?_
     refine ny_next ?_
     refine cy_cond rfl (fun hc39 => ?_) (fun hc39 => ?_)
     · have hk3 : tk = 3 := by simpa using hc39
       refine cy_seq ?_
       refine cy_region ?_
       refine sy_field fld_30_1 rfl rfl rfl ?_
       refine sy_ldh one_2 rfl (Hp.blk hbx 1 _ rfl) rfl rfl ?_
       refine sy_cmp rfl rfl rfl rfl rfl ?_
       refine sy_move rfl rfl rfl ?_
       refine sy_cond (d := 44) _ rfl rfl (fun hg44 => ?_) (fun hg44 => ?_)
       · refine sy_field fld_30_2 rfl rfl rfl ?_
         refine sy_ldh one_9 rfl (Hp.blk hbx 2 _ rfl) rfl rfl ?_
         refine sy_len rfl (len_string Tryd.underlying9 _) rfl rfl ?_
         refine sy_cmp rfl rfl rfl rfl rfl ?_
         refine sy_pickT rfl rfl rfl rfl ?_
         refine sy_move rfl rfl rfl ?_
         refine sy_cond (d := 50) _ rfl rfl (fun hg50 => ?_) (fun hg50 => ?_)
         · refine sy_field fld_30_3 rfl rfl rfl ?_
           refine sy_ldh one_23 rfl (Hp.blk hbx 3 _ rfl) rfl rfl ?_
           refine sy_len rfl (len_slice Tryd.underlying23 _ _ _) rfl rfl ?_
           refine sy_cmp rfl rfl rfl rfl rfl ?_
           refine sy_pickT rfl rfl rfl rfl ?_
           refine sy_assign rfl rfl rfl ?_
           refine sy_nil rfl ?_
           refine ny_next ?_
           refine cy_ret ?_
           refine ny_blockR ?_
           refine ny_thenR ?_
           refine ny_finR (res1 rfl rfl) (fun w hs2 => ⟨?_, hs2.frm⟩)
           rw [GT.tm_mk, alone3 hk1 hk2 hk3]
           try rw [List.length_map]
           first | (rw [hg44, hg50]; first | rfl | (rw [hsum]; rfl)) | (rw [hg44]; first | rfl | (rw [hsum]; rfl)) | rfl
         · refine sy_skip rfl rfl rfl ?_
           refine sy_skip rfl rfl rfl ?_
           refine sy_skip rfl rfl rfl ?_
           refine sy_skip rfl rfl rfl ?_
           refine sy_pickF rfl rfl rfl rfl ?_
           refine sy_assign rfl rfl rfl ?_
           refine sy_nil rfl ?_
           refine ny_next ?_
           refine cy_ret ?_
           refine ny_blockR ?_
           refine ny_thenR ?_
           refine ny_finR (res1 rfl rfl) (fun w hs2 => ⟨?_, hs2.frm⟩)
           rw [GT.tm_mk, alone3 hk1 hk2 hk3]
           try rw [List.length_map]
           first | (rw [hg44, hg50]; first | rfl | (rw [hsum]; rfl)) | (rw [hg44]; first | rfl | (rw [hsum]; rfl)) | rfl
       · refine sy_skip rfl rfl rfl ?_
         refine sy_skip rfl rfl rfl ?_
         refine sy_skip rfl rfl rfl ?_
         refine sy_skip rfl rfl rfl ?_
         refine sy_pickF rfl rfl rfl rfl ?_
         refine sy_move rfl rfl rfl ?_
         refine sy_skip rfl rfl rfl ?_
         refine sy_skip rfl rfl rfl ?_
         refine sy_skip rfl rfl rfl ?_
         refine sy_skip rfl rfl rfl ?_
         refine sy_pickF rfl rfl rfl rfl ?_
         refine sy_assign rfl rfl rfl ?_
         refine sy_nil rfl ?_
         refine ny_next ?_
         refine cy_ret ?_
         refine ny_blockR ?_
         refine ny_thenR ?_
         refine ny_finR (res1 rfl rfl) (fun w hs2 => ⟨?_, hs2.frm⟩)
         rw [GT.tm_mk, alone3 hk1 hk2 hk3]
         try rw [List.length_map]
         first | (rw [hg44, hg50]; first | rfl | (rw [hsum]; rfl)) | (rw [hg44]; first | rfl | (rw [hsum]; rfl)) | rfl
     · have hk3 : ¬ tk = 3 := by simpa using hc39
       refine cy_seq ?_
       refine cy_region ?_
       refine sy_cmp rfl rfl rfl rfl rfl ?_
       refine sy_assign rfl rfl rfl ?_
       refine sy_nil rfl ?_
       refine ny_next ?_
       refine cy_cond rfl (fun hc56 => ?_) (fun hc56 => ?_)
       · have hk4 : tk = 4 := by simpa using hc56
         refine cy_seq ?_
         refine cy_region ?_
         refine sy_field fld_30_2 rfl rfl rfl ?_
         refine sy_ldh one_9 rfl (Hp.blk hbx 2 _ rfl) rfl rfl ?_
         refine sy_eqs rfl rfl rfl rfl ?_
         refine sy_move rfl rfl rfl ?_
         refine sy_cond (d := 61) _ rfl rfl (fun hg61 => ?_) (fun hg61 => ?_)
         · refine sy_field fld_30_1 rfl rfl rfl ?_
           refine sy_ldh one_2 rfl (Hp.blk hbx 1 _ rfl) rfl rfl ?_
           refine sy_cmp rfl rfl rfl rfl rfl ?_
           refine sy_pickT rfl rfl rfl rfl ?_
           refine sy_move rfl rfl rfl ?_
           refine sy_cond (d := 66) _ rfl rfl (fun hg66 => ?_) (fun hg66 => ?_)
           · refine sy_field fld_30_1 rfl rfl rfl ?_
             refine sy_ldh one_2 rfl (Hp.blk hbx 1 _ rfl) rfl rfl ?_
             refine sy_move rfl rfl rfl ?_
             refine sy_cmp rfl rfl rfl rfl rfl ?_
             refine sy_pickT rfl rfl rfl rfl ?_
             refine sy_move rfl rfl rfl ?_
             refine sy_cond (d := 72) _ rfl rfl (fun hg72 => ?_) (fun hg72 => ?_)
             · refine sy_field fld_30_3 rfl rfl rfl ?_
               refine sy_ldh one_23 rfl (Hp.blk hbx 3 _ rfl) rfl rfl ?_
               refine sy_len rfl (len_slice Tryd.underlying23 _ _ _) rfl rfl ?_
               refine sy_cmp rfl rfl rfl rfl rfl ?_
               refine sy_pickT rfl rfl rfl rfl ?_
               refine sy_move rfl rfl rfl ?_
               refine sy_cond (d := 78) _ rfl rfl (fun hg78 => ?_) (fun hg78 => ?_)
               · have hkl : kids.length = 1 := by have := eq_of_beq hg78; omega
                 refine sy_field fld_30_3 rfl rfl rfl ?_
                 refine sy_ldh one_23 rfl (Hp.blk hbx 3 _ rfl) rfl rfl ?_
                 refine sy_idxR (i := 0) (fc := GT.cells) (es := kids) els_23 rfl rfl hr rfl (by omega) rfl rfl (fun e81 b81 o81 he81 hA81 hc81 => ?_)
                 refine sy_ldah (vs := GT.cells e81) agg_30 rfl rfl hc81 rfl rfl ?_
                 refine sy_callx call_11 rfl (vars_c e81 _ (hl.at he81) (hf.at he81) (by have := wtG_at he81; omega)) rfl rfl (fun x83 h83 hx83 hle83 => ?_)
                 have hsum : decide (((kids.map GT.tm).map fun t => (varsT t).length).sum = 0) = (((varsT e81.tm).length : Int) == 0) := by rw [sum_one hkl he81, dec_n]; rfl
                 refine sy_len rfl (len_slice Tryd.underlying27 _ _ _) rfl rfl ?_
                 refine sy_cmp rfl rfl rfl rfl rfl ?_
                 refine sy_pickT rfl rfl rfl rfl ?_
                 refine sy_assign rfl rfl rfl ?_
                 refine sy_nil rfl ?_
                 refine ny_next ?_
                 refine cy_ret ?_
                 refine ny_blockR ?_
                 refine ny_thenR ?_
                 refine ny_finR (res1 rfl rfl) (fun w hs2 => ⟨?_, hs2.frm⟩)
                 rw [GT.tm_mk, alone4 hk1 hk2 hk3 hk4]
                 try rw [List.length_map]
                 first | (rw [hg61, hg66, hg72, hg78]; first | rfl | (rw [hsum]; rfl)) | (rw [hg61, hg66, hg72]; first | rfl | (rw [hsum]; rfl)) | (rw [hg61, hg66]; first | rfl | (rw [hsum]; rfl)) | (rw [hg61]; first | rfl | (rw [hsum]; rfl)) | rfl
               · refine sy_skip rfl rfl rfl ?_
                 refine sy_skip rfl rfl rfl ?_
                 refine sy_skip rfl rfl rfl ?_
                 refine sy_skip rfl rfl rfl ?_
                 refine sy_skip rfl rfl rfl ?_
                 refine sy_skip rfl rfl rfl ?_
                 refine sy_skip rfl rfl rfl ?_
                 refine sy_pickF rfl rfl rfl rfl ?_
                 refine sy_assign rfl rfl rfl ?_
                 refine sy_nil rfl ?_
                 refine ny_next ?_
                 refine cy_ret ?_
                 refine ny_blockR ?_
                 refine ny_thenR ?_
                 refine ny_finR (res1 rfl rfl) (fun w hs2 => ⟨?_, hs2.frm⟩)
                 rw [GT.tm_mk, alone4 hk1 hk2 hk3 hk4]
                 try rw [List.length_map]
                 first | (rw [hg61, hg66, hg72, hg78]; first | rfl | (rw [hsum]; rfl)) | (rw [hg61, hg66, hg72]; first | rfl | (rw [hsum]; rfl)) | (rw [hg61, hg66]; first | rfl | (rw [hsum]; rfl)) | (rw [hg61]; first | rfl | (rw [hsum]; rfl)) | rfl
             · refine sy_skip rfl rfl rfl ?_
               refine sy_skip rfl rfl rfl ?_
               refine sy_skip rfl rfl rfl ?_
               refine sy_skip rfl rfl rfl ?_
               refine sy_pickF rfl rfl rfl rfl ?_
               refine sy_move rfl rfl rfl ?_
               refine sy_skip rfl rfl rfl ?_
               refine sy_skip rfl rfl rfl ?_
               refine sy_skip rfl rfl rfl ?_
               refine sy_skip rfl rfl rfl ?_
               refine sy_skip rfl rfl rfl ?_
               refine sy_skip rfl rfl rfl ?_
               refine sy_skip rfl rfl rfl ?_
               refine sy_pickF rfl rfl rfl rfl ?_
               refine sy_assign rfl rfl rfl ?_
               refine sy_nil rfl ?_
               refine ny_next ?_
               refine cy_ret ?_
               refine ny_blockR ?_
               refine ny_thenR ?_
               refine ny_finR (res1 rfl rfl) (fun w hs2 => ⟨?_, hs2.frm⟩)
               rw [GT.tm_mk, alone4 hk1 hk2 hk3 hk4]
               try rw [List.length_map]
               first | (rw [hg61, hg66, hg72, hg78]; first | rfl | (rw [hsum]; rfl)) | (rw [hg61, hg66, hg72]; first | rfl | (rw [hsum]; rfl)) | (rw [hg61, hg66]; first | rfl | (rw [hsum]; rfl)) | (rw [hg61]; first | rfl | (rw [hsum]; rfl)) | rfl
           · refine sy_skip rfl rfl rfl ?_
             refine sy_skip rfl rfl rfl ?_
             refine sy_skip rfl rfl rfl ?_
             refine sy_skip rfl rfl rfl ?_
             refine sy_pickF rfl rfl rfl rfl ?_
             refine sy_move rfl rfl rfl ?_
             refine sy_skip rfl rfl rfl ?_
             refine sy_skip rfl rfl rfl ?_
             refine sy_skip rfl rfl rfl ?_
             refine sy_skip rfl rfl rfl ?_
             refine sy_pickF rfl rfl rfl rfl ?_
             refine sy_move rfl rfl rfl ?_
             refine sy_skip rfl rfl rfl ?_
             refine sy_skip rfl rfl rfl ?_
             refine sy_skip rfl rfl rfl ?_
             refine sy_skip rfl rfl rfl ?_
             refine sy_skip rfl rfl rfl ?_
             refine sy_skip rfl rfl rfl ?_
             refine sy_skip rfl rfl rfl ?_
             refine sy_pickF rfl rfl rfl rfl ?_
             refine sy_assign rfl rfl rfl ?_
             refine sy_nil rfl ?_
             refine ny_next ?_
             refine cy_ret ?_
             refine ny_blockR ?_
             refine ny_thenR ?_
             refine ny_finR (res1 rfl rfl) (fun w hs2 => ⟨?_, hs2.frm⟩)
             rw [GT.tm_mk, alone4 hk1 hk2 hk3 hk4]
             try rw [List.length_map]
             first | (rw [hg61, hg66, hg72, hg78]; first | rfl | (rw [hsum]; rfl)) | (rw [hg61, hg66, hg72]; first | rfl | (rw [hsum]; rfl)) | (rw [hg61, hg66]; first | rfl | (rw [hsum]; rfl)) | (rw [hg61]; first | rfl | (rw [hsum]; rfl)) | rfl
         · refine sy_skip rfl rfl rfl ?_
           refine sy_skip rfl rfl rfl ?_
           refine sy_skip rfl rfl rfl ?_
           refine sy_pickF rfl rfl rfl rfl ?_
           refine sy_move rfl rfl rfl ?_
           refine sy_skip rfl rfl rfl ?_
           refine sy_skip rfl rfl rfl ?_
           refine sy_skip rfl rfl rfl ?_
           refine sy_skip rfl rfl rfl ?_
           refine sy_pickF rfl rfl rfl rfl ?_
           refine sy_move rfl rfl rfl ?_
           refine sy_skip rfl rfl rfl ?_
           refine sy_skip rfl rfl rfl ?_
           refine sy_skip rfl rfl rfl ?_
           refine sy_skip rfl rfl rfl ?_
           refine sy_pickF rfl rfl rfl rfl ?_
           refine sy_move rfl rfl rfl ?_
           refine sy_skip rfl rfl rfl ?_
           refine sy_skip rfl rfl rfl ?_
           refine sy_skip rfl rfl rfl ?_
           refine sy_skip rfl rfl rfl ?_
           refine sy_skip rfl rfl rfl ?_
           refine sy_skip rfl rfl rfl ?_
           refine sy_skip rfl rfl rfl ?_
           refine sy_pickF rfl rfl rfl rfl ?_
           refine sy_assign rfl rfl rfl ?_
           refine sy_nil rfl ?_
           refine ny_next ?_
           refine cy_ret ?_
           refine ny_blockR ?_
           refine ny_thenR ?_
           refine ny_finR (res1 rfl rfl) (fun w hs2 => ⟨?_, hs2.frm⟩)
           rw [GT.tm_mk, alone4 hk1 hk2 hk3 hk4]
           try rw [List.length_map]
           first | (rw [hg61, hg66, hg72, hg78]; first | rfl | (rw [hsum]; rfl)) | (rw [hg61, hg66, hg72]; first | rfl | (rw [hsum]; rfl)) | (rw [hg61, hg66]; first | rfl | (rw [hsum]; rfl)) | (rw [hg61]; first | rfl | (rw [hsum]; rfl)) | rfl
       · have hk4 : ¬ tk = 4 := by simpa using hc56
         refine cy_skip ?_
         refine ny_blockN ?_
         refine ny_next ?_
         refine cy_seq ?_
         refine cy_region ?_
         refine sy_assign rfl rfl rfl ?_
         refine sy_nil rfl ?_
         refine ny_next ?_
         refine cy_ret ?_
         refine ny_finR (res1 rfl rfl) (fun w hs2 => ⟨?_, hs2.frm⟩)
         rw [GT.tm_mk, alone5 hk1 hk2 hk3 hk4]
set_option maxRecDepth 100000 in
theorem check_c (t : GT) (lv : Int) (h : Hp) (hl : Lies h t) (hf : Fits t) (hw : wtG t ≤ 1099511627776) : C0 Tryd.prog 12 [.agg (GT.cells t).toArray, .int .i64 lv] h (.int .i64 (chkT lv t.tm)) := by
 show C0 Tryd.prog 12 [.agg #[.int .i64 t.k, .int .i64 t.n, .string t.s, .slice t.A t.kids.length t.c], .int .i64 lv] h _
 refine enterK0 Tryd.func12 rfl rfl rfl (fun w => ?_)
 refine cy_seq ?_
 refine cy_region ?_
 refine sy_box rfl rfl rfl rfl (fun b2 hb2 hM2 => ?_) (by simp)
 refine sy_box rfl rfl rfl rfl (fun b3 hb3 hM3 => ?_) (by simp)
 refine sy_alloc zer_24 rfl rfl (fun b4 hb4 hM4 => ?_) (by simp)
 refine sy_nil rfl ?_
 refine ny_next ?_
 refine cy_seq ?_
 refine cy_block ?_
 refine cy_seq ?_
 refine cy_frz 2 rfl (by simp) (fun h1 hle1 hbx => ?_)
 refine cy_frz 1 rfl (by simp) (fun h2 hle2 hbl => ?_)
 replace hbx := hle2 _ _ hbx
 replace hl := (hl.le hle1).le hle2
 refine cy_region ?_
 refine sy_ldah (vs := GT.cells t) agg_30 rfl rfl (Hp.blk hbx) rfl rfl ?_
 refine sy_call rfl call_25 rfl (tsize_c t _ hl hf hw) rfl rfl ?_
 refine sy_cmp rfl rfl rfl rfl rfl ?_
 refine sy_assign rfl rfl rfl ?_
 refine sy_nil rfl ?_
 refine ny_next ?_
 refine cy_cond rfl (fun hc6 => ?_) (fun hc6 => ?_)
 · have hck : chkT lv t.tm = 3 := by
    have h9 := of_decide_eq_true hc6
    rw [← List.length_map (f := GT.tm), prts_tm] at h9
    unfold chkT
    rw [if_pos (by omega)]
   refine cy_seq ?_
   refine cy_region ?_
   first | refine sy_stl 0 sz_24 rfl rfl rfl rfl rfl rfl rfl rfl ?_ | refine sy_stl 1 sz_24 rfl rfl rfl rfl rfl rfl rfl rfl ?_
   refine sy_nil rfl ?_
   refine ny_next ?_
   refine cy_ret ?_
   refine ny_blockR ?_
   refine ny_thenR ?_
   refine ny_finM (aresc0 0 rfl one_24 rfl rfl) (fun w hs => ⟨?_, hs.frm⟩)
   rw [hck]
 · have hsz : ¬ 1000 < (partsT t.tm).length := by
    have h9 := of_decide_eq_false hc6
    rw [← List.length_map (f := GT.tm), prts_tm] at h9
    omega
   refine cy_seq ?_
   refine cy_region ?_
   refine sy_ldah (vs := GT.cells t) agg_30 rfl rfl (Hp.blk hbx) rfl rfl ?_
   refine sy_call rfl call_26 rfl (deep_c t _ hl hf hw) rfl rfl ?_
   refine sy_cmp rfl rfl rfl rfl rfl ?_
   refine sy_assign rfl rfl rfl ?_
   refine sy_nil rfl ?_
   refine ny_next ?_
   refine cy_cond rfl (fun hc10 => ?_) (fun hc10 => ?_)
   · have hck : chkT lv t.tm = 7 := by
      have h9 := of_decide_eq_true hc10
      unfold chkT
      rw [if_neg hsz, if_pos (by omega)]
     refine cy_seq ?_
     refine cy_region ?_
     first | refine sy_stl 0 sz_24 rfl rfl rfl rfl rfl rfl rfl rfl ?_ | refine sy_stl 1 sz_24 rfl rfl rfl rfl rfl rfl rfl rfl ?_
     refine sy_nil rfl ?_
     refine ny_next ?_
     refine cy_ret ?_
     refine ny_blockR ?_
     refine ny_thenR ?_
     refine ny_finM (aresc0 0 rfl one_24 rfl rfl) (fun w hs => ⟨?_, hs.frm⟩)
     rw [hck]
   · have hdp : ¬ 60 < deepT t.tm := by have h9 := of_decide_eq_false hc10; omega
     refine cy_skip ?_
     refine ny_blockN ?_
     refine ny_next ?_
     refine cy_seq ?_
     refine cy_seq ?_
     refine cy_region ?_
     refine sy_ldah (vs := GT.cells t) agg_30 rfl rfl (Hp.blk hbx) rfl rfl ?_
     refine sy_callx call_23 rfl (parts_c t _) rfl rfl (fun bp h15 hbp hle15 => ?_)
     replace hl := hl.le hle15
     replace hbx := hle15 _ _ hbx
     replace hbl := hle15 _ _ hbl
     refine sy_nil rfl ?_
     refine ny_next ?_
     refine cy_block ?_
     refine cy_range (α := TA h15) 30 (fun pre R => R = [.blk b4 (.cells [.int .i64 0].toArray 24 (0, 0))] ∧ ∀ x ∈ pre, aloneT lv x.1.tm = true) (fun c pre R => c = .ret ∧ R = [.blk b4 (.cells [.int .i64 4].toArray 24 (0, 0))] ∧ ∃ x ∈ pre, aloneT lv x.1.tm = false) (AxV h15 Tryd.f12.ntmps 5 [(3, .pointer (some ⟨b3, 0, none⟩)), (4, .pointer (some ⟨b4, 0, none⟩))]) rfl call_40 rfl (fun W hs => stops_c h15 bp t ⟨⟨hl, hf⟩, hw⟩ hbp W hs) (fun pre R hR r hr => by rw [hR.1] at hr; rw [List.mem_singleton.1 hr]; rfl) (fun c pre R hR r hr => by rw [hR.2.1] at hr; rw [List.mem_singleton.1 hr]; rfl) ⟨rfl, fun x hx => (List.not_mem_nil hx).elim⟩ (axV_own _ _ _ _) (fun l pre y R a0 W hR hst ha K hK => by
         have hb0 := hst.keys_lt
         refine cyr_enter ?_ ha hst
         refine cyr_region (fun ⟨_, _, hq⟩ => hq) rfl ?_
         refine sy_alloc zer_30 rfl rfl (fun bb hbb hMb => ?_) hb0
         refine sy_stl 0 sz_30 rfl rfl rfl rfl rfl rfl rfl rfl ?_
         refine sy_nil rfl ?_
         exact fun a2 W2 ha2 hst2 => hK a2 W2 (hst2.perm (List.sublist_cons_self _ _)) ⟨bb, hst2.ok _ (List.mem_cons_self), ha2.weak ⟨rfl, rfl, rfl, trivial⟩⟩) ?_ ?_ ?_
     · rintro l pre y R a' W ⟨rfl, hall⟩ hst ⟨bb, hbb, ha⟩ hlen
       obtain ⟨h6, hle6, hb6, hst6⟩ := hst.know (fun r hr => by rw [List.mem_singleton.1 hr]; rfl) hbb
       have hb3 := hle6 _ _ hbl
       refine cyr_enter ?_ ha hst6
       refine cyr_block ?_
       refine cyr_seq ?_
       refine cyr_region (fun ⟨_, _, hq⟩ => hq) rfl ?_
       refine sy_ldah (vs := GT.cells y.1) agg_30 rfl rfl (Hp.blk hb6) rfl rfl ?_
       refine sy_ldh one_3 rfl (Hp.blk hb3 0 _ rfl) rfl rfl ?_
       refine sy_call rfl call_27 rfl (alone_c y.1 lv _ (y.2.1.1.le hle6) y.2.1.2 y.2.2) rfl rfl ?_
       refine sy_not rfl rfl rfl ?_
       refine sy_nil rfl ?_
       refine nyr_next ?_
       refine cyr_cond rfl (fun hc20 => ?_) (fun hc20 => ?_)
       · refine cyr_seq ?_
         refine cyr_region (fun ⟨_, _, hq⟩ => hq) rfl ?_
         first | refine sy_stl 0 sz_24 rfl rfl rfl rfl rfl rfl rfl rfl ?_ | refine sy_stl 1 sz_24 rfl rfl rfl rfl rfl rfl rfl rfl ?_
         refine sy_nil rfl ?_
         refine nyr_next ?_
         refine cyr_ret ?_
         refine ny_blockR ?_
         exact fun a2 W2 _ hst2 => ⟨h15, _, Hp.Le.refl _, ⟨rfl, rfl, y, by simp, by simpa using hc20⟩, hst2.forget hle6⟩
       · refine cyr_skip ?_
         refine ny_blockN ?_
         exact fun a2 W2 _ hst2 => ⟨h15, _, Hp.Le.refl _, ⟨rfl, fun x hx => (List.mem_append.1 hx).elim (hall x) (fun h9 => by rw [List.mem_singleton.1 h9]; simpa using hc20)⟩, hst2.forget hle6⟩
     · rintro bD xs R hS ⟨rfl, hall⟩
       have hck : chkT lv t.tm = 0 := by
        unfold chkT
        rw [if_neg hsz, if_neg hdp, if_pos]
        rw [← prts_tm, ← hS, List.all_eq_true]
        intro p hp
        obtain ⟨g, hg, rfl⟩ := List.mem_map.1 hp
        obtain ⟨x, hx, rfl⟩ := List.mem_map.1 hg
        exact hall x hx
       refine ny_blockN ?_
       refine ny_next ?_
       refine cy_seq ?_
       refine cy_region ?_
       first | refine sy_stl 0 sz_24 rfl rfl rfl rfl rfl rfl rfl rfl ?_ | refine sy_stl 1 sz_24 rfl rfl rfl rfl rfl rfl rfl rfl ?_
       refine sy_nil rfl ?_
       refine ny_next ?_
       refine cy_ret ?_
       first | refine ny_finKR (i := 0) rfl (aresc0 1 rfl one_24 rfl rfl) (fun w hs => ⟨?_, hs.frm⟩) | refine ny_finKR (i := 1) rfl (aresc0 0 rfl one_24 rfl rfl) (fun w hs => ⟨?_, hs.frm⟩) | refine ny_finKR (i := 1) rfl (aresc0 1 rfl one_24 rfl rfl) (fun w hs => ⟨?_, hs.frm⟩)
       rw [hck]
     · rintro bD c pre R hSp ⟨rfl, rfl, x, hx, hax⟩
       have hck : chkT lv t.tm = 4 := by
        unfold chkT
        rw [if_neg hsz, if_neg hdp, if_neg]
        rw [← prts_tm, List.all_eq_true]
        intro h9
        have h8 := h9 x.1.tm (List.mem_map.2 ⟨x.1, hSp.subset (List.mem_map.2 ⟨x, hx, rfl⟩), rfl⟩)
        rw [hax] at h8
        cases h8
       refine cy_ret ?_
       refine ny_blockR ?_
       refine ny_thenR ?_
       first | refine ny_finKR (i := 0) rfl (aresc0 1 rfl one_24 rfl rfl) (fun w hs => ⟨?_, hs.frm⟩) | refine ny_finKR (i := 1) rfl (aresc0 0 rfl one_24 rfl rfl) (fun w hs => ⟨?_, hs.frm⟩) | refine ny_finKR (i := 1) rfl (aresc0 1 rfl one_24 rfl rfl) (fun w hs => ⟨?_, hs.frm⟩)
       rw [hck]
end Go.Proofs.YtanhhihechakhaaDoor
set_option linter.unusedVariables false
set_option linter.unusedSimpArgs false
namespace Go.Proofs.YtanhhihechakhaaDoor
open Go.RowKit Go.Proofs.YtanhhihechakhaaDoor.E Go.Proofs.YtanhhihechakhaaDoor.ReplP Go.Proofs.YtanhhihechakhaaDoor.TokP Go.Proofs.YtanhhihechakhaaDoor.TermP Go.Proofs.YtanhhihechakhaaDoor.WrP Go.Proofs.YtanhhihechakhaaDoor.ReadP Go.Proofs.YtanhhihechakhaaDoor.OpsP
theorem varR_new {s : ByteArray} {st : RSt} (h : (lastI st.names s).isSome = false ∨ s = lowS) : varR s st = (letT st.names.length, ⟨st.at_, st.names ++ [s]⟩) := by
 unfold varR
 cases hl : lastI st.names s with
 | none => rfl
 | some i =>
  rcases h with h | h
  · rw [hl] at h; cases h
  · simp only [if_pos h]
theorem varR_old {s : ByteArray} {st : RSt} (h : (lastI st.names s).isSome = true) (h2 : ¬ s = lowS) : varR s st = (letT (((lastI st.names s).getD 0 : Nat) : Int), st) := by
 unfold varR
 cases hl : lastI st.names s with
 | none => rw [hl] at h; cases h
 | some i => simp only [if_neg h2]; rfl
set_option maxRecDepth 100000 in
theorem var_c (s : ByteArray) (hs9 : s.size ≤ 4398046511104) (r bm : Nat) (A : Option Addr) (c : Nat) (L : List RT) (lv : Int) (h : Hp) (hT : RowsAt h A 5 (L.map rtC)) (hL : L.length ≤ 1048576) (st : RSt) (inn : Int) (vn : Value) (hat : st.at_ ≤ L.length) (o : Obj) (hnm : st.names.length ≤ st.at_) (hm : MapV Tryd.prog 9 3 o st.names.length (lastI st.names)) : CR Tryd.prog 75 [.pointer (some ⟨r, 0, none⟩), .string s] h [.blk r (.cells [.slice A L.length c, .int .i64 ((st.at_ : Nat) : Int), .int .i64 lv, .int .i64 inn, .map (some bm), vn].toArray 74 (0, 0)), .blk bm o, .row vn 9 1 st.names.length ((st.names.map strC).flatten)] (fun _ : Obj × Value => .returned (.agg (GT.cells (GT.mk 1 (varR s st).1.n ⟨#[]⟩ none 0 [])).toArray)) (fun d h' H' => h = h' ∧ H' = [.blk r (.cells [.slice A L.length c, .int .i64 ((st.at_ : Nat) : Int), .int .i64 lv, .int .i64 inn, .map (some bm), d.2].toArray 74 (0, 0)), .blk bm d.1, .row d.2 9 1 (varR s st).2.names.length (((varR s st).2.names.map strC).flatten)] ∧ MapV Tryd.prog 9 3 d.1 (varR s st).2.names.length (lastI (varR s st).2.names)) := by
 refine enterR Tryd.func75 rfl rfl rfl (fun w hb0 => ?_)
 refine cy_seq ?_
 refine cy_region ?_
 refine sy_alloc zer_30 rfl rfl (fun b4 hb4 hM4 => ?_) (by first | exact hb0 | simp)
 refine sy_nil rfl ?_
 refine ny_next ?_
 refine cy_seq ?_
 refine cy_region ?_
 refine sy_move rfl rfl rfl ?_
 refine sy_nilCheck rfl rfl rfl ?_
 refine sy_field fld_74_4 rfl rfl rfl ?_
 first | refine sy_ldr 0 one_72 rfl rfl rfl rfl rfl ?_ | refine sy_ldr 1 one_72 rfl rfl rfl rfl rfl ?_ | refine sy_ldr 2 one_72 rfl rfl rfl rfl rfl ?_ | refine sy_ldr 3 one_72 rfl rfl rfl rfl rfl ?_ | refine sy_ldr 4 one_72 rfl rfl rfl rfl rfl ?_
 refine sy_move rfl rfl rfl ?_
 first | refine sy_lookupOk 2 Tryd.underlying72 Tryd.underlying9 Tryd.underlying3 (fun w => by rfl) rfl rfl (by simp only [maxLen]; omega) rfl hm rfl rfl ?_ | refine sy_lookupOk 1 Tryd.underlying72 Tryd.underlying9 Tryd.underlying3 (fun w => by rfl) rfl rfl (by simp only [maxLen]; omega) rfl hm rfl rfl ?_
 refine sy_move rfl rfl rfl ?_
 refine sy_extract rfl rfl rfl rfl ?_
 refine sy_extract rfl rfl rfl rfl ?_
 refine sy_assign rfl rfl rfl ?_
 refine sy_assign rfl rfl rfl ?_
 refine sy_nil rfl ?_
 refine ny_next ?_
 refine cy_seq ?_
 refine cy_seq ?_
 refine cy_region ?_
 refine sy_move rfl rfl rfl ?_
 refine sy_not rfl rfl rfl ?_
 refine sy_move rfl rfl rfl ?_
 refine sy_cond (d := 18) _ rfl rfl (fun hg18 => ?_) (fun hg18 => ?_)
 · refine sy_skip rfl rfl rfl ?_
   refine sy_skip rfl rfl rfl ?_
   refine sy_pickT rfl rfl rfl rfl ?_
   refine sy_nil rfl ?_
   refine ny_next ?_
   refine cy_condT rfl ?_
   have hv := varR_new (s := s) (st := st) (.inl (by simpa using hg18))
   refine cy_seq ?_
   refine cy_region ?_
   refine sy_move rfl rfl rfl ?_
   refine sy_nilCheck rfl rfl rfl ?_
   refine sy_field fld_74_5 rfl rfl rfl ?_
   first | refine sy_rowform 3 rfl (fun A25 c25 hv25 => ?_) | refine sy_rowform 2 rfl (fun A25 c25 hv25 => ?_)
   subst hv25
   first | refine sy_ldr 0 one_51 rfl rfl rfl rfl rfl ?_ | refine sy_ldr 1 one_51 rfl rfl rfl rfl rfl ?_ | refine sy_ldr 2 one_51 rfl rfl rfl rfl rfl ?_ | refine sy_ldr 3 one_51 rfl rfl rfl rfl rfl ?_ | refine sy_ldr 4 one_51 rfl rfl rfl rfl rfl ?_
   refine sy_len rfl (len_slice Tryd.underlying51 _ _ _) rfl rfl ?_
   refine sy_assign rfl rfl rfl ?_
   refine sy_nil rfl ?_
   refine ny_next ?_
   refine cy_seq ?_
   refine cy_region ?_
   refine sy_move rfl rfl rfl ?_
   refine sy_move rfl rfl rfl ?_
   refine sy_nilCheck rfl rfl rfl ?_
   refine sy_field fld_74_5 rfl rfl rfl ?_
   first | refine sy_ldr 0 one_51 rfl rfl rfl rfl rfl ?_ | refine sy_ldr 1 one_51 rfl rfl rfl rfl rfl ?_ | refine sy_ldr 2 one_51 rfl rfl rfl rfl rfl ?_ | refine sy_ldr 3 one_51 rfl rfl rfl rfl rfl ?_ | refine sy_ldr 4 one_51 rfl rfl rfl rfl rfl ?_
   refine sy_move rfl rfl rfl ?_
   refine sy_buildSlice rfl (fun w => bsl_51_1_0 w) rfl rfl (fun b33 hb33 hM33 => ?_) (by first | exact hb0 | simp)
   refine sy_append 4 0 row_51 (by decide) rfl rfl rfl rfl rfl rfl (by omega) (by simp only [maxLen]; omega) rfl rfl (fun v34 => ?_)
   refine sy_rowform 0 rfl (fun A34 c34 hv34 => ?_)
   subst hv34
   refine sy_nilCheck rfl rfl rfl ?_
   refine sy_field fld_74_5 rfl rfl rfl ?_
   first | refine sy_stl 0 sz_51 rfl rfl rfl rfl rfl rfl rfl rfl ?_ | refine sy_stl 1 sz_51 rfl rfl rfl rfl rfl rfl rfl rfl ?_ | refine sy_stl 2 sz_51 rfl rfl rfl rfl rfl rfl rfl rfl ?_ | refine sy_stl 3 sz_51 rfl rfl rfl rfl rfl rfl rfl rfl ?_ | refine sy_stl 4 sz_51 rfl rfl rfl rfl rfl rfl rfl rfl ?_
   refine sy_nil rfl ?_
   refine ny_next ?_
   refine cy_region ?_
   refine sy_move rfl rfl rfl ?_
   refine sy_nilCheck rfl rfl rfl ?_
   refine sy_field fld_74_4 rfl rfl rfl ?_
   first | refine sy_ldr 0 one_72 rfl rfl rfl rfl rfl ?_ | refine sy_ldr 1 one_72 rfl rfl rfl rfl rfl ?_ | refine sy_ldr 2 one_72 rfl rfl rfl rfl rfl ?_ | refine sy_ldr 3 one_72 rfl rfl rfl rfl rfl ?_ | refine sy_ldr 4 one_72 rfl rfl rfl rfl rfl ?_
   refine sy_move rfl rfl rfl ?_
   refine sy_move rfl rfl rfl ?_
   first
    | refine sy_mapUpd 0 Tryd.underlying72 Tryd.underlying9 Tryd.underlying3 rfl rfl rfl (by simp only [maxLen]; omega) (by omega) (by simp only [maxLen]; omega) rfl hm rfl (fun o42 hm42 => ?_)
    | refine sy_mapUpd 1 Tryd.underlying72 Tryd.underlying9 Tryd.underlying3 rfl rfl rfl (by simp only [maxLen]; omega) (by omega) (by simp only [maxLen]; omega) rfl hm rfl (fun o42 hm42 => ?_)
    | refine sy_mapUpd 2 Tryd.underlying72 Tryd.underlying9 Tryd.underlying3 rfl rfl rfl (by simp only [maxLen]; omega) (by omega) (by simp only [maxLen]; omega) rfl hm rfl (fun o42 hm42 => ?_)
    | refine sy_mapUpd 3 Tryd.underlying72 Tryd.underlying9 Tryd.underlying3 rfl rfl rfl (by simp only [maxLen]; omega) (by omega) (by simp only [maxLen]; omega) rfl hm rfl (fun o42 hm42 => ?_)
    | refine sy_mapUpd 4 Tryd.underlying72 Tryd.underlying9 Tryd.underlying3 rfl rfl rfl (by simp only [maxLen]; omega) (by omega) (by simp only [maxLen]; omega) rfl hm rfl (fun o42 hm42 => ?_)
   refine sy_nil rfl ?_
   refine ny_next ?_
   refine cy_seq ?_
   refine cy_region ?_
   refine sy_move rfl rfl rfl ?_
   refine sy_call rfl call_19 rfl (let_c _ _) rfl rfl ?_
   first | refine sy_stl 0 sz_30 rfl rfl rfl rfl rfl rfl rfl rfl ?_ | refine sy_stl 1 sz_30 rfl rfl rfl rfl rfl rfl rfl rfl ?_ | refine sy_stl 2 sz_30 rfl rfl rfl rfl rfl rfl rfl rfl ?_ | refine sy_stl 3 sz_30 rfl rfl rfl rfl rfl rfl rfl rfl ?_ | refine sy_stl 4 sz_30 rfl rfl rfl rfl rfl rfl rfl rfl ?_
   refine sy_nil rfl ?_
   refine ny_next ?_
   refine cy_ret ?_
   rw [hv]
   first
    | exact ny_finR (rescS 0 rfl agg_30 rfl rfl rfl) (fun w hs => ⟨(o, vn), h, _, rfl, ⟨rfl, rfl, hm⟩, (hs.sel (is := [1, 1, 1]) rfl)⟩)
    | exact ny_finR (rescS 0 rfl agg_30 rfl rfl rfl) (fun w hs => ⟨(o42, .slice A34 (st.names.length + 1) c34), h, _, rfl, ⟨rfl, rfl, (by rw [List.length_append, lastI_snoc]; exact hm42)⟩, (by rw [strC_snoc, List.length_append]; exact hs.sel (is := [0, 0, 0]) rfl)⟩)
    | exact ny_finR (rescS 0 rfl agg_30 rfl rfl rfl) (fun w hs => ⟨(o42, .slice A34 (st.names.length + 1) c34), h, _, rfl, ⟨rfl, rfl, (by rw [List.length_append, lastI_snoc]; exact hm42)⟩, (by rw [strC_snoc, List.length_append]; exact hs.sel (is := [1, 1, 1]) rfl)⟩)
    | exact ny_finR (rescS 0 rfl agg_30 rfl rfl rfl) (fun w hs => ⟨(o42, .slice A34 (st.names.length + 1) c34), h, _, rfl, ⟨rfl, rfl, (by rw [List.length_append, lastI_snoc]; exact hm42)⟩, (by rw [strC_snoc, List.length_append]; exact hs.sel (is := [1, 0, 0]) rfl)⟩)
    | exact ny_finR (rescS 0 rfl agg_30 rfl rfl rfl) (fun w hs => ⟨(o42, .slice A34 (st.names.length + 1) c34), h, _, rfl, ⟨rfl, rfl, (by rw [List.length_append, lastI_snoc]; exact hm42)⟩, (by rw [strC_snoc, List.length_append]; exact hs.sel (is := [2, 1, 1]) rfl)⟩)
    | exact ny_finR (rescS 0 rfl agg_30 rfl rfl rfl) (fun w hs => ⟨(o42, .slice A34 (st.names.length + 1) c34), h, _, rfl, ⟨rfl, rfl, (by rw [List.length_append, lastI_snoc]; exact hm42)⟩, (by rw [strC_snoc, List.length_append]; exact hs.sel (is := [1, 0, 1]) rfl)⟩)
    | exact ny_finR (rescS 0 rfl agg_30 rfl rfl rfl) (fun w hs => ⟨(o42, .slice A34 (st.names.length + 1) c34), h, _, rfl, ⟨rfl, rfl, (by rw [List.length_append, lastI_snoc]; exact hm42)⟩, (by rw [strC_snoc, List.length_append]; exact hs.sel (is := [2, 0, 0]) rfl)⟩)
    | exact ny_finR (rescS 0 rfl agg_30 rfl rfl rfl) (fun w hs => ⟨(o42, .slice A34 (st.names.length + 1) c34), h, _, rfl, ⟨rfl, rfl, (by rw [List.length_append, lastI_snoc]; exact hm42)⟩, (by rw [strC_snoc, List.length_append]; exact hs.sel (is := [2, 0, 1]) rfl)⟩)
    | exact ny_finR (rescS 0 rfl agg_30 rfl rfl rfl) (fun w hs => ⟨(o42, .slice A34 (st.names.length + 1) c34), h, _, rfl, ⟨rfl, rfl, (by rw [List.length_append, lastI_snoc]; exact hm42)⟩, (by rw [strC_snoc, List.length_append]; exact hs.sel (is := [2, 1, 0]) rfl)⟩)
    | exact ny_finR (rescS 1 rfl agg_30 rfl rfl rfl) (fun w hs => ⟨(o, vn), h, _, rfl, ⟨rfl, rfl, hm⟩, (hs.sel (is := [0, 1, 1]) rfl)⟩)
    | exact ny_finR (rescS 1 rfl agg_30 rfl rfl rfl) (fun w hs => ⟨(o42, .slice A34 (st.names.length + 1) c34), h, _, rfl, ⟨rfl, rfl, (by rw [List.length_append, lastI_snoc]; exact hm42)⟩, (by rw [strC_snoc, List.length_append]; exact hs.sel (is := [0, 0, 0]) rfl)⟩)
    | exact ny_finR (rescS 1 rfl agg_30 rfl rfl rfl) (fun w hs => ⟨(o42, .slice A34 (st.names.length + 1) c34), h, _, rfl, ⟨rfl, rfl, (by rw [List.length_append, lastI_snoc]; exact hm42)⟩, (by rw [strC_snoc, List.length_append]; exact hs.sel (is := [1, 1, 1]) rfl)⟩)
    | exact ny_finR (rescS 1 rfl agg_30 rfl rfl rfl) (fun w hs => ⟨(o42, .slice A34 (st.names.length + 1) c34), h, _, rfl, ⟨rfl, rfl, (by rw [List.length_append, lastI_snoc]; exact hm42)⟩, (by rw [strC_snoc, List.length_append]; exact hs.sel (is := [1, 0, 0]) rfl)⟩)
    | exact ny_finR (rescS 1 rfl agg_30 rfl rfl rfl) (fun w hs => ⟨(o42, .slice A34 (st.names.length + 1) c34), h, _, rfl, ⟨rfl, rfl, (by rw [List.length_append, lastI_snoc]; exact hm42)⟩, (by rw [strC_snoc, List.length_append]; exact hs.sel (is := [2, 1, 1]) rfl)⟩)
    | exact ny_finR (rescS 1 rfl agg_30 rfl rfl rfl) (fun w hs => ⟨(o42, .slice A34 (st.names.length + 1) c34), h, _, rfl, ⟨rfl, rfl, (by rw [List.length_append, lastI_snoc]; exact hm42)⟩, (by rw [strC_snoc, List.length_append]; exact hs.sel (is := [1, 0, 1]) rfl)⟩)
    | exact ny_finR (rescS 1 rfl agg_30 rfl rfl rfl) (fun w hs => ⟨(o42, .slice A34 (st.names.length + 1) c34), h, _, rfl, ⟨rfl, rfl, (by rw [List.length_append, lastI_snoc]; exact hm42)⟩, (by rw [strC_snoc, List.length_append]; exact hs.sel (is := [2, 0, 0]) rfl)⟩)
    | exact ny_finR (rescS 1 rfl agg_30 rfl rfl rfl) (fun w hs => ⟨(o42, .slice A34 (st.names.length + 1) c34), h, _, rfl, ⟨rfl, rfl, (by rw [List.length_append, lastI_snoc]; exact hm42)⟩, (by rw [strC_snoc, List.length_append]; exact hs.sel (is := [2, 0, 1]) rfl)⟩)
    | exact ny_finR (rescS 1 rfl agg_30 rfl rfl rfl) (fun w hs => ⟨(o42, .slice A34 (st.names.length + 1) c34), h, _, rfl, ⟨rfl, rfl, (by rw [List.length_append, lastI_snoc]; exact hm42)⟩, (by rw [strC_snoc, List.length_append]; exact hs.sel (is := [2, 1, 0]) rfl)⟩)
 · refine sy_move rfl rfl rfl ?_
   refine sy_eqs rfl rfl rfl rfl ?_
   refine sy_pickF rfl rfl rfl rfl ?_
   refine sy_nil rfl ?_
   refine ny_next ?_
   refine cy_cond rfl (fun hc21 => ?_) (fun hc21 => ?_)
   · have hv := varR_new (s := s) (st := st) (by first | exact .inl (by simpa using hg18) | exact .inr (ba_inj (eq_of_beq hc21)))
     refine cy_seq ?_
     refine cy_region ?_
     refine sy_move rfl rfl rfl ?_
     refine sy_nilCheck rfl rfl rfl ?_
     refine sy_field fld_74_5 rfl rfl rfl ?_
     first | refine sy_rowform 3 rfl (fun A25 c25 hv25 => ?_) | refine sy_rowform 2 rfl (fun A25 c25 hv25 => ?_)
     subst hv25
     first | refine sy_ldr 0 one_51 rfl rfl rfl rfl rfl ?_ | refine sy_ldr 1 one_51 rfl rfl rfl rfl rfl ?_ | refine sy_ldr 2 one_51 rfl rfl rfl rfl rfl ?_ | refine sy_ldr 3 one_51 rfl rfl rfl rfl rfl ?_ | refine sy_ldr 4 one_51 rfl rfl rfl rfl rfl ?_
     refine sy_len rfl (len_slice Tryd.underlying51 _ _ _) rfl rfl ?_
     refine sy_assign rfl rfl rfl ?_
     refine sy_nil rfl ?_
     refine ny_next ?_
     refine cy_seq ?_
     refine cy_region ?_
     refine sy_move rfl rfl rfl ?_
     refine sy_move rfl rfl rfl ?_
     refine sy_nilCheck rfl rfl rfl ?_
     refine sy_field fld_74_5 rfl rfl rfl ?_
     first | refine sy_ldr 0 one_51 rfl rfl rfl rfl rfl ?_ | refine sy_ldr 1 one_51 rfl rfl rfl rfl rfl ?_ | refine sy_ldr 2 one_51 rfl rfl rfl rfl rfl ?_ | refine sy_ldr 3 one_51 rfl rfl rfl rfl rfl ?_ | refine sy_ldr 4 one_51 rfl rfl rfl rfl rfl ?_
     refine sy_move rfl rfl rfl ?_
     refine sy_buildSlice rfl (fun w => bsl_51_1_0 w) rfl rfl (fun b33 hb33 hM33 => ?_) (by first | exact hb0 | simp)
     refine sy_append 4 0 row_51 (by decide) rfl rfl rfl rfl rfl rfl (by omega) (by simp only [maxLen]; omega) rfl rfl (fun v34 => ?_)
     refine sy_rowform 0 rfl (fun A34 c34 hv34 => ?_)
     subst hv34
     refine sy_nilCheck rfl rfl rfl ?_
     refine sy_field fld_74_5 rfl rfl rfl ?_
     first | refine sy_stl 0 sz_51 rfl rfl rfl rfl rfl rfl rfl rfl ?_ | refine sy_stl 1 sz_51 rfl rfl rfl rfl rfl rfl rfl rfl ?_ | refine sy_stl 2 sz_51 rfl rfl rfl rfl rfl rfl rfl rfl ?_ | refine sy_stl 3 sz_51 rfl rfl rfl rfl rfl rfl rfl rfl ?_ | refine sy_stl 4 sz_51 rfl rfl rfl rfl rfl rfl rfl rfl ?_
     refine sy_nil rfl ?_
     refine ny_next ?_
     refine cy_region ?_
     refine sy_move rfl rfl rfl ?_
     refine sy_nilCheck rfl rfl rfl ?_
     refine sy_field fld_74_4 rfl rfl rfl ?_
     first | refine sy_ldr 0 one_72 rfl rfl rfl rfl rfl ?_ | refine sy_ldr 1 one_72 rfl rfl rfl rfl rfl ?_ | refine sy_ldr 2 one_72 rfl rfl rfl rfl rfl ?_ | refine sy_ldr 3 one_72 rfl rfl rfl rfl rfl ?_ | refine sy_ldr 4 one_72 rfl rfl rfl rfl rfl ?_
     refine sy_move rfl rfl rfl ?_
     refine sy_move rfl rfl rfl ?_
     first
      | refine sy_mapUpd 0 Tryd.underlying72 Tryd.underlying9 Tryd.underlying3 rfl rfl rfl (by simp only [maxLen]; omega) (by omega) (by simp only [maxLen]; omega) rfl hm rfl (fun o42 hm42 => ?_)
      | refine sy_mapUpd 1 Tryd.underlying72 Tryd.underlying9 Tryd.underlying3 rfl rfl rfl (by simp only [maxLen]; omega) (by omega) (by simp only [maxLen]; omega) rfl hm rfl (fun o42 hm42 => ?_)
      | refine sy_mapUpd 2 Tryd.underlying72 Tryd.underlying9 Tryd.underlying3 rfl rfl rfl (by simp only [maxLen]; omega) (by omega) (by simp only [maxLen]; omega) rfl hm rfl (fun o42 hm42 => ?_)
      | refine sy_mapUpd 3 Tryd.underlying72 Tryd.underlying9 Tryd.underlying3 rfl rfl rfl (by simp only [maxLen]; omega) (by omega) (by simp only [maxLen]; omega) rfl hm rfl (fun o42 hm42 => ?_)
      | refine sy_mapUpd 4 Tryd.underlying72 Tryd.underlying9 Tryd.underlying3 rfl rfl rfl (by simp only [maxLen]; omega) (by omega) (by simp only [maxLen]; omega) rfl hm rfl (fun o42 hm42 => ?_)
     refine sy_nil rfl ?_
     refine ny_next ?_
     refine cy_seq ?_
     refine cy_region ?_
     refine sy_move rfl rfl rfl ?_
     refine sy_call rfl call_19 rfl (let_c _ _) rfl rfl ?_
     first | refine sy_stl 0 sz_30 rfl rfl rfl rfl rfl rfl rfl rfl ?_ | refine sy_stl 1 sz_30 rfl rfl rfl rfl rfl rfl rfl rfl ?_ | refine sy_stl 2 sz_30 rfl rfl rfl rfl rfl rfl rfl rfl ?_ | refine sy_stl 3 sz_30 rfl rfl rfl rfl rfl rfl rfl rfl ?_ | refine sy_stl 4 sz_30 rfl rfl rfl rfl rfl rfl rfl rfl ?_
     refine sy_nil rfl ?_
     refine ny_next ?_
     refine cy_ret ?_
     rw [hv]
     first
      | exact ny_finR (rescS 0 rfl agg_30 rfl rfl rfl) (fun w hs => ⟨(o, vn), h, _, rfl, ⟨rfl, rfl, hm⟩, (hs.sel (is := [1, 1, 1]) rfl)⟩)
      | exact ny_finR (rescS 0 rfl agg_30 rfl rfl rfl) (fun w hs => ⟨(o42, .slice A34 (st.names.length + 1) c34), h, _, rfl, ⟨rfl, rfl, (by rw [List.length_append, lastI_snoc]; exact hm42)⟩, (by rw [strC_snoc, List.length_append]; exact hs.sel (is := [0, 0, 0]) rfl)⟩)
      | exact ny_finR (rescS 0 rfl agg_30 rfl rfl rfl) (fun w hs => ⟨(o42, .slice A34 (st.names.length + 1) c34), h, _, rfl, ⟨rfl, rfl, (by rw [List.length_append, lastI_snoc]; exact hm42)⟩, (by rw [strC_snoc, List.length_append]; exact hs.sel (is := [1, 1, 1]) rfl)⟩)
      | exact ny_finR (rescS 0 rfl agg_30 rfl rfl rfl) (fun w hs => ⟨(o42, .slice A34 (st.names.length + 1) c34), h, _, rfl, ⟨rfl, rfl, (by rw [List.length_append, lastI_snoc]; exact hm42)⟩, (by rw [strC_snoc, List.length_append]; exact hs.sel (is := [1, 0, 0]) rfl)⟩)
      | exact ny_finR (rescS 0 rfl agg_30 rfl rfl rfl) (fun w hs => ⟨(o42, .slice A34 (st.names.length + 1) c34), h, _, rfl, ⟨rfl, rfl, (by rw [List.length_append, lastI_snoc]; exact hm42)⟩, (by rw [strC_snoc, List.length_append]; exact hs.sel (is := [2, 1, 1]) rfl)⟩)
      | exact ny_finR (rescS 0 rfl agg_30 rfl rfl rfl) (fun w hs => ⟨(o42, .slice A34 (st.names.length + 1) c34), h, _, rfl, ⟨rfl, rfl, (by rw [List.length_append, lastI_snoc]; exact hm42)⟩, (by rw [strC_snoc, List.length_append]; exact hs.sel (is := [1, 0, 1]) rfl)⟩)
      | exact ny_finR (rescS 0 rfl agg_30 rfl rfl rfl) (fun w hs => ⟨(o42, .slice A34 (st.names.length + 1) c34), h, _, rfl, ⟨rfl, rfl, (by rw [List.length_append, lastI_snoc]; exact hm42)⟩, (by rw [strC_snoc, List.length_append]; exact hs.sel (is := [2, 0, 0]) rfl)⟩)
      | exact ny_finR (rescS 0 rfl agg_30 rfl rfl rfl) (fun w hs => ⟨(o42, .slice A34 (st.names.length + 1) c34), h, _, rfl, ⟨rfl, rfl, (by rw [List.length_append, lastI_snoc]; exact hm42)⟩, (by rw [strC_snoc, List.length_append]; exact hs.sel (is := [2, 0, 1]) rfl)⟩)
      | exact ny_finR (rescS 0 rfl agg_30 rfl rfl rfl) (fun w hs => ⟨(o42, .slice A34 (st.names.length + 1) c34), h, _, rfl, ⟨rfl, rfl, (by rw [List.length_append, lastI_snoc]; exact hm42)⟩, (by rw [strC_snoc, List.length_append]; exact hs.sel (is := [2, 1, 0]) rfl)⟩)
      | exact ny_finR (rescS 1 rfl agg_30 rfl rfl rfl) (fun w hs => ⟨(o, vn), h, _, rfl, ⟨rfl, rfl, hm⟩, (hs.sel (is := [0, 1, 1]) rfl)⟩)
      | exact ny_finR (rescS 1 rfl agg_30 rfl rfl rfl) (fun w hs => ⟨(o42, .slice A34 (st.names.length + 1) c34), h, _, rfl, ⟨rfl, rfl, (by rw [List.length_append, lastI_snoc]; exact hm42)⟩, (by rw [strC_snoc, List.length_append]; exact hs.sel (is := [0, 0, 0]) rfl)⟩)
      | exact ny_finR (rescS 1 rfl agg_30 rfl rfl rfl) (fun w hs => ⟨(o42, .slice A34 (st.names.length + 1) c34), h, _, rfl, ⟨rfl, rfl, (by rw [List.length_append, lastI_snoc]; exact hm42)⟩, (by rw [strC_snoc, List.length_append]; exact hs.sel (is := [1, 1, 1]) rfl)⟩)
      | exact ny_finR (rescS 1 rfl agg_30 rfl rfl rfl) (fun w hs => ⟨(o42, .slice A34 (st.names.length + 1) c34), h, _, rfl, ⟨rfl, rfl, (by rw [List.length_append, lastI_snoc]; exact hm42)⟩, (by rw [strC_snoc, List.length_append]; exact hs.sel (is := [1, 0, 0]) rfl)⟩)
      | exact ny_finR (rescS 1 rfl agg_30 rfl rfl rfl) (fun w hs => ⟨(o42, .slice A34 (st.names.length + 1) c34), h, _, rfl, ⟨rfl, rfl, (by rw [List.length_append, lastI_snoc]; exact hm42)⟩, (by rw [strC_snoc, List.length_append]; exact hs.sel (is := [2, 1, 1]) rfl)⟩)
      | exact ny_finR (rescS 1 rfl agg_30 rfl rfl rfl) (fun w hs => ⟨(o42, .slice A34 (st.names.length + 1) c34), h, _, rfl, ⟨rfl, rfl, (by rw [List.length_append, lastI_snoc]; exact hm42)⟩, (by rw [strC_snoc, List.length_append]; exact hs.sel (is := [1, 0, 1]) rfl)⟩)
      | exact ny_finR (rescS 1 rfl agg_30 rfl rfl rfl) (fun w hs => ⟨(o42, .slice A34 (st.names.length + 1) c34), h, _, rfl, ⟨rfl, rfl, (by rw [List.length_append, lastI_snoc]; exact hm42)⟩, (by rw [strC_snoc, List.length_append]; exact hs.sel (is := [2, 0, 0]) rfl)⟩)
      | exact ny_finR (rescS 1 rfl agg_30 rfl rfl rfl) (fun w hs => ⟨(o42, .slice A34 (st.names.length + 1) c34), h, _, rfl, ⟨rfl, rfl, (by rw [List.length_append, lastI_snoc]; exact hm42)⟩, (by rw [strC_snoc, List.length_append]; exact hs.sel (is := [2, 0, 1]) rfl)⟩)
      | exact ny_finR (rescS 1 rfl agg_30 rfl rfl rfl) (fun w hs => ⟨(o42, .slice A34 (st.names.length + 1) c34), h, _, rfl, ⟨rfl, rfl, (by rw [List.length_append, lastI_snoc]; exact hm42)⟩, (by rw [strC_snoc, List.length_append]; exact hs.sel (is := [2, 1, 0]) rfl)⟩)
   · have hv := varR_old (s := s) (st := st) (by simpa using hg18) (fun h9 => by rw [h9] at hc21; exact absurd hc21 (by decide))
     refine cy_skip ?_
     refine ny_next ?_
     refine cy_seq ?_
     refine cy_region ?_
     refine sy_move rfl rfl rfl ?_
     refine sy_call rfl call_19 rfl (let_c _ _) rfl rfl ?_
     first | refine sy_stl 0 sz_30 rfl rfl rfl rfl rfl rfl rfl rfl ?_ | refine sy_stl 1 sz_30 rfl rfl rfl rfl rfl rfl rfl rfl ?_ | refine sy_stl 2 sz_30 rfl rfl rfl rfl rfl rfl rfl rfl ?_ | refine sy_stl 3 sz_30 rfl rfl rfl rfl rfl rfl rfl rfl ?_ | refine sy_stl 4 sz_30 rfl rfl rfl rfl rfl rfl rfl rfl ?_
     refine sy_nil rfl ?_
     refine ny_next ?_
     refine cy_ret ?_
     rw [hv]
     first
      | exact ny_finR (rescS 0 rfl agg_30 rfl rfl rfl) (fun w hs => ⟨(o, vn), h, _, rfl, ⟨rfl, rfl, hm⟩, (hs.sel (is := [1, 1, 1]) rfl)⟩)
      | exact ny_finR (rescS 0 rfl agg_30 rfl rfl rfl) (fun w hs => ⟨(o42, .slice A34 (st.names.length + 1) c34), h, _, rfl, ⟨rfl, rfl, (by rw [List.length_append, lastI_snoc]; exact hm42)⟩, (by rw [strC_snoc, List.length_append]; exact hs.sel (is := [0, 0, 0]) rfl)⟩)
      | exact ny_finR (rescS 0 rfl agg_30 rfl rfl rfl) (fun w hs => ⟨(o42, .slice A34 (st.names.length + 1) c34), h, _, rfl, ⟨rfl, rfl, (by rw [List.length_append, lastI_snoc]; exact hm42)⟩, (by rw [strC_snoc, List.length_append]; exact hs.sel (is := [1, 1, 1]) rfl)⟩)
      | exact ny_finR (rescS 0 rfl agg_30 rfl rfl rfl) (fun w hs => ⟨(o42, .slice A34 (st.names.length + 1) c34), h, _, rfl, ⟨rfl, rfl, (by rw [List.length_append, lastI_snoc]; exact hm42)⟩, (by rw [strC_snoc, List.length_append]; exact hs.sel (is := [1, 0, 0]) rfl)⟩)
      | exact ny_finR (rescS 0 rfl agg_30 rfl rfl rfl) (fun w hs => ⟨(o42, .slice A34 (st.names.length + 1) c34), h, _, rfl, ⟨rfl, rfl, (by rw [List.length_append, lastI_snoc]; exact hm42)⟩, (by rw [strC_snoc, List.length_append]; exact hs.sel (is := [2, 1, 1]) rfl)⟩)
      | exact ny_finR (rescS 0 rfl agg_30 rfl rfl rfl) (fun w hs => ⟨(o42, .slice A34 (st.names.length + 1) c34), h, _, rfl, ⟨rfl, rfl, (by rw [List.length_append, lastI_snoc]; exact hm42)⟩, (by rw [strC_snoc, List.length_append]; exact hs.sel (is := [1, 0, 1]) rfl)⟩)
      | exact ny_finR (rescS 0 rfl agg_30 rfl rfl rfl) (fun w hs => ⟨(o42, .slice A34 (st.names.length + 1) c34), h, _, rfl, ⟨rfl, rfl, (by rw [List.length_append, lastI_snoc]; exact hm42)⟩, (by rw [strC_snoc, List.length_append]; exact hs.sel (is := [2, 0, 0]) rfl)⟩)
      | exact ny_finR (rescS 0 rfl agg_30 rfl rfl rfl) (fun w hs => ⟨(o42, .slice A34 (st.names.length + 1) c34), h, _, rfl, ⟨rfl, rfl, (by rw [List.length_append, lastI_snoc]; exact hm42)⟩, (by rw [strC_snoc, List.length_append]; exact hs.sel (is := [2, 0, 1]) rfl)⟩)
      | exact ny_finR (rescS 0 rfl agg_30 rfl rfl rfl) (fun w hs => ⟨(o42, .slice A34 (st.names.length + 1) c34), h, _, rfl, ⟨rfl, rfl, (by rw [List.length_append, lastI_snoc]; exact hm42)⟩, (by rw [strC_snoc, List.length_append]; exact hs.sel (is := [2, 1, 0]) rfl)⟩)
      | exact ny_finR (rescS 1 rfl agg_30 rfl rfl rfl) (fun w hs => ⟨(o, vn), h, _, rfl, ⟨rfl, rfl, hm⟩, (hs.sel (is := [0, 1, 1]) rfl)⟩)
      | exact ny_finR (rescS 1 rfl agg_30 rfl rfl rfl) (fun w hs => ⟨(o42, .slice A34 (st.names.length + 1) c34), h, _, rfl, ⟨rfl, rfl, (by rw [List.length_append, lastI_snoc]; exact hm42)⟩, (by rw [strC_snoc, List.length_append]; exact hs.sel (is := [0, 0, 0]) rfl)⟩)
      | exact ny_finR (rescS 1 rfl agg_30 rfl rfl rfl) (fun w hs => ⟨(o42, .slice A34 (st.names.length + 1) c34), h, _, rfl, ⟨rfl, rfl, (by rw [List.length_append, lastI_snoc]; exact hm42)⟩, (by rw [strC_snoc, List.length_append]; exact hs.sel (is := [1, 1, 1]) rfl)⟩)
      | exact ny_finR (rescS 1 rfl agg_30 rfl rfl rfl) (fun w hs => ⟨(o42, .slice A34 (st.names.length + 1) c34), h, _, rfl, ⟨rfl, rfl, (by rw [List.length_append, lastI_snoc]; exact hm42)⟩, (by rw [strC_snoc, List.length_append]; exact hs.sel (is := [1, 0, 0]) rfl)⟩)
      | exact ny_finR (rescS 1 rfl agg_30 rfl rfl rfl) (fun w hs => ⟨(o42, .slice A34 (st.names.length + 1) c34), h, _, rfl, ⟨rfl, rfl, (by rw [List.length_append, lastI_snoc]; exact hm42)⟩, (by rw [strC_snoc, List.length_append]; exact hs.sel (is := [2, 1, 1]) rfl)⟩)
      | exact ny_finR (rescS 1 rfl agg_30 rfl rfl rfl) (fun w hs => ⟨(o42, .slice A34 (st.names.length + 1) c34), h, _, rfl, ⟨rfl, rfl, (by rw [List.length_append, lastI_snoc]; exact hm42)⟩, (by rw [strC_snoc, List.length_append]; exact hs.sel (is := [1, 0, 1]) rfl)⟩)
      | exact ny_finR (rescS 1 rfl agg_30 rfl rfl rfl) (fun w hs => ⟨(o42, .slice A34 (st.names.length + 1) c34), h, _, rfl, ⟨rfl, rfl, (by rw [List.length_append, lastI_snoc]; exact hm42)⟩, (by rw [strC_snoc, List.length_append]; exact hs.sel (is := [2, 0, 0]) rfl)⟩)
      | exact ny_finR (rescS 1 rfl agg_30 rfl rfl rfl) (fun w hs => ⟨(o42, .slice A34 (st.names.length + 1) c34), h, _, rfl, ⟨rfl, rfl, (by rw [List.length_append, lastI_snoc]; exact hm42)⟩, (by rw [strC_snoc, List.length_append]; exact hs.sel (is := [2, 0, 1]) rfl)⟩)
      | exact ny_finR (rescS 1 rfl agg_30 rfl rfl rfl) (fun w hs => ⟨(o42, .slice A34 (st.names.length + 1) c34), h, _, rfl, ⟨rfl, rfl, (by rw [List.length_append, lastI_snoc]; exact hm42)⟩, (by rw [strC_snoc, List.length_append]; exact hs.sel (is := [2, 1, 0]) rfl)⟩)
theorem mk_plain {lv : Int} {s : ByteArray} {l : List Tm} {st : RSt} (h : ¬ s = atS ∨ ¬ l.length = 2) : mkR lv s l st = .ok (funT s l) st := by
 unfold mkR
 split
 · rcases h with h | h
   · rw [if_neg h]
   · exact absurd rfl h
 · rfl
theorem mk_seal (lv : Int) (x n : Tm) (st : RSt) : mkR lv atS [x, n] st = if n.k = 2 ∧ 0 ≤ n.n ∧ n.n < lv ∧ varsT x = [] then .ok (.mk 4 n.n ⟨#[]⟩ [x]) st else .bad st.at_ 4 := by
 unfold mkR
 simp only [if_true]
theorem rows_one {h : Hp} {B : Option Addr} {k0 k1 : GT} (hr : RowsAt h B 4 ([k0, k1].map GT.cells)) : RowsAt h B 4 ([k0].map GT.cells) := fun j c hj => by
 cases j with
 | zero => exact hr 0 c hj
 | succ j => simp at hj
theorem fits_n {g : GT} (h : Fits g) : -9223372036854775808 ≤ g.n ∧ g.n ≤ 9223372036854775807 := by cases g; exact h.nums.2.1
set_option maxRecDepth 100000 in
theorem mk_c (s : ByteArray) (hs9 : s.size ≤ 4398046511104) (kids : List GT) (B : Option Addr) (dc : Nat) (r bm : Nat) (A : Option Addr) (c : Nat) (L : List RT) (lv : Int) (h : Hp) (hT : RowsAt h A 5 (L.map rtC)) (hL : L.length ≤ 1048576) (st : RSt) (inn : Int) (vn : Value) (hat : st.at_ ≤ L.length) (hB : B.isNone = false) (hr : RowsAt h B 4 (kids.map GT.cells)) (hk : ∀ t ∈ kids, (Lies h t ∧ Fits t) ∧ wtG t ≤ 1099511627776) (hdc : kids.length ≤ dc) (hkl : kids.length ≤ 1048576) : CRO Tryd.prog 71 [.pointer (some ⟨r, 0, none⟩), .string s, .slice B kids.length dc] h [.blk r (.cells [.slice A L.length c, .int .i64 ((st.at_ : Nat) : Int), .int .i64 lv, .int .i64 inn, .map (some bm), vn].toArray 74 (0, 0))] 76 (mkR lv s (kids.map GT.tm) st) (fun (_ : Tm) (g : GT) => .agg (GT.cells g).toArray) (fun x _ g h' H' => g.tm = x ∧ (Lies h' g ∧ Fits g) ∧ H' = [.blk r (.cells [.slice A L.length c, .int .i64 ((st.at_ : Nat) : Int), .int .i64 lv, .int .i64 inn, .map (some bm), vn].toArray 74 (0, 0))]) (fun _ H' => H' = [.blk r (.cells [.slice A L.length c, .int .i64 ((st.at_ : Nat) : Int), .int .i64 lv, .int .i64 inn, .map (some bm), vn].toArray 74 (0, 0))]) := by
 refine enterR Tryd.func71 rfl rfl rfl (fun w hb0 => ?_)
 refine cy_seq ?_
 refine cy_region ?_
 refine sy_alloc zer_30 rfl rfl (fun b6 hb6 hM6 => ?_) (by first | exact hb0 | simp)
 refine sy_nil rfl ?_
 refine ny_next ?_
 refine cy_seq ?_
 refine cy_seq ?_
 refine cy_region ?_
 refine sy_move rfl rfl rfl ?_
 refine sy_nes rfl rfl rfl rfl ?_
 refine sy_move rfl rfl rfl ?_
 refine sy_cond (d := 10) _ rfl rfl (fun hg10 => ?_) (fun hg10 => ?_)
 · refine sy_skip rfl rfl rfl ?_
   refine sy_skip rfl rfl rfl ?_
   refine sy_skip rfl rfl rfl ?_
   refine sy_pickT rfl rfl rfl rfl ?_
   refine sy_nil rfl ?_
   refine ny_next ?_
   refine cy_condT rfl ?_
   have hmk : mkR lv s (kids.map GT.tm) st = .ok (funT s (kids.map GT.tm)) st := mk_plain (by
    refine .inl (fun h9 => ?_)
    rw [h9] at hg10
    exact absurd hg10 (by decide))
   refine cy_seq ?_
   refine cy_region ?_
   refine sy_move rfl rfl rfl ?_
   refine sy_move rfl rfl rfl ?_
   refine sy_callx call_16 rfl (make_c s B dc kids _ hB hr hkl) rfl rfl (fun x17 h17 hx17 hle17 => ?_)
   obtain ⟨A17, c17⟩ := x17
   first | refine sy_stl 0 sz_30 rfl rfl rfl rfl rfl rfl rfl rfl ?_ | refine sy_stl 1 sz_30 rfl rfl rfl rfl rfl rfl rfl rfl ?_ | refine sy_stl 2 sz_30 rfl rfl rfl rfl rfl rfl rfl rfl ?_ | refine sy_stl 3 sz_30 rfl rfl rfl rfl rfl rfl rfl rfl ?_
   refine sy_nil rfl ?_
   refine ny_next ?_
   refine cy_ret ?_
   refine ny_thenR ?_
   refine ny_finR (rescS 0 rfl agg_30 rfl rfl rfl) (fun w hs => ⟨.ok _ st (GT.mk 3 0 s A17 c17 kids), h17, _, rfl, ⟨hmk, by rw [GT.tm_mk]; rfl, ⟨.intro _ _ _ _ _ _ hx17.2 hx17.1 (fun t h9 => (hk t h9).1.1.le hle17), fits_kids (by decide) (by decide) (by decide) (by decide) (by omega) hkl (fun t h9 => (hk t h9).1.2)⟩, rfl⟩, hs.sel (is := [1]) rfl⟩)
 · refine sy_move rfl rfl rfl ?_
   refine sy_len rfl (len_slice Tryd.underlying23 _ _ _) rfl rfl ?_
   refine sy_cmp rfl rfl rfl rfl rfl ?_
   refine sy_pickF rfl rfl rfl rfl ?_
   refine sy_nil rfl ?_
   refine ny_next ?_
   refine cy_cond rfl (fun hc14 => ?_) (fun hc14 => ?_)
   · have hmk : mkR lv s (kids.map GT.tm) st = .ok (funT s (kids.map GT.tm)) st := mk_plain (by
      rw [List.length_map]
      first | (refine .inl (fun h9 => ?_); rw [h9] at hg10; exact absurd hg10 (by decide)) | (refine .inr (fun h9 => ?_); rw [h9] at hc14; exact absurd hc14 (by decide)))
     refine cy_seq ?_
     refine cy_region ?_
     refine sy_move rfl rfl rfl ?_
     refine sy_move rfl rfl rfl ?_
     refine sy_callx call_16 rfl (make_c s B dc kids _ hB hr hkl) rfl rfl (fun x17 h17 hx17 hle17 => ?_)
     obtain ⟨A17, c17⟩ := x17
     first | refine sy_stl 0 sz_30 rfl rfl rfl rfl rfl rfl rfl rfl ?_ | refine sy_stl 1 sz_30 rfl rfl rfl rfl rfl rfl rfl rfl ?_ | refine sy_stl 2 sz_30 rfl rfl rfl rfl rfl rfl rfl rfl ?_ | refine sy_stl 3 sz_30 rfl rfl rfl rfl rfl rfl rfl rfl ?_
     refine sy_nil rfl ?_
     refine ny_next ?_
     refine cy_ret ?_
     refine ny_thenR ?_
     refine ny_finR (rescS 0 rfl agg_30 rfl rfl rfl) (fun w hs => ⟨.ok _ st (GT.mk 3 0 s A17 c17 kids), h17, _, rfl, ⟨hmk, by rw [GT.tm_mk]; rfl, ⟨.intro _ _ _ _ _ _ hx17.2 hx17.1 (fun t h9 => (hk t h9).1.1.le hle17), fits_kids (by decide) (by decide) (by decide) (by decide) (by omega) hkl (fun t h9 => (hk t h9).1.2)⟩, rfl⟩, hs.sel (is := [1]) rfl⟩)
   · have hsA : s = atS := by
      have h9 : (s.data.toList == [64]) = true := by simpa using hg10
      exact ba_inj (eq_of_beq h9)
     obtain ⟨k0, k1, rfl⟩ : ∃ k0 k1, kids = [k0, k1] := by
      have h9 : kids.length = 2 := by have h8 : ((kids.length : Int) == 2) = true := (by simpa using hc14); have := eq_of_beq h8; omega
      match kids, h9 with
      | [a, b], _ => exact ⟨a, b, rfl⟩
     subst hsA
     have hk0 := hk k0 (by simp)
     have hk1 := hk k1 (by simp)
     refine cy_skip ?_
     refine ny_next ?_
     refine cy_seq ?_
     refine cy_region ?_
     refine sy_move rfl rfl rfl ?_
     refine sy_idxR (i := 1) (fc := GT.cells) (es := [k0, k1]) els_23 rfl rfl hr rfl (by simp) rfl rfl (fun e19 b19 o19 he19 hA19 hc19 => ?_)
     obtain rfl : k1 = e19 := Option.some.inj he19
     refine sy_ldah (vs := GT.cells k1) agg_30 rfl rfl hc19 rfl rfl ?_
     refine sy_alloc zer_30 rfl rfl (fun b7 hb7 hM7 => ?_) (by first | exact hb0 | simp)
     first | refine sy_stl 0 sz_30 rfl rfl rfl rfl rfl rfl rfl rfl ?_ | refine sy_stl 1 sz_30 rfl rfl rfl rfl rfl rfl rfl rfl ?_ | refine sy_stl 2 sz_30 rfl rfl rfl rfl rfl rfl rfl rfl ?_ | refine sy_stl 3 sz_30 rfl rfl rfl rfl rfl rfl rfl rfl ?_
     refine sy_nil rfl ?_
     refine ny_next ?_
     refine cy_seq ?_
     refine cy_seq ?_
     refine cy_regionS 21 mixed (by kernel_rfl) rfl ?_
     refine sy_field fld_30_0 rfl rfl rfl ?_
     first | refine sy_ldr 0 one_3 rfl rfl rfl rfl rfl ?_ | refine sy_ldr 1 one_3 rfl rfl rfl rfl rfl ?_ | refine sy_ldr 2 one_3 rfl rfl rfl rfl rfl ?_ | refine sy_ldr 3 one_3 rfl rfl rfl rfl rfl ?_
     refine sy_cmp rfl rfl rfl rfl rfl ?_
     refine sy_move rfl rfl rfl ?_
     refine sy_cond (d := 24) _ rfl rfl (fun hg24 => ?_) (fun hg24 => ?_)
     · refine sy_skip rfl rfl rfl ?_
       refine sy_skip rfl rfl rfl ?_
       refine sy_skip rfl rfl rfl ?_
       refine sy_pickT rfl rfl rfl rfl ?_
       refine sy_move rfl rfl rfl ?_
       refine sy_skip rfl rfl rfl ?_
       refine sy_skip rfl rfl rfl ?_
       refine sy_skip rfl rfl rfl ?_
       refine sy_skip rfl rfl rfl ?_
       refine sy_skip rfl rfl rfl ?_
       refine sy_skip rfl rfl rfl ?_
       refine sy_skip rfl rfl rfl ?_
       refine sy_pickT rfl rfl rfl rfl ?_
       refine sy_move rfl rfl rfl ?_
       refine sy_skip rfl rfl rfl ?_
       refine sy_skip rfl rfl rfl ?_
       refine sy_skip rfl rfl rfl ?_
       refine sy_tail ?_
       refine sy_skip rfl rfl rfl ?_
       refine sy_skip rfl rfl rfl ?_
       refine sy_skip rfl rfl rfl ?_
       refine sy_pickT rfl rfl rfl rfl ?_
       refine sy_nil rfl ?_
       refine ny_next ?_
       refine cy_condT rfl ?_
       have hmk : mkR lv atS [k0.tm, k1.tm] st = .bad st.at_ 4 := by
        rw [mk_seal, if_neg]
        rintro ⟨q1, q2, q3, q4⟩
        rw [GT.tm_k] at q1
        rw [GT.tm_n] at q2 q3
        first | (simp [q1] at hg24; done) | (have := of_decide_eq_true hg29; omega) | (have := of_decide_eq_true hg38; omega) | (rw [q4] at hc45; simp at hc45; done)
       refine cy_region ?_
       refine sy_move rfl rfl rfl ?_
       refine sy_callR [2] call_39 rfl rfl (rbad_c r bm A c L lv _ (by first | exact hT | exact hT.le hle42) hL st _ _ hat 4) rfl rfl (fun x47 h47x H47x hx47 hle47x => ?_)
       obtain ⟨rfl, rfl⟩ := hx47
       refine ny_thenP ?_
       exact ny_finP (fun w hs => ⟨.bad st.at_ 4, _, _, rfl, ⟨hmk, rfl⟩, hs.sel (is := [0]) rfl⟩)
     · refine sy_field fld_30_1 rfl rfl rfl ?_
       first | refine sy_ldr 0 one_2 rfl rfl rfl rfl rfl ?_ | refine sy_ldr 1 one_2 rfl rfl rfl rfl rfl ?_ | refine sy_ldr 2 one_2 rfl rfl rfl rfl rfl ?_ | refine sy_ldr 3 one_2 rfl rfl rfl rfl rfl ?_
       refine sy_cmp rfl rfl rfl rfl rfl ?_
       refine sy_pickF rfl rfl rfl rfl ?_
       refine sy_move rfl rfl rfl ?_
       refine sy_cond (d := 29) _ rfl rfl (fun hg29 => ?_) (fun hg29 => ?_)
       · refine sy_skip rfl rfl rfl ?_
         refine sy_skip rfl rfl rfl ?_
         refine sy_skip rfl rfl rfl ?_
         refine sy_skip rfl rfl rfl ?_
         refine sy_skip rfl rfl rfl ?_
         refine sy_skip rfl rfl rfl ?_
         refine sy_skip rfl rfl rfl ?_
         refine sy_pickT rfl rfl rfl rfl ?_
         refine sy_move rfl rfl rfl ?_
         refine sy_skip rfl rfl rfl ?_
         refine sy_skip rfl rfl rfl ?_
         refine sy_skip rfl rfl rfl ?_
         refine sy_tail ?_
         refine sy_skip rfl rfl rfl ?_
         refine sy_skip rfl rfl rfl ?_
         refine sy_skip rfl rfl rfl ?_
         refine sy_pickT rfl rfl rfl rfl ?_
         refine sy_nil rfl ?_
         refine ny_next ?_
         refine cy_condT rfl ?_
         have hmk : mkR lv atS [k0.tm, k1.tm] st = .bad st.at_ 4 := by
          rw [mk_seal, if_neg]
          rintro ⟨q1, q2, q3, q4⟩
          rw [GT.tm_k] at q1
          rw [GT.tm_n] at q2 q3
          first | (simp [q1] at hg24; done) | (have := of_decide_eq_true hg29; omega) | (have := of_decide_eq_true hg38; omega) | (rw [q4] at hc45; simp at hc45; done)
         refine cy_region ?_
         refine sy_move rfl rfl rfl ?_
         refine sy_callR [2] call_39 rfl rfl (rbad_c r bm A c L lv _ (by first | exact hT | exact hT.le hle42) hL st _ _ hat 4) rfl rfl (fun x47 h47x H47x hx47 hle47x => ?_)
         obtain ⟨rfl, rfl⟩ := hx47
         refine ny_thenP ?_
         exact ny_finP (fun w hs => ⟨.bad st.at_ 4, _, _, rfl, ⟨hmk, rfl⟩, hs.sel (is := [0]) rfl⟩)
       · refine sy_field fld_30_1 rfl rfl rfl ?_
         first | refine sy_ldr 0 one_2 rfl rfl rfl rfl rfl ?_ | refine sy_ldr 1 one_2 rfl rfl rfl rfl rfl ?_ | refine sy_ldr 2 one_2 rfl rfl rfl rfl rfl ?_ | refine sy_ldr 3 one_2 rfl rfl rfl rfl rfl ?_
         refine sy_move rfl rfl rfl ?_
         refine sy_nilCheck rfl rfl rfl ?_
         refine sy_field fld_74_2 rfl rfl rfl ?_
         first | refine sy_ldr 0 one_3 rfl rfl rfl rfl rfl ?_ | refine sy_ldr 1 one_3 rfl rfl rfl rfl rfl ?_ | refine sy_ldr 2 one_3 rfl rfl rfl rfl rfl ?_ | refine sy_ldr 3 one_3 rfl rfl rfl rfl rfl ?_
         refine sy_cmp rfl rfl rfl rfl rfl ?_
         refine sy_pickF rfl rfl rfl rfl ?_
         refine sy_move rfl rfl rfl ?_
         refine sy_cond (d := 38) _ rfl rfl (fun hg38 => ?_) (fun hg38 => ?_)
         · refine sy_skip rfl rfl rfl ?_
           refine sy_skip rfl rfl rfl ?_
           refine sy_skip rfl rfl rfl ?_
           refine sy_tail ?_
           refine sy_skip rfl rfl rfl ?_
           refine sy_skip rfl rfl rfl ?_
           refine sy_skip rfl rfl rfl ?_
           refine sy_pickT rfl rfl rfl rfl ?_
           refine sy_nil rfl ?_
           refine ny_next ?_
           refine cy_condT rfl ?_
           have hmk : mkR lv atS [k0.tm, k1.tm] st = .bad st.at_ 4 := by
            rw [mk_seal, if_neg]
            rintro ⟨q1, q2, q3, q4⟩
            rw [GT.tm_k] at q1
            rw [GT.tm_n] at q2 q3
            first | (simp [q1] at hg24; done) | (have := of_decide_eq_true hg29; omega) | (have := of_decide_eq_true hg38; omega) | (rw [q4] at hc45; simp at hc45; done)
           refine cy_region ?_
           refine sy_move rfl rfl rfl ?_
           refine sy_callR [2] call_39 rfl rfl (rbad_c r bm A c L lv _ (by first | exact hT | exact hT.le hle42) hL st _ _ hat 4) rfl rfl (fun x47 h47x H47x hx47 hle47x => ?_)
           obtain ⟨rfl, rfl⟩ := hx47
           refine ny_thenP ?_
           exact ny_finP (fun w hs => ⟨.bad st.at_ 4, _, _, rfl, ⟨hmk, rfl⟩, hs.sel (is := [0]) rfl⟩)
         · refine sy_move rfl rfl rfl ?_
           refine sy_idxR (i := 0) (fc := GT.cells) (es := [k0, k1]) els_23 rfl rfl hr rfl (by simp) rfl rfl (fun e40 b40 o40 he40 hA40 hc40 => ?_)
           obtain rfl : k0 = e40 := Option.some.inj he40
           refine sy_ldah (vs := GT.cells k0) agg_30 rfl rfl hc40 rfl rfl ?_
           refine sy_tail ?_
           refine sy_callx call_11 rfl (vars_c k0 _ hk0.1.1 hk0.1.2 hk0.2) rfl rfl (fun x42 h42 hx42 hle42 => ?_)
           refine sy_len rfl (len_slice Tryd.underlying27 _ _ _) rfl rfl ?_
           refine sy_cmp rfl rfl rfl rfl rfl ?_
           refine sy_pickF rfl rfl rfl rfl ?_
           refine sy_nil rfl ?_
           refine ny_next ?_
           refine cy_cond rfl (fun hc45 => ?_) (fun hc45 => ?_)
           · have hmk : mkR lv atS [k0.tm, k1.tm] st = .bad st.at_ 4 := by
              rw [mk_seal, if_neg]
              rintro ⟨q1, q2, q3, q4⟩
              rw [GT.tm_k] at q1
              rw [GT.tm_n] at q2 q3
              first | (simp [q1] at hg24; done) | (have := of_decide_eq_true hg29; omega) | (have := of_decide_eq_true hg38; omega) | (rw [q4] at hc45; simp at hc45; done)
             refine cy_region ?_
             refine sy_move rfl rfl rfl ?_
             refine sy_callR [2] call_39 rfl rfl (rbad_c r bm A c L lv _ (by first | exact hT | exact hT.le hle42) hL st _ _ hat 4) rfl rfl (fun x47 h47x H47x hx47 hle47x => ?_)
             obtain ⟨rfl, rfl⟩ := hx47
             refine ny_thenP ?_
             exact ny_finP (fun w hs => ⟨.bad st.at_ 4, _, _, rfl, ⟨hmk, rfl⟩, hs.sel (is := [0]) rfl⟩)
           · have hmk : mkR lv atS [k0.tm, k1.tm] st = .ok (.mk 4 k1.n ⟨#[]⟩ [k0.tm]) st := by
              rw [mk_seal, if_pos, GT.tm_n]
              rw [GT.tm_k, GT.tm_n]
              refine ⟨by simpa using hg24, by have := of_decide_eq_false hg29; omega, by have := of_decide_eq_false hg38; omega, ?_⟩
              have h9 := of_decide_eq_false hc45
              exact List.eq_nil_of_length_eq_zero (by omega)
             refine cy_skip ?_
             refine ny_next ?_
             refine cy_seq ?_
             refine cy_regionS 5 mixed (by kernel_rfl) rfl ?_
             refine sy_field fld_30_1 rfl rfl rfl ?_
             first | refine sy_ldr 0 one_2 rfl rfl rfl rfl rfl ?_ | refine sy_ldr 1 one_2 rfl rfl rfl rfl rfl ?_ | refine sy_ldr 2 one_2 rfl rfl rfl rfl rfl ?_ | refine sy_ldr 3 one_2 rfl rfl rfl rfl rfl ?_
             refine sy_move rfl rfl rfl ?_
             refine sy_cutTo (k0 := 1) els_23 rfl rfl (by simp only [List.length_cons, List.length_nil] at hdc; omega) rfl rfl ?_
             refine sy_build rfl (fun w => bld_30_0x1x3 w) rfl rfl ?_
             refine sy_tail ?_
             first | refine sy_stl 0 sz_30 rfl rfl rfl rfl rfl rfl rfl rfl ?_ | refine sy_stl 1 sz_30 rfl rfl rfl rfl rfl rfl rfl rfl ?_ | refine sy_stl 2 sz_30 rfl rfl rfl rfl rfl rfl rfl rfl ?_ | refine sy_stl 3 sz_30 rfl rfl rfl rfl rfl rfl rfl rfl ?_
             refine sy_nil rfl ?_
             refine ny_next ?_
             refine cy_ret ?_
             refine ny_finR (rescS 0 rfl agg_30 rfl rfl rfl) (fun w hs => ⟨.ok _ st (GT.mk 4 k1.n ⟨#[]⟩ B dc [k0]), h42, _, rfl, ⟨hmk, by rw [GT.tm_mk]; rfl, ⟨.intro _ _ _ _ _ _ (by simp only [List.length_cons, List.length_nil] at hdc ⊢; omega) ((rows_one hr).le hle42) (fun t h9 => by rw [List.mem_singleton.1 h9]; exact hk0.1.1.le hle42), fits_kids (by decide) (by decide) (fits_n hk1.1.2).1 (fits_n hk1.1.2).2 (by decide) (by simp) (fun t h9 => by rw [List.mem_singleton.1 h9]; exact hk0.1.2)⟩, rfl⟩, hs.sel (is := [2]) rfl⟩)
end Go.Proofs.YtanhhihechakhaaDoor
set_option linter.unusedVariables false
set_option linter.unusedSimpArgs false
namespace Go.Proofs.YtanhhihechakhaaDoor.ReadP
open Go.RowKit Go.Proofs.YtanhhihechakhaaDoor.E Go.Proofs.YtanhhihechakhaaDoor.TokP Go.Proofs.YtanhhihechakhaaDoor.TermP Go.Proofs.YtanhhihechakhaaDoor.WrP Go.Proofs.YtanhhihechakhaaDoor.OpsP
mutual
def wtT : Tm → Nat | .mk _ _ s kids => s.size + 1 + wtTs kids
def wtTs : List Tm → Nat | [] => 0 | t :: l => wtT t + wtTs l
end
theorem wtT_mk (k n : Int) (s : ByteArray) (kids : List Tm) : wtT (.mk k n s kids) = s.size + 1 + wtTs kids := by rw [wtT]
theorem wtTs_nil : wtTs [] = 0 := by rw [wtTs]
theorem wtTs_cons (t : Tm) (l : List Tm) : wtTs (t :: l) = wtT t + wtTs l := by rw [wtTs]
theorem wtTs_snoc : ∀ (l : List Tm) (t : Tm), wtTs (l ++ [t]) = wtTs l + wtT t
 | [], t => by rw [List.nil_append, wtTs_cons, wtTs_nil]; omega
 | x :: l, t => by rw [List.cons_append, wtTs_cons, wtTs_cons, wtTs_snoc l t]; omega
theorem wtG_tm : ∀ g : GT, wtG g = wtT g.tm := fun g => by
 induction g using GT.ind with
 | h k n s A c kids ih =>
  have key : ∀ l : List GT, (∀ t ∈ l, wtG t = wtT t.tm) → wtGs l = wtTs (l.map GT.tm) := fun l => by
   induction l with
   | nil => intro _; rw [wtGs_nil, List.map_nil, wtTs_nil]
   | cons x l ihl =>
    intro h
    rw [wtGs_cons, List.map_cons, wtTs_cons, h x List.mem_cons_self, ihl (fun u hu => h u (List.mem_cons_of_mem _ hu))]
  rw [wtG_mk, GT.tm_mk, wtT_mk, key kids ih]
def preW : List RT → Nat → Nat
 | _, 0 => 0
 | [], _ + 1 => 0
 | t :: l, i + 1 => t.str.size + 8 + preW l i
theorem preW_succ : ∀ {L : List RT} {i : Nat}, i < L.length → preW L (i + 1) = preW L i + (tokA L i).str.size + 8
 | [], i, h => by simp at h
 | t :: l, 0, h => by
  simp only [preW]
  show _ = 0 + t.str.size + 8
  omega
 | t :: l, i + 1, h => by
  have ih := preW_succ (L := l) (i := i) (by simpa using h)
  have e : tokA (t :: l) (i + 1) = tokA l i := rfl
  rw [e]
  simp only [preW] at ih ⊢
  omega
def Wgt (L : List RT) (tm : Rd) : Prop := ∀ most st x s, st.at_ ≤ L.length → tm most st = .ok x s → wtT x.1 + preW L st.at_ ≤ preW L s.at_
theorem funT_wt (s : ByteArray) (l : List Tm) : wtT (funT s l) = s.size + 1 + wtTs l := wtT_mk _ _ _ _
theorem mkR_wt {lv : Int} {s : ByteArray} {l : List Tm} {st s2 : RSt} {x : Tm} (h : mkR lv s l st = .ok x s2) : wtT x ≤ s.size + 1 + wtTs l := by
 unfold mkR at h
 split at h
 · split at h
   · split at h
     · cases h
       rw [wtT_mk, wtTs_cons, wtTs_cons, wtTs_cons, wtTs_nil]
       show 0 + 1 + _ ≤ _
       omega
     · cases h
   · cases h; exact Nat.le_of_eq (funT_wt _ _)
 · cases h; exact Nat.le_of_eq (funT_wt _ _)
theorem more_wt {L : List RT} {tm : Rd} (hf : Fwd L tm) (hw : Wgt L tm) : ∀ (n : Nat) (acc : List Tm) (st : RSt) (l : List Tm) (s : RSt), st.at_ ≤ L.length → moreR L tm n acc st = .ok l s → wtTs l + 2 * l.length + preW L st.at_ ≤ preW L s.at_ + wtTs acc + 2 * acc.length
 | 0, acc, st, l, s, h0, h => by cases h; omega
 | n + 1, acc, st, l, s, h0, h => by
  unfold moreR at h
  split at h
  · rename_i hp
    have h1 := isP_lt hp
    split at h
    · rename_i x s2 h2
      have h3 := hf _ _ _ _ (show st.at_ + 1 ≤ L.length by omega) h2
      have h4 := hw _ _ _ _ (show st.at_ + 1 ≤ L.length by omega) h2
      have h5 := more_wt hf hw n _ s2 l s h3.2.1 h
      have h6 := preW_succ h1
      simp only [adv] at h4
      rw [wtTs_snoc, List.length_append, List.length_cons, List.length_nil] at h5
      omega
    · cases h
  · cases h; omega
theorem args_wt {L : List RT} {tm : Rd} (hf : Fwd L tm) (hw : Wgt L tm) {st : RSt} {l : List Tm} {s : RSt} (h0 : st.at_ ≤ L.length) (h : argsR L tm st = .ok l s) : wtTs l + 2 * l.length + preW L st.at_ ≤ preW L s.at_ + 2 := by
 unfold argsR at h
 split at h
 · rename_i x s2 h2
   have h3 := hf _ _ _ _ h0 h2
   have h4 := hw _ _ _ _ h0 h2
   have h5 := more_wt hf hw _ _ _ _ _ h3.2.1 h
   rw [wtTs_cons, wtTs_nil, List.length_cons, List.length_nil] at h5
   omega
 · cases h
theorem pairs_wt (l : List Tm) (last : Tm) : wtT (pairsR l last) = wtTs l + 2 * l.length + wtT last := by
 unfold pairsR
 induction l with
 | nil => rw [List.foldr_nil, wtTs_nil, List.length_nil]; omega
 | cons x l ih =>
  rw [List.foldr_cons, funT_wt, wtTs_cons, wtTs_cons, wtTs_nil, ih, wtTs_cons, List.length_cons]
  have : pairS.size = 1 := rfl
  omega
theorem nil_wt : wtT nilT = 3 := by
 unfold nilT
 rw [funT_wt, wtTs_nil]
 rfl
theorem list_wt {L : List RT} {tm : Rd} (hf : Fwd L tm) (hw : Wgt L tm) {st : RSt} {x : Tm} {s : RSt} (h0 : st.at_ ≤ L.length) (h : listR L tm st = .ok x s) : wtT x + preW L st.at_ ≤ preW L s.at_ + 3 := by
 unfold listR at h
 split at h
 · rename_i hp
   have h1 := preW_succ (isP_lt hp)
   cases h
   rw [nil_wt]
   simp only [adv]
   omega
 · split at h
   · cases h
   · rename_i l s2 h2
     have h3 := args_fwd hf h0 h2
     have h4 := args_wt hf hw h0 h2
     split at h
     · rename_i hp
       have h5 := isP_lt hp
       have h6 := preW_succ h5
       split at h
       · rename_i y s3 h7
         have h8 := hf _ _ _ _ (show s2.at_ + 1 ≤ L.length by omega) h7
         have h9 := hw _ _ _ _ (show s2.at_ + 1 ≤ L.length by omega) h7
         have h10 := want_fwd h
         have h11 := preW_succ h10.2.2
         simp only [adv] at h9
         rw [h10.1, h10.2.1, pairs_wt]
         simp only [adv]
         omega
       · cases h
     · have h10 := want_fwd h
       have h11 := preW_succ h10.2.2
       rw [h10.1, h10.2.1, pairs_wt, nil_wt]
       simp only [adv]
       omega
theorem name_wt {L : List RT} {lv : Int} {tm : Rd} (hf : Fwd L tm) (hw : Wgt L tm) {t : RT} {most : Int} {st : RSt} {x : Tm × Int} {s : RSt} (h0 : st.at_ ≤ L.length) (h : nameR L lv tm t most st = .ok x s) : wtT x.1 + preW L st.at_ ≤ preW L s.at_ + t.str.size + 1 := by
 unfold nameR at h
 split at h
 · rename_i hp
   have h1 := isP_lt hp.2
   have h1p := preW_succ h1
   split at h
   · cases h
   · rename_i l s2 h2
     have h3 := args_fwd hf (show st.at_ + 1 ≤ L.length by omega) h2
     have h4 := args_wt hf hw (show st.at_ + 1 ≤ L.length by omega) h2
     split at h
     · cases h
     · rename_i l2 s3 h5
       have h6 := want_fwd h5
       have h7 := preW_succ h6.2.2
       obtain ⟨y, h8, h9⟩ := map_ok h
       have h10 := mkR_st h8
       have h11 := mkR_wt h8
       rw [h6.1] at h11
       rw [h9, h10, h6.2.1]
       simp only [adv] at h4 ⊢
       omega
 · split at h
   · cases h
     rw [funT_wt, wtTs_nil]
     omega
   · split at h
     · rename_i hp
       have h1 := preW_succ (tok_lt (L := L) (i := st.at_) (by rw [hp.2.2]; decide))
       cases h
       simp only [adv, numT, wtT_mk, wtTs_nil]
       have : (⟨#[]⟩ : ByteArray).size = 0 := rfl
       omega
     · split at h
       · split at h
         · cases h
         · rename_i y s2 h2
           have h3 := hw _ _ _ _ h0 h2
           obtain ⟨z, h8, h9⟩ := map_ok h
           have h10 := mkR_st h8
           have h11 := mkR_wt h8
           rw [wtTs_cons, wtTs_nil] at h11
           rw [h9, h10]
           show wtT z + _ ≤ _
           omega
       · cases h
         rw [funT_wt, wtTs_nil]
         omega
theorem first_wt {L : List RT} {lv : Int} {tm : Rd} (hf : Fwd L tm) (hw : Wgt L tm) : Wgt L (firstR L lv tm) := fun most st x s h0 h => by
 have e0 : (⟨#[]⟩ : ByteArray).size = 0 := rfl
 unfold firstR at h
 split at h
 · cases h
 · split at h
   · rename_i hk
     have h1 := preW_succ (tok_lt (L := L) (i := st.at_) (by rw [hk]; decide))
     cases h
     simp only [adv, numT, wtT_mk, wtTs_nil]
     omega
   · split at h
     · rename_i hk
       have h1 := preW_succ (tok_lt (L := L) (i := st.at_) (by rw [hk]; decide))
       cases h
       have h2 : ∀ (s : ByteArray) (st : RSt), wtT (varR s st).1 = 1 := fun s st => by
        unfold varR
        split
        · split <;> simp only [letT, wtT_mk, wtTs_nil] <;> rfl
        · simp only [letT, wtT_mk, wtTs_nil]; rfl
       rw [h2, varR_at]
       simp only [adv]
       omega
     · split at h
       · rename_i hk
         have h2 := tok_lt (L := L) (i := st.at_) (by rw [hk]; decide)
         have h1 := preW_succ h2
         have h3 := name_wt hf hw (show (adv st).at_ ≤ L.length by simp only [adv]; omega) h
         simp only [adv] at h3
         omega
       · split at h
         · rename_i hp
           have h1 := isP_lt hp
           have h2 := preW_succ h1
           split at h
           · cases h
           · rename_i y s2 h3
             have h4 := hw _ _ _ _ (show st.at_ + 1 ≤ L.length by omega) h3
             have h5 := want_fwd h
             have h6 := preW_succ h5.2.2
             simp only [adv] at h4
             rw [h5.1, h5.2.1]
             simp only [adv]
             omega
         · split at h
           · rename_i hp
             have h1 := isP_lt hp
             have h2 := preW_succ h1
             obtain ⟨y, h3, h4⟩ := map_ok h
             have h5 := list_wt hf hw (show (adv st).at_ ≤ L.length by simp only [adv]; omega) h3
             simp only [adv] at h5
             rw [h4]
             show wtT y + _ ≤ _
             omega
           · cases h
theorem loop_wt {L : List RT} {lv : Int} {tm : Rd} (hf : Fwd L tm) (hw : Wgt L tm) (most : Int) : ∀ (n : Nat) (x : Tm) (pri : Int) (st : RSt) (y : Tm × Int) (s : RSt), st.at_ ≤ L.length → loopR L lv tm most n x pri st = .ok y s → wtT y.1 + preW L st.at_ ≤ preW L s.at_ + wtT x
 | 0, x, pri, st, y, s, h0, h => by
  cases h
  show wtT x + _ ≤ _
  omega
 | n + 1, x, pri, st, y, s, h0, h => by
  unfold loopR at h
  split at h
  · rename_i hp
    have h1 := goes_lt hp
    have h1p := preW_succ h1
    split at h
    · cases h
    · rename_i z s2 h2
      have h3 := hf _ _ _ _ (show st.at_ + 1 ≤ L.length by omega) h2
      have h4 := hw _ _ _ _ (show st.at_ + 1 ≤ L.length by omega) h2
      split at h
      · cases h
      · rename_i z2 s3 h5
        have h6 := mkR_st h5
        have h7 := mkR_wt h5
        subst h6
        have h8 := loop_wt hf hw most n _ _ _ y s h3.2.1 h
        rw [wtTs_cons, wtTs_cons, wtTs_nil] at h7
        simp only [adv] at h4
        omega
  · cases h
    show wtT x + _ ≤ _
    omega
theorem read_wt (L : List RT) (lv : Int) : ∀ k : Nat, Wgt L (readT L lv k) := fun k => by
 induction k using Nat.strongRecOn with
 | _ k ih =>
  match k, ih with
  | 0, _ => intro most st x s _ h; rw [readT] at h; cases h
  | 1, _ => intro most st x s _ h; rw [readT] at h; cases h
  | k + 2, ih =>
   intro most st x s h0 h
   simp only [readT] at h
   split at h
   · cases h
   · rename_i y s2 h2
     have h3 := first_fwd (read_fwd L lv k) most st y s2 h0 h2
     have h4 := first_wt (read_fwd L lv k) (ih k (by omega)) most st y s2 h0 h2
     have h5 := loop_wt (read_fwd L lv (k + 1)) (ih (k + 1) (by omega)) most _ _ _ s2 x s h3.2.1 h
     omega
end Go.Proofs.YtanhhihechakhaaDoor.ReadP
set_option linter.unusedVariables false
set_option linter.unusedSimpArgs false
namespace Go.Proofs.YtanhhihechakhaaDoor
open Go.RowKit Go.Proofs.YtanhhihechakhaaDoor.E Go.Proofs.YtanhhihechakhaaDoor.ReplP Go.Proofs.YtanhhihechakhaaDoor.TokP Go.Proofs.YtanhhihechakhaaDoor.TermP Go.Proofs.YtanhhihechakhaaDoor.WrP Go.Proofs.YtanhhihechakhaaDoor.ReadP Go.Proofs.YtanhhihechakhaaDoor.OpsP
def RdC {α : Type} (r bm : Nat) (A : Option Addr) (c : Nat) (L : List RT) (lv : Int) (F : Nat) (vs : List Value) (h : Hp) (st : RSt) (inn : Int) (o : Obj) (vn : Value) (ro : RO α) (tmOf : α → Tm) (rv : α → GT → Value) : Prop :=
 CRO Tryd.prog F (.pointer (some ⟨r, 0, none⟩) :: vs) h [.blk r (.cells [.slice A L.length c, .int .i64 ((st.at_ : Nat) : Int), .int .i64 lv, .int .i64 inn, .map (some bm), vn].toArray 74 (0, 0)), .blk bm o, .row vn 9 1 st.names.length ((st.names.map strC).flatten)] 76 ro (fun x (d : GT × Obj × Value) => rv x d.1) (fun x s d h' H' => d.1.tm = tmOf x ∧ (Lies h' d.1 ∧ Fits d.1) ∧ MapV Tryd.prog 9 3 d.2.1 s.names.length (lastI s.names) ∧ H' = [.blk r (.cells [.slice A L.length c, .int .i64 ((s.at_ : Nat) : Int), .int .i64 lv, .int .i64 inn, .map (some bm), d.2.2].toArray 74 (0, 0)), .blk bm d.2.1, .row d.2.2 9 1 s.names.length ((s.names.map strC).flatten)]) (fun _ H' => ∃ (a : Nat) (i : Int) (o : Obj) (v : Value) (names : List ByteArray), H' = [.blk r (.cells [.slice A L.length c, .int .i64 ((a : Nat) : Int), .int .i64 lv, .int .i64 i, .map (some bm), v].toArray 74 (0, 0)), .blk bm o, .row v 9 1 names.length ((names.map strC).flatten)])
def TmC (r bm : Nat) (A : Option Addr) (c : Nat) (L : List RT) (lv inn : Int) (tm : Rd) : Prop :=
 ∀ (h : Hp) (st : RSt) (o : Obj) (vn : Value) (most : Int), RowsAt h A 5 (L.map rtC) → st.at_ ≤ L.length → st.names.length ≤ st.at_ → MapV Tryd.prog 9 3 o st.names.length (lastI st.names) → RdC r bm A c L lv 37 [.int .i64 most] h st inn o vn (tm most st) (·.1) (fun _ g => .agg (GT.cells g).toArray)
def RdS (r bm : Nat) (A : Option Addr) (c : Nat) (L : List RT) (lv : Int) (F : Nat) (h : Hp) (st : RSt) (inn : Int) (o : Obj) (vn : Value) (ro : RO (List Tm)) : Prop :=
 CRO Tryd.prog F [.pointer (some ⟨r, 0, none⟩)] h [.blk r (.cells [.slice A L.length c, .int .i64 ((st.at_ : Nat) : Int), .int .i64 lv, .int .i64 inn, .map (some bm), vn].toArray 74 (0, 0)), .blk bm o, .row vn 9 1 st.names.length ((st.names.map strC).flatten)] 76 ro (fun _ (d : (List GT × Option Addr × Nat) × Obj × Value) => .slice d.1.2.1 d.1.1.length d.1.2.2)
  (fun x s d h' H' => d.1.1.map GT.tm = x ∧ (RowsAt h' d.1.2.1 4 (d.1.1.map GT.cells) ∧ d.1.1.length ≤ d.1.2.2 ∧ d.1.2.1.isNone = false ∧ (∀ t ∈ d.1.1, Lies h' t ∧ Fits t) ∧ d.1.1.length ≤ s.at_) ∧ MapV Tryd.prog 9 3 d.2.1 s.names.length (lastI s.names) ∧ H' = [.blk r (.cells [.slice A L.length c, .int .i64 ((s.at_ : Nat) : Int), .int .i64 lv, .int .i64 inn, .map (some bm), d.2.2].toArray 74 (0, 0)), .blk bm d.2.1, .row d.2.2 9 1 s.names.length ((s.names.map strC).flatten)]) (fun _ H' => ∃ (a : Nat) (i : Int) (o : Obj) (v : Value) (names : List ByteArray), H' = [.blk r (.cells [.slice A L.length c, .int .i64 ((a : Nat) : Int), .int .i64 lv, .int .i64 i, .map (some bm), v].toArray 74 (0, 0)), .blk bm o, .row v 9 1 names.length ((names.map strC).flatten)])
structure AZ where
 acc : List GT
 st : RSt
 o : Obj
 vn : Value
 v : Value
 hh : Hp
 n : Nat
theorem duo {h : Hp} {a b : GT} (ha : Lies h a ∧ Fits a) (hb : Lies h b ∧ Fits b) : ∀ t ∈ [a, b], Lies h t ∧ Fits t := fun t h9 => by
 simp only [List.mem_cons, List.not_mem_nil, or_false] at h9
 rcases h9 with rfl | rfl
 · exact ha
 · exact hb
set_option maxRecDepth 100000 in
theorem term1_c (r bm : Nat) (A : Option Addr) (c : Nat) (L : List RT) (lv : Int) (h : Hp) (st : RSt) (inn : Int) (o : Obj) (vn : Value) (most : Int) (ro : RO (Tm × Int)) (ht : RdC r bm A c L lv 61 [.int .i64 most] h st inn o vn ro (·.1) (fun x g => .tuple #[.agg (GT.cells g).toArray, .int .i64 x.2])) : RdC r bm A c L lv 37 [.int .i64 most] h st inn o vn ro (·.1) (fun _ g => .agg (GT.cells g).toArray) := by
 refine enterR Tryd.func37 rfl rfl rfl (fun w hb0 => ?_)
 refine cy_seq ?_
 refine cy_region ?_
 refine sy_alloc zer_30 rfl rfl (fun b4 hb4 hM4 => ?_) (by first | exact hb0 | simp)
 refine sy_nil rfl ?_
 refine ny_next ?_
 refine cy_seq ?_
 refine cy_region ?_
 refine sy_move rfl rfl rfl ?_
 refine sy_move rfl rfl rfl ?_
 refine sy_callRO [1, 1, 1] call_61 rfl rfl (ht) rfl rfl (fun a10 e10 h10x H10x hb10 hx10 hle10x => ?_) (fun x10 s10 g10 h10x H10x hk10 hx10 hle10x => ?_)
 · obtain ⟨a9, i9, o9, v9, n9, rfl⟩ := hx10
   refine ny_thenP ?_
   exact ny_finP (fun w hs => ⟨.bad a10 e10, h10x, _, rfl, ⟨hb10, a9, i9, o9, v9, n9, rfl⟩, hs.sel (is := [0, 0, 0]) rfl⟩)
 · obtain ⟨hg10, hl10, hm10, rfl⟩ := hx10
   refine sy_move rfl rfl rfl ?_
   refine sy_extract rfl rfl rfl rfl ?_
   refine sy_extract rfl rfl rfl rfl ?_
   refine sy_alloc zer_30 rfl rfl (fun b5 hb5 hM5 => ?_) (by first | exact hb0 | simp)
   first | refine sy_stl 0 sz_30 rfl rfl rfl rfl rfl rfl rfl rfl ?_ | refine sy_stl 1 sz_30 rfl rfl rfl rfl rfl rfl rfl rfl ?_ | refine sy_stl 2 sz_30 rfl rfl rfl rfl rfl rfl rfl rfl ?_ | refine sy_stl 3 sz_30 rfl rfl rfl rfl rfl rfl rfl rfl ?_ | refine sy_stl 4 sz_30 rfl rfl rfl rfl rfl rfl rfl rfl ?_ | refine sy_stl 5 sz_30 rfl rfl rfl rfl rfl rfl rfl rfl ?_
   refine sy_assign rfl rfl rfl ?_
   refine sy_nil rfl ?_
   refine ny_next ?_
   refine cy_seq ?_
   refine cy_region ?_
   first | refine sy_ldar 0 agg_30 rfl rfl rfl rfl rfl ?_ | refine sy_ldar 1 agg_30 rfl rfl rfl rfl rfl ?_ | refine sy_ldar 2 agg_30 rfl rfl rfl rfl rfl ?_ | refine sy_ldar 3 agg_30 rfl rfl rfl rfl rfl ?_ | refine sy_ldar 4 agg_30 rfl rfl rfl rfl rfl ?_ | refine sy_ldar 5 agg_30 rfl rfl rfl rfl rfl ?_
   first | refine sy_stl 0 sz_30 rfl rfl rfl rfl rfl rfl rfl rfl ?_ | refine sy_stl 1 sz_30 rfl rfl rfl rfl rfl rfl rfl rfl ?_ | refine sy_stl 2 sz_30 rfl rfl rfl rfl rfl rfl rfl rfl ?_ | refine sy_stl 3 sz_30 rfl rfl rfl rfl rfl rfl rfl rfl ?_ | refine sy_stl 4 sz_30 rfl rfl rfl rfl rfl rfl rfl rfl ?_ | refine sy_stl 5 sz_30 rfl rfl rfl rfl rfl rfl rfl rfl ?_
   refine sy_nil rfl ?_
   refine ny_next ?_
   refine cy_ret ?_
   first
    | exact ny_finR (rescS 0 rfl agg_30 rfl rfl rfl) (fun w hs => ⟨.ok x10 s10 g10, h10x, _, rfl, ⟨hk10, hg10, hl10, hm10, rfl⟩, hs.sel (is := [2, 2, 2]) rfl⟩)
set_option maxRecDepth 100000 in
theorem args_c (r bm : Nat) (A : Option Addr) (c : Nat) (L : List RT) (lv : Int) (h : Hp) (st : RSt) (inn : Int) (o : Obj) (vn : Value) (tm : Rd) (hf : Fwd L tm) (htm : TmC r bm A c L lv inn tm) (hT : RowsAt h A 5 (L.map rtC)) (hL : L.length ≤ 1048576) (hat : st.at_ ≤ L.length) (hnm : st.names.length ≤ st.at_) (hm : MapV Tryd.prog 9 3 o st.names.length (lastI st.names)) : RdS r bm A c L lv 81 h st inn o vn (argsR L tm st) := by
 refine enterR Tryd.func81 rfl rfl rfl (fun w hb0 => ?_)
 refine cy_seq ?_
 refine cy_region ?_
 refine sy_assign rfl rfl rfl ?_
 refine sy_nil rfl ?_
 refine ny_next ?_
 refine cy_seq ?_
 refine cy_region ?_
 refine sy_move rfl rfl rfl ?_
 refine sy_callRO [0, 0, 0] call_37 rfl rfl (htm h st o vn 999 hT hat hnm hm) rfl rfl (fun a5 e5 h5x H5x hb5 hx5 hle5x => ?_) (fun x5 s5 g5 h5x H5x hk5 hx5 hle5x => ?_)
 · obtain ⟨a9, i9, o9, v9, n9, rfl⟩ := hx5
   refine ny_thenP ?_
   exact ny_finP (fun w9 hs => ⟨.bad a5 e5, h5x, _, rfl, ⟨(by unfold argsR; rw [hb5]), a9, i9, o9, v9, n9, rfl⟩, hs.sel (is := [0, 0, 0]) rfl⟩)
 · obtain ⟨hg5, hl5, hm5, rfl⟩ := hx5
   have hfw := hf 999 st x5 s5 hat hk5
   refine sy_buildSlice (cs := [g5.1].flatMap GT.cells) rfl (fun w => bsl_23_1_0 w) rfl rfl (fun b6 hb6 hM6 => ?_) (by first | exact hb0 | simp)
   refine sy_asRow (l := 1) (sz := 4) (cs := [g5.1].flatMap GT.cells) 0 rfl rfl (by decide) ?_
   refine sy_assign rfl rfl rfl ?_
   refine sy_nil rfl ?_
   refine ny_next ?_
   refine cy_seq ?_
   refine cy_block ?_
   refine cy_loopK (ι := AZ) [0] rfl (fun z => z.acc ≠ [] ∧ moreR L tm z.n (z.acc.map GT.tm) z.st = argsR L tm st ∧ L.length + 1 ≤ z.n + z.st.at_ ∧ z.st.at_ ≤ L.length ∧ z.st.names.length ≤ z.st.at_ ∧ MapV Tryd.prog 9 3 z.o z.st.names.length (lastI z.st.names) ∧ h5x.Le z.hh ∧ (∀ t ∈ z.acc, Lies z.hh t ∧ Fits t) ∧ (∀ g, z.v.ownBlock = some g → w.heap.size ≤ g) ∧ z.acc.length ≤ z.st.at_) (fun z => L.length - z.st.at_) (fun z => [(3, z.v)]) (fun z => z.hh) (fun z => [.row z.v 30 4 z.acc.length ((z.acc.map GT.cells).flatten), .blk r (.cells [.slice A L.length c, .int .i64 ((z.st.at_ : Nat) : Int), .int .i64 lv, .int .i64 inn, .map (some bm), z.vn].toArray 74 (0, 0)), .blk bm z.o, .row z.vn 9 1 z.st.names.length ((z.st.names.map strC).flatten)]) ⟨[g5.1], s5, g5.2.1, g5.2.2, .slice (some ⟨b6, 0, none⟩) 1 1, h5x, L.length + 1⟩ [0, 0, 0, 0] ⟨(by simp), (by unfold argsR; rw [hk5]; show moreR L tm (L.length + 1) [g5.1.tm] s5 = _; rw [hg5]), (by show L.length + 1 ≤ L.length + 1 + s5.at_; omega), hfw.2.1, (by show s5.names.length ≤ s5.at_; omega), hm5, Hp.Le.refl _, (fun t h9 => by rw [List.mem_singleton.1 h9]; exact hl5), (fun g h9 => by cases h9; exact hb6), (by show 1 ≤ s5.at_; omega)⟩ ⟨rfl, trivial⟩ rfl rfl ?_
   rintro ⟨acc, st2, o2, vn2, v2, hz, m⟩ ⟨hne, hro, hmn, hat2, hnm2, hm2, hlez, hgt, hown, hac⟩
   simp only at hne hro hmn hat2 hnm2 hm2 hlez hgt hown hac ⊢
   have hTz : RowsAt hz A 5 (L.map rtC) := (hT.le hle5x).le hlez
   refine cy_seq ?_
   refine cy_seq ?_
   refine cy_region ?_
   refine sy_move rfl rfl rfl ?_
   refine sy_callR1 [1] call_69 rfl rfl (is_c ⟨#[44]⟩ r bm A c L lv _ hTz hL st2 inn vn2 hat2) rfl rfl (fun x8 h8x H8x hx8 hle8x => ?_)
   obtain ⟨rfl, rfl⟩ := hx8
   refine sy_nil rfl ?_
   refine ny_next ?_
   refine cy_cond rfl (fun hc8 => ?_) (fun hc8 => ?_)
   · have hlt := isP_lt hc8
     have hm1 : 1 ≤ m := by omega
     refine cy_skip ?_
     refine ny_next ?_
     refine cy_block ?_
     refine cy_seq ?_
     refine cy_region ?_
     refine sy_move rfl rfl rfl ?_
     refine sy_nilCheck rfl rfl rfl ?_
     refine sy_field fld_74_1 rfl rfl rfl ?_
     first | refine sy_ldr 0 one_3 rfl rfl rfl rfl rfl ?_ | refine sy_ldr 1 one_3 rfl rfl rfl rfl rfl ?_ | refine sy_ldr 2 one_3 rfl rfl rfl rfl rfl ?_ | refine sy_ldr 3 one_3 rfl rfl rfl rfl rfl ?_ | refine sy_ldr 4 one_3 rfl rfl rfl rfl rfl ?_ | refine sy_ldr 5 one_3 rfl rfl rfl rfl rfl ?_
     refine sy_addi (z := ((st2.at_ + 1 : Nat) : Int)) rfl rfl (by omega) (by omega) (by omega) rfl rfl ?_
     refine sy_nilCheck rfl rfl rfl ?_
     refine sy_field fld_74_1 rfl rfl rfl ?_
     first | refine sy_stl 0 sz_3 rfl rfl rfl rfl rfl rfl rfl rfl ?_ | refine sy_stl 1 sz_3 rfl rfl rfl rfl rfl rfl rfl rfl ?_ | refine sy_stl 2 sz_3 rfl rfl rfl rfl rfl rfl rfl rfl ?_ | refine sy_stl 3 sz_3 rfl rfl rfl rfl rfl rfl rfl rfl ?_ | refine sy_stl 4 sz_3 rfl rfl rfl rfl rfl rfl rfl rfl ?_ | refine sy_stl 5 sz_3 rfl rfl rfl rfl rfl rfl rfl rfl ?_
     refine sy_nil rfl ?_
     refine ny_next ?_
     refine cy_region ?_
     refine sy_move rfl rfl rfl ?_
     refine sy_move rfl rfl rfl ?_
     refine sy_callRO [0, 1, 1] call_37 rfl rfl (htm hz (adv st2) o2 vn2 999 hTz (by show st2.at_ + 1 ≤ _; omega) (by show st2.names.length ≤ st2.at_ + 1; omega) hm2) rfl rfl (fun a18 e18 h18x H18x hb18 hx18 hle18x => ?_) (fun x18 s18 g18 h18x H18x hk18 hx18 hle18x => ?_)
     · obtain ⟨a9, i9, o9, v9, n9, rfl⟩ := hx18
       refine ny_blockP ?_
       refine ny_thenP ?_
       refine ny_blockP ?_
       refine ny_thenP ?_
       exact ny_finP (fun w9 hs => ⟨.bad a18 e18, h18x, _, rfl, ⟨(by rw [← hro]; exact more_bad hc8 hb18 hm1), a9, i9, o9, v9, n9, rfl⟩, hs.sel (is := [0, 0, 0]) rfl⟩)
     · obtain ⟨hg18, hl18, hm18, rfl⟩ := hx18
       have hfw18 := hf 999 (adv st2) x18 s18 (by show st2.at_ + 1 ≤ _; omega) hk18
       simp only [adv] at hfw18
       refine sy_buildSlice (cs := [g18.1].flatMap GT.cells) rfl (fun w => bsl_23_1_0 w) rfl rfl (fun b19 hb19 hM19 => ?_) (by first | exact hb0 | simp)
       refine sy_appendN 4 0 row_23 (by decide) rfl rfl rfl rfl rfl rfl (by omega) (by simp only [maxLen]; omega) rfl rfl (fun v20 hv20 => ?_)
       refine sy_assign rfl rfl rfl ?_
       refine sy_nil rfl ?_
       refine ny_blockN ?_
       refine ny_roundK [0] ⟨acc ++ [g18.1], s18, g18.2.1, g18.2.2, v20, h18x, m - 1⟩ [0, 1, 1, 1] ⟨(by simp), (by rw [← hro, more_step hc8 hk18 hm1, List.map_append, List.map_cons, List.map_nil, hg18]), (by show L.length + 1 ≤ m - 1 + s18.at_; omega), hfw18.2.1, (by show s18.names.length ≤ s18.at_; omega), hm18, hlez.trans hle18x, (fun t h9 => (List.mem_append.1 h9).elim (fun h8 => ⟨(hgt t h8).1.le hle18x, (hgt t h8).2⟩) (fun h8 => by rw [List.mem_singleton.1 h8]; exact hl18)), (fun g h9 => (hv20 g h9).elim (hown g) id), (by show (acc ++ [g18.1]).length ≤ s18.at_; rw [List.length_append, List.length_cons, List.length_nil]; omega)⟩ (by show L.length - s18.at_ < L.length - st2.at_; omega) rfl ⟨rfl, trivial⟩ rfl (by show some [_, _, _, _] = some [_, _, _, _]; rw [List.length_append, GT.cells_snoc]; rfl)
   · refine cy_exit ?_
     refine ny_thenE ?_
     refine ny_thenE ?_
     refine ny_blockX ?_
     refine ny_next ?_
     refine cy_seq ?_
     refine cy_frzRow 1 rfl (fun g hg hm9 => by have h8 := hown g hg; have h7 := hb0 g hm9; omega) (fun AF cF hF hvF hlcF hcmF _ hleF hcellF => ?_)
     subst hvF
     refine cy_region ?_
     refine sy_move rfl rfl rfl ?_
     refine sy_assign rfl rfl rfl ?_
     refine sy_nil rfl ?_
     refine ny_next ?_
     refine cy_ret ?_
     refine ny_finR (res1 rfl rfl) (fun w9 hs => ⟨.ok (acc.map GT.tm) st2 ((acc, AF, cF), o2, vn2), hF, _, rfl, ⟨(by rw [← hro]; exact more_end hc8), rfl, ⟨rows_row (by decide) (GT.cells_len _) hcellF, hlcF, ?_, fun t h9 => ⟨(hgt t h9).1.le hleF, (hgt t h9).2⟩, hac⟩, hm2, rfl⟩, hs.sel (is := [0, 0, 0]) rfl⟩)
     cases acc with
     | nil => exact absurd rfl hne
     | cons g9 acc =>
      obtain ⟨g8, hg8, _⟩ := hcellF 0 _ rfl
      rw [hg8]
      rfl
theorem nil_tm : (GT.mk 3 0 ⟨#[91, 93]⟩ none 0 []).tm = nilT := by rw [tm_leaf]; rfl
theorem pairs_step {l : List GT} {i : Nat} {e : GT} {x : Tm} (h : l[i]? = some e) : pairsR ((l.drop i).map GT.tm) x = funT pairS [e.tm, pairsR ((l.drop (i + 1)).map GT.tm) x] := by
 have h1 : l.drop i = e :: l.drop (i + 1) := by
  have h2 := (List.getElem?_eq_some_iff.1 h)
  obtain ⟨h3, h4⟩ := h2
  rw [← h4]
  exact List.drop_eq_getElem_cons h3
 rw [h1, List.map_cons]
 rfl
set_option maxRecDepth 100000 in
theorem list_c (r bm : Nat) (A : Option Addr) (c : Nat) (L : List RT) (lv : Int) (h : Hp) (st : RSt) (inn : Int) (o : Obj) (vn : Value) (tm : Rd) (hf : Fwd L tm) (htm : TmC r bm A c L lv inn tm) (hT : RowsAt h A 5 (L.map rtC)) (hL : L.length ≤ 1048576) (hat : st.at_ ≤ L.length) (hnm : st.names.length ≤ st.at_) (hm : MapV Tryd.prog 9 3 o st.names.length (lastI st.names)) : RdC r bm A c L lv 78 [] h st inn o vn (listR L tm st) id (fun _ g => .agg (GT.cells g).toArray) := by
 refine enterR Tryd.func78 rfl rfl rfl (fun w hb0 => ?_)
 refine cy_seq ?_
 refine cy_region ?_
 refine sy_alloc zer_30 rfl rfl (fun b2 hb2 hM2 => ?_) (by first | exact hb0 | simp)
 refine sy_nil rfl ?_
 refine ny_next ?_
 refine cy_seq ?_
 refine cy_seq ?_
 refine cy_region ?_
 refine sy_move rfl rfl rfl ?_
 refine sy_callR1 [1] call_69 rfl rfl (is_c ⟨#[93]⟩ r bm A c L lv _ hT hL st inn vn hat) rfl rfl (fun x7 h7x H7x hx7 hle7x => ?_)
 obtain ⟨rfl, rfl⟩ := hx7
 refine sy_nil rfl ?_
 refine ny_next ?_
 refine cy_cond rfl (fun hc7 => ?_) (fun hc7 => ?_)
 · have hp7 : isP L st.at_ [93] = true := hc7
   have hlt7 := isP_lt hp7
   refine cy_seq ?_
   refine cy_region ?_
   refine sy_move rfl rfl rfl ?_
   refine sy_nilCheck rfl rfl rfl ?_
   refine sy_field fld_74_1 rfl rfl rfl ?_
   first | refine sy_ldr 0 one_3 rfl rfl rfl rfl rfl ?_ | refine sy_ldr 1 one_3 rfl rfl rfl rfl rfl ?_ | refine sy_ldr 2 one_3 rfl rfl rfl rfl rfl ?_ | refine sy_ldr 3 one_3 rfl rfl rfl rfl rfl ?_ | refine sy_ldr 4 one_3 rfl rfl rfl rfl rfl ?_ | refine sy_ldr 5 one_3 rfl rfl rfl rfl rfl ?_
   refine sy_addi (z := ((st.at_ + 1 : Nat) : Int)) rfl rfl (by omega) (by omega) (by omega) rfl rfl ?_
   refine sy_nilCheck rfl rfl rfl ?_
   refine sy_field fld_74_1 rfl rfl rfl ?_
   first | refine sy_stl 0 sz_3 rfl rfl rfl rfl rfl rfl rfl rfl ?_ | refine sy_stl 1 sz_3 rfl rfl rfl rfl rfl rfl rfl rfl ?_ | refine sy_stl 2 sz_3 rfl rfl rfl rfl rfl rfl rfl rfl ?_ | refine sy_stl 3 sz_3 rfl rfl rfl rfl rfl rfl rfl rfl ?_ | refine sy_stl 4 sz_3 rfl rfl rfl rfl rfl rfl rfl rfl ?_ | refine sy_stl 5 sz_3 rfl rfl rfl rfl rfl rfl rfl rfl ?_
   refine sy_nil rfl ?_
   refine ny_next ?_
   refine cy_seq ?_
   refine cy_region ?_
   refine sy_call rfl call_18 rfl (atom_c ⟨#[91, 93]⟩ _) rfl rfl ?_
   first | refine sy_stl 0 sz_30 rfl rfl rfl rfl rfl rfl rfl rfl ?_ | refine sy_stl 1 sz_30 rfl rfl rfl rfl rfl rfl rfl rfl ?_ | refine sy_stl 2 sz_30 rfl rfl rfl rfl rfl rfl rfl rfl ?_ | refine sy_stl 3 sz_30 rfl rfl rfl rfl rfl rfl rfl rfl ?_ | refine sy_stl 4 sz_30 rfl rfl rfl rfl rfl rfl rfl rfl ?_ | refine sy_stl 5 sz_30 rfl rfl rfl rfl rfl rfl rfl rfl ?_
   refine sy_nil rfl ?_
   refine ny_next ?_
   refine cy_ret ?_
   refine ny_thenR ?_
   exact ny_finR (rescS 0 rfl agg_30 rfl rfl rfl) (fun w9 hs => ⟨.ok nilT (adv st) ((GT.mk 3 0 ⟨#[91, 93]⟩ none 0 []), o, vn), h, _, rfl, ⟨(by unfold listR; rw [if_pos hp7]), nil_tm, ⟨lies_leaf _ _ _ _, fits_leaf (by decide) (by decide) (by decide) (by decide) (by decide)⟩, hm, rfl⟩, hs.sel (is := [1, 1, 1]) rfl⟩)
 · have hp7 : ¬ isP L st.at_ [93] = true := by rw [Bool.not_eq_true]; exact hc7
   refine cy_skip ?_
   refine ny_next ?_
   refine cy_seq ?_
   refine cy_region ?_
   refine sy_move rfl rfl rfl ?_
   refine sy_callRO [0, 1, 1] call_81 rfl rfl (args_c r bm A c L lv h st inn o vn tm hf htm hT hL hat hnm hm) rfl rfl (fun a17 e17 h17x H17x hb17 hx17 hle17x => ?_) (fun x17 s17 g17 h17x H17x hk17 hx17 hle17x => ?_)
   · obtain ⟨a9, i9, o9, v9, n9, rfl⟩ := hx17
     refine ny_thenP ?_
     exact ny_finP (fun w9 hs => ⟨.bad a17 e17, _, _, rfl, ⟨(by unfold listR; rw [if_neg hp7, hb17]), _, _, _, _, _, rfl⟩, hs.sel (is := [0, 0, 0]) rfl⟩)
   · obtain ⟨hg17, ⟨hr17, hlc17, hnn17, hgt17, hac17⟩, hm17, rfl⟩ := hx17
     have hfw := args_fwd hf hat hk17
     have hT17 := hT.le hle17x
     refine sy_assign rfl rfl rfl ?_
     refine sy_nil rfl ?_
     refine ny_next ?_
     refine cy_seq ?_
     refine cy_region ?_
     refine sy_call rfl call_18 rfl (atom_c ⟨#[91, 93]⟩ _) rfl rfl ?_
     refine sy_alloc zer_30 rfl rfl (fun b4 hb4 hM4 => ?_) (by first | exact hb0 | simp)
     first | refine sy_stl 0 sz_30 rfl rfl rfl rfl rfl rfl rfl rfl ?_ | refine sy_stl 1 sz_30 rfl rfl rfl rfl rfl rfl rfl rfl ?_ | refine sy_stl 2 sz_30 rfl rfl rfl rfl rfl rfl rfl rfl ?_ | refine sy_stl 3 sz_30 rfl rfl rfl rfl rfl rfl rfl rfl ?_ | refine sy_stl 4 sz_30 rfl rfl rfl rfl rfl rfl rfl rfl ?_ | refine sy_stl 5 sz_30 rfl rfl rfl rfl rfl rfl rfl rfl ?_
     refine sy_nil rfl ?_
     refine ny_next ?_
     refine cy_seq ?_
     refine cy_seq ?_
     refine cy_region ?_
     refine sy_move rfl rfl rfl ?_
     refine sy_callR1 [1] call_69 rfl rfl (is_c ⟨#[124]⟩ r bm A c L lv _ hT17 hL s17 inn g17.2.2 hfw.2.1) rfl rfl (fun x20 h20x H20x hx20 hle20x => ?_)
     obtain ⟨rfl, rfl⟩ := hx20
     refine sy_nil rfl ?_
     refine ny_next ?_
     refine cy_cond rfl (fun hc20 => ?_) (fun hc20 => ?_)
     · have hlt20 := isP_lt hc20
       refine cy_seq ?_
       refine cy_region ?_
       refine sy_move rfl rfl rfl ?_
       refine sy_nilCheck rfl rfl rfl ?_
       refine sy_field fld_74_1 rfl rfl rfl ?_
       first | refine sy_ldr 0 one_3 rfl rfl rfl rfl rfl ?_ | refine sy_ldr 1 one_3 rfl rfl rfl rfl rfl ?_ | refine sy_ldr 2 one_3 rfl rfl rfl rfl rfl ?_ | refine sy_ldr 3 one_3 rfl rfl rfl rfl rfl ?_ | refine sy_ldr 4 one_3 rfl rfl rfl rfl rfl ?_ | refine sy_ldr 5 one_3 rfl rfl rfl rfl rfl ?_
       refine sy_addi (z := ((s17.at_ + 1 : Nat) : Int)) rfl rfl (by omega) (by omega) (by omega) rfl rfl ?_
       refine sy_nilCheck rfl rfl rfl ?_
       refine sy_field fld_74_1 rfl rfl rfl ?_
       first | refine sy_stl 0 sz_3 rfl rfl rfl rfl rfl rfl rfl rfl ?_ | refine sy_stl 1 sz_3 rfl rfl rfl rfl rfl rfl rfl rfl ?_ | refine sy_stl 2 sz_3 rfl rfl rfl rfl rfl rfl rfl rfl ?_ | refine sy_stl 3 sz_3 rfl rfl rfl rfl rfl rfl rfl rfl ?_ | refine sy_stl 4 sz_3 rfl rfl rfl rfl rfl rfl rfl rfl ?_ | refine sy_stl 5 sz_3 rfl rfl rfl rfl rfl rfl rfl rfl ?_
       refine sy_nil rfl ?_
       refine ny_next ?_
       refine cy_region ?_
       refine sy_move rfl rfl rfl ?_
       refine sy_callRO [0, 1, 1] call_37 rfl rfl (htm h17x (adv s17) g17.2.1 g17.2.2 999 hT17 (by show s17.at_ + 1 ≤ _; omega) (by show s17.names.length ≤ s17.at_ + 1; omega) hm17) rfl rfl (fun a29 e29 h29x H29x hb29 hx29 hle29x => ?_) (fun x29 s29 g29 h29x H29x hk29 hx29 hle29x => ?_)
       · obtain ⟨a9, i9, o9, v9, n9, rfl⟩ := hx29
         refine ny_thenP ?_
         exact ny_finP (fun w9 hs => ⟨.bad a29 e29, _, _, rfl, ⟨(by unfold listR; rw [if_neg hp7, hk17]; simp only; rw [if_pos hc20, hb29]), _, _, _, _, _, rfl⟩, hs.sel (is := [0, 0, 0]) rfl⟩)
       · obtain ⟨hg29, hl29, hm29, rfl⟩ := hx29
         have hfw29 := hf 999 (adv s17) x29 s29 (by show s17.at_ + 1 ≤ _; omega) hk29
         have hT29 := hT17.le hle29x
         first | refine sy_stl 0 sz_30 rfl rfl rfl rfl rfl rfl rfl rfl ?_ | refine sy_stl 1 sz_30 rfl rfl rfl rfl rfl rfl rfl rfl ?_ | refine sy_stl 2 sz_30 rfl rfl rfl rfl rfl rfl rfl rfl ?_ | refine sy_stl 3 sz_30 rfl rfl rfl rfl rfl rfl rfl rfl ?_ | refine sy_stl 4 sz_30 rfl rfl rfl rfl rfl rfl rfl rfl ?_ | refine sy_stl 5 sz_30 rfl rfl rfl rfl rfl rfl rfl rfl ?_
         refine sy_nil rfl ?_
         refine ny_next ?_
         refine cy_seq ?_
         refine cy_region ?_
         refine sy_move rfl rfl rfl ?_
         refine sy_callRO [1] call_77 rfl rfl (want_c ⟨#[93]⟩ r bm A c L lv _ hT29 hL s29 inn g29.2.2 hfw29.2.1) rfl rfl (fun a31 e31 h31x H31x hb31 hx31 hle31x => ?_) (fun x31 s31 g31 h31x H31x hk31 hx31 hle31x => ?_)
         · obtain ⟨rfl, rfl⟩ := hx31
           have hkey31 : listR L tm st = .bad a31 e31 := by
            rw [show listR L tm st = wantR L [93] (pairsR (g17.1.1.map GT.tm) g29.1.tm) s29 by unfold listR; rw [if_neg hp7, hk17]; simp only; rw [if_pos hc20, hk29, hg17, hg29]]
            have h9 := hb31
            unfold wantR at h9 ⊢
            split at h9
            · cases h9
            · rename_i h8; rw [if_neg h8]; cases h9; rfl
           refine ny_thenP ?_
           exact ny_finP (fun w9 hs => ⟨.bad a31 e31, _, _, rfl, ⟨(hkey31), _, _, _, _, _, rfl⟩, hs.sel (is := [0, 1, 1]) rfl⟩)
         · obtain ⟨rfl, rfl⟩ := hx31
           have hwf := want_fwd hk31
           refine sy_nil rfl ?_
           refine ny_next ?_
           refine cy_seq ?_
           refine cy_seq ?_
           refine cy_region ?_
           refine sy_move rfl rfl rfl ?_
           refine sy_len rfl (len_slice Tryd.underlying23 _ _ _) rfl rfl ?_
           refine sy_subi (z := ((g17.1.1.length : Nat) : Int) - 1) rfl rfl rfl (by omega) (by omega) rfl rfl ?_
           refine sy_assign rfl rfl rfl ?_
           refine sy_nil rfl ?_
           refine ny_next ?_
           refine cy_block ?_
           refine cy_loopK (ι := (Nat × GT) × Hp) [2, 3, 4] rfl (fun z => z.1.1 ≤ g17.1.1.length ∧ z.1.2.tm = pairsR ((g17.1.1.drop z.1.1).map GT.tm) g29.1.tm ∧ h29x.Le z.2 ∧ (Lies z.2 z.1.2 ∧ Fits z.1.2)) (fun z => z.1.1) (fun z => [(5, .int .i64 ((z.1.1 : Int) - 1))]) (fun z => z.2) (fun z => [.blk b4 (.cells (GT.cells z.1.2).toArray 30 (0, 0)), .blk b2 (.cells ([.int .i64 0, .int .i64 0, .string ⟨#[]⟩, .slice none 0 0] : List Value).toArray 30 (0, 0)), .blk r (.cells [.slice A L.length c, .int .i64 (((s29.at_ + 1) : Nat) : Int), .int .i64 lv, .int .i64 inn, .map (some bm), g29.2.2].toArray 74 (0, 0)), .blk bm g29.2.1, .row g29.2.2 9 1 s29.names.length ((s29.names.map strC).flatten)]) ((g17.1.1.length, g29.1), h29x) [1, 3, 0, 0, 0] ⟨Nat.le_refl _, (by rw [List.drop_length]; rfl), Hp.Le.refl _, hl29⟩ ⟨rfl, trivial⟩ rfl rfl ?_
           rintro ⟨⟨i, g⟩, hz⟩ ⟨hI, hgi, hlez, hlg⟩
           simp only at hI hgi hlez hlg ⊢
           have keyq : listR L tm st = .ok (pairsR (g17.1.1.map GT.tm) g29.1.tm) (adv s29) := by
            rw [show listR L tm st = wantR L [93] (pairsR (g17.1.1.map GT.tm) g29.1.tm) s29 by unfold listR; rw [if_neg hp7, hk17]; simp only; rw [if_pos hc20, hk29, hg17, hg29]]
            have h9 := hk31
            unfold wantR at h9 ⊢
            split at h9
            · rename_i h8; rw [if_pos h8]
            · cases h9
           have hrz := (hr17.le hle29x).le hlez
           have hgz : ∀ t ∈ g17.1.1, Lies hz t ∧ Fits t := fun t h9 => ⟨((hgt17 t h9).1.le (hle29x)).le hlez, (hgt17 t h9).2⟩
           refine cy_seq ?_
           refine cy_seq ?_
           refine cy_region ?_
           refine sy_move rfl rfl rfl ?_
           refine sy_cmp rfl rfl rfl rfl rfl ?_
           refine sy_nil rfl ?_
           refine ny_next ?_
           refine cy_cond rfl (fun hc36 => ?_) (fun hc36 => ?_)
           · have hi1 : 1 ≤ i := by have := of_decide_eq_true hc36; omega
             refine cy_skip ?_
             refine ny_next ?_
             refine cy_seq ?_
             refine cy_block ?_
             refine cy_regionS 5 mixed (by kernel_rfl) rfl ?_
             refine sy_move rfl rfl rfl ?_
             refine sy_move rfl rfl rfl ?_
             refine sy_idxR (i := i - 1) (fc := GT.cells) (es := g17.1.1) els_23 rfl (by show some (Value.int .i64 ((i : Int) - 1)) = some (.int .i64 ((i - 1 : Nat) : Int)); rw [show (i : Int) - 1 = ((i - 1 : Nat) : Int) by omega]) hrz rfl (by omega) rfl rfl (fun e41 b41 o41 he41 hA41 hc41 => ?_)
             have hge := hgz e41 (List.mem_of_getElem? he41)
             refine sy_ldah (vs := GT.cells e41) agg_30 rfl rfl hc41 rfl rfl ?_
             first | refine sy_ldar 0 agg_30 rfl rfl rfl rfl rfl ?_ | refine sy_ldar 1 agg_30 rfl rfl rfl rfl rfl ?_ | refine sy_ldar 2 agg_30 rfl rfl rfl rfl rfl ?_ | refine sy_ldar 3 agg_30 rfl rfl rfl rfl rfl ?_ | refine sy_ldar 4 agg_30 rfl rfl rfl rfl rfl ?_ | refine sy_ldar 5 agg_30 rfl rfl rfl rfl rfl ?_
             refine sy_tail ?_
             refine sy_buildSlice (cs := [e41, g].flatMap GT.cells) rfl (fun w => bsl_23_2_0x1 w) rfl rfl (fun b44 hb44 hM44 => ?_) (by first | exact hb0 | simp)
             refine sy_frz 0 rfl hM44 (fun h44 hle44 hb44x => ?_)
             have hr44 : RowsAt h44 (some ⟨b44, 0, none⟩) 4 ([e41, g].map GT.cells) := rows_blk (by decide) (GT.cells_len _) hb44x
             refine sy_callx call_16 rfl (make_c ⟨#[46]⟩ (some ⟨b44, 0, none⟩) 2 [e41, g] _ rfl hr44 (by simp)) rfl rfl (fun x45 h45 hx45 hle45 => ?_)
             obtain ⟨A45, c45⟩ := x45
             replace hge : Lies h45 e41 ∧ Fits e41 := ⟨(hge.1.le hle44).le hle45, hge.2⟩
             have hgg : Lies h45 g ∧ Fits g := ⟨(hlg.1.le hle44).le hle45, hlg.2⟩
             first | refine sy_stl 0 sz_30 rfl rfl rfl rfl rfl rfl rfl rfl ?_ | refine sy_stl 1 sz_30 rfl rfl rfl rfl rfl rfl rfl rfl ?_ | refine sy_stl 2 sz_30 rfl rfl rfl rfl rfl rfl rfl rfl ?_ | refine sy_stl 3 sz_30 rfl rfl rfl rfl rfl rfl rfl rfl ?_ | refine sy_stl 4 sz_30 rfl rfl rfl rfl rfl rfl rfl rfl ?_ | refine sy_stl 5 sz_30 rfl rfl rfl rfl rfl rfl rfl rfl ?_
             refine sy_nil rfl ?_
             refine ny_blockN ?_
             refine ny_next ?_
             refine cy_region ?_
             refine sy_move rfl rfl rfl ?_
             refine sy_subi (z := (i : Int) - 1 - 1) rfl rfl rfl (by omega) (by omega) rfl rfl ?_
             refine sy_assign rfl rfl rfl ?_
             refine sy_nil rfl ?_
             refine ny_roundK [2, 3, 4] ((i - 1, (GT.mk 3 0 ⟨#[46]⟩ A45 c45 [e41, g])), h45) [0, 0, 0, 0, 0] ⟨(by show i - 1 ≤ _; omega), (by rw [GT.tm_mk, List.map_cons, List.map_cons, List.map_nil, pairs_step he41, show i - 1 + 1 = i by omega, ← hgi]; rfl), hlez.trans (hle44.trans hle45), ⟨.intro _ _ _ _ _ _ hx45.2 hx45.1 (fun t h9 => (duo hge hgg t h9).1), fits_kids (by decide) (by decide) (by decide) (by decide) (by decide) (by simp) (fun t h9 => (duo (h := h45) hge hgg t h9).2)⟩⟩ (by show i - 1 < i; omega) rfl ⟨congrArg (fun z => some (Value.int .i64 z)) (by show (i : Int) - 1 - 1 = ((i - 1 : Nat) : Int) - 1; omega), trivial⟩ rfl rfl
           · refine cy_exit ?_
             refine ny_thenE ?_
             refine ny_thenE ?_
             refine ny_blockX ?_
             refine ny_next ?_
             refine cy_seq ?_
             refine cy_region ?_
             first | refine sy_ldar 0 agg_30 rfl rfl rfl rfl rfl ?_ | refine sy_ldar 1 agg_30 rfl rfl rfl rfl rfl ?_ | refine sy_ldar 2 agg_30 rfl rfl rfl rfl rfl ?_ | refine sy_ldar 3 agg_30 rfl rfl rfl rfl rfl ?_ | refine sy_ldar 4 agg_30 rfl rfl rfl rfl rfl ?_ | refine sy_ldar 5 agg_30 rfl rfl rfl rfl rfl ?_
             first | refine sy_stl 0 sz_30 rfl rfl rfl rfl rfl rfl rfl rfl ?_ | refine sy_stl 1 sz_30 rfl rfl rfl rfl rfl rfl rfl rfl ?_ | refine sy_stl 2 sz_30 rfl rfl rfl rfl rfl rfl rfl rfl ?_ | refine sy_stl 3 sz_30 rfl rfl rfl rfl rfl rfl rfl rfl ?_ | refine sy_stl 4 sz_30 rfl rfl rfl rfl rfl rfl rfl rfl ?_ | refine sy_stl 5 sz_30 rfl rfl rfl rfl rfl rfl rfl rfl ?_
             refine sy_nil rfl ?_
             refine ny_next ?_
             refine cy_ret ?_
             have hi0 : i = 0 := by have := of_decide_eq_false hc36; omega
             subst hi0
             first | exact ny_finR (rescS 0 rfl agg_30 rfl rfl rfl) (fun w9 hs => ⟨.ok _ (adv _) (g, _, _), hz, _, rfl, ⟨keyq, hgi, hlg, (by first | exact hm29 | exact hm17), rfl⟩, hs.sel (is := [2, 2, 2]) rfl⟩)
     · have hp20 : ¬ isP L s17.at_ [124] = true := by rw [Bool.not_eq_true]; exact hc20
       refine cy_skip ?_
       refine ny_next ?_
       refine cy_seq ?_
       refine cy_region ?_
       refine sy_move rfl rfl rfl ?_
       refine sy_callRO [0] call_77 rfl rfl (want_c ⟨#[93]⟩ r bm A c L lv _ hT17 hL s17 inn g17.2.2 hfw.2.1) rfl rfl (fun a31 e31 h31x H31x hb31 hx31 hle31x => ?_) (fun x31 s31 g31 h31x H31x hk31 hx31 hle31x => ?_)
       · obtain ⟨rfl, rfl⟩ := hx31
         have hkey31 : listR L tm st = .bad a31 e31 := by
          rw [show listR L tm st = wantR L [93] (pairsR (g17.1.1.map GT.tm) nilT) s17 by unfold listR; rw [if_neg hp7, hk17]; simp only; rw [if_neg hp20, hg17]]
          have h9 := hb31
          unfold wantR at h9 ⊢
          split at h9
          · cases h9
          · rename_i h8; rw [if_neg h8]; cases h9; rfl
         refine ny_thenP ?_
         exact ny_finP (fun w9 hs => ⟨.bad a31 e31, _, _, rfl, ⟨(hkey31), _, _, _, _, _, rfl⟩, hs.sel (is := [0, 1, 1]) rfl⟩)
       · obtain ⟨rfl, rfl⟩ := hx31
         have hwf := want_fwd hk31
         refine sy_nil rfl ?_
         refine ny_next ?_
         refine cy_seq ?_
         refine cy_seq ?_
         refine cy_region ?_
         refine sy_move rfl rfl rfl ?_
         refine sy_len rfl (len_slice Tryd.underlying23 _ _ _) rfl rfl ?_
         refine sy_subi (z := ((g17.1.1.length : Nat) : Int) - 1) rfl rfl rfl (by omega) (by omega) rfl rfl ?_
         refine sy_assign rfl rfl rfl ?_
         refine sy_nil rfl ?_
         refine ny_next ?_
         refine cy_block ?_
         refine cy_loopK (ι := (Nat × GT) × Hp) [2, 3, 4] rfl (fun z => z.1.1 ≤ g17.1.1.length ∧ z.1.2.tm = pairsR ((g17.1.1.drop z.1.1).map GT.tm) (GT.mk 3 0 ⟨#[91, 93]⟩ none 0 []).tm ∧ h17x.Le z.2 ∧ (Lies z.2 z.1.2 ∧ Fits z.1.2)) (fun z => z.1.1) (fun z => [(5, .int .i64 ((z.1.1 : Int) - 1))]) (fun z => z.2) (fun z => [.blk b4 (.cells (GT.cells z.1.2).toArray 30 (0, 0)), .blk b2 (.cells ([.int .i64 0, .int .i64 0, .string ⟨#[]⟩, .slice none 0 0] : List Value).toArray 30 (0, 0)), .blk r (.cells [.slice A L.length c, .int .i64 (((s17.at_ + 1) : Nat) : Int), .int .i64 lv, .int .i64 inn, .map (some bm), g17.2.2].toArray 74 (0, 0)), .blk bm g17.2.1, .row g17.2.2 9 1 s17.names.length ((s17.names.map strC).flatten)]) ((g17.1.1.length, (GT.mk 3 0 ⟨#[91, 93]⟩ none 0 [])), h17x) [1, 3, 0, 0, 0] ⟨Nat.le_refl _, (by rw [List.drop_length]; rfl), Hp.Le.refl _, ⟨lies_leaf _ _ _ _, fits_leaf (by decide) (by decide) (by decide) (by decide) (by decide)⟩⟩ ⟨rfl, trivial⟩ rfl rfl ?_
         rintro ⟨⟨i, g⟩, hz⟩ ⟨hI, hgi, hlez, hlg⟩
         simp only at hI hgi hlez hlg ⊢
         have keyq : listR L tm st = .ok (pairsR (g17.1.1.map GT.tm) (GT.mk 3 0 ⟨#[91, 93]⟩ none 0 []).tm) (adv s17) := by
          rw [show listR L tm st = wantR L [93] (pairsR (g17.1.1.map GT.tm) (GT.mk 3 0 ⟨#[91, 93]⟩ none 0 []).tm) s17 by rw [nil_tm]; unfold listR; rw [if_neg hp7, hk17]; simp only; rw [if_neg hp20, hg17]]
          have h9 := hk31
          unfold wantR at h9 ⊢
          split at h9
          · rename_i h8; rw [if_pos h8]
          · cases h9
         have hrz := (hr17).le hlez
         have hgz : ∀ t ∈ g17.1.1, Lies hz t ∧ Fits t := fun t h9 => ⟨((hgt17 t h9).1.le (Hp.Le.refl _)).le hlez, (hgt17 t h9).2⟩
         refine cy_seq ?_
         refine cy_seq ?_
         refine cy_region ?_
         refine sy_move rfl rfl rfl ?_
         refine sy_cmp rfl rfl rfl rfl rfl ?_
         refine sy_nil rfl ?_
         refine ny_next ?_
         refine cy_cond rfl (fun hc36 => ?_) (fun hc36 => ?_)
         · have hi1 : 1 ≤ i := by have := of_decide_eq_true hc36; omega
           refine cy_skip ?_
           refine ny_next ?_
           refine cy_seq ?_
           refine cy_block ?_
           refine cy_regionS 5 mixed (by kernel_rfl) rfl ?_
           refine sy_move rfl rfl rfl ?_
           refine sy_move rfl rfl rfl ?_
           refine sy_idxR (i := i - 1) (fc := GT.cells) (es := g17.1.1) els_23 rfl (by show some (Value.int .i64 ((i : Int) - 1)) = some (.int .i64 ((i - 1 : Nat) : Int)); rw [show (i : Int) - 1 = ((i - 1 : Nat) : Int) by omega]) hrz rfl (by omega) rfl rfl (fun e41 b41 o41 he41 hA41 hc41 => ?_)
           have hge := hgz e41 (List.mem_of_getElem? he41)
           refine sy_ldah (vs := GT.cells e41) agg_30 rfl rfl hc41 rfl rfl ?_
           first | refine sy_ldar 0 agg_30 rfl rfl rfl rfl rfl ?_ | refine sy_ldar 1 agg_30 rfl rfl rfl rfl rfl ?_ | refine sy_ldar 2 agg_30 rfl rfl rfl rfl rfl ?_ | refine sy_ldar 3 agg_30 rfl rfl rfl rfl rfl ?_ | refine sy_ldar 4 agg_30 rfl rfl rfl rfl rfl ?_ | refine sy_ldar 5 agg_30 rfl rfl rfl rfl rfl ?_
           refine sy_tail ?_
           refine sy_buildSlice (cs := [e41, g].flatMap GT.cells) rfl (fun w => bsl_23_2_0x1 w) rfl rfl (fun b44 hb44 hM44 => ?_) (by first | exact hb0 | simp)
           refine sy_frz 0 rfl hM44 (fun h44 hle44 hb44x => ?_)
           have hr44 : RowsAt h44 (some ⟨b44, 0, none⟩) 4 ([e41, g].map GT.cells) := rows_blk (by decide) (GT.cells_len _) hb44x
           refine sy_callx call_16 rfl (make_c ⟨#[46]⟩ (some ⟨b44, 0, none⟩) 2 [e41, g] _ rfl hr44 (by simp)) rfl rfl (fun x45 h45 hx45 hle45 => ?_)
           obtain ⟨A45, c45⟩ := x45
           replace hge : Lies h45 e41 ∧ Fits e41 := ⟨(hge.1.le hle44).le hle45, hge.2⟩
           have hgg : Lies h45 g ∧ Fits g := ⟨(hlg.1.le hle44).le hle45, hlg.2⟩
           first | refine sy_stl 0 sz_30 rfl rfl rfl rfl rfl rfl rfl rfl ?_ | refine sy_stl 1 sz_30 rfl rfl rfl rfl rfl rfl rfl rfl ?_ | refine sy_stl 2 sz_30 rfl rfl rfl rfl rfl rfl rfl rfl ?_ | refine sy_stl 3 sz_30 rfl rfl rfl rfl rfl rfl rfl rfl ?_ | refine sy_stl 4 sz_30 rfl rfl rfl rfl rfl rfl rfl rfl ?_ | refine sy_stl 5 sz_30 rfl rfl rfl rfl rfl rfl rfl rfl ?_
           refine sy_nil rfl ?_
           refine ny_blockN ?_
           refine ny_next ?_
           refine cy_region ?_
           refine sy_move rfl rfl rfl ?_
           refine sy_subi (z := (i : Int) - 1 - 1) rfl rfl rfl (by omega) (by omega) rfl rfl ?_
           refine sy_assign rfl rfl rfl ?_
           refine sy_nil rfl ?_
           refine ny_roundK [2, 3, 4] ((i - 1, (GT.mk 3 0 ⟨#[46]⟩ A45 c45 [e41, g])), h45) [0, 0, 0, 0, 0] ⟨(by show i - 1 ≤ _; omega), (by rw [GT.tm_mk, List.map_cons, List.map_cons, List.map_nil, pairs_step he41, show i - 1 + 1 = i by omega, ← hgi]; rfl), hlez.trans (hle44.trans hle45), ⟨.intro _ _ _ _ _ _ hx45.2 hx45.1 (fun t h9 => (duo hge hgg t h9).1), fits_kids (by decide) (by decide) (by decide) (by decide) (by decide) (by simp) (fun t h9 => (duo (h := h45) hge hgg t h9).2)⟩⟩ (by show i - 1 < i; omega) rfl ⟨congrArg (fun z => some (Value.int .i64 z)) (by show (i : Int) - 1 - 1 = ((i - 1 : Nat) : Int) - 1; omega), trivial⟩ rfl rfl
         · refine cy_exit ?_
           refine ny_thenE ?_
           refine ny_thenE ?_
           refine ny_blockX ?_
           refine ny_next ?_
           refine cy_seq ?_
           refine cy_region ?_
           first | refine sy_ldar 0 agg_30 rfl rfl rfl rfl rfl ?_ | refine sy_ldar 1 agg_30 rfl rfl rfl rfl rfl ?_ | refine sy_ldar 2 agg_30 rfl rfl rfl rfl rfl ?_ | refine sy_ldar 3 agg_30 rfl rfl rfl rfl rfl ?_ | refine sy_ldar 4 agg_30 rfl rfl rfl rfl rfl ?_ | refine sy_ldar 5 agg_30 rfl rfl rfl rfl rfl ?_
           first | refine sy_stl 0 sz_30 rfl rfl rfl rfl rfl rfl rfl rfl ?_ | refine sy_stl 1 sz_30 rfl rfl rfl rfl rfl rfl rfl rfl ?_ | refine sy_stl 2 sz_30 rfl rfl rfl rfl rfl rfl rfl rfl ?_ | refine sy_stl 3 sz_30 rfl rfl rfl rfl rfl rfl rfl rfl ?_ | refine sy_stl 4 sz_30 rfl rfl rfl rfl rfl rfl rfl rfl ?_ | refine sy_stl 5 sz_30 rfl rfl rfl rfl rfl rfl rfl rfl ?_
           refine sy_nil rfl ?_
           refine ny_next ?_
           refine cy_ret ?_
           have hi0 : i = 0 := by have := of_decide_eq_false hc36; omega
           subst hi0
           first | exact ny_finR (rescS 0 rfl agg_30 rfl rfl rfl) (fun w9 hs => ⟨.ok _ (adv _) (g, _, _), hz, _, rfl, ⟨keyq, hgi, hlg, (by first | exact hm29 | exact hm17), rfl⟩, hs.sel (is := [2, 2, 2]) rfl⟩)
end Go.Proofs.YtanhhihechakhaaDoor
set_option linter.unusedVariables false
set_option linter.unusedSimpArgs false
namespace Go.Proofs.YtanhhihechakhaaDoor.E
open Go.RowKit
def PF (Q : Exit → Act → World → Prop) : Prop := ∀ (c : List PanicEntry) (a : Act) (d : Option Nat) (v : Value) (w : World), Q (.panic c) (a.put d v) w → Q (.panic c) a w
section
variable {m : Md} {P : Program} {ops : Array Oper} {Q : Exit → Act → World → Prop} {n : Nat} {D : List Deferred} {w0 : World} {M : List Nat} {h0 hC : Hp}
variable {f : Tab} {h : Hp} {H : List Res} {rest : List Oper} {o : Oper} {cnt : Nat} {done : List Nat}
def ZyP (P : Program) (ops : Array Oper) (Q : Exit → Act → World → Prop) (n : Nat) (D : List Deferred) (w0 : World) (M : List Nat) (h0 hC : Hp) (cnt : Nat) (done : List Nat) (f : Tab) (h : Hp) (H : List Res) : Prop :=
 Base w0 h0 hC h → ∀ a w, Holds n D f a → St w0 M h0 h H w → wpAnyH P .any ops (Q) (St w0 M h0 hC []) cnt (lsA ops.size done) a w
def QOP (P : Program) (ops : Array Oper) (Q : Exit → Act → World → Prop) (w0 : World) (M : List Nat) (h0 hC : Hp) (cnt : Nat) (done : List Nat) (h : Hp) (H : List Res) : Exit → Act → World → Prop :=
 fun _ a _ => ∀ w, St w0 M h0 h H w → wpAnyH P .any ops (Q) (St w0 M h0 hC []) cnt (lsA ops.size done) a w
def QZP (P : Program) (ops : Array Oper) (Q : Exit → Act → World → Prop) (w0 : World) (M : List Nat) (h0 hC : Hp) (cnt : Nat) (done : List Nat) : Exit → Act → World → Prop
 | .normal, a, w => St w0 M h0 hC [] w ∧ wpAnyH P .any ops (Q) (St w0 M h0 hC []) cnt (lsA ops.size done) a w
 | e, a, w => Q e a w
theorem cy_regionAP {i : Nat} {l : List Oper} (hm : P.follows .mixedOrders = true) (k : ZyP P l.toArray Q n D w0 M h0 h l.toArray.size [] f h H) : Cy P (.region i l.toArray true) Q n D w0 M h0 f h H :=
 fun a w ha hs => wp_region_held (S := St w0 M h0 h []) hm (k ⟨hs.le, hs.old, Hp.Le.refl _⟩ a _ ha hs.drawn)
theorem zy_doneP (hr : readyB ops done [] = true) (k : Ny Q .normal n D w0 M h0 f h H) : ZyP P ops Q n D w0 M h0 hC cnt done f h H := fun hB a w ha hs =>
 wpAnyH_done (of_decide_eq_true hr) (k a w ha hs) _
theorem zy_qP (i : Nat) (hPF : PF Q) (ho : ops[i]? = some o) (hf : freeB ops done i = true) (k : Base w0 h0 hC h → Sy .one P ops (QOP P ops Q w0 M h0 hC cnt (i :: done) h H) n D w0 M h0 [o] f hC []) : ZyP P ops Q n D w0 M h0 hC (cnt + 1) done f h H := fun hB a w ha hs => by
 unfold freeB at hf
 rw [Bool.and_eq_true, Bool.and_eq_true] at hf
 obtain ⟨v, hy, h1⟩ := k hB a w ha (hs.class hB)
 exact wpAnyH_take ho hf.1 hf.2.1 hf.2.2 (fun c a w hq => hPF c a _ _ w hq) hy (hs.class hB) (h1 w (hs.class hB) w hs)
theorem ny_zqP (hB : Base w0 h0 hC h) (k : ZyP P ops Q n D w0 M h0 hC cnt done f h H) : Ny (QOP P ops Q w0 M h0 hC cnt done h H) .normal n D w0 M h0 f hC [] := fun a w ha hs w' hs' => k hB a w' ha hs'
def ZopP (P : Program) (ops : Array Oper) (Q : Exit → Act → World → Prop) (n : Nat) (D : List Deferred) (w0 : World) (M : List Nat) (h0 hC : Hp) (cnt : Nat) (done : List Nat) (f : Tab) (h : Hp) (H : List Res) (i : Nat) : Prop :=
 Base w0 h0 hC h → ∀ a w, Holds n D f a → St w0 M h0 h H w → wpOp P ops (Q) i (fun a' w' => St w0 M h0 hC [] w' ∧ wpAnyH P .any ops (Q) (St w0 M h0 hC []) cnt (lsA ops.size (i :: done)) a' w') a w
theorem zy_1P (i : Nat) (hr : readyB ops done [i] = true) (k : ZopP P ops Q n D w0 M h0 hC cnt done f h H i) : ZyP P ops Q n D w0 M h0 hC (cnt + 1) done f h H := fun hB a w ha hs =>
 wpAnyH_all (of_decide_eq_true hr) (by simp) (fun j hj => by
  simp only [List.mem_singleton] at hj
  subst hj
  exact k hB a w ha hs)
theorem zy_2P (i j : Nat) (hr : readyB ops done [i, j] = true) (k : ZopP P ops Q n D w0 M h0 hC cnt done f h H i) (k2 : ZopP P ops Q n D w0 M h0 hC cnt done f h H j) : ZyP P ops Q n D w0 M h0 hC (cnt + 1) done f h H := fun hB a w ha hs =>
 wpAnyH_all (of_decide_eq_true hr) (by simp) (fun x hx => by
  simp only [List.mem_cons, List.not_mem_nil, or_false] at hx
  rcases hx with rfl | rfl
  · exact k hB a w ha hs
  · exact k2 hB a w ha hs)
theorem zop_runP {i : Nat} (ho : ops[i]? = some o) (hw : gok ops f o.guard = some true) (k : Base w0 h0 hC h → Sy .txt P ops (QZP P ops Q w0 M h0 hC cnt (i :: done)) n D w0 M h0 [o] f h H) : ZopP P ops Q n D w0 M h0 hC cnt done f h H i := fun hB a w ha hs => by
 have h1 := k hB a w ha hs
 unfold Wk wpList at h1
 rw [if_pos (gok_wanted ha hw)] at h1
 unfold wpOp
 simp only [ho]
 rw [if_pos (gok_wanted ha hw)]
 have hex : ∀ e a w, e ≠ .normal → QZP P ops Q w0 M h0 hC cnt (i :: done) e a w → Q e a w := fun e a w he hq => by
  cases e with
  | normal => exact absurd rfl he
  | exit id => exact hq
  | goto l => exact hq
  | ret => exact hq
  | panic ch => exact hq
  | outgrown => exact hq
 have hlet : LetsOut (QZP P ops Q w0 M h0 hC cnt (i :: done)) → LetsOut (Q) := fun ⟨a, w, hq⟩ => ⟨a, w, hq⟩
 rcases h1 with h1 | h1
 · refine .inl ?_
   unfold Oper.wp at h1 ⊢
   generalize (execOp a.eval o).run P w = r at h1 ⊢
   cases r with
   | ok n w' =>
    cases n <;> simp only [Oper.upon] at h1 ⊢ <;>
     first
      | exact h1
      | exact Calls.mono h1 (fun e w'' he => by cases e <;> first | exact hlet he | exact he)
      | exact Rows.mono h1 (fun _ _ he => he)
   | halt x w' => cases x <;> simp only [Oper.upon] at h1 ⊢ <;> exact h1
 · exact .inr ⟨h1.1, hlet h1.2⟩
theorem ny_zyP {h' : Hp} {f' : Tab} {H' : List Res} (hB : Base w0 h0 hC h) (hle : h.Le h') (k : ZyP P ops Q n D w0 M h0 hC cnt done f' h' H') : Ny (QZP P ops Q w0 M h0 hC cnt done) .normal n D w0 M h0 f' h' H' := fun a w ha hs => by
 have hB' : Base w0 h0 hC h' := ⟨hB.l0, hB.old, hB.le.trans hle⟩
 exact ⟨hs.class hB', k hB' a w ha hs⟩
theorem ny_zyPP {h' : Hp} {f' : Tab} {H' : List Res} {ch : List PanicEntry} (k : Ny Q (.panic ch) n D w0 M h0 f' h' H') : Ny (QZP P ops Q w0 M h0 hC cnt done) (.panic ch) n D w0 M h0 f' h' H' := k
end
end Go.Proofs.YtanhhihechakhaaDoor.E

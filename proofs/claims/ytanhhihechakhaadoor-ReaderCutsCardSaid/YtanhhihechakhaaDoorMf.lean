/- The engine, the plain laws and the walks of this seat, part 6: what the functions answer. Conditions: as each says; printed by programs of this session. -/
import Derived.Test.YtanhhihechakhaaDoorRows
import Derived.LaidMore
import Derived.LaidSub
import Derived.LaidHandle
import Derived.Stop.Joined
import Derived.Test.YtanhhihechakhaaDoorProg
import Derived.Test.YtanhhihechakhaaDoorMe
set_option linter.unusedVariables false
set_option linter.unusedSimpArgs false
namespace Go.Proofs.YtanhhihechakhaaDoor.ReadP
open Go.RowKit Go.Proofs.YtanhhihechakhaaDoor.E Go.Proofs.YtanhhihechakhaaDoor.ReplP Go.Proofs.YtanhhihechakhaaDoor.TokP Go.Proofs.YtanhhihechakhaaDoor.TermP Go.Proofs.YtanhhihechakhaaDoor.WrP Go.Proofs.YtanhhihechakhaaDoor.OpsP
def NumOk (a : Ans) : Prop := -9223372036854775808 ≤ a.num ∧ a.num ≤ 9223372036854775807
theorem numok_zero (k : Int) (s : ByteArray) (q : Bool) (u : Nat) : NumOk (.tok k s 0 q u) := by exact ⟨by show (-9223372036854775808 : Int) ≤ 0; decide, by show (0 : Int) ≤ 9223372036854775807; decide⟩
theorem numok_bad (w : ByteArray) (e : Int) : NumOk (.bad w e) := by exact ⟨by show (-9223372036854775808 : Int) ≤ 0; decide, by show (0 : Int) ≤ 9223372036854775807; decide⟩
theorem quo_numok : ∀ (m : Nat) (r out : List UInt8) (k : Nat), r.length ≤ m → NumOk (quoL r out k)
 | _, [], _, _, _ => by rw [quoL]; exact numok_bad _ _
 | 0, _ :: _, _, _, h => by simp at h
 | m + 1, [c], out, k, h => by
  rw [quoL]
  split
  · exact numok_zero _ _ _ _
  · split
    · exact numok_bad _ _
    · split <;> exact numok_bad _ _
 | m + 1, c :: d :: t, out, k, h => by
  have hl : t.length + 1 ≤ m := by simpa using h
  rw [quoL]
  split
  · split
    · exact quo_numok m t _ _ (by omega)
    · exact numok_zero _ _ _ _
  · split
    · split
      · exact quo_numok m t _ _ (by omega)
      · exact numok_bad _ _
    · split
      · exact numok_bad _ _
      · exact quo_numok m (d :: t) _ _ (by simpa using hl)
theorem one_numok (c : UInt8) (l : List UInt8) : NumOk (oneC c l) := by
 unfold oneC
 split
 · exact numok_zero _ _ _ _
 split
 · exact numok_zero _ _ _ _
 split
 · unfold numA
   split
   · exact numok_bad _ _
   · split
     · exact numok_bad _ _
     · exact wrap_bounds _
 split
 · exact quo_numok _ _ _ _ (Nat.le_refl _)
 split
 · exact numok_zero _ _ _ _
 split
 · exact numok_zero _ _ _ _
 split
 · exact numok_zero _ _ _ _
 split
 · exact numok_zero _ _ _ _
 · exact numok_bad _ _
theorem lx_numok {b : Bool} {l : List UInt8} {ts : List Tk} (h : Lx b l ts) : ∀ t ∈ ts, NumOk t.a := by
 induction h with
 | done h => intro t ht; exact (List.not_mem_nil ht).elim
 | tok h hr ha he k ih =>
  intro t ht
  rcases List.mem_cons.1 ht with rfl | ht
  · show NumOk _
    rw [ha]
    exact one_numok _ _
  · exact ih t ht
theorem lx_tokok {b : Bool} {l : List UInt8} {ts : List Tk} (h : Lx b l ts) : ∀ x ∈ ts.map rtOf, TokOk x := fun x hx => by
 obtain ⟨t, ht, rfl⟩ := List.mem_map.1 hx
 have h1 := (lx_fair h).1 t ht
 have h2 := lx_numok h t ht
 refine ⟨⟨?_, ?_⟩, ?_, h2⟩
 · have := h1.kind.1; show _ ≤ t.a.kind; omega
 · have := h1.kind.2; show t.a.kind ≤ _; omega
 · have := h1.size; show t.a.str.size ≤ _; omega
theorem preW_le : ∀ {L : List RT} (i : Nat), (∀ t ∈ L, t.str.size ≤ 64) → preW L i ≤ 72 * L.length
 | _, 0, _ => by rw [preW]; exact Nat.zero_le _
 | [], i + 1, _ => by rw [preW]; exact Nat.zero_le _
 | t :: l, i + 1, h => by
  have h1 := preW_le (L := l) i (fun x hx => h x (List.mem_cons_of_mem _ hx))
  have h2 := h t List.mem_cons_self
  rw [preW, List.length_cons]
  omega
theorem lx_preW {b : Bool} {l : List UInt8} {ts : List Tk} (h : Lx b l ts) (hl : l.length ≤ 4096) (i : Nat) : preW (ts.map rtOf) i ≤ 294912 := by
 have h1 := (lx_fair h).2.2.1
 have h2 := preW_le (L := ts.map rtOf) i (fun x hx => by
  obtain ⟨t, ht, rfl⟩ := List.mem_map.1 hx
  exact ((lx_fair h).1 t ht).size)
 rw [List.length_map] at h2
 omega
/-! part by part -/
def raT : RA → List Tm
 | .ok l => l
 | .bad _ _ => []
def raAt : RA → Nat
 | .ok _ => 0
 | .bad a _ => a
def raE : RA → Int
 | .ok _ => 0
 | .bad _ e => e
theorem allA_no {lv : Int} {l : List UInt8} {x : ByteArray × Int} (h : scE (scanA l) = some x) : allA lv l = .bad (scAt (scanA l)) x.2 := by
 unfold allA
 cases hs : scanA l with
 | ok ts => rw [hs] at h; cases h
 | bad a w e => rw [hs] at h; cases h; rfl
theorem allA_yes {lv : Int} {l : List UInt8} (h : scE (scanA l) = none) : allA lv l = allS ((scTs (scanA l)).map rtOf) lv ((scTs (scanA l)).length + 1) 0 [] := by
 unfold allA
 cases hs : scanA l with
 | ok ts => rfl
 | bad a w e => rw [hs] at h; cases h
theorem scan_lx {l : List UInt8} (h : scE (scanA l) = none) : l.length ≤ 4096 ∧ Lx false l (scTs (scanA l)) := by
 have hl : l.length ≤ 4096 := by
  rcases Nat.lt_or_ge 4096 l.length with h1 | h1
  · unfold scanA at h
    rw [if_pos h1] at h
    cases h
  · exact h1
 exact ⟨hl, TokP.sc_lx hl h⟩
theorem allS_end {L : List RT} {lv : Int} {k i : Nat} {acc : List Tm} (h : L.length ≤ i) : allS L lv k i acc = .ok acc := by
 cases k with
 | zero => rfl
 | succ k => unfold allS; rw [if_pos h]
theorem allS_no {L : List RT} {lv : Int} {k i a : Nat} {e : Int} {acc : List Tm} (hk : 1 ≤ k) (h : ¬ L.length ≤ i) (hr : readS L lv i = .bad a e) : allS L lv k i acc = .bad a e := by
 obtain ⟨m, rfl⟩ : ∃ m, k = m + 1 := ⟨k - 1, by omega⟩
 unfold allS
 rw [if_neg h, hr]
theorem allS_more {L : List RT} {lv : Int} {k i : Nat} {x : Tm} {s : RSt} {acc : List Tm} (hk : 1 ≤ k) (h : ¬ L.length ≤ i) (hr : readS L lv i = .ok x s) : allS L lv k i acc = allS L lv (k - 1) s.at_ (acc ++ [x]) := by
 obtain ⟨m, rfl⟩ : ∃ m, k = m + 1 := ⟨k - 1, by omega⟩
 conv => lhs; unfold allS
 rw [if_neg h, hr]
 rfl
theorem readS_wt {L : List RT} {lv : Int} {i : Nat} {x : Tm} {s : RSt} (hi : i ≤ L.length) (h : readS L lv i = .ok x s) : ∃ j, wtT x ≤ preW L j := by
 obtain ⟨p, s2, h1, _⟩ := readS_ok h
 have := read_wt L lv 60 _ _ _ _ hi h1
 exact ⟨s2.at_, by simp only at this; omega⟩
end Go.Proofs.YtanhhihechakhaaDoor.ReadP
set_option linter.unusedVariables false
set_option linter.unusedSimpArgs false
namespace Go.Proofs.YtanhhihechakhaaDoor
open Go.RowKit Go.Proofs.YtanhhihechakhaaDoor.E Go.Proofs.YtanhhihechakhaaDoor.ReplP Go.Proofs.YtanhhihechakhaaDoor.TokP Go.Proofs.YtanhhihechakhaaDoor.TermP Go.Proofs.YtanhhihechakhaaDoor.WrP Go.Proofs.YtanhhihechakhaaDoor.ReadP Go.Proofs.YtanhhihechakhaaDoor.OpsP
def Hdl (h : Hp) : Prop := h.cell ⟨0, 0, none⟩ = some (.iface 108 (.agg #[.pointer (some ⟨2, 47, none⟩)]))
theorem Hdl.le {h h' : Hp} (hh : Hdl h) (hl : h.Le h') : Hdl h' := hl.cell hh
theorem scan2_c (s : ByteArray) (h : Hp) : CX Tryd.prog 20 [.string s] h (fun x : Option Addr × Nat => .tuple #[.slice x.1 (scTs (scanA s.data.toList)).length x.2, .int .i64 ((scAt (scanA s.data.toList) : Nat) : Int), errV 84 (scE (scanA s.data.toList))]) (fun x h' => RowsAt h' x.1 5 ((scTs (scanA s.data.toList)).map tkC) ∧ (scTs (scanA s.data.toList)).length ≤ x.2) := fun w hs => (scan_c s h w hs).mono fun e w' ⟨x, h', he, hx, hg⟩ => by
 cases hr : scanA s.data.toList with
 | ok ts =>
  rw [hr] at he hx
  exact ⟨x, h', he, hx, hg⟩
 | bad i a b =>
  rw [hr] at he
  exact ⟨(none, 0), h', he, ⟨fun j c hj => by simp [scTs] at hj, Nat.le_refl _⟩, hg⟩
theorem rows_rt {h : Hp} {A : Option Addr} {ts : List Tk} (hr : RowsAt h A 5 (ts.map tkC)) : RowsAt h A 5 ((ts.map rtOf).map rtC) := by
 rw [List.map_map]
 exact hr
structure LZ where
 acc : List GT
 i : Nat
 v : Value
 hh : Hp
 n : Nat
abbrev RdR := List GT × Option Addr × Nat
def AllP (r : RA) (x : RdR) (h : Hp) : Prop := x.1.map GT.tm = raT r ∧ RowsAt h x.2.1 4 (x.1.map GT.cells) ∧ x.1.length ≤ x.2.2 ∧ x.1.length ≤ 4096 ∧ ∀ t ∈ x.1, (Lies h t ∧ Fits t) ∧ wtG t ≤ 294912
theorem allP_no (a : Nat) (e : Int) (h : Hp) : AllP (.bad a e) ([], none, 0) h := ⟨rfl, fun j c hj => by simp at hj, Nat.le_refl _, Nat.zero_le _, fun t ht => (List.not_mem_nil ht).elim⟩
set_option maxRecDepth 100000 in
theorem allR_c (s : ByteArray) (lv : Int) (h : Hp) (hh : Hdl h) : CX Tryd.prog 10 [.string s, .int .i64 lv] h (fun x : RdR => .tuple #[.slice x.2.1 x.1.length x.2.2, .int .i64 ((raAt (allA lv s.data.toList) : Nat) : Int), .int .i64 (raE (allA lv s.data.toList))]) (AllP (allA lv s.data.toList)) := by
 refine enterX Tryd.func10 rfl rfl rfl (fun w => ?_)
 refine cy_seq ?_
 refine cy_region ?_
 refine sy_assign rfl rfl rfl ?_
 refine sy_assign rfl rfl rfl ?_
 refine sy_assign rfl rfl rfl ?_
 refine sy_nil rfl ?_
 refine ny_next ?_
 refine cy_seq ?_
 refine cy_region ?_
 refine sy_move rfl rfl rfl ?_
 refine sy_callx call_20 rfl (scan2_c s _) rfl rfl (fun x18 h18 hx18 hle18 => ?_)
 obtain ⟨A18, c18⟩ := x18
 obtain ⟨hr18, hq18⟩ := hx18
 simp only at hr18 hq18 ⊢
 replace hh := hh.le hle18
 refine sy_move rfl rfl rfl ?_
 refine sy_extract rfl rfl rfl rfl ?_
 refine sy_extract rfl rfl rfl rfl ?_
 refine sy_extract rfl rfl rfl rfl ?_
 refine sy_assign rfl rfl rfl ?_
 refine sy_assign rfl rfl rfl ?_
 refine sy_assign rfl rfl rfl ?_
 refine sy_nil rfl ?_
 refine ny_next ?_
 refine cy_seq ?_
 refine cy_seq ?_
 refine cy_region ?_
 refine sy_move rfl rfl rfl ?_
 refine sy_eqn (e := (scE (scanA s.data.toList)).isNone) Tryd.underlying47 rfl (nilB_err _ _) rfl rfl rfl ?_
 refine sy_nil rfl ?_
 refine ny_next ?_
 refine cy_cond rfl (fun hc23 => ?_) (fun hc23 => ?_)
 · have hn1 : ¬ scE (scanA s.data.toList) = none := fun h9 => by rw [h9] at hc23; exact absurd hc23 (by decide)
   obtain ⟨x9, hx9⟩ := Option.ne_none_iff_exists'.1 hn1
   rw [hx9]
   refine cy_seq ?_
   refine cy_region ?_
   refine sy_move rfl rfl rfl ?_
   refine sy_move rfl rfl rfl ?_
   refine sy_call rfl call_21 rfl (codeR_c x9.1 x9.2 _ hh) rfl rfl ?_
   refine sy_assign rfl rfl rfl ?_
   refine sy_assign rfl rfl rfl ?_
   refine sy_assign rfl rfl rfl ?_
   refine sy_nil rfl ?_
   refine ny_next ?_
   refine cy_ret ?_
   refine ny_thenR ?_
   have hres : (allA lv s.data.toList) = .bad (scAt (scanA s.data.toList)) x9.2 := allA_no hx9
   refine ny_finR (res3 rfl rfl rfl rfl) (fun w9 hs => ⟨([], none, 0), _, ?_, ?_, hs.toGrow⟩)
   · rw [hres]; rfl
   · rw [hres]; exact allP_no _ _ _
 · have hok : scE (scanA s.data.toList) = none := Option.isNone_iff_eq_none.1 (by simpa using hc23)
   obtain ⟨hl4, hlx⟩ := scan_lx hok
   have hyes := allA_yes (lv := lv) hok
   have hlen := (lx_fair hlx).2.2.1
   have hqN := lx_tokok hlx
   have hpw := lx_preW hlx hl4
   have hT := rows_rt hr18
   have hmL : ((scTs (scanA s.data.toList)).map rtOf).length = (scTs (scanA s.data.toList)).length := List.length_map _
   refine cy_skip ?_
   refine ny_next ?_
   refine cy_seq ?_
   refine cy_region ?_
   refine sy_assign rfl rfl rfl ?_
   refine sy_nil rfl ?_
   refine ny_next ?_
   refine cy_seq ?_
   refine cy_seq ?_
   refine cy_region ?_
   refine sy_assign rfl rfl rfl ?_
   refine sy_nil rfl ?_
   refine ny_next ?_
   refine cy_block ?_
   refine cy_nilRow 30 4 ?_
   refine cy_loopK (ι := LZ) [1, 7] rfl (fun z => z.i ≤ (scTs (scanA s.data.toList)).length ∧ allS ((scTs (scanA s.data.toList)).map rtOf) lv z.n z.i (z.acc.map GT.tm) = allS ((scTs (scanA s.data.toList)).map rtOf) lv ((scTs (scanA s.data.toList)).length + 1) 0 [] ∧ (scTs (scanA s.data.toList)).length + 1 ≤ z.n + z.i ∧ h18.Le z.hh ∧ (∀ t ∈ z.acc, (Lies z.hh t ∧ Fits t) ∧ wtG t ≤ 294912) ∧ z.acc.length ≤ z.i) (fun z => (scTs (scanA s.data.toList)).length - z.i) (fun z => [(10, z.v), (11, .int .i64 (z.i : Int))]) (fun z => z.hh) (fun z => [.row z.v 30 4 z.acc.length ((z.acc.map GT.cells).flatten)]) ⟨[], 0, .slice none 0 0, h18, (scTs (scanA s.data.toList)).length + 1⟩ [0] ⟨Nat.zero_le _, rfl, Nat.le_refl _, Hp.Le.refl _, (fun t h9 => (List.not_mem_nil h9).elim), Nat.le_refl _⟩ ⟨rfl, rfl, trivial⟩ rfl rfl ?_
   rintro ⟨acc, i, v10, hz, m⟩ ⟨hI, hro, hmn, hlez, hgt, hac⟩
   simp only at hI hro hmn hlez hgt hac ⊢
   have hTz := hT.le hlez
   refine cy_seq ?_
   refine cy_seq ?_
   refine cy_region ?_
   refine sy_move rfl rfl rfl ?_
   refine sy_move rfl rfl rfl ?_
   refine sy_len rfl (len_slice Tryd.underlying45 _ _ _) rfl rfl ?_
   refine sy_cmp rfl rfl rfl rfl rfl ?_
   refine sy_nil rfl ?_
   refine ny_next ?_
   refine cy_cond rfl (fun hc30 => ?_) (fun hc30 => ?_)
   · have hlt : i < (scTs (scanA s.data.toList)).length := by have := of_decide_eq_true hc30; omega
     refine cy_skip ?_
     refine ny_next ?_
     refine cy_block ?_
     refine cy_seq ?_
     refine cy_region ?_
     refine sy_move rfl rfl rfl ?_
     refine sy_move rfl rfl rfl ?_
     refine sy_move rfl rfl rfl ?_
     refine sy_callx call_22 rfl (show CX Tryd.prog _ [.slice A18 (scTs (scanA s.data.toList)).length c18, _, _] _ _ _ from hmL ▸ read_c A18 c18 ((scTs (scanA s.data.toList)).map rtOf) lv i _ hTz (by omega) hqN (fun j => Nat.le_trans (hpw j) (by decide)) (by omega)) rfl rfl (fun x35 h35 hx35 hle35 => ?_)
     obtain ⟨hro35, hlg⟩ := hx35
     refine sy_move rfl rfl rfl ?_
     refine sy_extract rfl rfl rfl rfl ?_
     refine sy_extract rfl rfl rfl rfl ?_
     refine sy_extract rfl rfl rfl rfl ?_
     refine sy_extract rfl rfl rfl rfl ?_
     refine sy_alloc zer_30 rfl rfl (fun b12 hb12 hM12 => ?_) (by simp)
     first | refine sy_stl 0 sz_30 rfl rfl rfl rfl rfl rfl rfl rfl ?_ | refine sy_stl 1 sz_30 rfl rfl rfl rfl rfl rfl rfl rfl ?_ | refine sy_stl 2 sz_30 rfl rfl rfl rfl rfl rfl rfl rfl ?_ | refine sy_stl 3 sz_30 rfl rfl rfl rfl rfl rfl rfl rfl ?_ | refine sy_stl 4 sz_30 rfl rfl rfl rfl rfl rfl rfl rfl ?_ | refine sy_stl 5 sz_30 rfl rfl rfl rfl rfl rfl rfl rfl ?_ | refine sy_stl 6 sz_30 rfl rfl rfl rfl rfl rfl rfl rfl ?_ | refine sy_stl 7 sz_30 rfl rfl rfl rfl rfl rfl rfl rfl ?_
     refine sy_assign rfl rfl rfl ?_
     refine sy_assign rfl rfl rfl ?_
     refine sy_assign rfl rfl rfl ?_
     refine sy_nil rfl ?_
     refine ny_next ?_
     refine cy_seq ?_
     refine cy_seq ?_
     refine cy_region ?_
     refine sy_move rfl rfl rfl ?_
     refine sy_cmp rfl rfl rfl rfl rfl ?_
     refine sy_nil rfl ?_
     refine ny_next ?_
     refine cy_cond rfl (fun hc41 => ?_) (fun hc41 => ?_)
     · have hrb : readS ((scTs (scanA s.data.toList)).map rtOf) lv i = .bad x35.2.2.1 x35.2.2.2 := by
        rcases hro35 with ⟨s9, _, _, h9⟩ | h9
        · rw [h9] at hc41; exact absurd hc41 (by decide)
        · exact h9
       refine cy_seq ?_
       refine cy_region ?_
       refine sy_move rfl rfl rfl ?_
       refine sy_move rfl rfl rfl ?_
       refine sy_assign rfl rfl rfl ?_
       refine sy_assign rfl rfl rfl ?_
       refine sy_assign rfl rfl rfl ?_
       refine sy_nil rfl ?_
       refine ny_next ?_
       refine cy_ret ?_
       refine ny_thenR ?_
       refine ny_blockR ?_
       refine ny_thenR ?_
       refine ny_blockR ?_
       refine ny_thenR ?_
       have hres : (allA lv s.data.toList) = .bad x35.2.2.1 x35.2.2.2 := by rw [hyes, ← hro]; exact allS_no (by omega) (by omega) hrb
       refine ny_finR (res3 rfl rfl rfl rfl) (fun w9 hs => ⟨([], none, 0), _, ?_, ?_, hs.toGrow⟩)
       · rw [hres]; rfl
       · rw [hres]; exact allP_no _ _ _
     · obtain ⟨s9, hrk, hat35⟩ : ∃ s9, readS ((scTs (scanA s.data.toList)).map rtOf) lv i = .ok x35.1.tm s9 ∧ x35.2.2.1 = s9.at_ := by
        rcases hro35 with ⟨s9, h9, h8, _⟩ | h9
        · exact ⟨s9, h9, h8⟩
        · have h8 := (readS_okb _ _ _ _ _ h9).1
          have h7 : x35.2.2.2 = 0 := by simpa using hc41
          omega
       have hfw := readS_fwd (by omega) hrk
       have hwt35 : wtG x35.1 ≤ 294912 := by
        obtain ⟨j, hj⟩ := readS_wt (by omega) hrk
        rw [wtG_tm]
        exact Nat.le_trans hj (hpw j)
       refine cy_skip ?_
       refine ny_next ?_
       refine cy_seq ?_
       refine cy_region ?_
       refine sy_move rfl rfl rfl ?_
       first | refine sy_ldar 0 agg_30 rfl rfl rfl rfl rfl ?_ | refine sy_ldar 1 agg_30 rfl rfl rfl rfl rfl ?_ | refine sy_ldar 2 agg_30 rfl rfl rfl rfl rfl ?_ | refine sy_ldar 3 agg_30 rfl rfl rfl rfl rfl ?_ | refine sy_ldar 4 agg_30 rfl rfl rfl rfl rfl ?_ | refine sy_ldar 5 agg_30 rfl rfl rfl rfl rfl ?_ | refine sy_ldar 6 agg_30 rfl rfl rfl rfl rfl ?_ | refine sy_ldar 7 agg_30 rfl rfl rfl rfl rfl ?_
       refine sy_buildSlice (cs := [x35.1].flatMap GT.cells) rfl (fun w => bsl_23_1_0 w) rfl rfl (fun b46 hb46 hM46 => ?_) (by simp)
       refine sy_append 2 0 row_23 (by decide) rfl rfl rfl rfl rfl rfl (by omega) (by simp only [maxLen]; omega) rfl rfl (fun v47 => ?_)
       refine sy_assign rfl rfl rfl ?_
       refine sy_nil rfl ?_
       refine ny_next ?_
       refine cy_region ?_
       refine sy_move rfl rfl rfl ?_
       refine sy_assign rfl rfl rfl ?_
       refine sy_nil rfl ?_
       refine ny_blockN ?_
       refine ny_roundK [1, 7] ⟨acc ++ [x35.1], x35.2.2.1, v47, h35, m - 1⟩ [0] ⟨(by show x35.2.2.1 ≤ _; omega), (by rw [← hro, allS_more (by omega) (by omega) hrk, List.map_append, List.map_cons, List.map_nil, hat35]), (by show (scTs (scanA s.data.toList)).length + 1 ≤ m - 1 + x35.2.2.1; omega), hlez.trans hle35, (fun t h9 => (List.mem_append.1 h9).elim (fun h8 => ⟨⟨(hgt t h8).1.1.le hle35, (hgt t h8).1.2⟩, (hgt t h8).2⟩) (fun h8 => by rw [List.mem_singleton.1 h8]; exact ⟨hlg, hwt35⟩)), (by show (acc ++ [x35.1]).length ≤ x35.2.2.1; rw [List.length_append, List.length_cons, List.length_nil]; omega)⟩ (by show (scTs (scanA s.data.toList)).length - x35.2.2.1 < (scTs (scanA s.data.toList)).length - i; omega) rfl ⟨rfl, rfl, trivial⟩ rfl (by show some [_] = some [_]; rw [List.length_append, GT.cells_snoc]; rfl)
   · have hie : i = (scTs (scanA s.data.toList)).length := by have := of_decide_eq_false hc30; omega
     refine cy_frzRow 0 rfl (fun _ _ => by simp) (fun AF cF hF hvF hlcF hcmF _ hleF hcellF => ?_)
     subst hvF
     refine cy_exit ?_
     refine ny_thenE ?_
     refine ny_thenE ?_
     refine ny_blockX ?_
     refine ny_next ?_
     refine cy_seq ?_
     refine cy_region ?_
     refine sy_move rfl rfl rfl ?_
     refine sy_assign rfl rfl rfl ?_
     refine sy_assign rfl rfl rfl ?_
     refine sy_assign rfl rfl rfl ?_
     refine sy_nil rfl ?_
     refine ny_next ?_
     refine cy_ret ?_
     have hres : (allA lv s.data.toList) = .ok (acc.map GT.tm) := by rw [hyes, ← hro]; exact allS_end (by omega)
     refine ny_finR (res3 rfl rfl rfl rfl) (fun w9 hs => ⟨(acc, AF, cF), hF, ?_, ?_, hs.toGrow⟩)
     · rw [hres]; rfl
     · rw [hres]; exact ⟨rfl, rows_row (by decide) (GT.cells_len _) hcellF, hlcF, (by show acc.length ≤ 4096; omega), fun t h9 => ⟨⟨(hgt t h9).1.1.le hleF, (hgt t h9).1.2⟩, (hgt t h9).2⟩⟩
end Go.Proofs.YtanhhihechakhaaDoor
set_option linter.unusedVariables false
namespace Go.Proofs.YtanhhihechakhaaDoor.ReadP
open Go.RowKit Go.Proofs.YtanhhihechakhaaDoor.E Go.Proofs.YtanhhihechakhaaDoor.ReplP Go.Proofs.YtanhhihechakhaaDoor.TokP Go.Proofs.YtanhhihechakhaaDoor.TermP Go.Proofs.YtanhhihechakhaaDoor.WrP Go.Proofs.YtanhhihechakhaaDoor.OpsP
def shL7 : List Tm := [funT ⟨#[45]⟩ [funT ⟨#[45]⟩ [numT 1, numT 2], numT 3], .mk 4 2 ⟨#[]⟩ [funT ⟨#[97]⟩ []]]
theorem sh_all : allA 4 [49, 32, 45, 32, 50, 32, 45, 32, 51, 46, 32, 97, 64, 50, 46] = .ok shL7 := by kernel_rfl
end Go.Proofs.YtanhhihechakhaaDoor.ReadP
set_option linter.unusedVariables false
set_option linter.unusedSimpArgs false
namespace Go.Proofs.YtanhhihechakhaaDoor
open Go.RowKit Go.Proofs.YtanhhihechakhaaDoor.E Go.Proofs.YtanhhihechakhaaDoor.ReplP Go.Proofs.YtanhhihechakhaaDoor.TokP Go.Proofs.YtanhhihechakhaaDoor.TermP Go.Proofs.YtanhhihechakhaaDoor.WrP Go.Proofs.YtanhhihechakhaaDoor.ReadP Go.Proofs.YtanhhihechakhaaDoor.OpsP
set_option maxRecDepth 100000 in
theorem same3_c (t : GT) : ∀ (u : GT) (h : Hp), Lies h t → Fits t → Lies h u → Fits u → C0 Tryd.prog 28 [.agg (GT.cells t).toArray, .agg (GT.cells u).toArray] h (.bool (sameT t.tm u.tm)) := by
 induction t using GT.ind
 rename_i tk tn ts tA tc kids ih
 intro u h hl hf hm hg
 have hroom := hf.room
 show C0 Tryd.prog 28 [.agg #[.int .i64 tk, .int .i64 tn, .string ts, .slice tA kids.length tc], .agg #[.int .i64 u.k, .int .i64 u.n, .string u.s, .slice u.A u.kids.length u.c]] h (.bool (sameT (GT.mk tk tn ts tA tc kids).tm u.tm))
 refine enter0 Tryd.func28 rfl rfl rfl (fun w => ?_)
 refine cy_seq ?_
 refine cy_region ?_
 refine sy_box rfl rfl rfl rfl (fun b2 hb2 hM2 => ?_) (by simp)
 refine sy_box rfl rfl rfl rfl (fun b3 hb3 hM3 => ?_) (by simp)
 refine sy_assign rfl rfl rfl ?_
 refine sy_nil rfl ?_
 refine ny_next ?_
 refine cy_seq ?_
 refine cy_seq ?_
 refine cy_frz 0 rfl (by simp) (fun h1 hle1 hbu => ?_)
 refine cy_frz 0 rfl (by simp) (fun h2 hle2 hbt => ?_)
 replace hbu := hle2 _ _ hbu
 replace hl := (hl.le hle1).le hle2
 replace hm := (hm.le hle1).le hle2
 have hr := hl.rows
 have hru := lies_rows hm
 refine cy_region ?_
 refine sy_field fld_30_0 rfl rfl rfl ?_
 refine sy_ldh one_3 rfl (Hp.blk hbt 0 _ rfl) rfl rfl ?_
 refine sy_field fld_30_0 rfl rfl rfl ?_
 refine sy_ldh one_3 rfl (Hp.blk hbu 0 _ rfl) rfl rfl ?_
 refine sy_cmp rfl rfl rfl rfl rfl ?_
 refine sy_move rfl rfl rfl ?_
 refine sy_cond (d := 11) _ rfl rfl (fun hg11 => ?_) (fun hg11 => ?_)
 · refine sy_skip rfl rfl rfl ?_
   refine sy_skip rfl rfl rfl ?_
   refine sy_skip rfl rfl rfl ?_
   refine sy_skip rfl rfl rfl ?_
   refine sy_skip rfl rfl rfl ?_
   refine sy_pickT rfl rfl rfl rfl ?_
   refine sy_move rfl rfl rfl ?_
   refine sy_skip rfl rfl rfl ?_
   refine sy_skip rfl rfl rfl ?_
   refine sy_skip rfl rfl rfl ?_
   refine sy_skip rfl rfl rfl ?_
   refine sy_skip rfl rfl rfl ?_
   refine sy_pickT rfl rfl rfl rfl ?_
   refine sy_move rfl rfl rfl ?_
   refine sy_skip rfl rfl rfl ?_
   refine sy_skip rfl rfl rfl ?_
   refine sy_skip rfl rfl rfl ?_
   refine sy_skip rfl rfl rfl ?_
   refine sy_skip rfl rfl rfl ?_
   refine sy_skip rfl rfl rfl ?_
   refine sy_skip rfl rfl rfl ?_
   refine sy_pickT rfl rfl rfl rfl ?_
   refine sy_nil rfl ?_
   refine ny_next ?_
   refine cy_condT rfl ?_
   have hres : sameT (GT.mk tk tn ts tA tc kids).tm u.tm = false := by
    rw [GT.tm_mk, ← Tm.eta u.tm, GT.tm_k, GT.tm_n, GT.tm_s, GT.tm_kids, same_mk]
    first
    | (have h9 := hg25
       have q : (ts.data.toList == u.s.data.toList) = false := by simpa using h9
       rw [q, Bool.and_false]; rfl)
    | (have h9 := hg18
       have q : (tn == u.n) = false := by simpa using h9
       rw [q, Bool.and_false]; rfl)
    | (have h9 := hg11
       have q : (tk == u.k) = false := by simpa using h9
       rw [q]; rfl)
   refine cy_seq ?_
   refine cy_region ?_
   refine sy_assign rfl rfl rfl ?_
   refine sy_nil rfl ?_
   refine ny_next ?_
   refine cy_ret ?_
   refine ny_thenR ?_
   refine ny_finR (res1 rfl rfl) (fun w hs2 => ⟨?_, hs2.frm⟩)
   rw [hres]
 · refine sy_field fld_30_1 rfl rfl rfl ?_
   refine sy_ldh one_2 rfl (Hp.blk hbt 1 _ rfl) rfl rfl ?_
   refine sy_field fld_30_1 rfl rfl rfl ?_
   refine sy_ldh one_2 rfl (Hp.blk hbu 1 _ rfl) rfl rfl ?_
   refine sy_cmp rfl rfl rfl rfl rfl ?_
   refine sy_pickF rfl rfl rfl rfl ?_
   refine sy_move rfl rfl rfl ?_
   refine sy_cond (d := 18) _ rfl rfl (fun hg18 => ?_) (fun hg18 => ?_)
   · refine sy_skip rfl rfl rfl ?_
     refine sy_skip rfl rfl rfl ?_
     refine sy_skip rfl rfl rfl ?_
     refine sy_skip rfl rfl rfl ?_
     refine sy_skip rfl rfl rfl ?_
     refine sy_pickT rfl rfl rfl rfl ?_
     refine sy_move rfl rfl rfl ?_
     refine sy_skip rfl rfl rfl ?_
     refine sy_skip rfl rfl rfl ?_
     refine sy_skip rfl rfl rfl ?_
     refine sy_skip rfl rfl rfl ?_
     refine sy_skip rfl rfl rfl ?_
     refine sy_skip rfl rfl rfl ?_
     refine sy_skip rfl rfl rfl ?_
     refine sy_pickT rfl rfl rfl rfl ?_
     refine sy_nil rfl ?_
     refine ny_next ?_
     refine cy_condT rfl ?_
     have hres : sameT (GT.mk tk tn ts tA tc kids).tm u.tm = false := by
      rw [GT.tm_mk, ← Tm.eta u.tm, GT.tm_k, GT.tm_n, GT.tm_s, GT.tm_kids, same_mk]
      first
      | (have h9 := hg25
         have q : (ts.data.toList == u.s.data.toList) = false := by simpa using h9
         rw [q, Bool.and_false]; rfl)
      | (have h9 := hg18
         have q : (tn == u.n) = false := by simpa using h9
         rw [q, Bool.and_false]; rfl)
      | (have h9 := hg11
         have q : (tk == u.k) = false := by simpa using h9
         rw [q]; rfl)
     refine cy_seq ?_
     refine cy_region ?_
     refine sy_assign rfl rfl rfl ?_
     refine sy_nil rfl ?_
     refine ny_next ?_
     refine cy_ret ?_
     refine ny_thenR ?_
     refine ny_finR (res1 rfl rfl) (fun w hs2 => ⟨?_, hs2.frm⟩)
     rw [hres]
   · refine sy_field fld_30_2 rfl rfl rfl ?_
     refine sy_ldh one_9 rfl (Hp.blk hbt 2 _ rfl) rfl rfl ?_
     refine sy_field fld_30_2 rfl rfl rfl ?_
     refine sy_ldh one_9 rfl (Hp.blk hbu 2 _ rfl) rfl rfl ?_
     refine sy_nes rfl rfl rfl rfl ?_
     refine sy_pickF rfl rfl rfl rfl ?_
     refine sy_move rfl rfl rfl ?_
     refine sy_cond (d := 25) _ rfl rfl (fun hg25 => ?_) (fun hg25 => ?_)
     · refine sy_skip rfl rfl rfl ?_
       refine sy_skip rfl rfl rfl ?_
       refine sy_skip rfl rfl rfl ?_
       refine sy_skip rfl rfl rfl ?_
       refine sy_skip rfl rfl rfl ?_
       refine sy_skip rfl rfl rfl ?_
       refine sy_skip rfl rfl rfl ?_
       refine sy_pickT rfl rfl rfl rfl ?_
       refine sy_nil rfl ?_
       refine ny_next ?_
       refine cy_condT rfl ?_
       have hres : sameT (GT.mk tk tn ts tA tc kids).tm u.tm = false := by
        rw [GT.tm_mk, ← Tm.eta u.tm, GT.tm_k, GT.tm_n, GT.tm_s, GT.tm_kids, same_mk]
        first
        | (have h9 := hg25
           have q : (ts.data.toList == u.s.data.toList) = false := by simpa using h9
           rw [q, Bool.and_false]; rfl)
        | (have h9 := hg18
           have q : (tn == u.n) = false := by simpa using h9
           rw [q, Bool.and_false]; rfl)
        | (have h9 := hg11
           have q : (tk == u.k) = false := by simpa using h9
           rw [q]; rfl)
       refine cy_seq ?_
       refine cy_region ?_
       refine sy_assign rfl rfl rfl ?_
       refine sy_nil rfl ?_
       refine ny_next ?_
       refine cy_ret ?_
       refine ny_thenR ?_
       refine ny_finR (res1 rfl rfl) (fun w hs2 => ⟨?_, hs2.frm⟩)
       rw [hres]
     · refine sy_field fld_30_3 rfl rfl rfl ?_
       refine sy_ldh one_23 rfl (Hp.blk hbt 3 _ rfl) rfl rfl ?_
       refine sy_len rfl (len_slice Tryd.underlying23 _ _ _) rfl rfl ?_
       refine sy_field fld_30_3 rfl rfl rfl ?_
       refine sy_ldh one_23 rfl (Hp.blk hbu 3 _ rfl) rfl rfl ?_
       refine sy_len rfl (len_slice Tryd.underlying23 _ _ _) rfl rfl ?_
       refine sy_cmp rfl rfl rfl rfl rfl ?_
       refine sy_pickF rfl rfl rfl rfl ?_
       refine sy_nil rfl ?_
       refine ny_next ?_
       refine cy_cond rfl (fun hc33 => ?_) (fun hc33 => ?_)
       · have hres : sameT (GT.mk tk tn ts tA tc kids).tm u.tm = false := by
          rw [GT.tm_mk, ← Tm.eta u.tm, GT.tm_k, GT.tm_n, GT.tm_s, GT.tm_kids, same_mk]
          have q : samesT (kids.map GT.tm) (u.kids.map GT.tm) = false := sames_len (by rw [List.length_map, List.length_map]; intro h9; rw [h9] at hc33; simp at hc33)
          rw [q, Bool.and_false]
         refine cy_seq ?_
         refine cy_region ?_
         refine sy_assign rfl rfl rfl ?_
         refine sy_nil rfl ?_
         refine ny_next ?_
         refine cy_ret ?_
         refine ny_thenR ?_
         refine ny_finR (res1 rfl rfl) (fun w hs2 => ⟨?_, hs2.frm⟩)
         rw [hres]
       · have heq : kids.length = u.kids.length := by
          have h9 : ((kids.length : Int) == (u.kids.length : Int)) = true := by simpa using hc33
          have := eq_of_beq h9
          omega
         refine cy_skip ?_
         refine ny_next ?_
         refine cy_seq ?_
         refine cy_seq ?_
         refine cy_region ?_
         refine sy_assign rfl rfl rfl ?_
         refine sy_nil rfl ?_
         refine ny_next ?_
         refine cy_block ?_
         refine cy_loopK (ι := Nat) [2, 3] rfl (fun i => i ≤ kids.length ∧ samesT ((kids.take i).map GT.tm) ((u.kids.take i).map GT.tm) = true) (fun i => kids.length - i) (fun i => [(5, .int .i64 (i : Int))]) (fun i => h2) (fun i => []) 0 [] ⟨Nat.zero_le _, by simp [samesT]⟩ ⟨rfl, trivial⟩ rfl rfl ?_
         rintro i ⟨hI, hall⟩
         refine cy_seq ?_
         refine cy_seq ?_
         refine cy_region ?_
         refine sy_move rfl rfl rfl ?_
         refine sy_field fld_30_3 rfl rfl rfl ?_
         refine sy_ldh one_23 rfl (Hp.blk hbt 3 _ rfl) rfl rfl ?_
         refine sy_len rfl (len_slice Tryd.underlying23 _ _ _) rfl rfl ?_
         refine sy_cmp rfl rfl rfl rfl rfl ?_
         refine sy_nil rfl ?_
         refine ny_next ?_
         refine cy_cond rfl (fun hc38 => ?_) (fun hc38 => ?_)
         · have hlti : i < kids.length := by have := of_decide_eq_true hc38; omega
           refine cy_skip ?_
           refine ny_next ?_
           refine cy_seq ?_
           refine cy_block ?_
           refine cy_seq ?_
           refine cy_regionQ mixed (by kernel_rfl) ?_
           refine sy_field fld_30_3 rfl rfl rfl ?_
           refine sy_ldh one_23 rfl (Hp.blk hbt 3 _ rfl) rfl rfl ?_
           refine sy_move rfl rfl rfl ?_
           refine sy_idxR (fc := GT.cells) (es := kids) els_23 rfl rfl hr rfl (by omega) rfl rfl (fun e44 b44 o44 he44 hA44 hc44 => ?_)
           refine sy_ldah (vs := GT.cells e44) agg_30 rfl rfl hc44 rfl rfl ?_
           refine sy_field fld_30_3 rfl rfl rfl ?_
           refine sy_ldh one_23 rfl (Hp.blk hbu 3 _ rfl) rfl rfl ?_
           refine sy_move rfl rfl rfl ?_
           refine sy_idxR (fc := GT.cells) (es := u.kids) els_23 rfl rfl hru rfl (by omega) rfl rfl (fun e49 b49 o49 he49 hA49 hc49 => ?_)
           refine sy_ldah (vs := GT.cells e49) agg_30 rfl rfl hc49 rfl rfl ?_
           refine sy_call rfl call_28 rfl (ih e44 (List.mem_of_getElem? he44) e49 _ (hl.at he44) (hf.at he44) (lies_kid hm (List.mem_of_getElem? he49)) (fits_kid hg (List.mem_of_getElem? he49))) rfl rfl ?_
           refine sy_not rfl rfl rfl ?_
           refine sy_nil rfl ?_
           refine ny_next ?_
           refine cy_cond rfl (fun hc52 => ?_) (fun hc52 => ?_)
           · have hres : sameT (GT.mk tk tn ts tA tc kids).tm u.tm = false := by
              rw [GT.tm_mk, ← Tm.eta u.tm, GT.tm_k, GT.tm_n, GT.tm_s, GT.tm_kids, same_mk]
              rw [sames_no he44 he49 (by simpa using hc52), Bool.and_false]
             refine cy_seq ?_
             refine cy_region ?_
             refine sy_assign rfl rfl rfl ?_
             refine sy_nil rfl ?_
             refine ny_next ?_
             refine cy_ret ?_
             refine ny_blockR ?_
             refine ny_thenR ?_
             refine ny_thenR ?_
             refine ny_blockR ?_
             refine ny_thenR ?_
             refine ny_finR (res1 rfl rfl) (fun w hs2 => ⟨?_, hs2.frm⟩)
             rw [hres]
           · refine cy_skip ?_
             refine ny_blockN ?_
             refine ny_next ?_
             refine cy_region ?_
             refine sy_move rfl rfl rfl ?_
             refine sy_addi (z := ((i + 1 : Nat) : Int)) rfl rfl (by omega) (by omega) (by omega) rfl rfl ?_
             refine sy_assign rfl rfl rfl ?_
             refine sy_nil rfl ?_
             refine ny_roundK [2, 3] (i + 1) [] ⟨(show i + 1 ≤ kids.length by omega), by rw [sames_succ he44 he49, hall]; simpa using hc52⟩ (show kids.length - (i + 1) < kids.length - i by omega) rfl ⟨rfl, trivial⟩ rfl rfl
         · have hie : i = kids.length := by have := of_decide_eq_false hc38; omega
           subst hie
           rw [List.take_length, heq, List.take_length] at hall
           have hres : sameT (GT.mk tk tn ts tA tc kids).tm u.tm = true := by
            rw [GT.tm_mk, ← Tm.eta u.tm, GT.tm_k, GT.tm_n, GT.tm_s, GT.tm_kids, same_mk, hall]
            have q1 : (tk == u.k) = true := by { have h9 := hg11; simpa using h9 }
            have q2 : (tn == u.n) = true := by { have h9 := hg18; simpa using h9 }
            have q3 : (ts.data.toList == u.s.data.toList) = true := by { have h9 := hg25; simpa using h9 }
            rw [q1, q2, q3]
            rfl
           refine cy_exit ?_
           refine ny_thenE ?_
           refine ny_thenE ?_
           refine ny_blockX ?_
           refine ny_next ?_
           refine cy_seq ?_
           refine cy_region ?_
           refine sy_assign rfl rfl rfl ?_
           refine sy_nil rfl ?_
           refine ny_next ?_
           refine cy_ret ?_
           refine ny_finR (res1 rfl rfl) (fun w hs2 => ⟨?_, hs2.frm⟩)
           rw [hres]
set_option maxRecDepth 100000 in
theorem lists_c (ks ls : List GT) (A B : Option Addr) (c d : Nat) (h : Hp) (hK : RowsAt h A 4 (ks.map GT.cells)) (hL : RowsAt h B 4 (ls.map GT.cells)) (hgK : ∀ t ∈ ks, Lies h t ∧ Fits t) (hgL : ∀ t ∈ ls, Lies h t ∧ Fits t) (hlK : ks.length ≤ 2513169434916) : C0 Tryd.prog 13 [.slice A ks.length c, .slice B ls.length d] h (.bool (samesT (ks.map GT.tm) (ls.map GT.tm))) := by
 refine enter0 Tryd.func13 rfl rfl rfl (fun w => ?_)
 refine cy_seq ?_
 refine cy_region ?_
 refine sy_assign rfl rfl rfl ?_
 refine sy_nil rfl ?_
 refine ny_next ?_
 refine cy_seq ?_
 refine cy_seq ?_
 refine cy_region ?_
 refine sy_move rfl rfl rfl ?_
 refine sy_len rfl (len_slice Tryd.underlying23 _ _ _) rfl rfl ?_
 refine sy_move rfl rfl rfl ?_
 refine sy_len rfl (len_slice Tryd.underlying23 _ _ _) rfl rfl ?_
 refine sy_cmp rfl rfl rfl rfl rfl ?_
 refine sy_nil rfl ?_
 refine ny_next ?_
 refine cy_cond rfl (fun hc10 => ?_) (fun hc10 => ?_)
 · have hne : ¬ ks.length = ls.length := by
    intro h9
    rw [h9] at hc10
    simp at hc10
   have hres := sames_len (ks := ks.map GT.tm) (ls := ls.map GT.tm) (by rwa [List.length_map, List.length_map])
   refine cy_seq ?_
   refine cy_region ?_
   refine sy_assign rfl rfl rfl ?_
   refine sy_nil rfl ?_
   refine ny_next ?_
   refine cy_ret ?_
   refine ny_thenR ?_
   refine ny_finR (res1 rfl rfl) (fun w hs2 => ⟨?_, hs2.frm⟩)
   rw [hres]
 · have heq : ks.length = ls.length := by
    have h9 : ((ks.length : Int) == (ls.length : Int)) = true := by simpa using hc10
    have := eq_of_beq h9
    omega
   refine cy_skip ?_
   refine ny_next ?_
   refine cy_seq ?_
   refine cy_seq ?_
   refine cy_region ?_
   refine sy_assign rfl rfl rfl ?_
   refine sy_nil rfl ?_
   refine ny_next ?_
   refine cy_block ?_
   refine cy_loopK (ι := Nat) [0, 1] rfl (fun i => i ≤ ks.length ∧ samesT ((ks.take i).map GT.tm) ((ls.take i).map GT.tm) = true) (fun i => ks.length - i) (fun i => [(5, .int .i64 (i : Int))]) (fun i => h) (fun i => []) 0 [] ⟨Nat.zero_le _, by simp [samesT]⟩ ⟨rfl, trivial⟩ rfl rfl ?_
   rintro i ⟨hI, hall⟩
   refine cy_seq ?_
   refine cy_seq ?_
   refine cy_region ?_
   refine sy_move rfl rfl rfl ?_
   refine sy_move rfl rfl rfl ?_
   refine sy_len rfl (len_slice Tryd.underlying23 _ _ _) rfl rfl ?_
   refine sy_cmp rfl rfl rfl rfl rfl ?_
   refine sy_nil rfl ?_
   refine ny_next ?_
   refine cy_cond rfl (fun hc14 => ?_) (fun hc14 => ?_)
   · have hlti : i < ks.length := by have := of_decide_eq_true hc14; omega
     refine cy_skip ?_
     refine ny_next ?_
     refine cy_seq ?_
     refine cy_block ?_
     refine cy_seq ?_
     refine cy_regionQ mixed (by kernel_rfl) ?_
     refine sy_move rfl rfl rfl ?_
     refine sy_move rfl rfl rfl ?_
     refine sy_idxR (fc := GT.cells) (es := ks) els_23 rfl rfl hK rfl (by omega) rfl rfl (fun e19 b19 o19 he19 hA19 hc19 => ?_)
     refine sy_ldah (vs := GT.cells e19) agg_30 rfl rfl hc19 rfl rfl ?_
     refine sy_move rfl rfl rfl ?_
     refine sy_move rfl rfl rfl ?_
     refine sy_idxR (fc := GT.cells) (es := ls) els_23 rfl rfl hL rfl (by omega) rfl rfl (fun e23 b23 o23 he23 hA23 hc23 => ?_)
     refine sy_ldah (vs := GT.cells e23) agg_30 rfl rfl hc23 rfl rfl ?_
     refine sy_call rfl call_28 rfl (same3_c e19 e23 _ (hgK e19 (List.mem_of_getElem? he19)).1 (hgK e19 (List.mem_of_getElem? he19)).2 (hgL e23 (List.mem_of_getElem? he23)).1 (hgL e23 (List.mem_of_getElem? he23)).2) rfl rfl ?_
     refine sy_not rfl rfl rfl ?_
     refine sy_nil rfl ?_
     refine ny_next ?_
     refine cy_cond rfl (fun hc26 => ?_) (fun hc26 => ?_)
     · have hres := sames_no he19 he23 (by simpa using hc26)
       refine cy_seq ?_
       refine cy_region ?_
       refine sy_assign rfl rfl rfl ?_
       refine sy_nil rfl ?_
       refine ny_next ?_
       refine cy_ret ?_
       refine ny_blockR ?_
       refine ny_thenR ?_
       refine ny_thenR ?_
       refine ny_blockR ?_
       refine ny_thenR ?_
       refine ny_finR (res1 rfl rfl) (fun w hs2 => ⟨?_, hs2.frm⟩)
       rw [hres]
     · refine cy_skip ?_
       refine ny_blockN ?_
       refine ny_next ?_
       refine cy_region ?_
       refine sy_move rfl rfl rfl ?_
       refine sy_addi (z := ((i + 1 : Nat) : Int)) rfl rfl (by omega) (by omega) (by omega) rfl rfl ?_
       refine sy_assign rfl rfl rfl ?_
       refine sy_nil rfl ?_
       refine ny_roundK [0, 1] (i + 1) [] ⟨(show i + 1 ≤ ks.length by omega), by rw [sames_succ he19 he23, hall]; simpa using hc26⟩ (show ks.length - (i + 1) < ks.length - i by omega) rfl ⟨rfl, trivial⟩ rfl rfl
   · have hie : i = ks.length := by have := of_decide_eq_false hc14; omega
     subst hie
     rw [List.take_length, heq, List.take_length] at hall
     have hres := hall
     refine cy_exit ?_
     refine ny_thenE ?_
     refine ny_thenE ?_
     refine ny_blockX ?_
     refine ny_next ?_
     refine cy_seq ?_
     refine cy_region ?_
     refine sy_assign rfl rfl rfl ?_
     refine sy_nil rfl ?_
     refine ny_next ?_
     refine cy_ret ?_
     refine ny_finR (res1 rfl rfl) (fun w hs2 => ⟨?_, hs2.frm⟩)
     rw [hres]
theorem bare_snoc {l : List UInt8} {i : Nat} {c : UInt8} (h : l[i]? = some c) (hb : bareB (l.take i) = true) (h1 : ¬ c = 37) (h2 : ¬ c = 46) : bareB (l.take (i + 1)) = true := by
 unfold bareB at hb ⊢
 rw [List.take_add_one, h, List.all_append, hb]
 simp [h1, h2]
theorem bare_not {l : List UInt8} {i : Nat} {c : UInt8} (h : l[i]? = some c) (h1 : c = 37 ∨ c = 46) : bareB l = false := by
 unfold bareB
 rw [List.all_eq_false]
 refine ⟨c, List.mem_of_getElem? h, ?_⟩
 rcases h1 with rfl | rfl <;> decide
set_option maxRecDepth 100000 in
theorem plainEnd_c (s : ByteArray) (h : Hp) (hs : s.size ≤ 9223372036854775807) : C0 Tryd.prog 14 [.string s] h (.bool (!bareB s.data.toList)) := by
 refine enter0 Tryd.func14 rfl rfl rfl (fun w => ?_)
 refine cy_seq ?_
 refine cy_region ?_
 refine sy_assign rfl rfl rfl ?_
 refine sy_nil rfl ?_
 refine ny_next ?_
 refine cy_seq ?_
 refine cy_seq ?_
 refine cy_region ?_
 refine sy_assign rfl rfl rfl ?_
 refine sy_nil rfl ?_
 refine ny_next ?_
 refine cy_block ?_
 refine cy_loopK (ι := Nat) [0] rfl (fun i => i ≤ s.size ∧ bareB (s.data.toList.take i) = true) (fun i => s.size - i) (fun i => [(3, .int .i64 (i : Int))]) (fun i => h) (fun i => []) 0 [] ⟨Nat.zero_le _, by simp [bareB]⟩ ⟨rfl, trivial⟩ rfl rfl ?_
 rintro i ⟨hI, hpre⟩
 refine cy_seq ?_
 refine cy_seq ?_
 refine cy_region ?_
 refine sy_move rfl rfl rfl ?_
 refine sy_move rfl rfl rfl ?_
 refine sy_len rfl (len_string Tryd.underlying9 _) rfl rfl ?_
 refine sy_cmp rfl rfl rfl rfl rfl ?_
 refine sy_nil rfl ?_
 refine ny_next ?_
 refine cy_cond rfl (fun hc7 => ?_) (fun hc7 => ?_)
 · have hlti : i < s.size := by have := of_decide_eq_true hc7; omega
   obtain ⟨e0, he0⟩ : ∃ e, s.data.toList[i]? = some e := ⟨_, List.getElem?_eq_getElem hlti⟩
   refine cy_skip ?_
   refine ny_next ?_
   refine cy_seq ?_
   refine cy_block ?_
   refine cy_seq ?_
   refine cy_region ?_
   refine sy_move rfl rfl rfl ?_
   refine sy_move rfl rfl rfl ?_
   refine sy_idxs (u := e0) Tryd.underlying9 rfl rfl (by omega) (ba_at (i := i) he0) rfl rfl ?_
   refine sy_cmp rfl rfl rfl rfl rfl ?_
   refine sy_move rfl rfl rfl ?_
   refine sy_cond (d := 14) _ rfl rfl (fun hg14 => ?_) (fun hg14 => ?_)
   · refine sy_skip rfl rfl rfl ?_
     refine sy_skip rfl rfl rfl ?_
     refine sy_skip rfl rfl rfl ?_
     refine sy_skip rfl rfl rfl ?_
     refine sy_pickT rfl rfl rfl rfl ?_
     refine sy_nil rfl ?_
     refine ny_next ?_
     refine cy_condT rfl ?_
     have hno := bare_not he0 (.inl (UInt8.toNat_inj.1 (by show e0.toNat = 37; have h9 : (e0.toNat : Int) = 37 := (by simpa using hg14); omega)))
     refine cy_seq ?_
     refine cy_region ?_
     refine sy_assign rfl rfl rfl ?_
     refine sy_nil rfl ?_
     refine ny_next ?_
     refine cy_ret ?_
     refine ny_blockR ?_
     refine ny_thenR ?_
     refine ny_thenR ?_
     refine ny_blockR ?_
     refine ny_thenR ?_
     refine ny_finR (res1 rfl rfl) (fun w hs2 => ⟨?_, hs2.frm⟩)
     rw [hno]; rfl
   · refine sy_move rfl rfl rfl ?_
     refine sy_move rfl rfl rfl ?_
     refine sy_idxs (u := e0) Tryd.underlying9 rfl rfl (by omega) (ba_at (i := i) he0) rfl rfl ?_
     refine sy_cmp rfl rfl rfl rfl rfl ?_
     refine sy_pickF rfl rfl rfl rfl ?_
     refine sy_nil rfl ?_
     refine ny_next ?_
     refine cy_cond rfl (fun hc19 => ?_) (fun hc19 => ?_)
     · have hno := bare_not he0 (.inr (UInt8.toNat_inj.1 (by show e0.toNat = 46; have h9 : (e0.toNat : Int) = 46 := (by simpa using hc19); omega)))
       refine cy_seq ?_
       refine cy_region ?_
       refine sy_assign rfl rfl rfl ?_
       refine sy_nil rfl ?_
       refine ny_next ?_
       refine cy_ret ?_
       refine ny_blockR ?_
       refine ny_thenR ?_
       refine ny_thenR ?_
       refine ny_blockR ?_
       refine ny_thenR ?_
       refine ny_finR (res1 rfl rfl) (fun w hs2 => ⟨?_, hs2.frm⟩)
       rw [hno]; rfl
     · refine cy_skip ?_
       refine ny_blockN ?_
       refine ny_next ?_
       refine cy_region ?_
       refine sy_move rfl rfl rfl ?_
       refine sy_addi (z := ((i + 1 : Nat) : Int)) rfl rfl (by omega) (by omega) (by omega) rfl rfl ?_
       refine sy_assign rfl rfl rfl ?_
       refine sy_nil rfl ?_
       refine ny_roundK [0] (i + 1) [] ⟨by omega, bare_snoc he0 hpre (fun h9 => by rw [h9] at hg14; exact absurd hg14 (by decide)) (fun h9 => by rw [h9] at hc19; exact absurd hc19 (by decide))⟩ (show s.size - (i + 1) < s.size - i by omega) rfl ⟨rfl, trivial⟩ rfl rfl
 · have hie : i = s.size := by have := of_decide_eq_false hc7; omega
   subst hie
   have htk : s.data.toList.take s.size = s.data.toList := List.take_of_length_le (Nat.le_refl _)
   rw [htk] at hpre
   refine cy_exit ?_
   refine ny_thenE ?_
   refine ny_thenE ?_
   refine ny_blockX ?_
   refine ny_next ?_
   refine cy_seq ?_
   refine cy_region ?_
   refine sy_assign rfl rfl rfl ?_
   refine sy_nil rfl ?_
   refine ny_next ?_
   refine cy_ret ?_
   refine ny_finR (res1 rfl rfl) (fun w hs2 => ⟨?_, hs2.frm⟩)
   rw [hpre]; rfl
end Go.Proofs.YtanhhihechakhaaDoor
set_option linter.unusedVariables false
namespace Go.Proofs.YtanhhihechakhaaDoor
open Go.ChangeShapes Go.WideShapes Go.ChangeAt Go.RowKit Go.Proofs.YtanhhihechakhaaDoor.E
theorem own : ownKnob Tryd.prog.godebug = none := by kernel_rfl
theorem et : Tryd.prog.globalNamed "errors.errorType" = some 0 := by kernel_rfl
theorem rtT : (Tryd.prog.cutTypes.find? (·.1 == "internal/reflectlite.rtype")).map (·.2) = some 108 := by kernel_rfl
theorem typesN : Tryd.prog.types.size = 172 := by kernel_rfl
theorem oneRow : ((List.range 172).filter fun t => Tryd.prog.rowNamed t [101, 114, 114, 111, 114]) = [47] := by kernel_rfl
theorem hdl_of {W : World} (h : laidMetH Tryd.prog [("errors.errorType", Rows.laid_errors_errorType)] W) : Hdl (hpOf W) := by
 have h' := (laidMetH_iff.1 h).2
 have hm0 : ("errors.errorType", (Rows.laid_errors_errorType : DataW Unit)) ∈ ([("errors.errorType", Rows.laid_errors_errorType)] : List (String × DataW Unit)).filter fun x => x.2.handleName?.isSome := by
  have e : (([("errors.errorType", Rows.laid_errors_errorType)] : List (String × DataW Unit)).filter fun x => x.2.handleName?.isSome) = [("errors.errorType", Rows.laid_errors_errorType)] := by kernel_rfl
  rw [e]
  exact List.mem_singleton.2 rfl
 have h2 : ∃ name u ty, (Rows.laid_errors_errorType : DataW Unit).handleName? = some name ∧ (Tryd.prog.cutTypes.find? (·.1 == "internal/reflectlite.rtype")).map (·.2) = some u ∧ ty < Tryd.prog.types.size ∧ Tryd.prog.rowNamed ty name = true ∧ W.var? Tryd.prog "errors.errorType" = some #[.iface u (.agg #[typeHandle Tryd.prog ty])] := h' _ hm0
 obtain ⟨name, u, ty, e1, e2, e3, e4, e5⟩ := h2
 have en : name = [101, 114, 114, 111, 114] := (Option.some.inj e1).symm
 subst en
 obtain rfl := Option.some.inj (rtT.symm.trans e2)
 have hm : ty ∈ (List.range 172).filter fun t => Tryd.prog.rowNamed t [101, 114, 114, 111, 114] := List.mem_filter.2 ⟨List.mem_range.2 (by rw [← typesN]; exact e3), e4⟩
 rw [oneRow] at hm
 obtain rfl := List.mem_singleton.1 hm
 have hh : typeHandle Tryd.prog 47 = .pointer (some ⟨2, 47, none⟩) := by kernel_rfl
 rw [hh] at e5
 have h3 : W.cell? ⟨0, 0, none⟩ = some (.iface 108 (.agg #[.pointer (some ⟨2, 47, none⟩)])) := by simpa using World.var?_cell et e5 0
 exact h3
theorem door_met (os : Os) (args : Array Value) : laidMetH Tryd.prog [("errors.errorType", Rows.laid_errors_errorType)] ((World.doorLaid Tryd.prog 400 os).forCall (fun _ _ => 0) ⟨#[], args, []⟩).memory :=
 laidMetH_of_parts (laidMet_of_run' 8 (by kernel_rfl) (by kernel_rfl)) (by kernel_rfl)
end Go.Proofs.YtanhhihechakhaaDoor
set_option linter.unusedVariables false
namespace Go.Proofs.YtanhhihechakhaaDoor
open Go.RowKit Go.Proofs.YtanhhihechakhaaDoor.E
theorem call_10 : callB Tryd.prog 10 = true := by kernel_rfl
theorem call_13 : callB Tryd.prog 13 = true := by kernel_rfl
theorem call_14 : callB Tryd.prog 14 = true := by kernel_rfl
theorem call_9 : callB Tryd.prog 9 = true := by kernel_rfl
theorem els_27 : elsB Tryd.prog 27 3 1 = true := by kernel_rfl
end Go.Proofs.YtanhhihechakhaaDoor
set_option linter.unusedVariables false
set_option linter.unusedSimpArgs false
namespace Go.Proofs.YtanhhihechakhaaDoor
open Go.RowKit Go.Proofs.YtanhhihechakhaaDoor.E Go.Proofs.YtanhhihechakhaaDoor.ReplP Go.Proofs.YtanhhihechakhaaDoor.TokP Go.Proofs.YtanhhihechakhaaDoor.TermP Go.Proofs.YtanhhihechakhaaDoor.WrP Go.Proofs.YtanhhihechakhaaDoor.ReadP Go.Proofs.YtanhhihechakhaaDoor.OpsP
theorem allL_c (s : ByteArray) (l : List UInt8) (hl : s.data.toList = l) (lv : Int) (h : Hp) (hh : Hdl h) : CX Tryd.prog 10 [.string s, .int .i64 lv] h (fun x : RdR => .tuple #[.slice x.2.1 x.1.length x.2.2, .int .i64 ((raAt (allA lv l) : Nat) : Int), .int .i64 (raE (allA lv l))]) (AllP (allA lv l)) := by
 subst hl
 exact allR_c s lv h hh
theorem raE_zero {lv : Int} {l : List UInt8} (h : raE (allA lv l) = 0) : ∃ ts, allA lv l = .ok ts := by
 cases hr : allA lv l with
 | ok ts => exact ⟨ts, rfl⟩
 | bad a e =>
  have h1 := allA_code hr
  rw [hr] at h
  have h : e = 0 := h
  omega
theorem raE_some {lv : Int} {l : List UInt8} (h : ∃ a e, allA lv l = .bad a e) : ¬ raE (allA lv l) = 0 := by
 obtain ⟨a, e, h⟩ := h
 have h1 := allA_code h
 rw [h]
 show ¬ e = 0
 omega
theorem map_two {es : List GT} {x y : Tm} (h : es.map GT.tm = [x, y]) : ∃ a b, es = [a, b] ∧ a.tm = x ∧ b.tm = y := by
 match es, h with
 | [a, b], h =>
  simp only [List.map_cons, List.map_nil, List.cons.injEq, and_true] at h
  exact ⟨a, b, rfl, h.1, h.2⟩
theorem same_refl {a b : Tm} (h : a = b) : sameT a b = true := (same_eq a b).2 h
set_option maxRecDepth 100000 in
theorem shown07_c (h : Hp) (hh : Hdl h) : C0 Tryd.prog 9 [] h (.bool true) := by
 refine enter0 Tryd.func9 rfl rfl rfl (fun w => ?_)
 refine cy_seq ?_
 refine cy_region ?_
 refine sy_assign rfl rfl rfl ?_
 refine sy_nil rfl ?_
 refine ny_next ?_
 refine cy_seq ?_
 refine cy_region ?_
 refine sy_callx call_10 rfl (allL_c _ ([49, 32, 45, 32, 50, 32, 45, 32, 51, 46, 32, 97, 64, 50, 46]) (rfl) (4) _ hh) rfl rfl (fun x6 h6 hx6 hle6 => ?_)
 obtain ⟨es6, A6, c6⟩ := x6
 obtain ⟨hT6, hr6, hc6, hz6, hg6⟩ := hx6
 simp only at hT6 hr6 hc6 hz6 hg6 ⊢
 replace hh := hh.le hle6
 rw [sh_all] at hT6 ⊢
 obtain ⟨q0, q1, rfl, hq0, hq1⟩ := map_two hT6
 have hk1 : q1.k = 4 := by rw [← GT.tm_k, hq1]; rfl
 have hn1 : q1.n = 2 := by rw [← GT.tm_n, hq1]; rfl
 refine sy_move rfl rfl rfl ?_
 refine sy_extract rfl rfl rfl rfl ?_
 refine sy_extract rfl rfl rfl rfl ?_
 refine sy_extract rfl rfl rfl rfl ?_
 refine sy_assign rfl rfl rfl ?_
 refine sy_assign rfl rfl rfl ?_
 refine sy_assign rfl rfl rfl ?_
 refine sy_nil rfl ?_
 refine ny_next ?_
 refine cy_seq ?_
 refine cy_region ?_
 refine sy_call rfl call_15 rfl (num_c 1 _) rfl rfl ?_
 refine sy_call rfl call_15 rfl (num_c 2 _) rfl rfl ?_
 refine sy_buildSlice (cs := [(GT.mk 2 1 ⟨#[]⟩ none 0 []), (GT.mk 2 2 ⟨#[]⟩ none 0 [])].flatMap GT.cells) rfl (fun w => bsl_23_2_0x1 w) rfl rfl (fun b12 hb12 hM12 => ?_) (by simp)
 refine sy_frz 0 rfl (by simp) (fun h12 hle12 hbx12 => ?_)
 replace hh := hh.le hle12
 have hr12 : RowsAt h12 (some ⟨b12, 0, none⟩) 4 ([(GT.mk 2 1 ⟨#[]⟩ none 0 []), (GT.mk 2 2 ⟨#[]⟩ none 0 [])].map GT.cells) := rows_blk (by decide) (GT.cells_len _) hbx12
 refine sy_callx call_16 rfl (make_c ⟨#[45]⟩ (some ⟨b12, 0, none⟩) 2 [(GT.mk 2 1 ⟨#[]⟩ none 0 []), (GT.mk 2 2 ⟨#[]⟩ none 0 [])] _ rfl hr12 (by simp)) rfl rfl (fun x13 h13 hx13 hle13 => ?_)
 obtain ⟨A13, c13⟩ := x13
 replace hh := hh.le hle13
 have hlf13 : Lies h13 (GT.mk 3 0 ⟨#[45]⟩ A13 c13 [(GT.mk 2 1 ⟨#[]⟩ none 0 []), (GT.mk 2 2 ⟨#[]⟩ none 0 [])]) ∧ Fits (GT.mk 3 0 ⟨#[45]⟩ A13 c13 [(GT.mk 2 1 ⟨#[]⟩ none 0 []), (GT.mk 2 2 ⟨#[]⟩ none 0 [])]) := ⟨.intro _ _ _ _ _ _ hx13.2 hx13.1 (fun t h9 => (duo (h := h13) ⟨lies_leaf _ _ _ _, fits_leaf (by decide) (by decide) (by first | decide | omega) (by first | decide | omega) (by decide)⟩ ⟨lies_leaf _ _ _ _, fits_leaf (by decide) (by decide) (by first | decide | omega) (by first | decide | omega) (by decide)⟩ t h9).1), fits_kids (by decide) (by decide) (by decide) (by decide) (by decide) (by simp) (fun t h9 => (duo (h := h13) ⟨lies_leaf _ _ _ _, fits_leaf (by decide) (by decide) (by first | decide | omega) (by first | decide | omega) (by decide)⟩ ⟨lies_leaf _ _ _ _, fits_leaf (by decide) (by decide) (by first | decide | omega) (by first | decide | omega) (by decide)⟩ t h9).2)⟩
 refine sy_call rfl call_15 rfl (num_c 3 _) rfl rfl ?_
 refine sy_buildSlice (cs := [(GT.mk 3 0 ⟨#[45]⟩ A13 c13 [(GT.mk 2 1 ⟨#[]⟩ none 0 []), (GT.mk 2 2 ⟨#[]⟩ none 0 [])]), (GT.mk 2 3 ⟨#[]⟩ none 0 [])].flatMap GT.cells) rfl (fun w => bsl_23_2_0x1 w) rfl rfl (fun b15 hb15 hM15 => ?_) (by simp)
 refine sy_frz 0 rfl (by simp) (fun h15 hle15 hbx15 => ?_)
 replace hh := hh.le hle15
 have hr15 : RowsAt h15 (some ⟨b15, 0, none⟩) 4 ([(GT.mk 3 0 ⟨#[45]⟩ A13 c13 [(GT.mk 2 1 ⟨#[]⟩ none 0 []), (GT.mk 2 2 ⟨#[]⟩ none 0 [])]), (GT.mk 2 3 ⟨#[]⟩ none 0 [])].map GT.cells) := rows_blk (by decide) (GT.cells_len _) hbx15
 refine sy_callx call_16 rfl (make_c ⟨#[45]⟩ (some ⟨b15, 0, none⟩) 2 [(GT.mk 3 0 ⟨#[45]⟩ A13 c13 [(GT.mk 2 1 ⟨#[]⟩ none 0 []), (GT.mk 2 2 ⟨#[]⟩ none 0 [])]), (GT.mk 2 3 ⟨#[]⟩ none 0 [])] _ rfl hr15 (by simp)) rfl rfl (fun x16 h16 hx16 hle16 => ?_)
 obtain ⟨A16, c16⟩ := x16
 replace hh := hh.le hle16
 have hlf16 : Lies h16 (GT.mk 3 0 ⟨#[45]⟩ A16 c16 [(GT.mk 3 0 ⟨#[45]⟩ A13 c13 [(GT.mk 2 1 ⟨#[]⟩ none 0 []), (GT.mk 2 2 ⟨#[]⟩ none 0 [])]), (GT.mk 2 3 ⟨#[]⟩ none 0 [])]) ∧ Fits (GT.mk 3 0 ⟨#[45]⟩ A16 c16 [(GT.mk 3 0 ⟨#[45]⟩ A13 c13 [(GT.mk 2 1 ⟨#[]⟩ none 0 []), (GT.mk 2 2 ⟨#[]⟩ none 0 [])]), (GT.mk 2 3 ⟨#[]⟩ none 0 [])]) := ⟨.intro _ _ _ _ _ _ hx16.2 hx16.1 (fun t h9 => (duo (h := h16) ⟨(hlf13.1.le hle15).le hle16, hlf13.2⟩ ⟨lies_leaf _ _ _ _, fits_leaf (by decide) (by decide) (by first | decide | omega) (by first | decide | omega) (by decide)⟩ t h9).1), fits_kids (by decide) (by decide) (by decide) (by decide) (by decide) (by simp) (fun t h9 => (duo (h := h16) ⟨(hlf13.1.le hle15).le hle16, hlf13.2⟩ ⟨lies_leaf _ _ _ _, fits_leaf (by decide) (by decide) (by first | decide | omega) (by first | decide | omega) (by decide)⟩ t h9).2)⟩
 refine sy_alloc zer_30 rfl rfl (fun b4 hb4 hM4 => ?_) (by simp)
 first | refine sy_stl 0 sz_30 rfl rfl rfl rfl rfl rfl rfl rfl ?_ | refine sy_stl 1 sz_30 rfl rfl rfl rfl rfl rfl rfl rfl ?_ | refine sy_stl 2 sz_30 rfl rfl rfl rfl rfl rfl rfl rfl ?_
 refine sy_nil rfl ?_
 refine ny_next ?_
 refine cy_seq ?_
 refine cy_frz 0 rfl (by simp) (fun h3 hle3 hbx3 => ?_)
 have hr7 := ((((hr6.le hle12).le hle13).le hle15).le hle16).le hle3
 have hg7 : ∀ t ∈ [q0, q1], Lies h3 t ∧ Fits t := fun t h9 => ⟨(((((hg6 t h9).1.1.le hle12).le hle13).le hle15).le hle16).le hle3, (hg6 t h9).1.2⟩
 replace hlf16 : Lies h3 (GT.mk 3 0 ⟨#[45]⟩ A16 c16 [(GT.mk 3 0 ⟨#[45]⟩ A13 c13 [(GT.mk 2 1 ⟨#[]⟩ none 0 []), (GT.mk 2 2 ⟨#[]⟩ none 0 [])]), (GT.mk 2 3 ⟨#[]⟩ none 0 [])]) ∧ Fits (GT.mk 3 0 ⟨#[45]⟩ A16 c16 [(GT.mk 3 0 ⟨#[45]⟩ A13 c13 [(GT.mk 2 1 ⟨#[]⟩ none 0 []), (GT.mk 2 2 ⟨#[]⟩ none 0 [])]), (GT.mk 2 3 ⟨#[]⟩ none 0 [])]) := ⟨hlf16.1.le hle3, hlf16.2⟩
 refine cy_regionQ mixed (by kernel_rfl) ?_
 refine sy_move rfl rfl rfl ?_
 refine sy_cmp rfl rfl rfl rfl rfl ?_
 refine sy_move rfl rfl rfl ?_
 refine sy_setT (d := 19) rfl rfl (by first | rfl | decide | kernel_rfl | (simp; done) | (simp_all; done)) ?_
 refine sy_move rfl rfl rfl ?_
 refine sy_len rfl (len_slice Tryd.underlying23 _ _ _) rfl rfl ?_
 refine sy_cmp rfl rfl rfl rfl rfl ?_
 refine sy_pickT rfl rfl rfl rfl ?_
 refine sy_move rfl rfl rfl ?_
 refine sy_setT (d := 24) rfl rfl (by first | rfl | decide | kernel_rfl | (simp; done) | (simp_all; done)) ?_
 refine sy_move rfl rfl rfl ?_
 refine sy_idxR (i := 0) (fc := GT.cells) (es := [q0, q1]) els_23 rfl rfl hr7 rfl (by simp) rfl rfl (fun e26 b26 o26 he26 hA26 hc26 => ?_)
 obtain rfl : q0 = e26 := Option.some.inj he26
 refine sy_ldah (vs := GT.cells q0) agg_30 rfl rfl hc26 rfl rfl ?_
 refine sy_ldah (vs := GT.cells (GT.mk 3 0 ⟨#[45]⟩ A16 c16 [(GT.mk 3 0 ⟨#[45]⟩ A13 c13 [(GT.mk 2 1 ⟨#[]⟩ none 0 []), (GT.mk 2 2 ⟨#[]⟩ none 0 [])]), (GT.mk 2 3 ⟨#[]⟩ none 0 [])])) agg_30 rfl rfl (Hp.blk hbx3) rfl rfl ?_
 refine sy_call rfl call_17 rfl (same_c q0 (GT.mk 3 0 ⟨#[45]⟩ A16 c16 [(GT.mk 3 0 ⟨#[45]⟩ A13 c13 [(GT.mk 2 1 ⟨#[]⟩ none 0 []), (GT.mk 2 2 ⟨#[]⟩ none 0 [])]), (GT.mk 2 3 ⟨#[]⟩ none 0 [])]) _ (hg7 q0 (by simp)).1 (hg7 q0 (by simp)).2 hlf16.1 hlf16.2) rfl rfl ?_
 rw [same_refl (a := q0.tm) (b := (GT.mk 3 0 ⟨#[45]⟩ A16 c16 [(GT.mk 3 0 ⟨#[45]⟩ A13 c13 [(GT.mk 2 1 ⟨#[]⟩ none 0 []), (GT.mk 2 2 ⟨#[]⟩ none 0 [])]), (GT.mk 2 3 ⟨#[]⟩ none 0 [])]).tm) (by rw [hq0]; simp only [GT.tm_mk, List.map_cons, List.map_nil]; rfl)]
 refine sy_setT (d := 29) rfl rfl rfl ?_
 refine sy_pickT rfl rfl rfl rfl ?_
 refine sy_move rfl rfl rfl ?_
 refine sy_move rfl rfl rfl ?_
 refine sy_idxR (i := 1) (fc := GT.cells) (es := [q0, q1]) els_23 rfl rfl hr7 rfl (by simp) rfl rfl (fun e33 b33 o33 he33 hA33 hc33 => ?_)
 obtain rfl : q1 = e33 := Option.some.inj he33
 refine sy_field fld_30_0 rfl rfl rfl ?_
 refine sy_ldh one_3 rfl (hc33 0 _ rfl) rfl rfl ?_
 refine sy_cmp rfl rfl rfl rfl rfl ?_
 refine sy_setT (d := 36) rfl rfl (by rw [hk1]; rfl) ?_
 refine sy_pickT rfl rfl rfl rfl ?_
 refine sy_move rfl rfl rfl ?_
 refine sy_move rfl rfl rfl ?_
 refine sy_idxR (i := 1) (fc := GT.cells) (es := [q0, q1]) els_23 rfl rfl hr7 rfl (by simp) rfl rfl (fun e40 b40 o40 he40 hA40 hc40 => ?_)
 obtain rfl : q1 = e40 := Option.some.inj he40
 refine sy_field fld_30_1 rfl rfl rfl ?_
 refine sy_ldh one_2 rfl (hc40 1 _ rfl) rfl rfl ?_
 refine sy_cmp rfl rfl rfl rfl rfl ?_
 refine sy_setT (d := 43) rfl rfl (by rw [hn1]; rfl) ?_
 refine sy_pickT rfl rfl rfl rfl ?_
 refine sy_assign rfl rfl rfl ?_
 refine sy_nil rfl ?_
 refine ny_next ?_
 refine cy_ret ?_
 refine ny_finR (res1 rfl rfl) (fun w hs => ⟨rfl, hs.frm⟩)
theorem raE_bad {r : RA} (h : ¬ raE r = 0) : ∃ a e, r = .bad a e := by
 cases r with
 | ok l => exact absurd rfl h
 | bad a e => exact ⟨a, e, rfl⟩
theorem varsT_wt (t : GT) : (varsT t.tm).length ≤ wtG t := by
 have h1 := varsF_len (partsT t.tm) []
 have h2 := prts_wt t
 rw [← prts_tm, List.length_map, List.length_nil, Nat.zero_add, prts_tm] at h1
 unfold varsT
 omega
theorem nil_of {es : List GT} {a : Nat} {e : Int} (h : es.map GT.tm = raT (.bad a e)) : es = [] := List.map_eq_nil_iff.1 h
set_option maxRecDepth 100000 in
theorem may07_c (s : ByteArray) (c : UInt8) (h : Hp) (hh : Hdl h) : C0 Tryd.prog 3 [.string s, .int .u8 (c.toNat : Int)] h (.bool true) := by
 refine enter0 Tryd.func3 rfl rfl rfl (fun w => ?_)
 refine cy_seq ?_
 refine cy_region ?_
 refine sy_assign rfl rfl rfl ?_
 refine sy_nil rfl ?_
 refine ny_next ?_
 refine cy_seq ?_
 refine cy_region ?_
 refine sy_call rfl call_9 rfl (shown07_c _ hh) rfl rfl ?_
 refine sy_assign rfl rfl rfl ?_
 refine sy_nil rfl ?_
 refine ny_next ?_
 refine cy_seq ?_
 refine cy_region ?_
 refine sy_move rfl rfl rfl ?_
 refine sy_move rfl rfl rfl ?_
 refine sy_rem8 (a := c.toNat) (b := 17) rfl rfl (by decide) (by decide) (by have := c.toNat_lt; omega) rfl rfl ?_
 refine sy_convK (z := ((c.toNat % 17 : Nat) : Int)) Tryd.underlying5 Tryd.underlying3 rfl (by rw [IntWalk.i64_in _ ⟨by omega, by omega⟩]) rfl rfl ?_
 refine sy_callx call_10 rfl (allL_c _ (s.data.toList) (rfl) (((c.toNat % 17 : Nat) : Int)) _ hh) rfl rfl (fun x18 h18 hx18 hle18 => ?_)
 obtain ⟨es18, A18, c18⟩ := x18
 obtain ⟨hT18, hr18, hc18, hz18, hg18⟩ := hx18
 simp only at hT18 hr18 hc18 hz18 hg18 ⊢
 replace hh := hh.le hle18
 refine sy_move rfl rfl rfl ?_
 refine sy_extract rfl rfl rfl rfl ?_
 refine sy_extract rfl rfl rfl rfl ?_
 refine sy_extract rfl rfl rfl rfl ?_
 refine sy_assign rfl rfl rfl ?_
 refine sy_assign rfl rfl rfl ?_
 refine sy_assign rfl rfl rfl ?_
 refine sy_nil rfl ?_
 refine ny_next ?_
 refine cy_seq ?_
 refine cy_seq ?_
 refine cy_region ?_
 refine sy_move rfl rfl rfl ?_
 refine sy_cmp rfl rfl rfl rfl rfl ?_
 refine sy_nil rfl ?_
 refine ny_next ?_
 refine cy_cond rfl (fun hc23 => ?_) (fun hc23 => ?_)
 · obtain ⟨a9, e9, hb9⟩ := raE_bad (r := (allA ((c.toNat % 17 : Nat) : Int) s.data.toList)) (by simpa using hc23)
   rw [hb9] at hT18
   obtain rfl := nil_of hT18
   refine cy_seq ?_
   refine cy_region ?_
   refine sy_move rfl rfl rfl ?_
   refine sy_move rfl rfl rfl ?_
   refine sy_setT (d := 25) rfl rfl (by first | rfl | (simp; done)) ?_
   refine sy_move rfl rfl rfl ?_
   refine sy_len rfl (len_slice Tryd.underlying23 _ _ _) rfl rfl ?_
   refine sy_cmp rfl rfl rfl rfl rfl ?_
   refine sy_setT (d := 28) rfl rfl rfl ?_
   refine sy_pickT rfl rfl rfl rfl ?_
   refine sy_assign rfl rfl rfl ?_
   refine sy_nil rfl ?_
   refine ny_next ?_
   refine cy_ret ?_
   refine ny_thenR ?_
   refine ny_finR (res1 rfl rfl) (fun w hs2 => ⟨?_, hs2.frm⟩)
   rfl
 · obtain ⟨ts, hok⟩ := raE_zero (lv := ((c.toNat % 17 : Nat) : Int)) (l := s.data.toList) (by simpa using hc23)
   have hmay := allA_may hok
   rw [hok] at hT18
   replace hT18 : es18.map GT.tm = ts := hT18
   refine cy_skip ?_
   refine ny_next ?_
   refine cy_seq ?_
   refine cy_seq ?_
   refine cy_region ?_
   refine sy_assign rfl rfl rfl ?_
   refine sy_nil rfl ?_
   refine ny_next ?_
   refine cy_block ?_
   refine cy_loopK (ι := Nat × Hp) [1, 5, 6] rfl (fun z => z.1 ≤ es18.length ∧ h18.Le z.2) (fun z => es18.length - z.1) (fun z => [(9, .int .i64 (z.1 : Int))]) (fun z => z.2) (fun z => []) (0, h18) [] ⟨Nat.zero_le _, Hp.Le.refl _⟩ ⟨rfl, trivial⟩ rfl rfl ?_
   rintro ⟨i, hy⟩ ⟨hI, hlez⟩
   simp only at hI hlez ⊢
   have hrz := hr18.le hlez
   have hgz : ∀ t ∈ es18, (Lies hy t ∧ Fits t) ∧ wtG t ≤ 294912 := fun t h9 => ⟨⟨(hg18 t h9).1.1.le hlez, (hg18 t h9).1.2⟩, (hg18 t h9).2⟩
   refine cy_seq ?_
   refine cy_seq ?_
   refine cy_region ?_
   refine sy_move rfl rfl rfl ?_
   refine sy_move rfl rfl rfl ?_
   refine sy_len rfl (len_slice Tryd.underlying23 _ _ _) rfl rfl ?_
   refine sy_cmp rfl rfl rfl rfl rfl ?_
   refine sy_nil rfl ?_
   refine ny_next ?_
   refine cy_cond rfl (fun hc33 => ?_) (fun hc33 => ?_)
   · have hlti : i < es18.length := by have := of_decide_eq_true hc33; omega
     refine cy_skip ?_
     refine ny_next ?_
     refine cy_seq ?_
     refine cy_block ?_
     refine cy_seq ?_
     refine cy_region ?_
     refine sy_move rfl rfl rfl ?_
     refine sy_move rfl rfl rfl ?_
     refine sy_idxR (i := i) (fc := GT.cells) (es := es18) els_23 rfl rfl hrz rfl (by omega) rfl rfl (fun e38 b38 o38 he38 hA38 hc38 => ?_)
     have hge := hgz e38 (List.mem_of_getElem? he38)
     obtain ⟨hck, n9, hvs⟩ := hmay e38.tm (by rw [← hT18]; exact List.mem_map.2 ⟨_, List.mem_of_getElem? he38, rfl⟩)
     refine sy_ldah (vs := GT.cells e38) agg_30 rfl rfl hc38 rfl rfl ?_
     refine sy_callx call_11 rfl (vars_c e38 _ hge.1.1 hge.1.2 (by omega)) rfl rfl (fun x40 h40 hx40 hle40 => ?_)
     obtain ⟨A40, c40⟩ := x40
     rw [hvs] at hx40 ⊢
     have hvl : (iotaI n9).length ≤ 294912 := by
      have h9 := varsT_wt e38
      rw [hvs] at h9
      omega
     refine sy_assign rfl rfl rfl ?_
     refine sy_nil rfl ?_
     refine ny_next ?_
     refine cy_seq ?_
     refine cy_seq ?_
     refine cy_region ?_
     refine sy_move rfl rfl rfl ?_
     refine sy_move rfl rfl rfl ?_
     refine sy_idxR (i := i) (fc := GT.cells) (es := es18) els_23 rfl rfl (hrz.le hle40) rfl (by omega) rfl rfl (fun e43 b43 o43 he43 hA43 hc43 => ?_)
     obtain rfl : e38 = e43 := Option.some.inj (he38.symm.trans he43)
     refine sy_ldah (vs := GT.cells e38) agg_30 rfl rfl hc43 rfl rfl ?_
     refine sy_move rfl rfl rfl ?_
     refine sy_rem8 (a := c.toNat) (b := 17) rfl rfl (by decide) (by decide) (by have := c.toNat_lt; omega) rfl rfl ?_
     refine sy_convK (z := ((c.toNat % 17 : Nat) : Int)) Tryd.underlying5 Tryd.underlying3 rfl (by rw [IntWalk.i64_in _ ⟨by omega, by omega⟩]) rfl rfl ?_
     refine sy_call rfl call_12 rfl (check_c e38 ((c.toNat % 17 : Nat) : Int) _ (hge.1.1.le hle40) hge.1.2 (by omega)) rfl rfl ?_
     rw [hck]
     refine sy_cmp rfl rfl rfl rfl rfl ?_
     refine sy_setF (d := 49) rfl rfl rfl ?_
     refine sy_nil rfl ?_
     refine ny_next ?_
     refine cy_condF rfl ?_
     refine cy_skip ?_
     refine ny_next ?_
     refine cy_seq ?_
     refine cy_region ?_
     refine sy_assign rfl rfl rfl ?_
     refine sy_nil rfl ?_
     refine ny_next ?_
     refine cy_block ?_
     refine cy_loopK (ι := Nat) [1, 5, 6, 9, 10] rfl (fun k => k ≤ (iotaI n9).length) (fun k => (iotaI n9).length - k) (fun k => [(11, .int .i64 (k : Int))]) (fun k => h40) (fun k => []) 0 [] (Nat.zero_le _) ⟨rfl, trivial⟩ rfl rfl ?_
     rintro k hK
     refine cy_seq ?_
     refine cy_seq ?_
     refine cy_region ?_
     refine sy_move rfl rfl rfl ?_
     refine sy_move rfl rfl rfl ?_
     refine sy_len rfl (len_slice Tryd.underlying27 _ _ _) rfl rfl ?_
     refine sy_cmp rfl rfl rfl rfl rfl ?_
     refine sy_nil rfl ?_
     refine ny_next ?_
     refine cy_cond rfl (fun hc53 => ?_) (fun hc53 => ?_)
     · have hltk : k < (iotaI n9).length := by have := of_decide_eq_true hc53; omega
       refine cy_skip ?_
       refine ny_next ?_
       refine cy_seq ?_
       refine cy_block ?_
       refine cy_seq ?_
       refine cy_region ?_
       refine sy_move rfl rfl rfl ?_
       refine sy_move rfl rfl rfl ?_
       refine sy_idxR (i := k) (fc := intC) (es := iotaI n9) els_27 rfl rfl hx40.1 rfl (by omega) rfl rfl (fun e58 b58 o58 he58 hA58 hc58 => ?_)
       obtain rfl := iota_at he58
       refine sy_ldh one_3 rfl (hc58 0 _ rfl) rfl rfl ?_
       refine sy_move rfl rfl rfl ?_
       refine sy_cmp rfl rfl rfl rfl rfl ?_
       refine sy_setF (d := 61) rfl rfl (by simp) ?_
       refine sy_nil rfl ?_
       refine ny_next ?_
       refine cy_condF rfl ?_
       refine cy_skip ?_
       refine ny_blockN ?_
       refine ny_next ?_
       refine cy_region ?_
       refine sy_move rfl rfl rfl ?_
       refine sy_addi (z := ((k + 1 : Nat) : Int)) rfl rfl (by omega) (by omega) (by omega) rfl rfl ?_
       refine sy_assign rfl rfl rfl ?_
       refine sy_nil rfl ?_
       refine ny_roundK [1, 5, 6, 9, 10] (k + 1) [] (show k + 1 ≤ (iotaI n9).length by omega) (show (iotaI n9).length - (k + 1) < (iotaI n9).length - k by omega) rfl ⟨rfl, trivial⟩ rfl rfl
     · refine cy_exit ?_
       refine ny_thenE ?_
       refine ny_thenE ?_
       refine ny_blockX ?_
       refine ny_blockN ?_
       refine ny_next ?_
       refine cy_region ?_
       refine sy_move rfl rfl rfl ?_
       refine sy_addi (z := ((i + 1 : Nat) : Int)) rfl rfl (by omega) (by omega) (by omega) rfl rfl ?_
       refine sy_assign rfl rfl rfl ?_
       refine sy_nil rfl ?_
       refine ny_roundK [1, 5, 6] (i + 1, h40) [] ⟨(show i + 1 ≤ es18.length by omega), hlez.trans hle40⟩ (show es18.length - (i + 1) < es18.length - i by omega) rfl ⟨rfl, trivial⟩ rfl rfl
   · refine cy_exit ?_
     refine ny_thenE ?_
     refine ny_thenE ?_
     refine ny_blockX ?_
     refine ny_next ?_
     refine cy_seq ?_
     refine cy_region ?_
     refine sy_move rfl rfl rfl ?_
     refine sy_assign rfl rfl rfl ?_
     refine sy_nil rfl ?_
     refine ny_next ?_
     refine cy_ret ?_
     refine ny_finR (res1 rfl rfl) (fun w hs2 => ⟨?_, hs2.frm⟩)
     rfl
theorem sames_iff (ks ls : List Tm) : samesT ks ls = true ↔ ks = ls := sames_eq ks ls (fun t _ u => same_eq t u)
theorem sames_no2 {ks ls : List Tm} (h : samesT ks ls = false) : ¬ ks = ls := fun h9 => by
 rw [(sames_iff ks ls).2 h9] at h
 cases h
theorem one_of {lv : Int} {l : List UInt8} (h : raE (allA lv l) = 0) (h1 : (raT (allA lv l)).length = 1) : ∃ x, allA lv l = .ok [x] := by
 obtain ⟨ts, hts⟩ := raE_zero h
 rw [hts] at h1
 have h1 : ts.length = 1 := h1
 match ts, h1 with
 | [x], _ => exact ⟨x, hts⟩
theorem br_end {s : List UInt8} (hs : s.length ≤ 1000) (h1 : raE (allA 4 (s ++ [32, 46, 10])) = 0) (hl : (raT (allA 4 (s ++ [32, 46, 10]))).length = 1) (h7 : ¬ raE (allA 4 ([40, 32] ++ s ++ [32, 41, 32, 46, 10])) = 7) (h : ¬ (raE (allA 4 ([40, 32] ++ s ++ [32, 41, 32, 46, 10])) = 0 ∧ raT (allA 4 (s ++ [32, 46, 10])) = raT (allA 4 ([40, 32] ++ s ++ [32, 41, 32, 46, 10])))) : bareB s = false := by
 cases hb : bareB s with
 | false => rfl
 | true =>
  exfalso
  obtain ⟨x, hx⟩ := one_of h1 hl
  rcases brackets_law hs hb hx with h2 | ⟨a, h2⟩
  · rw [h2, hx] at h
    exact h ⟨rfl, rfl⟩
  · rw [h2] at h7
    exact h7 rfl
theorem len_ra {es : List GT} {r : RA} (h : es.map GT.tm = raT r) (h1 : ((es.length : Int) == 1) = true) : (raT r).length = 1 := by
 rw [← h, List.length_map]
 have := eq_of_beq h1
 omega
theorem join_two {s t : List UInt8} {l m : List Tm} (hs : s.length ≤ 1000) (ht : t.length ≤ 1000) (h1 : allA 4 (s ++ [32, 46, 10]) = .ok l) (h2 : allA 4 t = .ok m) : allA 4 (s ++ [32, 46, 10] ++ t) = .ok (l ++ m) := by
 have e1 : s ++ [32, 46, 10] = (s ++ [32, 46]) ++ [10] := by simp
 have e2 : s ++ [32, 46, 10] ++ t = (s ++ [32, 46]) ++ 10 :: t := by simp
 rw [e1] at h1
 rw [e2]
 exact allA_join (by simp; omega) h1 h2
theorem none_len {h : Hp} {A : Option Addr} {es : List GT} (hr : RowsAt h A 4 (es.map GT.cells)) (hA : A = none) : es.length = 0 := by
 cases es with
 | nil => rfl
 | cons e es =>
  obtain ⟨b, off, hb, _⟩ := hr 0 _ rfl
  rw [hA] at hb
  cases hb
theorem flat_two (a b : List GT) : [] ++ (a.map GT.cells).flatten ++ (b.map GT.cells).flatten = ((a ++ b).map GT.cells).flatten := by simp
set_option maxRecDepth 100000 in
theorem brackets07_c (s t : ByteArray) (h : Hp) (hh : Hdl h) : C0 Tryd.prog 4 [.string s, .string t] h (.bool true) := by
 refine enter0 Tryd.func4 rfl rfl rfl (fun w => ?_)
 refine cy_seq ?_
 refine cy_region ?_
 refine sy_assign rfl rfl rfl ?_
 refine sy_nil rfl ?_
 refine ny_next ?_
 refine cy_seq ?_
 refine cy_region ?_
 refine sy_call rfl call_9 rfl (shown07_c _ hh) rfl rfl ?_
 refine sy_setT (d := 18) rfl rfl rfl ?_
 refine sy_assign rfl rfl rfl ?_
 refine sy_nil rfl ?_
 refine ny_next ?_
 refine cy_seq ?_
 refine cy_seq ?_
 refine cy_region ?_
 refine sy_move rfl rfl rfl ?_
 refine sy_len rfl (len_string Tryd.underlying9 _) rfl rfl ?_
 refine sy_cmp rfl rfl rfl rfl rfl ?_
 refine sy_move rfl rfl rfl ?_
 refine sy_cond (d := 22) _ rfl rfl (fun hg22 => ?_) (fun hg22 => ?_)
 · refine sy_skip rfl rfl rfl ?_
   refine sy_skip rfl rfl rfl ?_
   refine sy_skip rfl rfl rfl ?_
   refine sy_pickT rfl rfl rfl rfl ?_
   refine sy_nil rfl ?_
   refine ny_next ?_
   refine cy_condT rfl ?_
   refine cy_seq ?_
   refine cy_region ?_
   refine sy_move rfl rfl rfl ?_
   refine sy_assign rfl rfl rfl ?_
   refine sy_nil rfl ?_
   refine ny_next ?_
   refine cy_ret ?_
   refine ny_thenR ?_
   refine ny_finR (res1 rfl rfl) (fun w hs2 => ⟨?_, hs2.frm⟩)
   rfl
 · refine sy_move rfl rfl rfl ?_
   refine sy_len rfl (len_string Tryd.underlying9 _) rfl rfl ?_
   refine sy_cmp rfl rfl rfl rfl rfl ?_
   refine sy_pickF rfl rfl rfl rfl ?_
   refine sy_nil rfl ?_
   refine ny_next ?_
   refine cy_cond rfl (fun hc26 => ?_) (fun hc26 => ?_)
   · refine cy_seq ?_
     refine cy_region ?_
     refine sy_move rfl rfl rfl ?_
     refine sy_assign rfl rfl rfl ?_
     refine sy_nil rfl ?_
     refine ny_next ?_
     refine cy_ret ?_
     refine ny_thenR ?_
     refine ny_finR (res1 rfl rfl) (fun w hs2 => ⟨?_, hs2.frm⟩)
     rfl
   · have hs1 : s.size ≤ 1000 := by have := of_decide_eq_false hg22; omega
     have ht1 : t.size ≤ 1000 := by have := of_decide_eq_false hc26; omega
     have hsl : s.data.toList.length = s.size := rfl
     have htl : t.data.toList.length = t.size := rfl
     refine cy_skip ?_
     refine ny_next ?_
     refine cy_seq ?_
     refine cy_region ?_
     refine sy_move rfl rfl rfl ?_
     refine sy_cat rfl rfl (by (try simp only [ByteArray.size_append]); have e0 : (⟨#[32, 46, 10]⟩ : ByteArray).size = 3 := rfl; omega) rfl rfl ?_
     refine sy_callx call_10 rfl (allL_c _ ((s.data.toList ++ [32, 46, 10])) (by rw [ba_cat]) (4) _ hh) rfl rfl (fun x31 h31 hx31 hle31 => ?_)
     obtain ⟨es31, A31, c31⟩ := x31
     obtain ⟨hT31, hr31, hc31, hz31, hg31⟩ := hx31
     simp only at hT31 hr31 hc31 hz31 hg31 ⊢
     replace hh := hh.le hle31
     refine sy_move rfl rfl rfl ?_
     refine sy_extract rfl rfl rfl rfl ?_
     refine sy_extract rfl rfl rfl rfl ?_
     refine sy_extract rfl rfl rfl rfl ?_
     refine sy_assign rfl rfl rfl ?_
     refine sy_assign rfl rfl rfl ?_
     refine sy_assign rfl rfl rfl ?_
     refine sy_nil rfl ?_
     refine ny_next ?_
     refine cy_seq ?_
     refine cy_region ?_
     refine sy_move rfl rfl rfl ?_
     refine sy_cat rfl rfl (by (try simp only [ByteArray.size_append]); have e0 : (⟨#[40, 32]⟩ : ByteArray).size = 2 := rfl; omega) rfl rfl ?_
     refine sy_cat rfl rfl (by (try simp only [ByteArray.size_append]); have e0 : (⟨#[40, 32]⟩ : ByteArray).size = 2 := rfl; have e1 : (⟨#[32, 41, 32, 46, 10]⟩ : ByteArray).size = 5 := rfl; omega) rfl rfl ?_
     refine sy_callx call_10 rfl (allL_c _ (([40, 32] ++ s.data.toList ++ [32, 41, 32, 46, 10])) (by rw [ba_cat, ba_cat]) (4) _ hh) rfl rfl (fun x39 h39 hx39 hle39 => ?_)
     obtain ⟨es39, A39, c39⟩ := x39
     obtain ⟨hT39, hr39, hc39, hz39, hg39⟩ := hx39
     simp only at hT39 hr39 hc39 hz39 hg39 ⊢
     replace hh := hh.le hle39
     replace hr31 := hr31.le hle39
     replace hg31 := fun t h9 => (⟨⟨(hg31 t h9).1.1.le hle39, (hg31 t h9).1.2⟩, (hg31 t h9).2⟩ : (Lies h39 t ∧ Fits t) ∧ wtG t ≤ 294912)
     refine sy_move rfl rfl rfl ?_
     refine sy_extract rfl rfl rfl rfl ?_
     refine sy_extract rfl rfl rfl rfl ?_
     refine sy_extract rfl rfl rfl rfl ?_
     refine sy_assign rfl rfl rfl ?_
     refine sy_assign rfl rfl rfl ?_
     refine sy_assign rfl rfl rfl ?_
     refine sy_nil rfl ?_
     refine ny_next ?_
     refine cy_seq ?_
     refine cy_region ?_
     refine sy_move rfl rfl rfl ?_
     refine sy_callx call_10 rfl (allL_c _ (t.data.toList) (rfl) (4) _ hh) rfl rfl (fun x45 h45 hx45 hle45 => ?_)
     obtain ⟨es45, A45, c45⟩ := x45
     obtain ⟨hT45, hr45, hc45, hz45, hg45⟩ := hx45
     simp only at hT45 hr45 hc45 hz45 hg45 ⊢
     replace hh := hh.le hle45
     replace hr31 := hr31.le hle45
     replace hg31 := fun t h9 => (⟨⟨(hg31 t h9).1.1.le hle45, (hg31 t h9).1.2⟩, (hg31 t h9).2⟩ : (Lies h45 t ∧ Fits t) ∧ wtG t ≤ 294912)
     replace hr39 := hr39.le hle45
     replace hg39 := fun t h9 => (⟨⟨(hg39 t h9).1.1.le hle45, (hg39 t h9).1.2⟩, (hg39 t h9).2⟩ : (Lies h45 t ∧ Fits t) ∧ wtG t ≤ 294912)
     refine sy_move rfl rfl rfl ?_
     refine sy_extract rfl rfl rfl rfl ?_
     refine sy_extract rfl rfl rfl rfl ?_
     refine sy_extract rfl rfl rfl rfl ?_
     refine sy_assign rfl rfl rfl ?_
     refine sy_assign rfl rfl rfl ?_
     refine sy_assign rfl rfl rfl ?_
     refine sy_nil rfl ?_
     refine ny_next ?_
     refine cy_seq ?_
     refine cy_region ?_
     refine sy_move rfl rfl rfl ?_
     refine sy_cat rfl rfl (by (try simp only [ByteArray.size_append]); have e0 : (⟨#[32, 46, 10]⟩ : ByteArray).size = 3 := rfl; omega) rfl rfl ?_
     refine sy_move rfl rfl rfl ?_
     refine sy_cat rfl rfl (by (try simp only [ByteArray.size_append]); have e0 : (⟨#[32, 46, 10]⟩ : ByteArray).size = 3 := rfl; omega) rfl rfl ?_
     refine sy_callx call_10 rfl (allL_c _ ((s.data.toList ++ [32, 46, 10] ++ t.data.toList)) (by rw [ba_cat, ba_cat]) (4) _ hh) rfl rfl (fun x54 h54 hx54 hle54 => ?_)
     obtain ⟨es54, A54, c54⟩ := x54
     obtain ⟨hT54, hr54, hc54, hz54, hg54⟩ := hx54
     simp only at hT54 hr54 hc54 hz54 hg54 ⊢
     replace hh := hh.le hle54
     replace hr31 := hr31.le hle54
     replace hg31 := fun t h9 => (⟨⟨(hg31 t h9).1.1.le hle54, (hg31 t h9).1.2⟩, (hg31 t h9).2⟩ : (Lies h54 t ∧ Fits t) ∧ wtG t ≤ 294912)
     replace hr39 := hr39.le hle54
     replace hg39 := fun t h9 => (⟨⟨(hg39 t h9).1.1.le hle54, (hg39 t h9).1.2⟩, (hg39 t h9).2⟩ : (Lies h54 t ∧ Fits t) ∧ wtG t ≤ 294912)
     replace hr45 := hr45.le hle54
     replace hg45 := fun t h9 => (⟨⟨(hg45 t h9).1.1.le hle54, (hg45 t h9).1.2⟩, (hg45 t h9).2⟩ : (Lies h54 t ∧ Fits t) ∧ wtG t ≤ 294912)
     refine sy_move rfl rfl rfl ?_
     refine sy_extract rfl rfl rfl rfl ?_
     refine sy_extract rfl rfl rfl rfl ?_
     refine sy_extract rfl rfl rfl rfl ?_
     refine sy_assign rfl rfl rfl ?_
     refine sy_assign rfl rfl rfl ?_
     refine sy_assign rfl rfl rfl ?_
     refine sy_nil rfl ?_
     refine ny_next ?_
     refine cy_seq ?_
     refine cy_seq ?_
     refine cy_region ?_
     refine sy_move rfl rfl rfl ?_
     refine sy_cmp rfl rfl rfl rfl rfl ?_
     refine sy_move rfl rfl rfl ?_
     refine sy_cond (d := 60) _ rfl rfl (fun hg60 => ?_) (fun hg60 => ?_)
     · refine sy_move rfl rfl rfl ?_
       refine sy_len rfl (len_slice Tryd.underlying23 _ _ _) rfl rfl ?_
       refine sy_cmp rfl rfl rfl rfl rfl ?_
       refine sy_pickT rfl rfl rfl rfl ?_
       refine sy_move rfl rfl rfl ?_
       refine sy_cond (d := 65) _ rfl rfl (fun hg65 => ?_) (fun hg65 => ?_)
       · refine sy_move rfl rfl rfl ?_
         refine sy_cmp rfl rfl rfl rfl rfl ?_
         refine sy_pickT rfl rfl rfl rfl ?_
         refine sy_move rfl rfl rfl ?_
         refine sy_cond (d := 69) _ rfl rfl (fun hg69 => ?_) (fun hg69 => ?_)
         · refine sy_move rfl rfl rfl ?_
           refine sy_cmp rfl rfl rfl rfl rfl ?_
           refine sy_move rfl rfl rfl ?_
           refine sy_cond (d := 72) _ rfl rfl (fun hg72 => ?_) (fun hg72 => ?_)
           · refine sy_skip rfl rfl rfl ?_
             refine sy_skip rfl rfl rfl ?_
             refine sy_skip rfl rfl rfl ?_
             refine sy_skip rfl rfl rfl ?_
             refine sy_pickT rfl rfl rfl rfl ?_
             refine sy_pickT rfl rfl rfl rfl ?_
             refine sy_nil rfl ?_
             refine ny_next ?_
             refine cy_condT rfl ?_
             have hbe : bareB s.data.toList = false := br_end (show s.data.toList.length ≤ 1000 by omega) (by simpa using hg60) (len_ra hT31 hg65) (by simpa using hg69) (fun h9 => by have h8 := hg72; rw [h9.1] at h8; exact absurd h8 (by decide))
             refine cy_seq ?_
             refine cy_region ?_
             refine sy_move rfl rfl rfl ?_
             refine sy_call rfl call_14 rfl (plainEnd_c s _ (by omega)) rfl rfl ?_
             refine sy_assign rfl rfl rfl ?_
             refine sy_nil rfl ?_
             refine ny_next ?_
             refine cy_ret ?_
             refine ny_thenR ?_
             refine ny_finR (res1 rfl rfl) (fun w hs2 => ⟨?_, hs2.frm⟩)
             rw [hbe]; rfl
           · refine sy_move rfl rfl rfl ?_
             refine sy_move rfl rfl rfl ?_
             refine sy_call rfl call_13 rfl (lists_c es31 es39 A31 A39 c31 c39 _ hr31 hr39 (fun t h9 => (hg31 t h9).1) (fun t h9 => (hg39 t h9).1) (by omega)) rfl rfl ?_
             refine sy_not rfl rfl rfl ?_
             refine sy_pickF rfl rfl rfl rfl ?_
             refine sy_pickT rfl rfl rfl rfl ?_
             refine sy_nil rfl ?_
             refine ny_next ?_
             refine cy_cond rfl (fun hc78 => ?_) (fun hc78 => ?_)
             · have hbe : bareB s.data.toList = false := br_end (show s.data.toList.length ≤ 1000 by omega) (by simpa using hg60) (len_ra hT31 hg65) (by simpa using hg69) (fun h9 => sames_no2 (by simpa using hc78) (hT31.trans (h9.2.trans hT39.symm)))
               refine cy_seq ?_
               refine cy_region ?_
               refine sy_move rfl rfl rfl ?_
               refine sy_call rfl call_14 rfl (plainEnd_c s _ (by omega)) rfl rfl ?_
               refine sy_assign rfl rfl rfl ?_
               refine sy_nil rfl ?_
               refine ny_next ?_
               refine cy_ret ?_
               refine ny_thenR ?_
               refine ny_finR (res1 rfl rfl) (fun w hs2 => ⟨?_, hs2.frm⟩)
               rw [hbe]; rfl
             · refine cy_skip ?_
               refine ny_next ?_
               refine cy_seq ?_
               refine cy_seq ?_
               refine cy_region ?_
               refine sy_move rfl rfl rfl ?_
               refine sy_cmp rfl rfl rfl rfl rfl ?_
               refine sy_move rfl rfl rfl ?_
               refine sy_cond (d := 83) _ rfl rfl (fun hg83 => ?_) (fun hg83 => ?_)
               · refine sy_skip rfl rfl rfl ?_
                 refine sy_skip rfl rfl rfl ?_
                 refine sy_pickT rfl rfl rfl rfl ?_
                 refine sy_nil rfl ?_
                 refine ny_next ?_
                 refine cy_condT rfl ?_
                 refine cy_seq ?_
                 refine cy_region ?_
                 refine sy_move rfl rfl rfl ?_
                 refine sy_assign rfl rfl rfl ?_
                 refine sy_nil rfl ?_
                 refine ny_next ?_
                 refine cy_ret ?_
                 refine ny_thenR ?_
                 refine ny_finR (res1 rfl rfl) (fun w hs2 => ⟨?_, hs2.frm⟩)
                 rfl
               · refine sy_move rfl rfl rfl ?_
                 refine sy_cmp rfl rfl rfl rfl rfl ?_
                 refine sy_pickF rfl rfl rfl rfl ?_
                 refine sy_nil rfl ?_
                 refine ny_next ?_
                 refine cy_cond rfl (fun hc86 => ?_) (fun hc86 => ?_)
                 · refine cy_seq ?_
                   refine cy_region ?_
                   refine sy_move rfl rfl rfl ?_
                   refine sy_assign rfl rfl rfl ?_
                   refine sy_nil rfl ?_
                   refine ny_next ?_
                   refine cy_ret ?_
                   refine ny_thenR ?_
                   refine ny_finR (res1 rfl rfl) (fun w hs2 => ⟨?_, hs2.frm⟩)
                   rfl
                 · obtain ⟨l9, hl9⟩ := raE_zero (lv := 4) (l := (s.data.toList ++ [32, 46, 10])) (by simpa using hg83)
                   obtain ⟨m9, hm9⟩ := raE_zero (lv := 4) (l := t.data.toList) (by simpa using hc86)
                   have hj := join_two (by omega) (by omega) hl9 hm9
                   rw [hj] at hT54
                   rw [hl9] at hT31
                   rw [hm9] at hT45
                   replace hT54 : es54.map GT.tm = l9 ++ m9 := hT54
                   replace hT31 : es31.map GT.tm = l9 := hT31
                   replace hT45 : es45.map GT.tm = m9 := hT45
                   refine cy_skip ?_
                   refine ny_next ?_
                   refine cy_seq ?_
                   refine cy_region ?_
                   refine sy_move rfl rfl rfl ?_
                   refine sy_move rfl rfl rfl ?_
                   refine sy_move rfl rfl rfl ?_
                   refine sy_cmp rfl rfl rfl rfl rfl ?_
                   refine sy_setT (d := 91) rfl rfl (by rw [hj]; rfl) ?_
                   refine sy_pickT rfl rfl rfl rfl ?_
                   refine sy_move rfl rfl rfl ?_
                   refine sy_move rfl rfl rfl ?_
                   refine sy_buildSlice (cs := []) rfl (fun w => bsl_23_0_ w) rfl rfl (fun b95 hb95 hM95 => ?_) (by simp)
                   refine sy_asRow (l := 0) (sz := 4) (cs := []) 0 rfl rfl (Nat.zero_le _) ?_
                   refine sy_move rfl rfl rfl ?_
                   refine sy_appendh (news := (es31.map GT.cells).flatten) 0 row_23 (by decide) rfl rfl rfl (fun h9 => none_len hr31 h9) (by rw [flat_len (GT.cells_len _), List.length_map]) (hr31.cells (by decide) (GT.cells_len _)) (GT.cells_ones _) (by omega) (by simp only [maxLen]; omega) rfl rfl (fun v97 => ?_)
                   refine sy_move rfl rfl rfl ?_
                   refine sy_appendh (news := (es45.map GT.cells).flatten) 0 row_23 (by decide) rfl rfl rfl (fun h9 => none_len hr45 h9) (by rw [flat_len (GT.cells_len _), List.length_map]) (hr45.cells (by decide) (GT.cells_len _)) (GT.cells_ones _) (by omega) (by simp only [maxLen]; omega) rfl rfl (fun v99 => ?_)
                   refine sy_frzRow 0 rfl (fun _ _ => by simp) (fun A99 c99 h99 hv99 hlc99 hcm99 _ hle99 hcell99 => ?_)
                   rw [Nat.zero_add, ← List.length_append] at hv99 hlc99
                   subst hv99
                   rw [flat_two] at hcell99
                   have hr99 : RowsAt h99 A99 4 ((es31 ++ es45).map GT.cells) := rows_row (by decide) (GT.cells_len _) hcell99
                   refine sy_call rfl call_13 rfl (lists_c es54 (es31 ++ es45) A54 A99 c54 c99 _ (hr54.le hle99) hr99 (fun t h9 => ⟨(hg54 t h9).1.1.le hle99, (hg54 t h9).1.2⟩) (fun t h9 => (List.mem_append.1 h9).elim (fun h8 => ⟨(hg31 t h8).1.1.le hle99, (hg31 t h8).1.2⟩) (fun h8 => ⟨(hg45 t h8).1.1.le hle99, (hg45 t h8).1.2⟩)) (by omega)) rfl rfl ?_
                   refine sy_setT (d := 100) rfl rfl ((sames_iff _ _).2 (by rw [hT54, List.map_append, hT31, hT45])) ?_
                   refine sy_pickT rfl rfl rfl rfl ?_
                   refine sy_assign rfl rfl rfl ?_
                   refine sy_nil rfl ?_
                   refine ny_next ?_
                   refine cy_ret ?_
                   refine ny_finR (res1 rfl rfl) (fun w hs2 => ⟨?_, hs2.frm⟩)
                   rfl
         · refine sy_skip rfl rfl rfl ?_
           refine sy_skip rfl rfl rfl ?_
           refine sy_skip rfl rfl rfl ?_
           refine sy_skip rfl rfl rfl ?_
           refine sy_skip rfl rfl rfl ?_
           refine sy_skip rfl rfl rfl ?_
           refine sy_skip rfl rfl rfl ?_
           refine sy_skip rfl rfl rfl ?_
           refine sy_pickF rfl rfl rfl rfl ?_
           refine sy_nil rfl ?_
           refine ny_next ?_
           refine cy_condF rfl ?_
           refine cy_skip ?_
           refine ny_next ?_
           refine cy_seq ?_
           refine cy_seq ?_
           refine cy_region ?_
           refine sy_move rfl rfl rfl ?_
           refine sy_cmp rfl rfl rfl rfl rfl ?_
           refine sy_move rfl rfl rfl ?_
           refine sy_cond (d := 83) _ rfl rfl (fun hg83 => ?_) (fun hg83 => ?_)
           · refine sy_skip rfl rfl rfl ?_
             refine sy_skip rfl rfl rfl ?_
             refine sy_pickT rfl rfl rfl rfl ?_
             refine sy_nil rfl ?_
             refine ny_next ?_
             refine cy_condT rfl ?_
             refine cy_seq ?_
             refine cy_region ?_
             refine sy_move rfl rfl rfl ?_
             refine sy_assign rfl rfl rfl ?_
             refine sy_nil rfl ?_
             refine ny_next ?_
             refine cy_ret ?_
             refine ny_thenR ?_
             refine ny_finR (res1 rfl rfl) (fun w hs2 => ⟨?_, hs2.frm⟩)
             rfl
           · refine sy_move rfl rfl rfl ?_
             refine sy_cmp rfl rfl rfl rfl rfl ?_
             refine sy_pickF rfl rfl rfl rfl ?_
             refine sy_nil rfl ?_
             refine ny_next ?_
             refine cy_cond rfl (fun hc86 => ?_) (fun hc86 => ?_)
             · refine cy_seq ?_
               refine cy_region ?_
               refine sy_move rfl rfl rfl ?_
               refine sy_assign rfl rfl rfl ?_
               refine sy_nil rfl ?_
               refine ny_next ?_
               refine cy_ret ?_
               refine ny_thenR ?_
               refine ny_finR (res1 rfl rfl) (fun w hs2 => ⟨?_, hs2.frm⟩)
               rfl
             · obtain ⟨l9, hl9⟩ := raE_zero (lv := 4) (l := (s.data.toList ++ [32, 46, 10])) (by simpa using hg83)
               obtain ⟨m9, hm9⟩ := raE_zero (lv := 4) (l := t.data.toList) (by simpa using hc86)
               have hj := join_two (by omega) (by omega) hl9 hm9
               rw [hj] at hT54
               rw [hl9] at hT31
               rw [hm9] at hT45
               replace hT54 : es54.map GT.tm = l9 ++ m9 := hT54
               replace hT31 : es31.map GT.tm = l9 := hT31
               replace hT45 : es45.map GT.tm = m9 := hT45
               refine cy_skip ?_
               refine ny_next ?_
               refine cy_seq ?_
               refine cy_region ?_
               refine sy_move rfl rfl rfl ?_
               refine sy_move rfl rfl rfl ?_
               refine sy_move rfl rfl rfl ?_
               refine sy_cmp rfl rfl rfl rfl rfl ?_
               refine sy_setT (d := 91) rfl rfl (by rw [hj]; rfl) ?_
               refine sy_pickT rfl rfl rfl rfl ?_
               refine sy_move rfl rfl rfl ?_
               refine sy_move rfl rfl rfl ?_
               refine sy_buildSlice (cs := []) rfl (fun w => bsl_23_0_ w) rfl rfl (fun b95 hb95 hM95 => ?_) (by simp)
               refine sy_asRow (l := 0) (sz := 4) (cs := []) 0 rfl rfl (Nat.zero_le _) ?_
               refine sy_move rfl rfl rfl ?_
               refine sy_appendh (news := (es31.map GT.cells).flatten) 0 row_23 (by decide) rfl rfl rfl (fun h9 => none_len hr31 h9) (by rw [flat_len (GT.cells_len _), List.length_map]) (hr31.cells (by decide) (GT.cells_len _)) (GT.cells_ones _) (by omega) (by simp only [maxLen]; omega) rfl rfl (fun v97 => ?_)
               refine sy_move rfl rfl rfl ?_
               refine sy_appendh (news := (es45.map GT.cells).flatten) 0 row_23 (by decide) rfl rfl rfl (fun h9 => none_len hr45 h9) (by rw [flat_len (GT.cells_len _), List.length_map]) (hr45.cells (by decide) (GT.cells_len _)) (GT.cells_ones _) (by omega) (by simp only [maxLen]; omega) rfl rfl (fun v99 => ?_)
               refine sy_frzRow 0 rfl (fun _ _ => by simp) (fun A99 c99 h99 hv99 hlc99 hcm99 _ hle99 hcell99 => ?_)
               rw [Nat.zero_add, ← List.length_append] at hv99 hlc99
               subst hv99
               rw [flat_two] at hcell99
               have hr99 : RowsAt h99 A99 4 ((es31 ++ es45).map GT.cells) := rows_row (by decide) (GT.cells_len _) hcell99
               refine sy_call rfl call_13 rfl (lists_c es54 (es31 ++ es45) A54 A99 c54 c99 _ (hr54.le hle99) hr99 (fun t h9 => ⟨(hg54 t h9).1.1.le hle99, (hg54 t h9).1.2⟩) (fun t h9 => (List.mem_append.1 h9).elim (fun h8 => ⟨(hg31 t h8).1.1.le hle99, (hg31 t h8).1.2⟩) (fun h8 => ⟨(hg45 t h8).1.1.le hle99, (hg45 t h8).1.2⟩)) (by omega)) rfl rfl ?_
               refine sy_setT (d := 100) rfl rfl ((sames_iff _ _).2 (by rw [hT54, List.map_append, hT31, hT45])) ?_
               refine sy_pickT rfl rfl rfl rfl ?_
               refine sy_assign rfl rfl rfl ?_
               refine sy_nil rfl ?_
               refine ny_next ?_
               refine cy_ret ?_
               refine ny_finR (res1 rfl rfl) (fun w hs2 => ⟨?_, hs2.frm⟩)
               rfl
       · refine sy_skip rfl rfl rfl ?_
         refine sy_skip rfl rfl rfl ?_
         refine sy_pickF rfl rfl rfl rfl ?_
         refine sy_move rfl rfl rfl ?_
         refine sy_skip rfl rfl rfl ?_
         refine sy_skip rfl rfl rfl ?_
         refine sy_skip rfl rfl rfl ?_
         refine sy_skip rfl rfl rfl ?_
         refine sy_skip rfl rfl rfl ?_
         refine sy_skip rfl rfl rfl ?_
         refine sy_skip rfl rfl rfl ?_
         refine sy_skip rfl rfl rfl ?_
         refine sy_pickF rfl rfl rfl rfl ?_
         refine sy_nil rfl ?_
         refine ny_next ?_
         refine cy_condF rfl ?_
         refine cy_skip ?_
         refine ny_next ?_
         refine cy_seq ?_
         refine cy_seq ?_
         refine cy_region ?_
         refine sy_move rfl rfl rfl ?_
         refine sy_cmp rfl rfl rfl rfl rfl ?_
         refine sy_move rfl rfl rfl ?_
         refine sy_cond (d := 83) _ rfl rfl (fun hg83 => ?_) (fun hg83 => ?_)
         · refine sy_skip rfl rfl rfl ?_
           refine sy_skip rfl rfl rfl ?_
           refine sy_pickT rfl rfl rfl rfl ?_
           refine sy_nil rfl ?_
           refine ny_next ?_
           refine cy_condT rfl ?_
           refine cy_seq ?_
           refine cy_region ?_
           refine sy_move rfl rfl rfl ?_
           refine sy_assign rfl rfl rfl ?_
           refine sy_nil rfl ?_
           refine ny_next ?_
           refine cy_ret ?_
           refine ny_thenR ?_
           refine ny_finR (res1 rfl rfl) (fun w hs2 => ⟨?_, hs2.frm⟩)
           rfl
         · refine sy_move rfl rfl rfl ?_
           refine sy_cmp rfl rfl rfl rfl rfl ?_
           refine sy_pickF rfl rfl rfl rfl ?_
           refine sy_nil rfl ?_
           refine ny_next ?_
           refine cy_cond rfl (fun hc86 => ?_) (fun hc86 => ?_)
           · refine cy_seq ?_
             refine cy_region ?_
             refine sy_move rfl rfl rfl ?_
             refine sy_assign rfl rfl rfl ?_
             refine sy_nil rfl ?_
             refine ny_next ?_
             refine cy_ret ?_
             refine ny_thenR ?_
             refine ny_finR (res1 rfl rfl) (fun w hs2 => ⟨?_, hs2.frm⟩)
             rfl
           · obtain ⟨l9, hl9⟩ := raE_zero (lv := 4) (l := (s.data.toList ++ [32, 46, 10])) (by simpa using hg83)
             obtain ⟨m9, hm9⟩ := raE_zero (lv := 4) (l := t.data.toList) (by simpa using hc86)
             have hj := join_two (by omega) (by omega) hl9 hm9
             rw [hj] at hT54
             rw [hl9] at hT31
             rw [hm9] at hT45
             replace hT54 : es54.map GT.tm = l9 ++ m9 := hT54
             replace hT31 : es31.map GT.tm = l9 := hT31
             replace hT45 : es45.map GT.tm = m9 := hT45
             refine cy_skip ?_
             refine ny_next ?_
             refine cy_seq ?_
             refine cy_region ?_
             refine sy_move rfl rfl rfl ?_
             refine sy_move rfl rfl rfl ?_
             refine sy_move rfl rfl rfl ?_
             refine sy_cmp rfl rfl rfl rfl rfl ?_
             refine sy_setT (d := 91) rfl rfl (by rw [hj]; rfl) ?_
             refine sy_pickT rfl rfl rfl rfl ?_
             refine sy_move rfl rfl rfl ?_
             refine sy_move rfl rfl rfl ?_
             refine sy_buildSlice (cs := []) rfl (fun w => bsl_23_0_ w) rfl rfl (fun b95 hb95 hM95 => ?_) (by simp)
             refine sy_asRow (l := 0) (sz := 4) (cs := []) 0 rfl rfl (Nat.zero_le _) ?_
             refine sy_move rfl rfl rfl ?_
             refine sy_appendh (news := (es31.map GT.cells).flatten) 0 row_23 (by decide) rfl rfl rfl (fun h9 => none_len hr31 h9) (by rw [flat_len (GT.cells_len _), List.length_map]) (hr31.cells (by decide) (GT.cells_len _)) (GT.cells_ones _) (by omega) (by simp only [maxLen]; omega) rfl rfl (fun v97 => ?_)
             refine sy_move rfl rfl rfl ?_
             refine sy_appendh (news := (es45.map GT.cells).flatten) 0 row_23 (by decide) rfl rfl rfl (fun h9 => none_len hr45 h9) (by rw [flat_len (GT.cells_len _), List.length_map]) (hr45.cells (by decide) (GT.cells_len _)) (GT.cells_ones _) (by omega) (by simp only [maxLen]; omega) rfl rfl (fun v99 => ?_)
             refine sy_frzRow 0 rfl (fun _ _ => by simp) (fun A99 c99 h99 hv99 hlc99 hcm99 _ hle99 hcell99 => ?_)
             rw [Nat.zero_add, ← List.length_append] at hv99 hlc99
             subst hv99
             rw [flat_two] at hcell99
             have hr99 : RowsAt h99 A99 4 ((es31 ++ es45).map GT.cells) := rows_row (by decide) (GT.cells_len _) hcell99
             refine sy_call rfl call_13 rfl (lists_c es54 (es31 ++ es45) A54 A99 c54 c99 _ (hr54.le hle99) hr99 (fun t h9 => ⟨(hg54 t h9).1.1.le hle99, (hg54 t h9).1.2⟩) (fun t h9 => (List.mem_append.1 h9).elim (fun h8 => ⟨(hg31 t h8).1.1.le hle99, (hg31 t h8).1.2⟩) (fun h8 => ⟨(hg45 t h8).1.1.le hle99, (hg45 t h8).1.2⟩)) (by omega)) rfl rfl ?_
             refine sy_setT (d := 100) rfl rfl ((sames_iff _ _).2 (by rw [hT54, List.map_append, hT31, hT45])) ?_
             refine sy_pickT rfl rfl rfl rfl ?_
             refine sy_assign rfl rfl rfl ?_
             refine sy_nil rfl ?_
             refine ny_next ?_
             refine cy_ret ?_
             refine ny_finR (res1 rfl rfl) (fun w hs2 => ⟨?_, hs2.frm⟩)
             rfl
     · refine sy_skip rfl rfl rfl ?_
       refine sy_skip rfl rfl rfl ?_
       refine sy_skip rfl rfl rfl ?_
       refine sy_pickF rfl rfl rfl rfl ?_
       refine sy_move rfl rfl rfl ?_
       refine sy_skip rfl rfl rfl ?_
       refine sy_skip rfl rfl rfl ?_
       refine sy_pickF rfl rfl rfl rfl ?_
       refine sy_move rfl rfl rfl ?_
       refine sy_skip rfl rfl rfl ?_
       refine sy_skip rfl rfl rfl ?_
       refine sy_skip rfl rfl rfl ?_
       refine sy_skip rfl rfl rfl ?_
       refine sy_skip rfl rfl rfl ?_
       refine sy_skip rfl rfl rfl ?_
       refine sy_skip rfl rfl rfl ?_
       refine sy_skip rfl rfl rfl ?_
       refine sy_pickF rfl rfl rfl rfl ?_
       refine sy_nil rfl ?_
       refine ny_next ?_
       refine cy_condF rfl ?_
       refine cy_skip ?_
       refine ny_next ?_
       refine cy_seq ?_
       refine cy_seq ?_
       refine cy_region ?_
       refine sy_move rfl rfl rfl ?_
       refine sy_cmp rfl rfl rfl rfl rfl ?_
       refine sy_move rfl rfl rfl ?_
       refine sy_cond (d := 83) _ rfl rfl (fun hg83 => ?_) (fun hg83 => ?_)
       · refine sy_skip rfl rfl rfl ?_
         refine sy_skip rfl rfl rfl ?_
         refine sy_pickT rfl rfl rfl rfl ?_
         refine sy_nil rfl ?_
         refine ny_next ?_
         refine cy_condT rfl ?_
         refine cy_seq ?_
         refine cy_region ?_
         refine sy_move rfl rfl rfl ?_
         refine sy_assign rfl rfl rfl ?_
         refine sy_nil rfl ?_
         refine ny_next ?_
         refine cy_ret ?_
         refine ny_thenR ?_
         refine ny_finR (res1 rfl rfl) (fun w hs2 => ⟨?_, hs2.frm⟩)
         rfl
       · refine sy_move rfl rfl rfl ?_
         refine sy_cmp rfl rfl rfl rfl rfl ?_
         refine sy_pickF rfl rfl rfl rfl ?_
         refine sy_nil rfl ?_
         refine ny_next ?_
         refine cy_cond rfl (fun hc86 => ?_) (fun hc86 => ?_)
         · refine cy_seq ?_
           refine cy_region ?_
           refine sy_move rfl rfl rfl ?_
           refine sy_assign rfl rfl rfl ?_
           refine sy_nil rfl ?_
           refine ny_next ?_
           refine cy_ret ?_
           refine ny_thenR ?_
           refine ny_finR (res1 rfl rfl) (fun w hs2 => ⟨?_, hs2.frm⟩)
           rfl
         · obtain ⟨l9, hl9⟩ := raE_zero (lv := 4) (l := (s.data.toList ++ [32, 46, 10])) (by simpa using hg83)
           obtain ⟨m9, hm9⟩ := raE_zero (lv := 4) (l := t.data.toList) (by simpa using hc86)
           have hj := join_two (by omega) (by omega) hl9 hm9
           rw [hj] at hT54
           rw [hl9] at hT31
           rw [hm9] at hT45
           replace hT54 : es54.map GT.tm = l9 ++ m9 := hT54
           replace hT31 : es31.map GT.tm = l9 := hT31
           replace hT45 : es45.map GT.tm = m9 := hT45
           refine cy_skip ?_
           refine ny_next ?_
           refine cy_seq ?_
           refine cy_region ?_
           refine sy_move rfl rfl rfl ?_
           refine sy_move rfl rfl rfl ?_
           refine sy_move rfl rfl rfl ?_
           refine sy_cmp rfl rfl rfl rfl rfl ?_
           refine sy_setT (d := 91) rfl rfl (by rw [hj]; rfl) ?_
           refine sy_pickT rfl rfl rfl rfl ?_
           refine sy_move rfl rfl rfl ?_
           refine sy_move rfl rfl rfl ?_
           refine sy_buildSlice (cs := []) rfl (fun w => bsl_23_0_ w) rfl rfl (fun b95 hb95 hM95 => ?_) (by simp)
           refine sy_asRow (l := 0) (sz := 4) (cs := []) 0 rfl rfl (Nat.zero_le _) ?_
           refine sy_move rfl rfl rfl ?_
           refine sy_appendh (news := (es31.map GT.cells).flatten) 0 row_23 (by decide) rfl rfl rfl (fun h9 => none_len hr31 h9) (by rw [flat_len (GT.cells_len _), List.length_map]) (hr31.cells (by decide) (GT.cells_len _)) (GT.cells_ones _) (by omega) (by simp only [maxLen]; omega) rfl rfl (fun v97 => ?_)
           refine sy_move rfl rfl rfl ?_
           refine sy_appendh (news := (es45.map GT.cells).flatten) 0 row_23 (by decide) rfl rfl rfl (fun h9 => none_len hr45 h9) (by rw [flat_len (GT.cells_len _), List.length_map]) (hr45.cells (by decide) (GT.cells_len _)) (GT.cells_ones _) (by omega) (by simp only [maxLen]; omega) rfl rfl (fun v99 => ?_)
           refine sy_frzRow 0 rfl (fun _ _ => by simp) (fun A99 c99 h99 hv99 hlc99 hcm99 _ hle99 hcell99 => ?_)
           rw [Nat.zero_add, ← List.length_append] at hv99 hlc99
           subst hv99
           rw [flat_two] at hcell99
           have hr99 : RowsAt h99 A99 4 ((es31 ++ es45).map GT.cells) := rows_row (by decide) (GT.cells_len _) hcell99
           refine sy_call rfl call_13 rfl (lists_c es54 (es31 ++ es45) A54 A99 c54 c99 _ (hr54.le hle99) hr99 (fun t h9 => ⟨(hg54 t h9).1.1.le hle99, (hg54 t h9).1.2⟩) (fun t h9 => (List.mem_append.1 h9).elim (fun h8 => ⟨(hg31 t h8).1.1.le hle99, (hg31 t h8).1.2⟩) (fun h8 => ⟨(hg45 t h8).1.1.le hle99, (hg45 t h8).1.2⟩)) (by omega)) rfl rfl ?_
           refine sy_setT (d := 100) rfl rfl ((sames_iff _ _).2 (by rw [hT54, List.map_append, hT31, hT45])) ?_
           refine sy_pickT rfl rfl rfl rfl ?_
           refine sy_assign rfl rfl rfl ?_
           refine sy_nil rfl ?_
           refine ny_next ?_
           refine cy_ret ?_
           refine ny_finR (res1 rfl rfl) (fun w hs2 => ⟨?_, hs2.frm⟩)
           rfl
theorem cut_bare {s : List UInt8} {x : Tm} (hs : s.length ≤ 1000) (h : allA 4 (s ++ [32, 46]) = .ok [x]) (hn : raE (allA 4 ([40, 32] ++ s ++ [32, 46])) = 0 ∨ raE (allA 4 (s ++ [32, 41, 32, 46])) = 0 ∨ raE (allA 4 s) = 0) : bareB s = false := by
 cases hb : bareB s with
 | false => rfl
 | true =>
  exfalso
  rcases hn with hn | hn | hn
  · exact raE_some (cuts_open hs hb h) hn
  · exact raE_some (cuts_close hs hb h) hn
  · exact raE_some (cuts_end hb h) hn
set_option maxRecDepth 100000 in
theorem cuts07_c (s : ByteArray) (h : Hp) (hh : Hdl h) : C0 Tryd.prog 7 [.string s] h (.bool true) := by
 refine enter0 Tryd.func7 rfl rfl rfl (fun w => ?_)
 refine cy_seq ?_
 refine cy_region ?_
 refine sy_assign rfl rfl rfl ?_
 refine sy_nil rfl ?_
 refine ny_next ?_
 refine cy_seq ?_
 refine cy_region ?_
 refine sy_call rfl call_9 rfl (shown07_c _ hh) rfl rfl ?_
 refine sy_setT (d := 16) rfl rfl rfl ?_
 refine sy_assign rfl rfl rfl ?_
 refine sy_nil rfl ?_
 refine ny_next ?_
 refine cy_seq ?_
 refine cy_seq ?_
 refine cy_region ?_
 refine sy_move rfl rfl rfl ?_
 refine sy_len rfl (len_string Tryd.underlying9 _) rfl rfl ?_
 refine sy_cmp rfl rfl rfl rfl rfl ?_
 refine sy_nil rfl ?_
 refine ny_next ?_
 refine cy_cond rfl (fun hc19 => ?_) (fun hc19 => ?_)
 · refine cy_seq ?_
   refine cy_region ?_
   refine sy_move rfl rfl rfl ?_
   refine sy_assign rfl rfl rfl ?_
   refine sy_nil rfl ?_
   refine ny_next ?_
   refine cy_ret ?_
   refine ny_thenR ?_
   refine ny_finR (res1 rfl rfl) (fun w hs2 => ⟨?_, hs2.frm⟩)
   rfl
 · have hs1 : s.size ≤ 1000 := by have := of_decide_eq_false hc19; omega
   have hsl : s.data.toList.length = s.size := rfl
   refine cy_skip ?_
   refine ny_next ?_
   refine cy_seq ?_
   refine cy_region ?_
   refine sy_move rfl rfl rfl ?_
   refine sy_cat rfl rfl (by (try simp only [ByteArray.size_append]); have e0 : (⟨#[32, 46]⟩ : ByteArray).size = 2 := rfl; omega) rfl rfl ?_
   refine sy_callx call_10 rfl (allL_c _ ((s.data.toList ++ [32, 46])) (by rw [ba_cat]) (4) _ hh) rfl rfl (fun x24 h24 hx24 hle24 => ?_)
   obtain ⟨es24, A24, c24⟩ := x24
   obtain ⟨hT24, hr24, hc24, hz24, hg24⟩ := hx24
   simp only at hT24 hr24 hc24 hz24 hg24 ⊢
   replace hh := hh.le hle24
   refine sy_move rfl rfl rfl ?_
   refine sy_extract rfl rfl rfl rfl ?_
   refine sy_extract rfl rfl rfl rfl ?_
   refine sy_extract rfl rfl rfl rfl ?_
   refine sy_assign rfl rfl rfl ?_
   refine sy_assign rfl rfl rfl ?_
   refine sy_assign rfl rfl rfl ?_
   refine sy_nil rfl ?_
   refine ny_next ?_
   refine cy_seq ?_
   refine cy_seq ?_
   refine cy_region ?_
   refine sy_move rfl rfl rfl ?_
   refine sy_cmp rfl rfl rfl rfl rfl ?_
   refine sy_move rfl rfl rfl ?_
   refine sy_cond (d := 30) _ rfl rfl (fun hg30 => ?_) (fun hg30 => ?_)
   · refine sy_skip rfl rfl rfl ?_
     refine sy_skip rfl rfl rfl ?_
     refine sy_skip rfl rfl rfl ?_
     refine sy_pickT rfl rfl rfl rfl ?_
     refine sy_nil rfl ?_
     refine ny_next ?_
     refine cy_condT rfl ?_
     refine cy_seq ?_
     refine cy_region ?_
     refine sy_move rfl rfl rfl ?_
     refine sy_assign rfl rfl rfl ?_
     refine sy_nil rfl ?_
     refine ny_next ?_
     refine cy_ret ?_
     refine ny_thenR ?_
     refine ny_finR (res1 rfl rfl) (fun w hs2 => ⟨?_, hs2.frm⟩)
     rfl
   · refine sy_move rfl rfl rfl ?_
     refine sy_len rfl (len_slice Tryd.underlying23 _ _ _) rfl rfl ?_
     refine sy_cmp rfl rfl rfl rfl rfl ?_
     refine sy_pickF rfl rfl rfl rfl ?_
     refine sy_nil rfl ?_
     refine ny_next ?_
     refine cy_cond rfl (fun hc34 => ?_) (fun hc34 => ?_)
     · refine cy_seq ?_
       refine cy_region ?_
       refine sy_move rfl rfl rfl ?_
       refine sy_assign rfl rfl rfl ?_
       refine sy_nil rfl ?_
       refine ny_next ?_
       refine cy_ret ?_
       refine ny_thenR ?_
       refine ny_finR (res1 rfl rfl) (fun w hs2 => ⟨?_, hs2.frm⟩)
       rfl
     · obtain ⟨x1, hx1⟩ := one_of (lv := 4) (l := (s.data.toList ++ [32, 46])) (by simpa using hg30) (len_ra hT24 (by simpa using hc34))
       refine cy_skip ?_
       refine ny_next ?_
       refine cy_seq ?_
       refine cy_region ?_
       refine sy_move rfl rfl rfl ?_
       refine sy_cat rfl rfl (by (try simp only [ByteArray.size_append]); have e0 : (⟨#[40, 32]⟩ : ByteArray).size = 2 := rfl; omega) rfl rfl ?_
       refine sy_cat rfl rfl (by (try simp only [ByteArray.size_append]); have e0 : (⟨#[40, 32]⟩ : ByteArray).size = 2 := rfl; have e1 : (⟨#[32, 46]⟩ : ByteArray).size = 2 := rfl; omega) rfl rfl ?_
       refine sy_callx call_10 rfl (allL_c _ (([40, 32] ++ s.data.toList ++ [32, 46])) (by rw [ba_cat, ba_cat]) (4) _ hh) rfl rfl (fun x40 h40 hx40 hle40 => ?_)
       obtain ⟨es40, A40, c40⟩ := x40
       obtain ⟨hT40, hr40, hc40, hz40, hg40⟩ := hx40
       simp only at hT40 hr40 hc40 hz40 hg40 ⊢
       replace hh := hh.le hle40
       refine sy_move rfl rfl rfl ?_
       refine sy_extract rfl rfl rfl rfl ?_
       refine sy_extract rfl rfl rfl rfl ?_
       refine sy_extract rfl rfl rfl rfl ?_
       refine sy_assign rfl rfl rfl ?_
       refine sy_assign rfl rfl rfl ?_
       refine sy_assign rfl rfl rfl ?_
       refine sy_nil rfl ?_
       refine ny_next ?_
       refine cy_seq ?_
       refine cy_region ?_
       refine sy_move rfl rfl rfl ?_
       refine sy_cat rfl rfl (by (try simp only [ByteArray.size_append]); have e0 : (⟨#[32, 41, 32, 46]⟩ : ByteArray).size = 4 := rfl; omega) rfl rfl ?_
       refine sy_callx call_10 rfl (allL_c _ ((s.data.toList ++ [32, 41, 32, 46])) (by rw [ba_cat]) (4) _ hh) rfl rfl (fun x47 h47 hx47 hle47 => ?_)
       obtain ⟨es47, A47, c47⟩ := x47
       obtain ⟨hT47, hr47, hc47, hz47, hg47⟩ := hx47
       simp only at hT47 hr47 hc47 hz47 hg47 ⊢
       replace hh := hh.le hle47
       refine sy_move rfl rfl rfl ?_
       refine sy_extract rfl rfl rfl rfl ?_
       refine sy_extract rfl rfl rfl rfl ?_
       refine sy_extract rfl rfl rfl rfl ?_
       refine sy_assign rfl rfl rfl ?_
       refine sy_assign rfl rfl rfl ?_
       refine sy_assign rfl rfl rfl ?_
       refine sy_nil rfl ?_
       refine ny_next ?_
       refine cy_seq ?_
       refine cy_region ?_
       refine sy_move rfl rfl rfl ?_
       refine sy_callx call_10 rfl (allL_c _ (s.data.toList) (rfl) (4) _ hh) rfl rfl (fun x53 h53 hx53 hle53 => ?_)
       obtain ⟨es53, A53, c53⟩ := x53
       obtain ⟨hT53, hr53, hc53, hz53, hg53⟩ := hx53
       simp only at hT53 hr53 hc53 hz53 hg53 ⊢
       replace hh := hh.le hle53
       refine sy_move rfl rfl rfl ?_
       refine sy_extract rfl rfl rfl rfl ?_
       refine sy_extract rfl rfl rfl rfl ?_
       refine sy_extract rfl rfl rfl rfl ?_
       refine sy_assign rfl rfl rfl ?_
       refine sy_assign rfl rfl rfl ?_
       refine sy_assign rfl rfl rfl ?_
       refine sy_nil rfl ?_
       refine ny_next ?_
       refine cy_seq ?_
       refine cy_region ?_
       refine sy_move rfl rfl rfl ?_
       refine sy_move rfl rfl rfl ?_
       refine sy_move rfl rfl rfl ?_
       refine sy_cmp rfl rfl rfl rfl rfl ?_
       refine sy_move rfl rfl rfl ?_
       refine sy_cond (d := 61) _ rfl rfl (fun hg61 => ?_) (fun hg61 => ?_)
       · refine sy_move rfl rfl rfl ?_
         refine sy_cmp rfl rfl rfl rfl rfl ?_
         refine sy_pickT rfl rfl rfl rfl ?_
         refine sy_move rfl rfl rfl ?_
         refine sy_cond (d := 65) _ rfl rfl (fun hg65 => ?_) (fun hg65 => ?_)
         · refine sy_move rfl rfl rfl ?_
           refine sy_cmp rfl rfl rfl rfl rfl ?_
           refine sy_pickT rfl rfl rfl rfl ?_
           refine sy_move rfl rfl rfl ?_
           refine sy_cond (d := 69) _ rfl rfl (fun hg69 => ?_) (fun hg69 => ?_)
           · refine sy_skip rfl rfl rfl ?_
             refine sy_skip rfl rfl rfl ?_
             refine sy_pickT rfl rfl rfl rfl ?_
             refine sy_pickT rfl rfl rfl rfl ?_
             refine sy_assign rfl rfl rfl ?_
             refine sy_nil rfl ?_
             refine ny_next ?_
             refine cy_ret ?_
             refine ny_finR (res1 rfl rfl) (fun w hs2 => ⟨?_, hs2.frm⟩)
             rfl
           · first | (have h9 := hg69; have hbe : bareB s.data.toList = false := cut_bare (by omega) hx1 (.inr (.inr (by simpa using h9)))) | skip
             refine sy_move rfl rfl rfl ?_
             refine sy_call rfl call_14 rfl (plainEnd_c s _ (by omega)) rfl rfl ?_
             rw [hbe]
             refine sy_pickF rfl rfl rfl rfl ?_
             refine sy_pickT rfl rfl rfl rfl ?_
             refine sy_assign rfl rfl rfl ?_
             refine sy_nil rfl ?_
             refine ny_next ?_
             refine cy_ret ?_
             refine ny_finR (res1 rfl rfl) (fun w hs2 => ⟨?_, hs2.frm⟩)
             rfl
         · have hbe : bareB s.data.toList = false := cut_bare (by omega) hx1 (.inr (.inl (by simpa using hg65)))
           refine sy_skip rfl rfl rfl ?_
           refine sy_skip rfl rfl rfl ?_
           refine sy_pickF rfl rfl rfl rfl ?_
           refine sy_move rfl rfl rfl ?_
           refine sy_move rfl rfl rfl ?_
           refine sy_call rfl call_14 rfl (plainEnd_c s _ (by omega)) rfl rfl ?_
           rw [hbe]
           refine sy_pickF rfl rfl rfl rfl ?_
           refine sy_pickT rfl rfl rfl rfl ?_
           refine sy_assign rfl rfl rfl ?_
           refine sy_nil rfl ?_
           refine ny_next ?_
           refine cy_ret ?_
           refine ny_finR (res1 rfl rfl) (fun w hs2 => ⟨?_, hs2.frm⟩)
           rfl
       · have hbe : bareB s.data.toList = false := cut_bare (by omega) hx1 (.inl (by simpa using hg61))
         refine sy_skip rfl rfl rfl ?_
         refine sy_skip rfl rfl rfl ?_
         refine sy_pickF rfl rfl rfl rfl ?_
         refine sy_move rfl rfl rfl ?_
         refine sy_skip rfl rfl rfl ?_
         refine sy_skip rfl rfl rfl ?_
         refine sy_pickF rfl rfl rfl rfl ?_
         refine sy_move rfl rfl rfl ?_
         refine sy_move rfl rfl rfl ?_
         refine sy_call rfl call_14 rfl (plainEnd_c s _ (by omega)) rfl rfl ?_
         rw [hbe]
         refine sy_pickF rfl rfl rfl rfl ?_
         refine sy_pickT rfl rfl rfl rfl ?_
         refine sy_assign rfl rfl rfl ?_
         refine sy_nil rfl ?_
         refine ny_next ?_
         refine cy_ret ?_
         refine ny_finR (res1 rfl rfl) (fun w hs2 => ⟨?_, hs2.frm⟩)
         rfl
end Go.Proofs.YtanhhihechakhaaDoor

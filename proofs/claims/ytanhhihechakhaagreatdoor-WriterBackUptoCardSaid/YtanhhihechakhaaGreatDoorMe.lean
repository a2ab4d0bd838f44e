/- The engine, the plain laws and the walks of this seat, part 5: what the functions answer. Conditions: as each says; printed by programs of this session. -/
import Derived.Test.YtanhhihechakhaaGreatDoorMd
set_option linter.unusedVariables false
set_option linter.unusedSimpArgs false
namespace Go.Proofs.YtanhhihechakhaaGreatDoor
open Go.RowKit Go.Proofs.YtanhhihechakhaaGreatDoor.E Go.Proofs.YtanhhihechakhaaGreatDoor.ReplP Go.Proofs.YtanhhihechakhaaGreatDoor.TokP Go.Proofs.YtanhhihechakhaaGreatDoor.TermP Go.Proofs.YtanhhihechakhaaGreatDoor.WrP Go.Proofs.YtanhhihechakhaaGreatDoor.ReadP Go.Proofs.YtanhhihechakhaaGreatDoor.OpsP
def RdC {α : Type} (r bm : Nat) (A : Option Addr) (c : Nat) (L : List RT) (lv : Int) (F : Nat) (vs : List Value) (h : Hp) (st : RSt) (inn : Int) (o : Obj) (vn : Value) (ro : RO α) (tmOf : α → Tm) (rv : α → GT → Value) : Prop :=
 CRO Tryz.prog F (.pointer (some ⟨r, 0, none⟩) :: vs) h [.blk r (.cells [.slice A L.length c, .int .i64 ((st.at_ : Nat) : Int), .int .i64 lv, .int .i64 inn, .map (some bm), vn].toArray 88 (0, 0)), .blk bm o, .row vn 9 1 st.names.length ((st.names.map strC).flatten)] 90 ro (fun x (d : GT × Obj × Value) => rv x d.1) (fun x s d h' H' => d.1.tm = tmOf x ∧ (Lies h' d.1 ∧ Fits d.1) ∧ MapV Tryz.prog 9 3 d.2.1 s.names.length (lastI s.names) ∧ H' = [.blk r (.cells [.slice A L.length c, .int .i64 ((s.at_ : Nat) : Int), .int .i64 lv, .int .i64 inn, .map (some bm), d.2.2].toArray 88 (0, 0)), .blk bm d.2.1, .row d.2.2 9 1 s.names.length ((s.names.map strC).flatten)]) (fun _ H' => ∃ (a : Nat) (i : Int) (o : Obj) (v : Value) (names : List ByteArray), H' = [.blk r (.cells [.slice A L.length c, .int .i64 ((a : Nat) : Int), .int .i64 lv, .int .i64 i, .map (some bm), v].toArray 88 (0, 0)), .blk bm o, .row v 9 1 names.length ((names.map strC).flatten)])
def TmC (r bm : Nat) (A : Option Addr) (c : Nat) (L : List RT) (lv inn : Int) (tm : Rd) : Prop :=
 ∀ (h : Hp) (st : RSt) (o : Obj) (vn : Value) (most : Int), RowsAt h A 5 (L.map rtC) → st.at_ ≤ L.length → st.names.length ≤ st.at_ → MapV Tryz.prog 9 3 o st.names.length (lastI st.names) → RdC r bm A c L lv 55 [.int .i64 most] h st inn o vn (tm most st) (·.1) (fun _ g => .agg (GT.cells g).toArray)
def RdS (r bm : Nat) (A : Option Addr) (c : Nat) (L : List RT) (lv : Int) (F : Nat) (h : Hp) (st : RSt) (inn : Int) (o : Obj) (vn : Value) (ro : RO (List Tm)) : Prop :=
 CRO Tryz.prog F [.pointer (some ⟨r, 0, none⟩)] h [.blk r (.cells [.slice A L.length c, .int .i64 ((st.at_ : Nat) : Int), .int .i64 lv, .int .i64 inn, .map (some bm), vn].toArray 88 (0, 0)), .blk bm o, .row vn 9 1 st.names.length ((st.names.map strC).flatten)] 90 ro (fun _ (d : (List GT × Option Addr × Nat) × Obj × Value) => .slice d.1.2.1 d.1.1.length d.1.2.2)
  (fun x s d h' H' => d.1.1.map GT.tm = x ∧ (RowsAt h' d.1.2.1 4 (d.1.1.map GT.cells) ∧ d.1.1.length ≤ d.1.2.2 ∧ d.1.2.1.isNone = false ∧ (∀ t ∈ d.1.1, Lies h' t ∧ Fits t) ∧ d.1.1.length ≤ s.at_) ∧ MapV Tryz.prog 9 3 d.2.1 s.names.length (lastI s.names) ∧ H' = [.blk r (.cells [.slice A L.length c, .int .i64 ((s.at_ : Nat) : Int), .int .i64 lv, .int .i64 inn, .map (some bm), d.2.2].toArray 88 (0, 0)), .blk bm d.2.1, .row d.2.2 9 1 s.names.length ((s.names.map strC).flatten)]) (fun _ H' => ∃ (a : Nat) (i : Int) (o : Obj) (v : Value) (names : List ByteArray), H' = [.blk r (.cells [.slice A L.length c, .int .i64 ((a : Nat) : Int), .int .i64 lv, .int .i64 i, .map (some bm), v].toArray 88 (0, 0)), .blk bm o, .row v 9 1 names.length ((names.map strC).flatten)])
structure AZ where
 acc : List GT
 st : RSt
 o : Obj
 vn : Value
 v : Value
 hh : Hp
 n : Nat
set_option maxRecDepth 100000 in
theorem term1_c (r bm : Nat) (A : Option Addr) (c : Nat) (L : List RT) (lv : Int) (h : Hp) (st : RSt) (inn : Int) (o : Obj) (vn : Value) (most : Int) (ro : RO (Tm × Int)) (ht : RdC r bm A c L lv 83 [.int .i64 most] h st inn o vn ro (·.1) (fun x g => .tuple #[.agg (GT.cells g).toArray, .int .i64 x.2])) : RdC r bm A c L lv 55 [.int .i64 most] h st inn o vn ro (·.1) (fun _ g => .agg (GT.cells g).toArray) := by
 refine enterR Tryz.func55 rfl rfl rfl (fun w hb0 => ?_)
 refine cy_seq ?_
 refine cy_region ?_
 refine sy_alloc zer_24 rfl rfl (fun b4 hb4 hM4 => ?_) (by first | exact hb0 | simp)
 refine sy_nil rfl ?_
 refine ny_next ?_
 refine cy_seq ?_
 refine cy_region ?_
 refine sy_move rfl rfl rfl ?_
 refine sy_move rfl rfl rfl ?_
 refine sy_callRO [1, 1, 1] call_83 rfl rfl (ht) rfl rfl (fun a10 e10 h10x H10x hb10 hx10 hle10x => ?_) (fun x10 s10 g10 h10x H10x hk10 hx10 hle10x => ?_)
 · obtain ⟨a9, i9, o9, v9, n9, rfl⟩ := hx10
   refine ny_thenP ?_
   exact ny_finP (fun w hs => ⟨.bad a10 e10, h10x, _, rfl, ⟨hb10, a9, i9, o9, v9, n9, rfl⟩, hs.sel (is := [0, 0, 0]) rfl⟩)
 · obtain ⟨hg10, hl10, hm10, rfl⟩ := hx10
   refine sy_move rfl rfl rfl ?_
   refine sy_extract rfl rfl rfl rfl ?_
   refine sy_extract rfl rfl rfl rfl ?_
   refine sy_alloc zer_24 rfl rfl (fun b5 hb5 hM5 => ?_) (by first | exact hb0 | simp)
   refine sy_stl 0 sz_24 rfl rfl rfl rfl rfl rfl rfl rfl ?_
   refine sy_assign rfl rfl rfl ?_
   refine sy_nil rfl ?_
   refine ny_next ?_
   refine cy_seq ?_
   refine cy_region ?_
   refine sy_ldar 0 agg_24 rfl rfl rfl rfl rfl ?_
   refine sy_stl 4 sz_24 rfl rfl rfl rfl rfl rfl rfl rfl ?_
   refine sy_nil rfl ?_
   refine ny_next ?_
   refine cy_ret ?_
   exact ny_finR (rescS 0 rfl agg_24 rfl rfl rfl) (fun w hs => ⟨.ok x10 s10 g10, h10x, _, rfl, ⟨hk10, hg10, hl10, hm10, rfl⟩, hs.sel (is := [2, 2, 2]) rfl⟩)
set_option maxRecDepth 100000 in
theorem args_c (r bm : Nat) (A : Option Addr) (c : Nat) (L : List RT) (lv : Int) (h : Hp) (st : RSt) (inn : Int) (o : Obj) (vn : Value) (tm : Rd) (hf : Fwd L tm) (htm : TmC r bm A c L lv inn tm) (hT : RowsAt h A 5 (L.map rtC)) (hL : L.length ≤ 1048576) (hat : st.at_ ≤ L.length) (hnm : st.names.length ≤ st.at_) (hm : MapV Tryz.prog 9 3 o st.names.length (lastI st.names)) : RdS r bm A c L lv 126 h st inn o vn (argsR L tm st) := by
 refine enterR Tryz.func126 rfl rfl rfl (fun w hb0 => ?_)
 refine cy_seq ?_
 refine cy_region ?_
 refine sy_assign rfl rfl rfl ?_
 refine sy_nil rfl ?_
 refine ny_next ?_
 refine cy_seq ?_
 refine cy_region ?_
 refine sy_move rfl rfl rfl ?_
 refine sy_callRO [0, 0, 0] call_55 rfl rfl (htm h st o vn 999 hT hat hnm hm) rfl rfl (fun a5 e5 h5x H5x hb5 hx5 hle5x => ?_) (fun x5 s5 g5 h5x H5x hk5 hx5 hle5x => ?_)
 · obtain ⟨a9, i9, o9, v9, n9, rfl⟩ := hx5
   refine ny_thenP ?_
   exact ny_finP (fun w9 hs => ⟨.bad a5 e5, h5x, _, rfl, ⟨(by unfold argsR; rw [hb5]), a9, i9, o9, v9, n9, rfl⟩, hs.sel (is := [0, 0, 0]) rfl⟩)
 · obtain ⟨hg5, hl5, hm5, rfl⟩ := hx5
   have hfw := hf 999 st x5 s5 hat hk5
   refine sy_buildSlice (cs := [g5.1].flatMap GT.cells) rfl (fun w => bsl_22_1_0 w) rfl rfl (fun b6 hb6 hM6 => ?_) (by first | exact hb0 | simp)
   refine sy_asRow (l := 1) (sz := 4) (cs := [g5.1].flatMap GT.cells) 0 rfl rfl (by decide) ?_
   refine sy_assign rfl rfl rfl ?_
   refine sy_nil rfl ?_
   refine ny_next ?_
   refine cy_seq ?_
   refine cy_block ?_
   refine cy_loopK (ι := AZ) [0] rfl (fun z => z.acc ≠ [] ∧ moreR L tm z.n (z.acc.map GT.tm) z.st = argsR L tm st ∧ L.length + 1 ≤ z.n + z.st.at_ ∧ z.st.at_ ≤ L.length ∧ z.st.names.length ≤ z.st.at_ ∧ MapV Tryz.prog 9 3 z.o z.st.names.length (lastI z.st.names) ∧ h5x.Le z.hh ∧ (∀ t ∈ z.acc, Lies z.hh t ∧ Fits t) ∧ (∀ g, z.v.ownBlock = some g → w.heap.size ≤ g) ∧ z.acc.length ≤ z.st.at_) (fun z => L.length - z.st.at_) (fun z => [(3, z.v)]) (fun z => z.hh) (fun z => [.row z.v 24 4 z.acc.length ((z.acc.map GT.cells).flatten), .blk r (.cells [.slice A L.length c, .int .i64 ((z.st.at_ : Nat) : Int), .int .i64 lv, .int .i64 inn, .map (some bm), z.vn].toArray 88 (0, 0)), .blk bm z.o, .row z.vn 9 1 z.st.names.length ((z.st.names.map strC).flatten)]) ⟨[g5.1], s5, g5.2.1, g5.2.2, .slice (some ⟨b6, 0, none⟩) 1 1, h5x, L.length + 1⟩ [0, 0, 0, 0] ⟨(by simp), (by unfold argsR; rw [hk5]; show moreR L tm (L.length + 1) [g5.1.tm] s5 = _; rw [hg5]), (by show L.length + 1 ≤ L.length + 1 + s5.at_; omega), hfw.2.1, (by show s5.names.length ≤ s5.at_; omega), hm5, Hp.Le.refl _, (fun t h9 => by rw [List.mem_singleton.1 h9]; exact hl5), (fun g h9 => by cases h9; exact hb6), (by show 1 ≤ s5.at_; omega)⟩ ⟨rfl, trivial⟩ rfl rfl ?_
   rintro ⟨acc, st2, o2, vn2, v2, hz, m⟩ ⟨hne, hro, hmn, hat2, hnm2, hm2, hlez, hgt, hown, hac⟩
   simp only at hne hro hmn hat2 hnm2 hm2 hlez hgt hown hac ⊢
   have hTz : RowsAt hz A 5 (L.map rtC) := (hT.le hle5x).le hlez
   refine cy_seq ?_
   refine cy_seq ?_
   refine cy_region ?_
   refine sy_move rfl rfl rfl ?_
   refine sy_callR1 [1] call_98 rfl rfl (is_c ⟨#[44]⟩ r bm A c L lv _ hTz hL st2 inn vn2 hat2) rfl rfl (fun x8 h8x H8x hx8 hle8x => ?_)
   obtain ⟨rfl, rfl⟩ := hx8
   refine sy_nil rfl ?_
   refine ny_next ?_
   refine cy_cond rfl (fun hc8 => ?_) (fun hc8 => ?_)
   · have hlt := isP_lt hc8
     have hm1 : 1 ≤ m := by omega
     refine cy_skip ?_
     refine ny_next ?_
     refine cy_block ?_
     refine cy_seq ?_
     refine cy_region ?_
     refine sy_move rfl rfl rfl ?_
     refine sy_nilCheck rfl rfl rfl ?_
     refine sy_field fld_88_1 rfl rfl rfl ?_
     refine sy_ldr 0 one_3 rfl rfl rfl rfl rfl ?_
     refine sy_addi (z := ((st2.at_ + 1 : Nat) : Int)) rfl rfl (by omega) (by omega) (by omega) rfl rfl ?_
     refine sy_nilCheck rfl rfl rfl ?_
     refine sy_field fld_88_1 rfl rfl rfl ?_
     refine sy_stl 0 sz_3 rfl rfl rfl rfl rfl rfl rfl rfl ?_
     refine sy_nil rfl ?_
     refine ny_next ?_
     refine cy_region ?_
     refine sy_move rfl rfl rfl ?_
     refine sy_move rfl rfl rfl ?_
     refine sy_callRO [0, 1, 1] call_55 rfl rfl (htm hz (adv st2) o2 vn2 999 hTz (by show st2.at_ + 1 ≤ _; omega) (by show st2.names.length ≤ st2.at_ + 1; omega) hm2) rfl rfl (fun a18 e18 h18x H18x hb18 hx18 hle18x => ?_) (fun x18 s18 g18 h18x H18x hk18 hx18 hle18x => ?_)
     · obtain ⟨a9, i9, o9, v9, n9, rfl⟩ := hx18
       refine ny_blockP ?_
       refine ny_thenP ?_
       refine ny_blockP ?_
       refine ny_thenP ?_
       exact ny_finP (fun w9 hs => ⟨.bad a18 e18, h18x, _, rfl, ⟨(by rw [← hro]; exact more_bad hc8 hb18 hm1), a9, i9, o9, v9, n9, rfl⟩, hs.sel (is := [0, 0, 0]) rfl⟩)
     · obtain ⟨hg18, hl18, hm18, rfl⟩ := hx18
       have hfw18 := hf 999 (adv st2) x18 s18 (by show st2.at_ + 1 ≤ _; omega) hk18
       simp only [adv] at hfw18
       refine sy_buildSlice (cs := [g18.1].flatMap GT.cells) rfl (fun w => bsl_22_1_0 w) rfl rfl (fun b19 hb19 hM19 => ?_) (by first | exact hb0 | simp)
       refine sy_appendN 4 0 row_22 (by decide) rfl rfl rfl rfl rfl rfl (by omega) (by simp only [maxLen]; omega) rfl rfl (fun v20 hv20 => ?_)
       refine sy_assign rfl rfl rfl ?_
       refine sy_nil rfl ?_
       refine ny_blockN ?_
       refine ny_roundK [0] ⟨acc ++ [g18.1], s18, g18.2.1, g18.2.2, v20, h18x, m - 1⟩ [0, 1, 1, 1] ⟨(by simp), (by rw [← hro, more_step hc8 hk18 hm1, List.map_append, List.map_cons, List.map_nil, hg18]), (by show L.length + 1 ≤ m - 1 + s18.at_; omega), hfw18.2.1, (by show s18.names.length ≤ s18.at_; omega), hm18, hlez.trans hle18x, (fun t h9 => (List.mem_append.1 h9).elim (fun h8 => ⟨(hgt t h8).1.le hle18x, (hgt t h8).2⟩) (fun h8 => by rw [List.mem_singleton.1 h8]; exact hl18)), (fun g h9 => (hv20 g h9).elim (hown g) id), (by show (acc ++ [g18.1]).length ≤ s18.at_; rw [List.length_append, List.length_cons, List.length_nil]; omega)⟩ (by show L.length - s18.at_ < L.length - st2.at_; omega) rfl ⟨rfl, trivial⟩ rfl (by show some [_, _, _, _] = some [_, _, _, _]; rw [List.length_append, GT.cells_snoc]; rfl)
   · refine cy_exit ?_
     refine ny_thenE ?_
     refine ny_thenE ?_
     refine ny_blockX ?_
     refine ny_next ?_
     refine cy_seq ?_
     refine cy_frzRow 1 rfl (fun g hg hm9 => by have h8 := hown g hg; have h7 := hb0 g hm9; omega) (fun AF cF hF hvF hlcF hcmF _ hleF hcellF => ?_)
     subst hvF
     refine cy_region ?_
     refine sy_move rfl rfl rfl ?_
     refine sy_assign rfl rfl rfl ?_
     refine sy_nil rfl ?_
     refine ny_next ?_
     refine cy_ret ?_
     refine ny_finR (res1 rfl rfl) (fun w9 hs => ⟨.ok (acc.map GT.tm) st2 ((acc, AF, cF), o2, vn2), hF, _, rfl, ⟨(by rw [← hro]; exact more_end hc8), rfl, ⟨rows_row (by decide) (GT.cells_len _) hcellF, hlcF, ?_, fun t h9 => ⟨(hgt t h9).1.le hleF, (hgt t h9).2⟩, hac⟩, hm2, rfl⟩, hs.sel (is := [0, 0, 0]) rfl⟩)
     cases acc with
     | nil => exact absurd rfl hne
     | cons g9 acc =>
      obtain ⟨g8, hg8, _⟩ := hcellF 0 _ rfl
      rw [hg8]
      rfl
theorem nil_tm : (GT.mk 3 0 ⟨#[91, 93]⟩ none 0 []).tm = nilT := by rw [tm_leaf]; rfl
theorem pairs_step {l : List GT} {i : Nat} {e : GT} {x : Tm} (h : l[i]? = some e) : pairsR ((l.drop i).map GT.tm) x = funT pairS [e.tm, pairsR ((l.drop (i + 1)).map GT.tm) x] := by
 have h1 : l.drop i = e :: l.drop (i + 1) := by
  have h2 := (List.getElem?_eq_some_iff.1 h)
  obtain ⟨h3, h4⟩ := h2
  rw [← h4]
  exact List.drop_eq_getElem_cons h3
 rw [h1, List.map_cons]
 rfl
set_option maxRecDepth 100000 in
theorem list_c (r bm : Nat) (A : Option Addr) (c : Nat) (L : List RT) (lv : Int) (h : Hp) (st : RSt) (inn : Int) (o : Obj) (vn : Value) (tm : Rd) (hf : Fwd L tm) (htm : TmC r bm A c L lv inn tm) (hT : RowsAt h A 5 (L.map rtC)) (hL : L.length ≤ 1048576) (hat : st.at_ ≤ L.length) (hnm : st.names.length ≤ st.at_) (hm : MapV Tryz.prog 9 3 o st.names.length (lastI st.names)) : RdC r bm A c L lv 115 [] h st inn o vn (listR L tm st) id (fun _ g => .agg (GT.cells g).toArray) := by
 refine enterR Tryz.func115 rfl rfl rfl (fun w hb0 => ?_)
 refine cy_seq ?_
 refine cy_region ?_
 refine sy_alloc zer_24 rfl rfl (fun b2 hb2 hM2 => ?_) (by first | exact hb0 | simp)
 refine sy_nil rfl ?_
 refine ny_next ?_
 refine cy_seq ?_
 refine cy_seq ?_
 refine cy_region ?_
 refine sy_move rfl rfl rfl ?_
 refine sy_callR1 [1] call_98 rfl rfl (is_c ⟨#[93]⟩ r bm A c L lv _ hT hL st inn vn hat) rfl rfl (fun x7 h7x H7x hx7 hle7x => ?_)
 obtain ⟨rfl, rfl⟩ := hx7
 refine sy_nil rfl ?_
 refine ny_next ?_
 refine cy_cond rfl (fun hc7 => ?_) (fun hc7 => ?_)
 · have hp7 : isP L st.at_ [93] = true := hc7
   have hlt7 := isP_lt hp7
   refine cy_seq ?_
   refine cy_region ?_
   refine sy_move rfl rfl rfl ?_
   refine sy_nilCheck rfl rfl rfl ?_
   refine sy_field fld_88_1 rfl rfl rfl ?_
   refine sy_ldr 0 one_3 rfl rfl rfl rfl rfl ?_
   refine sy_addi (z := ((st.at_ + 1 : Nat) : Int)) rfl rfl (by omega) (by omega) (by omega) rfl rfl ?_
   refine sy_nilCheck rfl rfl rfl ?_
   refine sy_field fld_88_1 rfl rfl rfl ?_
   refine sy_stl 0 sz_3 rfl rfl rfl rfl rfl rfl rfl rfl ?_
   refine sy_nil rfl ?_
   refine ny_next ?_
   refine cy_seq ?_
   refine cy_region ?_
   refine sy_call rfl call_23 rfl (atom_c ⟨#[91, 93]⟩ _) rfl rfl ?_
   refine sy_stl 1 sz_24 rfl rfl rfl rfl rfl rfl rfl rfl ?_
   refine sy_nil rfl ?_
   refine ny_next ?_
   refine cy_ret ?_
   refine ny_thenR ?_
   exact ny_finR (rescS 0 rfl agg_24 rfl rfl rfl) (fun w9 hs => ⟨.ok nilT (adv st) ((GT.mk 3 0 ⟨#[91, 93]⟩ none 0 []), o, vn), h, _, rfl, ⟨(by unfold listR; rw [if_pos hp7]), nil_tm, ⟨lies_leaf _ _ _ _, fits_leaf (by decide) (by decide) (by decide) (by decide) (by decide)⟩, hm, rfl⟩, hs.sel (is := [1, 1, 1]) rfl⟩)
 · have hp7 : ¬ isP L st.at_ [93] = true := by rw [Bool.not_eq_true]; exact hc7
   refine cy_skip ?_
   refine ny_next ?_
   refine cy_seq ?_
   refine cy_region ?_
   refine sy_move rfl rfl rfl ?_
   refine sy_callRO [0, 1, 1] call_126 rfl rfl (args_c r bm A c L lv h st inn o vn tm hf htm hT hL hat hnm hm) rfl rfl (fun a17 e17 h17x H17x hb17 hx17 hle17x => ?_) (fun x17 s17 g17 h17x H17x hk17 hx17 hle17x => ?_)
   · obtain ⟨a9, i9, o9, v9, n9, rfl⟩ := hx17
     refine ny_thenP ?_
     exact ny_finP (fun w9 hs => ⟨.bad a17 e17, _, _, rfl, ⟨(by unfold listR; rw [if_neg hp7, hb17]), _, _, _, _, _, rfl⟩, hs.sel (is := [0, 0, 0]) rfl⟩)
   · obtain ⟨hg17, ⟨hr17, hlc17, hnn17, hgt17, hac17⟩, hm17, rfl⟩ := hx17
     have hfw := args_fwd hf hat hk17
     have hT17 := hT.le hle17x
     refine sy_assign rfl rfl rfl ?_
     refine sy_nil rfl ?_
     refine ny_next ?_
     refine cy_seq ?_
     refine cy_region ?_
     refine sy_call rfl call_23 rfl (atom_c ⟨#[91, 93]⟩ _) rfl rfl ?_
     refine sy_alloc zer_24 rfl rfl (fun b4 hb4 hM4 => ?_) (by first | exact hb0 | simp)
     refine sy_stl 0 sz_24 rfl rfl rfl rfl rfl rfl rfl rfl ?_
     refine sy_nil rfl ?_
     refine ny_next ?_
     refine cy_seq ?_
     refine cy_seq ?_
     refine cy_region ?_
     refine sy_move rfl rfl rfl ?_
     refine sy_callR1 [1] call_98 rfl rfl (is_c ⟨#[124]⟩ r bm A c L lv _ hT17 hL s17 inn g17.2.2 hfw.2.1) rfl rfl (fun x20 h20x H20x hx20 hle20x => ?_)
     obtain ⟨rfl, rfl⟩ := hx20
     refine sy_nil rfl ?_
     refine ny_next ?_
     refine cy_cond rfl (fun hc20 => ?_) (fun hc20 => ?_)
     · have hlt20 := isP_lt hc20
       refine cy_seq ?_
       refine cy_region ?_
       refine sy_move rfl rfl rfl ?_
       refine sy_nilCheck rfl rfl rfl ?_
       refine sy_field fld_88_1 rfl rfl rfl ?_
       refine sy_ldr 0 one_3 rfl rfl rfl rfl rfl ?_
       refine sy_addi (z := ((s17.at_ + 1 : Nat) : Int)) rfl rfl (by omega) (by omega) (by omega) rfl rfl ?_
       refine sy_nilCheck rfl rfl rfl ?_
       refine sy_field fld_88_1 rfl rfl rfl ?_
       refine sy_stl 0 sz_3 rfl rfl rfl rfl rfl rfl rfl rfl ?_
       refine sy_nil rfl ?_
       refine ny_next ?_
       refine cy_region ?_
       refine sy_move rfl rfl rfl ?_
       refine sy_callRO [0, 1, 1] call_55 rfl rfl (htm h17x (adv s17) g17.2.1 g17.2.2 999 hT17 (by show s17.at_ + 1 ≤ _; omega) (by show s17.names.length ≤ s17.at_ + 1; omega) hm17) rfl rfl (fun a29 e29 h29x H29x hb29 hx29 hle29x => ?_) (fun x29 s29 g29 h29x H29x hk29 hx29 hle29x => ?_)
       · obtain ⟨a9, i9, o9, v9, n9, rfl⟩ := hx29
         refine ny_thenP ?_
         exact ny_finP (fun w9 hs => ⟨.bad a29 e29, _, _, rfl, ⟨(by unfold listR; rw [if_neg hp7, hk17]; simp only; rw [if_pos hc20, hb29]), _, _, _, _, _, rfl⟩, hs.sel (is := [0, 0, 0]) rfl⟩)
       · obtain ⟨hg29, hl29, hm29, rfl⟩ := hx29
         have hfw29 := hf 999 (adv s17) x29 s29 (by show s17.at_ + 1 ≤ _; omega) hk29
         have hT29 := hT17.le hle29x
         refine sy_stl 3 sz_24 rfl rfl rfl rfl rfl rfl rfl rfl ?_
         refine sy_nil rfl ?_
         refine ny_next ?_
         refine cy_seq ?_
         refine cy_region ?_
         refine sy_move rfl rfl rfl ?_
         refine sy_callRO [1] call_114 rfl rfl (want_c ⟨#[93]⟩ r bm A c L lv _ hT29 hL s29 inn g29.2.2 hfw29.2.1) rfl rfl (fun a31 e31 h31x H31x hb31 hx31 hle31x => ?_) (fun x31 s31 g31 h31x H31x hk31 hx31 hle31x => ?_)
         · obtain ⟨rfl, rfl⟩ := hx31
           have hkey31 : listR L tm st = .bad a31 e31 := by
            rw [show listR L tm st = wantR L [93] (pairsR (g17.1.1.map GT.tm) g29.1.tm) s29 by unfold listR; rw [if_neg hp7, hk17]; simp only; rw [if_pos hc20, hk29, hg17, hg29]]
            have h9 := hb31
            unfold wantR at h9 ⊢
            split at h9
            · cases h9
            · rename_i h8; rw [if_neg h8]; cases h9; rfl
           refine ny_thenP ?_
           exact ny_finP (fun w9 hs => ⟨.bad a31 e31, _, _, rfl, ⟨(hkey31), _, _, _, _, _, rfl⟩, hs.sel (is := [0, 1, 1]) rfl⟩)
         · obtain ⟨rfl, rfl⟩ := hx31
           have hwf := want_fwd hk31
           refine sy_nil rfl ?_
           refine ny_next ?_
           refine cy_seq ?_
           refine cy_seq ?_
           refine cy_region ?_
           refine sy_move rfl rfl rfl ?_
           refine sy_len rfl (len_slice Tryz.underlying22 _ _ _) rfl rfl ?_
           refine sy_subi (z := ((g17.1.1.length : Nat) : Int) - 1) rfl rfl rfl (by omega) (by omega) rfl rfl ?_
           refine sy_assign rfl rfl rfl ?_
           refine sy_nil rfl ?_
           refine ny_next ?_
           refine cy_block ?_
           refine cy_loopK (ι := (Nat × GT) × Hp) [2, 3, 4] rfl (fun z => z.1.1 ≤ g17.1.1.length ∧ z.1.2.tm = pairsR ((g17.1.1.drop z.1.1).map GT.tm) g29.1.tm ∧ h29x.Le z.2 ∧ (Lies z.2 z.1.2 ∧ Fits z.1.2)) (fun z => z.1.1) (fun z => [(5, .int .i64 ((z.1.1 : Int) - 1))]) (fun z => z.2) (fun z => [.blk b4 (.cells (GT.cells z.1.2).toArray 24 (0, 0)), .blk b2 (.cells ([.int .i64 0, .int .i64 0, .string ⟨#[]⟩, .slice none 0 0] : List Value).toArray 24 (0, 0)), .blk r (.cells [.slice A L.length c, .int .i64 (((s29.at_ + 1) : Nat) : Int), .int .i64 lv, .int .i64 inn, .map (some bm), g29.2.2].toArray 88 (0, 0)), .blk bm g29.2.1, .row g29.2.2 9 1 s29.names.length ((s29.names.map strC).flatten)]) ((g17.1.1.length, g29.1), h29x) [1, 3, 0, 0, 0] ⟨Nat.le_refl _, (by rw [List.drop_length]; rfl), Hp.Le.refl _, hl29⟩ ⟨rfl, trivial⟩ rfl rfl ?_
           rintro ⟨⟨i, g⟩, hz⟩ ⟨hI, hgi, hlez, hlg⟩
           simp only at hI hgi hlez hlg ⊢
           have keyq : listR L tm st = .ok (pairsR (g17.1.1.map GT.tm) g29.1.tm) (adv s29) := by
            rw [show listR L tm st = wantR L [93] (pairsR (g17.1.1.map GT.tm) g29.1.tm) s29 by unfold listR; rw [if_neg hp7, hk17]; simp only; rw [if_pos hc20, hk29, hg17, hg29]]
            have h9 := hk31
            unfold wantR at h9 ⊢
            split at h9
            · rename_i h8; rw [if_pos h8]
            · cases h9
           have hrz := (hr17.le hle29x).le hlez
           have hgz : ∀ t ∈ g17.1.1, Lies hz t ∧ Fits t := fun t h9 => ⟨((hgt17 t h9).1.le (hle29x)).le hlez, (hgt17 t h9).2⟩
           refine cy_seq ?_
           refine cy_seq ?_
           refine cy_region ?_
           refine sy_move rfl rfl rfl ?_
           refine sy_cmp rfl rfl rfl rfl rfl ?_
           refine sy_nil rfl ?_
           refine ny_next ?_
           refine cy_cond rfl (fun hc36 => ?_) (fun hc36 => ?_)
           · have hi1 : 1 ≤ i := by have := of_decide_eq_true hc36; omega
             refine cy_skip ?_
             refine ny_next ?_
             refine cy_seq ?_
             refine cy_block ?_
             refine cy_regionS 5 mixed (by kernel_rfl) rfl ?_
             refine sy_move rfl rfl rfl ?_
             refine sy_move rfl rfl rfl ?_
             refine sy_idxR (i := i - 1) (fc := GT.cells) (es := g17.1.1) els_22 rfl (by show some (Value.int .i64 ((i : Int) - 1)) = some (.int .i64 ((i - 1 : Nat) : Int)); rw [show (i : Int) - 1 = ((i - 1 : Nat) : Int) by omega]) hrz rfl (by omega) rfl rfl (fun e41 b41 o41 he41 hA41 hc41 => ?_)
             have hge := hgz e41 (List.mem_of_getElem? he41)
             refine sy_ldah (vs := GT.cells e41) agg_24 rfl rfl hc41 rfl rfl ?_
             refine sy_ldar 0 agg_24 rfl rfl rfl rfl rfl ?_
             refine sy_tail ?_
             refine sy_buildSlice (cs := [e41, g].flatMap GT.cells) rfl (fun w => bsl_22_2_0x1 w) rfl rfl (fun b44 hb44 hM44 => ?_) (by first | exact hb0 | simp)
             refine sy_frz 0 rfl hM44 (fun h44 hle44 hb44x => ?_)
             have hr44 : RowsAt h44 (some ⟨b44, 0, none⟩) 4 ([e41, g].map GT.cells) := rows_blk (by decide) (GT.cells_len _) hb44x
             refine sy_callx call_22 rfl (make_c ⟨#[46]⟩ (some ⟨b44, 0, none⟩) 2 [e41, g] _ rfl hr44 (by simp)) rfl rfl (fun x45 h45 hx45 hle45 => ?_)
             obtain ⟨A45, c45⟩ := x45
             replace hge : Lies h45 e41 ∧ Fits e41 := ⟨(hge.1.le hle44).le hle45, hge.2⟩
             have hgg : Lies h45 g ∧ Fits g := ⟨(hlg.1.le hle44).le hle45, hlg.2⟩
             refine sy_stl 0 sz_24 rfl rfl rfl rfl rfl rfl rfl rfl ?_
             refine sy_nil rfl ?_
             refine ny_blockN ?_
             refine ny_next ?_
             refine cy_region ?_
             refine sy_move rfl rfl rfl ?_
             refine sy_subi (z := (i : Int) - 1 - 1) rfl rfl rfl (by omega) (by omega) rfl rfl ?_
             refine sy_assign rfl rfl rfl ?_
             refine sy_nil rfl ?_
             refine ny_roundK [2, 3, 4] ((i - 1, (GT.mk 3 0 ⟨#[46]⟩ A45 c45 [e41, g])), h45) [0, 0, 0, 0, 0] ⟨(by show i - 1 ≤ _; omega), (by rw [GT.tm_mk, List.map_cons, List.map_cons, List.map_nil, pairs_step he41, show i - 1 + 1 = i by omega, ← hgi]; rfl), hlez.trans (hle44.trans hle45), ⟨.intro _ _ _ _ _ _ hx45.2 hx45.1 (fun t h9 => (duo hge hgg t h9).1), fits_kids (by decide) (by decide) (by decide) (by decide) (by decide) (by simp) (fun t h9 => (duo (h := h45) hge hgg t h9).2)⟩⟩ (by show i - 1 < i; omega) rfl ⟨congrArg (fun z => some (Value.int .i64 z)) (by show (i : Int) - 1 - 1 = ((i - 1 : Nat) : Int) - 1; omega), trivial⟩ rfl rfl
           · refine cy_exit ?_
             refine ny_thenE ?_
             refine ny_thenE ?_
             refine ny_blockX ?_
             refine ny_next ?_
             refine cy_seq ?_
             refine cy_region ?_
             refine sy_ldar 0 agg_24 rfl rfl rfl rfl rfl ?_
             refine sy_stl 1 sz_24 rfl rfl rfl rfl rfl rfl rfl rfl ?_
             refine sy_nil rfl ?_
             refine ny_next ?_
             refine cy_ret ?_
             have hi0 : i = 0 := by have := of_decide_eq_false hc36; omega
             subst hi0
             first | exact ny_finR (rescS 0 rfl agg_24 rfl rfl rfl) (fun w9 hs => ⟨.ok _ (adv _) (g, _, _), hz, _, rfl, ⟨keyq, hgi, hlg, (by first | exact hm29 | exact hm17), rfl⟩, hs.sel (is := [2, 2, 2]) rfl⟩)
     · have hp20 : ¬ isP L s17.at_ [124] = true := by rw [Bool.not_eq_true]; exact hc20
       refine cy_skip ?_
       refine ny_next ?_
       refine cy_seq ?_
       refine cy_region ?_
       refine sy_move rfl rfl rfl ?_
       refine sy_callRO [0] call_114 rfl rfl (want_c ⟨#[93]⟩ r bm A c L lv _ hT17 hL s17 inn g17.2.2 hfw.2.1) rfl rfl (fun a31 e31 h31x H31x hb31 hx31 hle31x => ?_) (fun x31 s31 g31 h31x H31x hk31 hx31 hle31x => ?_)
       · obtain ⟨rfl, rfl⟩ := hx31
         have hkey31 : listR L tm st = .bad a31 e31 := by
          rw [show listR L tm st = wantR L [93] (pairsR (g17.1.1.map GT.tm) nilT) s17 by unfold listR; rw [if_neg hp7, hk17]; simp only; rw [if_neg hp20, hg17]]
          have h9 := hb31
          unfold wantR at h9 ⊢
          split at h9
          · cases h9
          · rename_i h8; rw [if_neg h8]; cases h9; rfl
         refine ny_thenP ?_
         exact ny_finP (fun w9 hs => ⟨.bad a31 e31, _, _, rfl, ⟨(hkey31), _, _, _, _, _, rfl⟩, hs.sel (is := [0, 1, 1]) rfl⟩)
       · obtain ⟨rfl, rfl⟩ := hx31
         have hwf := want_fwd hk31
         refine sy_nil rfl ?_
         refine ny_next ?_
         refine cy_seq ?_
         refine cy_seq ?_
         refine cy_region ?_
         refine sy_move rfl rfl rfl ?_
         refine sy_len rfl (len_slice Tryz.underlying22 _ _ _) rfl rfl ?_
         refine sy_subi (z := ((g17.1.1.length : Nat) : Int) - 1) rfl rfl rfl (by omega) (by omega) rfl rfl ?_
         refine sy_assign rfl rfl rfl ?_
         refine sy_nil rfl ?_
         refine ny_next ?_
         refine cy_block ?_
         refine cy_loopK (ι := (Nat × GT) × Hp) [2, 3, 4] rfl (fun z => z.1.1 ≤ g17.1.1.length ∧ z.1.2.tm = pairsR ((g17.1.1.drop z.1.1).map GT.tm) (GT.mk 3 0 ⟨#[91, 93]⟩ none 0 []).tm ∧ h17x.Le z.2 ∧ (Lies z.2 z.1.2 ∧ Fits z.1.2)) (fun z => z.1.1) (fun z => [(5, .int .i64 ((z.1.1 : Int) - 1))]) (fun z => z.2) (fun z => [.blk b4 (.cells (GT.cells z.1.2).toArray 24 (0, 0)), .blk b2 (.cells ([.int .i64 0, .int .i64 0, .string ⟨#[]⟩, .slice none 0 0] : List Value).toArray 24 (0, 0)), .blk r (.cells [.slice A L.length c, .int .i64 (((s17.at_ + 1) : Nat) : Int), .int .i64 lv, .int .i64 inn, .map (some bm), g17.2.2].toArray 88 (0, 0)), .blk bm g17.2.1, .row g17.2.2 9 1 s17.names.length ((s17.names.map strC).flatten)]) ((g17.1.1.length, (GT.mk 3 0 ⟨#[91, 93]⟩ none 0 [])), h17x) [1, 3, 0, 0, 0] ⟨Nat.le_refl _, (by rw [List.drop_length]; rfl), Hp.Le.refl _, ⟨lies_leaf _ _ _ _, fits_leaf (by decide) (by decide) (by decide) (by decide) (by decide)⟩⟩ ⟨rfl, trivial⟩ rfl rfl ?_
         rintro ⟨⟨i, g⟩, hz⟩ ⟨hI, hgi, hlez, hlg⟩
         simp only at hI hgi hlez hlg ⊢
         have keyq : listR L tm st = .ok (pairsR (g17.1.1.map GT.tm) (GT.mk 3 0 ⟨#[91, 93]⟩ none 0 []).tm) (adv s17) := by
          rw [show listR L tm st = wantR L [93] (pairsR (g17.1.1.map GT.tm) (GT.mk 3 0 ⟨#[91, 93]⟩ none 0 []).tm) s17 by rw [nil_tm]; unfold listR; rw [if_neg hp7, hk17]; simp only; rw [if_neg hp20, hg17]]
          have h9 := hk31
          unfold wantR at h9 ⊢
          split at h9
          · rename_i h8; rw [if_pos h8]
          · cases h9
         have hrz := (hr17).le hlez
         have hgz : ∀ t ∈ g17.1.1, Lies hz t ∧ Fits t := fun t h9 => ⟨((hgt17 t h9).1.le (Hp.Le.refl _)).le hlez, (hgt17 t h9).2⟩
         refine cy_seq ?_
         refine cy_seq ?_
         refine cy_region ?_
         refine sy_move rfl rfl rfl ?_
         refine sy_cmp rfl rfl rfl rfl rfl ?_
         refine sy_nil rfl ?_
         refine ny_next ?_
         refine cy_cond rfl (fun hc36 => ?_) (fun hc36 => ?_)
         · have hi1 : 1 ≤ i := by have := of_decide_eq_true hc36; omega
           refine cy_skip ?_
           refine ny_next ?_
           refine cy_seq ?_
           refine cy_block ?_
           refine cy_regionS 5 mixed (by kernel_rfl) rfl ?_
           refine sy_move rfl rfl rfl ?_
           refine sy_move rfl rfl rfl ?_
           refine sy_idxR (i := i - 1) (fc := GT.cells) (es := g17.1.1) els_22 rfl (by show some (Value.int .i64 ((i : Int) - 1)) = some (.int .i64 ((i - 1 : Nat) : Int)); rw [show (i : Int) - 1 = ((i - 1 : Nat) : Int) by omega]) hrz rfl (by omega) rfl rfl (fun e41 b41 o41 he41 hA41 hc41 => ?_)
           have hge := hgz e41 (List.mem_of_getElem? he41)
           refine sy_ldah (vs := GT.cells e41) agg_24 rfl rfl hc41 rfl rfl ?_
           refine sy_ldar 0 agg_24 rfl rfl rfl rfl rfl ?_
           refine sy_tail ?_
           refine sy_buildSlice (cs := [e41, g].flatMap GT.cells) rfl (fun w => bsl_22_2_0x1 w) rfl rfl (fun b44 hb44 hM44 => ?_) (by first | exact hb0 | simp)
           refine sy_frz 0 rfl hM44 (fun h44 hle44 hb44x => ?_)
           have hr44 : RowsAt h44 (some ⟨b44, 0, none⟩) 4 ([e41, g].map GT.cells) := rows_blk (by decide) (GT.cells_len _) hb44x
           refine sy_callx call_22 rfl (make_c ⟨#[46]⟩ (some ⟨b44, 0, none⟩) 2 [e41, g] _ rfl hr44 (by simp)) rfl rfl (fun x45 h45 hx45 hle45 => ?_)
           obtain ⟨A45, c45⟩ := x45
           replace hge : Lies h45 e41 ∧ Fits e41 := ⟨(hge.1.le hle44).le hle45, hge.2⟩
           have hgg : Lies h45 g ∧ Fits g := ⟨(hlg.1.le hle44).le hle45, hlg.2⟩
           refine sy_stl 0 sz_24 rfl rfl rfl rfl rfl rfl rfl rfl ?_
           refine sy_nil rfl ?_
           refine ny_blockN ?_
           refine ny_next ?_
           refine cy_region ?_
           refine sy_move rfl rfl rfl ?_
           refine sy_subi (z := (i : Int) - 1 - 1) rfl rfl rfl (by omega) (by omega) rfl rfl ?_
           refine sy_assign rfl rfl rfl ?_
           refine sy_nil rfl ?_
           refine ny_roundK [2, 3, 4] ((i - 1, (GT.mk 3 0 ⟨#[46]⟩ A45 c45 [e41, g])), h45) [0, 0, 0, 0, 0] ⟨(by show i - 1 ≤ _; omega), (by rw [GT.tm_mk, List.map_cons, List.map_cons, List.map_nil, pairs_step he41, show i - 1 + 1 = i by omega, ← hgi]; rfl), hlez.trans (hle44.trans hle45), ⟨.intro _ _ _ _ _ _ hx45.2 hx45.1 (fun t h9 => (duo hge hgg t h9).1), fits_kids (by decide) (by decide) (by decide) (by decide) (by decide) (by simp) (fun t h9 => (duo (h := h45) hge hgg t h9).2)⟩⟩ (by show i - 1 < i; omega) rfl ⟨congrArg (fun z => some (Value.int .i64 z)) (by show (i : Int) - 1 - 1 = ((i - 1 : Nat) : Int) - 1; omega), trivial⟩ rfl rfl
         · refine cy_exit ?_
           refine ny_thenE ?_
           refine ny_thenE ?_
           refine ny_blockX ?_
           refine ny_next ?_
           refine cy_seq ?_
           refine cy_region ?_
           refine sy_ldar 0 agg_24 rfl rfl rfl rfl rfl ?_
           refine sy_stl 1 sz_24 rfl rfl rfl rfl rfl rfl rfl rfl ?_
           refine sy_nil rfl ?_
           refine ny_next ?_
           refine cy_ret ?_
           have hi0 : i = 0 := by have := of_decide_eq_false hc36; omega
           subst hi0
           first | exact ny_finR (rescS 0 rfl agg_24 rfl rfl rfl) (fun w9 hs => ⟨.ok _ (adv _) (g, _, _), hz, _, rfl, ⟨keyq, hgi, hlg, (by first | exact hm29 | exact hm17), rfl⟩, hs.sel (is := [2, 2, 2]) rfl⟩)
end Go.Proofs.YtanhhihechakhaaGreatDoor
set_option linter.unusedVariables false
set_option linter.unusedSimpArgs false
namespace Go.Proofs.YtanhhihechakhaaGreatDoor.E
open Go.RowKit
def PF (Q : Exit → Act → World → Prop) : Prop := ∀ (c : List PanicEntry) (a : Act) (d : Option Nat) (v : Value) (w : World), Q (.panic c) (a.put d v) w → Q (.panic c) a w
section
variable {m : Md} {P : Program} {ops : Array Oper} {Q : Exit → Act → World → Prop} {n : Nat} {D : List Deferred} {w0 : World} {M : List Nat} {h0 hC : Hp}
variable {f : Tab} {h : Hp} {H : List Res} {rest : List Oper} {o : Oper} {cnt : Nat} {done : List Nat}
def ZyP (P : Program) (ops : Array Oper) (Q : Exit → Act → World → Prop) (n : Nat) (D : List Deferred) (w0 : World) (M : List Nat) (h0 hC : Hp) (cnt : Nat) (done : List Nat) (f : Tab) (h : Hp) (H : List Res) : Prop :=
 Base w0 h0 hC h → ∀ a w, Holds n D f a → St w0 M h0 h H w → wpAnyH P .any ops (Q) (St w0 M h0 hC []) cnt (lsA ops.size done) a w
def QOP (P : Program) (ops : Array Oper) (Q : Exit → Act → World → Prop) (w0 : World) (M : List Nat) (h0 hC : Hp) (cnt : Nat) (done : List Nat) (h : Hp) (H : List Res) : Exit → Act → World → Prop :=
 fun _ a _ => ∀ w, St w0 M h0 h H w → wpAnyH P .any ops (Q) (St w0 M h0 hC []) cnt (lsA ops.size done) a w
def QZP (P : Program) (ops : Array Oper) (Q : Exit → Act → World → Prop) (w0 : World) (M : List Nat) (h0 hC : Hp) (cnt : Nat) (done : List Nat) : Exit → Act → World → Prop
 | .normal, a, w => St w0 M h0 hC [] w ∧ wpAnyH P .any ops (Q) (St w0 M h0 hC []) cnt (lsA ops.size done) a w
 | e, a, w => Q e a w
theorem cy_regionAP {i : Nat} {l : List Oper} (hm : P.follows .mixedOrders = true) (k : ZyP P l.toArray Q n D w0 M h0 h l.toArray.size [] f h H) : Cy P (.region i l.toArray true) Q n D w0 M h0 f h H :=
 fun a w ha hs => wp_region_held (S := St w0 M h0 h []) hm (k ⟨hs.le, hs.old, Hp.Le.refl _⟩ a _ ha hs.drawn)
theorem zy_doneP (hr : readyB ops done [] = true) (k : Ny Q .normal n D w0 M h0 f h H) : ZyP P ops Q n D w0 M h0 hC cnt done f h H := fun hB a w ha hs =>
 wpAnyH_done (of_decide_eq_true hr) (k a w ha hs) _
theorem zy_qP (i : Nat) (hPF : PF Q) (ho : ops[i]? = some o) (hf : freeB ops done i = true) (k : Base w0 h0 hC h → Sy .one P ops (QOP P ops Q w0 M h0 hC cnt (i :: done) h H) n D w0 M h0 [o] f hC []) : ZyP P ops Q n D w0 M h0 hC (cnt + 1) done f h H := fun hB a w ha hs => by
 unfold freeB at hf
 rw [Bool.and_eq_true, Bool.and_eq_true] at hf
 obtain ⟨v, hy, h1⟩ := k hB a w ha (hs.class hB)
 exact wpAnyH_take ho hf.1 hf.2.1 hf.2.2 (fun c a w hq => hPF c a _ _ w hq) hy (hs.class hB) (h1 w (hs.class hB) w hs)
theorem ny_zqP (hB : Base w0 h0 hC h) (k : ZyP P ops Q n D w0 M h0 hC cnt done f h H) : Ny (QOP P ops Q w0 M h0 hC cnt done h H) .normal n D w0 M h0 f hC [] := fun a w ha hs w' hs' => k hB a w' ha hs'
def ZopP (P : Program) (ops : Array Oper) (Q : Exit → Act → World → Prop) (n : Nat) (D : List Deferred) (w0 : World) (M : List Nat) (h0 hC : Hp) (cnt : Nat) (done : List Nat) (f : Tab) (h : Hp) (H : List Res) (i : Nat) : Prop :=
 Base w0 h0 hC h → ∀ a w, Holds n D f a → St w0 M h0 h H w → wpOp P ops (Q) i (fun a' w' => St w0 M h0 hC [] w' ∧ wpAnyH P .any ops (Q) (St w0 M h0 hC []) cnt (lsA ops.size (i :: done)) a' w') a w
theorem zy_1P (i : Nat) (hr : readyB ops done [i] = true) (k : ZopP P ops Q n D w0 M h0 hC cnt done f h H i) : ZyP P ops Q n D w0 M h0 hC (cnt + 1) done f h H := fun hB a w ha hs =>
 wpAnyH_all (of_decide_eq_true hr) (by simp) (fun j hj => by
  simp only [List.mem_singleton] at hj
  subst hj
  exact k hB a w ha hs)
theorem zy_2P (i j : Nat) (hr : readyB ops done [i, j] = true) (k : ZopP P ops Q n D w0 M h0 hC cnt done f h H i) (k2 : ZopP P ops Q n D w0 M h0 hC cnt done f h H j) : ZyP P ops Q n D w0 M h0 hC (cnt + 1) done f h H := fun hB a w ha hs =>
 wpAnyH_all (of_decide_eq_true hr) (by simp) (fun x hx => by
  simp only [List.mem_cons, List.not_mem_nil, or_false] at hx
  rcases hx with rfl | rfl
  · exact k hB a w ha hs
  · exact k2 hB a w ha hs)
theorem zop_runP {i : Nat} (ho : ops[i]? = some o) (hw : gok ops f o.guard = some true) (k : Base w0 h0 hC h → Sy .txt P ops (QZP P ops Q w0 M h0 hC cnt (i :: done)) n D w0 M h0 [o] f h H) : ZopP P ops Q n D w0 M h0 hC cnt done f h H i := fun hB a w ha hs => by
 have h1 := k hB a w ha hs
 unfold Wk wpList at h1
 rw [if_pos (gok_wanted ha hw)] at h1
 unfold wpOp
 simp only [ho]
 rw [if_pos (gok_wanted ha hw)]
 have hex : ∀ e a w, e ≠ .normal → QZP P ops Q w0 M h0 hC cnt (i :: done) e a w → Q e a w := fun e a w he hq => by
  cases e with
  | normal => exact absurd rfl he
  | exit id => exact hq
  | goto l => exact hq
  | ret => exact hq
  | panic ch => exact hq
  | outgrown => exact hq
 have hlet : LetsOut (QZP P ops Q w0 M h0 hC cnt (i :: done)) → LetsOut (Q) := fun ⟨a, w, hq⟩ => ⟨a, w, hq⟩
 rcases h1 with h1 | h1
 · refine .inl ?_
   unfold Oper.wp at h1 ⊢
   generalize (execOp a.eval o).run P w = r at h1 ⊢
   cases r with
   | ok n w' =>
    cases n <;> simp only [Oper.upon] at h1 ⊢ <;>
     first
      | exact h1
      | exact Calls.mono h1 (fun e w'' he => by cases e <;> first | exact hlet he | exact he)
      | exact Rows.mono h1 (fun _ _ he => he)
   | halt x w' => cases x <;> simp only [Oper.upon] at h1 ⊢ <;> exact h1
 · exact .inr ⟨h1.1, hlet h1.2⟩
theorem ny_zyP {h' : Hp} {f' : Tab} {H' : List Res} (hB : Base w0 h0 hC h) (hle : h.Le h') (k : ZyP P ops Q n D w0 M h0 hC cnt done f' h' H') : Ny (QZP P ops Q w0 M h0 hC cnt done) .normal n D w0 M h0 f' h' H' := fun a w ha hs => by
 have hB' : Base w0 h0 hC h' := ⟨hB.l0, hB.old, hB.le.trans hle⟩
 exact ⟨hs.class hB', k hB' a w ha hs⟩
theorem ny_zyPP {h' : Hp} {f' : Tab} {H' : List Res} {ch : List PanicEntry} (k : Ny Q (.panic ch) n D w0 M h0 f' h' H') : Ny (QZP P ops Q w0 M h0 hC cnt done) (.panic ch) n D w0 M h0 f' h' H' := k
end
end Go.Proofs.YtanhhihechakhaaGreatDoor.E
set_option linter.unusedVariables false
set_option linter.unusedSimpArgs false
namespace Go.Proofs.YtanhhihechakhaaGreatDoor
open Go.RowKit Go.Proofs.YtanhhihechakhaaGreatDoor.E Go.Proofs.YtanhhihechakhaaGreatDoor.ReplP Go.Proofs.YtanhhihechakhaaGreatDoor.TokP Go.Proofs.YtanhhihechakhaaGreatDoor.TermP Go.Proofs.YtanhhihechakhaaGreatDoor.WrP Go.Proofs.YtanhhihechakhaaGreatDoor.ReadP Go.Proofs.YtanhhihechakhaaGreatDoor.OpsP
theorem wtT_mem : ∀ {l : List Tm} {t : Tm}, t ∈ l → wtT t ≤ wtTs l
 | [], t, h => (List.not_mem_nil h).elim
 | x :: l, t, h => by
  rw [wtTs_cons]
  rcases List.mem_cons.1 h with rfl | h
  · omega
  · have := wtT_mem h
    omega
theorem kid_wt {l : List GT} {t : GT} {n : Nat} (h : t ∈ l) (hw : wtTs (l.map GT.tm) ≤ n) : wtG t ≤ n := by
 rw [wtG_tm]
 exact Nat.le_trans (wtT_mem (List.mem_map.2 ⟨t, h, rfl⟩)) hw
theorem leaf_ok (h : Hp) {s : ByteArray} (hs : s.size ≤ 4398046511104) : (GT.mk 3 0 s none 0 []).tm = funT s [] ∧ (Lies h (GT.mk 3 0 s none 0 []) ∧ Fits (GT.mk 3 0 s none 0 [])) := ⟨by rw [tm_leaf]; rfl, lies_leaf _ _ _ _, fits_leaf (by decide) (by decide) (by decide) (by decide) (by omega)⟩
set_option maxRecDepth 100000 in
theorem rname_c (r bm : Nat) (A : Option Addr) (c : Nat) (L : List RT) (lv : Int) (h : Hp) (st : RSt) (inn : Int) (o : Obj) (vn : Value) (t : RT) (most : Int) (hs9 : t.str.size ≤ 4398046511104) (hqN : ∀ x ∈ L, TokOk x) (tm : Rd) (hf : Fwd L tm) (hwg : Wgt L tm) (hPW : ∀ i, preW L i ≤ 549755813888) (htm : TmC r bm A c L lv inn tm) (hT : RowsAt h A 5 (L.map rtC)) (hL : L.length ≤ 1048576) (hat : st.at_ ≤ L.length) (hnm : st.names.length ≤ st.at_) (hm : MapV Tryz.prog 9 3 o st.names.length (lastI st.names)) : RdC r bm A c L lv 113 [.agg (rtC t).toArray, .int .i64 most] h st inn o vn (nameR L lv tm t most st) (·.1) (fun x g => .tuple #[.agg (GT.cells g).toArray, .int .i64 x.2]) := by
 show RdC r bm A c L lv 113 [.agg #[.int .i64 t.kind, .string t.str, .int .i64 t.num, .bool t.quo, .bool t.tight], .int .i64 most] h st inn o vn _ _ _
 refine enterR Tryz.func113 rfl rfl rfl (fun w hb0 => ?_)
 refine cy_seq ?_
 refine cy_region ?_
 refine sy_box rfl rfl rfl rfl (fun b4 hb4 hM4 => ?_) (by first | exact hb0 | simp)
 refine sy_alloc zer_24 rfl rfl (fun b6 hb6 hM6 => ?_) (by first | exact hb0 | simp)
 refine sy_assign rfl rfl rfl ?_
 refine sy_nil rfl ?_
 refine ny_next ?_
 refine cy_seq ?_
 refine cy_frz 1 rfl hM4 (fun h1 hle1 hbt => ?_)
 replace hT := hT.le hle1
 refine cy_region ?_
 refine sy_move rfl rfl rfl ?_
 refine sy_callR1 [1] call_56 rfl rfl (peek_c r bm A c L lv _ hT hL st inn vn hat) rfl rfl (fun x14 h14x H14x hx14 hle14x => ?_)
 obtain ⟨rfl, rfl⟩ := hx14
 refine sy_alloc zer_79 rfl rfl (fun b8 hb8 hM8 => ?_) (by first | exact hb0 | simp)
 refine sy_stl 0 sz_79 rfl rfl rfl rfl rfl rfl rfl rfl ?_
 refine sy_nil rfl ?_
 refine ny_next ?_
 refine cy_seq ?_
 refine cy_seq ?_
 refine cy_frz 0 rfl hM8 (fun h2 hle2 hb8x => ?_)
 replace hT := hT.le hle2
 replace hbt := hle2 _ _ hbt
 refine cy_region ?_
 refine sy_field fld_79_4 rfl rfl rfl ?_
 refine sy_ldh one_4 rfl (Hp.blk hb8x 4 _ rfl) rfl rfl ?_
 refine sy_move rfl rfl rfl ?_
 refine sy_cond (d := 17) _ rfl rfl (fun hg17 => ?_) (fun hg17 => ?_)
 · refine sy_move rfl rfl rfl ?_
   refine sy_callR1 [0] call_98 rfl rfl (is_c ⟨#[40]⟩ r bm A c L lv _ hT hL st inn vn hat) rfl rfl (fun x19 h19x H19x hx19 hle19x => ?_)
   obtain ⟨rfl, rfl⟩ := hx19
   refine sy_pickT rfl rfl rfl rfl ?_
   refine sy_nil rfl ?_
   refine ny_next ?_
   refine cy_cond rfl (fun hc20 => ?_) (fun hc20 => ?_)
   · have hcp : (tokA L st.at_).tight = true ∧ isP L st.at_ [40] = true := ⟨hg17, hc20⟩
     have hlt := isP_lt hc20
     refine cy_seq ?_
     refine cy_region ?_
     refine sy_move rfl rfl rfl ?_
     refine sy_nilCheck rfl rfl rfl ?_
     refine sy_field fld_88_1 rfl rfl rfl ?_
     refine sy_ldr 0 one_3 rfl rfl rfl rfl rfl ?_
     refine sy_addi (z := ((st.at_ + 1 : Nat) : Int)) rfl rfl (by omega) (by omega) (by omega) rfl rfl ?_
     refine sy_nilCheck rfl rfl rfl ?_
     refine sy_field fld_88_1 rfl rfl rfl ?_
     refine sy_stl 0 sz_3 rfl rfl rfl rfl rfl rfl rfl rfl ?_
     refine sy_nil rfl ?_
     refine ny_next ?_
     refine cy_seq ?_
     refine cy_region ?_
     refine sy_move rfl rfl rfl ?_
     refine sy_callRO [0, 1, 1] call_126 rfl rfl (args_c r bm A c L lv h2 (adv st) inn o vn tm hf htm hT hL (by show st.at_ + 1 ≤ _; omega) (by show st.names.length ≤ st.at_ + 1; omega) hm) rfl rfl (fun a29 e29 h29x H29x hb29 hx29 hle29x => ?_) (fun x29 s29 g29 h29x H29x hk29 hx29 hle29x => ?_)
     · obtain ⟨a9, i9, o9, v9, n9, rfl⟩ := hx29
       refine ny_thenP ?_
       refine ny_thenP ?_
       exact ny_finP (fun w9 hs => ⟨.bad a29 e29, _, _, rfl, ⟨(by unfold nameR; rw [if_pos hcp, hb29]), _, _, _, _, _, rfl⟩, hs.sel (is := [0, 0, 0]) rfl⟩)
     · obtain ⟨hg29, ⟨hr29, hlc29, hnn29, hgt29, hac29⟩, hm29, rfl⟩ := hx29
       have hfw29 := args_fwd hf (show (adv st).at_ ≤ L.length by show st.at_ + 1 ≤ _; omega) hk29
       have haw29 := args_wt hf hwg (show (adv st).at_ ≤ L.length by show st.at_ + 1 ≤ _; omega) hk29
       have hpw29 := hPW s29.at_
       have hT29 := hT.le hle29x
       replace hbt := hle29x _ _ hbt
       refine sy_assign rfl rfl rfl ?_
       refine sy_nil rfl ?_
       refine ny_next ?_
       refine cy_seq ?_
       refine cy_region ?_
       refine sy_move rfl rfl rfl ?_
       refine sy_callRO [0] call_114 rfl rfl (want_c ⟨#[41]⟩ r bm A c L lv _ hT29 hL s29 inn g29.2.2 hfw29.2.1) rfl rfl (fun a31 e31 h31x H31x hb31 hx31 hle31x => ?_) (fun x31 s31 g31 h31x H31x hk31 hx31 hle31x => ?_)
       · obtain ⟨rfl, rfl⟩ := hx31
         have hw31 : wantR L [41] x29 s29 = .bad a31 e31 := by
          have h9 := hb31
          unfold wantR at h9 ⊢
          split at h9
          · cases h9
          · rename_i h8; rw [if_neg h8]; cases h9; rfl
         refine ny_thenP ?_
         refine ny_thenP ?_
         exact ny_finP (fun w9 hs => ⟨.bad a31 e31, _, _, rfl, ⟨(by unfold nameR; rw [if_pos hcp, hk29]; simp only; rw [hw31]), _, _, _, _, _, rfl⟩, hs.sel (is := [0, 0, 0]) rfl⟩)
       · obtain ⟨rfl, rfl⟩ := hx31
         have hwf := want_fwd hk31
         have hw31 : wantR L [41] x29 s29 = .ok x29 (adv s29) := by
          have h9 := hk31
          unfold wantR at h9 ⊢
          split at h9
          · rename_i h8; rw [if_pos h8]
          · cases h9
         refine sy_nil rfl ?_
         refine ny_next ?_
         refine cy_seq ?_
         refine cy_region ?_
         refine sy_move rfl rfl rfl ?_
         refine sy_field fld_79_1 rfl rfl rfl ?_
         refine sy_ldh one_9 rfl (Hp.blk hbt 1 _ rfl) rfl rfl ?_
         refine sy_move rfl rfl rfl ?_
         refine sy_callRO [0] call_100 rfl rfl (mk_c t.str hs9 g29.1.1 g29.1.2.1 g29.1.2.2 r bm A c L lv _ hT29 hL (adv s29) inn g29.2.2 (by show s29.at_ + 1 ≤ _; omega) hnn29 hr29 (fun x h9 => ⟨hgt29 x h9, Nat.le_trans (kid_wt h9 (by rw [hg29]; exact Nat.le_refl _)) (by omega)⟩) hlc29 (by omega)) rfl rfl (fun a36 e36 h36x H36x hb36 hx36 hle36x => ?_) (fun x36 s36 g36 h36x H36x hk36 hx36 hle36x => ?_)
         · subst hx36
           refine ny_thenP ?_
           refine ny_thenP ?_
           exact ny_finP (fun w9 hs => ⟨.bad a36 e36, _, _, rfl, ⟨(by unfold nameR; rw [if_pos hcp, hk29]; simp only; rw [hw31]; simp only; rw [← hg29, hb36]; rfl), _, _, _, _, _, rfl⟩, hs.sel (is := [0, 0, 0]) rfl⟩)
         · obtain ⟨hg36, hl36, rfl⟩ := hx36
           have hst36 := mkR_st hk36
           subst hst36
           refine sy_stl 3 sz_24 rfl rfl rfl rfl rfl rfl rfl rfl ?_
           refine sy_assign rfl rfl rfl ?_
           refine sy_nil rfl ?_
           refine ny_next ?_
           refine cy_ret ?_
           refine ny_thenR ?_
           exact ny_finR (resc1 0 rfl agg_24 rfl rfl rfl rfl) (fun w9 hs => ⟨.ok (x36, 0) (adv s29) (g36, g29.2.1, g29.2.2), h36x, _, rfl, ⟨(by unfold nameR; rw [if_pos hcp, hk29]; simp only; rw [hw31]; simp only; rw [← hg29, hk36]; rfl), hg36, hl36, hm29, rfl⟩, hs.sel (is := [1, 1, 1]) rfl⟩)
   · have hcn : ¬ ((tokA L st.at_).tight = true ∧ isP L st.at_ [40] = true) := fun h9 => by
      have h8 : isP L st.at_ [40] = false := hc20
      rw [h9.2] at h8
      cases h8
     refine cy_skip ?_
     refine ny_next ?_
     refine cy_seq ?_
     refine cy_seq ?_
     refine cy_region ?_
     refine sy_field fld_79_3 rfl rfl rfl ?_
     refine sy_ldh one_4 rfl (Hp.blk hbt 3 _ rfl) rfl rfl ?_
     refine sy_nil rfl ?_
     refine ny_next ?_
     refine cy_cond rfl (fun hc38 => ?_) (fun hc38 => ?_)
     · have hqp : t.quo = true := hc38
       refine cy_seq ?_
       refine cy_region ?_
       refine sy_field fld_79_1 rfl rfl rfl ?_
       refine sy_ldh one_9 rfl (Hp.blk hbt 1 _ rfl) rfl rfl ?_
       refine sy_call rfl call_23 rfl (atom_c t.str _) rfl rfl ?_
       refine sy_stl 1 sz_24 rfl rfl rfl rfl rfl rfl rfl rfl ?_
       refine sy_assign rfl rfl rfl ?_
       refine sy_nil rfl ?_
       refine ny_next ?_
       refine cy_ret ?_
       refine ny_thenR ?_
       exact ny_finR (resc1 0 rfl agg_24 rfl rfl rfl rfl) (fun w9 hs => ⟨.ok (funT t.str [], 0) st ((GT.mk 3 0 t.str none 0 []), o, vn), h2, _, rfl, ⟨(by unfold nameR; rw [if_neg hcn, if_pos hqp]), (leaf_ok h2 hs9).1, (leaf_ok h2 hs9).2, hm, rfl⟩, hs.sel (is := [1, 1, 1]) rfl⟩)
     · have hqn : ¬ t.quo = true := by rw [Bool.not_eq_true]; exact hc38
       refine cy_skip ?_
       refine ny_next ?_
       refine cy_seq ?_
       refine cy_seq ?_
       refine cy_region ?_
       refine sy_field fld_79_1 rfl rfl rfl ?_
       refine sy_ldh one_9 rfl (Hp.blk hbt 1 _ rfl) rfl rfl ?_
       refine sy_eqs rfl rfl rfl rfl ?_
       refine sy_move rfl rfl rfl ?_
       refine sy_cond (d := 45) _ rfl rfl (fun hg45 => ?_) (fun hg45 => ?_)
       · refine sy_field fld_79_4 rfl rfl rfl ?_
         refine sy_ldh one_4 rfl (Hp.blk hb8x 4 _ rfl) rfl rfl ?_
         refine sy_pickT rfl rfl rfl rfl ?_
         refine sy_move rfl rfl rfl ?_
         refine sy_cond (d := 49) _ rfl rfl (fun hg49 => ?_) (fun hg49 => ?_)
         · refine sy_field fld_79_0 rfl rfl rfl ?_
           refine sy_ldh one_3 rfl (Hp.blk hb8x 0 _ rfl) rfl rfl ?_
           refine sy_cmp rfl rfl rfl rfl rfl ?_
           refine sy_pickT rfl rfl rfl rfl ?_
           refine sy_nil rfl ?_
           refine ny_next ?_
           refine cy_cond rfl (fun hc53 => ?_) (fun hc53 => ?_)
           · have hmp : t.str.data.toList = [45] ∧ (tokA L st.at_).tight = true ∧ (tokA L st.at_).kind = 3 := ⟨eq_of_beq hg45, hg49, by simpa using hc53⟩
             have hlt := tok_lt (L := L) (i := st.at_) (by rw [hmp.2.2]; decide)
             refine cy_seq ?_
             refine cy_region ?_
             refine sy_move rfl rfl rfl ?_
             refine sy_nilCheck rfl rfl rfl ?_
             refine sy_field fld_88_1 rfl rfl rfl ?_
             refine sy_ldr 0 one_3 rfl rfl rfl rfl rfl ?_
             refine sy_addi (z := ((st.at_ + 1 : Nat) : Int)) rfl rfl (by omega) (by omega) (by omega) rfl rfl ?_
             refine sy_nilCheck rfl rfl rfl ?_
             refine sy_field fld_88_1 rfl rfl rfl ?_
             refine sy_stl 0 sz_3 rfl rfl rfl rfl rfl rfl rfl rfl ?_
             refine sy_nil rfl ?_
             refine ny_next ?_
             refine cy_seq ?_
             refine cy_region ?_
             refine sy_field fld_79_2 rfl rfl rfl ?_
             refine sy_ldh one_2 rfl (Hp.blk hb8x 2 _ rfl) rfl rfl ?_
             refine sy_negw Tryz.underlying2 rfl rfl rfl ?_
             have hwr := wrap_bounds (-(tokA L st.at_).num)
             refine sy_call rfl call_24 rfl (num_c _ _) rfl rfl ?_
             refine sy_stl 1 sz_24 rfl rfl rfl rfl rfl rfl rfl rfl ?_
             refine sy_assign rfl rfl rfl ?_
             refine sy_nil rfl ?_
             refine ny_next ?_
             refine cy_ret ?_
             refine ny_thenR ?_
             exact ny_finR (resc1 0 rfl agg_24 rfl rfl rfl rfl) (fun w9 hs => ⟨.ok (_, 0) (adv st) (GT.mk 2 (IntKind.i64.wrap (-(tokA L st.at_).num)) ⟨#[]⟩ none 0 [], o, vn), h2, _, rfl, ⟨(by unfold nameR; rw [if_neg hcn, if_neg hqn, if_pos hmp]), (by rw [tm_leaf]; rfl), ⟨lies_leaf _ _ _ _, fits_leaf (by decide) (by decide) hwr.1 hwr.2 (by decide)⟩, hm, rfl⟩, hs.sel (is := [1, 1, 1]) rfl⟩)
           · have hmn : ¬ (t.str.data.toList = [45] ∧ (tokA L st.at_).tight = true ∧ (tokA L st.at_).kind = 3) := fun h9 => by
              rw [h9.2.2] at hc53
              exact absurd hc53 (by decide)
             refine cy_skip ?_
             refine ny_next ?_
             refine cy_seq ?_
             refine cy_seq ?_
             refine cy_region ?_
             refine sy_field fld_79_1 rfl rfl rfl ?_
             refine sy_ldh one_9 rfl (Hp.blk hbt 1 _ rfl) rfl rfl ?_
             refine sy_call rfl call_127 rfl (prefix_c t.str _) rfl rfl ?_
             refine sy_move rfl rfl rfl ?_
             refine sy_extract rfl rfl rfl rfl ?_
             refine sy_extract rfl rfl rfl rfl ?_
             refine sy_extract rfl rfl rfl rfl ?_
             refine sy_assign rfl rfl rfl ?_
             refine sy_assign rfl rfl rfl ?_
             refine sy_assign rfl rfl rfl ?_
             refine sy_nil rfl ?_
             refine ny_next ?_
             refine cy_seq ?_
             refine cy_region ?_
             refine sy_move rfl rfl rfl ?_
             refine sy_move rfl rfl rfl ?_
             refine sy_cond (d := 73) _ rfl rfl (fun hg73 => ?_) (fun hg73 => ?_)
             · refine sy_move rfl rfl rfl ?_
               refine sy_move rfl rfl rfl ?_
               refine sy_cmp rfl rfl rfl rfl rfl ?_
               refine sy_pickT rfl rfl rfl rfl ?_
               refine sy_move rfl rfl rfl ?_
               refine sy_cond (d := 78) _ rfl rfl (fun hg78 => ?_) (fun hg78 => ?_)
               · refine sy_ldah (vs := rtC (tokA L st.at_)) agg_79 rfl rfl (Hp.blk hb8x) rfl rfl ?_
                 refine sy_call rfl call_128 rfl (begins_c (tokA L st.at_) _) rfl rfl ?_
                 refine sy_pickT rfl rfl rfl rfl ?_
                 refine sy_nil rfl ?_
                 refine ny_next ?_
                 refine cy_cond rfl (fun hc81 => ?_) (fun hc81 => ?_)
                 · have hpp : (refPrefix t.str.data.toList).2.2 = true ∧ (refPrefix t.str.data.toList).1 ≤ most ∧ beginsR (tokA L st.at_) = true := ⟨hg73, of_decide_eq_true hg78, hc81⟩
                   refine cy_seq ?_
                   refine cy_regionAP mixed ?_
                   refine zy_qP 0 (fun c a d v w hq => by cases d <;> exact hq) rfl (by kernel_rfl) (fun hB14_0 => ?_)
                   refine sy_move rfl rfl rfl ?_
                   refine sy_nil1 (ny_zqP hB14_0 ?_)
                   refine zy_qP 1 (fun c a d v w hq => by cases d <;> exact hq) rfl (by kernel_rfl) (fun hB14_1 => ?_)
                   refine sy_field fld_79_1 rfl rfl rfl ?_
                   refine sy_nil1 (ny_zqP hB14_1 ?_)
                   refine zy_qP 2 (fun c a d v w hq => by cases d <;> exact hq) rfl (by kernel_rfl) (fun hB14_2 => ?_)
                   refine sy_ldh one_9 rfl (Hp.blk hbt 1 _ rfl) rfl rfl ?_
                   refine sy_nil1 (ny_zqP hB14_2 ?_)
                   refine zy_qP 3 (fun c a d v w hq => by cases d <;> exact hq) rfl (by kernel_rfl) (fun hB14_3 => ?_)
                   refine sy_move rfl rfl rfl ?_
                   refine sy_nil1 (ny_zqP hB14_3 ?_)
                   refine zy_qP 4 (fun c a d v w hq => by cases d <;> exact hq) rfl (by kernel_rfl) (fun hB14_4 => ?_)
                   refine sy_move rfl rfl rfl ?_
                   refine sy_nil1 (ny_zqP hB14_4 ?_)
                   refine zy_qP 8 (fun c a d v w hq => by cases d <;> exact hq) rfl (by kernel_rfl) (fun hB14_8 => ?_)
                   refine sy_move rfl rfl rfl ?_
                   refine sy_nil1 (ny_zqP hB14_8 ?_)
                   refine zy_1P 5 (by kernel_rfl) ?_
                   refine zop_runP rfl rfl (fun hB14_5 => ?_)
                   refine sy_callRO [0, 1, 1] call_55 rfl rfl (htm h2 st o vn _ hT hat hnm hm) rfl rfl (fun a87 e87 h87x H87x hb87 hx87 hle87x => ?_) (fun x87 s87 g87 h87x H87x hk87 hx87 hle87x => ?_)
                   · obtain ⟨a9, i9, o9, v9, n9, rfl⟩ := hx87
                     refine ny_zyPP ?_
                     refine ny_thenP ?_
                     refine ny_thenP ?_
                     exact ny_finP (fun w9 hs => ⟨.bad a87 e87, _, _, rfl, ⟨(by unfold nameR; rw [if_neg hcn, if_neg hqn, if_neg hmn, if_pos hpp, hb87]), _, _, _, _, _, rfl⟩, hs.sel (is := [0, 0, 0]) rfl⟩)
                   · obtain ⟨hg87, hl87, hm87, rfl⟩ := hx87
                     replace hg87 : g87.1.tm = x87.1 := hg87
                     have hfw87 := hf _ st x87 s87 hat hk87
                     have hww87 := hwg _ st x87 s87 hat hk87
                     have hpw87 := hPW s87.at_
                     have hT87 := hT.le hle87x
                     refine sy_nil rfl (ny_zyP hB14_5 hle87x ?_)
                     refine zy_1P 6 (by kernel_rfl) ?_
                     refine zop_runP rfl rfl (fun hB14_6 => ?_)
                     refine sy_buildSlice (cs := [g87.1].flatMap GT.cells) rfl (fun w => bsl_22_1_0 w) rfl rfl (fun b88 hb88 hM88 => ?_) (by first | exact hb0 | simp)
                     refine sy_frz 0 rfl hM88 (fun h88 hle88 hb88x => ?_)
                     have hr88 : RowsAt h88 (some ⟨b88, 0, none⟩) 4 ([g87.1].map GT.cells) := rows_blk (by decide) (GT.cells_len _) hb88x
                     refine sy_nil rfl (ny_zyP hB14_6 hle88 ?_)
                     refine zy_1P 7 (by kernel_rfl) ?_
                     refine zop_runP rfl rfl (fun hB14_7 => ?_)
                     refine sy_callRO [0] call_100 rfl rfl (mk_c t.str hs9 [g87.1] (some ⟨b88, 0, none⟩) 1 r bm A c L lv _ (hT87.le hle88) hL s87 inn g87.2.2 hfw87.2.1 rfl hr88 (fun x h9 => by rw [List.mem_singleton.1 h9]; exact ⟨⟨hl87.1.le hle88, hl87.2⟩, by rw [wtG_tm, hg87]; omega⟩) (by simp) (by simp)) rfl rfl (fun a89 e89 h89x H89x hb89 hx89 hle89x => ?_) (fun x89 s89 g89 h89x H89x hk89 hx89 hle89x => ?_)
                     · subst hx89
                       refine ny_zyPP ?_
                       refine ny_thenP ?_
                       refine ny_thenP ?_
                       exact ny_finP (fun w9 hs => ⟨.bad a89 e89, _, _, rfl, ⟨(by unfold nameR; rw [if_neg hcn, if_neg hqn, if_neg hmn, if_pos hpp, hk87]; simp only; rw [← hg87]; exact congrArg (mapR _) hb89), _, _, _, _, _, rfl⟩, hs.sel (is := [0, 0, 0]) rfl⟩)
                     · obtain ⟨hg89, hl89, rfl⟩ := hx89
                       have hst89 := (mkR_st hk89).symm
                       subst hst89
                       refine sy_nil rfl (ny_zyP hB14_7 hle89x ?_)
                       refine zy_1P 9 (by kernel_rfl) ?_
                       refine zop_runP rfl rfl (fun hB14_9 => ?_)
                       refine sy_stl 3 sz_24 rfl rfl rfl rfl rfl rfl rfl rfl ?_
                       refine sy_nil rfl (ny_zyP hB14_9 (Hp.Le.refl _) ?_)
                       refine zy_qP 10 (fun c a d v w hq => by cases d <;> exact hq) rfl (by kernel_rfl) (fun hB14_10 => ?_)
                       refine sy_assign rfl rfl rfl ?_
                       refine sy_nil1 (ny_zqP hB14_10 ?_)
                       refine zy_doneP (by kernel_rfl) ?_
                       refine ny_next ?_
                       refine cy_ret ?_
                       refine ny_thenR ?_
                       exact ny_finR (resc1 0 rfl agg_24 rfl rfl rfl rfl) (fun w9 hs => ⟨.ok (x89, (refPrefix t.str.data.toList).1) s87 (g89, g87.2.1, g87.2.2), h89x, _, rfl, ⟨(by unfold nameR; rw [if_neg hcn, if_neg hqn, if_neg hmn, if_pos hpp, hk87]; simp only; rw [← hg87]; exact congrArg (mapR _) hk89), hg89, hl89, hm87, rfl⟩, hs.sel (is := [1, 1, 1]) rfl⟩)
                 · have hpn : ¬ ((refPrefix t.str.data.toList).2.2 = true ∧ (refPrefix t.str.data.toList).1 ≤ most ∧ beginsR (tokA L st.at_) = true) := fun h9 => by
                    rw [h9.2.2] at hc81
                    cases hc81
                   refine cy_skip ?_
                   refine ny_next ?_
                   refine cy_seq ?_
                   refine cy_region ?_
                   refine sy_field fld_79_1 rfl rfl rfl ?_
                   refine sy_ldh one_9 rfl (Hp.blk hbt 1 _ rfl) rfl rfl ?_
                   refine sy_call rfl call_23 rfl (atom_c t.str _) rfl rfl ?_
                   refine sy_stl 1 sz_24 rfl rfl rfl rfl rfl rfl rfl rfl ?_
                   refine sy_assign rfl rfl rfl ?_
                   refine sy_nil rfl ?_
                   refine ny_next ?_
                   refine cy_ret ?_
                   exact ny_finR (resc1 0 rfl agg_24 rfl rfl rfl rfl) (fun w9 hs => ⟨.ok (funT t.str [], 0) st ((GT.mk 3 0 t.str none 0 []), o, vn), h2, _, rfl, ⟨(by unfold nameR; rw [if_neg hcn, if_neg hqn, if_neg hmn, if_neg hpn]), (leaf_ok h2 hs9).1, (leaf_ok h2 hs9).2, hm, rfl⟩, hs.sel (is := [1, 1, 1]) rfl⟩)
               · refine sy_skip rfl rfl rfl ?_
                 refine sy_skip rfl rfl rfl ?_
                 refine sy_pickF rfl rfl rfl rfl ?_
                 refine sy_nil rfl ?_
                 refine ny_next ?_
                 refine cy_condF rfl ?_
                 have hpn : ¬ ((refPrefix t.str.data.toList).2.2 = true ∧ (refPrefix t.str.data.toList).1 ≤ most ∧ beginsR (tokA L st.at_) = true) := fun h9 => by
                  (have h8 := of_decide_eq_false hg78; exact h8 h9.2.1)
                 refine cy_skip ?_
                 refine ny_next ?_
                 refine cy_seq ?_
                 refine cy_region ?_
                 refine sy_field fld_79_1 rfl rfl rfl ?_
                 refine sy_ldh one_9 rfl (Hp.blk hbt 1 _ rfl) rfl rfl ?_
                 refine sy_call rfl call_23 rfl (atom_c t.str _) rfl rfl ?_
                 refine sy_stl 1 sz_24 rfl rfl rfl rfl rfl rfl rfl rfl ?_
                 refine sy_assign rfl rfl rfl ?_
                 refine sy_nil rfl ?_
                 refine ny_next ?_
                 refine cy_ret ?_
                 exact ny_finR (resc1 0 rfl agg_24 rfl rfl rfl rfl) (fun w9 hs => ⟨.ok (funT t.str [], 0) st ((GT.mk 3 0 t.str none 0 []), o, vn), h2, _, rfl, ⟨(by unfold nameR; rw [if_neg hcn, if_neg hqn, if_neg hmn, if_neg hpn]), (leaf_ok h2 hs9).1, (leaf_ok h2 hs9).2, hm, rfl⟩, hs.sel (is := [1, 1, 1]) rfl⟩)
             · refine sy_skip rfl rfl rfl ?_
               refine sy_skip rfl rfl rfl ?_
               refine sy_skip rfl rfl rfl ?_
               refine sy_pickF rfl rfl rfl rfl ?_
               refine sy_move rfl rfl rfl ?_
               refine sy_skip rfl rfl rfl ?_
               refine sy_skip rfl rfl rfl ?_
               refine sy_pickF rfl rfl rfl rfl ?_
               refine sy_nil rfl ?_
               refine ny_next ?_
               refine cy_condF rfl ?_
               have hpn : ¬ ((refPrefix t.str.data.toList).2.2 = true ∧ (refPrefix t.str.data.toList).1 ≤ most ∧ beginsR (tokA L st.at_) = true) := fun h9 => by
                (rw [h9.1] at hg73; exact absurd hg73 (by decide))
               refine cy_skip ?_
               refine ny_next ?_
               refine cy_seq ?_
               refine cy_region ?_
               refine sy_field fld_79_1 rfl rfl rfl ?_
               refine sy_ldh one_9 rfl (Hp.blk hbt 1 _ rfl) rfl rfl ?_
               refine sy_call rfl call_23 rfl (atom_c t.str _) rfl rfl ?_
               refine sy_stl 1 sz_24 rfl rfl rfl rfl rfl rfl rfl rfl ?_
               refine sy_assign rfl rfl rfl ?_
               refine sy_nil rfl ?_
               refine ny_next ?_
               refine cy_ret ?_
               exact ny_finR (resc1 0 rfl agg_24 rfl rfl rfl rfl) (fun w9 hs => ⟨.ok (funT t.str [], 0) st ((GT.mk 3 0 t.str none 0 []), o, vn), h2, _, rfl, ⟨(by unfold nameR; rw [if_neg hcn, if_neg hqn, if_neg hmn, if_neg hpn]), (leaf_ok h2 hs9).1, (leaf_ok h2 hs9).2, hm, rfl⟩, hs.sel (is := [1, 1, 1]) rfl⟩)
         · refine sy_skip rfl rfl rfl ?_
           refine sy_skip rfl rfl rfl ?_
           refine sy_skip rfl rfl rfl ?_
           refine sy_pickF rfl rfl rfl rfl ?_
           refine sy_nil rfl ?_
           refine ny_next ?_
           refine cy_condF rfl ?_
           have hmn : ¬ (t.str.data.toList = [45] ∧ (tokA L st.at_).tight = true ∧ (tokA L st.at_).kind = 3) := fun h9 => by
            (rw [h9.2.1] at hg49; exact absurd hg49 (by decide))
           refine cy_skip ?_
           refine ny_next ?_
           refine cy_seq ?_
           refine cy_seq ?_
           refine cy_region ?_
           refine sy_field fld_79_1 rfl rfl rfl ?_
           refine sy_ldh one_9 rfl (Hp.blk hbt 1 _ rfl) rfl rfl ?_
           refine sy_call rfl call_127 rfl (prefix_c t.str _) rfl rfl ?_
           refine sy_move rfl rfl rfl ?_
           refine sy_extract rfl rfl rfl rfl ?_
           refine sy_extract rfl rfl rfl rfl ?_
           refine sy_extract rfl rfl rfl rfl ?_
           refine sy_assign rfl rfl rfl ?_
           refine sy_assign rfl rfl rfl ?_
           refine sy_assign rfl rfl rfl ?_
           refine sy_nil rfl ?_
           refine ny_next ?_
           refine cy_seq ?_
           refine cy_region ?_
           refine sy_move rfl rfl rfl ?_
           refine sy_move rfl rfl rfl ?_
           refine sy_cond (d := 73) _ rfl rfl (fun hg73 => ?_) (fun hg73 => ?_)
           · refine sy_move rfl rfl rfl ?_
             refine sy_move rfl rfl rfl ?_
             refine sy_cmp rfl rfl rfl rfl rfl ?_
             refine sy_pickT rfl rfl rfl rfl ?_
             refine sy_move rfl rfl rfl ?_
             refine sy_cond (d := 78) _ rfl rfl (fun hg78 => ?_) (fun hg78 => ?_)
             · refine sy_ldah (vs := rtC (tokA L st.at_)) agg_79 rfl rfl (Hp.blk hb8x) rfl rfl ?_
               refine sy_call rfl call_128 rfl (begins_c (tokA L st.at_) _) rfl rfl ?_
               refine sy_pickT rfl rfl rfl rfl ?_
               refine sy_nil rfl ?_
               refine ny_next ?_
               refine cy_cond rfl (fun hc81 => ?_) (fun hc81 => ?_)
               · have hpp : (refPrefix t.str.data.toList).2.2 = true ∧ (refPrefix t.str.data.toList).1 ≤ most ∧ beginsR (tokA L st.at_) = true := ⟨hg73, of_decide_eq_true hg78, hc81⟩
                 refine cy_seq ?_
                 refine cy_regionAP mixed ?_
                 refine zy_qP 0 (fun c a d v w hq => by cases d <;> exact hq) rfl (by kernel_rfl) (fun hB14_0 => ?_)
                 refine sy_move rfl rfl rfl ?_
                 refine sy_nil1 (ny_zqP hB14_0 ?_)
                 refine zy_qP 1 (fun c a d v w hq => by cases d <;> exact hq) rfl (by kernel_rfl) (fun hB14_1 => ?_)
                 refine sy_field fld_79_1 rfl rfl rfl ?_
                 refine sy_nil1 (ny_zqP hB14_1 ?_)
                 refine zy_qP 2 (fun c a d v w hq => by cases d <;> exact hq) rfl (by kernel_rfl) (fun hB14_2 => ?_)
                 refine sy_ldh one_9 rfl (Hp.blk hbt 1 _ rfl) rfl rfl ?_
                 refine sy_nil1 (ny_zqP hB14_2 ?_)
                 refine zy_qP 3 (fun c a d v w hq => by cases d <;> exact hq) rfl (by kernel_rfl) (fun hB14_3 => ?_)
                 refine sy_move rfl rfl rfl ?_
                 refine sy_nil1 (ny_zqP hB14_3 ?_)
                 refine zy_qP 4 (fun c a d v w hq => by cases d <;> exact hq) rfl (by kernel_rfl) (fun hB14_4 => ?_)
                 refine sy_move rfl rfl rfl ?_
                 refine sy_nil1 (ny_zqP hB14_4 ?_)
                 refine zy_qP 8 (fun c a d v w hq => by cases d <;> exact hq) rfl (by kernel_rfl) (fun hB14_8 => ?_)
                 refine sy_move rfl rfl rfl ?_
                 refine sy_nil1 (ny_zqP hB14_8 ?_)
                 refine zy_1P 5 (by kernel_rfl) ?_
                 refine zop_runP rfl rfl (fun hB14_5 => ?_)
                 refine sy_callRO [0, 1, 1] call_55 rfl rfl (htm h2 st o vn _ hT hat hnm hm) rfl rfl (fun a87 e87 h87x H87x hb87 hx87 hle87x => ?_) (fun x87 s87 g87 h87x H87x hk87 hx87 hle87x => ?_)
                 · obtain ⟨a9, i9, o9, v9, n9, rfl⟩ := hx87
                   refine ny_zyPP ?_
                   refine ny_thenP ?_
                   refine ny_thenP ?_
                   exact ny_finP (fun w9 hs => ⟨.bad a87 e87, _, _, rfl, ⟨(by unfold nameR; rw [if_neg hcn, if_neg hqn, if_neg hmn, if_pos hpp, hb87]), _, _, _, _, _, rfl⟩, hs.sel (is := [0, 0, 0]) rfl⟩)
                 · obtain ⟨hg87, hl87, hm87, rfl⟩ := hx87
                   replace hg87 : g87.1.tm = x87.1 := hg87
                   have hfw87 := hf _ st x87 s87 hat hk87
                   have hww87 := hwg _ st x87 s87 hat hk87
                   have hpw87 := hPW s87.at_
                   have hT87 := hT.le hle87x
                   refine sy_nil rfl (ny_zyP hB14_5 hle87x ?_)
                   refine zy_1P 6 (by kernel_rfl) ?_
                   refine zop_runP rfl rfl (fun hB14_6 => ?_)
                   refine sy_buildSlice (cs := [g87.1].flatMap GT.cells) rfl (fun w => bsl_22_1_0 w) rfl rfl (fun b88 hb88 hM88 => ?_) (by first | exact hb0 | simp)
                   refine sy_frz 0 rfl hM88 (fun h88 hle88 hb88x => ?_)
                   have hr88 : RowsAt h88 (some ⟨b88, 0, none⟩) 4 ([g87.1].map GT.cells) := rows_blk (by decide) (GT.cells_len _) hb88x
                   refine sy_nil rfl (ny_zyP hB14_6 hle88 ?_)
                   refine zy_1P 7 (by kernel_rfl) ?_
                   refine zop_runP rfl rfl (fun hB14_7 => ?_)
                   refine sy_callRO [0] call_100 rfl rfl (mk_c t.str hs9 [g87.1] (some ⟨b88, 0, none⟩) 1 r bm A c L lv _ (hT87.le hle88) hL s87 inn g87.2.2 hfw87.2.1 rfl hr88 (fun x h9 => by rw [List.mem_singleton.1 h9]; exact ⟨⟨hl87.1.le hle88, hl87.2⟩, by rw [wtG_tm, hg87]; omega⟩) (by simp) (by simp)) rfl rfl (fun a89 e89 h89x H89x hb89 hx89 hle89x => ?_) (fun x89 s89 g89 h89x H89x hk89 hx89 hle89x => ?_)
                   · subst hx89
                     refine ny_zyPP ?_
                     refine ny_thenP ?_
                     refine ny_thenP ?_
                     exact ny_finP (fun w9 hs => ⟨.bad a89 e89, _, _, rfl, ⟨(by unfold nameR; rw [if_neg hcn, if_neg hqn, if_neg hmn, if_pos hpp, hk87]; simp only; rw [← hg87]; exact congrArg (mapR _) hb89), _, _, _, _, _, rfl⟩, hs.sel (is := [0, 0, 0]) rfl⟩)
                   · obtain ⟨hg89, hl89, rfl⟩ := hx89
                     have hst89 := (mkR_st hk89).symm
                     subst hst89
                     refine sy_nil rfl (ny_zyP hB14_7 hle89x ?_)
                     refine zy_1P 9 (by kernel_rfl) ?_
                     refine zop_runP rfl rfl (fun hB14_9 => ?_)
                     refine sy_stl 3 sz_24 rfl rfl rfl rfl rfl rfl rfl rfl ?_
                     refine sy_nil rfl (ny_zyP hB14_9 (Hp.Le.refl _) ?_)
                     refine zy_qP 10 (fun c a d v w hq => by cases d <;> exact hq) rfl (by kernel_rfl) (fun hB14_10 => ?_)
                     refine sy_assign rfl rfl rfl ?_
                     refine sy_nil1 (ny_zqP hB14_10 ?_)
                     refine zy_doneP (by kernel_rfl) ?_
                     refine ny_next ?_
                     refine cy_ret ?_
                     refine ny_thenR ?_
                     exact ny_finR (resc1 0 rfl agg_24 rfl rfl rfl rfl) (fun w9 hs => ⟨.ok (x89, (refPrefix t.str.data.toList).1) s87 (g89, g87.2.1, g87.2.2), h89x, _, rfl, ⟨(by unfold nameR; rw [if_neg hcn, if_neg hqn, if_neg hmn, if_pos hpp, hk87]; simp only; rw [← hg87]; exact congrArg (mapR _) hk89), hg89, hl89, hm87, rfl⟩, hs.sel (is := [1, 1, 1]) rfl⟩)
               · have hpn : ¬ ((refPrefix t.str.data.toList).2.2 = true ∧ (refPrefix t.str.data.toList).1 ≤ most ∧ beginsR (tokA L st.at_) = true) := fun h9 => by
                  rw [h9.2.2] at hc81
                  cases hc81
                 refine cy_skip ?_
                 refine ny_next ?_
                 refine cy_seq ?_
                 refine cy_region ?_
                 refine sy_field fld_79_1 rfl rfl rfl ?_
                 refine sy_ldh one_9 rfl (Hp.blk hbt 1 _ rfl) rfl rfl ?_
                 refine sy_call rfl call_23 rfl (atom_c t.str _) rfl rfl ?_
                 refine sy_stl 1 sz_24 rfl rfl rfl rfl rfl rfl rfl rfl ?_
                 refine sy_assign rfl rfl rfl ?_
                 refine sy_nil rfl ?_
                 refine ny_next ?_
                 refine cy_ret ?_
                 exact ny_finR (resc1 0 rfl agg_24 rfl rfl rfl rfl) (fun w9 hs => ⟨.ok (funT t.str [], 0) st ((GT.mk 3 0 t.str none 0 []), o, vn), h2, _, rfl, ⟨(by unfold nameR; rw [if_neg hcn, if_neg hqn, if_neg hmn, if_neg hpn]), (leaf_ok h2 hs9).1, (leaf_ok h2 hs9).2, hm, rfl⟩, hs.sel (is := [1, 1, 1]) rfl⟩)
             · refine sy_skip rfl rfl rfl ?_
               refine sy_skip rfl rfl rfl ?_
               refine sy_pickF rfl rfl rfl rfl ?_
               refine sy_nil rfl ?_
               refine ny_next ?_
               refine cy_condF rfl ?_
               have hpn : ¬ ((refPrefix t.str.data.toList).2.2 = true ∧ (refPrefix t.str.data.toList).1 ≤ most ∧ beginsR (tokA L st.at_) = true) := fun h9 => by
                (have h8 := of_decide_eq_false hg78; exact h8 h9.2.1)
               refine cy_skip ?_
               refine ny_next ?_
               refine cy_seq ?_
               refine cy_region ?_
               refine sy_field fld_79_1 rfl rfl rfl ?_
               refine sy_ldh one_9 rfl (Hp.blk hbt 1 _ rfl) rfl rfl ?_
               refine sy_call rfl call_23 rfl (atom_c t.str _) rfl rfl ?_
               refine sy_stl 1 sz_24 rfl rfl rfl rfl rfl rfl rfl rfl ?_
               refine sy_assign rfl rfl rfl ?_
               refine sy_nil rfl ?_
               refine ny_next ?_
               refine cy_ret ?_
               exact ny_finR (resc1 0 rfl agg_24 rfl rfl rfl rfl) (fun w9 hs => ⟨.ok (funT t.str [], 0) st ((GT.mk 3 0 t.str none 0 []), o, vn), h2, _, rfl, ⟨(by unfold nameR; rw [if_neg hcn, if_neg hqn, if_neg hmn, if_neg hpn]), (leaf_ok h2 hs9).1, (leaf_ok h2 hs9).2, hm, rfl⟩, hs.sel (is := [1, 1, 1]) rfl⟩)
           · refine sy_skip rfl rfl rfl ?_
             refine sy_skip rfl rfl rfl ?_
             refine sy_skip rfl rfl rfl ?_
             refine sy_pickF rfl rfl rfl rfl ?_
             refine sy_move rfl rfl rfl ?_
             refine sy_skip rfl rfl rfl ?_
             refine sy_skip rfl rfl rfl ?_
             refine sy_pickF rfl rfl rfl rfl ?_
             refine sy_nil rfl ?_
             refine ny_next ?_
             refine cy_condF rfl ?_
             have hpn : ¬ ((refPrefix t.str.data.toList).2.2 = true ∧ (refPrefix t.str.data.toList).1 ≤ most ∧ beginsR (tokA L st.at_) = true) := fun h9 => by
              (rw [h9.1] at hg73; exact absurd hg73 (by decide))
             refine cy_skip ?_
             refine ny_next ?_
             refine cy_seq ?_
             refine cy_region ?_
             refine sy_field fld_79_1 rfl rfl rfl ?_
             refine sy_ldh one_9 rfl (Hp.blk hbt 1 _ rfl) rfl rfl ?_
             refine sy_call rfl call_23 rfl (atom_c t.str _) rfl rfl ?_
             refine sy_stl 1 sz_24 rfl rfl rfl rfl rfl rfl rfl rfl ?_
             refine sy_assign rfl rfl rfl ?_
             refine sy_nil rfl ?_
             refine ny_next ?_
             refine cy_ret ?_
             exact ny_finR (resc1 0 rfl agg_24 rfl rfl rfl rfl) (fun w9 hs => ⟨.ok (funT t.str [], 0) st ((GT.mk 3 0 t.str none 0 []), o, vn), h2, _, rfl, ⟨(by unfold nameR; rw [if_neg hcn, if_neg hqn, if_neg hmn, if_neg hpn]), (leaf_ok h2 hs9).1, (leaf_ok h2 hs9).2, hm, rfl⟩, hs.sel (is := [1, 1, 1]) rfl⟩)
       · refine sy_skip rfl rfl rfl ?_
         refine sy_skip rfl rfl rfl ?_
         refine sy_pickF rfl rfl rfl rfl ?_
         refine sy_move rfl rfl rfl ?_
         refine sy_skip rfl rfl rfl ?_
         refine sy_skip rfl rfl rfl ?_
         refine sy_skip rfl rfl rfl ?_
         refine sy_pickF rfl rfl rfl rfl ?_
         refine sy_nil rfl ?_
         refine ny_next ?_
         refine cy_condF rfl ?_
         have hmn : ¬ (t.str.data.toList = [45] ∧ (tokA L st.at_).tight = true ∧ (tokA L st.at_).kind = 3) := fun h9 => by
          (rw [h9.1] at hg45; exact absurd hg45 (by decide))
         refine cy_skip ?_
         refine ny_next ?_
         refine cy_seq ?_
         refine cy_seq ?_
         refine cy_region ?_
         refine sy_field fld_79_1 rfl rfl rfl ?_
         refine sy_ldh one_9 rfl (Hp.blk hbt 1 _ rfl) rfl rfl ?_
         refine sy_call rfl call_127 rfl (prefix_c t.str _) rfl rfl ?_
         refine sy_move rfl rfl rfl ?_
         refine sy_extract rfl rfl rfl rfl ?_
         refine sy_extract rfl rfl rfl rfl ?_
         refine sy_extract rfl rfl rfl rfl ?_
         refine sy_assign rfl rfl rfl ?_
         refine sy_assign rfl rfl rfl ?_
         refine sy_assign rfl rfl rfl ?_
         refine sy_nil rfl ?_
         refine ny_next ?_
         refine cy_seq ?_
         refine cy_region ?_
         refine sy_move rfl rfl rfl ?_
         refine sy_move rfl rfl rfl ?_
         refine sy_cond (d := 73) _ rfl rfl (fun hg73 => ?_) (fun hg73 => ?_)
         · refine sy_move rfl rfl rfl ?_
           refine sy_move rfl rfl rfl ?_
           refine sy_cmp rfl rfl rfl rfl rfl ?_
           refine sy_pickT rfl rfl rfl rfl ?_
           refine sy_move rfl rfl rfl ?_
           refine sy_cond (d := 78) _ rfl rfl (fun hg78 => ?_) (fun hg78 => ?_)
           · refine sy_ldah (vs := rtC (tokA L st.at_)) agg_79 rfl rfl (Hp.blk hb8x) rfl rfl ?_
             refine sy_call rfl call_128 rfl (begins_c (tokA L st.at_) _) rfl rfl ?_
             refine sy_pickT rfl rfl rfl rfl ?_
             refine sy_nil rfl ?_
             refine ny_next ?_
             refine cy_cond rfl (fun hc81 => ?_) (fun hc81 => ?_)
             · have hpp : (refPrefix t.str.data.toList).2.2 = true ∧ (refPrefix t.str.data.toList).1 ≤ most ∧ beginsR (tokA L st.at_) = true := ⟨hg73, of_decide_eq_true hg78, hc81⟩
               refine cy_seq ?_
               refine cy_regionAP mixed ?_
               refine zy_qP 0 (fun c a d v w hq => by cases d <;> exact hq) rfl (by kernel_rfl) (fun hB14_0 => ?_)
               refine sy_move rfl rfl rfl ?_
               refine sy_nil1 (ny_zqP hB14_0 ?_)
               refine zy_qP 1 (fun c a d v w hq => by cases d <;> exact hq) rfl (by kernel_rfl) (fun hB14_1 => ?_)
               refine sy_field fld_79_1 rfl rfl rfl ?_
               refine sy_nil1 (ny_zqP hB14_1 ?_)
               refine zy_qP 2 (fun c a d v w hq => by cases d <;> exact hq) rfl (by kernel_rfl) (fun hB14_2 => ?_)
               refine sy_ldh one_9 rfl (Hp.blk hbt 1 _ rfl) rfl rfl ?_
               refine sy_nil1 (ny_zqP hB14_2 ?_)
               refine zy_qP 3 (fun c a d v w hq => by cases d <;> exact hq) rfl (by kernel_rfl) (fun hB14_3 => ?_)
               refine sy_move rfl rfl rfl ?_
               refine sy_nil1 (ny_zqP hB14_3 ?_)
               refine zy_qP 4 (fun c a d v w hq => by cases d <;> exact hq) rfl (by kernel_rfl) (fun hB14_4 => ?_)
               refine sy_move rfl rfl rfl ?_
               refine sy_nil1 (ny_zqP hB14_4 ?_)
               refine zy_qP 8 (fun c a d v w hq => by cases d <;> exact hq) rfl (by kernel_rfl) (fun hB14_8 => ?_)
               refine sy_move rfl rfl rfl ?_
               refine sy_nil1 (ny_zqP hB14_8 ?_)
               refine zy_1P 5 (by kernel_rfl) ?_
               refine zop_runP rfl rfl (fun hB14_5 => ?_)
               refine sy_callRO [0, 1, 1] call_55 rfl rfl (htm h2 st o vn _ hT hat hnm hm) rfl rfl (fun a87 e87 h87x H87x hb87 hx87 hle87x => ?_) (fun x87 s87 g87 h87x H87x hk87 hx87 hle87x => ?_)
               · obtain ⟨a9, i9, o9, v9, n9, rfl⟩ := hx87
                 refine ny_zyPP ?_
                 refine ny_thenP ?_
                 refine ny_thenP ?_
                 exact ny_finP (fun w9 hs => ⟨.bad a87 e87, _, _, rfl, ⟨(by unfold nameR; rw [if_neg hcn, if_neg hqn, if_neg hmn, if_pos hpp, hb87]), _, _, _, _, _, rfl⟩, hs.sel (is := [0, 0, 0]) rfl⟩)
               · obtain ⟨hg87, hl87, hm87, rfl⟩ := hx87
                 replace hg87 : g87.1.tm = x87.1 := hg87
                 have hfw87 := hf _ st x87 s87 hat hk87
                 have hww87 := hwg _ st x87 s87 hat hk87
                 have hpw87 := hPW s87.at_
                 have hT87 := hT.le hle87x
                 refine sy_nil rfl (ny_zyP hB14_5 hle87x ?_)
                 refine zy_1P 6 (by kernel_rfl) ?_
                 refine zop_runP rfl rfl (fun hB14_6 => ?_)
                 refine sy_buildSlice (cs := [g87.1].flatMap GT.cells) rfl (fun w => bsl_22_1_0 w) rfl rfl (fun b88 hb88 hM88 => ?_) (by first | exact hb0 | simp)
                 refine sy_frz 0 rfl hM88 (fun h88 hle88 hb88x => ?_)
                 have hr88 : RowsAt h88 (some ⟨b88, 0, none⟩) 4 ([g87.1].map GT.cells) := rows_blk (by decide) (GT.cells_len _) hb88x
                 refine sy_nil rfl (ny_zyP hB14_6 hle88 ?_)
                 refine zy_1P 7 (by kernel_rfl) ?_
                 refine zop_runP rfl rfl (fun hB14_7 => ?_)
                 refine sy_callRO [0] call_100 rfl rfl (mk_c t.str hs9 [g87.1] (some ⟨b88, 0, none⟩) 1 r bm A c L lv _ (hT87.le hle88) hL s87 inn g87.2.2 hfw87.2.1 rfl hr88 (fun x h9 => by rw [List.mem_singleton.1 h9]; exact ⟨⟨hl87.1.le hle88, hl87.2⟩, by rw [wtG_tm, hg87]; omega⟩) (by simp) (by simp)) rfl rfl (fun a89 e89 h89x H89x hb89 hx89 hle89x => ?_) (fun x89 s89 g89 h89x H89x hk89 hx89 hle89x => ?_)
                 · subst hx89
                   refine ny_zyPP ?_
                   refine ny_thenP ?_
                   refine ny_thenP ?_
                   exact ny_finP (fun w9 hs => ⟨.bad a89 e89, _, _, rfl, ⟨(by unfold nameR; rw [if_neg hcn, if_neg hqn, if_neg hmn, if_pos hpp, hk87]; simp only; rw [← hg87]; exact congrArg (mapR _) hb89), _, _, _, _, _, rfl⟩, hs.sel (is := [0, 0, 0]) rfl⟩)
                 · obtain ⟨hg89, hl89, rfl⟩ := hx89
                   have hst89 := (mkR_st hk89).symm
                   subst hst89
                   refine sy_nil rfl (ny_zyP hB14_7 hle89x ?_)
                   refine zy_1P 9 (by kernel_rfl) ?_
                   refine zop_runP rfl rfl (fun hB14_9 => ?_)
                   refine sy_stl 3 sz_24 rfl rfl rfl rfl rfl rfl rfl rfl ?_
                   refine sy_nil rfl (ny_zyP hB14_9 (Hp.Le.refl _) ?_)
                   refine zy_qP 10 (fun c a d v w hq => by cases d <;> exact hq) rfl (by kernel_rfl) (fun hB14_10 => ?_)
                   refine sy_assign rfl rfl rfl ?_
                   refine sy_nil1 (ny_zqP hB14_10 ?_)
                   refine zy_doneP (by kernel_rfl) ?_
                   refine ny_next ?_
                   refine cy_ret ?_
                   refine ny_thenR ?_
                   exact ny_finR (resc1 0 rfl agg_24 rfl rfl rfl rfl) (fun w9 hs => ⟨.ok (x89, (refPrefix t.str.data.toList).1) s87 (g89, g87.2.1, g87.2.2), h89x, _, rfl, ⟨(by unfold nameR; rw [if_neg hcn, if_neg hqn, if_neg hmn, if_pos hpp, hk87]; simp only; rw [← hg87]; exact congrArg (mapR _) hk89), hg89, hl89, hm87, rfl⟩, hs.sel (is := [1, 1, 1]) rfl⟩)
             · have hpn : ¬ ((refPrefix t.str.data.toList).2.2 = true ∧ (refPrefix t.str.data.toList).1 ≤ most ∧ beginsR (tokA L st.at_) = true) := fun h9 => by
                rw [h9.2.2] at hc81
                cases hc81
               refine cy_skip ?_
               refine ny_next ?_
               refine cy_seq ?_
               refine cy_region ?_
               refine sy_field fld_79_1 rfl rfl rfl ?_
               refine sy_ldh one_9 rfl (Hp.blk hbt 1 _ rfl) rfl rfl ?_
               refine sy_call rfl call_23 rfl (atom_c t.str _) rfl rfl ?_
               refine sy_stl 1 sz_24 rfl rfl rfl rfl rfl rfl rfl rfl ?_
               refine sy_assign rfl rfl rfl ?_
               refine sy_nil rfl ?_
               refine ny_next ?_
               refine cy_ret ?_
               exact ny_finR (resc1 0 rfl agg_24 rfl rfl rfl rfl) (fun w9 hs => ⟨.ok (funT t.str [], 0) st ((GT.mk 3 0 t.str none 0 []), o, vn), h2, _, rfl, ⟨(by unfold nameR; rw [if_neg hcn, if_neg hqn, if_neg hmn, if_neg hpn]), (leaf_ok h2 hs9).1, (leaf_ok h2 hs9).2, hm, rfl⟩, hs.sel (is := [1, 1, 1]) rfl⟩)
           · refine sy_skip rfl rfl rfl ?_
             refine sy_skip rfl rfl rfl ?_
             refine sy_pickF rfl rfl rfl rfl ?_
             refine sy_nil rfl ?_
             refine ny_next ?_
             refine cy_condF rfl ?_
             have hpn : ¬ ((refPrefix t.str.data.toList).2.2 = true ∧ (refPrefix t.str.data.toList).1 ≤ most ∧ beginsR (tokA L st.at_) = true) := fun h9 => by
              (have h8 := of_decide_eq_false hg78; exact h8 h9.2.1)
             refine cy_skip ?_
             refine ny_next ?_
             refine cy_seq ?_
             refine cy_region ?_
             refine sy_field fld_79_1 rfl rfl rfl ?_
             refine sy_ldh one_9 rfl (Hp.blk hbt 1 _ rfl) rfl rfl ?_
             refine sy_call rfl call_23 rfl (atom_c t.str _) rfl rfl ?_
             refine sy_stl 1 sz_24 rfl rfl rfl rfl rfl rfl rfl rfl ?_
             refine sy_assign rfl rfl rfl ?_
             refine sy_nil rfl ?_
             refine ny_next ?_
             refine cy_ret ?_
             exact ny_finR (resc1 0 rfl agg_24 rfl rfl rfl rfl) (fun w9 hs => ⟨.ok (funT t.str [], 0) st ((GT.mk 3 0 t.str none 0 []), o, vn), h2, _, rfl, ⟨(by unfold nameR; rw [if_neg hcn, if_neg hqn, if_neg hmn, if_neg hpn]), (leaf_ok h2 hs9).1, (leaf_ok h2 hs9).2, hm, rfl⟩, hs.sel (is := [1, 1, 1]) rfl⟩)
         · refine sy_skip rfl rfl rfl ?_
           refine sy_skip rfl rfl rfl ?_
           refine sy_skip rfl rfl rfl ?_
           refine sy_pickF rfl rfl rfl rfl ?_
           refine sy_move rfl rfl rfl ?_
           refine sy_skip rfl rfl rfl ?_
           refine sy_skip rfl rfl rfl ?_
           refine sy_pickF rfl rfl rfl rfl ?_
           refine sy_nil rfl ?_
           refine ny_next ?_
           refine cy_condF rfl ?_
           have hpn : ¬ ((refPrefix t.str.data.toList).2.2 = true ∧ (refPrefix t.str.data.toList).1 ≤ most ∧ beginsR (tokA L st.at_) = true) := fun h9 => by
            (rw [h9.1] at hg73; exact absurd hg73 (by decide))
           refine cy_skip ?_
           refine ny_next ?_
           refine cy_seq ?_
           refine cy_region ?_
           refine sy_field fld_79_1 rfl rfl rfl ?_
           refine sy_ldh one_9 rfl (Hp.blk hbt 1 _ rfl) rfl rfl ?_
           refine sy_call rfl call_23 rfl (atom_c t.str _) rfl rfl ?_
           refine sy_stl 1 sz_24 rfl rfl rfl rfl rfl rfl rfl rfl ?_
           refine sy_assign rfl rfl rfl ?_
           refine sy_nil rfl ?_
           refine ny_next ?_
           refine cy_ret ?_
           exact ny_finR (resc1 0 rfl agg_24 rfl rfl rfl rfl) (fun w9 hs => ⟨.ok (funT t.str [], 0) st ((GT.mk 3 0 t.str none 0 []), o, vn), h2, _, rfl, ⟨(by unfold nameR; rw [if_neg hcn, if_neg hqn, if_neg hmn, if_neg hpn]), (leaf_ok h2 hs9).1, (leaf_ok h2 hs9).2, hm, rfl⟩, hs.sel (is := [1, 1, 1]) rfl⟩)
 · refine sy_skip rfl rfl rfl ?_
   refine sy_skip rfl rfl rfl ?_
   refine sy_pickF rfl rfl rfl rfl ?_
   refine sy_nil rfl ?_
   refine ny_next ?_
   refine cy_condF rfl ?_
   have hcn : ¬ ((tokA L st.at_).tight = true ∧ isP L st.at_ [40] = true) := fun h9 => by
    rw [h9.1] at hg17
    cases hg17
   refine cy_skip ?_
   refine ny_next ?_
   refine cy_seq ?_
   refine cy_seq ?_
   refine cy_region ?_
   refine sy_field fld_79_3 rfl rfl rfl ?_
   refine sy_ldh one_4 rfl (Hp.blk hbt 3 _ rfl) rfl rfl ?_
   refine sy_nil rfl ?_
   refine ny_next ?_
   refine cy_cond rfl (fun hc38 => ?_) (fun hc38 => ?_)
   · have hqp : t.quo = true := hc38
     refine cy_seq ?_
     refine cy_region ?_
     refine sy_field fld_79_1 rfl rfl rfl ?_
     refine sy_ldh one_9 rfl (Hp.blk hbt 1 _ rfl) rfl rfl ?_
     refine sy_call rfl call_23 rfl (atom_c t.str _) rfl rfl ?_
     refine sy_stl 1 sz_24 rfl rfl rfl rfl rfl rfl rfl rfl ?_
     refine sy_assign rfl rfl rfl ?_
     refine sy_nil rfl ?_
     refine ny_next ?_
     refine cy_ret ?_
     refine ny_thenR ?_
     exact ny_finR (resc1 0 rfl agg_24 rfl rfl rfl rfl) (fun w9 hs => ⟨.ok (funT t.str [], 0) st ((GT.mk 3 0 t.str none 0 []), o, vn), h2, _, rfl, ⟨(by unfold nameR; rw [if_neg hcn, if_pos hqp]), (leaf_ok h2 hs9).1, (leaf_ok h2 hs9).2, hm, rfl⟩, hs.sel (is := [1, 1, 1]) rfl⟩)
   · have hqn : ¬ t.quo = true := by rw [Bool.not_eq_true]; exact hc38
     refine cy_skip ?_
     refine ny_next ?_
     refine cy_seq ?_
     refine cy_seq ?_
     refine cy_region ?_
     refine sy_field fld_79_1 rfl rfl rfl ?_
     refine sy_ldh one_9 rfl (Hp.blk hbt 1 _ rfl) rfl rfl ?_
     refine sy_eqs rfl rfl rfl rfl ?_
     refine sy_move rfl rfl rfl ?_
     refine sy_cond (d := 45) _ rfl rfl (fun hg45 => ?_) (fun hg45 => ?_)
     · refine sy_field fld_79_4 rfl rfl rfl ?_
       refine sy_ldh one_4 rfl (Hp.blk hb8x 4 _ rfl) rfl rfl ?_
       refine sy_pickT rfl rfl rfl rfl ?_
       refine sy_move rfl rfl rfl ?_
       refine sy_cond (d := 49) _ rfl rfl (fun hg49 => ?_) (fun hg49 => ?_)
       · refine sy_field fld_79_0 rfl rfl rfl ?_
         refine sy_ldh one_3 rfl (Hp.blk hb8x 0 _ rfl) rfl rfl ?_
         refine sy_cmp rfl rfl rfl rfl rfl ?_
         refine sy_pickT rfl rfl rfl rfl ?_
         refine sy_nil rfl ?_
         refine ny_next ?_
         refine cy_cond rfl (fun hc53 => ?_) (fun hc53 => ?_)
         · have hmp : t.str.data.toList = [45] ∧ (tokA L st.at_).tight = true ∧ (tokA L st.at_).kind = 3 := ⟨eq_of_beq hg45, hg49, by simpa using hc53⟩
           have hlt := tok_lt (L := L) (i := st.at_) (by rw [hmp.2.2]; decide)
           refine cy_seq ?_
           refine cy_region ?_
           refine sy_move rfl rfl rfl ?_
           refine sy_nilCheck rfl rfl rfl ?_
           refine sy_field fld_88_1 rfl rfl rfl ?_
           refine sy_ldr 0 one_3 rfl rfl rfl rfl rfl ?_
           refine sy_addi (z := ((st.at_ + 1 : Nat) : Int)) rfl rfl (by omega) (by omega) (by omega) rfl rfl ?_
           refine sy_nilCheck rfl rfl rfl ?_
           refine sy_field fld_88_1 rfl rfl rfl ?_
           refine sy_stl 0 sz_3 rfl rfl rfl rfl rfl rfl rfl rfl ?_
           refine sy_nil rfl ?_
           refine ny_next ?_
           refine cy_seq ?_
           refine cy_region ?_
           refine sy_field fld_79_2 rfl rfl rfl ?_
           refine sy_ldh one_2 rfl (Hp.blk hb8x 2 _ rfl) rfl rfl ?_
           refine sy_negw Tryz.underlying2 rfl rfl rfl ?_
           have hwr := wrap_bounds (-(tokA L st.at_).num)
           refine sy_call rfl call_24 rfl (num_c _ _) rfl rfl ?_
           refine sy_stl 1 sz_24 rfl rfl rfl rfl rfl rfl rfl rfl ?_
           refine sy_assign rfl rfl rfl ?_
           refine sy_nil rfl ?_
           refine ny_next ?_
           refine cy_ret ?_
           refine ny_thenR ?_
           exact ny_finR (resc1 0 rfl agg_24 rfl rfl rfl rfl) (fun w9 hs => ⟨.ok (_, 0) (adv st) (GT.mk 2 (IntKind.i64.wrap (-(tokA L st.at_).num)) ⟨#[]⟩ none 0 [], o, vn), h2, _, rfl, ⟨(by unfold nameR; rw [if_neg hcn, if_neg hqn, if_pos hmp]), (by rw [tm_leaf]; rfl), ⟨lies_leaf _ _ _ _, fits_leaf (by decide) (by decide) hwr.1 hwr.2 (by decide)⟩, hm, rfl⟩, hs.sel (is := [1, 1, 1]) rfl⟩)
         · have hmn : ¬ (t.str.data.toList = [45] ∧ (tokA L st.at_).tight = true ∧ (tokA L st.at_).kind = 3) := fun h9 => by
            rw [h9.2.2] at hc53
            exact absurd hc53 (by decide)
           refine cy_skip ?_
           refine ny_next ?_
           refine cy_seq ?_
           refine cy_seq ?_
           refine cy_region ?_
           refine sy_field fld_79_1 rfl rfl rfl ?_
           refine sy_ldh one_9 rfl (Hp.blk hbt 1 _ rfl) rfl rfl ?_
           refine sy_call rfl call_127 rfl (prefix_c t.str _) rfl rfl ?_
           refine sy_move rfl rfl rfl ?_
           refine sy_extract rfl rfl rfl rfl ?_
           refine sy_extract rfl rfl rfl rfl ?_
           refine sy_extract rfl rfl rfl rfl ?_
           refine sy_assign rfl rfl rfl ?_
           refine sy_assign rfl rfl rfl ?_
           refine sy_assign rfl rfl rfl ?_
           refine sy_nil rfl ?_
           refine ny_next ?_
           refine cy_seq ?_
           refine cy_region ?_
           refine sy_move rfl rfl rfl ?_
           refine sy_move rfl rfl rfl ?_
           refine sy_cond (d := 73) _ rfl rfl (fun hg73 => ?_) (fun hg73 => ?_)
           · refine sy_move rfl rfl rfl ?_
             refine sy_move rfl rfl rfl ?_
             refine sy_cmp rfl rfl rfl rfl rfl ?_
             refine sy_pickT rfl rfl rfl rfl ?_
             refine sy_move rfl rfl rfl ?_
             refine sy_cond (d := 78) _ rfl rfl (fun hg78 => ?_) (fun hg78 => ?_)
             · refine sy_ldah (vs := rtC (tokA L st.at_)) agg_79 rfl rfl (Hp.blk hb8x) rfl rfl ?_
               refine sy_call rfl call_128 rfl (begins_c (tokA L st.at_) _) rfl rfl ?_
               refine sy_pickT rfl rfl rfl rfl ?_
               refine sy_nil rfl ?_
               refine ny_next ?_
               refine cy_cond rfl (fun hc81 => ?_) (fun hc81 => ?_)
               · have hpp : (refPrefix t.str.data.toList).2.2 = true ∧ (refPrefix t.str.data.toList).1 ≤ most ∧ beginsR (tokA L st.at_) = true := ⟨hg73, of_decide_eq_true hg78, hc81⟩
                 refine cy_seq ?_
                 refine cy_regionAP mixed ?_
                 refine zy_qP 0 (fun c a d v w hq => by cases d <;> exact hq) rfl (by kernel_rfl) (fun hB14_0 => ?_)
                 refine sy_move rfl rfl rfl ?_
                 refine sy_nil1 (ny_zqP hB14_0 ?_)
                 refine zy_qP 1 (fun c a d v w hq => by cases d <;> exact hq) rfl (by kernel_rfl) (fun hB14_1 => ?_)
                 refine sy_field fld_79_1 rfl rfl rfl ?_
                 refine sy_nil1 (ny_zqP hB14_1 ?_)
                 refine zy_qP 2 (fun c a d v w hq => by cases d <;> exact hq) rfl (by kernel_rfl) (fun hB14_2 => ?_)
                 refine sy_ldh one_9 rfl (Hp.blk hbt 1 _ rfl) rfl rfl ?_
                 refine sy_nil1 (ny_zqP hB14_2 ?_)
                 refine zy_qP 3 (fun c a d v w hq => by cases d <;> exact hq) rfl (by kernel_rfl) (fun hB14_3 => ?_)
                 refine sy_move rfl rfl rfl ?_
                 refine sy_nil1 (ny_zqP hB14_3 ?_)
                 refine zy_qP 4 (fun c a d v w hq => by cases d <;> exact hq) rfl (by kernel_rfl) (fun hB14_4 => ?_)
                 refine sy_move rfl rfl rfl ?_
                 refine sy_nil1 (ny_zqP hB14_4 ?_)
                 refine zy_qP 8 (fun c a d v w hq => by cases d <;> exact hq) rfl (by kernel_rfl) (fun hB14_8 => ?_)
                 refine sy_move rfl rfl rfl ?_
                 refine sy_nil1 (ny_zqP hB14_8 ?_)
                 refine zy_1P 5 (by kernel_rfl) ?_
                 refine zop_runP rfl rfl (fun hB14_5 => ?_)
                 refine sy_callRO [0, 1, 1] call_55 rfl rfl (htm h2 st o vn _ hT hat hnm hm) rfl rfl (fun a87 e87 h87x H87x hb87 hx87 hle87x => ?_) (fun x87 s87 g87 h87x H87x hk87 hx87 hle87x => ?_)
                 · obtain ⟨a9, i9, o9, v9, n9, rfl⟩ := hx87
                   refine ny_zyPP ?_
                   refine ny_thenP ?_
                   refine ny_thenP ?_
                   exact ny_finP (fun w9 hs => ⟨.bad a87 e87, _, _, rfl, ⟨(by unfold nameR; rw [if_neg hcn, if_neg hqn, if_neg hmn, if_pos hpp, hb87]), _, _, _, _, _, rfl⟩, hs.sel (is := [0, 0, 0]) rfl⟩)
                 · obtain ⟨hg87, hl87, hm87, rfl⟩ := hx87
                   replace hg87 : g87.1.tm = x87.1 := hg87
                   have hfw87 := hf _ st x87 s87 hat hk87
                   have hww87 := hwg _ st x87 s87 hat hk87
                   have hpw87 := hPW s87.at_
                   have hT87 := hT.le hle87x
                   refine sy_nil rfl (ny_zyP hB14_5 hle87x ?_)
                   refine zy_1P 6 (by kernel_rfl) ?_
                   refine zop_runP rfl rfl (fun hB14_6 => ?_)
                   refine sy_buildSlice (cs := [g87.1].flatMap GT.cells) rfl (fun w => bsl_22_1_0 w) rfl rfl (fun b88 hb88 hM88 => ?_) (by first | exact hb0 | simp)
                   refine sy_frz 0 rfl hM88 (fun h88 hle88 hb88x => ?_)
                   have hr88 : RowsAt h88 (some ⟨b88, 0, none⟩) 4 ([g87.1].map GT.cells) := rows_blk (by decide) (GT.cells_len _) hb88x
                   refine sy_nil rfl (ny_zyP hB14_6 hle88 ?_)
                   refine zy_1P 7 (by kernel_rfl) ?_
                   refine zop_runP rfl rfl (fun hB14_7 => ?_)
                   refine sy_callRO [0] call_100 rfl rfl (mk_c t.str hs9 [g87.1] (some ⟨b88, 0, none⟩) 1 r bm A c L lv _ (hT87.le hle88) hL s87 inn g87.2.2 hfw87.2.1 rfl hr88 (fun x h9 => by rw [List.mem_singleton.1 h9]; exact ⟨⟨hl87.1.le hle88, hl87.2⟩, by rw [wtG_tm, hg87]; omega⟩) (by simp) (by simp)) rfl rfl (fun a89 e89 h89x H89x hb89 hx89 hle89x => ?_) (fun x89 s89 g89 h89x H89x hk89 hx89 hle89x => ?_)
                   · subst hx89
                     refine ny_zyPP ?_
                     refine ny_thenP ?_
                     refine ny_thenP ?_
                     exact ny_finP (fun w9 hs => ⟨.bad a89 e89, _, _, rfl, ⟨(by unfold nameR; rw [if_neg hcn, if_neg hqn, if_neg hmn, if_pos hpp, hk87]; simp only; rw [← hg87]; exact congrArg (mapR _) hb89), _, _, _, _, _, rfl⟩, hs.sel (is := [0, 0, 0]) rfl⟩)
                   · obtain ⟨hg89, hl89, rfl⟩ := hx89
                     have hst89 := (mkR_st hk89).symm
                     subst hst89
                     refine sy_nil rfl (ny_zyP hB14_7 hle89x ?_)
                     refine zy_1P 9 (by kernel_rfl) ?_
                     refine zop_runP rfl rfl (fun hB14_9 => ?_)
                     refine sy_stl 3 sz_24 rfl rfl rfl rfl rfl rfl rfl rfl ?_
                     refine sy_nil rfl (ny_zyP hB14_9 (Hp.Le.refl _) ?_)
                     refine zy_qP 10 (fun c a d v w hq => by cases d <;> exact hq) rfl (by kernel_rfl) (fun hB14_10 => ?_)
                     refine sy_assign rfl rfl rfl ?_
                     refine sy_nil1 (ny_zqP hB14_10 ?_)
                     refine zy_doneP (by kernel_rfl) ?_
                     refine ny_next ?_
                     refine cy_ret ?_
                     refine ny_thenR ?_
                     exact ny_finR (resc1 0 rfl agg_24 rfl rfl rfl rfl) (fun w9 hs => ⟨.ok (x89, (refPrefix t.str.data.toList).1) s87 (g89, g87.2.1, g87.2.2), h89x, _, rfl, ⟨(by unfold nameR; rw [if_neg hcn, if_neg hqn, if_neg hmn, if_pos hpp, hk87]; simp only; rw [← hg87]; exact congrArg (mapR _) hk89), hg89, hl89, hm87, rfl⟩, hs.sel (is := [1, 1, 1]) rfl⟩)
               · have hpn : ¬ ((refPrefix t.str.data.toList).2.2 = true ∧ (refPrefix t.str.data.toList).1 ≤ most ∧ beginsR (tokA L st.at_) = true) := fun h9 => by
                  rw [h9.2.2] at hc81
                  cases hc81
                 refine cy_skip ?_
                 refine ny_next ?_
                 refine cy_seq ?_
                 refine cy_region ?_
                 refine sy_field fld_79_1 rfl rfl rfl ?_
                 refine sy_ldh one_9 rfl (Hp.blk hbt 1 _ rfl) rfl rfl ?_
                 refine sy_call rfl call_23 rfl (atom_c t.str _) rfl rfl ?_
                 refine sy_stl 1 sz_24 rfl rfl rfl rfl rfl rfl rfl rfl ?_
                 refine sy_assign rfl rfl rfl ?_
                 refine sy_nil rfl ?_
                 refine ny_next ?_
                 refine cy_ret ?_
                 exact ny_finR (resc1 0 rfl agg_24 rfl rfl rfl rfl) (fun w9 hs => ⟨.ok (funT t.str [], 0) st ((GT.mk 3 0 t.str none 0 []), o, vn), h2, _, rfl, ⟨(by unfold nameR; rw [if_neg hcn, if_neg hqn, if_neg hmn, if_neg hpn]), (leaf_ok h2 hs9).1, (leaf_ok h2 hs9).2, hm, rfl⟩, hs.sel (is := [1, 1, 1]) rfl⟩)
             · refine sy_skip rfl rfl rfl ?_
               refine sy_skip rfl rfl rfl ?_
               refine sy_pickF rfl rfl rfl rfl ?_
               refine sy_nil rfl ?_
               refine ny_next ?_
               refine cy_condF rfl ?_
               have hpn : ¬ ((refPrefix t.str.data.toList).2.2 = true ∧ (refPrefix t.str.data.toList).1 ≤ most ∧ beginsR (tokA L st.at_) = true) := fun h9 => by
                (have h8 := of_decide_eq_false hg78; exact h8 h9.2.1)
               refine cy_skip ?_
               refine ny_next ?_
               refine cy_seq ?_
               refine cy_region ?_
               refine sy_field fld_79_1 rfl rfl rfl ?_
               refine sy_ldh one_9 rfl (Hp.blk hbt 1 _ rfl) rfl rfl ?_
               refine sy_call rfl call_23 rfl (atom_c t.str _) rfl rfl ?_
               refine sy_stl 1 sz_24 rfl rfl rfl rfl rfl rfl rfl rfl ?_
               refine sy_assign rfl rfl rfl ?_
               refine sy_nil rfl ?_
               refine ny_next ?_
               refine cy_ret ?_
               exact ny_finR (resc1 0 rfl agg_24 rfl rfl rfl rfl) (fun w9 hs => ⟨.ok (funT t.str [], 0) st ((GT.mk 3 0 t.str none 0 []), o, vn), h2, _, rfl, ⟨(by unfold nameR; rw [if_neg hcn, if_neg hqn, if_neg hmn, if_neg hpn]), (leaf_ok h2 hs9).1, (leaf_ok h2 hs9).2, hm, rfl⟩, hs.sel (is := [1, 1, 1]) rfl⟩)
           · refine sy_skip rfl rfl rfl ?_
             refine sy_skip rfl rfl rfl ?_
             refine sy_skip rfl rfl rfl ?_
             refine sy_pickF rfl rfl rfl rfl ?_
             refine sy_move rfl rfl rfl ?_
             refine sy_skip rfl rfl rfl ?_
             refine sy_skip rfl rfl rfl ?_
             refine sy_pickF rfl rfl rfl rfl ?_
             refine sy_nil rfl ?_
             refine ny_next ?_
             refine cy_condF rfl ?_
             have hpn : ¬ ((refPrefix t.str.data.toList).2.2 = true ∧ (refPrefix t.str.data.toList).1 ≤ most ∧ beginsR (tokA L st.at_) = true) := fun h9 => by
              (rw [h9.1] at hg73; exact absurd hg73 (by decide))
             refine cy_skip ?_
             refine ny_next ?_
             refine cy_seq ?_
             refine cy_region ?_
             refine sy_field fld_79_1 rfl rfl rfl ?_
             refine sy_ldh one_9 rfl (Hp.blk hbt 1 _ rfl) rfl rfl ?_
             refine sy_call rfl call_23 rfl (atom_c t.str _) rfl rfl ?_
             refine sy_stl 1 sz_24 rfl rfl rfl rfl rfl rfl rfl rfl ?_
             refine sy_assign rfl rfl rfl ?_
             refine sy_nil rfl ?_
             refine ny_next ?_
             refine cy_ret ?_
             exact ny_finR (resc1 0 rfl agg_24 rfl rfl rfl rfl) (fun w9 hs => ⟨.ok (funT t.str [], 0) st ((GT.mk 3 0 t.str none 0 []), o, vn), h2, _, rfl, ⟨(by unfold nameR; rw [if_neg hcn, if_neg hqn, if_neg hmn, if_neg hpn]), (leaf_ok h2 hs9).1, (leaf_ok h2 hs9).2, hm, rfl⟩, hs.sel (is := [1, 1, 1]) rfl⟩)
       · refine sy_skip rfl rfl rfl ?_
         refine sy_skip rfl rfl rfl ?_
         refine sy_skip rfl rfl rfl ?_
         refine sy_pickF rfl rfl rfl rfl ?_
         refine sy_nil rfl ?_
         refine ny_next ?_
         refine cy_condF rfl ?_
         have hmn : ¬ (t.str.data.toList = [45] ∧ (tokA L st.at_).tight = true ∧ (tokA L st.at_).kind = 3) := fun h9 => by
          (rw [h9.2.1] at hg49; exact absurd hg49 (by decide))
         refine cy_skip ?_
         refine ny_next ?_
         refine cy_seq ?_
         refine cy_seq ?_
         refine cy_region ?_
         refine sy_field fld_79_1 rfl rfl rfl ?_
         refine sy_ldh one_9 rfl (Hp.blk hbt 1 _ rfl) rfl rfl ?_
         refine sy_call rfl call_127 rfl (prefix_c t.str _) rfl rfl ?_
         refine sy_move rfl rfl rfl ?_
         refine sy_extract rfl rfl rfl rfl ?_
         refine sy_extract rfl rfl rfl rfl ?_
         refine sy_extract rfl rfl rfl rfl ?_
         refine sy_assign rfl rfl rfl ?_
         refine sy_assign rfl rfl rfl ?_
         refine sy_assign rfl rfl rfl ?_
         refine sy_nil rfl ?_
         refine ny_next ?_
         refine cy_seq ?_
         refine cy_region ?_
         refine sy_move rfl rfl rfl ?_
         refine sy_move rfl rfl rfl ?_
         refine sy_cond (d := 73) _ rfl rfl (fun hg73 => ?_) (fun hg73 => ?_)
         · refine sy_move rfl rfl rfl ?_
           refine sy_move rfl rfl rfl ?_
           refine sy_cmp rfl rfl rfl rfl rfl ?_
           refine sy_pickT rfl rfl rfl rfl ?_
           refine sy_move rfl rfl rfl ?_
           refine sy_cond (d := 78) _ rfl rfl (fun hg78 => ?_) (fun hg78 => ?_)
           · refine sy_ldah (vs := rtC (tokA L st.at_)) agg_79 rfl rfl (Hp.blk hb8x) rfl rfl ?_
             refine sy_call rfl call_128 rfl (begins_c (tokA L st.at_) _) rfl rfl ?_
             refine sy_pickT rfl rfl rfl rfl ?_
             refine sy_nil rfl ?_
             refine ny_next ?_
             refine cy_cond rfl (fun hc81 => ?_) (fun hc81 => ?_)
             · have hpp : (refPrefix t.str.data.toList).2.2 = true ∧ (refPrefix t.str.data.toList).1 ≤ most ∧ beginsR (tokA L st.at_) = true := ⟨hg73, of_decide_eq_true hg78, hc81⟩
               refine cy_seq ?_
               refine cy_regionAP mixed ?_
               refine zy_qP 0 (fun c a d v w hq => by cases d <;> exact hq) rfl (by kernel_rfl) (fun hB14_0 => ?_)
               refine sy_move rfl rfl rfl ?_
               refine sy_nil1 (ny_zqP hB14_0 ?_)
               refine zy_qP 1 (fun c a d v w hq => by cases d <;> exact hq) rfl (by kernel_rfl) (fun hB14_1 => ?_)
               refine sy_field fld_79_1 rfl rfl rfl ?_
               refine sy_nil1 (ny_zqP hB14_1 ?_)
               refine zy_qP 2 (fun c a d v w hq => by cases d <;> exact hq) rfl (by kernel_rfl) (fun hB14_2 => ?_)
               refine sy_ldh one_9 rfl (Hp.blk hbt 1 _ rfl) rfl rfl ?_
               refine sy_nil1 (ny_zqP hB14_2 ?_)
               refine zy_qP 3 (fun c a d v w hq => by cases d <;> exact hq) rfl (by kernel_rfl) (fun hB14_3 => ?_)
               refine sy_move rfl rfl rfl ?_
               refine sy_nil1 (ny_zqP hB14_3 ?_)
               refine zy_qP 4 (fun c a d v w hq => by cases d <;> exact hq) rfl (by kernel_rfl) (fun hB14_4 => ?_)
               refine sy_move rfl rfl rfl ?_
               refine sy_nil1 (ny_zqP hB14_4 ?_)
               refine zy_qP 8 (fun c a d v w hq => by cases d <;> exact hq) rfl (by kernel_rfl) (fun hB14_8 => ?_)
               refine sy_move rfl rfl rfl ?_
               refine sy_nil1 (ny_zqP hB14_8 ?_)
               refine zy_1P 5 (by kernel_rfl) ?_
               refine zop_runP rfl rfl (fun hB14_5 => ?_)
               refine sy_callRO [0, 1, 1] call_55 rfl rfl (htm h2 st o vn _ hT hat hnm hm) rfl rfl (fun a87 e87 h87x H87x hb87 hx87 hle87x => ?_) (fun x87 s87 g87 h87x H87x hk87 hx87 hle87x => ?_)
               · obtain ⟨a9, i9, o9, v9, n9, rfl⟩ := hx87
                 refine ny_zyPP ?_
                 refine ny_thenP ?_
                 refine ny_thenP ?_
                 exact ny_finP (fun w9 hs => ⟨.bad a87 e87, _, _, rfl, ⟨(by unfold nameR; rw [if_neg hcn, if_neg hqn, if_neg hmn, if_pos hpp, hb87]), _, _, _, _, _, rfl⟩, hs.sel (is := [0, 0, 0]) rfl⟩)
               · obtain ⟨hg87, hl87, hm87, rfl⟩ := hx87
                 replace hg87 : g87.1.tm = x87.1 := hg87
                 have hfw87 := hf _ st x87 s87 hat hk87
                 have hww87 := hwg _ st x87 s87 hat hk87
                 have hpw87 := hPW s87.at_
                 have hT87 := hT.le hle87x
                 refine sy_nil rfl (ny_zyP hB14_5 hle87x ?_)
                 refine zy_1P 6 (by kernel_rfl) ?_
                 refine zop_runP rfl rfl (fun hB14_6 => ?_)
                 refine sy_buildSlice (cs := [g87.1].flatMap GT.cells) rfl (fun w => bsl_22_1_0 w) rfl rfl (fun b88 hb88 hM88 => ?_) (by first | exact hb0 | simp)
                 refine sy_frz 0 rfl hM88 (fun h88 hle88 hb88x => ?_)
                 have hr88 : RowsAt h88 (some ⟨b88, 0, none⟩) 4 ([g87.1].map GT.cells) := rows_blk (by decide) (GT.cells_len _) hb88x
                 refine sy_nil rfl (ny_zyP hB14_6 hle88 ?_)
                 refine zy_1P 7 (by kernel_rfl) ?_
                 refine zop_runP rfl rfl (fun hB14_7 => ?_)
                 refine sy_callRO [0] call_100 rfl rfl (mk_c t.str hs9 [g87.1] (some ⟨b88, 0, none⟩) 1 r bm A c L lv _ (hT87.le hle88) hL s87 inn g87.2.2 hfw87.2.1 rfl hr88 (fun x h9 => by rw [List.mem_singleton.1 h9]; exact ⟨⟨hl87.1.le hle88, hl87.2⟩, by rw [wtG_tm, hg87]; omega⟩) (by simp) (by simp)) rfl rfl (fun a89 e89 h89x H89x hb89 hx89 hle89x => ?_) (fun x89 s89 g89 h89x H89x hk89 hx89 hle89x => ?_)
                 · subst hx89
                   refine ny_zyPP ?_
                   refine ny_thenP ?_
                   refine ny_thenP ?_
                   exact ny_finP (fun w9 hs => ⟨.bad a89 e89, _, _, rfl, ⟨(by unfold nameR; rw [if_neg hcn, if_neg hqn, if_neg hmn, if_pos hpp, hk87]; simp only; rw [← hg87]; exact congrArg (mapR _) hb89), _, _, _, _, _, rfl⟩, hs.sel (is := [0, 0, 0]) rfl⟩)
                 · obtain ⟨hg89, hl89, rfl⟩ := hx89
                   have hst89 := (mkR_st hk89).symm
                   subst hst89
                   refine sy_nil rfl (ny_zyP hB14_7 hle89x ?_)
                   refine zy_1P 9 (by kernel_rfl) ?_
                   refine zop_runP rfl rfl (fun hB14_9 => ?_)
                   refine sy_stl 3 sz_24 rfl rfl rfl rfl rfl rfl rfl rfl ?_
                   refine sy_nil rfl (ny_zyP hB14_9 (Hp.Le.refl _) ?_)
                   refine zy_qP 10 (fun c a d v w hq => by cases d <;> exact hq) rfl (by kernel_rfl) (fun hB14_10 => ?_)
                   refine sy_assign rfl rfl rfl ?_
                   refine sy_nil1 (ny_zqP hB14_10 ?_)
                   refine zy_doneP (by kernel_rfl) ?_
                   refine ny_next ?_
                   refine cy_ret ?_
                   refine ny_thenR ?_
                   exact ny_finR (resc1 0 rfl agg_24 rfl rfl rfl rfl) (fun w9 hs => ⟨.ok (x89, (refPrefix t.str.data.toList).1) s87 (g89, g87.2.1, g87.2.2), h89x, _, rfl, ⟨(by unfold nameR; rw [if_neg hcn, if_neg hqn, if_neg hmn, if_pos hpp, hk87]; simp only; rw [← hg87]; exact congrArg (mapR _) hk89), hg89, hl89, hm87, rfl⟩, hs.sel (is := [1, 1, 1]) rfl⟩)
             · have hpn : ¬ ((refPrefix t.str.data.toList).2.2 = true ∧ (refPrefix t.str.data.toList).1 ≤ most ∧ beginsR (tokA L st.at_) = true) := fun h9 => by
                rw [h9.2.2] at hc81
                cases hc81
               refine cy_skip ?_
               refine ny_next ?_
               refine cy_seq ?_
               refine cy_region ?_
               refine sy_field fld_79_1 rfl rfl rfl ?_
               refine sy_ldh one_9 rfl (Hp.blk hbt 1 _ rfl) rfl rfl ?_
               refine sy_call rfl call_23 rfl (atom_c t.str _) rfl rfl ?_
               refine sy_stl 1 sz_24 rfl rfl rfl rfl rfl rfl rfl rfl ?_
               refine sy_assign rfl rfl rfl ?_
               refine sy_nil rfl ?_
               refine ny_next ?_
               refine cy_ret ?_
               exact ny_finR (resc1 0 rfl agg_24 rfl rfl rfl rfl) (fun w9 hs => ⟨.ok (funT t.str [], 0) st ((GT.mk 3 0 t.str none 0 []), o, vn), h2, _, rfl, ⟨(by unfold nameR; rw [if_neg hcn, if_neg hqn, if_neg hmn, if_neg hpn]), (leaf_ok h2 hs9).1, (leaf_ok h2 hs9).2, hm, rfl⟩, hs.sel (is := [1, 1, 1]) rfl⟩)
           · refine sy_skip rfl rfl rfl ?_
             refine sy_skip rfl rfl rfl ?_
             refine sy_pickF rfl rfl rfl rfl ?_
             refine sy_nil rfl ?_
             refine ny_next ?_
             refine cy_condF rfl ?_
             have hpn : ¬ ((refPrefix t.str.data.toList).2.2 = true ∧ (refPrefix t.str.data.toList).1 ≤ most ∧ beginsR (tokA L st.at_) = true) := fun h9 => by
              (have h8 := of_decide_eq_false hg78; exact h8 h9.2.1)
             refine cy_skip ?_
             refine ny_next ?_
             refine cy_seq ?_
             refine cy_region ?_
             refine sy_field fld_79_1 rfl rfl rfl ?_
             refine sy_ldh one_9 rfl (Hp.blk hbt 1 _ rfl) rfl rfl ?_
             refine sy_call rfl call_23 rfl (atom_c t.str _) rfl rfl ?_
             refine sy_stl 1 sz_24 rfl rfl rfl rfl rfl rfl rfl rfl ?_
             refine sy_assign rfl rfl rfl ?_
             refine sy_nil rfl ?_
             refine ny_next ?_
             refine cy_ret ?_
             exact ny_finR (resc1 0 rfl agg_24 rfl rfl rfl rfl) (fun w9 hs => ⟨.ok (funT t.str [], 0) st ((GT.mk 3 0 t.str none 0 []), o, vn), h2, _, rfl, ⟨(by unfold nameR; rw [if_neg hcn, if_neg hqn, if_neg hmn, if_neg hpn]), (leaf_ok h2 hs9).1, (leaf_ok h2 hs9).2, hm, rfl⟩, hs.sel (is := [1, 1, 1]) rfl⟩)
         · refine sy_skip rfl rfl rfl ?_
           refine sy_skip rfl rfl rfl ?_
           refine sy_skip rfl rfl rfl ?_
           refine sy_pickF rfl rfl rfl rfl ?_
           refine sy_move rfl rfl rfl ?_
           refine sy_skip rfl rfl rfl ?_
           refine sy_skip rfl rfl rfl ?_
           refine sy_pickF rfl rfl rfl rfl ?_
           refine sy_nil rfl ?_
           refine ny_next ?_
           refine cy_condF rfl ?_
           have hpn : ¬ ((refPrefix t.str.data.toList).2.2 = true ∧ (refPrefix t.str.data.toList).1 ≤ most ∧ beginsR (tokA L st.at_) = true) := fun h9 => by
            (rw [h9.1] at hg73; exact absurd hg73 (by decide))
           refine cy_skip ?_
           refine ny_next ?_
           refine cy_seq ?_
           refine cy_region ?_
           refine sy_field fld_79_1 rfl rfl rfl ?_
           refine sy_ldh one_9 rfl (Hp.blk hbt 1 _ rfl) rfl rfl ?_
           refine sy_call rfl call_23 rfl (atom_c t.str _) rfl rfl ?_
           refine sy_stl 1 sz_24 rfl rfl rfl rfl rfl rfl rfl rfl ?_
           refine sy_assign rfl rfl rfl ?_
           refine sy_nil rfl ?_
           refine ny_next ?_
           refine cy_ret ?_
           exact ny_finR (resc1 0 rfl agg_24 rfl rfl rfl rfl) (fun w9 hs => ⟨.ok (funT t.str [], 0) st ((GT.mk 3 0 t.str none 0 []), o, vn), h2, _, rfl, ⟨(by unfold nameR; rw [if_neg hcn, if_neg hqn, if_neg hmn, if_neg hpn]), (leaf_ok h2 hs9).1, (leaf_ok h2 hs9).2, hm, rfl⟩, hs.sel (is := [1, 1, 1]) rfl⟩)
     · refine sy_skip rfl rfl rfl ?_
       refine sy_skip rfl rfl rfl ?_
       refine sy_pickF rfl rfl rfl rfl ?_
       refine sy_move rfl rfl rfl ?_
       refine sy_skip rfl rfl rfl ?_
       refine sy_skip rfl rfl rfl ?_
       refine sy_skip rfl rfl rfl ?_
       refine sy_pickF rfl rfl rfl rfl ?_
       refine sy_nil rfl ?_
       refine ny_next ?_
       refine cy_condF rfl ?_
       have hmn : ¬ (t.str.data.toList = [45] ∧ (tokA L st.at_).tight = true ∧ (tokA L st.at_).kind = 3) := fun h9 => by
        (rw [h9.1] at hg45; exact absurd hg45 (by decide))
       refine cy_skip ?_
       refine ny_next ?_
       refine cy_seq ?_
       refine cy_seq ?_
       refine cy_region ?_
       refine sy_field fld_79_1 rfl rfl rfl ?_
       refine sy_ldh one_9 rfl (Hp.blk hbt 1 _ rfl) rfl rfl ?_
       refine sy_call rfl call_127 rfl (prefix_c t.str _) rfl rfl ?_
       refine sy_move rfl rfl rfl ?_
       refine sy_extract rfl rfl rfl rfl ?_
       refine sy_extract rfl rfl rfl rfl ?_
       refine sy_extract rfl rfl rfl rfl ?_
       refine sy_assign rfl rfl rfl ?_
       refine sy_assign rfl rfl rfl ?_
       refine sy_assign rfl rfl rfl ?_
       refine sy_nil rfl ?_
       refine ny_next ?_
       refine cy_seq ?_
       refine cy_region ?_
       refine sy_move rfl rfl rfl ?_
       refine sy_move rfl rfl rfl ?_
       refine sy_cond (d := 73) _ rfl rfl (fun hg73 => ?_) (fun hg73 => ?_)
       · refine sy_move rfl rfl rfl ?_
         refine sy_move rfl rfl rfl ?_
         refine sy_cmp rfl rfl rfl rfl rfl ?_
         refine sy_pickT rfl rfl rfl rfl ?_
         refine sy_move rfl rfl rfl ?_
         refine sy_cond (d := 78) _ rfl rfl (fun hg78 => ?_) (fun hg78 => ?_)
         · refine sy_ldah (vs := rtC (tokA L st.at_)) agg_79 rfl rfl (Hp.blk hb8x) rfl rfl ?_
           refine sy_call rfl call_128 rfl (begins_c (tokA L st.at_) _) rfl rfl ?_
           refine sy_pickT rfl rfl rfl rfl ?_
           refine sy_nil rfl ?_
           refine ny_next ?_
           refine cy_cond rfl (fun hc81 => ?_) (fun hc81 => ?_)
           · have hpp : (refPrefix t.str.data.toList).2.2 = true ∧ (refPrefix t.str.data.toList).1 ≤ most ∧ beginsR (tokA L st.at_) = true := ⟨hg73, of_decide_eq_true hg78, hc81⟩
             refine cy_seq ?_
             refine cy_regionAP mixed ?_
             refine zy_qP 0 (fun c a d v w hq => by cases d <;> exact hq) rfl (by kernel_rfl) (fun hB14_0 => ?_)
             refine sy_move rfl rfl rfl ?_
             refine sy_nil1 (ny_zqP hB14_0 ?_)
             refine zy_qP 1 (fun c a d v w hq => by cases d <;> exact hq) rfl (by kernel_rfl) (fun hB14_1 => ?_)
             refine sy_field fld_79_1 rfl rfl rfl ?_
             refine sy_nil1 (ny_zqP hB14_1 ?_)
             refine zy_qP 2 (fun c a d v w hq => by cases d <;> exact hq) rfl (by kernel_rfl) (fun hB14_2 => ?_)
             refine sy_ldh one_9 rfl (Hp.blk hbt 1 _ rfl) rfl rfl ?_
             refine sy_nil1 (ny_zqP hB14_2 ?_)
             refine zy_qP 3 (fun c a d v w hq => by cases d <;> exact hq) rfl (by kernel_rfl) (fun hB14_3 => ?_)
             refine sy_move rfl rfl rfl ?_
             refine sy_nil1 (ny_zqP hB14_3 ?_)
             refine zy_qP 4 (fun c a d v w hq => by cases d <;> exact hq) rfl (by kernel_rfl) (fun hB14_4 => ?_)
             refine sy_move rfl rfl rfl ?_
             refine sy_nil1 (ny_zqP hB14_4 ?_)
             refine zy_qP 8 (fun c a d v w hq => by cases d <;> exact hq) rfl (by kernel_rfl) (fun hB14_8 => ?_)
             refine sy_move rfl rfl rfl ?_
             refine sy_nil1 (ny_zqP hB14_8 ?_)
             refine zy_1P 5 (by kernel_rfl) ?_
             refine zop_runP rfl rfl (fun hB14_5 => ?_)
             refine sy_callRO [0, 1, 1] call_55 rfl rfl (htm h2 st o vn _ hT hat hnm hm) rfl rfl (fun a87 e87 h87x H87x hb87 hx87 hle87x => ?_) (fun x87 s87 g87 h87x H87x hk87 hx87 hle87x => ?_)
             · obtain ⟨a9, i9, o9, v9, n9, rfl⟩ := hx87
               refine ny_zyPP ?_
               refine ny_thenP ?_
               refine ny_thenP ?_
               exact ny_finP (fun w9 hs => ⟨.bad a87 e87, _, _, rfl, ⟨(by unfold nameR; rw [if_neg hcn, if_neg hqn, if_neg hmn, if_pos hpp, hb87]), _, _, _, _, _, rfl⟩, hs.sel (is := [0, 0, 0]) rfl⟩)
             · obtain ⟨hg87, hl87, hm87, rfl⟩ := hx87
               replace hg87 : g87.1.tm = x87.1 := hg87
               have hfw87 := hf _ st x87 s87 hat hk87
               have hww87 := hwg _ st x87 s87 hat hk87
               have hpw87 := hPW s87.at_
               have hT87 := hT.le hle87x
               refine sy_nil rfl (ny_zyP hB14_5 hle87x ?_)
               refine zy_1P 6 (by kernel_rfl) ?_
               refine zop_runP rfl rfl (fun hB14_6 => ?_)
               refine sy_buildSlice (cs := [g87.1].flatMap GT.cells) rfl (fun w => bsl_22_1_0 w) rfl rfl (fun b88 hb88 hM88 => ?_) (by first | exact hb0 | simp)
               refine sy_frz 0 rfl hM88 (fun h88 hle88 hb88x => ?_)
               have hr88 : RowsAt h88 (some ⟨b88, 0, none⟩) 4 ([g87.1].map GT.cells) := rows_blk (by decide) (GT.cells_len _) hb88x
               refine sy_nil rfl (ny_zyP hB14_6 hle88 ?_)
               refine zy_1P 7 (by kernel_rfl) ?_
               refine zop_runP rfl rfl (fun hB14_7 => ?_)
               refine sy_callRO [0] call_100 rfl rfl (mk_c t.str hs9 [g87.1] (some ⟨b88, 0, none⟩) 1 r bm A c L lv _ (hT87.le hle88) hL s87 inn g87.2.2 hfw87.2.1 rfl hr88 (fun x h9 => by rw [List.mem_singleton.1 h9]; exact ⟨⟨hl87.1.le hle88, hl87.2⟩, by rw [wtG_tm, hg87]; omega⟩) (by simp) (by simp)) rfl rfl (fun a89 e89 h89x H89x hb89 hx89 hle89x => ?_) (fun x89 s89 g89 h89x H89x hk89 hx89 hle89x => ?_)
               · subst hx89
                 refine ny_zyPP ?_
                 refine ny_thenP ?_
                 refine ny_thenP ?_
                 exact ny_finP (fun w9 hs => ⟨.bad a89 e89, _, _, rfl, ⟨(by unfold nameR; rw [if_neg hcn, if_neg hqn, if_neg hmn, if_pos hpp, hk87]; simp only; rw [← hg87]; exact congrArg (mapR _) hb89), _, _, _, _, _, rfl⟩, hs.sel (is := [0, 0, 0]) rfl⟩)
               · obtain ⟨hg89, hl89, rfl⟩ := hx89
                 have hst89 := (mkR_st hk89).symm
                 subst hst89
                 refine sy_nil rfl (ny_zyP hB14_7 hle89x ?_)
                 refine zy_1P 9 (by kernel_rfl) ?_
                 refine zop_runP rfl rfl (fun hB14_9 => ?_)
                 refine sy_stl 3 sz_24 rfl rfl rfl rfl rfl rfl rfl rfl ?_
                 refine sy_nil rfl (ny_zyP hB14_9 (Hp.Le.refl _) ?_)
                 refine zy_qP 10 (fun c a d v w hq => by cases d <;> exact hq) rfl (by kernel_rfl) (fun hB14_10 => ?_)
                 refine sy_assign rfl rfl rfl ?_
                 refine sy_nil1 (ny_zqP hB14_10 ?_)
                 refine zy_doneP (by kernel_rfl) ?_
                 refine ny_next ?_
                 refine cy_ret ?_
                 refine ny_thenR ?_
                 exact ny_finR (resc1 0 rfl agg_24 rfl rfl rfl rfl) (fun w9 hs => ⟨.ok (x89, (refPrefix t.str.data.toList).1) s87 (g89, g87.2.1, g87.2.2), h89x, _, rfl, ⟨(by unfold nameR; rw [if_neg hcn, if_neg hqn, if_neg hmn, if_pos hpp, hk87]; simp only; rw [← hg87]; exact congrArg (mapR _) hk89), hg89, hl89, hm87, rfl⟩, hs.sel (is := [1, 1, 1]) rfl⟩)
           · have hpn : ¬ ((refPrefix t.str.data.toList).2.2 = true ∧ (refPrefix t.str.data.toList).1 ≤ most ∧ beginsR (tokA L st.at_) = true) := fun h9 => by
              rw [h9.2.2] at hc81
              cases hc81
             refine cy_skip ?_
             refine ny_next ?_
             refine cy_seq ?_
             refine cy_region ?_
             refine sy_field fld_79_1 rfl rfl rfl ?_
             refine sy_ldh one_9 rfl (Hp.blk hbt 1 _ rfl) rfl rfl ?_
             refine sy_call rfl call_23 rfl (atom_c t.str _) rfl rfl ?_
             refine sy_stl 1 sz_24 rfl rfl rfl rfl rfl rfl rfl rfl ?_
             refine sy_assign rfl rfl rfl ?_
             refine sy_nil rfl ?_
             refine ny_next ?_
             refine cy_ret ?_
             exact ny_finR (resc1 0 rfl agg_24 rfl rfl rfl rfl) (fun w9 hs => ⟨.ok (funT t.str [], 0) st ((GT.mk 3 0 t.str none 0 []), o, vn), h2, _, rfl, ⟨(by unfold nameR; rw [if_neg hcn, if_neg hqn, if_neg hmn, if_neg hpn]), (leaf_ok h2 hs9).1, (leaf_ok h2 hs9).2, hm, rfl⟩, hs.sel (is := [1, 1, 1]) rfl⟩)
         · refine sy_skip rfl rfl rfl ?_
           refine sy_skip rfl rfl rfl ?_
           refine sy_pickF rfl rfl rfl rfl ?_
           refine sy_nil rfl ?_
           refine ny_next ?_
           refine cy_condF rfl ?_
           have hpn : ¬ ((refPrefix t.str.data.toList).2.2 = true ∧ (refPrefix t.str.data.toList).1 ≤ most ∧ beginsR (tokA L st.at_) = true) := fun h9 => by
            (have h8 := of_decide_eq_false hg78; exact h8 h9.2.1)
           refine cy_skip ?_
           refine ny_next ?_
           refine cy_seq ?_
           refine cy_region ?_
           refine sy_field fld_79_1 rfl rfl rfl ?_
           refine sy_ldh one_9 rfl (Hp.blk hbt 1 _ rfl) rfl rfl ?_
           refine sy_call rfl call_23 rfl (atom_c t.str _) rfl rfl ?_
           refine sy_stl 1 sz_24 rfl rfl rfl rfl rfl rfl rfl rfl ?_
           refine sy_assign rfl rfl rfl ?_
           refine sy_nil rfl ?_
           refine ny_next ?_
           refine cy_ret ?_
           exact ny_finR (resc1 0 rfl agg_24 rfl rfl rfl rfl) (fun w9 hs => ⟨.ok (funT t.str [], 0) st ((GT.mk 3 0 t.str none 0 []), o, vn), h2, _, rfl, ⟨(by unfold nameR; rw [if_neg hcn, if_neg hqn, if_neg hmn, if_neg hpn]), (leaf_ok h2 hs9).1, (leaf_ok h2 hs9).2, hm, rfl⟩, hs.sel (is := [1, 1, 1]) rfl⟩)
       · refine sy_skip rfl rfl rfl ?_
         refine sy_skip rfl rfl rfl ?_
         refine sy_skip rfl rfl rfl ?_
         refine sy_pickF rfl rfl rfl rfl ?_
         refine sy_move rfl rfl rfl ?_
         refine sy_skip rfl rfl rfl ?_
         refine sy_skip rfl rfl rfl ?_
         refine sy_pickF rfl rfl rfl rfl ?_
         refine sy_nil rfl ?_
         refine ny_next ?_
         refine cy_condF rfl ?_
         have hpn : ¬ ((refPrefix t.str.data.toList).2.2 = true ∧ (refPrefix t.str.data.toList).1 ≤ most ∧ beginsR (tokA L st.at_) = true) := fun h9 => by
          (rw [h9.1] at hg73; exact absurd hg73 (by decide))
         refine cy_skip ?_
         refine ny_next ?_
         refine cy_seq ?_
         refine cy_region ?_
         refine sy_field fld_79_1 rfl rfl rfl ?_
         refine sy_ldh one_9 rfl (Hp.blk hbt 1 _ rfl) rfl rfl ?_
         refine sy_call rfl call_23 rfl (atom_c t.str _) rfl rfl ?_
         refine sy_stl 1 sz_24 rfl rfl rfl rfl rfl rfl rfl rfl ?_
         refine sy_assign rfl rfl rfl ?_
         refine sy_nil rfl ?_
         refine ny_next ?_
         refine cy_ret ?_
         exact ny_finR (resc1 0 rfl agg_24 rfl rfl rfl rfl) (fun w9 hs => ⟨.ok (funT t.str [], 0) st ((GT.mk 3 0 t.str none 0 []), o, vn), h2, _, rfl, ⟨(by unfold nameR; rw [if_neg hcn, if_neg hqn, if_neg hmn, if_neg hpn]), (leaf_ok h2 hs9).1, (leaf_ok h2 hs9).2, hm, rfl⟩, hs.sel (is := [1, 1, 1]) rfl⟩)
end Go.Proofs.YtanhhihechakhaaGreatDoor
set_option linter.unusedVariables false
set_option linter.unusedSimpArgs false
namespace Go.Proofs.YtanhhihechakhaaGreatDoor
open Go.RowKit Go.Proofs.YtanhhihechakhaaGreatDoor.E Go.Proofs.YtanhhihechakhaaGreatDoor.ReplP Go.Proofs.YtanhhihechakhaaGreatDoor.TokP Go.Proofs.YtanhhihechakhaaGreatDoor.TermP Go.Proofs.YtanhhihechakhaaGreatDoor.WrP Go.Proofs.YtanhhihechakhaaGreatDoor.ReadP Go.Proofs.YtanhhihechakhaaGreatDoor.OpsP
theorem want_ok {α β : Type} {L : List RT} {c : List UInt8} {u v : α} {x : β} {st s : RSt} (h : wantR L c u st = .ok v s) : wantR L c x st = .ok x (adv st) := by
 unfold wantR at h ⊢
 split at h
 · rename_i h8; rw [if_pos h8]
 · cases h
theorem want_bad {α β : Type} {L : List RT} {c : List UInt8} {u : α} {x : β} {st : RSt} {a : Nat} {e : Int} (h : wantR L c u st = .bad a e) : wantR L c x st = .bad a e := by
 unfold wantR at h ⊢
 split at h
 · cases h
 · rename_i h8; rw [if_neg h8]; cases h; rfl
theorem varR_at (s : ByteArray) (st : RSt) : (varR s st).2.at_ = st.at_ := by
 unfold varR
 split
 · split <;> rfl
 · rfl
theorem varR_gt (s : ByteArray) (st : RSt) : (GT.mk 1 (varR s st).1.n ⟨#[]⟩ none 0 []).tm = (varR s st).1 := by
 rw [tm_leaf]
 unfold varR
 split
 · split <;> rfl
 · rfl
theorem varR_fits (s : ByteArray) (st : RSt) (h : st.names.length ≤ st.at_) (h2 : st.at_ ≤ 1048576) : Fits (GT.mk 1 (varR s st).1.n ⟨#[]⟩ none 0 []) := by
 have h3 : 0 ≤ (varR s st).1.n ∧ (varR s st).1.n ≤ 1048576 := by
  unfold varR
  split
  · rename_i i hi
    have := lastI_lt hi
    split
    · show 0 ≤ (st.names.length : Int) ∧ (st.names.length : Int) ≤ 1048576; omega
    · show 0 ≤ (i : Int) ∧ (i : Int) ≤ 1048576; omega
  · show 0 ≤ (st.names.length : Int) ∧ (st.names.length : Int) ≤ 1048576; omega
 exact fits_leaf (by decide) (by decide) (by omega) (by omega) (by decide)
set_option maxRecDepth 100000 in
theorem first1_c (r bm b2 : Nat) (A : Option Addr) (c : Nat) (L : List RT) (lv : Int) (h : Hp) (hb2 : h b2 = some (.cells ([.pointer (some ⟨r, 0, none⟩)] : List Value).toArray 85 (0, 0))) (u : FrameMode) (at_ : Nat) (inn : Int) (vn : Value) (hi0 : 0 ≤ inn) (hi1 : inn ≤ 1000000) : CRD Tryz.prog 111 [.pointer (some ⟨b2, 0, none⟩)] u u h [.blk r (.cells [.slice A L.length c, .int .i64 ((at_ : Nat) : Int), .int .i64 lv, .int .i64 (inn + 1), .map (some bm), vn].toArray 88 (0, 0))] (fun (_ : Unit) h' H' => h = h' ∧ H' = [.blk r (.cells [.slice A L.length c, .int .i64 ((at_ : Nat) : Int), .int .i64 lv, .int .i64 inn, .map (some bm), vn].toArray 88 (0, 0))]) := by
 refine enterCRD Tryz.func111 rfl rfl rfl (fun w hb0 => ?_)
 refine cy_region ?_
 refine sy_ldh one_85 rfl (Hp.blk hb2 0 _ rfl) rfl rfl ?_
 refine sy_nilCheck rfl rfl rfl ?_
 refine sy_field fld_88_3 rfl rfl rfl ?_
 first | refine sy_ldr 0 one_3 rfl rfl rfl rfl rfl ?_
 refine sy_subi (z := inn + 1 - 1) rfl rfl rfl (by omega) (by omega) rfl rfl ?_
 refine sy_nilCheck rfl rfl rfl ?_
 refine sy_field fld_88_3 rfl rfl rfl ?_
 first | refine sy_stl 0 sz_3 rfl rfl rfl rfl rfl rfl rfl rfl ?_
 refine sy_nil rfl ?_
 exact ny_fin (res0 rfl) (fun w hs => ⟨(), h, _, ⟨_, rfl⟩, ⟨rfl, (by rw [Int.add_sub_cancel])⟩, hs.sel (is := [0]) rfl⟩)
set_option maxRecDepth 100000 in
theorem first1b_c (r bm b2 : Nat) (A : Option Addr) (c : Nat) (L : List RT) (lv : Int) (h : Hp) (hb2 : h b2 = some (.cells ([.pointer (some ⟨r, 0, none⟩)] : List Value).toArray 85 (0, 0))) (u : FrameMode) (at_ : Nat) (inn : Int) (vn : Value) : CRD Tryz.prog 111 [.pointer (some ⟨b2, 0, none⟩)] u u h [.blk r (.cells [.slice A L.length c, .int .i64 ((at_ : Nat) : Int), .int .i64 lv, .int .i64 inn, .map (some bm), vn].toArray 88 (0, 0))] (fun (_ : Unit) h' H' => h = h' ∧ H' = [.blk r (.cells [.slice A L.length c, .int .i64 ((at_ : Nat) : Int), .int .i64 lv, .int .i64 (IntKind.i64.wrap (inn - 1)), .map (some bm), vn].toArray 88 (0, 0))]) := by
 refine enterCRD Tryz.func111 rfl rfl rfl (fun w hb0 => ?_)
 refine cy_region ?_
 refine sy_ldh one_85 rfl (Hp.blk hb2 0 _ rfl) rfl rfl ?_
 refine sy_nilCheck rfl rfl rfl ?_
 refine sy_field fld_88_3 rfl rfl rfl ?_
 first | refine sy_ldr 0 one_3 rfl rfl rfl rfl rfl ?_
 refine sy_sub rfl rfl rfl rfl ?_
 refine sy_nilCheck rfl rfl rfl ?_
 refine sy_field fld_88_3 rfl rfl rfl ?_
 first | refine sy_stl 0 sz_3 rfl rfl rfl rfl rfl rfl rfl rfl ?_
 refine sy_nil rfl ?_
 exact ny_fin (res0 rfl) (fun w hs => ⟨(), h, _, ⟨_, rfl⟩, ⟨rfl, rfl⟩, hs.sel (is := [0]) rfl⟩)
set_option maxRecDepth 100000 in
theorem first_c (r bm : Nat) (A : Option Addr) (c : Nat) (L : List RT) (lv : Int) (h : Hp) (st : RSt) (inn : Int) (o : Obj) (vn : Value) (most : Int) (hqN : ∀ x ∈ L, TokOk x) (tm : Rd) (hf : Fwd L tm) (hwg : Wgt L tm) (hPW : ∀ i, preW L i ≤ 549755813888) (hi0 : 0 ≤ inn) (hi1 : inn ≤ 1000000) (htm : TmC r bm A c L lv (inn + 1) tm) (hT : RowsAt h A 5 (L.map rtC)) (hL : L.length ≤ 1048576) (hat : st.at_ ≤ L.length) (hnm : st.names.length ≤ st.at_) (hm : MapV Tryz.prog 9 3 o st.names.length (lastI st.names)) : RdC r bm A c L lv 97 [.int .i64 most] h st inn o vn (if inn + 1 > 60 then .bad st.at_ 7 else firstR L lv tm most st) (·.1) (fun x g => .tuple #[.agg (GT.cells g).toArray, .int .i64 x.2]) := by
 refine enterRD Tryz.func97 rfl rfl rfl (fun w hb0 => ?_)
 refine cy_seq ?_
 refine cy_region ?_
 refine sy_box rfl rfl rfl rfl (fun b2 hg2 hM2 => ?_) (by first | exact hb0 | simp)
 refine sy_frz 0 rfl hM2 (fun h2 hle2 hb2 => ?_)
 replace hT := hT.le hle2
 refine sy_alloc zer_24 rfl rfl (fun b4 hb4 hM4 => ?_) (by first | exact hb0 | simp)
 refine sy_assign rfl rfl rfl ?_
 refine sy_nil rfl ?_
 refine ny_next ?_
 refine cy_seq ?_
 refine cy_region ?_
 refine sy_ldh one_85 rfl (Hp.blk hb2 0 _ rfl) rfl rfl ?_
 refine sy_callRO [1] call_96 rfl rfl (deeper_c r bm A c L lv _ hT hL st inn vn hat hi0 hi1) rfl rfl (fun a9 e9 h9x H9x hb9 hx9 hle9x => ?_) (fun x9 s9 g9 h9x H9x hk9 hx9 hle9x => ?_)
 · obtain ⟨rfl, rfl⟩ := hx9
   refine ny_thenP ?_
   refine ny_finUP (lvU_pan (fun w9 hs => ⟨.bad a9 e9, _, _, rfl, ⟨(by have h9 := hb9; split at h9 <;> first | (cases h9; done) | (cases h9; rename_i h8; rw [if_pos h8])), _, _, _, _, _, rfl⟩, hs.sel (is := [0, 1, 1]) rfl⟩))
 · obtain ⟨rfl, rfl⟩ := hx9
   have hro : (if inn + 1 > 60 then .bad st.at_ 7 else firstR L lv tm most st) = firstR L lv tm most st := if_neg (fun h9 => by rw [if_pos h9] at hk9; cases hk9)
   refine sy_nil rfl ?_
   refine ny_next ?_
   refine cy_seq ?_
   refine cy_region ?_
   refine sy_makeFunc rfl rfl rfl ?_
   refine sy_deferC (caps := [.pointer (some ⟨b2, 0, none⟩)]) rfl rfl rfl ?_
   refine sy_nil rfl ?_
   refine ny_next ?_
   refine cy_seq ?_
   refine cy_region ?_
   refine sy_ldh one_85 rfl (Hp.blk hb2 0 _ rfl) rfl rfl ?_
   refine sy_callR1 [0] call_56 rfl rfl (peek_c r bm A c L lv _ hT hL st _ vn hat) rfl rfl (fun x12 h12x H12x hx12 hle12x => ?_)
   obtain ⟨rfl, rfl⟩ := hx12
   refine sy_alloc zer_79 rfl rfl (fun b6 hb6 hM6 => ?_) (by first | exact hb0 | simp)
   refine sy_stl 0 sz_79 rfl rfl rfl rfl rfl rfl rfl rfl ?_
   refine sy_nil rfl ?_
   refine ny_next ?_
   refine cy_seq ?_
   refine cy_block ?_
   refine cy_seq ?_
   refine cy_frz 0 rfl hM6 (fun h1 hle1 hbt => ?_)
   replace hT := hT.le hle1
   replace hb2 := hle1 _ _ hb2
   refine cy_region ?_
   refine sy_field fld_79_0 rfl rfl rfl ?_
   refine sy_ldh one_3 rfl (Hp.blk hbt 0 _ rfl) rfl rfl ?_
   refine sy_cmp rfl rfl rfl rfl rfl ?_
   refine sy_move rfl rfl rfl ?_
   refine sy_cond (d := 17) _ rfl rfl (fun hg17 => ?_) (fun hg17 => ?_)
   · refine sy_field fld_79_2 rfl rfl rfl ?_
     refine sy_ldh one_2 rfl (Hp.blk hbt 2 _ rfl) rfl rfl ?_
     refine sy_cmp rfl rfl rfl rfl rfl ?_
     refine sy_pickT rfl rfl rfl rfl ?_
     refine sy_assign rfl rfl rfl ?_
     refine sy_nil rfl ?_
     refine ny_next ?_
     refine cy_cond rfl (fun hc13 => ?_) (fun hc13 => ?_)
     · have hn13 : (tokA L st.at_).kind = 3 ∧ (tokA L st.at_).num < 0 := ⟨eq_of_beq hg17, of_decide_eq_true hc13⟩
       refine cy_region ?_
       refine sy_ldh one_85 rfl (Hp.blk hb2 0 _ rfl) rfl rfl ?_
       refine sy_callR [0] call_57 rfl rfl (rbad_c r bm A c L lv _ hT hL st (inn + 1) _ hat 2) rfl rfl (fun x23 h23x H23x hx23 hle23x => ?_)
       obtain ⟨rfl, rfl⟩ := hx23
       refine ny_blockP ?_
       refine ny_thenP ?_
       refine ny_finUP (lvU_cons [0] call_111 rfl (by intro h9; cases h9) (first1_c r bm b2 A c L lv _ hb2 _ _ inn _ hi0 hi1) (fun _ h9y H9y hx9y hle9y => ?_))
       obtain ⟨rfl, rfl⟩ := hx9y
       exact lvU_pan (fun w9 hs => ⟨.bad st.at_ (2), _, _, rfl, ⟨(hro.trans (by unfold firstR; rw [if_pos hn13])), _, _, _, _, _, rfl⟩, hs.sel (is := [0, 1, 1]) rfl⟩)
     · have hn13 : ¬ ((tokA L st.at_).kind = 3 ∧ (tokA L st.at_).num < 0) := fun h9 => absurd h9.2 (of_decide_eq_false hc13)
       refine cy_seq ?_
       refine cy_region ?_
       refine sy_field fld_79_0 rfl rfl rfl ?_
       refine sy_ldh one_3 rfl (Hp.blk hbt 0 _ rfl) rfl rfl ?_
       refine sy_cmp rfl rfl rfl rfl rfl ?_
       refine sy_assign rfl rfl rfl ?_
       refine sy_nil rfl ?_
       refine ny_next ?_
       refine cy_cond rfl (fun hc24 => ?_) (fun hc24 => ?_)
       · have hn24 : (tokA L st.at_).kind = 3 := by simpa using hc24
         have hlt := tok_lt (L := L) (i := st.at_) (by rw [hn24]; decide)
         refine cy_seq ?_
         refine cy_region ?_
         refine sy_ldh one_85 rfl (Hp.blk hb2 0 _ rfl) rfl rfl ?_
         refine sy_nilCheck rfl rfl rfl ?_
         refine sy_field fld_88_1 rfl rfl rfl ?_
         refine sy_ldr 0 one_3 rfl rfl rfl rfl rfl ?_
         refine sy_addi (z := ((st.at_ + 1 : Nat) : Int)) rfl rfl (by omega) (by omega) (by omega) rfl rfl ?_
         refine sy_nilCheck rfl rfl rfl ?_
         refine sy_field fld_88_1 rfl rfl rfl ?_
         refine sy_stl 0 sz_3 rfl rfl rfl rfl rfl rfl rfl rfl ?_
         refine sy_nil rfl ?_
         refine ny_next ?_
         refine cy_seq ?_
         refine cy_region ?_
         refine sy_field fld_79_2 rfl rfl rfl ?_
         refine sy_ldh one_2 rfl (Hp.blk hbt 2 _ rfl) rfl rfl ?_
         refine sy_call rfl call_24 rfl (num_c _ _) rfl rfl ?_
         refine sy_stl 1 sz_24 rfl rfl rfl rfl rfl rfl rfl rfl ?_
         refine sy_assign rfl rfl rfl ?_
         refine sy_nil rfl ?_
         refine ny_next ?_
         refine cy_ret ?_
         refine ny_blockR ?_
         refine ny_thenR ?_
         refine ny_finUR (lvU_cons [1] call_111 rfl (by intro h9; cases h9) (first1_c r bm b2 A c L lv _ hb2 _ _ inn _ hi0 hi1) (fun _ h9y H9y hx9y hle9y => ?_))
         obtain ⟨rfl, rfl⟩ := hx9y
         exact lvU_ret (resc1 1 rfl agg_24 rfl rfl rfl rfl) (fun w9 hs => ⟨.ok (numT (tokA L st.at_).num, 0) (adv st) ((GT.mk 2 (tokA L st.at_).num ⟨#[]⟩ none 0 [], o, vn)), _, _, rfl, ⟨hro.trans (by unfold firstR; rw [if_neg hn13, if_pos hn24]; try rfl), (by rw [tm_leaf]; rfl), ⟨lies_leaf _ _ _ _, fits_leaf (by decide) (by decide) (tokA_ok hqN st.at_).2.2.1 (tokA_ok hqN st.at_).2.2.2 (by decide)⟩, hm, rfl⟩, hs.sel (is := [0, 1, 1]) rfl⟩)
       · have hn24 : ¬ ((tokA L st.at_).kind = 3) := by simpa using hc24
         refine cy_seq ?_
         refine cy_region ?_
         refine sy_field fld_79_0 rfl rfl rfl ?_
         refine sy_ldh one_3 rfl (Hp.blk hbt 0 _ rfl) rfl rfl ?_
         refine sy_cmp rfl rfl rfl rfl rfl ?_
         refine sy_assign rfl rfl rfl ?_
         refine sy_nil rfl ?_
         refine ny_next ?_
         refine cy_cond rfl (fun hc38 => ?_) (fun hc38 => ?_)
         · have hn38 : (tokA L st.at_).kind = 2 := by simpa using hc38
           have hlt := tok_lt (L := L) (i := st.at_) (by rw [hn38]; decide)
           refine cy_seq ?_
           refine cy_region ?_
           refine sy_ldh one_85 rfl (Hp.blk hb2 0 _ rfl) rfl rfl ?_
           refine sy_nilCheck rfl rfl rfl ?_
           refine sy_field fld_88_1 rfl rfl rfl ?_
           refine sy_ldr 0 one_3 rfl rfl rfl rfl rfl ?_
           refine sy_addi (z := ((st.at_ + 1 : Nat) : Int)) rfl rfl (by omega) (by omega) (by omega) rfl rfl ?_
           refine sy_nilCheck rfl rfl rfl ?_
           refine sy_field fld_88_1 rfl rfl rfl ?_
           refine sy_stl 0 sz_3 rfl rfl rfl rfl rfl rfl rfl rfl ?_
           refine sy_nil rfl ?_
           refine ny_next ?_
           refine cy_seq ?_
           refine cy_region ?_
           refine sy_ldh one_85 rfl (Hp.blk hb2 0 _ rfl) rfl rfl ?_
           refine sy_field fld_79_1 rfl rfl rfl ?_
           refine sy_ldh one_9 rfl (Hp.blk hbt 1 _ rfl) rfl rfl ?_
           refine sy_callR1 [0, 1, 1] call_112 rfl rfl (var_c (tokA L st.at_).str (tokA_ok hqN st.at_).2.1 r bm A c L lv _ hT hL (adv st) (inn + 1) vn (by show st.at_ + 1 ≤ _; omega) o (by show st.names.length ≤ st.at_ + 1; omega) hm) rfl rfl (fun x52 h52x H52x hx52 hle52x => ?_)
           obtain ⟨rfl, rfl, hm52⟩ := hx52
           refine sy_stl 3 sz_24 rfl rfl rfl rfl rfl rfl rfl rfl ?_
           refine sy_assign rfl rfl rfl ?_
           refine sy_nil rfl ?_
           refine ny_next ?_
           refine cy_ret ?_
           refine ny_blockR ?_
           refine ny_thenR ?_
           refine ny_finUR (lvU_cons [1] call_111 rfl (by intro h9; cases h9) (first1_c r bm b2 A c L lv _ hb2 _ _ inn _ hi0 hi1) (fun _ h9y H9y hx9y hle9y => ?_))
           obtain ⟨rfl, rfl⟩ := hx9y
           exact lvU_ret (resc1 1 rfl agg_24 rfl rfl rfl rfl) (fun w9 hs => ⟨.ok ((varR (tokA L st.at_).str (adv st)).1, 0) (varR (tokA L st.at_).str (adv st)).2 ((GT.mk 1 (varR (tokA L st.at_).str (adv st)).1.n ⟨#[]⟩ none 0 [], x52.1, x52.2)), _, _, rfl, ⟨hro.trans (by unfold firstR; rw [if_neg hn13, if_neg hn24, if_pos hn38]; try rfl), (varR_gt _ _), ⟨lies_leaf _ _ _ _, (varR_fits _ (adv st) (by show st.names.length ≤ st.at_ + 1; omega) (by show st.at_ + 1 ≤ 1048576; omega))⟩, hm52, (by rw [varR_at])⟩, hs.sel (is := [0, 1, 1]) rfl⟩)
         · have hn38 : ¬ ((tokA L st.at_).kind = 2) := by simpa using hc38
           refine cy_seq ?_
           refine cy_region ?_
           refine sy_field fld_79_0 rfl rfl rfl ?_
           refine sy_ldh one_3 rfl (Hp.blk hbt 0 _ rfl) rfl rfl ?_
           refine sy_cmp rfl rfl rfl rfl rfl ?_
           refine sy_assign rfl rfl rfl ?_
           refine sy_nil rfl ?_
           refine ny_next ?_
           refine cy_cond rfl (fun hc53 => ?_) (fun hc53 => ?_)
           · have hn53 : (tokA L st.at_).kind = 1 := by simpa using hc53
             have hlt := tok_lt (L := L) (i := st.at_) (by rw [hn53]; decide)
             refine cy_seq ?_
             refine cy_region ?_
             refine sy_ldh one_85 rfl (Hp.blk hb2 0 _ rfl) rfl rfl ?_
             refine sy_nilCheck rfl rfl rfl ?_
             refine sy_field fld_88_1 rfl rfl rfl ?_
             refine sy_ldr 0 one_3 rfl rfl rfl rfl rfl ?_
             refine sy_addi (z := ((st.at_ + 1 : Nat) : Int)) rfl rfl (by omega) (by omega) (by omega) rfl rfl ?_
             refine sy_nilCheck rfl rfl rfl ?_
             refine sy_field fld_88_1 rfl rfl rfl ?_
             refine sy_stl 0 sz_3 rfl rfl rfl rfl rfl rfl rfl rfl ?_
             refine sy_nil rfl ?_
             refine ny_next ?_
             refine cy_seq ?_
             refine cy_region ?_
             refine sy_ldh one_85 rfl (Hp.blk hb2 0 _ rfl) rfl rfl ?_
             refine sy_ldah (vs := rtC (tokA L st.at_)) agg_79 rfl rfl (Hp.blk hbt) rfl rfl ?_
             refine sy_move rfl rfl rfl ?_
             refine sy_callRO [0, 1, 1] call_113 rfl rfl (rname_c r bm A c L lv _ (adv st) (inn + 1) o vn (tokA L st.at_) most (tokA_ok hqN st.at_).2.1 hqN tm hf hwg hPW htm hT hL (by show st.at_ + 1 ≤ _; omega) (by show st.names.length ≤ st.at_ + 1; omega) hm) rfl rfl (fun a67 e67 h67x H67x hb67 hx67 hle67x => ?_) (fun x67 s67 g67 h67x H67x hk67 hx67 hle67x => ?_)
             · obtain ⟨a9, i9, o9, v9, n9, rfl⟩ := hx67
               replace hb2 := hle67x _ _ hb2
               refine ny_thenP ?_
               refine ny_blockP ?_
               refine ny_thenP ?_
               refine ny_finUP (lvU_cons [0] call_111 rfl (by intro h9; cases h9) (first1b_c r bm b2 A c L lv _ hb2 _ _ _ _) (fun _ h9y H9y hx9y hle9y => ?_))
               obtain ⟨rfl, rfl⟩ := hx9y
               exact lvU_pan (fun w9 hs => ⟨.bad a67 (e67), _, _, rfl, ⟨(hro.trans (by unfold firstR; rw [if_neg hn13, if_neg hn24, if_neg hn38, if_pos hn53]; exact hb67)), _, _, _, _, _, rfl⟩, hs.sel (is := [0, 0, 0]) rfl⟩)
             · obtain ⟨hg67, hl67, hm67, rfl⟩ := hx67
               replace hb2 := hle67x _ _ hb2
               refine sy_extract rfl rfl rfl rfl ?_
               refine sy_extract rfl rfl rfl rfl ?_
               refine sy_stl 3 sz_24 rfl rfl rfl rfl rfl rfl rfl rfl ?_
               refine sy_assign rfl rfl rfl ?_
               refine sy_nil rfl ?_
               refine ny_next ?_
               refine cy_ret ?_
               refine ny_blockR ?_
               refine ny_thenR ?_
               refine ny_finUR (lvU_cons [1] call_111 rfl (by intro h9; cases h9) (first1_c r bm b2 A c L lv _ hb2 _ _ inn _ hi0 hi1) (fun _ h9y H9y hx9y hle9y => ?_))
               obtain ⟨rfl, rfl⟩ := hx9y
               exact lvU_ret (resc1 1 rfl agg_24 rfl rfl rfl rfl) (fun w9 hs => ⟨.ok x67 s67 (g67), _, _, rfl, ⟨hro.trans (by unfold firstR; rw [if_neg hn13, if_neg hn24, if_neg hn38, if_pos hn53]; try exact hk67), hg67, hl67, hm67, rfl⟩, hs.sel (is := [0, 1, 1]) rfl⟩)
           · have hn53 : ¬ ((tokA L st.at_).kind = 1) := by simpa using hc53
             refine cy_seq ?_
             refine cy_region ?_
             refine sy_ldh one_85 rfl (Hp.blk hb2 0 _ rfl) rfl rfl ?_
             refine sy_callR1 [0] call_98 rfl rfl (is_c ⟨#[40]⟩ r bm A c L lv _ hT hL st (inn + 1) vn hat) rfl rfl (fun x72 h72x H72x hx72 hle72x => ?_)
             obtain ⟨rfl, rfl⟩ := hx72
             refine sy_assign rfl rfl rfl ?_
             refine sy_nil rfl ?_
             refine ny_next ?_
             refine cy_cond rfl (fun hc70 => ?_) (fun hc70 => ?_)
             · have hn70 : isP L st.at_ [40] = true := hc70
               have hlt := isP_lt hn70
               refine cy_seq ?_
               refine cy_region ?_
               refine sy_ldh one_85 rfl (Hp.blk hb2 0 _ rfl) rfl rfl ?_
               refine sy_nilCheck rfl rfl rfl ?_
               refine sy_field fld_88_1 rfl rfl rfl ?_
               refine sy_ldr 0 one_3 rfl rfl rfl rfl rfl ?_
               refine sy_addi (z := ((st.at_ + 1 : Nat) : Int)) rfl rfl (by omega) (by omega) (by omega) rfl rfl ?_
               refine sy_nilCheck rfl rfl rfl ?_
               refine sy_field fld_88_1 rfl rfl rfl ?_
               refine sy_stl 0 sz_3 rfl rfl rfl rfl rfl rfl rfl rfl ?_
               refine sy_nil rfl ?_
               refine ny_next ?_
               refine cy_seq ?_
               refine cy_region ?_
               refine sy_ldh one_85 rfl (Hp.blk hb2 0 _ rfl) rfl rfl ?_
               refine sy_callRO [0, 1, 1] call_55 rfl rfl (htm _ (adv st) o vn 1200 hT (by show st.at_ + 1 ≤ _; omega) (by show st.names.length ≤ st.at_ + 1; omega) hm) rfl rfl (fun a81 e81 h81x H81x hb81 hx81 hle81x => ?_) (fun x81 s81 g81 h81x H81x hk81 hx81 hle81x => ?_)
               · obtain ⟨a9, i9, o9, v9, n9, rfl⟩ := hx81
                 replace hb2 := hle81x _ _ hb2
                 refine ny_thenP ?_
                 refine ny_blockP ?_
                 refine ny_thenP ?_
                 refine ny_finUP (lvU_cons [0] call_111 rfl (by intro h9; cases h9) (first1b_c r bm b2 A c L lv _ hb2 _ _ _ _) (fun _ h9y H9y hx9y hle9y => ?_))
                 obtain ⟨rfl, rfl⟩ := hx9y
                 exact lvU_pan (fun w9 hs => ⟨.bad a81 (e81), _, _, rfl, ⟨(hro.trans (by unfold firstR; rw [if_neg hn13, if_neg hn24, if_neg hn38, if_neg hn53, if_pos hn70, hb81])), _, _, _, _, _, rfl⟩, hs.sel (is := [0, 0, 0]) rfl⟩)
               · obtain ⟨hg81, hl81, hm81, rfl⟩ := hx81
                 have hfw81 := hf _ (adv st) x81 s81 (by show st.at_ + 1 ≤ _; omega) hk81
                 have hT81 := hT.le hle81x
                 replace hb2 := hle81x _ _ hb2
                 refine sy_alloc zer_24 rfl rfl (fun b7 hb7 hM7 => ?_) (by first | exact hb0 | simp)
                 refine sy_stl 0 sz_24 rfl rfl rfl rfl rfl rfl rfl rfl ?_
                 refine sy_nil rfl ?_
                 refine ny_next ?_
                 refine cy_seq ?_
                 refine cy_region ?_
                 refine sy_ldh one_85 rfl (Hp.blk hb2 0 _ rfl) rfl rfl ?_
                 refine sy_callRO [1] call_114 rfl rfl (want_c ⟨#[41]⟩ r bm A c L lv _ hT81 hL s81 (inn + 1) g81.2.2 hfw81.2.1) rfl rfl (fun a83 e83 h83x H83x hb83 hx83 hle83x => ?_) (fun x83 s83 g83 h83x H83x hk83 hx83 hle83x => ?_)
                 · obtain ⟨rfl, rfl⟩ := hx83
                   refine ny_thenP ?_
                   refine ny_blockP ?_
                   refine ny_thenP ?_
                   refine ny_finUP (lvU_cons [0] call_111 rfl (by intro h9; cases h9) (first1_c r bm b2 A c L lv _ hb2 _ _ inn _ hi0 hi1) (fun _ h9y H9y hx9y hle9y => ?_))
                   obtain ⟨rfl, rfl⟩ := hx9y
                   exact lvU_pan (fun w9 hs => ⟨.bad a83 (e83), _, _, rfl, ⟨(hro.trans (by unfold firstR; rw [if_neg hn13, if_neg hn24, if_neg hn38, if_neg hn53, if_pos hn70, hk81]; exact want_bad hb83)), _, _, _, _, _, rfl⟩, hs.sel (is := [0, 1, 1]) rfl⟩)
                 · obtain ⟨rfl, rfl⟩ := hx83
                   refine sy_nil rfl ?_
                   refine ny_next ?_
                   refine cy_seq ?_
                   refine cy_region ?_
                   refine sy_ldar 1 agg_24 rfl rfl rfl rfl rfl ?_
                   refine sy_stl 4 sz_24 rfl rfl rfl rfl rfl rfl rfl rfl ?_
                   refine sy_assign rfl rfl rfl ?_
                   refine sy_nil rfl ?_
                   refine ny_next ?_
                   refine cy_ret ?_
                   refine ny_blockR ?_
                   refine ny_thenR ?_
                   refine ny_finUR (lvU_cons [1] call_111 rfl (by intro h9; cases h9) (first1_c r bm b2 A c L lv _ hb2 _ _ inn _ hi0 hi1) (fun _ h9y H9y hx9y hle9y => ?_))
                   obtain ⟨rfl, rfl⟩ := hx9y
                   exact lvU_ret (resc1 1 rfl agg_24 rfl rfl rfl rfl) (fun w9 hs => ⟨.ok (x81.1, 0) (adv s81) (g81), _, _, rfl, ⟨hro.trans (by unfold firstR; rw [if_neg hn13, if_neg hn24, if_neg hn38, if_neg hn53, if_pos hn70, hk81]; try exact want_ok hk83), hg81, hl81, hm81, rfl⟩, hs.sel (is := [0, 2, 2]) rfl⟩)
             · have hn70 : ¬ isP L st.at_ [40] = true := by rw [Bool.not_eq_true]; exact hc70
               refine cy_seq ?_
               refine cy_region ?_
               refine sy_ldh one_85 rfl (Hp.blk hb2 0 _ rfl) rfl rfl ?_
               refine sy_callR1 [0] call_98 rfl rfl (is_c ⟨#[91]⟩ r bm A c L lv _ hT hL st (inn + 1) vn hat) rfl rfl (fun x87 h87x H87x hx87 hle87x => ?_)
               obtain ⟨rfl, rfl⟩ := hx87
               refine sy_assign rfl rfl rfl ?_
               refine sy_nil rfl ?_
               refine ny_next ?_
               refine cy_cond rfl (fun hc85 => ?_) (fun hc85 => ?_)
               · have hn85 : isP L st.at_ [91] = true := hc85
                 have hlt := isP_lt hn85
                 refine cy_seq ?_
                 refine cy_region ?_
                 refine sy_ldh one_85 rfl (Hp.blk hb2 0 _ rfl) rfl rfl ?_
                 refine sy_nilCheck rfl rfl rfl ?_
                 refine sy_field fld_88_1 rfl rfl rfl ?_
                 refine sy_ldr 0 one_3 rfl rfl rfl rfl rfl ?_
                 refine sy_addi (z := ((st.at_ + 1 : Nat) : Int)) rfl rfl (by omega) (by omega) (by omega) rfl rfl ?_
                 refine sy_nilCheck rfl rfl rfl ?_
                 refine sy_field fld_88_1 rfl rfl rfl ?_
                 refine sy_stl 0 sz_3 rfl rfl rfl rfl rfl rfl rfl rfl ?_
                 refine sy_nil rfl ?_
                 refine ny_next ?_
                 refine cy_seq ?_
                 refine cy_region ?_
                 refine sy_ldh one_85 rfl (Hp.blk hb2 0 _ rfl) rfl rfl ?_
                 refine sy_callRO [0, 1, 1] call_115 rfl rfl (list_c r bm A c L lv _ (adv st) (inn + 1) o vn tm hf htm hT hL (by show st.at_ + 1 ≤ _; omega) (by show st.names.length ≤ st.at_ + 1; omega) hm) rfl rfl (fun a96 e96 h96x H96x hb96 hx96 hle96x => ?_) (fun x96 s96 g96 h96x H96x hk96 hx96 hle96x => ?_)
                 · obtain ⟨a9, i9, o9, v9, n9, rfl⟩ := hx96
                   replace hb2 := hle96x _ _ hb2
                   refine ny_thenP ?_
                   refine ny_blockP ?_
                   refine ny_thenP ?_
                   refine ny_finUP (lvU_cons [0] call_111 rfl (by intro h9; cases h9) (first1b_c r bm b2 A c L lv _ hb2 _ _ _ _) (fun _ h9y H9y hx9y hle9y => ?_))
                   obtain ⟨rfl, rfl⟩ := hx9y
                   exact lvU_pan (fun w9 hs => ⟨.bad a96 (e96), _, _, rfl, ⟨(hro.trans (by unfold firstR; rw [if_neg hn13, if_neg hn24, if_neg hn38, if_neg hn53, if_neg hn70, if_pos hn85, hb96]; rfl)), _, _, _, _, _, rfl⟩, hs.sel (is := [0, 0, 0]) rfl⟩)
                 · obtain ⟨hg96, hl96, hm96, rfl⟩ := hx96
                   replace hb2 := hle96x _ _ hb2
                   refine sy_stl 3 sz_24 rfl rfl rfl rfl rfl rfl rfl rfl ?_
                   refine sy_assign rfl rfl rfl ?_
                   refine sy_nil rfl ?_
                   refine ny_next ?_
                   refine cy_ret ?_
                   refine ny_blockR ?_
                   refine ny_thenR ?_
                   refine ny_finUR (lvU_cons [1] call_111 rfl (by intro h9; cases h9) (first1_c r bm b2 A c L lv _ hb2 _ _ inn _ hi0 hi1) (fun _ h9y H9y hx9y hle9y => ?_))
                   obtain ⟨rfl, rfl⟩ := hx9y
                   exact lvU_ret (resc1 1 rfl agg_24 rfl rfl rfl rfl) (fun w9 hs => ⟨.ok (x96, 0) s96 (g96), _, _, rfl, ⟨hro.trans (by unfold firstR; rw [if_neg hn13, if_neg hn24, if_neg hn38, if_neg hn53, if_neg hn70, if_pos hn85, hk96]; try rfl), hg96, hl96, hm96, rfl⟩, hs.sel (is := [0, 1, 1]) rfl⟩)
               · have hn85 : ¬ isP L st.at_ [91] = true := by rw [Bool.not_eq_true]; exact hc85
                 refine cy_skip ?_
                 refine ny_blockN ?_
                 refine ny_next ?_
                 refine cy_seq ?_
                 refine cy_region ?_
                 refine sy_ldh one_85 rfl (Hp.blk hb2 0 _ rfl) rfl rfl ?_
                 refine sy_callR [0] call_57 rfl rfl (rbad_c r bm A c L lv _ hT hL st (inn + 1) _ hat 4) rfl rfl (fun x98 h98x H98x hx98 hle98x => ?_)
                 obtain ⟨rfl, rfl⟩ := hx98
                 refine ny_thenP ?_
                 refine ny_finUP (lvU_cons [0] call_111 rfl (by intro h9; cases h9) (first1_c r bm b2 A c L lv _ hb2 _ _ inn _ hi0 hi1) (fun _ h9y H9y hx9y hle9y => ?_))
                 obtain ⟨rfl, rfl⟩ := hx9y
                 exact lvU_pan (fun w9 hs => ⟨.bad st.at_ (4), _, _, rfl, ⟨(hro.trans (by unfold firstR; rw [if_neg hn13, if_neg hn24, if_neg hn38, if_neg hn53, if_neg hn70, if_neg hn85])), _, _, _, _, _, rfl⟩, hs.sel (is := [0, 1, 1]) rfl⟩)
   · refine sy_skip rfl rfl rfl ?_
     refine sy_skip rfl rfl rfl ?_
     refine sy_skip rfl rfl rfl ?_
     refine sy_pickF rfl rfl rfl rfl ?_
     refine sy_assign rfl rfl rfl ?_
     refine sy_nil rfl ?_
     refine ny_next ?_
     refine cy_condF rfl ?_
     have hn13 : ¬ ((tokA L st.at_).kind = 3 ∧ (tokA L st.at_).num < 0) := fun h9 => by
      rw [h9.1] at hg17
      cases hg17
     refine cy_seq ?_
     refine cy_region ?_
     refine sy_field fld_79_0 rfl rfl rfl ?_
     refine sy_ldh one_3 rfl (Hp.blk hbt 0 _ rfl) rfl rfl ?_
     refine sy_cmp rfl rfl rfl rfl rfl ?_
     refine sy_assign rfl rfl rfl ?_
     refine sy_nil rfl ?_
     refine ny_next ?_
     refine cy_cond rfl (fun hc24 => ?_) (fun hc24 => ?_)
     · have hn24 : (tokA L st.at_).kind = 3 := by simpa using hc24
       have hlt := tok_lt (L := L) (i := st.at_) (by rw [hn24]; decide)
       refine cy_seq ?_
       refine cy_region ?_
       refine sy_ldh one_85 rfl (Hp.blk hb2 0 _ rfl) rfl rfl ?_
       refine sy_nilCheck rfl rfl rfl ?_
       refine sy_field fld_88_1 rfl rfl rfl ?_
       refine sy_ldr 0 one_3 rfl rfl rfl rfl rfl ?_
       refine sy_addi (z := ((st.at_ + 1 : Nat) : Int)) rfl rfl (by omega) (by omega) (by omega) rfl rfl ?_
       refine sy_nilCheck rfl rfl rfl ?_
       refine sy_field fld_88_1 rfl rfl rfl ?_
       refine sy_stl 0 sz_3 rfl rfl rfl rfl rfl rfl rfl rfl ?_
       refine sy_nil rfl ?_
       refine ny_next ?_
       refine cy_seq ?_
       refine cy_region ?_
       refine sy_field fld_79_2 rfl rfl rfl ?_
       refine sy_ldh one_2 rfl (Hp.blk hbt 2 _ rfl) rfl rfl ?_
       refine sy_call rfl call_24 rfl (num_c _ _) rfl rfl ?_
       refine sy_stl 1 sz_24 rfl rfl rfl rfl rfl rfl rfl rfl ?_
       refine sy_assign rfl rfl rfl ?_
       refine sy_nil rfl ?_
       refine ny_next ?_
       refine cy_ret ?_
       refine ny_blockR ?_
       refine ny_thenR ?_
       refine ny_finUR (lvU_cons [1] call_111 rfl (by intro h9; cases h9) (first1_c r bm b2 A c L lv _ hb2 _ _ inn _ hi0 hi1) (fun _ h9y H9y hx9y hle9y => ?_))
       obtain ⟨rfl, rfl⟩ := hx9y
       exact lvU_ret (resc1 1 rfl agg_24 rfl rfl rfl rfl) (fun w9 hs => ⟨.ok (numT (tokA L st.at_).num, 0) (adv st) ((GT.mk 2 (tokA L st.at_).num ⟨#[]⟩ none 0 [], o, vn)), _, _, rfl, ⟨hro.trans (by unfold firstR; rw [if_neg hn13, if_pos hn24]; try rfl), (by rw [tm_leaf]; rfl), ⟨lies_leaf _ _ _ _, fits_leaf (by decide) (by decide) (tokA_ok hqN st.at_).2.2.1 (tokA_ok hqN st.at_).2.2.2 (by decide)⟩, hm, rfl⟩, hs.sel (is := [0, 1, 1]) rfl⟩)
     · have hn24 : ¬ ((tokA L st.at_).kind = 3) := by simpa using hc24
       refine cy_seq ?_
       refine cy_region ?_
       refine sy_field fld_79_0 rfl rfl rfl ?_
       refine sy_ldh one_3 rfl (Hp.blk hbt 0 _ rfl) rfl rfl ?_
       refine sy_cmp rfl rfl rfl rfl rfl ?_
       refine sy_assign rfl rfl rfl ?_
       refine sy_nil rfl ?_
       refine ny_next ?_
       refine cy_cond rfl (fun hc38 => ?_) (fun hc38 => ?_)
       · have hn38 : (tokA L st.at_).kind = 2 := by simpa using hc38
         have hlt := tok_lt (L := L) (i := st.at_) (by rw [hn38]; decide)
         refine cy_seq ?_
         refine cy_region ?_
         refine sy_ldh one_85 rfl (Hp.blk hb2 0 _ rfl) rfl rfl ?_
         refine sy_nilCheck rfl rfl rfl ?_
         refine sy_field fld_88_1 rfl rfl rfl ?_
         refine sy_ldr 0 one_3 rfl rfl rfl rfl rfl ?_
         refine sy_addi (z := ((st.at_ + 1 : Nat) : Int)) rfl rfl (by omega) (by omega) (by omega) rfl rfl ?_
         refine sy_nilCheck rfl rfl rfl ?_
         refine sy_field fld_88_1 rfl rfl rfl ?_
         refine sy_stl 0 sz_3 rfl rfl rfl rfl rfl rfl rfl rfl ?_
         refine sy_nil rfl ?_
         refine ny_next ?_
         refine cy_seq ?_
         refine cy_region ?_
         refine sy_ldh one_85 rfl (Hp.blk hb2 0 _ rfl) rfl rfl ?_
         refine sy_field fld_79_1 rfl rfl rfl ?_
         refine sy_ldh one_9 rfl (Hp.blk hbt 1 _ rfl) rfl rfl ?_
         refine sy_callR1 [0, 1, 1] call_112 rfl rfl (var_c (tokA L st.at_).str (tokA_ok hqN st.at_).2.1 r bm A c L lv _ hT hL (adv st) (inn + 1) vn (by show st.at_ + 1 ≤ _; omega) o (by show st.names.length ≤ st.at_ + 1; omega) hm) rfl rfl (fun x52 h52x H52x hx52 hle52x => ?_)
         obtain ⟨rfl, rfl, hm52⟩ := hx52
         refine sy_stl 3 sz_24 rfl rfl rfl rfl rfl rfl rfl rfl ?_
         refine sy_assign rfl rfl rfl ?_
         refine sy_nil rfl ?_
         refine ny_next ?_
         refine cy_ret ?_
         refine ny_blockR ?_
         refine ny_thenR ?_
         refine ny_finUR (lvU_cons [1] call_111 rfl (by intro h9; cases h9) (first1_c r bm b2 A c L lv _ hb2 _ _ inn _ hi0 hi1) (fun _ h9y H9y hx9y hle9y => ?_))
         obtain ⟨rfl, rfl⟩ := hx9y
         exact lvU_ret (resc1 1 rfl agg_24 rfl rfl rfl rfl) (fun w9 hs => ⟨.ok ((varR (tokA L st.at_).str (adv st)).1, 0) (varR (tokA L st.at_).str (adv st)).2 ((GT.mk 1 (varR (tokA L st.at_).str (adv st)).1.n ⟨#[]⟩ none 0 [], x52.1, x52.2)), _, _, rfl, ⟨hro.trans (by unfold firstR; rw [if_neg hn13, if_neg hn24, if_pos hn38]; try rfl), (varR_gt _ _), ⟨lies_leaf _ _ _ _, (varR_fits _ (adv st) (by show st.names.length ≤ st.at_ + 1; omega) (by show st.at_ + 1 ≤ 1048576; omega))⟩, hm52, (by rw [varR_at])⟩, hs.sel (is := [0, 1, 1]) rfl⟩)
       · have hn38 : ¬ ((tokA L st.at_).kind = 2) := by simpa using hc38
         refine cy_seq ?_
         refine cy_region ?_
         refine sy_field fld_79_0 rfl rfl rfl ?_
         refine sy_ldh one_3 rfl (Hp.blk hbt 0 _ rfl) rfl rfl ?_
         refine sy_cmp rfl rfl rfl rfl rfl ?_
         refine sy_assign rfl rfl rfl ?_
         refine sy_nil rfl ?_
         refine ny_next ?_
         refine cy_cond rfl (fun hc53 => ?_) (fun hc53 => ?_)
         · have hn53 : (tokA L st.at_).kind = 1 := by simpa using hc53
           have hlt := tok_lt (L := L) (i := st.at_) (by rw [hn53]; decide)
           refine cy_seq ?_
           refine cy_region ?_
           refine sy_ldh one_85 rfl (Hp.blk hb2 0 _ rfl) rfl rfl ?_
           refine sy_nilCheck rfl rfl rfl ?_
           refine sy_field fld_88_1 rfl rfl rfl ?_
           refine sy_ldr 0 one_3 rfl rfl rfl rfl rfl ?_
           refine sy_addi (z := ((st.at_ + 1 : Nat) : Int)) rfl rfl (by omega) (by omega) (by omega) rfl rfl ?_
           refine sy_nilCheck rfl rfl rfl ?_
           refine sy_field fld_88_1 rfl rfl rfl ?_
           refine sy_stl 0 sz_3 rfl rfl rfl rfl rfl rfl rfl rfl ?_
           refine sy_nil rfl ?_
           refine ny_next ?_
           refine cy_seq ?_
           refine cy_region ?_
           refine sy_ldh one_85 rfl (Hp.blk hb2 0 _ rfl) rfl rfl ?_
           refine sy_ldah (vs := rtC (tokA L st.at_)) agg_79 rfl rfl (Hp.blk hbt) rfl rfl ?_
           refine sy_move rfl rfl rfl ?_
           refine sy_callRO [0, 1, 1] call_113 rfl rfl (rname_c r bm A c L lv _ (adv st) (inn + 1) o vn (tokA L st.at_) most (tokA_ok hqN st.at_).2.1 hqN tm hf hwg hPW htm hT hL (by show st.at_ + 1 ≤ _; omega) (by show st.names.length ≤ st.at_ + 1; omega) hm) rfl rfl (fun a67 e67 h67x H67x hb67 hx67 hle67x => ?_) (fun x67 s67 g67 h67x H67x hk67 hx67 hle67x => ?_)
           · obtain ⟨a9, i9, o9, v9, n9, rfl⟩ := hx67
             replace hb2 := hle67x _ _ hb2
             refine ny_thenP ?_
             refine ny_blockP ?_
             refine ny_thenP ?_
             refine ny_finUP (lvU_cons [0] call_111 rfl (by intro h9; cases h9) (first1b_c r bm b2 A c L lv _ hb2 _ _ _ _) (fun _ h9y H9y hx9y hle9y => ?_))
             obtain ⟨rfl, rfl⟩ := hx9y
             exact lvU_pan (fun w9 hs => ⟨.bad a67 (e67), _, _, rfl, ⟨(hro.trans (by unfold firstR; rw [if_neg hn13, if_neg hn24, if_neg hn38, if_pos hn53]; exact hb67)), _, _, _, _, _, rfl⟩, hs.sel (is := [0, 0, 0]) rfl⟩)
           · obtain ⟨hg67, hl67, hm67, rfl⟩ := hx67
             replace hb2 := hle67x _ _ hb2
             refine sy_extract rfl rfl rfl rfl ?_
             refine sy_extract rfl rfl rfl rfl ?_
             refine sy_stl 3 sz_24 rfl rfl rfl rfl rfl rfl rfl rfl ?_
             refine sy_assign rfl rfl rfl ?_
             refine sy_nil rfl ?_
             refine ny_next ?_
             refine cy_ret ?_
             refine ny_blockR ?_
             refine ny_thenR ?_
             refine ny_finUR (lvU_cons [1] call_111 rfl (by intro h9; cases h9) (first1_c r bm b2 A c L lv _ hb2 _ _ inn _ hi0 hi1) (fun _ h9y H9y hx9y hle9y => ?_))
             obtain ⟨rfl, rfl⟩ := hx9y
             exact lvU_ret (resc1 1 rfl agg_24 rfl rfl rfl rfl) (fun w9 hs => ⟨.ok x67 s67 (g67), _, _, rfl, ⟨hro.trans (by unfold firstR; rw [if_neg hn13, if_neg hn24, if_neg hn38, if_pos hn53]; try exact hk67), hg67, hl67, hm67, rfl⟩, hs.sel (is := [0, 1, 1]) rfl⟩)
         · have hn53 : ¬ ((tokA L st.at_).kind = 1) := by simpa using hc53
           refine cy_seq ?_
           refine cy_region ?_
           refine sy_ldh one_85 rfl (Hp.blk hb2 0 _ rfl) rfl rfl ?_
           refine sy_callR1 [0] call_98 rfl rfl (is_c ⟨#[40]⟩ r bm A c L lv _ hT hL st (inn + 1) vn hat) rfl rfl (fun x72 h72x H72x hx72 hle72x => ?_)
           obtain ⟨rfl, rfl⟩ := hx72
           refine sy_assign rfl rfl rfl ?_
           refine sy_nil rfl ?_
           refine ny_next ?_
           refine cy_cond rfl (fun hc70 => ?_) (fun hc70 => ?_)
           · have hn70 : isP L st.at_ [40] = true := hc70
             have hlt := isP_lt hn70
             refine cy_seq ?_
             refine cy_region ?_
             refine sy_ldh one_85 rfl (Hp.blk hb2 0 _ rfl) rfl rfl ?_
             refine sy_nilCheck rfl rfl rfl ?_
             refine sy_field fld_88_1 rfl rfl rfl ?_
             refine sy_ldr 0 one_3 rfl rfl rfl rfl rfl ?_
             refine sy_addi (z := ((st.at_ + 1 : Nat) : Int)) rfl rfl (by omega) (by omega) (by omega) rfl rfl ?_
             refine sy_nilCheck rfl rfl rfl ?_
             refine sy_field fld_88_1 rfl rfl rfl ?_
             refine sy_stl 0 sz_3 rfl rfl rfl rfl rfl rfl rfl rfl ?_
             refine sy_nil rfl ?_
             refine ny_next ?_
             refine cy_seq ?_
             refine cy_region ?_
             refine sy_ldh one_85 rfl (Hp.blk hb2 0 _ rfl) rfl rfl ?_
             refine sy_callRO [0, 1, 1] call_55 rfl rfl (htm _ (adv st) o vn 1200 hT (by show st.at_ + 1 ≤ _; omega) (by show st.names.length ≤ st.at_ + 1; omega) hm) rfl rfl (fun a81 e81 h81x H81x hb81 hx81 hle81x => ?_) (fun x81 s81 g81 h81x H81x hk81 hx81 hle81x => ?_)
             · obtain ⟨a9, i9, o9, v9, n9, rfl⟩ := hx81
               replace hb2 := hle81x _ _ hb2
               refine ny_thenP ?_
               refine ny_blockP ?_
               refine ny_thenP ?_
               refine ny_finUP (lvU_cons [0] call_111 rfl (by intro h9; cases h9) (first1b_c r bm b2 A c L lv _ hb2 _ _ _ _) (fun _ h9y H9y hx9y hle9y => ?_))
               obtain ⟨rfl, rfl⟩ := hx9y
               exact lvU_pan (fun w9 hs => ⟨.bad a81 (e81), _, _, rfl, ⟨(hro.trans (by unfold firstR; rw [if_neg hn13, if_neg hn24, if_neg hn38, if_neg hn53, if_pos hn70, hb81])), _, _, _, _, _, rfl⟩, hs.sel (is := [0, 0, 0]) rfl⟩)
             · obtain ⟨hg81, hl81, hm81, rfl⟩ := hx81
               have hfw81 := hf _ (adv st) x81 s81 (by show st.at_ + 1 ≤ _; omega) hk81
               have hT81 := hT.le hle81x
               replace hb2 := hle81x _ _ hb2
               refine sy_alloc zer_24 rfl rfl (fun b7 hb7 hM7 => ?_) (by first | exact hb0 | simp)
               refine sy_stl 0 sz_24 rfl rfl rfl rfl rfl rfl rfl rfl ?_
               refine sy_nil rfl ?_
               refine ny_next ?_
               refine cy_seq ?_
               refine cy_region ?_
               refine sy_ldh one_85 rfl (Hp.blk hb2 0 _ rfl) rfl rfl ?_
               refine sy_callRO [1] call_114 rfl rfl (want_c ⟨#[41]⟩ r bm A c L lv _ hT81 hL s81 (inn + 1) g81.2.2 hfw81.2.1) rfl rfl (fun a83 e83 h83x H83x hb83 hx83 hle83x => ?_) (fun x83 s83 g83 h83x H83x hk83 hx83 hle83x => ?_)
               · obtain ⟨rfl, rfl⟩ := hx83
                 refine ny_thenP ?_
                 refine ny_blockP ?_
                 refine ny_thenP ?_
                 refine ny_finUP (lvU_cons [0] call_111 rfl (by intro h9; cases h9) (first1_c r bm b2 A c L lv _ hb2 _ _ inn _ hi0 hi1) (fun _ h9y H9y hx9y hle9y => ?_))
                 obtain ⟨rfl, rfl⟩ := hx9y
                 exact lvU_pan (fun w9 hs => ⟨.bad a83 (e83), _, _, rfl, ⟨(hro.trans (by unfold firstR; rw [if_neg hn13, if_neg hn24, if_neg hn38, if_neg hn53, if_pos hn70, hk81]; exact want_bad hb83)), _, _, _, _, _, rfl⟩, hs.sel (is := [0, 1, 1]) rfl⟩)
               · obtain ⟨rfl, rfl⟩ := hx83
                 refine sy_nil rfl ?_
                 refine ny_next ?_
                 refine cy_seq ?_
                 refine cy_region ?_
                 refine sy_ldar 1 agg_24 rfl rfl rfl rfl rfl ?_
                 refine sy_stl 4 sz_24 rfl rfl rfl rfl rfl rfl rfl rfl ?_
                 refine sy_assign rfl rfl rfl ?_
                 refine sy_nil rfl ?_
                 refine ny_next ?_
                 refine cy_ret ?_
                 refine ny_blockR ?_
                 refine ny_thenR ?_
                 refine ny_finUR (lvU_cons [1] call_111 rfl (by intro h9; cases h9) (first1_c r bm b2 A c L lv _ hb2 _ _ inn _ hi0 hi1) (fun _ h9y H9y hx9y hle9y => ?_))
                 obtain ⟨rfl, rfl⟩ := hx9y
                 exact lvU_ret (resc1 1 rfl agg_24 rfl rfl rfl rfl) (fun w9 hs => ⟨.ok (x81.1, 0) (adv s81) (g81), _, _, rfl, ⟨hro.trans (by unfold firstR; rw [if_neg hn13, if_neg hn24, if_neg hn38, if_neg hn53, if_pos hn70, hk81]; try exact want_ok hk83), hg81, hl81, hm81, rfl⟩, hs.sel (is := [0, 2, 2]) rfl⟩)
           · have hn70 : ¬ isP L st.at_ [40] = true := by rw [Bool.not_eq_true]; exact hc70
             refine cy_seq ?_
             refine cy_region ?_
             refine sy_ldh one_85 rfl (Hp.blk hb2 0 _ rfl) rfl rfl ?_
             refine sy_callR1 [0] call_98 rfl rfl (is_c ⟨#[91]⟩ r bm A c L lv _ hT hL st (inn + 1) vn hat) rfl rfl (fun x87 h87x H87x hx87 hle87x => ?_)
             obtain ⟨rfl, rfl⟩ := hx87
             refine sy_assign rfl rfl rfl ?_
             refine sy_nil rfl ?_
             refine ny_next ?_
             refine cy_cond rfl (fun hc85 => ?_) (fun hc85 => ?_)
             · have hn85 : isP L st.at_ [91] = true := hc85
               have hlt := isP_lt hn85
               refine cy_seq ?_
               refine cy_region ?_
               refine sy_ldh one_85 rfl (Hp.blk hb2 0 _ rfl) rfl rfl ?_
               refine sy_nilCheck rfl rfl rfl ?_
               refine sy_field fld_88_1 rfl rfl rfl ?_
               refine sy_ldr 0 one_3 rfl rfl rfl rfl rfl ?_
               refine sy_addi (z := ((st.at_ + 1 : Nat) : Int)) rfl rfl (by omega) (by omega) (by omega) rfl rfl ?_
               refine sy_nilCheck rfl rfl rfl ?_
               refine sy_field fld_88_1 rfl rfl rfl ?_
               refine sy_stl 0 sz_3 rfl rfl rfl rfl rfl rfl rfl rfl ?_
               refine sy_nil rfl ?_
               refine ny_next ?_
               refine cy_seq ?_
               refine cy_region ?_
               refine sy_ldh one_85 rfl (Hp.blk hb2 0 _ rfl) rfl rfl ?_
               refine sy_callRO [0, 1, 1] call_115 rfl rfl (list_c r bm A c L lv _ (adv st) (inn + 1) o vn tm hf htm hT hL (by show st.at_ + 1 ≤ _; omega) (by show st.names.length ≤ st.at_ + 1; omega) hm) rfl rfl (fun a96 e96 h96x H96x hb96 hx96 hle96x => ?_) (fun x96 s96 g96 h96x H96x hk96 hx96 hle96x => ?_)
               · obtain ⟨a9, i9, o9, v9, n9, rfl⟩ := hx96
                 replace hb2 := hle96x _ _ hb2
                 refine ny_thenP ?_
                 refine ny_blockP ?_
                 refine ny_thenP ?_
                 refine ny_finUP (lvU_cons [0] call_111 rfl (by intro h9; cases h9) (first1b_c r bm b2 A c L lv _ hb2 _ _ _ _) (fun _ h9y H9y hx9y hle9y => ?_))
                 obtain ⟨rfl, rfl⟩ := hx9y
                 exact lvU_pan (fun w9 hs => ⟨.bad a96 (e96), _, _, rfl, ⟨(hro.trans (by unfold firstR; rw [if_neg hn13, if_neg hn24, if_neg hn38, if_neg hn53, if_neg hn70, if_pos hn85, hb96]; rfl)), _, _, _, _, _, rfl⟩, hs.sel (is := [0, 0, 0]) rfl⟩)
               · obtain ⟨hg96, hl96, hm96, rfl⟩ := hx96
                 replace hb2 := hle96x _ _ hb2
                 refine sy_stl 3 sz_24 rfl rfl rfl rfl rfl rfl rfl rfl ?_
                 refine sy_assign rfl rfl rfl ?_
                 refine sy_nil rfl ?_
                 refine ny_next ?_
                 refine cy_ret ?_
                 refine ny_blockR ?_
                 refine ny_thenR ?_
                 refine ny_finUR (lvU_cons [1] call_111 rfl (by intro h9; cases h9) (first1_c r bm b2 A c L lv _ hb2 _ _ inn _ hi0 hi1) (fun _ h9y H9y hx9y hle9y => ?_))
                 obtain ⟨rfl, rfl⟩ := hx9y
                 exact lvU_ret (resc1 1 rfl agg_24 rfl rfl rfl rfl) (fun w9 hs => ⟨.ok (x96, 0) s96 (g96), _, _, rfl, ⟨hro.trans (by unfold firstR; rw [if_neg hn13, if_neg hn24, if_neg hn38, if_neg hn53, if_neg hn70, if_pos hn85, hk96]; try rfl), hg96, hl96, hm96, rfl⟩, hs.sel (is := [0, 1, 1]) rfl⟩)
             · have hn85 : ¬ isP L st.at_ [91] = true := by rw [Bool.not_eq_true]; exact hc85
               refine cy_skip ?_
               refine ny_blockN ?_
               refine ny_next ?_
               refine cy_seq ?_
               refine cy_region ?_
               refine sy_ldh one_85 rfl (Hp.blk hb2 0 _ rfl) rfl rfl ?_
               refine sy_callR [0] call_57 rfl rfl (rbad_c r bm A c L lv _ hT hL st (inn + 1) _ hat 4) rfl rfl (fun x98 h98x H98x hx98 hle98x => ?_)
               obtain ⟨rfl, rfl⟩ := hx98
               refine ny_thenP ?_
               refine ny_finUP (lvU_cons [0] call_111 rfl (by intro h9; cases h9) (first1_c r bm b2 A c L lv _ hb2 _ _ inn _ hi0 hi1) (fun _ h9y H9y hx9y hle9y => ?_))
               obtain ⟨rfl, rfl⟩ := hx9y
               exact lvU_pan (fun w9 hs => ⟨.bad st.at_ (4), _, _, rfl, ⟨(hro.trans (by unfold firstR; rw [if_neg hn13, if_neg hn24, if_neg hn38, if_neg hn53, if_neg hn70, if_neg hn85])), _, _, _, _, _, rfl⟩, hs.sel (is := [0, 1, 1]) rfl⟩)
end Go.Proofs.YtanhhihechakhaaGreatDoor

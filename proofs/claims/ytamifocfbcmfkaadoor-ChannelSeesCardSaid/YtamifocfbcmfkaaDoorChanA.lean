/- The channel's functions: what each returns. Conditions: none. Printed by a program of this session. -/
import Derived.Test.YtamifocfbcmfkaaDoorFactsG
import Derived.Test.YtamifocfbcmfkaaDoorChanPure
import Derived.Test.YtamifocfbcmfkaaDoorItoa
import Derived.Lib.ItoaLen
import Derived.Laws.StructEq
set_option linter.unusedVariables false
set_option linter.unusedSimpArgs false
namespace Go.Proofs.YtamifocfbcmfkaaDoor
open Go.RowKit Go.Proofs.YtamifocfbcmfkaaDoor.E Go.Proofs.YtamifocfbcmfkaaDoor.LattP Go.Proofs.YtamifocfbcmfkaaDoor.ChanP
/-- An event whose numbers and text fit. -/
structure okE (e : Ev) : Prop where
  k0 : -9223372036854775808 ≤ e.k
  k1 : e.k ≤ 9223372036854775807
  l0 : -9223372036854775808 ≤ e.l
  l1 : e.l ≤ 9223372036854775807
  s0 : e.s.size ≤ 140737488355328
theorem run_eqEv (a b : Ev) (w : World) : (binOp .neq 65 (.agg (evC a).toArray) (.agg (evC b).toArray)).run Tryd.prog w = .ok (.bool (!evEq a b)) w := by
  have hf : ((Tryd.prog.fieldsOf 65).toList.map fun f => (f.name, f.type, f.offset)) = [("Kind", 3, 0), ("Level", 3, 1), ("Text", 9, 2)] := by kernel_rfl
  rw [run_neq_struct, run_equalIn_agg w _ _ _ _ (by kernel_rfl) (by kernel_rfl)]
  revert hf
  generalize (Tryd.prog.fieldsOf 65).toList = L
  intro hf
  have hl : L.length = 3 := by simpa using congrArg List.length hf
  match L, hl, hf with
  | [f0, f1, f2], _, hf =>
    simp only [List.map_cons, List.map_nil, List.cons.injEq, Prod.mk.injEq, and_true] at hf
    obtain ⟨⟨n0, t0, o0⟩, ⟨n1, t1, o1⟩, ⟨n2, t2, o2⟩⟩ := hf
    have a3 := one_spec one_3 w
    have a9 := one_spec one_9 w
    have p0 : ∀ e : Ev, (part 3 (evC e).toArray 0).run Tryd.prog w = .ok (.int .i64 e.k) w := fun e => by simp [part, a3, evC]
    have p1 : ∀ e : Ev, (part 3 (evC e).toArray 1).run Tryd.prog w = .ok (.int .i64 e.l) w := fun e => by simp [part, a3, evC]
    have p2 : ∀ e : Ev, (part 9 (evC e).toArray 2).run Tryd.prog w = .ok (.string e.s) w := fun e => by simp [part, a9, evC]
    have q3 : ∀ x y : Int, (Op.equalIn 9999 3 (.int .i64 x) (.int .i64 y)).run Tryd.prog w = .ok (x == y) w := fun x y => run_equalIn_int w 9998 3 .i64 .i64 x y Tryd.underlying3
    have q9 : ∀ x y : ByteArray, (Op.equalIn 9999 9 (.string x) (.string y)).run Tryd.prog w = .ok (x.toList == y.toList) w := fun x y => run_equalIn_string w 9998 9 x y Tryd.underlying9
    unfold evEq
    rw [← ByteArray.toList_eq, ← ByteArray.toList_eq]
    simp only [Op.eqFields, n0, n1, n2, t0, t1, t2, o0, o1, o2, Sem.run_ite, Sem.run_bind, p0, p1, p2, q3, q9, Result.andThen_ok, ne_eq, String.reduceEq, not_false_eq_true, if_true]
    cases (a.k == b.k) <;> cases (a.l == b.l) <;> cases (a.s.toList == b.s.toList) <;> simp [Op.eqFields]
theorem run_neEv {n : Nat} {D : List Deferred} {f : Tab} {a : Act} {x y : Operand} {e1 e2 : Ev} {w : World} {d t s2 : Nat} {p : String} {af : Array Edge} {g : Option (Nat × Bool)} (ha : Holds n D f a) (hx : f.ev x = some (.agg (evC e1).toArray)) (hy : f.ev y = some (.agg (evC e2).toArray)) :
    (execOp a.eval ⟨some d, .binOp .neq 65 x y s2, t, p, af, g⟩).run Tryd.prog w = .ok (.value (.bool (!evEq e1 e2))) w := by
  have hg := run_eqGuard_agg (P := Tryd.prog) w .neq 65 x y (evC e1).toArray (evC e2).toArray (by kernel_rfl)
  simp only [execOp, ha.ev hx, ha.ev hy, Sem.run_bind, hg, run_eqEv, Result.andThen_ok, Sem.run_pure]
def txt (e : Ev) : ByteArray := (⟨(Lib.itoa e.k).toArray⟩ ++ ⟨#[32]⟩) ++ e.s
theorem itoa_size (k : Int) (h0 : -9223372036854775808 ≤ k) (h1 : k ≤ 9223372036854775807) : (⟨(Lib.itoa k).toArray⟩ : ByteArray).size ≤ 21 := by
  have := Lib.itoa_length_le k h0 h1
  simpa [ByteArray.size] using this
theorem size1 : (⟨#[32]⟩ : ByteArray).size = 1 := rfl
theorem strs_snoc {es : List Ev} {fs : Ev → ByteArray} {i : Nat} {e : Ev} (he : es[i]? = some e) : (((es.take (i + 1)).map fun e => [Value.string (fs e)]).flatten) = (((es.take i).map fun e => [Value.string (fs e)]).flatten) ++ [.string (fs e)] := by
  rw [List.take_add_one, he, List.map_append, List.flatten_append]
  rfl
theorem str_len (es : List Ev) (fs : Ev → ByteArray) : ∀ c ∈ (es.map fun e => [Value.string (fs e)]), c.length = 1 := fun c hc => by
  obtain ⟨e, _, rfl⟩ := List.mem_map.1 hc
  rfl
set_option maxRecDepth 100000 in
theorem some_c (A : Option Addr) (l c F : Nat) (caps : List Value) (es : List Ev) (pr : Ev → Bool) (h : Hp) (hp : RowsAt h A 3 (es.map evC)) (hl : es.length = l) (hB : l * 32 ≤ 140737488355328) (hFB : callB Tryd.prog F = true) (hF : ∀ e, C0 Tryd.prog F ([.agg (evC e).toArray] ++ caps) h (.bool (pr e))) : CX Tryd.prog 66 [.slice A l c, .func (.func F) #[] caps.toArray] h (fun x : Option Addr × Nat => .slice x.1 (es.filter pr).length x.2) (fun x h' => RowsAt h' x.1 3 ((es.filter pr).map evC) ∧ (es.filter pr).length ≤ x.2) := by
  refine enterX Tryd.func66 rfl rfl rfl (fun w => ?_)
  refine cy_seq ?_
  refine cy_region ?_
  refine sy_assign rfl rfl rfl ?_
  refine sy_nil rfl ?_
  refine ny_next ?_
  refine cy_seq ?_
  refine cy_region ?_
  refine sy_assign rfl rfl rfl ?_
  refine sy_nil rfl ?_
  refine ny_next ?_
  refine cy_seq ?_
  refine cy_seq ?_
  refine cy_region ?_
  refine sy_move rfl rfl rfl ?_
  refine sy_len rfl (len_slice Tryd.underlying59 _ _ _) rfl rfl ?_
  refine sy_move rfl rfl rfl ?_
  refine sy_nil rfl ?_
  refine ny_next ?_
  refine cy_block ?_
  refine cy_nilRow 65 3 ?_
  refine cy_loop (ι := Nat × Value) (fun s => s.1 ≤ l) (fun s => l - s.1) (fun s => [(1, .func (.func F) #[] caps.toArray), (5, s.2), (8, .slice A l c), (9, .int .i64 (l : Int)), (10, .int .i64 (s.1 : Int))]) (fun _ => h) (fun s => [Res.row s.2 65 3 (flt pr es s.1).length ((flt pr es s.1).map evC).flatten]) (0, .slice none 0 0) [0] (Nat.zero_le _) ⟨rfl, rfl, rfl, rfl, rfl, trivial⟩ rfl rfl ?_
  rintro ⟨i, v⟩ hi
  simp only at hi ⊢
  refine cy_seq ?_
  refine cy_region ?_
  refine sy_cmp rfl rfl rfl rfl rfl ?_
  refine sy_nil rfl ?_
  refine ny_next ?_
  refine cy_seq ?_
  refine cy_cond rfl (fun hc11 => ?_) (fun hc11 => ?_)
  · have hlti : i < l := by have := of_decide_eq_true hc11; omega
    obtain ⟨e, he⟩ : ∃ e, es[i]? = some e := ⟨_, List.getElem?_eq_getElem (by omega)⟩
    have hec : (es.map evC)[i]? = some (evC e) := by rw [List.getElem?_map, he]; rfl
    obtain ⟨g, off, rfl, _⟩ := hp i _ hec
    have hfl := flt_len pr es i
    refine cy_skip ?_
    refine ny_next ?_
    refine cy_seq ?_
    refine cy_block ?_
    refine cy_seq ?_
    refine cy_region ?_
    refine sy_idxS els_59 rfl rfl (by omega) (by omega) rfl rfl ?_
    refine sy_ldah (vs := evC e) agg_65 rfl rfl (hp.get hec) rfl rfl ?_
    refine sy_alloc zer_65 rfl rfl (fun b7 hb7 hM7 => ?_) (by simp)
    first | refine sy_stl 0 sz_65 rfl rfl rfl rfl rfl rfl rfl rfl ?_ | refine sy_stl 1 sz_65 rfl rfl rfl rfl rfl rfl rfl rfl ?_ | refine sy_stl 2 sz_65 rfl rfl rfl rfl rfl rfl rfl rfl ?_
    refine sy_nil rfl ?_
    refine ny_next ?_
    refine cy_seq ?_
    refine cy_region ?_
    refine sy_move rfl rfl rfl ?_
    first | refine sy_ldar 0 agg_65 rfl rfl rfl rfl rfl ?_ | refine sy_ldar 1 agg_65 rfl rfl rfl rfl rfl ?_ | refine sy_ldar 2 agg_65 rfl rfl rfl rfl rfl ?_
    refine sy_callv rfl hFB rfl rfl (hF e) rfl rfl ?_
    refine sy_nil rfl ?_
    refine ny_next ?_
    refine cy_cond rfl (fun hc16 => ?_) (fun hc16 => ?_)
    · refine cy_region ?_
      refine sy_move rfl rfl rfl ?_
      first | refine sy_ldar 0 agg_65 rfl rfl rfl rfl rfl ?_ | refine sy_ldar 1 agg_65 rfl rfl rfl rfl rfl ?_ | refine sy_ldar 2 agg_65 rfl rfl rfl rfl rfl ?_
      refine sy_buildSlice rfl (fun w => bsl_59_1_0 w) rfl rfl (fun b19 hb19 hM19 => ?_) (by simp)
      refine sy_append 2 0 row_59 (by decide) rfl rfl rfl rfl rfl rfl (by omega) (by simp only [maxLen]; omega) rfl rfl (fun v20 => ?_)
      refine sy_assign rfl rfl rfl ?_
      refine sy_nil rfl ?_
      refine ny_blockN ?_
      refine ny_next ?_
      refine cy_region ?_
      refine sy_addi (z := ((i + 1 : Nat) : Int)) rfl rfl (by omega) (by omega) (by omega) rfl rfl ?_
      refine sy_move rfl rfl rfl ?_
      refine sy_nil rfl ?_
      refine ny_round (i + 1, v20) [0] (show i + 1 ≤ l by omega) (show l - (i + 1) < l - i by omega) ⟨rfl, rfl, rfl, rfl, rfl, trivial⟩ rfl ?_
      show _ = some [Res.row v20 65 3 (flt pr es (i + 1)).length ((flt pr es (i + 1)).map evC).flatten]
      rw [flt_yes he hc16, List.length_append, evs_snoc]
      rfl
    · refine cy_skip ?_
      refine ny_blockN ?_
      refine ny_next ?_
      refine cy_region ?_
      refine sy_addi (z := ((i + 1 : Nat) : Int)) rfl rfl (by omega) (by omega) (by omega) rfl rfl ?_
      refine sy_move rfl rfl rfl ?_
      refine sy_nil rfl ?_
      refine ny_round (i + 1, v) [1] (show i + 1 ≤ l by omega) (show l - (i + 1) < l - i by omega) ⟨rfl, rfl, rfl, rfl, rfl, trivial⟩ rfl ?_
      show _ = some [Res.row v 65 3 (flt pr es (i + 1)).length ((flt pr es (i + 1)).map evC).flatten]
      rw [flt_no he hc16]
      rfl
  · have hie : i = es.length := by have := of_decide_eq_false hc11; omega
    subst hie
    refine cy_exit ?_
    refine ny_thenE ?_
    refine ny_thenE ?_
    refine ny_blockX ?_
    refine ny_next ?_
    refine cy_seq ?_
    refine cy_region ?_
    refine sy_move rfl rfl rfl ?_
    refine sy_assign rfl rfl rfl ?_
    refine sy_nil rfl ?_
    refine ny_next ?_
    refine cy_ret ?_
    refine ny_finR (res1 rfl rfl) (fun w hs => ?_)
    obtain ⟨A2, c2, h2, rfl, hlc, hcm, hlen, hle, hcell, hpos, hs2⟩ := frzRow 0 rfl (fun _ _ => by simp) hs
    rw [flt_all] at *
    exact ⟨(A2, c2), h2, rfl, ⟨rows_row (by decide) (evC_len _) hcell, hlc⟩, hs2.toGrow⟩
set_option maxRecDepth 100000 in
theorem vis1_c (g n : Nat) (u : U) (h : Hp) (hg : h g = some (lat 94 n u)) (hn1 : 1 ≤ n) (hn : n ≤ 16) (hu : ∀ a, u a < 65536) (e : Ev) (lv : Int) (b3 b5 : Nat) (h3 : h b3 = some (.cells [.pointer (some ⟨g, 0, none⟩)].toArray 27 (0, 0))) (h5 : h b5 = some (.cells [.int .i64 lv].toArray 3 (0, 0))) : C0 Tryd.prog 67 [.agg (evC e).toArray, .pointer (some ⟨b3, 0, none⟩), .pointer (some ⟨b5, 0, none⟩)] h (.bool (leqI n u e.l lv)) := by
  refine enter0 Tryd.func67 rfl rfl rfl (fun w => ?_)
  refine cy_seq ?_
  refine cy_region ?_
  refine sy_box rfl rfl rfl rfl (fun bx hb3 hM3 => ?_) (by simp)
  refine sy_assign rfl rfl rfl ?_
  refine sy_nil rfl ?_
  refine ny_next ?_
  refine cy_seq ?_
  refine cy_region ?_
  refine sy_ldh one_27 rfl (by simp [Hp.cell, h3]; rfl) rfl rfl ?_
  refine sy_field fld_65_1 rfl rfl rfl ?_
  first | refine sy_ldr 0 one_3 rfl rfl rfl rfl rfl ?_
  refine sy_ldh one_3 rfl (by simp [Hp.cell, h5]; rfl) rfl rfl ?_
  refine sy_call rfl call_23 rfl (leq_c _ _ _ _ hg hn1 hn hu _ _) rfl rfl ?_
  refine sy_assign rfl rfl rfl ?_
  refine sy_nil rfl ?_
  refine ny_next ?_
  refine cy_ret ?_
  refine ny_finR (res1 rfl rfl) (fun w hs => ⟨?_, hs.frm⟩)
  rfl
set_option maxRecDepth 100000 in
theorem visible_c (g n : Nat) (u : U) (h : Hp) (hg : h g = some (lat 94 n u)) (hn1 : 1 ≤ n) (hn : n ≤ 16) (hu : ∀ a, u a < 65536) (A : Option Addr) (l c : Nat) (es : List Ev) (lv : Int) (hp : RowsAt h A 3 (es.map evC)) (hl : es.length = l) (hB : l * 32 ≤ 140737488355328) : CX Tryd.prog 37 [.pointer (some ⟨g, 0, none⟩), .slice A l c, .int .i64 lv] h (fun x : Option Addr × Nat => .slice x.1 (es.filter fun e => leqI n u e.l lv).length x.2) (fun x h' => RowsAt h' x.1 3 ((es.filter fun e => leqI n u e.l lv).map evC) ∧ (es.filter fun e => leqI n u e.l lv).length ≤ x.2) := by
  refine enterX Tryd.func37 rfl rfl rfl (fun w => ?_)
  refine cy_seq ?_
  refine cy_region ?_
  refine sy_box rfl rfl rfl rfl (fun b3 hb3 hM3 => ?_) (by simp)
  refine sy_box rfl rfl rfl rfl (fun b5 hb5 hM5 => ?_) (by simp)
  refine sy_assign rfl rfl rfl ?_
  refine sy_nil rfl ?_
  refine ny_next ?_
  refine cy_seq ?_
  refine cy_region ?_
  refine sy_move rfl rfl rfl ?_
  refine sy_makeFunc rfl rfl rfl ?_
  refine sy_frz 0 rfl (by simp) (fun h2 hle2 hb5 => ?_)
  refine sy_frz 0 rfl (by simp) (fun h3 hle3 hb3 => ?_)
  have hb5' := hle3 _ _ hb5
  have hg3 := hle3 _ _ (hle2 _ _ hg)
  refine sy_callx call_66 rfl (some_c A l c 67 [.pointer (some ⟨b3, 0, none⟩), .pointer (some ⟨b5, 0, none⟩)] es (fun e => leqI n u e.l lv) _ (hp.le (hle2.trans hle3)) hl hB call_67 (fun e => vis1_c g n u _ hg3 hn1 hn hu e lv b3 b5 hb3 hb5')) rfl rfl (fun x h4 hx hle4 => ?_)
  refine sy_assign rfl rfl rfl ?_
  refine sy_nil rfl ?_
  refine ny_next ?_
  refine cy_ret ?_
  exact ny_finR (res1 rfl rfl) (fun w hs => ⟨x, h4, rfl, hx, hs.toGrow⟩)
set_option maxRecDepth 100000 in
theorem texts1_c (e : Ev) (h : Hp) (hk : okE e) (ht : Tab10 h) : C0 Tryd.prog 70 [.agg (evC e).toArray] h (.string (txt e)) := by
  refine enter0 Tryd.func70 rfl rfl rfl (fun w => ?_)
  refine cy_seq ?_
  refine cy_region ?_
  refine sy_box rfl rfl rfl rfl (fun b1 hb1 hM1 => ?_) (by simp)
  refine sy_assign rfl rfl rfl ?_
  refine sy_nil rfl ?_
  refine ny_next ?_
  refine cy_seq ?_
  refine cy_regionQ mixedA (by kernel_rfl) ?_
  refine sy_field fld_65_0 rfl rfl rfl ?_
  first | refine sy_ldr 0 one_3 rfl rfl rfl rfl rfl ?_
  refine sy_call rfl call_55 rfl (itoa_c _ _ hk.k0 hk.k1 ht) rfl rfl ?_
  refine sy_cat rfl rfl (by have := itoa_size e.k hk.k0 hk.k1; simp only [size1]; omega) rfl rfl ?_
  refine sy_field fld_65_2 rfl rfl rfl ?_
  first | refine sy_ldr 0 one_9 rfl rfl rfl rfl rfl ?_
  refine sy_cat rfl rfl (by have := itoa_size e.k hk.k0 hk.k1; have := hk.s0; simp only [ByteArray.size_append, size1]; omega) rfl rfl ?_
  refine sy_assign rfl rfl rfl ?_
  refine sy_nil rfl ?_
  refine ny_next ?_
  refine cy_ret ?_
  refine ny_finR (res1 rfl rfl) (fun w hs => ⟨?_, hs.frm⟩)
  rfl
set_option maxRecDepth 100000 in
theorem turned_c (A : Option Addr) (l c F : Nat) (caps : List Value) (es : List Ev) (fs : Ev → ByteArray) (h : Hp) (hp : RowsAt h A 3 (es.map evC)) (hl : es.length = l) (hB : l * 32 ≤ 140737488355328) (hFB : callB Tryd.prog F = true) (hF : ∀ e, e ∈ es → C0 Tryd.prog F ([.agg (evC e).toArray] ++ caps) h (.string (fs e))) : CX Tryd.prog 69 [.slice A l c, .func (.func F) #[] caps.toArray] h (fun x : Option Addr × Nat => .slice x.1 es.length x.2) (fun x h' => RowsAt h' x.1 1 (es.map fun e => [Value.string (fs e)]) ∧ es.length ≤ x.2) := by
  refine enterX Tryd.func69 rfl rfl rfl (fun w => ?_)
  refine cy_seq ?_
  refine cy_region ?_
  refine sy_assign rfl rfl rfl ?_
  refine sy_nil rfl ?_
  refine ny_next ?_
  refine cy_seq ?_
  refine cy_region ?_
  refine sy_assign rfl rfl rfl ?_
  refine sy_nil rfl ?_
  refine ny_next ?_
  refine cy_seq ?_
  refine cy_seq ?_
  refine cy_region ?_
  refine sy_move rfl rfl rfl ?_
  refine sy_len rfl (len_slice Tryd.underlying59 _ _ _) rfl rfl ?_
  refine sy_move rfl rfl rfl ?_
  refine sy_nil rfl ?_
  refine ny_next ?_
  refine cy_block ?_
  refine cy_nilRow 9 1 ?_
  refine cy_loop (ι := Nat × Value) (fun s => s.1 ≤ l) (fun s => l - s.1) (fun s => [(1, .func (.func F) #[] caps.toArray), (5, s.2), (8, .slice A l c), (9, .int .i64 (l : Int)), (10, .int .i64 (s.1 : Int))]) (fun _ => h) (fun s => [Res.row s.2 9 1 s.1 (((es.take s.1).map fun e => [Value.string (fs e)]).flatten)]) (0, .slice none 0 0) [0] (Nat.zero_le _) ⟨rfl, rfl, rfl, rfl, rfl, trivial⟩ rfl rfl ?_
  rintro ⟨i, v⟩ hi
  simp only at hi ⊢
  refine cy_seq ?_
  refine cy_region ?_
  refine sy_cmp rfl rfl rfl rfl rfl ?_
  refine sy_nil rfl ?_
  refine ny_next ?_
  refine cy_seq ?_
  refine cy_cond rfl (fun hc11 => ?_) (fun hc11 => ?_)
  · have hlti : i < l := by have := of_decide_eq_true hc11; omega
    obtain ⟨e, he⟩ : ∃ e, es[i]? = some e := ⟨_, List.getElem?_eq_getElem (by omega)⟩
    have hec : (es.map evC)[i]? = some (evC e) := by rw [List.getElem?_map, he]; rfl
    obtain ⟨g, off, rfl, _⟩ := hp i _ hec
    refine cy_skip ?_
    refine ny_next ?_
    refine cy_seq ?_
    refine cy_block ?_
    refine cy_seq ?_
    refine cy_region ?_
    refine sy_idxS els_59 rfl rfl (by omega) (by omega) rfl rfl ?_
    refine sy_ldah (vs := evC e) agg_65 rfl rfl (hp.get hec) rfl rfl ?_
    refine sy_alloc zer_65 rfl rfl (fun b7 hb7 hM7 => ?_) (by simp)
    first | refine sy_stl 0 sz_65 rfl rfl rfl rfl rfl rfl rfl rfl ?_ | refine sy_stl 1 sz_65 rfl rfl rfl rfl rfl rfl rfl rfl ?_ | refine sy_stl 2 sz_65 rfl rfl rfl rfl rfl rfl rfl rfl ?_
    refine sy_nil rfl ?_
    refine ny_next ?_
    refine cy_region ?_
    refine sy_move rfl rfl rfl ?_
    refine sy_move rfl rfl rfl ?_
    first | refine sy_ldar 0 agg_65 rfl rfl rfl rfl rfl ?_ | refine sy_ldar 1 agg_65 rfl rfl rfl rfl rfl ?_ | refine sy_ldar 2 agg_65 rfl rfl rfl rfl rfl ?_
    refine sy_callv rfl hFB rfl rfl (hF e (List.mem_of_getElem? he)) rfl rfl ?_
    refine sy_buildSlice rfl (fun w => bsl_72_1_0 w) rfl rfl (fun b18 hb18 hM18 => ?_) (by simp)
    refine sy_append 2 0 row_72 (by decide) rfl rfl rfl rfl rfl rfl (by omega) (by simp only [maxLen]; omega) rfl rfl (fun v19 => ?_)
    refine sy_assign rfl rfl rfl ?_
    refine sy_nil rfl ?_
    refine ny_blockN ?_
    refine ny_next ?_
    refine cy_region ?_
    refine sy_addi (z := ((i + 1 : Nat) : Int)) rfl rfl (by omega) (by omega) (by omega) rfl rfl ?_
    refine sy_move rfl rfl rfl ?_
    refine sy_nil rfl ?_
    refine ny_round (i + 1, v19) [0] (show i + 1 ≤ l by omega) (show l - (i + 1) < l - i by omega) ⟨rfl, rfl, rfl, rfl, rfl, trivial⟩ rfl ?_
    show _ = some [Res.row v19 9 1 (i + 1) (((es.take (i + 1)).map fun e => [Value.string (fs e)]).flatten)]
    rw [strs_snoc he]
    rfl
  · have hie : i = es.length := by have := of_decide_eq_false hc11; omega
    subst hie
    refine cy_exit ?_
    refine ny_thenE ?_
    refine ny_thenE ?_
    refine ny_blockX ?_
    refine ny_next ?_
    refine cy_seq ?_
    refine cy_region ?_
    refine sy_move rfl rfl rfl ?_
    refine sy_assign rfl rfl rfl ?_
    refine sy_nil rfl ?_
    refine ny_next ?_
    refine cy_ret ?_
    refine ny_finR (res1 rfl rfl) (fun w hs => ?_)
    obtain ⟨A2, c2, h2, rfl, hlc, hcm, hlen, hle, hcell, hpos, hs2⟩ := frzRow 0 rfl (fun _ _ => by simp) hs
    rw [List.take_length] at hcell
    exact ⟨(A2, c2), h2, rfl, ⟨rows_row (by decide) (str_len _ _) hcell, hlc⟩, hs2.toGrow⟩
set_option maxRecDepth 100000 in
theorem texts_c (A : Option Addr) (l c : Nat) (es : List Ev) (h : Hp) (hp : RowsAt h A 3 (es.map evC)) (hl : es.length = l) (hB : l * 32 ≤ 140737488355328) (hk : ∀ e, e ∈ es → okE e) (ht : Tab10 h) : CX Tryd.prog 41 [.slice A l c] h (fun x : Option Addr × Nat => .slice x.1 es.length x.2) (fun x h' => RowsAt h' x.1 1 (es.map fun e => [Value.string (txt e)]) ∧ es.length ≤ x.2) := by
  refine enterX Tryd.func41 rfl rfl rfl (fun w => ?_)
  refine cy_seq ?_
  refine cy_region ?_
  refine sy_assign rfl rfl rfl ?_
  refine sy_nil rfl ?_
  refine ny_next ?_
  refine cy_seq ?_
  refine cy_region ?_
  refine sy_move rfl rfl rfl ?_
  refine sy_callx call_69 rfl (turned_c A l c 70 [] es txt _ hp hl hB call_70 (fun e he => texts1_c e _ (hk e he) ht)) rfl rfl (fun x h4 hx hle4 => ?_)
  refine sy_assign rfl rfl rfl ?_
  refine sy_nil rfl ?_
  refine ny_next ?_
  refine cy_ret ?_
  exact ny_finR (res1 rfl rfl) (fun w hs => ⟨x, h4, rfl, hx, hs.toGrow⟩)
set_option maxRecDepth 100000 in
theorem beside_c (A B : Option Addr) (l c l2 c2 : Nat) (es fs : List Ev) (h : Hp) (hp : RowsAt h A 3 (es.map evC)) (hl : es.length = l) (hq : RowsAt h B 3 (fs.map evC)) (hl2 : fs.length = l2) (hB : l ≤ 9223372036854775807) (hB2 : l2 ≤ 9223372036854775807) : C0 Tryd.prog 39 [.slice A l c, .slice B l2 c2] h (.bool (besideB es fs)) := by
  refine enter0 Tryd.func39 rfl rfl rfl (fun w => ?_)
  refine cy_seq ?_
  refine cy_region ?_
  refine sy_assign rfl rfl rfl ?_
  refine sy_nil rfl ?_
  refine ny_next ?_
  refine cy_seq ?_
  refine cy_seq ?_
  refine cy_region ?_
  refine sy_move rfl rfl rfl ?_
  refine sy_len rfl (len_slice Tryd.underlying59 _ _ _) rfl rfl ?_
  refine sy_move rfl rfl rfl ?_
  refine sy_len rfl (len_slice Tryd.underlying59 _ _ _) rfl rfl ?_
  refine sy_min rfl rfl rfl rfl ?_
  obtain ⟨k, hk⟩ : ∃ k, k = min l l2 := ⟨_, rfl⟩
  rw [show (if (l2 : Int) < (l : Int) then (l2 : Int) else (l : Int)) = (k : Int) by split <;> omega]
  refine sy_move rfl rfl rfl ?_
  refine sy_nil rfl ?_
  refine ny_next ?_
  refine cy_block ?_
  refine cy_loop (ι := Nat) (fun i => i ≤ k ∧ besideN es fs i = true) (fun i => k - i) (fun i => [(0, .slice A l c), (1, .slice B l2 c2), (10, .int .i64 (k : Int)), (11, .int .i64 (i : Int))]) (fun _ => h) (fun _ => []) 0 [] ⟨Nat.zero_le _, rfl⟩ ⟨rfl, rfl, rfl, rfl, trivial⟩ rfl rfl ?_
  rintro i ⟨hi, hpre⟩
  refine cy_seq ?_
  refine cy_region ?_
  refine sy_cmp rfl rfl rfl rfl rfl ?_
  refine sy_nil rfl ?_
  refine ny_next ?_
  refine cy_seq ?_
  refine cy_cond rfl (fun hc12 => ?_) (fun hc12 => ?_)
  · have hlti : i < k := by have := of_decide_eq_true hc12; omega
    obtain ⟨e, he⟩ : ∃ e, es[i]? = some e := ⟨_, List.getElem?_eq_getElem (by omega)⟩
    obtain ⟨f, hf⟩ : ∃ f, fs[i]? = some f := ⟨_, List.getElem?_eq_getElem (by omega)⟩
    have hec : (es.map evC)[i]? = some (evC e) := by rw [List.getElem?_map, he]; rfl
    have hfc : (fs.map evC)[i]? = some (evC f) := by rw [List.getElem?_map, hf]; rfl
    obtain ⟨g, off, rfl, _⟩ := hp i _ hec
    obtain ⟨g2, off2, rfl, _⟩ := hq i _ hfc
    refine cy_skip ?_
    refine ny_next ?_
    refine cy_seq ?_
    refine cy_block ?_
    refine cy_seq ?_
    refine cy_region ?_
    refine sy_move rfl rfl rfl ?_
    refine sy_assign rfl rfl rfl ?_
    refine sy_nil rfl ?_
    refine ny_next ?_
    refine cy_seq ?_
    refine cy_regionQ mixedA (by kernel_rfl) ?_
    refine sy_move rfl rfl rfl ?_
    refine sy_move rfl rfl rfl ?_
    refine sy_idxS els_59 rfl rfl (by omega) (by omega) rfl rfl ?_
    refine sy_ldah (vs := evC e) agg_65 rfl rfl (hp.get hec) rfl rfl ?_
    refine sy_move rfl rfl rfl ?_
    refine sy_move rfl rfl rfl ?_
    refine sy_idxS els_59 rfl rfl (by omega) (by omega) rfl rfl ?_
    refine sy_ldah (vs := evC f) agg_65 rfl rfl (hq.get hfc) rfl rfl ?_
    refine sy_val rfl rfl rfl (fun a w ha _ => run_neEv ha rfl rfl) ?_
    refine sy_nil rfl ?_
    refine ny_next ?_
    refine cy_cond rfl (fun hc22 => ?_) (fun hc22 => ?_)
    · refine cy_seq ?_
      refine cy_region ?_
      refine sy_assign rfl rfl rfl ?_
      refine sy_nil rfl ?_
      refine ny_next ?_
      refine cy_ret ?_
      refine ny_blockR ?_
      refine ny_thenR ?_
      refine ny_thenR ?_
      refine ny_blockR ?_
      refine ny_thenR ?_
      refine ny_finR (res1 rfl rfl) (fun w hs => ⟨?_, hs.frm⟩)
      rw [beside_no hpre hlti he hf hk hl hl2 hc22]
    · refine cy_skip ?_
      refine ny_blockN ?_
      refine ny_next ?_
      refine cy_region ?_
      refine sy_addi (z := ((i + 1 : Nat) : Int)) rfl rfl (by omega) (by omega) (by omega) rfl rfl ?_
      refine sy_move rfl rfl rfl ?_
      refine sy_nil rfl ?_
      refine ny_round (i + 1) [] ⟨by omega, ?_⟩ (show k - (i + 1) < k - i by omega) ⟨rfl, rfl, rfl, rfl, trivial⟩ rfl rfl
      exact besideN_yes hpre he hf hc22
  · have hie : i = k := by have := of_decide_eq_false hc12; omega
    subst hie
    refine cy_exit ?_
    refine ny_thenE ?_
    refine ny_thenE ?_
    refine ny_blockX ?_
    refine ny_next ?_
    refine cy_seq ?_
    refine cy_region ?_
    refine sy_assign rfl rfl rfl ?_
    refine sy_nil rfl ?_
    refine ny_next ?_
    refine cy_ret ?_
    refine ny_finR (res1 rfl rfl) (fun w hs => ⟨?_, hs.frm⟩)
    rw [beside_yes (by rw [hl, hl2, ← hk]; exact hpre)]
set_option maxRecDepth 100000 in
theorem begins_c (A B : Option Addr) (l c l2 c2 : Nat) (es fs : List Ev) (h : Hp) (hp : RowsAt h A 3 (es.map evC)) (hl : es.length = l) (hq : RowsAt h B 3 (fs.map evC)) (hl2 : fs.length = l2) (hB : l ≤ 9223372036854775807) (hB2 : l2 ≤ 9223372036854775807) : C0 Tryd.prog 68 [.slice A l c, .slice B l2 c2] h (.bool (decide (l ≤ l2) && besideN es fs l)) := by
  refine enter0 Tryd.func68 rfl rfl rfl (fun w => ?_)
  refine cy_seq ?_
  refine cy_region ?_
  refine sy_assign rfl rfl rfl ?_
  refine sy_nil rfl ?_
  refine ny_next ?_
  refine cy_seq ?_
  refine cy_seq ?_
  refine cy_region ?_
  refine sy_move rfl rfl rfl ?_
  refine sy_len rfl (len_slice Tryd.underlying59 _ _ _) rfl rfl ?_
  refine sy_move rfl rfl rfl ?_
  refine sy_len rfl (len_slice Tryd.underlying59 _ _ _) rfl rfl ?_
  refine sy_cmp rfl rfl rfl rfl rfl ?_
  refine sy_nil rfl ?_
  refine ny_next ?_
  refine cy_cond rfl (fun hc10 => ?_) (fun hc10 => ?_)
  · refine cy_seq ?_
    refine cy_region ?_
    refine sy_assign rfl rfl rfl ?_
    refine sy_nil rfl ?_
    refine ny_next ?_
    refine cy_ret ?_
    refine ny_thenR ?_
    refine ny_finR (res1 rfl rfl) (fun w hs => ⟨?_, hs.frm⟩)
    rw [decide_eq_false (show ¬ l ≤ l2 by have := of_decide_eq_true hc10; omega)]; rfl
  · refine cy_skip ?_
    refine ny_next ?_
    refine cy_seq ?_
    refine cy_seq ?_
    refine cy_region ?_
    refine sy_assign rfl rfl rfl ?_
    refine sy_nil rfl ?_
    refine ny_next ?_
    refine cy_block ?_
    refine cy_loop (ι := Nat) (fun i => i ≤ l ∧ besideN es fs i = true) (fun i => l - i) (fun i => [(0, .slice A l c), (1, .slice B l2 c2), (5, .int .i64 (i : Int))]) (fun _ => h) (fun _ => []) 0 [] ⟨Nat.zero_le _, rfl⟩ ⟨rfl, rfl, rfl, trivial⟩ rfl rfl ?_
    rintro i ⟨hi, hpre⟩
    refine cy_seq ?_
    refine cy_seq ?_
    refine cy_region ?_
    refine sy_move rfl rfl rfl ?_
    refine sy_move rfl rfl rfl ?_
    refine sy_len rfl (len_slice Tryd.underlying59 _ _ _) rfl rfl ?_
    refine sy_cmp rfl rfl rfl rfl rfl ?_
    refine sy_nil rfl ?_
    refine ny_next ?_
    refine cy_cond rfl (fun hc14 => ?_) (fun hc14 => ?_)
    · have hlti : i < l := by have := of_decide_eq_true hc14; omega
      have hll : l ≤ l2 := by have := of_decide_eq_false hc10; omega
      obtain ⟨e, he⟩ : ∃ e, es[i]? = some e := ⟨_, List.getElem?_eq_getElem (by omega)⟩
      obtain ⟨f, hf⟩ : ∃ f, fs[i]? = some f := ⟨_, List.getElem?_eq_getElem (by omega)⟩
      have hec : (es.map evC)[i]? = some (evC e) := by rw [List.getElem?_map, he]; rfl
      have hfc : (fs.map evC)[i]? = some (evC f) := by rw [List.getElem?_map, hf]; rfl
      obtain ⟨g, off, rfl, _⟩ := hp i _ hec
      obtain ⟨g2, off2, rfl, _⟩ := hq i _ hfc
      refine cy_skip ?_
      refine ny_next ?_
      refine cy_seq ?_
      refine cy_block ?_
      refine cy_seq ?_
      refine cy_regionQ mixedA (by kernel_rfl) ?_
      refine sy_move rfl rfl rfl ?_
      refine sy_move rfl rfl rfl ?_
      refine sy_idxS els_59 rfl rfl (by omega) (by omega) rfl rfl ?_
      refine sy_field fld_65_0 rfl rfl rfl ?_
      refine sy_ldh one_3 rfl (hp.get hec 0 _ rfl) rfl rfl ?_
      refine sy_move rfl rfl rfl ?_
      refine sy_move rfl rfl rfl ?_
      refine sy_idxS els_59 rfl rfl (by omega) (by omega) rfl rfl ?_
      refine sy_field fld_65_0 rfl rfl rfl ?_
      refine sy_ldh one_3 rfl (hq.get hfc 0 _ rfl) rfl rfl ?_
      refine sy_cmp rfl rfl rfl rfl rfl ?_
      refine sy_move rfl rfl rfl ?_
      refine sy_cond (d := 28) _ rfl rfl (fun hg28 => ?_) (fun hg28 => ?_)
      · refine sy_skip rfl rfl rfl ?_
        refine sy_skip rfl rfl rfl ?_
        refine sy_skip rfl rfl rfl ?_
        refine sy_skip rfl rfl rfl ?_
        refine sy_skip rfl rfl rfl ?_
        refine sy_skip rfl rfl rfl ?_
        refine sy_skip rfl rfl rfl ?_
        refine sy_skip rfl rfl rfl ?_
        refine sy_skip rfl rfl rfl ?_
        refine sy_skip rfl rfl rfl ?_
        refine sy_skip rfl rfl rfl ?_
        refine sy_pickT rfl rfl rfl rfl ?_
        refine sy_move rfl rfl rfl ?_
        refine sy_skip rfl rfl rfl ?_
        refine sy_skip rfl rfl rfl ?_
        refine sy_skip rfl rfl rfl ?_
        refine sy_skip rfl rfl rfl ?_
        refine sy_skip rfl rfl rfl ?_
        refine sy_skip rfl rfl rfl ?_
        refine sy_skip rfl rfl rfl ?_
        refine sy_skip rfl rfl rfl ?_
        refine sy_skip rfl rfl rfl ?_
        refine sy_skip rfl rfl rfl ?_
        refine sy_skip rfl rfl rfl ?_
        refine sy_pickT rfl rfl rfl rfl ?_
        refine sy_nil rfl ?_
        refine ny_next ?_
        refine cy_condT rfl ?_
        refine cy_seq ?_
        refine cy_region ?_
        refine sy_assign rfl rfl rfl ?_
        refine sy_nil rfl ?_
        refine ny_next ?_
        refine cy_ret ?_
        refine ny_blockR ?_
        refine ny_thenR ?_
        refine ny_thenR ?_
        refine ny_blockR ?_
        refine ny_thenR ?_
        refine ny_finR (res1 rfl rfl) (fun w hs => ⟨?_, hs.frm⟩)
        rw [besideN_no hlti he hf (by first | exact .inr (.inr hc53) | exact .inr (.inl hg41) | exact .inl hg28), Bool.and_false]
      · refine sy_move rfl rfl rfl ?_
        refine sy_move rfl rfl rfl ?_
        refine sy_idxS els_59 rfl rfl (by omega) (by omega) rfl rfl ?_
        refine sy_field fld_65_1 rfl rfl rfl ?_
        refine sy_ldh one_3 rfl (hp.get hec 1 _ rfl) rfl rfl ?_
        refine sy_move rfl rfl rfl ?_
        refine sy_move rfl rfl rfl ?_
        refine sy_idxS els_59 rfl rfl (by omega) (by omega) rfl rfl ?_
        refine sy_field fld_65_1 rfl rfl rfl ?_
        refine sy_ldh one_3 rfl (hq.get hfc 1 _ rfl) rfl rfl ?_
        refine sy_cmp rfl rfl rfl rfl rfl ?_
        refine sy_pickF rfl rfl rfl rfl ?_
        refine sy_move rfl rfl rfl ?_
        refine sy_cond (d := 41) _ rfl rfl (fun hg41 => ?_) (fun hg41 => ?_)
        · refine sy_skip rfl rfl rfl ?_
          refine sy_skip rfl rfl rfl ?_
          refine sy_skip rfl rfl rfl ?_
          refine sy_skip rfl rfl rfl ?_
          refine sy_skip rfl rfl rfl ?_
          refine sy_skip rfl rfl rfl ?_
          refine sy_skip rfl rfl rfl ?_
          refine sy_skip rfl rfl rfl ?_
          refine sy_skip rfl rfl rfl ?_
          refine sy_skip rfl rfl rfl ?_
          refine sy_skip rfl rfl rfl ?_
          refine sy_pickT rfl rfl rfl rfl ?_
          refine sy_nil rfl ?_
          refine ny_next ?_
          refine cy_condT rfl ?_
          refine cy_seq ?_
          refine cy_region ?_
          refine sy_assign rfl rfl rfl ?_
          refine sy_nil rfl ?_
          refine ny_next ?_
          refine cy_ret ?_
          refine ny_blockR ?_
          refine ny_thenR ?_
          refine ny_thenR ?_
          refine ny_blockR ?_
          refine ny_thenR ?_
          refine ny_finR (res1 rfl rfl) (fun w hs => ⟨?_, hs.frm⟩)
          rw [besideN_no hlti he hf (by first | exact .inr (.inr hc53) | exact .inr (.inl hg41) | exact .inl hg28), Bool.and_false]
        · refine sy_move rfl rfl rfl ?_
          refine sy_move rfl rfl rfl ?_
          refine sy_idxS els_59 rfl rfl (by omega) (by omega) rfl rfl ?_
          refine sy_field fld_65_2 rfl rfl rfl ?_
          refine sy_ldh one_9 rfl (hp.get hec 2 _ rfl) rfl rfl ?_
          refine sy_move rfl rfl rfl ?_
          refine sy_move rfl rfl rfl ?_
          refine sy_idxS els_59 rfl rfl (by omega) (by omega) rfl rfl ?_
          refine sy_field fld_65_2 rfl rfl rfl ?_
          refine sy_ldh one_9 rfl (hq.get hfc 2 _ rfl) rfl rfl ?_
          refine sy_nes rfl rfl rfl rfl ?_
          refine sy_pickF rfl rfl rfl rfl ?_
          refine sy_nil rfl ?_
          refine ny_next ?_
          refine cy_cond rfl (fun hc53 => ?_) (fun hc53 => ?_)
          · refine cy_seq ?_
            refine cy_region ?_
            refine sy_assign rfl rfl rfl ?_
            refine sy_nil rfl ?_
            refine ny_next ?_
            refine cy_ret ?_
            refine ny_blockR ?_
            refine ny_thenR ?_
            refine ny_thenR ?_
            refine ny_blockR ?_
            refine ny_thenR ?_
            refine ny_finR (res1 rfl rfl) (fun w hs => ⟨?_, hs.frm⟩)
            rw [besideN_no hlti he hf (by first | exact .inr (.inr hc53) | exact .inr (.inl hg41) | exact .inl hg28), Bool.and_false]
          · refine cy_skip ?_
            refine ny_blockN ?_
            refine ny_next ?_
            refine cy_region ?_
            refine sy_move rfl rfl rfl ?_
            refine sy_addi (z := ((i + 1 : Nat) : Int)) rfl rfl (by omega) (by omega) (by omega) rfl rfl ?_
            refine sy_assign rfl rfl rfl ?_
            refine sy_nil rfl ?_
            refine ny_round (i + 1) [] ⟨by omega, ?_⟩ (show l - (i + 1) < l - i by omega) ⟨rfl, rfl, rfl, trivial⟩ rfl rfl
            exact besideN_yes3 hpre he hf hg28 hg41 hc53
    · have hie : i = l := by have := of_decide_eq_false hc14; omega
      subst hie
      have hll : i ≤ l2 := by have := of_decide_eq_false hc10; omega
      refine cy_exit ?_
      refine ny_thenE ?_
      refine ny_thenE ?_
      refine ny_blockX ?_
      refine ny_next ?_
      refine cy_seq ?_
      refine cy_region ?_
      refine sy_assign rfl rfl rfl ?_
      refine sy_nil rfl ?_
      refine ny_next ?_
      refine cy_ret ?_
      refine ny_finR (res1 rfl rfl) (fun w hs => ⟨?_, hs.frm⟩)
      rw [hpre, decide_eq_true hll]; rfl
set_option maxRecDepth 100000 in
theorem same_c (A B : Option Addr) (l c l2 c2 : Nat) (es fs : List Ev) (h : Hp) (hp : RowsAt h A 3 (es.map evC)) (hl : es.length = l) (hq : RowsAt h B 3 (fs.map evC)) (hl2 : fs.length = l2) (hB : l ≤ 9223372036854775807) (hB2 : l2 ≤ 9223372036854775807) : C0 Tryd.prog 38 [.slice A l c, .slice B l2 c2] h (.bool (sameB es fs)) := by
  refine enter0 Tryd.func38 rfl rfl rfl (fun w => ?_)
  refine cy_seq ?_
  refine cy_region ?_
  refine sy_assign rfl rfl rfl ?_
  refine sy_nil rfl ?_
  refine ny_next ?_
  refine cy_seq ?_
  refine cy_region ?_
  refine sy_move rfl rfl rfl ?_
  refine sy_len rfl (len_slice Tryd.underlying59 _ _ _) rfl rfl ?_
  refine sy_move rfl rfl rfl ?_
  refine sy_len rfl (len_slice Tryd.underlying59 _ _ _) rfl rfl ?_
  refine sy_cmp rfl rfl rfl rfl rfl ?_
  refine sy_move rfl rfl rfl ?_
  refine sy_cond (d := 10) _ rfl rfl (fun hg10 => ?_) (fun hg10 => ?_)
  · refine sy_move rfl rfl rfl ?_
    refine sy_move rfl rfl rfl ?_
    refine sy_call rfl call_68 rfl (begins_c A B l c l2 c2 es fs h hp hl hq hl2 hB hB2) rfl rfl ?_
    refine sy_pickT rfl rfl rfl rfl ?_
    refine sy_assign rfl rfl rfl ?_
    refine sy_nil rfl ?_
    refine ny_next ?_
    refine cy_ret ?_
    refine ny_finR (res1 rfl rfl) (fun w hs => ⟨?_, hs.frm⟩)
    unfold sameB
    rw [cast_beq] at hg10
    first | (have e1 : l = l2 := eq_of_beq hg10; rw [hl, hl2, decide_eq_true (show l ≤ l2 by omega), e1]; simp) | (rw [hl, hl2, hg10]; rfl)
  · refine sy_skip rfl rfl rfl ?_
    refine sy_skip rfl rfl rfl ?_
    refine sy_skip rfl rfl rfl ?_
    refine sy_pickF rfl rfl rfl rfl ?_
    refine sy_assign rfl rfl rfl ?_
    refine sy_nil rfl ?_
    refine ny_next ?_
    refine cy_ret ?_
    refine ny_finR (res1 rfl rfl) (fun w hs => ⟨?_, hs.frm⟩)
    unfold sameB
    rw [cast_beq] at hg10
    first | (have e1 : l = l2 := eq_of_beq hg10; rw [hl, hl2, decide_eq_true (show l ≤ l2 by omega), e1]; simp) | (rw [hl, hl2, hg10]; rfl)
set_option maxRecDepth 100000 in
theorem strings_c (A B : Option Addr) (l c l2 c2 : Nat) (xs ys : List ByteArray) (h : Hp) (hp : RowsAt h A 1 (xs.map fun s => [Value.string s])) (hl : xs.length = l) (hq : RowsAt h B 1 (ys.map fun s => [Value.string s])) (hl2 : ys.length = l2) (hB : l ≤ 9223372036854775807) (hB2 : l2 ≤ 9223372036854775807) : C0 Tryd.prog 42 [.slice A l c, .slice B l2 c2] h (.bool (decide (l ≤ l2) && strsN xs ys l)) := by
  refine enter0 Tryd.func42 rfl rfl rfl (fun w => ?_)
  refine cy_seq ?_
  refine cy_region ?_
  refine sy_assign rfl rfl rfl ?_
  refine sy_nil rfl ?_
  refine ny_next ?_
  refine cy_seq ?_
  refine cy_seq ?_
  refine cy_region ?_
  refine sy_move rfl rfl rfl ?_
  refine sy_len rfl (len_slice Tryd.underlying72 _ _ _) rfl rfl ?_
  refine sy_move rfl rfl rfl ?_
  refine sy_len rfl (len_slice Tryd.underlying72 _ _ _) rfl rfl ?_
  refine sy_cmp rfl rfl rfl rfl rfl ?_
  refine sy_nil rfl ?_
  refine ny_next ?_
  refine cy_cond rfl (fun hc10 => ?_) (fun hc10 => ?_)
  · refine cy_seq ?_
    refine cy_region ?_
    refine sy_assign rfl rfl rfl ?_
    refine sy_nil rfl ?_
    refine ny_next ?_
    refine cy_ret ?_
    refine ny_thenR ?_
    refine ny_finR (res1 rfl rfl) (fun w hs => ⟨?_, hs.frm⟩)
    rw [decide_eq_false (show ¬ l ≤ l2 by have := of_decide_eq_true hc10; omega)]; rfl
  · refine cy_skip ?_
    refine ny_next ?_
    refine cy_seq ?_
    refine cy_seq ?_
    refine cy_region ?_
    refine sy_assign rfl rfl rfl ?_
    refine sy_nil rfl ?_
    refine ny_next ?_
    refine cy_block ?_
    refine cy_loop (ι := Nat) (fun i => i ≤ l ∧ strsN xs ys i = true) (fun i => l - i) (fun i => [(0, .slice A l c), (1, .slice B l2 c2), (5, .int .i64 (i : Int))]) (fun _ => h) (fun _ => []) 0 [] ⟨Nat.zero_le _, rfl⟩ ⟨rfl, rfl, rfl, trivial⟩ rfl rfl ?_
    rintro i ⟨hi, hpre⟩
    refine cy_seq ?_
    refine cy_seq ?_
    refine cy_region ?_
    refine sy_move rfl rfl rfl ?_
    refine sy_move rfl rfl rfl ?_
    refine sy_len rfl (len_slice Tryd.underlying72 _ _ _) rfl rfl ?_
    refine sy_cmp rfl rfl rfl rfl rfl ?_
    refine sy_nil rfl ?_
    refine ny_next ?_
    refine cy_cond rfl (fun hc14 => ?_) (fun hc14 => ?_)
    · have hlti : i < l := by have := of_decide_eq_true hc14; omega
      have hll : l ≤ l2 := by have := of_decide_eq_false hc10; omega
      obtain ⟨e, he⟩ : ∃ e, xs[i]? = some e := ⟨_, List.getElem?_eq_getElem (by omega)⟩
      obtain ⟨f, hf⟩ : ∃ f, ys[i]? = some f := ⟨_, List.getElem?_eq_getElem (by omega)⟩
      have hec : (xs.map fun s => [Value.string s])[i]? = some ([Value.string e]) := by rw [List.getElem?_map, he]; rfl
      have hfc : (ys.map fun s => [Value.string s])[i]? = some ([Value.string f]) := by rw [List.getElem?_map, hf]; rfl
      obtain ⟨g, off, rfl, _⟩ := hp i _ hec
      obtain ⟨g2, off2, rfl, _⟩ := hq i _ hfc
      refine cy_skip ?_
      refine ny_next ?_
      refine cy_seq ?_
      refine cy_block ?_
      refine cy_seq ?_
      refine cy_regionQ mixedA (by kernel_rfl) ?_
      refine sy_move rfl rfl rfl ?_
      refine sy_move rfl rfl rfl ?_
      refine sy_idxS els_72 rfl rfl (by omega) (by omega) rfl rfl ?_
      refine sy_ldh one_9 rfl (hp.get hec 0 _ rfl) rfl rfl ?_
      refine sy_move rfl rfl rfl ?_
      refine sy_move rfl rfl rfl ?_
      refine sy_idxS els_72 rfl rfl (by omega) (by omega) rfl rfl ?_
      refine sy_ldh one_9 rfl (hq.get hfc 0 _ rfl) rfl rfl ?_
      refine sy_nes rfl rfl rfl rfl ?_
      refine sy_nil rfl ?_
      refine ny_next ?_
      refine cy_cond rfl (fun hc25 => ?_) (fun hc25 => ?_)
      · refine cy_seq ?_
        refine cy_region ?_
        refine sy_assign rfl rfl rfl ?_
        refine sy_nil rfl ?_
        refine ny_next ?_
        refine cy_ret ?_
        refine ny_blockR ?_
        refine ny_thenR ?_
        refine ny_thenR ?_
        refine ny_blockR ?_
        refine ny_thenR ?_
        refine ny_finR (res1 rfl rfl) (fun w hs => ⟨?_, hs.frm⟩)
        rw [strsN_no hlti he hf hc25, Bool.and_false]
      · refine cy_skip ?_
        refine ny_blockN ?_
        refine ny_next ?_
        refine cy_region ?_
        refine sy_move rfl rfl rfl ?_
        refine sy_addi (z := ((i + 1 : Nat) : Int)) rfl rfl (by omega) (by omega) (by omega) rfl rfl ?_
        refine sy_assign rfl rfl rfl ?_
        refine sy_nil rfl ?_
        refine ny_round (i + 1) [] ⟨by omega, ?_⟩ (show l - (i + 1) < l - i by omega) ⟨rfl, rfl, rfl, trivial⟩ rfl rfl
        exact strsN_yes hpre he hf hc25
    · have hie : i = l := by have := of_decide_eq_false hc14; omega
      subst hie
      have hll : i ≤ l2 := by have := of_decide_eq_false hc10; omega
      refine cy_exit ?_
      refine ny_thenE ?_
      refine ny_thenE ?_
      refine ny_blockX ?_
      refine ny_next ?_
      refine cy_seq ?_
      refine cy_region ?_
      refine sy_assign rfl rfl rfl ?_
      refine sy_nil rfl ?_
      refine ny_next ?_
      refine cy_ret ?_
      refine ny_finR (res1 rfl rfl) (fun w hs => ⟨?_, hs.frm⟩)
      rw [hpre, decide_eq_true hll]; rfl
end Go.Proofs.YtamifocfbcmfkaaDoor

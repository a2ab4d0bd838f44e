/- The document's functions on levels: what each returns. Conditions: none. Printed by a program of this session. -/
import Derived.Test.YtamifocfbcmfkaaDoorFactsR
import Derived.Test.YtamifocfbcmfkaaDoorLattRef
import Derived.Test.YtamifocfbcmfkaaDoorEngFam
set_option linter.unusedVariables false
set_option linter.unusedSimpArgs false
namespace Go.Proofs.YtamifocfbcmfkaaDoor
open Go.RowKit Go.Proofs.YtamifocfbcmfkaaDoor.E Go.Proofs.YtamifocfbcmfkaaDoor.LattP
section
variable {n : Nat} {d : Dt} {a b : Int} {i e : Nat}
def lubP (n : Nat) (d : Dt) (a b : Int) (i e : Nat) : Bool := leqD n d a i && leqD n d b i && (List.range e).all fun e => !badU n d a b i e
def glbP (n : Nat) (d : Dt) (a b : Int) (i e : Nat) : Bool := leqD n d i a && leqD n d i b && (List.range e).all fun e => !badL n d a b i e
theorem lubP_T (h : leqD n d a i = true) : lubP n d a b i 0 = leqD n d b i := by unfold lubP; rw [h]; simp
theorem lubP_F (h : leqD n d a i = false) : lubP n d a b i 0 = false := by unfold lubP; rw [h]; simp
theorem glbP_T (h : leqD n d i a = true) : glbP n d a b i 0 = leqD n d i b := by unfold glbP; rw [h]; simp
theorem glbP_F (h : leqD n d i a = false) : glbP n d a b i 0 = false := by unfold glbP; rw [h]; simp
theorem all_succ {f : Nat → Bool} {e : Nat} : (List.range (e + 1)).all f = ((List.range e).all f && f e) := by rw [List.range_succ, List.all_append]; simp
theorem all_T {f : Nat → Bool} {e : Nat} (h : (List.range e).all f = true) : (List.range (e + 1)).all f = f e := by rw [all_succ, h, Bool.true_and]
theorem all_F {f : Nat → Bool} {e : Nat} (h : (List.range e).all f = false) : (List.range (e + 1)).all f = false := by rw [all_succ, h, Bool.false_and]
theorem lubP_bad (h1 : leqD n d a e = true) (h2 : leqD n d b e = true) (h3 : (!leqD n d i e) = true) : lubP n d a b i (e + 1) = false := by
  unfold lubP; rw [all_succ]
  have : badU n d a b i e = true := by unfold badU; rw [h1, h2, h3]; rfl
  rw [this]; simp
theorem lubP_ok (h : leqD n d a e = false ∨ leqD n d b e = false ∨ (leqD n d a e = true ∧ leqD n d b e = true ∧ (!leqD n d i e) = false)) : lubP n d a b i (e + 1) = lubP n d a b i e := by
  unfold lubP; rw [all_succ]
  have : badU n d a b i e = false := by unfold badU; rcases h with h | h | ⟨h1, h2, h3⟩ <;> simp_all
  rw [this]; simp
theorem glbP_bad (h1 : leqD n d e a = true) (h2 : leqD n d e b = true) (h3 : (!leqD n d e i) = true) : glbP n d a b i (e + 1) = false := by
  unfold glbP; rw [all_succ]
  have : badL n d a b i e = true := by unfold badL; rw [h1, h2, h3]; rfl
  rw [this]; simp
theorem glbP_ok (h : leqD n d e a = false ∨ leqD n d e b = false ∨ (leqD n d e a = true ∧ leqD n d e b = true ∧ (!leqD n d e i) = false)) : glbP n d a b i (e + 1) = glbP n d a b i e := by
  unfold glbP; rw [all_succ]
  have : badL n d a b i e = false := by unfold badL; rcases h with h | h | ⟨h1, h2, h3⟩ <;> simp_all
  rw [this]; simp
end
theorem range_snoc {α : Type} (f f' : Nat → α) {a : Nat} {z : α} (h1 : f a = z) (h2 : ∀ k, k < a → f k = f' k) : (List.range (a + 1)).map f = (List.range a).map f' ++ [z] := by
  rw [List.range_succ, List.map_append, List.map_congr_left (fun k hk => h2 k (List.mem_range.1 hk))]
  simp [h1]
theorem sub_table {r b44 b18 : Res} {L : List Res} : SubP (r :: (L ++ [b18])) (r :: b44 :: b18 :: L) :=
  ⟨r :: b44 :: (L ++ [b18]), ((List.perm_append_singleton b18 L).symm.cons b44).cons r, (List.sublist_cons_self _ _).cons_cons r⟩
theorem rep_row {n : Nat} : (List.replicate n (Value.bool false)) = rowC n (fun _ => false) := by
  unfold rowC
  apply List.ext_getElem?
  intro j
  by_cases hj : j < n <;> simp [hj]
theorem make_b : makeOk Tryd.prog 106 4 1 (.bool false) := ⟨Tryd.underlying106, by
  have h : (Tryd.prog.info? 4).map (fun i => (i.zero, i.size, i.bytes)) = some (some (.bool false), 1, 1) := by kernel_rfl
  obtain ⟨inf, h1, h2⟩ := Option.map_eq_some_iff.1 h
  simp only [Prod.mk.injEq] at h2
  exact ⟨inf, _, h1, h2.1, h2.2.1, h2.2.2, rfl⟩⟩
section
variable {n : Nat} {q : List (Int × Int)} {a j : Nat}
theorem row0 : rowC n (setB (fun _ => false) a true) = rowC n (fun b => a == b || (q.take 0).any fun x => x.1 == (a : Int) && x.2 == (b : Int)) := by
  congr 1
  funext b
  unfold setB
  by_cases h : b = a
  · subst h; simp
  · have : (a == b) = false := by simpa using fun e => h e.symm
    rw [if_neg h, this]
    simp
theorem rowY {y1 y2 : Nat} (hx : q[j]? = some ((y1 : Int), (y2 : Int))) (h : y1 = a) : rowC n (fun b => a == b || (q.take (j + 1)).any fun x => x.1 == (a : Int) && x.2 == (b : Int)) = rowC n (setB (fun b => a == b || (q.take j).any fun x => x.1 == (a : Int) && x.2 == (b : Int)) y2 true) := by
  congr 1
  funext b
  unfold setB
  rw [take_snoc hx, List.any_append]
  subst h
  by_cases e : b = y2
  · subst e; simp
  · have : ((y2 : Int) == (b : Int)) = false := by rw [cast_beq]; simpa using fun k => e k.symm
    rw [if_neg e]
    simp [this]
theorem rowN {y1 y2 : Nat} (hx : q[j]? = some ((y1 : Int), (y2 : Int))) (h : ((y1 : Int) == (a : Int)) = false) : rowC n (fun b => a == b || (q.take (j + 1)).any fun x => x.1 == (a : Int) && x.2 == (b : Int)) = rowC n (fun b => a == b || (q.take j).any fun x => x.1 == (a : Int) && x.2 == (b : Int)) := by
  congr 1
  funext b
  rw [take_snoc hx, List.any_append]
  simp [h]
theorem rowE : rowC n (fun b => a == b || (q.take q.length).any fun x => x.1 == (a : Int) && x.2 == (b : Int)) = rowC n (t0 q a) := by
  rw [List.take_length]
  rfl
end
theorem rows_in {n : Nat} {h : Hp} {A : Option Addr} {gs : Nat → Nat} (hn : 1 ≤ n) (hc : ∀ j u, ((List.range n).map fun k => Value.slice (some ⟨gs k, 0, none⟩) n n)[j]? = some u → ∃ g, A = some ⟨g, 0, none⟩ ∧ h.cell ⟨g, j, none⟩ = some u) :
    ∃ g, A = some ⟨g, 0, none⟩ ∧ ∀ a : Nat, a < n → h.cell ⟨g, 0 + ((a : Int)).toNat * 1, none⟩ = some (.slice (some ⟨gs a, 0, none⟩) n n) := by
  obtain ⟨g, h1, _⟩ := hc 0 (Value.slice (some ⟨gs 0, 0, none⟩) n n) (by simp [show 0 < n by omega])
  refine ⟨g, h1, fun a ha => ?_⟩
  obtain ⟨g', h2, h3⟩ := hc a (Value.slice (some ⟨gs a, 0, none⟩) n n) (by simp [ha])
  rw [h1] at h2
  injection h2 with h2
  injection h2 with h2
  subst h2
  simpa using h3
section
variable {n : Nat} {gs : Nat → Nat} {T : Nat}
theorem fam_mem {f : Dt} {a : Nat} (ha : a < n) : Res.blk (gs a) (.cells (rowC n (f a)).toArray T (0, 0)) ∈ (List.range n).map fun x => Res.blk (gs x) (.cells (rowC n (f x)).toArray T (0, 0)) := List.mem_map.2 ⟨a, List.mem_range.2 ha, rfl⟩
theorem fam_at {f : Nat → Bool} {b : Nat} (hb : b < n) : (rowC n f)[0 + ((b : Int)).toNat * 1]? = some (.bool (f b)) := by
  have : 0 + ((b : Int)).toNat * 1 = b := by simp
  rw [this]
  exact rowC_get hb
theorem fam_st (gs : Nat → Nat) (t : Dt) (k b : Nat) {a : Nat} (ha : a < n) : ∃ H1, ((List.range n).map fun x => Res.blk (gs x) (.cells (rowC n (cur t k a b x)).toArray T (0, 0))).Perm (Res.blk (gs a) (.cells (rowC n (cur t k a b a)).toArray T (0, 0)) :: H1) ∧
    (Res.blk (gs a) (.cells (rowC n (setB (cur t k a b a) b (upd2 t k a b))).toArray T (0, 0)) :: H1).Perm ((List.range n).map fun x => Res.blk (gs x) (.cells (rowC n (cur t k a (b + 1) x)).toArray T (0, 0))) := by
  obtain ⟨H1, h1, h2⟩ := range_perm ha (fun x => Res.blk (gs x) (.cells (rowC n (cur t k a b x)).toArray T (0, 0))) (fun x => Res.blk (gs x) (.cells (rowC n (cur t k a (b + 1) x)).toArray T (0, 0))) (fun x hx => by
    have := congrFun (cur_step (t := t) (k := k) a b) x
    simp only [if_neg hx] at this
    rw [← this])
  refine ⟨H1, h1, ?_⟩
  have := congrFun (cur_step (t := t) (k := k) a b) a
  simp only [if_true] at this
  rw [this]
  exact h2
theorem fam_end {k : Nat} {q : List (Int × Int)} : (List.range n).map (fun x => Res.blk (gs x) (.cells (rowC n (tw q (k + 1) x)).toArray T (0, 0))) = (List.range n).map (fun x => Res.blk (gs x) (.cells (rowC n (cur (tw q k) k n 0 x)).toArray T (0, 0))) := by
  apply List.map_congr_left
  intro x hx
  rw [cur_end (List.mem_range.1 hx)]
  rfl
theorem fam_T {t : Dt} {k a b : Nat} (h : t a b = true) : true = upd2 t k a b := by unfold upd2; rw [h]; rfl
theorem fam_TF {t : Dt} {k a b : Nat} (h : t a b = false) (h2 : t a k = true) : t k b = upd2 t k a b := by unfold upd2; rw [h, h2]; simp
theorem fam_FF {t : Dt} {k a b : Nat} (h : t a b = false) (h2 : t a k = false) : false = upd2 t k a b := by unfold upd2; rw [h, h2]; rfl
theorem table_at {h5 h6 : Hp} {g5 : Nat} {d : Dt} (hrow : ∀ a : Nat, a < n → h5.cell ⟨g5, 0 + ((a : Int)).toNat * 1, none⟩ = some (.slice (some ⟨gs a, 0, none⟩) n n)) (hle : h5.Le h6)
    (hF : ∀ g o, Res.blk g o ∈ ((List.range n).map fun x => Res.blk (gs x) (.cells (rowC n (d x)).toArray T (0, 0))) → h6 g = some o) : RefT h6 (some ⟨g5, 0, none⟩) n d := fun a ha => by
  refine ⟨g5, gs a, n, rfl, hle.cell (hrow a ha), fun b hb => ?_⟩
  have h1 := hF _ _ (fam_mem (f := d) ha)
  have h2 := fam_at (f := d a) hb
  simp only [Hp.cell, h1]
  simpa using h2
end
set_option maxRecDepth 100000 in
theorem rIs_c (A : Option Addr) (n c : Nat) (a : Int) (h : Hp) : C0 Tryd.prog 64 [.agg #[.slice A n c], .int .i64 a] h (.bool (isI n a)) := by
  refine enter0 Tryd.func64 rfl rfl rfl (fun w => ?_)
  refine cy_seq ?_
  refine cy_region ?_
  refine sy_box rfl rfl rfl rfl (fun b2 hb2 hM2 => ?_) (by simp)
  refine sy_assign rfl rfl rfl ?_
  refine sy_nil rfl ?_
  refine ny_next ?_
  refine cy_seq ?_
  refine cy_region ?_
  refine sy_move rfl rfl rfl ?_
  refine sy_cmp rfl rfl rfl rfl rfl ?_
  refine sy_move rfl rfl rfl ?_
  refine sy_cond (d := 7) _ rfl rfl (fun hg7 => ?_) (fun hg7 => ?_)
  · refine sy_move rfl rfl rfl ?_
    refine sy_field fld_52_0 rfl rfl rfl ?_
    first | refine sy_ldr 0 one_50 rfl rfl rfl rfl rfl ?_
    refine sy_len rfl (len_slice Tryd.underlying50 _ _ _) rfl rfl ?_
    refine sy_cmp rfl rfl rfl rfl rfl ?_
    refine sy_pickT rfl rfl rfl rfl ?_
    refine sy_assign rfl rfl rfl ?_
    refine sy_nil rfl ?_
    refine ny_next ?_
    refine cy_ret ?_
    refine ny_finR (res1 rfl rfl) (fun w hs => ⟨?_, hs.frm⟩)
    simp_all [isI] <;> omega
  · refine sy_skip rfl rfl rfl ?_
    refine sy_skip rfl rfl rfl ?_
    refine sy_skip rfl rfl rfl ?_
    refine sy_skip rfl rfl rfl ?_
    refine sy_skip rfl rfl rfl ?_
    refine sy_pickF rfl rfl rfl rfl ?_
    refine sy_assign rfl rfl rfl ?_
    refine sy_nil rfl ?_
    refine ny_next ?_
    refine cy_ret ?_
    refine ny_finR (res1 rfl rfl) (fun w hs => ⟨?_, hs.frm⟩)
    simp_all [isI] <;> omega
set_option maxRecDepth 100000 in
theorem rLeq_c (A : Option Addr) (n c : Nat) (d : Dt) (a b : Int) (h : Hp) (hT : RefT h A n d) : C0 Tryd.prog 65 [.agg #[.slice A n c], .int .i64 a, .int .i64 b] h (.bool (leqD n d a b)) := by
  refine enter0 Tryd.func65 rfl rfl rfl (fun w => ?_)
  refine cy_seq ?_
  refine cy_region ?_
  refine sy_box rfl rfl rfl rfl (fun b3 hb3 hM3 => ?_) (by simp)
  refine sy_assign rfl rfl rfl ?_
  refine sy_nil rfl ?_
  refine ny_next ?_
  refine cy_seq ?_
  refine cy_region ?_
  first | refine sy_ldar 0 agg_52 rfl rfl rfl rfl rfl ?_
  refine sy_move rfl rfl rfl ?_
  refine sy_call rfl call_64 rfl (rIs_c _ _ _ _ _) rfl rfl ?_
  refine sy_move rfl rfl rfl ?_
  refine sy_cond (d := 10) _ rfl rfl (fun hg10 => ?_) (fun hg10 => ?_)
  · first | refine sy_ldar 0 agg_52 rfl rfl rfl rfl rfl ?_
    refine sy_move rfl rfl rfl ?_
    refine sy_call rfl call_64 rfl (rIs_c _ _ _ _ _) rfl rfl ?_
    refine sy_pickT rfl rfl rfl rfl ?_
    refine sy_move rfl rfl rfl ?_
    refine sy_cond (d := 15) _ rfl rfl (fun hg15 => ?_) (fun hg15 => ?_)
    · obtain ⟨a, rfl, ha⟩ := isI_some hg10
      obtain ⟨b, rfl, hb⟩ := isI_some hg15
      obtain ⟨g0, g1, c1, rfl, hr1, hr2⟩ := hT a ha
      refine sy_field fld_52_0 rfl rfl rfl ?_
      first | refine sy_ldr 0 one_50 rfl rfl rfl rfl rfl ?_
      refine sy_move rfl rfl rfl ?_
      refine sy_idxS els_50 rfl rfl (by omega) (by omega) rfl rfl ?_
      refine sy_ldh one_106 rfl hr1 rfl rfl ?_
      refine sy_move rfl rfl rfl ?_
      refine sy_idxS els_106 rfl rfl (by omega) (by omega) rfl rfl ?_
      refine sy_ldh one_4 rfl (hr2 b hb) rfl rfl ?_
      refine sy_pickT rfl rfl rfl rfl ?_
      refine sy_assign rfl rfl rfl ?_
      refine sy_nil rfl ?_
      refine ny_next ?_
      refine cy_ret ?_
      refine ny_finR (res1 rfl rfl) (fun w hs => ⟨?_, hs.frm⟩)
      first | rw [leqD_nat ha hb] | simp_all [leqD]
    · refine sy_skip rfl rfl rfl ?_
      refine sy_skip rfl rfl rfl ?_
      refine sy_skip rfl rfl rfl ?_
      refine sy_skip rfl rfl rfl ?_
      refine sy_skip rfl rfl rfl ?_
      refine sy_skip rfl rfl rfl ?_
      refine sy_skip rfl rfl rfl ?_
      refine sy_skip rfl rfl rfl ?_
      refine sy_pickF rfl rfl rfl rfl ?_
      refine sy_assign rfl rfl rfl ?_
      refine sy_nil rfl ?_
      refine ny_next ?_
      refine cy_ret ?_
      refine ny_finR (res1 rfl rfl) (fun w hs => ⟨?_, hs.frm⟩)
      first | rw [leqD_nat ha hb] | simp_all [leqD]
  · refine sy_skip rfl rfl rfl ?_
    refine sy_skip rfl rfl rfl ?_
    refine sy_skip rfl rfl rfl ?_
    refine sy_pickF rfl rfl rfl rfl ?_
    refine sy_move rfl rfl rfl ?_
    refine sy_skip rfl rfl rfl ?_
    refine sy_skip rfl rfl rfl ?_
    refine sy_skip rfl rfl rfl ?_
    refine sy_skip rfl rfl rfl ?_
    refine sy_skip rfl rfl rfl ?_
    refine sy_skip rfl rfl rfl ?_
    refine sy_skip rfl rfl rfl ?_
    refine sy_skip rfl rfl rfl ?_
    refine sy_pickF rfl rfl rfl rfl ?_
    refine sy_assign rfl rfl rfl ?_
    refine sy_nil rfl ?_
    refine ny_next ?_
    refine cy_ret ?_
    refine ny_finR (res1 rfl rfl) (fun w hs => ⟨?_, hs.frm⟩)
    first | rw [leqD_nat ha hb] | simp_all [leqD]
set_option maxRecDepth 100000 in
theorem rJoin_c (A : Option Addr) (n c : Nat) (d : Dt) (a b : Int) (h : Hp) (hT : RefT h A n d) (hn : n ≤ 16) : C0 Tryd.prog 61 [.agg #[.slice A n c], .int .i64 a, .int .i64 b] h (.int .i64 (joinD n d a b)) := by
  refine enter0 Tryd.func61 rfl rfl rfl (fun w => ?_)
  refine cy_seq ?_
  refine cy_region ?_
  refine sy_box rfl rfl rfl rfl (fun b3 hb3 hM3 => ?_) (by simp)
  refine sy_assign rfl rfl rfl ?_
  refine sy_nil rfl ?_
  refine ny_next ?_
  refine cy_seq ?_
  refine cy_seq ?_
  refine cy_region ?_
  refine sy_assign rfl rfl rfl ?_
  refine sy_nil rfl ?_
  refine ny_next ?_
  refine cy_block ?_
  refine cy_loop (ι := Nat) (fun i => i ≤ n ∧ ∀ c, c < i → lubD n d a b c = false) (fun i => n - i) (fun i => [(1, .int .i64 a), (2, .int .i64 b), (3, .pointer (some ⟨b3, 0, none⟩)), (7, .int .i64 (i : Int))]) (fun _ => h) (fun _ => [.blk b3 (.cells [.slice A n c].toArray 52 (0, 0))]) 0 [0] ⟨Nat.zero_le _, fun c hc => absurd hc (Nat.not_lt_zero c)⟩ ⟨rfl, rfl, rfl, rfl, trivial⟩ rfl rfl ?_
  rintro i ⟨hi, hprei⟩
  refine cy_seq ?_
  refine cy_seq ?_
  refine cy_region ?_
  refine sy_move rfl rfl rfl ?_
  refine sy_field fld_52_0 rfl rfl rfl ?_
  first | refine sy_ldr 0 one_50 rfl rfl rfl rfl rfl ?_
  refine sy_len rfl (len_slice Tryd.underlying50 _ _ _) rfl rfl ?_
  refine sy_cmp rfl rfl rfl rfl rfl ?_
  refine sy_nil rfl ?_
  refine ny_next ?_
  refine cy_cond rfl (fun hc14 => ?_) (fun hc14 => ?_)
  · have hlti : i < n := by have := of_decide_eq_true hc14; omega
    refine cy_skip ?_
    refine ny_next ?_
    refine cy_seq ?_
    refine cy_block ?_
    refine cy_seq ?_
    refine cy_region ?_
    first | refine sy_ldar 0 agg_52 rfl rfl rfl rfl rfl ?_
    refine sy_move rfl rfl rfl ?_
    refine sy_move rfl rfl rfl ?_
    refine sy_call rfl call_65 rfl (rLeq_c _ _ _ _ _ _ _ hT) rfl rfl ?_
    refine sy_move rfl rfl rfl ?_
    refine sy_cond (d := 21) _ rfl rfl (fun hg21 => ?_) (fun hg21 => ?_)
    · first | refine sy_ldar 0 agg_52 rfl rfl rfl rfl rfl ?_
      refine sy_move rfl rfl rfl ?_
      refine sy_move rfl rfl rfl ?_
      refine sy_call rfl call_65 rfl (rLeq_c _ _ _ _ _ _ _ hT) rfl rfl ?_
      refine sy_pickT rfl rfl rfl rfl ?_
      refine sy_assign rfl rfl rfl ?_
      refine sy_nil rfl ?_
      refine ny_next ?_
      refine cy_seq ?_
      refine cy_seq ?_
      refine cy_region ?_
      refine sy_assign rfl rfl rfl ?_
      refine sy_nil rfl ?_
      refine ny_next ?_
      refine cy_block ?_
      refine cy_loop (ι := Nat) (fun e => e ≤ n) (fun e => n - e) (fun e => [(1, .int .i64 a), (2, .int .i64 b), (3, .pointer (some ⟨b3, 0, none⟩)), (7, .int .i64 (i : Int)), (8, .bool (lubP n d a b i e)), (9, .int .i64 (e : Int))]) (fun _ => h) (fun _ => [.blk b3 (.cells [.slice A n c].toArray 52 (0, 0))]) 0 [0] (Nat.zero_le _) ⟨rfl, rfl, rfl, rfl, (by first | (rw [lubP_T hg21]; rfl) | (rw [lubP_F hg21]; rfl)), rfl, trivial⟩ rfl rfl ?_
      rintro e he
      refine cy_seq ?_
      refine cy_seq ?_
      refine cy_region ?_
      refine sy_move rfl rfl rfl ?_
      refine sy_field fld_52_0 rfl rfl rfl ?_
      first | refine sy_ldr 0 one_50 rfl rfl rfl rfl rfl ?_
      refine sy_len rfl (len_slice Tryd.underlying50 _ _ _) rfl rfl ?_
      refine sy_cmp rfl rfl rfl rfl rfl ?_
      refine sy_nil rfl ?_
      refine ny_next ?_
      refine cy_cond rfl (fun hc31 => ?_) (fun hc31 => ?_)
      · have hlte : e < n := by have := of_decide_eq_true hc31; omega
        refine cy_skip ?_
        refine ny_next ?_
        refine cy_seq ?_
        refine cy_block ?_
        refine cy_seq ?_
        refine cy_region ?_
        first | refine sy_ldar 0 agg_52 rfl rfl rfl rfl rfl ?_
        refine sy_move rfl rfl rfl ?_
        refine sy_move rfl rfl rfl ?_
        refine sy_call rfl call_65 rfl (rLeq_c _ _ _ _ _ _ _ hT) rfl rfl ?_
        refine sy_move rfl rfl rfl ?_
        refine sy_cond (d := 38) _ rfl rfl (fun hg38 => ?_) (fun hg38 => ?_)
        · first | refine sy_ldar 0 agg_52 rfl rfl rfl rfl rfl ?_
          refine sy_move rfl rfl rfl ?_
          refine sy_move rfl rfl rfl ?_
          refine sy_call rfl call_65 rfl (rLeq_c _ _ _ _ _ _ _ hT) rfl rfl ?_
          refine sy_pickT rfl rfl rfl rfl ?_
          refine sy_move rfl rfl rfl ?_
          refine sy_cond (d := 44) _ rfl rfl (fun hg44 => ?_) (fun hg44 => ?_)
          · first | refine sy_ldar 0 agg_52 rfl rfl rfl rfl rfl ?_
            refine sy_move rfl rfl rfl ?_
            refine sy_move rfl rfl rfl ?_
            refine sy_call rfl call_65 rfl (rLeq_c _ _ _ _ _ _ _ hT) rfl rfl ?_
            refine sy_not rfl rfl rfl ?_
            refine sy_pickT rfl rfl rfl rfl ?_
            refine sy_nil rfl ?_
            refine ny_next ?_
            refine cy_cond rfl (fun hc50 => ?_) (fun hc50 => ?_)
            · refine cy_region ?_
              refine sy_assign rfl rfl rfl ?_
              refine sy_nil rfl ?_
              refine ny_blockN ?_
              refine ny_next ?_
              refine cy_region ?_
              refine sy_move rfl rfl rfl ?_
              refine sy_addi (z := ((e + 1 : Nat) : Int)) rfl rfl (by omega) (by omega) (by omega) rfl rfl ?_
              refine sy_assign rfl rfl rfl ?_
              refine sy_nil rfl ?_
              refine ny_round (e + 1) [0] (show e + 1 ≤ n by omega) (show n - (e + 1) < n - e by omega) ⟨rfl, rfl, rfl, rfl, (by first | (rw [lubP_bad hg38 hg44 hc50]; rfl) | (rw [lubP_ok (.inr (.inr ⟨hg38, hg44, hc50⟩))]; rfl) | (rw [lubP_ok (.inr (.inl hg44))]; rfl) | (rw [lubP_ok (.inl hg38)]; rfl)), rfl, trivial⟩ rfl rfl
            · refine cy_skip ?_
              refine ny_blockN ?_
              refine ny_next ?_
              refine cy_region ?_
              refine sy_move rfl rfl rfl ?_
              refine sy_addi (z := ((e + 1 : Nat) : Int)) rfl rfl (by omega) (by omega) (by omega) rfl rfl ?_
              refine sy_assign rfl rfl rfl ?_
              refine sy_nil rfl ?_
              refine ny_round (e + 1) [0] (show e + 1 ≤ n by omega) (show n - (e + 1) < n - e by omega) ⟨rfl, rfl, rfl, rfl, (by first | (rw [lubP_bad hg38 hg44 hc50]; rfl) | (rw [lubP_ok (.inr (.inr ⟨hg38, hg44, hc50⟩))]; rfl) | (rw [lubP_ok (.inr (.inl hg44))]; rfl) | (rw [lubP_ok (.inl hg38)]; rfl)), rfl, trivial⟩ rfl rfl
          · refine sy_skip rfl rfl rfl ?_
            refine sy_skip rfl rfl rfl ?_
            refine sy_skip rfl rfl rfl ?_
            refine sy_skip rfl rfl rfl ?_
            refine sy_skip rfl rfl rfl ?_
            refine sy_pickF rfl rfl rfl rfl ?_
            refine sy_nil rfl ?_
            refine ny_next ?_
            refine cy_condF rfl ?_
            refine cy_skip ?_
            refine ny_blockN ?_
            refine ny_next ?_
            refine cy_region ?_
            refine sy_move rfl rfl rfl ?_
            refine sy_addi (z := ((e + 1 : Nat) : Int)) rfl rfl (by omega) (by omega) (by omega) rfl rfl ?_
            refine sy_assign rfl rfl rfl ?_
            refine sy_nil rfl ?_
            refine ny_round (e + 1) [0] (show e + 1 ≤ n by omega) (show n - (e + 1) < n - e by omega) ⟨rfl, rfl, rfl, rfl, (by first | (rw [lubP_bad hg38 hg44 hc50]; rfl) | (rw [lubP_ok (.inr (.inr ⟨hg38, hg44, hc50⟩))]; rfl) | (rw [lubP_ok (.inr (.inl hg44))]; rfl) | (rw [lubP_ok (.inl hg38)]; rfl)), rfl, trivial⟩ rfl rfl
        · refine sy_skip rfl rfl rfl ?_
          refine sy_skip rfl rfl rfl ?_
          refine sy_skip rfl rfl rfl ?_
          refine sy_skip rfl rfl rfl ?_
          refine sy_pickF rfl rfl rfl rfl ?_
          refine sy_move rfl rfl rfl ?_
          refine sy_skip rfl rfl rfl ?_
          refine sy_skip rfl rfl rfl ?_
          refine sy_skip rfl rfl rfl ?_
          refine sy_skip rfl rfl rfl ?_
          refine sy_skip rfl rfl rfl ?_
          refine sy_pickF rfl rfl rfl rfl ?_
          refine sy_nil rfl ?_
          refine ny_next ?_
          refine cy_condF rfl ?_
          refine cy_skip ?_
          refine ny_blockN ?_
          refine ny_next ?_
          refine cy_region ?_
          refine sy_move rfl rfl rfl ?_
          refine sy_addi (z := ((e + 1 : Nat) : Int)) rfl rfl (by omega) (by omega) (by omega) rfl rfl ?_
          refine sy_assign rfl rfl rfl ?_
          refine sy_nil rfl ?_
          refine ny_round (e + 1) [0] (show e + 1 ≤ n by omega) (show n - (e + 1) < n - e by omega) ⟨rfl, rfl, rfl, rfl, (by first | (rw [lubP_bad hg38 hg44 hc50]; rfl) | (rw [lubP_ok (.inr (.inr ⟨hg38, hg44, hc50⟩))]; rfl) | (rw [lubP_ok (.inr (.inl hg44))]; rfl) | (rw [lubP_ok (.inl hg38)]; rfl)), rfl, trivial⟩ rfl rfl
      · have hee : n = e := by have := of_decide_eq_false hc31; omega
        rw [← hee]
        refine cy_exit ?_
        refine ny_thenE ?_
        refine ny_thenE ?_
        refine ny_blockX ?_
        refine ny_next ?_
        refine cy_seq ?_
        refine cy_region ?_
        refine sy_move rfl rfl rfl ?_
        refine sy_nil rfl ?_
        refine ny_next ?_
        refine cy_cond rfl (fun hc51 => ?_) (fun hc51 => ?_)
        · refine cy_seq ?_
          refine cy_region ?_
          refine sy_move rfl rfl rfl ?_
          refine sy_assign rfl rfl rfl ?_
          refine sy_nil rfl ?_
          refine ny_next ?_
          refine cy_ret ?_
          refine ny_blockR ?_
          refine ny_thenR ?_
          refine ny_thenR ?_
          refine ny_blockR ?_
          refine ny_thenR ?_
          refine ny_finR (res1 rfl rfl) (fun w hs => ⟨?_, hs.frm⟩)
          rw [show joinD n d a b = (i : Int) from firstI_at hlti hc51 hprei]
        · refine cy_skip ?_
          refine ny_blockN ?_
          refine ny_next ?_
          refine cy_region ?_
          refine sy_move rfl rfl rfl ?_
          refine sy_addi (z := ((i + 1 : Nat) : Int)) rfl rfl (by omega) (by omega) (by omega) rfl rfl ?_
          refine sy_assign rfl rfl rfl ?_
          refine sy_nil rfl ?_
          refine ny_round (i + 1) [0] ⟨by omega, ?_⟩ (show n - (i + 1) < n - i by omega) ⟨rfl, rfl, rfl, rfl, trivial⟩ rfl rfl
          intro c hc
          rcases Nat.lt_succ_iff_lt_or_eq.1 hc with hc | hc
          · exact hprei c hc
          · subst hc
            exact hc51
    · refine sy_skip rfl rfl rfl ?_
      refine sy_skip rfl rfl rfl ?_
      refine sy_skip rfl rfl rfl ?_
      refine sy_skip rfl rfl rfl ?_
      refine sy_pickF rfl rfl rfl rfl ?_
      refine sy_assign rfl rfl rfl ?_
      refine sy_nil rfl ?_
      refine ny_next ?_
      refine cy_seq ?_
      refine cy_seq ?_
      refine cy_region ?_
      refine sy_assign rfl rfl rfl ?_
      refine sy_nil rfl ?_
      refine ny_next ?_
      refine cy_block ?_
      refine cy_loop (ι := Nat) (fun e => e ≤ n) (fun e => n - e) (fun e => [(1, .int .i64 a), (2, .int .i64 b), (3, .pointer (some ⟨b3, 0, none⟩)), (7, .int .i64 (i : Int)), (8, .bool (lubP n d a b i e)), (9, .int .i64 (e : Int))]) (fun _ => h) (fun _ => [.blk b3 (.cells [.slice A n c].toArray 52 (0, 0))]) 0 [0] (Nat.zero_le _) ⟨rfl, rfl, rfl, rfl, (by first | (rw [lubP_T hg21]; rfl) | (rw [lubP_F hg21]; rfl)), rfl, trivial⟩ rfl rfl ?_
      rintro e he
      refine cy_seq ?_
      refine cy_seq ?_
      refine cy_region ?_
      refine sy_move rfl rfl rfl ?_
      refine sy_field fld_52_0 rfl rfl rfl ?_
      first | refine sy_ldr 0 one_50 rfl rfl rfl rfl rfl ?_
      refine sy_len rfl (len_slice Tryd.underlying50 _ _ _) rfl rfl ?_
      refine sy_cmp rfl rfl rfl rfl rfl ?_
      refine sy_nil rfl ?_
      refine ny_next ?_
      refine cy_cond rfl (fun hc31 => ?_) (fun hc31 => ?_)
      · have hlte : e < n := by have := of_decide_eq_true hc31; omega
        refine cy_skip ?_
        refine ny_next ?_
        refine cy_seq ?_
        refine cy_block ?_
        refine cy_seq ?_
        refine cy_region ?_
        first | refine sy_ldar 0 agg_52 rfl rfl rfl rfl rfl ?_
        refine sy_move rfl rfl rfl ?_
        refine sy_move rfl rfl rfl ?_
        refine sy_call rfl call_65 rfl (rLeq_c _ _ _ _ _ _ _ hT) rfl rfl ?_
        refine sy_move rfl rfl rfl ?_
        refine sy_cond (d := 38) _ rfl rfl (fun hg38 => ?_) (fun hg38 => ?_)
        · first | refine sy_ldar 0 agg_52 rfl rfl rfl rfl rfl ?_
          refine sy_move rfl rfl rfl ?_
          refine sy_move rfl rfl rfl ?_
          refine sy_call rfl call_65 rfl (rLeq_c _ _ _ _ _ _ _ hT) rfl rfl ?_
          refine sy_pickT rfl rfl rfl rfl ?_
          refine sy_move rfl rfl rfl ?_
          refine sy_cond (d := 44) _ rfl rfl (fun hg44 => ?_) (fun hg44 => ?_)
          · first | refine sy_ldar 0 agg_52 rfl rfl rfl rfl rfl ?_
            refine sy_move rfl rfl rfl ?_
            refine sy_move rfl rfl rfl ?_
            refine sy_call rfl call_65 rfl (rLeq_c _ _ _ _ _ _ _ hT) rfl rfl ?_
            refine sy_not rfl rfl rfl ?_
            refine sy_pickT rfl rfl rfl rfl ?_
            refine sy_nil rfl ?_
            refine ny_next ?_
            refine cy_cond rfl (fun hc50 => ?_) (fun hc50 => ?_)
            · refine cy_region ?_
              refine sy_assign rfl rfl rfl ?_
              refine sy_nil rfl ?_
              refine ny_blockN ?_
              refine ny_next ?_
              refine cy_region ?_
              refine sy_move rfl rfl rfl ?_
              refine sy_addi (z := ((e + 1 : Nat) : Int)) rfl rfl (by omega) (by omega) (by omega) rfl rfl ?_
              refine sy_assign rfl rfl rfl ?_
              refine sy_nil rfl ?_
              refine ny_round (e + 1) [0] (show e + 1 ≤ n by omega) (show n - (e + 1) < n - e by omega) ⟨rfl, rfl, rfl, rfl, (by first | (rw [lubP_bad hg38 hg44 hc50]; rfl) | (rw [lubP_ok (.inr (.inr ⟨hg38, hg44, hc50⟩))]; rfl) | (rw [lubP_ok (.inr (.inl hg44))]; rfl) | (rw [lubP_ok (.inl hg38)]; rfl)), rfl, trivial⟩ rfl rfl
            · refine cy_skip ?_
              refine ny_blockN ?_
              refine ny_next ?_
              refine cy_region ?_
              refine sy_move rfl rfl rfl ?_
              refine sy_addi (z := ((e + 1 : Nat) : Int)) rfl rfl (by omega) (by omega) (by omega) rfl rfl ?_
              refine sy_assign rfl rfl rfl ?_
              refine sy_nil rfl ?_
              refine ny_round (e + 1) [0] (show e + 1 ≤ n by omega) (show n - (e + 1) < n - e by omega) ⟨rfl, rfl, rfl, rfl, (by first | (rw [lubP_bad hg38 hg44 hc50]; rfl) | (rw [lubP_ok (.inr (.inr ⟨hg38, hg44, hc50⟩))]; rfl) | (rw [lubP_ok (.inr (.inl hg44))]; rfl) | (rw [lubP_ok (.inl hg38)]; rfl)), rfl, trivial⟩ rfl rfl
          · refine sy_skip rfl rfl rfl ?_
            refine sy_skip rfl rfl rfl ?_
            refine sy_skip rfl rfl rfl ?_
            refine sy_skip rfl rfl rfl ?_
            refine sy_skip rfl rfl rfl ?_
            refine sy_pickF rfl rfl rfl rfl ?_
            refine sy_nil rfl ?_
            refine ny_next ?_
            refine cy_condF rfl ?_
            refine cy_skip ?_
            refine ny_blockN ?_
            refine ny_next ?_
            refine cy_region ?_
            refine sy_move rfl rfl rfl ?_
            refine sy_addi (z := ((e + 1 : Nat) : Int)) rfl rfl (by omega) (by omega) (by omega) rfl rfl ?_
            refine sy_assign rfl rfl rfl ?_
            refine sy_nil rfl ?_
            refine ny_round (e + 1) [0] (show e + 1 ≤ n by omega) (show n - (e + 1) < n - e by omega) ⟨rfl, rfl, rfl, rfl, (by first | (rw [lubP_bad hg38 hg44 hc50]; rfl) | (rw [lubP_ok (.inr (.inr ⟨hg38, hg44, hc50⟩))]; rfl) | (rw [lubP_ok (.inr (.inl hg44))]; rfl) | (rw [lubP_ok (.inl hg38)]; rfl)), rfl, trivial⟩ rfl rfl
        · refine sy_skip rfl rfl rfl ?_
          refine sy_skip rfl rfl rfl ?_
          refine sy_skip rfl rfl rfl ?_
          refine sy_skip rfl rfl rfl ?_
          refine sy_pickF rfl rfl rfl rfl ?_
          refine sy_move rfl rfl rfl ?_
          refine sy_skip rfl rfl rfl ?_
          refine sy_skip rfl rfl rfl ?_
          refine sy_skip rfl rfl rfl ?_
          refine sy_skip rfl rfl rfl ?_
          refine sy_skip rfl rfl rfl ?_
          refine sy_pickF rfl rfl rfl rfl ?_
          refine sy_nil rfl ?_
          refine ny_next ?_
          refine cy_condF rfl ?_
          refine cy_skip ?_
          refine ny_blockN ?_
          refine ny_next ?_
          refine cy_region ?_
          refine sy_move rfl rfl rfl ?_
          refine sy_addi (z := ((e + 1 : Nat) : Int)) rfl rfl (by omega) (by omega) (by omega) rfl rfl ?_
          refine sy_assign rfl rfl rfl ?_
          refine sy_nil rfl ?_
          refine ny_round (e + 1) [0] (show e + 1 ≤ n by omega) (show n - (e + 1) < n - e by omega) ⟨rfl, rfl, rfl, rfl, (by first | (rw [lubP_bad hg38 hg44 hc50]; rfl) | (rw [lubP_ok (.inr (.inr ⟨hg38, hg44, hc50⟩))]; rfl) | (rw [lubP_ok (.inr (.inl hg44))]; rfl) | (rw [lubP_ok (.inl hg38)]; rfl)), rfl, trivial⟩ rfl rfl
      · have hee : n = e := by have := of_decide_eq_false hc31; omega
        rw [← hee]
        refine cy_exit ?_
        refine ny_thenE ?_
        refine ny_thenE ?_
        refine ny_blockX ?_
        refine ny_next ?_
        refine cy_seq ?_
        refine cy_region ?_
        refine sy_move rfl rfl rfl ?_
        refine sy_nil rfl ?_
        refine ny_next ?_
        refine cy_cond rfl (fun hc51 => ?_) (fun hc51 => ?_)
        · refine cy_seq ?_
          refine cy_region ?_
          refine sy_move rfl rfl rfl ?_
          refine sy_assign rfl rfl rfl ?_
          refine sy_nil rfl ?_
          refine ny_next ?_
          refine cy_ret ?_
          refine ny_blockR ?_
          refine ny_thenR ?_
          refine ny_thenR ?_
          refine ny_blockR ?_
          refine ny_thenR ?_
          refine ny_finR (res1 rfl rfl) (fun w hs => ⟨?_, hs.frm⟩)
          rw [show joinD n d a b = (i : Int) from firstI_at hlti hc51 hprei]
        · refine cy_skip ?_
          refine ny_blockN ?_
          refine ny_next ?_
          refine cy_region ?_
          refine sy_move rfl rfl rfl ?_
          refine sy_addi (z := ((i + 1 : Nat) : Int)) rfl rfl (by omega) (by omega) (by omega) rfl rfl ?_
          refine sy_assign rfl rfl rfl ?_
          refine sy_nil rfl ?_
          refine ny_round (i + 1) [0] ⟨by omega, ?_⟩ (show n - (i + 1) < n - i by omega) ⟨rfl, rfl, rfl, rfl, trivial⟩ rfl rfl
          intro c hc
          rcases Nat.lt_succ_iff_lt_or_eq.1 hc with hc | hc
          · exact hprei c hc
          · subst hc
            exact hc51
  · have hiei : n = i := by have := of_decide_eq_false hc14; omega
    subst hiei
    refine cy_exit ?_
    refine ny_thenE ?_
    refine ny_thenE ?_
    refine ny_blockX ?_
    refine ny_next ?_
    refine cy_seq ?_
    refine cy_region ?_
    refine sy_assign rfl rfl rfl ?_
    refine sy_nil rfl ?_
    refine ny_next ?_
    refine cy_ret ?_
    refine ny_finR (res1 rfl rfl) (fun w hs => ⟨?_, hs.frm⟩)
    rw [show joinD n d a b = -1 from firstI_none hprei]
set_option maxRecDepth 100000 in
theorem rMeet_c (A : Option Addr) (n c : Nat) (d : Dt) (a b : Int) (h : Hp) (hT : RefT h A n d) (hn : n ≤ 16) : C0 Tryd.prog 62 [.agg #[.slice A n c], .int .i64 a, .int .i64 b] h (.int .i64 (meetD n d a b)) := by
  refine enter0 Tryd.func62 rfl rfl rfl (fun w => ?_)
  refine cy_seq ?_
  refine cy_region ?_
  refine sy_box rfl rfl rfl rfl (fun b3 hb3 hM3 => ?_) (by simp)
  refine sy_assign rfl rfl rfl ?_
  refine sy_nil rfl ?_
  refine ny_next ?_
  refine cy_seq ?_
  refine cy_seq ?_
  refine cy_region ?_
  refine sy_assign rfl rfl rfl ?_
  refine sy_nil rfl ?_
  refine ny_next ?_
  refine cy_block ?_
  refine cy_loop (ι := Nat) (fun i => i ≤ n ∧ ∀ c, c < i → glbD n d a b c = false) (fun i => n - i) (fun i => [(1, .int .i64 a), (2, .int .i64 b), (3, .pointer (some ⟨b3, 0, none⟩)), (7, .int .i64 (i : Int))]) (fun _ => h) (fun _ => [.blk b3 (.cells [.slice A n c].toArray 52 (0, 0))]) 0 [0] ⟨Nat.zero_le _, fun c hc => absurd hc (Nat.not_lt_zero c)⟩ ⟨rfl, rfl, rfl, rfl, trivial⟩ rfl rfl ?_
  rintro i ⟨hi, hprei⟩
  refine cy_seq ?_
  refine cy_seq ?_
  refine cy_region ?_
  refine sy_move rfl rfl rfl ?_
  refine sy_field fld_52_0 rfl rfl rfl ?_
  first | refine sy_ldr 0 one_50 rfl rfl rfl rfl rfl ?_
  refine sy_len rfl (len_slice Tryd.underlying50 _ _ _) rfl rfl ?_
  refine sy_cmp rfl rfl rfl rfl rfl ?_
  refine sy_nil rfl ?_
  refine ny_next ?_
  refine cy_cond rfl (fun hc14 => ?_) (fun hc14 => ?_)
  · have hlti : i < n := by have := of_decide_eq_true hc14; omega
    refine cy_skip ?_
    refine ny_next ?_
    refine cy_seq ?_
    refine cy_block ?_
    refine cy_seq ?_
    refine cy_region ?_
    first | refine sy_ldar 0 agg_52 rfl rfl rfl rfl rfl ?_
    refine sy_move rfl rfl rfl ?_
    refine sy_move rfl rfl rfl ?_
    refine sy_call rfl call_65 rfl (rLeq_c _ _ _ _ _ _ _ hT) rfl rfl ?_
    refine sy_move rfl rfl rfl ?_
    refine sy_cond (d := 21) _ rfl rfl (fun hg21 => ?_) (fun hg21 => ?_)
    · first | refine sy_ldar 0 agg_52 rfl rfl rfl rfl rfl ?_
      refine sy_move rfl rfl rfl ?_
      refine sy_move rfl rfl rfl ?_
      refine sy_call rfl call_65 rfl (rLeq_c _ _ _ _ _ _ _ hT) rfl rfl ?_
      refine sy_pickT rfl rfl rfl rfl ?_
      refine sy_assign rfl rfl rfl ?_
      refine sy_nil rfl ?_
      refine ny_next ?_
      refine cy_seq ?_
      refine cy_seq ?_
      refine cy_region ?_
      refine sy_assign rfl rfl rfl ?_
      refine sy_nil rfl ?_
      refine ny_next ?_
      refine cy_block ?_
      refine cy_loop (ι := Nat) (fun e => e ≤ n) (fun e => n - e) (fun e => [(1, .int .i64 a), (2, .int .i64 b), (3, .pointer (some ⟨b3, 0, none⟩)), (7, .int .i64 (i : Int)), (8, .bool (glbP n d a b i e)), (9, .int .i64 (e : Int))]) (fun _ => h) (fun _ => [.blk b3 (.cells [.slice A n c].toArray 52 (0, 0))]) 0 [0] (Nat.zero_le _) ⟨rfl, rfl, rfl, rfl, (by first | (rw [glbP_T hg21]; rfl) | (rw [glbP_F hg21]; rfl)), rfl, trivial⟩ rfl rfl ?_
      rintro e he
      refine cy_seq ?_
      refine cy_seq ?_
      refine cy_region ?_
      refine sy_move rfl rfl rfl ?_
      refine sy_field fld_52_0 rfl rfl rfl ?_
      first | refine sy_ldr 0 one_50 rfl rfl rfl rfl rfl ?_
      refine sy_len rfl (len_slice Tryd.underlying50 _ _ _) rfl rfl ?_
      refine sy_cmp rfl rfl rfl rfl rfl ?_
      refine sy_nil rfl ?_
      refine ny_next ?_
      refine cy_cond rfl (fun hc31 => ?_) (fun hc31 => ?_)
      · have hlte : e < n := by have := of_decide_eq_true hc31; omega
        refine cy_skip ?_
        refine ny_next ?_
        refine cy_seq ?_
        refine cy_block ?_
        refine cy_seq ?_
        refine cy_region ?_
        first | refine sy_ldar 0 agg_52 rfl rfl rfl rfl rfl ?_
        refine sy_move rfl rfl rfl ?_
        refine sy_move rfl rfl rfl ?_
        refine sy_call rfl call_65 rfl (rLeq_c _ _ _ _ _ _ _ hT) rfl rfl ?_
        refine sy_move rfl rfl rfl ?_
        refine sy_cond (d := 38) _ rfl rfl (fun hg38 => ?_) (fun hg38 => ?_)
        · first | refine sy_ldar 0 agg_52 rfl rfl rfl rfl rfl ?_
          refine sy_move rfl rfl rfl ?_
          refine sy_move rfl rfl rfl ?_
          refine sy_call rfl call_65 rfl (rLeq_c _ _ _ _ _ _ _ hT) rfl rfl ?_
          refine sy_pickT rfl rfl rfl rfl ?_
          refine sy_move rfl rfl rfl ?_
          refine sy_cond (d := 44) _ rfl rfl (fun hg44 => ?_) (fun hg44 => ?_)
          · first | refine sy_ldar 0 agg_52 rfl rfl rfl rfl rfl ?_
            refine sy_move rfl rfl rfl ?_
            refine sy_move rfl rfl rfl ?_
            refine sy_call rfl call_65 rfl (rLeq_c _ _ _ _ _ _ _ hT) rfl rfl ?_
            refine sy_not rfl rfl rfl ?_
            refine sy_pickT rfl rfl rfl rfl ?_
            refine sy_nil rfl ?_
            refine ny_next ?_
            refine cy_cond rfl (fun hc50 => ?_) (fun hc50 => ?_)
            · refine cy_region ?_
              refine sy_assign rfl rfl rfl ?_
              refine sy_nil rfl ?_
              refine ny_blockN ?_
              refine ny_next ?_
              refine cy_region ?_
              refine sy_move rfl rfl rfl ?_
              refine sy_addi (z := ((e + 1 : Nat) : Int)) rfl rfl (by omega) (by omega) (by omega) rfl rfl ?_
              refine sy_assign rfl rfl rfl ?_
              refine sy_nil rfl ?_
              refine ny_round (e + 1) [0] (show e + 1 ≤ n by omega) (show n - (e + 1) < n - e by omega) ⟨rfl, rfl, rfl, rfl, (by first | (rw [glbP_bad hg38 hg44 hc50]; rfl) | (rw [glbP_ok (.inr (.inr ⟨hg38, hg44, hc50⟩))]; rfl) | (rw [glbP_ok (.inr (.inl hg44))]; rfl) | (rw [glbP_ok (.inl hg38)]; rfl)), rfl, trivial⟩ rfl rfl
            · refine cy_skip ?_
              refine ny_blockN ?_
              refine ny_next ?_
              refine cy_region ?_
              refine sy_move rfl rfl rfl ?_
              refine sy_addi (z := ((e + 1 : Nat) : Int)) rfl rfl (by omega) (by omega) (by omega) rfl rfl ?_
              refine sy_assign rfl rfl rfl ?_
              refine sy_nil rfl ?_
              refine ny_round (e + 1) [0] (show e + 1 ≤ n by omega) (show n - (e + 1) < n - e by omega) ⟨rfl, rfl, rfl, rfl, (by first | (rw [glbP_bad hg38 hg44 hc50]; rfl) | (rw [glbP_ok (.inr (.inr ⟨hg38, hg44, hc50⟩))]; rfl) | (rw [glbP_ok (.inr (.inl hg44))]; rfl) | (rw [glbP_ok (.inl hg38)]; rfl)), rfl, trivial⟩ rfl rfl
          · refine sy_skip rfl rfl rfl ?_
            refine sy_skip rfl rfl rfl ?_
            refine sy_skip rfl rfl rfl ?_
            refine sy_skip rfl rfl rfl ?_
            refine sy_skip rfl rfl rfl ?_
            refine sy_pickF rfl rfl rfl rfl ?_
            refine sy_nil rfl ?_
            refine ny_next ?_
            refine cy_condF rfl ?_
            refine cy_skip ?_
            refine ny_blockN ?_
            refine ny_next ?_
            refine cy_region ?_
            refine sy_move rfl rfl rfl ?_
            refine sy_addi (z := ((e + 1 : Nat) : Int)) rfl rfl (by omega) (by omega) (by omega) rfl rfl ?_
            refine sy_assign rfl rfl rfl ?_
            refine sy_nil rfl ?_
            refine ny_round (e + 1) [0] (show e + 1 ≤ n by omega) (show n - (e + 1) < n - e by omega) ⟨rfl, rfl, rfl, rfl, (by first | (rw [glbP_bad hg38 hg44 hc50]; rfl) | (rw [glbP_ok (.inr (.inr ⟨hg38, hg44, hc50⟩))]; rfl) | (rw [glbP_ok (.inr (.inl hg44))]; rfl) | (rw [glbP_ok (.inl hg38)]; rfl)), rfl, trivial⟩ rfl rfl
        · refine sy_skip rfl rfl rfl ?_
          refine sy_skip rfl rfl rfl ?_
          refine sy_skip rfl rfl rfl ?_
          refine sy_skip rfl rfl rfl ?_
          refine sy_pickF rfl rfl rfl rfl ?_
          refine sy_move rfl rfl rfl ?_
          refine sy_skip rfl rfl rfl ?_
          refine sy_skip rfl rfl rfl ?_
          refine sy_skip rfl rfl rfl ?_
          refine sy_skip rfl rfl rfl ?_
          refine sy_skip rfl rfl rfl ?_
          refine sy_pickF rfl rfl rfl rfl ?_
          refine sy_nil rfl ?_
          refine ny_next ?_
          refine cy_condF rfl ?_
          refine cy_skip ?_
          refine ny_blockN ?_
          refine ny_next ?_
          refine cy_region ?_
          refine sy_move rfl rfl rfl ?_
          refine sy_addi (z := ((e + 1 : Nat) : Int)) rfl rfl (by omega) (by omega) (by omega) rfl rfl ?_
          refine sy_assign rfl rfl rfl ?_
          refine sy_nil rfl ?_
          refine ny_round (e + 1) [0] (show e + 1 ≤ n by omega) (show n - (e + 1) < n - e by omega) ⟨rfl, rfl, rfl, rfl, (by first | (rw [glbP_bad hg38 hg44 hc50]; rfl) | (rw [glbP_ok (.inr (.inr ⟨hg38, hg44, hc50⟩))]; rfl) | (rw [glbP_ok (.inr (.inl hg44))]; rfl) | (rw [glbP_ok (.inl hg38)]; rfl)), rfl, trivial⟩ rfl rfl
      · have hee : n = e := by have := of_decide_eq_false hc31; omega
        rw [← hee]
        refine cy_exit ?_
        refine ny_thenE ?_
        refine ny_thenE ?_
        refine ny_blockX ?_
        refine ny_next ?_
        refine cy_seq ?_
        refine cy_region ?_
        refine sy_move rfl rfl rfl ?_
        refine sy_nil rfl ?_
        refine ny_next ?_
        refine cy_cond rfl (fun hc51 => ?_) (fun hc51 => ?_)
        · refine cy_seq ?_
          refine cy_region ?_
          refine sy_move rfl rfl rfl ?_
          refine sy_assign rfl rfl rfl ?_
          refine sy_nil rfl ?_
          refine ny_next ?_
          refine cy_ret ?_
          refine ny_blockR ?_
          refine ny_thenR ?_
          refine ny_thenR ?_
          refine ny_blockR ?_
          refine ny_thenR ?_
          refine ny_finR (res1 rfl rfl) (fun w hs => ⟨?_, hs.frm⟩)
          rw [show meetD n d a b = (i : Int) from firstI_at hlti hc51 hprei]
        · refine cy_skip ?_
          refine ny_blockN ?_
          refine ny_next ?_
          refine cy_region ?_
          refine sy_move rfl rfl rfl ?_
          refine sy_addi (z := ((i + 1 : Nat) : Int)) rfl rfl (by omega) (by omega) (by omega) rfl rfl ?_
          refine sy_assign rfl rfl rfl ?_
          refine sy_nil rfl ?_
          refine ny_round (i + 1) [0] ⟨by omega, ?_⟩ (show n - (i + 1) < n - i by omega) ⟨rfl, rfl, rfl, rfl, trivial⟩ rfl rfl
          intro c hc
          rcases Nat.lt_succ_iff_lt_or_eq.1 hc with hc | hc
          · exact hprei c hc
          · subst hc
            exact hc51
    · refine sy_skip rfl rfl rfl ?_
      refine sy_skip rfl rfl rfl ?_
      refine sy_skip rfl rfl rfl ?_
      refine sy_skip rfl rfl rfl ?_
      refine sy_pickF rfl rfl rfl rfl ?_
      refine sy_assign rfl rfl rfl ?_
      refine sy_nil rfl ?_
      refine ny_next ?_
      refine cy_seq ?_
      refine cy_seq ?_
      refine cy_region ?_
      refine sy_assign rfl rfl rfl ?_
      refine sy_nil rfl ?_
      refine ny_next ?_
      refine cy_block ?_
      refine cy_loop (ι := Nat) (fun e => e ≤ n) (fun e => n - e) (fun e => [(1, .int .i64 a), (2, .int .i64 b), (3, .pointer (some ⟨b3, 0, none⟩)), (7, .int .i64 (i : Int)), (8, .bool (glbP n d a b i e)), (9, .int .i64 (e : Int))]) (fun _ => h) (fun _ => [.blk b3 (.cells [.slice A n c].toArray 52 (0, 0))]) 0 [0] (Nat.zero_le _) ⟨rfl, rfl, rfl, rfl, (by first | (rw [glbP_T hg21]; rfl) | (rw [glbP_F hg21]; rfl)), rfl, trivial⟩ rfl rfl ?_
      rintro e he
      refine cy_seq ?_
      refine cy_seq ?_
      refine cy_region ?_
      refine sy_move rfl rfl rfl ?_
      refine sy_field fld_52_0 rfl rfl rfl ?_
      first | refine sy_ldr 0 one_50 rfl rfl rfl rfl rfl ?_
      refine sy_len rfl (len_slice Tryd.underlying50 _ _ _) rfl rfl ?_
      refine sy_cmp rfl rfl rfl rfl rfl ?_
      refine sy_nil rfl ?_
      refine ny_next ?_
      refine cy_cond rfl (fun hc31 => ?_) (fun hc31 => ?_)
      · have hlte : e < n := by have := of_decide_eq_true hc31; omega
        refine cy_skip ?_
        refine ny_next ?_
        refine cy_seq ?_
        refine cy_block ?_
        refine cy_seq ?_
        refine cy_region ?_
        first | refine sy_ldar 0 agg_52 rfl rfl rfl rfl rfl ?_
        refine sy_move rfl rfl rfl ?_
        refine sy_move rfl rfl rfl ?_
        refine sy_call rfl call_65 rfl (rLeq_c _ _ _ _ _ _ _ hT) rfl rfl ?_
        refine sy_move rfl rfl rfl ?_
        refine sy_cond (d := 38) _ rfl rfl (fun hg38 => ?_) (fun hg38 => ?_)
        · first | refine sy_ldar 0 agg_52 rfl rfl rfl rfl rfl ?_
          refine sy_move rfl rfl rfl ?_
          refine sy_move rfl rfl rfl ?_
          refine sy_call rfl call_65 rfl (rLeq_c _ _ _ _ _ _ _ hT) rfl rfl ?_
          refine sy_pickT rfl rfl rfl rfl ?_
          refine sy_move rfl rfl rfl ?_
          refine sy_cond (d := 44) _ rfl rfl (fun hg44 => ?_) (fun hg44 => ?_)
          · first | refine sy_ldar 0 agg_52 rfl rfl rfl rfl rfl ?_
            refine sy_move rfl rfl rfl ?_
            refine sy_move rfl rfl rfl ?_
            refine sy_call rfl call_65 rfl (rLeq_c _ _ _ _ _ _ _ hT) rfl rfl ?_
            refine sy_not rfl rfl rfl ?_
            refine sy_pickT rfl rfl rfl rfl ?_
            refine sy_nil rfl ?_
            refine ny_next ?_
            refine cy_cond rfl (fun hc50 => ?_) (fun hc50 => ?_)
            · refine cy_region ?_
              refine sy_assign rfl rfl rfl ?_
              refine sy_nil rfl ?_
              refine ny_blockN ?_
              refine ny_next ?_
              refine cy_region ?_
              refine sy_move rfl rfl rfl ?_
              refine sy_addi (z := ((e + 1 : Nat) : Int)) rfl rfl (by omega) (by omega) (by omega) rfl rfl ?_
              refine sy_assign rfl rfl rfl ?_
              refine sy_nil rfl ?_
              refine ny_round (e + 1) [0] (show e + 1 ≤ n by omega) (show n - (e + 1) < n - e by omega) ⟨rfl, rfl, rfl, rfl, (by first | (rw [glbP_bad hg38 hg44 hc50]; rfl) | (rw [glbP_ok (.inr (.inr ⟨hg38, hg44, hc50⟩))]; rfl) | (rw [glbP_ok (.inr (.inl hg44))]; rfl) | (rw [glbP_ok (.inl hg38)]; rfl)), rfl, trivial⟩ rfl rfl
            · refine cy_skip ?_
              refine ny_blockN ?_
              refine ny_next ?_
              refine cy_region ?_
              refine sy_move rfl rfl rfl ?_
              refine sy_addi (z := ((e + 1 : Nat) : Int)) rfl rfl (by omega) (by omega) (by omega) rfl rfl ?_
              refine sy_assign rfl rfl rfl ?_
              refine sy_nil rfl ?_
              refine ny_round (e + 1) [0] (show e + 1 ≤ n by omega) (show n - (e + 1) < n - e by omega) ⟨rfl, rfl, rfl, rfl, (by first | (rw [glbP_bad hg38 hg44 hc50]; rfl) | (rw [glbP_ok (.inr (.inr ⟨hg38, hg44, hc50⟩))]; rfl) | (rw [glbP_ok (.inr (.inl hg44))]; rfl) | (rw [glbP_ok (.inl hg38)]; rfl)), rfl, trivial⟩ rfl rfl
          · refine sy_skip rfl rfl rfl ?_
            refine sy_skip rfl rfl rfl ?_
            refine sy_skip rfl rfl rfl ?_
            refine sy_skip rfl rfl rfl ?_
            refine sy_skip rfl rfl rfl ?_
            refine sy_pickF rfl rfl rfl rfl ?_
            refine sy_nil rfl ?_
            refine ny_next ?_
            refine cy_condF rfl ?_
            refine cy_skip ?_
            refine ny_blockN ?_
            refine ny_next ?_
            refine cy_region ?_
            refine sy_move rfl rfl rfl ?_
            refine sy_addi (z := ((e + 1 : Nat) : Int)) rfl rfl (by omega) (by omega) (by omega) rfl rfl ?_
            refine sy_assign rfl rfl rfl ?_
            refine sy_nil rfl ?_
            refine ny_round (e + 1) [0] (show e + 1 ≤ n by omega) (show n - (e + 1) < n - e by omega) ⟨rfl, rfl, rfl, rfl, (by first | (rw [glbP_bad hg38 hg44 hc50]; rfl) | (rw [glbP_ok (.inr (.inr ⟨hg38, hg44, hc50⟩))]; rfl) | (rw [glbP_ok (.inr (.inl hg44))]; rfl) | (rw [glbP_ok (.inl hg38)]; rfl)), rfl, trivial⟩ rfl rfl
        · refine sy_skip rfl rfl rfl ?_
          refine sy_skip rfl rfl rfl ?_
          refine sy_skip rfl rfl rfl ?_
          refine sy_skip rfl rfl rfl ?_
          refine sy_pickF rfl rfl rfl rfl ?_
          refine sy_move rfl rfl rfl ?_
          refine sy_skip rfl rfl rfl ?_
          refine sy_skip rfl rfl rfl ?_
          refine sy_skip rfl rfl rfl ?_
          refine sy_skip rfl rfl rfl ?_
          refine sy_skip rfl rfl rfl ?_
          refine sy_pickF rfl rfl rfl rfl ?_
          refine sy_nil rfl ?_
          refine ny_next ?_
          refine cy_condF rfl ?_
          refine cy_skip ?_
          refine ny_blockN ?_
          refine ny_next ?_
          refine cy_region ?_
          refine sy_move rfl rfl rfl ?_
          refine sy_addi (z := ((e + 1 : Nat) : Int)) rfl rfl (by omega) (by omega) (by omega) rfl rfl ?_
          refine sy_assign rfl rfl rfl ?_
          refine sy_nil rfl ?_
          refine ny_round (e + 1) [0] (show e + 1 ≤ n by omega) (show n - (e + 1) < n - e by omega) ⟨rfl, rfl, rfl, rfl, (by first | (rw [glbP_bad hg38 hg44 hc50]; rfl) | (rw [glbP_ok (.inr (.inr ⟨hg38, hg44, hc50⟩))]; rfl) | (rw [glbP_ok (.inr (.inl hg44))]; rfl) | (rw [glbP_ok (.inl hg38)]; rfl)), rfl, trivial⟩ rfl rfl
      · have hee : n = e := by have := of_decide_eq_false hc31; omega
        rw [← hee]
        refine cy_exit ?_
        refine ny_thenE ?_
        refine ny_thenE ?_
        refine ny_blockX ?_
        refine ny_next ?_
        refine cy_seq ?_
        refine cy_region ?_
        refine sy_move rfl rfl rfl ?_
        refine sy_nil rfl ?_
        refine ny_next ?_
        refine cy_cond rfl (fun hc51 => ?_) (fun hc51 => ?_)
        · refine cy_seq ?_
          refine cy_region ?_
          refine sy_move rfl rfl rfl ?_
          refine sy_assign rfl rfl rfl ?_
          refine sy_nil rfl ?_
          refine ny_next ?_
          refine cy_ret ?_
          refine ny_blockR ?_
          refine ny_thenR ?_
          refine ny_thenR ?_
          refine ny_blockR ?_
          refine ny_thenR ?_
          refine ny_finR (res1 rfl rfl) (fun w hs => ⟨?_, hs.frm⟩)
          rw [show meetD n d a b = (i : Int) from firstI_at hlti hc51 hprei]
        · refine cy_skip ?_
          refine ny_blockN ?_
          refine ny_next ?_
          refine cy_region ?_
          refine sy_move rfl rfl rfl ?_
          refine sy_addi (z := ((i + 1 : Nat) : Int)) rfl rfl (by omega) (by omega) (by omega) rfl rfl ?_
          refine sy_assign rfl rfl rfl ?_
          refine sy_nil rfl ?_
          refine ny_round (i + 1) [0] ⟨by omega, ?_⟩ (show n - (i + 1) < n - i by omega) ⟨rfl, rfl, rfl, rfl, trivial⟩ rfl rfl
          intro c hc
          rcases Nat.lt_succ_iff_lt_or_eq.1 hc with hc | hc
          · exact hprei c hc
          · subst hc
            exact hc51
  · have hiei : n = i := by have := of_decide_eq_false hc14; omega
    subst hiei
    refine cy_exit ?_
    refine ny_thenE ?_
    refine ny_thenE ?_
    refine ny_blockX ?_
    refine ny_next ?_
    refine cy_seq ?_
    refine cy_region ?_
    refine sy_assign rfl rfl rfl ?_
    refine sy_nil rfl ?_
    refine ny_next ?_
    refine cy_ret ?_
    refine ny_finR (res1 rfl rfl) (fun w hs => ⟨?_, hs.frm⟩)
    rw [show meetD n d a b = -1 from firstI_none hprei]
set_option maxRecDepth 100000 in
theorem rBot_c (A : Option Addr) (n c : Nat) (d : Dt) (h : Hp) (hT : RefT h A n d) (hn : n ≤ 16) : C0 Tryd.prog 83 [.agg #[.slice A n c]] h (.int .i64 (botD n d)) := by
  refine enter0 Tryd.func83 rfl rfl rfl (fun w => ?_)
  refine cy_seq ?_
  refine cy_region ?_
  refine sy_box rfl rfl rfl rfl (fun b1 hb1 hM1 => ?_) (by simp)
  refine sy_assign rfl rfl rfl ?_
  refine sy_nil rfl ?_
  refine ny_next ?_
  refine cy_seq ?_
  refine cy_seq ?_
  refine cy_region ?_
  refine sy_assign rfl rfl rfl ?_
  refine sy_nil rfl ?_
  refine ny_next ?_
  refine cy_block ?_
  refine cy_loop (ι := Nat) (fun i => i ≤ n ∧ ∀ c, c < i → (List.range n).all (fun e => d c e) = false) (fun i => n - i) (fun i => [(1, .pointer (some ⟨b1, 0, none⟩)), (3, .int .i64 (i : Int))]) (fun _ => h) (fun _ => [.blk b1 (.cells [.slice A n c].toArray 52 (0, 0))]) 0 [0] ⟨Nat.zero_le _, fun c hc => absurd hc (Nat.not_lt_zero c)⟩ ⟨rfl, rfl, trivial⟩ rfl rfl ?_
  rintro i ⟨hi, hprei⟩
  refine cy_seq ?_
  refine cy_seq ?_
  refine cy_region ?_
  refine sy_move rfl rfl rfl ?_
  refine sy_field fld_52_0 rfl rfl rfl ?_
  first | refine sy_ldr 0 one_50 rfl rfl rfl rfl rfl ?_
  refine sy_len rfl (len_slice Tryd.underlying50 _ _ _) rfl rfl ?_
  refine sy_cmp rfl rfl rfl rfl rfl ?_
  refine sy_nil rfl ?_
  refine ny_next ?_
  refine cy_cond rfl (fun hc10 => ?_) (fun hc10 => ?_)
  · have hlti : i < n := by have := of_decide_eq_true hc10; omega
    refine cy_skip ?_
    refine ny_next ?_
    refine cy_seq ?_
    refine cy_block ?_
    refine cy_seq ?_
    refine cy_region ?_
    refine sy_assign rfl rfl rfl ?_
    refine sy_nil rfl ?_
    refine ny_next ?_
    refine cy_seq ?_
    refine cy_seq ?_
    refine cy_region ?_
    refine sy_assign rfl rfl rfl ?_
    refine sy_nil rfl ?_
    refine ny_next ?_
    refine cy_block ?_
    refine cy_loop (ι := Nat) (fun e => e ≤ n) (fun e => n - e) (fun e => [(1, .pointer (some ⟨b1, 0, none⟩)), (3, .int .i64 (i : Int)), (4, .bool ((List.range e).all (fun e => d i e))), (5, .int .i64 (e : Int))]) (fun _ => h) (fun _ => [.blk b1 (.cells [.slice A n c].toArray 52 (0, 0))]) 0 [0] (Nat.zero_le _) ⟨rfl, rfl, rfl, rfl, trivial⟩ rfl rfl ?_
    rintro e he
    refine cy_seq ?_
    refine cy_seq ?_
    refine cy_region ?_
    refine sy_move rfl rfl rfl ?_
    refine sy_field fld_52_0 rfl rfl rfl ?_
    first | refine sy_ldr 0 one_50 rfl rfl rfl rfl rfl ?_
    refine sy_len rfl (len_slice Tryd.underlying50 _ _ _) rfl rfl ?_
    refine sy_cmp rfl rfl rfl rfl rfl ?_
    refine sy_nil rfl ?_
    refine ny_next ?_
    refine cy_cond rfl (fun hc17 => ?_) (fun hc17 => ?_)
    · have hlte : e < n := by have := of_decide_eq_true hc17; omega
      refine cy_skip ?_
      refine ny_next ?_
      refine cy_seq ?_
      refine cy_block ?_
      refine cy_region ?_
      refine sy_move rfl rfl rfl ?_
      refine sy_move rfl rfl rfl ?_
      refine sy_cond (d := 21) _ rfl rfl (fun hg21 => ?_) (fun hg21 => ?_)
      · obtain ⟨g0, g1, c1, rfl, hr1, hr2⟩ := hT i (by omega)
        refine sy_field fld_52_0 rfl rfl rfl ?_
        first | refine sy_ldr 0 one_50 rfl rfl rfl rfl rfl ?_
        refine sy_move rfl rfl rfl ?_
        refine sy_idxS els_50 rfl rfl (by omega) (by omega) rfl rfl ?_
        refine sy_ldh one_106 rfl hr1 rfl rfl ?_
        refine sy_move rfl rfl rfl ?_
        refine sy_idxS els_106 rfl rfl (by omega) (by omega) rfl rfl ?_
        refine sy_ldh one_4 rfl (hr2 e (by omega)) rfl rfl ?_
        refine sy_pickT rfl rfl rfl rfl ?_
        refine sy_assign rfl rfl rfl ?_
        refine sy_nil rfl ?_
        refine ny_blockN ?_
        refine ny_next ?_
        refine cy_region ?_
        refine sy_move rfl rfl rfl ?_
        refine sy_addi (z := ((e + 1 : Nat) : Int)) rfl rfl (by omega) (by omega) (by omega) rfl rfl ?_
        refine sy_assign rfl rfl rfl ?_
        refine sy_nil rfl ?_
        refine ny_round (e + 1) [0] (show e + 1 ≤ n by omega) (show n - (e + 1) < n - e by omega) ⟨rfl, rfl, (by first | (rw [all_T hg21]; rfl) | (rw [all_F hg21]; rfl)), rfl, trivial⟩ rfl rfl
      · refine sy_skip rfl rfl rfl ?_
        refine sy_skip rfl rfl rfl ?_
        refine sy_skip rfl rfl rfl ?_
        refine sy_skip rfl rfl rfl ?_
        refine sy_skip rfl rfl rfl ?_
        refine sy_skip rfl rfl rfl ?_
        refine sy_skip rfl rfl rfl ?_
        refine sy_skip rfl rfl rfl ?_
        refine sy_pickF rfl rfl rfl rfl ?_
        refine sy_assign rfl rfl rfl ?_
        refine sy_nil rfl ?_
        refine ny_blockN ?_
        refine ny_next ?_
        refine cy_region ?_
        refine sy_move rfl rfl rfl ?_
        refine sy_addi (z := ((e + 1 : Nat) : Int)) rfl rfl (by omega) (by omega) (by omega) rfl rfl ?_
        refine sy_assign rfl rfl rfl ?_
        refine sy_nil rfl ?_
        refine ny_round (e + 1) [0] (show e + 1 ≤ n by omega) (show n - (e + 1) < n - e by omega) ⟨rfl, rfl, (by first | (rw [all_T hg21]; rfl) | (rw [all_F hg21]; rfl)), rfl, trivial⟩ rfl rfl
    · have hee : n = e := by have := of_decide_eq_false hc17; omega
      rw [← hee]
      refine cy_exit ?_
      refine ny_thenE ?_
      refine ny_thenE ?_
      refine ny_blockX ?_
      refine ny_next ?_
      refine cy_seq ?_
      refine cy_region ?_
      refine sy_move rfl rfl rfl ?_
      refine sy_nil rfl ?_
      refine ny_next ?_
      refine cy_cond rfl (fun hc31 => ?_) (fun hc31 => ?_)
      · refine cy_seq ?_
        refine cy_region ?_
        refine sy_move rfl rfl rfl ?_
        refine sy_assign rfl rfl rfl ?_
        refine sy_nil rfl ?_
        refine ny_next ?_
        refine cy_ret ?_
        refine ny_blockR ?_
        refine ny_thenR ?_
        refine ny_thenR ?_
        refine ny_blockR ?_
        refine ny_thenR ?_
        refine ny_finR (res1 rfl rfl) (fun w hs => ⟨?_, hs.frm⟩)
        rw [show botD n d = (i : Int) from firstI_at hlti hc31 hprei]
      · refine cy_skip ?_
        refine ny_blockN ?_
        refine ny_next ?_
        refine cy_region ?_
        refine sy_move rfl rfl rfl ?_
        refine sy_addi (z := ((i + 1 : Nat) : Int)) rfl rfl (by omega) (by omega) (by omega) rfl rfl ?_
        refine sy_assign rfl rfl rfl ?_
        refine sy_nil rfl ?_
        refine ny_round (i + 1) [0] ⟨by omega, ?_⟩ (show n - (i + 1) < n - i by omega) ⟨rfl, rfl, trivial⟩ rfl rfl
        intro c hc
        rcases Nat.lt_succ_iff_lt_or_eq.1 hc with hc | hc
        · exact hprei c hc
        · subst hc
          exact hc31
  · have hiei : n = i := by have := of_decide_eq_false hc10; omega
    subst hiei
    refine cy_exit ?_
    refine ny_thenE ?_
    refine ny_thenE ?_
    refine ny_blockX ?_
    refine ny_next ?_
    refine cy_seq ?_
    refine cy_region ?_
    refine sy_assign rfl rfl rfl ?_
    refine sy_nil rfl ?_
    refine ny_next ?_
    refine cy_ret ?_
    refine ny_finR (res1 rfl rfl) (fun w hs => ⟨?_, hs.frm⟩)
    rw [show botD n d = -1 from firstI_none hprei]
set_option maxRecDepth 100000 in
theorem rTop_c (A : Option Addr) (n c : Nat) (d : Dt) (h : Hp) (hT : RefT h A n d) (hn : n ≤ 16) : C0 Tryd.prog 71 [.agg #[.slice A n c]] h (.int .i64 (topD n d)) := by
  refine enter0 Tryd.func71 rfl rfl rfl (fun w => ?_)
  refine cy_seq ?_
  refine cy_region ?_
  refine sy_box rfl rfl rfl rfl (fun b1 hb1 hM1 => ?_) (by simp)
  refine sy_assign rfl rfl rfl ?_
  refine sy_nil rfl ?_
  refine ny_next ?_
  refine cy_seq ?_
  refine cy_seq ?_
  refine cy_region ?_
  refine sy_assign rfl rfl rfl ?_
  refine sy_nil rfl ?_
  refine ny_next ?_
  refine cy_block ?_
  refine cy_loop (ι := Nat) (fun i => i ≤ n ∧ ∀ c, c < i → (List.range n).all (fun e => d e c) = false) (fun i => n - i) (fun i => [(1, .pointer (some ⟨b1, 0, none⟩)), (3, .int .i64 (i : Int))]) (fun _ => h) (fun _ => [.blk b1 (.cells [.slice A n c].toArray 52 (0, 0))]) 0 [0] ⟨Nat.zero_le _, fun c hc => absurd hc (Nat.not_lt_zero c)⟩ ⟨rfl, rfl, trivial⟩ rfl rfl ?_
  rintro i ⟨hi, hprei⟩
  refine cy_seq ?_
  refine cy_seq ?_
  refine cy_region ?_
  refine sy_move rfl rfl rfl ?_
  refine sy_field fld_52_0 rfl rfl rfl ?_
  first | refine sy_ldr 0 one_50 rfl rfl rfl rfl rfl ?_
  refine sy_len rfl (len_slice Tryd.underlying50 _ _ _) rfl rfl ?_
  refine sy_cmp rfl rfl rfl rfl rfl ?_
  refine sy_nil rfl ?_
  refine ny_next ?_
  refine cy_cond rfl (fun hc10 => ?_) (fun hc10 => ?_)
  · have hlti : i < n := by have := of_decide_eq_true hc10; omega
    refine cy_skip ?_
    refine ny_next ?_
    refine cy_seq ?_
    refine cy_block ?_
    refine cy_seq ?_
    refine cy_region ?_
    refine sy_assign rfl rfl rfl ?_
    refine sy_nil rfl ?_
    refine ny_next ?_
    refine cy_seq ?_
    refine cy_seq ?_
    refine cy_region ?_
    refine sy_assign rfl rfl rfl ?_
    refine sy_nil rfl ?_
    refine ny_next ?_
    refine cy_block ?_
    refine cy_loop (ι := Nat) (fun e => e ≤ n) (fun e => n - e) (fun e => [(1, .pointer (some ⟨b1, 0, none⟩)), (3, .int .i64 (i : Int)), (4, .bool ((List.range e).all (fun e => d e i))), (5, .int .i64 (e : Int))]) (fun _ => h) (fun _ => [.blk b1 (.cells [.slice A n c].toArray 52 (0, 0))]) 0 [0] (Nat.zero_le _) ⟨rfl, rfl, rfl, rfl, trivial⟩ rfl rfl ?_
    rintro e he
    refine cy_seq ?_
    refine cy_seq ?_
    refine cy_region ?_
    refine sy_move rfl rfl rfl ?_
    refine sy_field fld_52_0 rfl rfl rfl ?_
    first | refine sy_ldr 0 one_50 rfl rfl rfl rfl rfl ?_
    refine sy_len rfl (len_slice Tryd.underlying50 _ _ _) rfl rfl ?_
    refine sy_cmp rfl rfl rfl rfl rfl ?_
    refine sy_nil rfl ?_
    refine ny_next ?_
    refine cy_cond rfl (fun hc17 => ?_) (fun hc17 => ?_)
    · have hlte : e < n := by have := of_decide_eq_true hc17; omega
      refine cy_skip ?_
      refine ny_next ?_
      refine cy_seq ?_
      refine cy_block ?_
      refine cy_region ?_
      refine sy_move rfl rfl rfl ?_
      refine sy_move rfl rfl rfl ?_
      refine sy_cond (d := 21) _ rfl rfl (fun hg21 => ?_) (fun hg21 => ?_)
      · obtain ⟨g0, g1, c1, rfl, hr1, hr2⟩ := hT e (by omega)
        refine sy_field fld_52_0 rfl rfl rfl ?_
        first | refine sy_ldr 0 one_50 rfl rfl rfl rfl rfl ?_
        refine sy_move rfl rfl rfl ?_
        refine sy_idxS els_50 rfl rfl (by omega) (by omega) rfl rfl ?_
        refine sy_ldh one_106 rfl hr1 rfl rfl ?_
        refine sy_move rfl rfl rfl ?_
        refine sy_idxS els_106 rfl rfl (by omega) (by omega) rfl rfl ?_
        refine sy_ldh one_4 rfl (hr2 i (by omega)) rfl rfl ?_
        refine sy_pickT rfl rfl rfl rfl ?_
        refine sy_assign rfl rfl rfl ?_
        refine sy_nil rfl ?_
        refine ny_blockN ?_
        refine ny_next ?_
        refine cy_region ?_
        refine sy_move rfl rfl rfl ?_
        refine sy_addi (z := ((e + 1 : Nat) : Int)) rfl rfl (by omega) (by omega) (by omega) rfl rfl ?_
        refine sy_assign rfl rfl rfl ?_
        refine sy_nil rfl ?_
        refine ny_round (e + 1) [0] (show e + 1 ≤ n by omega) (show n - (e + 1) < n - e by omega) ⟨rfl, rfl, (by first | (rw [all_T hg21]; rfl) | (rw [all_F hg21]; rfl)), rfl, trivial⟩ rfl rfl
      · refine sy_skip rfl rfl rfl ?_
        refine sy_skip rfl rfl rfl ?_
        refine sy_skip rfl rfl rfl ?_
        refine sy_skip rfl rfl rfl ?_
        refine sy_skip rfl rfl rfl ?_
        refine sy_skip rfl rfl rfl ?_
        refine sy_skip rfl rfl rfl ?_
        refine sy_skip rfl rfl rfl ?_
        refine sy_pickF rfl rfl rfl rfl ?_
        refine sy_assign rfl rfl rfl ?_
        refine sy_nil rfl ?_
        refine ny_blockN ?_
        refine ny_next ?_
        refine cy_region ?_
        refine sy_move rfl rfl rfl ?_
        refine sy_addi (z := ((e + 1 : Nat) : Int)) rfl rfl (by omega) (by omega) (by omega) rfl rfl ?_
        refine sy_assign rfl rfl rfl ?_
        refine sy_nil rfl ?_
        refine ny_round (e + 1) [0] (show e + 1 ≤ n by omega) (show n - (e + 1) < n - e by omega) ⟨rfl, rfl, (by first | (rw [all_T hg21]; rfl) | (rw [all_F hg21]; rfl)), rfl, trivial⟩ rfl rfl
    · have hee : n = e := by have := of_decide_eq_false hc17; omega
      rw [← hee]
      refine cy_exit ?_
      refine ny_thenE ?_
      refine ny_thenE ?_
      refine ny_blockX ?_
      refine ny_next ?_
      refine cy_seq ?_
      refine cy_region ?_
      refine sy_move rfl rfl rfl ?_
      refine sy_nil rfl ?_
      refine ny_next ?_
      refine cy_cond rfl (fun hc31 => ?_) (fun hc31 => ?_)
      · refine cy_seq ?_
        refine cy_region ?_
        refine sy_move rfl rfl rfl ?_
        refine sy_assign rfl rfl rfl ?_
        refine sy_nil rfl ?_
        refine ny_next ?_
        refine cy_ret ?_
        refine ny_blockR ?_
        refine ny_thenR ?_
        refine ny_thenR ?_
        refine ny_blockR ?_
        refine ny_thenR ?_
        refine ny_finR (res1 rfl rfl) (fun w hs => ⟨?_, hs.frm⟩)
        rw [show topD n d = (i : Int) from firstI_at hlti hc31 hprei]
      · refine cy_skip ?_
        refine ny_blockN ?_
        refine ny_next ?_
        refine cy_region ?_
        refine sy_move rfl rfl rfl ?_
        refine sy_addi (z := ((i + 1 : Nat) : Int)) rfl rfl (by omega) (by omega) (by omega) rfl rfl ?_
        refine sy_assign rfl rfl rfl ?_
        refine sy_nil rfl ?_
        refine ny_round (i + 1) [0] ⟨by omega, ?_⟩ (show n - (i + 1) < n - i by omega) ⟨rfl, rfl, trivial⟩ rfl rfl
        intro c hc
        rcases Nat.lt_succ_iff_lt_or_eq.1 hc with hc | hc
        · exact hprei c hc
        · subst hc
          exact hc31
  · have hiei : n = i := by have := of_decide_eq_false hc10; omega
    subst hiei
    refine cy_exit ?_
    refine ny_thenE ?_
    refine ny_thenE ?_
    refine ny_blockX ?_
    refine ny_next ?_
    refine cy_seq ?_
    refine cy_region ?_
    refine sy_assign rfl rfl rfl ?_
    refine sy_nil rfl ?_
    refine ny_next ?_
    refine cy_ret ?_
    refine ny_finR (res1 rfl rfl) (fun w hs => ⟨?_, hs.frm⟩)
    rw [show topD n d = -1 from firstI_none hprei]
set_option maxRecDepth 100000 in
theorem rTable_c (n : Nat) (A : Option Addr) (l c : Nat) (q : List (Int × Int)) (h : Hp) (hn1 : 1 ≤ n) (hn : n ≤ 16) (hp : PairsAt h A q) (hql : q.length = l) (hin : InR n q) (hm : l ≤ 9223372036854775807) : CX Tryd.prog 60 [.int .i64 (n : Int), .slice A l c] h (fun x : Option Addr × Nat => .slice x.1 n x.2) (fun x h' => RefT h' x.1 n (tw q n)) := by
  refine enterX Tryd.func60 rfl rfl rfl (fun w => ?_)
  refine cy_seq ?_
  refine cy_region ?_
  refine sy_assign rfl rfl rfl ?_
  refine sy_nil rfl ?_
  refine ny_next ?_
  refine cy_seq ?_
  refine cy_region ?_
  refine sy_assign rfl rfl rfl ?_
  refine sy_nil rfl ?_
  refine ny_next ?_
  refine cy_seq ?_
  refine cy_seq ?_
  refine cy_region ?_
  refine sy_assign rfl rfl rfl ?_
  refine sy_nil rfl ?_
  refine ny_next ?_
  refine cy_block ?_
  refine cy_nilRow 106 1 ?_
  refine cy_loopP (ι := Nat × Value × (Nat → Nat)) (fun s => s.1 ≤ n) (fun s => n - s.1) (fun s => [(0, .int .i64 (n : Int)), (1, .slice A l c), (5, s.2.1), (6, .int .i64 (s.1 : Int))]) (fun _ => h) (fun s => (.row s.2.1 106 1 s.1 ((List.range s.1).map fun k => Value.slice (some ⟨s.2.2 k, 0, none⟩) n n)) :: (List.range s.1).map fun k => Res.blk (s.2.2 k) (.cells (rowC n ((t0 q) k)).toArray 4 (0, 0))) (0, .slice none 0 0, fun _ => 0) (Nat.zero_le _) ⟨rfl, rfl, rfl, rfl, trivial⟩ rfl SubP.rfl' ?_
  rintro ⟨a, v, gs⟩ ha
  simp only at ha ⊢
  refine cy_seq ?_
  refine cy_seq ?_
  refine cy_region ?_
  refine sy_move rfl rfl rfl ?_
  refine sy_move rfl rfl rfl ?_
  refine sy_cmp rfl rfl rfl rfl rfl ?_
  refine sy_nil rfl ?_
  refine ny_next ?_
  refine cy_cond rfl (fun hc14 => ?_) (fun hc14 => ?_)
  · have hlta : a < n := by have := of_decide_eq_true hc14; omega
    refine cy_skip ?_
    refine ny_next ?_
    refine cy_seq ?_
    refine cy_block ?_
    refine cy_seq ?_
    refine cy_region ?_
    refine sy_move rfl rfl rfl ?_
    refine sy_make make_b rfl rfl (by omega) (by simp only [maxLen]; omega) rfl rfl (fun b18 hb18 hM18 => ?_) (by simp)
    rw [rep_row]
    refine sy_assign rfl rfl rfl ?_
    refine sy_nil rfl ?_
    refine ny_next ?_
    refine cy_seq ?_
    refine cy_region ?_
    refine sy_move rfl rfl rfl ?_
    refine sy_move rfl rfl rfl ?_
    refine sy_idxS els_106 rfl rfl (by omega) (by omega) rfl rfl ?_
    refine sy_st 0 rfl rfl rfl rfl (sz_spec sz_4) rfl (by rw [rowC_len]; simp; omega) (rowC_st hlta) rfl ?_
    refine sy_nil rfl ?_
    refine ny_next ?_
    refine cy_seq ?_
    refine cy_seq ?_
    refine cy_region ?_
    refine sy_assign rfl rfl rfl ?_
    refine sy_nil rfl ?_
    refine ny_next ?_
    refine cy_block ?_
    refine cy_loopP (ι := Nat) (fun j => j ≤ l) (fun j => l - j) (fun j => [(0, .int .i64 (n : Int)), (1, .slice A l c), (5, v), (6, .int .i64 (a : Int)), (7, .slice (some ⟨b18, 0, none⟩) n n), (8, .int .i64 (j : Int))]) (fun _ => h) (fun j => .blk b18 (.cells (rowC n (fun b => a == b || (q.take j).any fun x => x.1 == (a : Int) && x.2 == (b : Int))).toArray 4 (0, 0)) :: (.row v 106 1 a ((List.range a).map fun k => Value.slice (some ⟨gs k, 0, none⟩) n n)) :: (List.range a).map fun k => Res.blk (gs k) (.cells (rowC n ((t0 q) k)).toArray 4 (0, 0))) 0 (Nat.zero_le _) ⟨rfl, rfl, rfl, rfl, rfl, rfl, trivial⟩ rfl (by rw [row0]; exact SubP.rfl') ?_
    rintro j hj
    refine cy_seq ?_
    refine cy_seq ?_
    refine cy_region ?_
    refine sy_move rfl rfl rfl ?_
    refine sy_move rfl rfl rfl ?_
    refine sy_len rfl (len_slice Tryd.underlying22 _ _ _) rfl rfl ?_
    refine sy_cmp rfl rfl rfl rfl rfl ?_
    refine sy_nil rfl ?_
    refine ny_next ?_
    refine cy_cond rfl (fun hc25 => ?_) (fun hc25 => ?_)
    · have hltj : j < l := by have := of_decide_eq_true hc25; omega
      obtain ⟨⟨x1, x2⟩, hx⟩ : ∃ x, q[j]? = some x := ⟨_, List.getElem?_eq_getElem (by omega)⟩
      obtain ⟨gg, off, rfl, hx1, hx2⟩ := hp j _ hx
      have hin2 := hin _ (List.mem_of_getElem? hx)
      obtain ⟨y1, hy1, hy1n⟩ := isI_some hin2.1
      obtain ⟨y2, hy2, hy2n⟩ := isI_some hin2.2
      simp only at hy1 hy2 hx1 hx2
      subst hy1 hy2
      refine cy_skip ?_
      refine ny_next ?_
      refine cy_seq ?_
      refine cy_block ?_
      refine cy_seq ?_
      refine cy_region ?_
      refine sy_move rfl rfl rfl ?_
      refine sy_move rfl rfl rfl ?_
      refine sy_idxS els_22 rfl rfl (by omega) (by omega) rfl rfl ?_
      refine sy_idxA arr_90 rfl rfl (by omega) (by omega) rfl rfl ?_
      refine sy_ldh one_3 rfl (by have := hx1; simpa using this) rfl rfl ?_
      refine sy_move rfl rfl rfl ?_
      refine sy_cmp rfl rfl rfl rfl rfl ?_
      refine sy_nil rfl ?_
      refine ny_next ?_
      refine cy_cond rfl (fun hc34 => ?_) (fun hc34 => ?_)
      · refine cy_region ?_
        refine sy_move rfl rfl rfl ?_
        refine sy_move rfl rfl rfl ?_
        refine sy_move rfl rfl rfl ?_
        refine sy_idxS els_22 rfl rfl (by omega) (by omega) rfl rfl ?_
        refine sy_idxA arr_90 rfl rfl (by omega) (by omega) rfl rfl ?_
        refine sy_ldh one_3 rfl (by have := hx2; simpa using this) rfl rfl ?_
        refine sy_idxS els_106 rfl rfl (by omega) (by omega) rfl rfl ?_
        refine sy_st 0 rfl rfl rfl rfl (sz_spec sz_4) rfl (by rw [rowC_len]; simp; omega) (rowC_st hy2n) rfl ?_
        refine sy_nil rfl ?_
        refine ny_blockN ?_
        refine ny_next ?_
        refine cy_region ?_
        refine sy_move rfl rfl rfl ?_
        refine sy_addi (z := ((j + 1 : Nat) : Int)) rfl rfl (by omega) (by omega) (by omega) rfl rfl ?_
        refine sy_assign rfl rfl rfl ?_
        refine sy_nil rfl ?_
        refine ny_roundP (j + 1) (show j + 1 ≤ l by omega) (show l - (j + 1) < l - j by omega) ⟨rfl, rfl, rfl, rfl, rfl, rfl, trivial⟩ rfl ?_
        rw [rowY hx (by rw [cast_beq] at hc34; exact eq_of_beq hc34)]
        exact SubP.rfl'
      · refine cy_skip ?_
        refine ny_blockN ?_
        refine ny_next ?_
        refine cy_region ?_
        refine sy_move rfl rfl rfl ?_
        refine sy_addi (z := ((j + 1 : Nat) : Int)) rfl rfl (by omega) (by omega) (by omega) rfl rfl ?_
        refine sy_assign rfl rfl rfl ?_
        refine sy_nil rfl ?_
        refine ny_roundP (j + 1) (show j + 1 ≤ l by omega) (show l - (j + 1) < l - j by omega) ⟨rfl, rfl, rfl, rfl, rfl, rfl, trivial⟩ rfl ?_
        rw [rowN hx hc34]
        exact SubP.rfl'
    · have hjl : j = q.length := by have := of_decide_eq_false hc25; omega
      rw [hjl, rowE]
      refine cy_exit ?_
      refine ny_thenE ?_
      refine ny_thenE ?_
      refine ny_blockX ?_
      refine ny_next ?_
      refine cy_region ?_
      refine sy_move rfl rfl rfl ?_
      refine sy_move rfl rfl rfl ?_
      refine sy_buildSlice rfl (fun w => bsl_50_1_0 w) rfl rfl (fun b44 hb44 hM44 => ?_) (by simp)
      refine sy_append 2 0 row_50 (by decide) rfl rfl rfl rfl rfl rfl (by omega) (by simp only [maxLen]; omega) rfl rfl (fun v45 => ?_)
      refine sy_assign rfl rfl rfl ?_
      refine sy_nil rfl ?_
      refine ny_blockN ?_
      refine ny_next ?_
      refine cy_region ?_
      refine sy_move rfl rfl rfl ?_
      refine sy_addi (z := ((a + 1 : Nat) : Int)) rfl rfl (by omega) (by omega) (by omega) rfl rfl ?_
      refine sy_assign rfl rfl rfl ?_
      refine sy_nil rfl ?_
      refine ny_roundP (a + 1, v45, fun k => if k = a then b18 else gs k) (show a + 1 ≤ n by omega) (show n - (a + 1) < n - a by omega) ⟨rfl, rfl, rfl, rfl, trivial⟩ rfl ?_
      have e1 : (List.range (a + 1)).map (fun k => Value.slice (some ⟨(if k = a then b18 else gs k), 0, none⟩) n n) = (List.range a).map (fun k => Value.slice (some ⟨gs k, 0, none⟩) n n) ++ [Value.slice (some ⟨b18, 0, none⟩) n n] := range_snoc _ _ (by simp) (fun k hk => by rw [if_neg (by omega)])
      have e2 : (List.range (a + 1)).map (fun k => Res.blk (if k = a then b18 else gs k) (.cells (rowC n (t0 q k)).toArray 4 (0, 0))) = (List.range a).map (fun k => Res.blk (gs k) (.cells (rowC n (t0 q k)).toArray 4 (0, 0))) ++ [Res.blk b18 (.cells (rowC n (t0 q a)).toArray 4 (0, 0))] := range_snoc _ _ (by simp) (fun k hk => by rw [if_neg (by omega)])
      show SubP ((.row v45 106 1 (a + 1) ((List.range (a + 1)).map fun k => Value.slice (some ⟨(if k = a then b18 else gs k), 0, none⟩) n n)) :: (List.range (a + 1)).map fun k => Res.blk (if k = a then b18 else gs k) (.cells (rowC n ((t0 q) k)).toArray 4 (0, 0))) _
      rw [e1, e2]
      exact sub_table
  · have hiea : n = a := by have := of_decide_eq_false hc14; omega
    rw [← hiea]
    refine cy_exit ?_
    refine ny_thenE ?_
    refine ny_thenE ?_
    refine ny_blockX ?_
    refine ny_next ?_
    refine cy_seq ?_
    refine cy_seq ?_
    refine cy_frzRow 0 rfl (fun _ _ => by simp) (fun A5 c5 h5 hv5 hlc5 hcm5 hlen5 hle5 hcell5 => ?_)
    subst hv5
    obtain ⟨g5, hA5, hrow5⟩ := rows_in hn1 hcell5
    subst hA5
    refine cy_region ?_
    refine sy_assign rfl rfl rfl ?_
    refine sy_nil rfl ?_
    refine ny_next ?_
    refine cy_block ?_
    refine cy_loopP (ι := Nat) (fun k => k ≤ n) (fun k => n - k) (fun k => [(0, .int .i64 (n : Int)), (5, .slice (some ⟨g5, 0, none⟩) n c5), (9, .int .i64 (k : Int))]) (fun _ => h5) (fun k => (List.range n).map fun x => Res.blk (gs x) (.cells (rowC n (tw q k x)).toArray 4 (0, 0))) 0 (Nat.zero_le _) ⟨rfl, rfl, rfl, trivial⟩ rfl SubP.rfl' ?_
    rintro k hk
    refine cy_seq ?_
    refine cy_seq ?_
    refine cy_region ?_
    refine sy_move rfl rfl rfl ?_
    refine sy_move rfl rfl rfl ?_
    refine sy_cmp rfl rfl rfl rfl rfl ?_
    refine sy_nil rfl ?_
    refine ny_next ?_
    refine cy_cond rfl (fun hc48 => ?_) (fun hc48 => ?_)
    · have hltk : k < n := by have := of_decide_eq_true hc48; omega
      have hkk := tw_refl q k k
      refine cy_skip ?_
      refine ny_next ?_
      refine cy_seq ?_
      refine cy_block ?_
      refine cy_seq ?_
      refine cy_region ?_
      refine sy_assign rfl rfl rfl ?_
      refine sy_nil rfl ?_
      refine ny_next ?_
      refine cy_block ?_
      refine cy_loopP (ι := Nat) (fun a => a ≤ n) (fun a => n - a) (fun a => [(0, .int .i64 (n : Int)), (5, .slice (some ⟨g5, 0, none⟩) n c5), (9, .int .i64 (k : Int)), (10, .int .i64 (a : Int))]) (fun _ => h5) (fun a => (List.range n).map fun x => Res.blk (gs x) (.cells (rowC n (cur (tw q k) k a 0 x)).toArray 4 (0, 0))) 0 (Nat.zero_le _) ⟨rfl, rfl, rfl, rfl, trivial⟩ rfl (by simp only [cur_start]; exact SubP.rfl') ?_
      rintro a ha
      refine cy_seq ?_
      refine cy_seq ?_
      refine cy_region ?_
      refine sy_move rfl rfl rfl ?_
      refine sy_move rfl rfl rfl ?_
      refine sy_cmp rfl rfl rfl rfl rfl ?_
      refine sy_nil rfl ?_
      refine ny_next ?_
      refine cy_cond rfl (fun hc53 => ?_) (fun hc53 => ?_)
      · have hlta : a < n := by have := of_decide_eq_true hc53; omega
        refine cy_skip ?_
        refine ny_next ?_
        refine cy_seq ?_
        refine cy_block ?_
        refine cy_seq ?_
        refine cy_region ?_
        refine sy_assign rfl rfl rfl ?_
        refine sy_nil rfl ?_
        refine ny_next ?_
        refine cy_block ?_
        refine cy_loopP (ι := Nat) (fun b => b ≤ n) (fun b => n - b) (fun b => [(0, .int .i64 (n : Int)), (5, .slice (some ⟨g5, 0, none⟩) n c5), (9, .int .i64 (k : Int)), (10, .int .i64 (a : Int)), (11, .int .i64 (b : Int))]) (fun _ => h5) (fun b => (List.range n).map fun x => Res.blk (gs x) (.cells (rowC n (cur (tw q k) k a b x)).toArray 4 (0, 0))) 0 (Nat.zero_le _) ⟨rfl, rfl, rfl, rfl, rfl, trivial⟩ rfl SubP.rfl' ?_
        rintro b hb
        refine cy_seq ?_
        refine cy_seq ?_
        refine cy_region ?_
        refine sy_move rfl rfl rfl ?_
        refine sy_move rfl rfl rfl ?_
        refine sy_cmp rfl rfl rfl rfl rfl ?_
        refine sy_nil rfl ?_
        refine ny_next ?_
        refine cy_cond rfl (fun hc58 => ?_) (fun hc58 => ?_)
        · have hltb : b < n := by have := of_decide_eq_true hc58; omega
          obtain ⟨H1, hpm1, hpm2⟩ := fam_st gs (tw q k) k b hlta
          refine cy_skip ?_
          refine ny_next ?_
          refine cy_seq ?_
          refine cy_block ?_
          refine cy_regionS 31 mixedA (by kernel_rfl) rfl ?_
          refine sy_move rfl rfl rfl ?_
          refine sy_move rfl rfl rfl ?_
          refine sy_idxS els_50 rfl rfl (by omega) (by omega) rfl rfl ?_
          refine sy_ldh one_106 rfl (hrow5 a hlta) rfl rfl ?_
          refine sy_move rfl rfl rfl ?_
          refine sy_move rfl rfl rfl ?_
          refine sy_move rfl rfl rfl ?_
          refine sy_idxS els_50 rfl rfl (by omega) (by omega) rfl rfl ?_
          refine sy_ldh one_106 rfl (hrow5 a hlta) rfl rfl ?_
          refine sy_move rfl rfl rfl ?_
          refine sy_idxS els_106 rfl rfl (by omega) (by omega) rfl rfl ?_
          refine sy_ldm one_4 rfl (fam_mem hlta) (fam_at hltb) rfl rfl ?_
          rw [cur_here]
          refine sy_move rfl rfl rfl ?_
          refine sy_cond (d := 73) _ rfl rfl (fun hg73 => ?_) (fun hg73 => ?_)
          · refine sy_skip rfl rfl rfl ?_
            refine sy_skip rfl rfl rfl ?_
            refine sy_skip rfl rfl rfl ?_
            refine sy_skip rfl rfl rfl ?_
            refine sy_skip rfl rfl rfl ?_
            refine sy_skip rfl rfl rfl ?_
            refine sy_skip rfl rfl rfl ?_
            refine sy_skip rfl rfl rfl ?_
            refine sy_skip rfl rfl rfl ?_
            refine sy_skip rfl rfl rfl ?_
            refine sy_skip rfl rfl rfl ?_
            refine sy_skip rfl rfl rfl ?_
            refine sy_skip rfl rfl rfl ?_
            refine sy_skip rfl rfl rfl ?_
            refine sy_skip rfl rfl rfl ?_
            refine sy_skip rfl rfl rfl ?_
            refine sy_pickT rfl rfl rfl rfl ?_
            refine sy_idxS els_106 rfl rfl (by omega) (by omega) rfl rfl ?_
            refine sy_tail ?_
            refine sy_stp (H2 := (List.range n).map fun x => Res.blk (gs x) (.cells (rowC n (cur (tw q k) k a (b + 1) x)).toArray 4 (0, 0))) rfl rfl rfl rfl (sz_spec sz_4) hpm1 (by rw [rowC_len]; simp; omega) (rowC_st hltb) (by first | (have e := (fam_T (k := k) hg73).symm; rw [e] at hpm2; exact hpm2) | (have e := (fam_TF hg73 hg81).symm; rw [e] at hpm2; exact hpm2) | (have e := (fam_FF hg73 hg81).symm; rw [e] at hpm2; exact hpm2)) rfl ?_
            refine sy_nil rfl ?_
            refine ny_blockN ?_
            refine ny_next ?_
            refine cy_region ?_
            refine sy_move rfl rfl rfl ?_
            refine sy_addi (z := ((b + 1 : Nat) : Int)) rfl rfl (by omega) (by omega) (by omega) rfl rfl ?_
            refine sy_assign rfl rfl rfl ?_
            refine sy_nil rfl ?_
            refine ny_roundP (b + 1) (show b + 1 ≤ n by omega) (show n - (b + 1) < n - b by omega) ⟨rfl, rfl, rfl, rfl, rfl, trivial⟩ rfl ?_
            exact SubP.rfl'
          · refine sy_move rfl rfl rfl ?_
            refine sy_move rfl rfl rfl ?_
            refine sy_idxS els_50 rfl rfl (by omega) (by omega) rfl rfl ?_
            refine sy_ldh one_106 rfl (hrow5 a hlta) rfl rfl ?_
            refine sy_move rfl rfl rfl ?_
            refine sy_idxS els_106 rfl rfl (by omega) (by omega) rfl rfl ?_
            refine sy_ldm one_4 rfl (fam_mem hlta) (fam_at hltk) rfl rfl ?_
            rw [cur_at hkk]
            refine sy_move rfl rfl rfl ?_
            refine sy_cond (d := 81) _ rfl rfl (fun hg81 => ?_) (fun hg81 => ?_)
            · refine sy_move rfl rfl rfl ?_
              refine sy_move rfl rfl rfl ?_
              refine sy_idxS els_50 rfl rfl (by omega) (by omega) rfl rfl ?_
              refine sy_ldh one_106 rfl (hrow5 k hltk) rfl rfl ?_
              refine sy_move rfl rfl rfl ?_
              refine sy_idxS els_106 rfl rfl (by omega) (by omega) rfl rfl ?_
              refine sy_ldm one_4 rfl (fam_mem hltk) (fam_at hltb) rfl rfl ?_
              rw [cur_to hkk]
              refine sy_pickT rfl rfl rfl rfl ?_
              refine sy_pickF rfl rfl rfl rfl ?_
              refine sy_idxS els_106 rfl rfl (by omega) (by omega) rfl rfl ?_
              refine sy_tail ?_
              refine sy_stp (H2 := (List.range n).map fun x => Res.blk (gs x) (.cells (rowC n (cur (tw q k) k a (b + 1) x)).toArray 4 (0, 0))) rfl rfl rfl rfl (sz_spec sz_4) hpm1 (by rw [rowC_len]; simp; omega) (rowC_st hltb) (by first | (have e := (fam_T (k := k) hg73).symm; rw [e] at hpm2; exact hpm2) | (have e := (fam_TF hg73 hg81).symm; rw [e] at hpm2; exact hpm2) | (have e := (fam_FF hg73 hg81).symm; rw [e] at hpm2; exact hpm2)) rfl ?_
              refine sy_nil rfl ?_
              refine ny_blockN ?_
              refine ny_next ?_
              refine cy_region ?_
              refine sy_move rfl rfl rfl ?_
              refine sy_addi (z := ((b + 1 : Nat) : Int)) rfl rfl (by omega) (by omega) (by omega) rfl rfl ?_
              refine sy_assign rfl rfl rfl ?_
              refine sy_nil rfl ?_
              refine ny_roundP (b + 1) (show b + 1 ≤ n by omega) (show n - (b + 1) < n - b by omega) ⟨rfl, rfl, rfl, rfl, rfl, trivial⟩ rfl ?_
              exact SubP.rfl'
            · refine sy_skip rfl rfl rfl ?_
              refine sy_skip rfl rfl rfl ?_
              refine sy_skip rfl rfl rfl ?_
              refine sy_skip rfl rfl rfl ?_
              refine sy_skip rfl rfl rfl ?_
              refine sy_skip rfl rfl rfl ?_
              refine sy_skip rfl rfl rfl ?_
              refine sy_pickF rfl rfl rfl rfl ?_
              refine sy_pickF rfl rfl rfl rfl ?_
              refine sy_idxS els_106 rfl rfl (by omega) (by omega) rfl rfl ?_
              refine sy_tail ?_
              refine sy_stp (H2 := (List.range n).map fun x => Res.blk (gs x) (.cells (rowC n (cur (tw q k) k a (b + 1) x)).toArray 4 (0, 0))) rfl rfl rfl rfl (sz_spec sz_4) hpm1 (by rw [rowC_len]; simp; omega) (rowC_st hltb) (by first | (have e := (fam_T (k := k) hg73).symm; rw [e] at hpm2; exact hpm2) | (have e := (fam_TF hg73 hg81).symm; rw [e] at hpm2; exact hpm2) | (have e := (fam_FF hg73 hg81).symm; rw [e] at hpm2; exact hpm2)) rfl ?_
              refine sy_nil rfl ?_
              refine ny_blockN ?_
              refine ny_next ?_
              refine cy_region ?_
              refine sy_move rfl rfl rfl ?_
              refine sy_addi (z := ((b + 1 : Nat) : Int)) rfl rfl (by omega) (by omega) (by omega) rfl rfl ?_
              refine sy_assign rfl rfl rfl ?_
              refine sy_nil rfl ?_
              refine ny_roundP (b + 1) (show b + 1 ≤ n by omega) (show n - (b + 1) < n - b by omega) ⟨rfl, rfl, rfl, rfl, rfl, trivial⟩ rfl ?_
              exact SubP.rfl'
        · have heb : b = n := by have := of_decide_eq_false hc58; omega
          rw [heb]
          refine cy_exit ?_
          refine ny_thenE ?_
          refine ny_thenE ?_
          refine ny_blockX ?_
          refine ny_blockN ?_
          refine ny_next ?_
          refine cy_region ?_
          refine sy_move rfl rfl rfl ?_
          refine sy_addi (z := ((a + 1 : Nat) : Int)) rfl rfl (by omega) (by omega) (by omega) rfl rfl ?_
          refine sy_assign rfl rfl rfl ?_
          refine sy_nil rfl ?_
          refine ny_roundP (a + 1) (show a + 1 ≤ n by omega) (show n - (a + 1) < n - a by omega) ⟨rfl, rfl, rfl, rfl, trivial⟩ rfl ?_
          simp only [← cur_row]
          exact SubP.rfl'
      · have hea : a = n := by have := of_decide_eq_false hc53; omega
        rw [hea]
        refine cy_exit ?_
        refine ny_thenE ?_
        refine ny_thenE ?_
        refine ny_blockX ?_
        refine ny_blockN ?_
        refine ny_next ?_
        refine cy_region ?_
        refine sy_move rfl rfl rfl ?_
        refine sy_addi (z := ((k + 1 : Nat) : Int)) rfl rfl (by omega) (by omega) (by omega) rfl rfl ?_
        refine sy_assign rfl rfl rfl ?_
        refine sy_nil rfl ?_
        refine ny_roundP (k + 1) (show k + 1 ≤ n by omega) (show n - (k + 1) < n - k by omega) ⟨rfl, rfl, rfl, trivial⟩ rfl ?_
        rw [fam_end]
        exact SubP.rfl'
    · have hek : k = n := by have := of_decide_eq_false hc48; omega
      refine cy_exit ?_
      refine ny_thenE ?_
      refine ny_thenE ?_
      refine ny_blockX ?_
      refine ny_next ?_
      refine cy_seq ?_
      rw [hek]
      refine cy_frzAll (fun h6 hle6 hF6 => ?_)
      refine cy_region ?_
      refine sy_move rfl rfl rfl ?_
      refine sy_assign rfl rfl rfl ?_
      refine sy_nil rfl ?_
      refine ny_next ?_
      refine cy_ret ?_
      refine ny_finR (res1 rfl rfl) (fun w hs => ⟨(some ⟨g5, 0, none⟩, c5), h6, rfl, ?_, hs.toGrow⟩)
      exact table_at hrow5 hle6 hF6
end Go.Proofs.YtamifocfbcmfkaaDoor

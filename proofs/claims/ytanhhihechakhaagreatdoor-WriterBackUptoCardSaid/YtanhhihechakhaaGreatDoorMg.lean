/- The engine, the plain laws and the walks of this seat, part 7: what the functions answer. Conditions: as each says; printed by programs of this session. -/
import Derived.WideShapes
import Derived.Test.YtanhhihechakhaaGreatDoorMf
set_option linter.unusedVariables false
set_option linter.unusedSimpArgs false
namespace Go.Proofs.YtanhhihechakhaaGreatDoor.ReadP
open Go.RowKit Go.Proofs.YtanhhihechakhaaGreatDoor.E Go.Proofs.YtanhhihechakhaaGreatDoor.ReplP Go.Proofs.YtanhhihechakhaaGreatDoor.TokP Go.Proofs.YtanhhihechakhaaGreatDoor.TermP Go.Proofs.YtanhhihechakhaaGreatDoor.WrP Go.Proofs.YtanhhihechakhaaGreatDoor.OpsP
def idxI : List Int → Int → Option Nat
 | [], _ => none
 | x :: l, n => if x = n then some 0 else (idxI l n).map (· + 1)
def placeI (l : List Int) (n : Int) : Nat := (idxI l n).getD 0
mutual
def firstT (l : List Int) : Tm → Tm | .mk k n s kids => .mk k (if k = 1 then ((placeI l n : Nat) : Int) else n) s (firstTs l kids)
def firstTs (l : List Int) : List Tm → List Tm | [] => [] | t :: r => firstT l t :: firstTs l r
end
theorem firstT_mk (l : List Int) (k n : Int) (s : ByteArray) (kids : List Tm) : firstT l (.mk k n s kids) = .mk k (if k = 1 then ((placeI l n : Nat) : Int) else n) s (firstTs l kids) := by rw [firstT]
theorem firstTs_nil (l : List Int) : firstTs l [] = [] := by rw [firstTs]
theorem firstTs_cons (l : List Int) (t : Tm) (r : List Tm) : firstTs l (t :: r) = firstT l t :: firstTs l r := by rw [firstTs]
theorem firstTs_map (l : List Int) : ∀ r : List Tm, firstTs l r = r.map (firstT l)
 | [] => by rw [firstTs_nil]; rfl
 | t :: r => by rw [firstTs_cons, firstTs_map l r]; rfl
theorem idx_mem : ∀ {l : List Int} {n : Int}, (idxI l n).isSome = l.contains n
 | [], n => rfl
 | x :: l, n => by
  rw [idxI, List.contains_cons]
  by_cases h : x = n
  · subst h
    simp
  · rw [if_neg h]
    have e : (n == x) = false := by rw [beq_eq_false_iff_ne]; exact fun h9 => h h9.symm
    rw [e, Bool.false_or, ← idx_mem]
    cases idxI l n <;> rfl
theorem idx_lt : ∀ {l : List Int} {n : Int} {i : Nat}, idxI l n = some i → i < l.length
 | [], n, i, h => by cases h
 | x :: l, n, i, h => by
  rw [idxI] at h
  split at h
  · cases h; simp
  · obtain ⟨j, hj, rfl⟩ := Option.map_eq_some_iff.1 h
    have := idx_lt hj
    rw [List.length_cons]
    omega
theorem idx_pre : ∀ {l m : List Int} {n : Int} {i : Nat}, idxI l n = some i → idxI (l ++ m) n = some i
 | [], m, n, i, h => by cases h
 | x :: l, m, n, i, h => by
  rw [idxI] at h
  rw [List.cons_append, idxI]
  split at h
  · rename_i hx
    rw [if_pos hx]
    exact h
  · rename_i hx
    rw [if_neg hx]
    obtain ⟨j, hj, rfl⟩ := Option.map_eq_some_iff.1 h
    rw [idx_pre hj]
    rfl
theorem idx_snoc : ∀ {l : List Int} {n : Int}, idxI l n = none → idxI (l ++ [n]) n = some l.length
 | [], n, _ => by rw [List.nil_append, idxI, if_pos rfl]; rfl
 | x :: l, n, h => by
  rw [idxI] at h
  rw [List.cons_append, idxI]
  split at h
  · cases h
  · rename_i hx
    rw [if_neg hx]
    have h2 : idxI l n = none := by
     cases hh : idxI l n with
     | none => rfl
     | some j => rw [hh] at h; cases h
    rw [idx_snoc h2]
    rfl
theorem vnm_inj {n m : Int} (h : vnm n = vnm m) : n = m := by
 have h1 : (95 :: Lib.itoa n) = 95 :: Lib.itoa m := by
  have := congrArg (fun b : ByteArray => b.data.toList) h
  simpa [vnm] using this
 have h2 := (List.cons.inj h1).2
 exact (itoa_cut (x := []) (y := []) (.inl rfl) (.inl rfl) (by rw [h2])).1
theorem vnm_low (n : Int) : ¬ vnm n = lowS := fun h => by
 have h1 := congrArg (fun b : ByteArray => b.data.toList) h
 have h1 : (95 :: Lib.itoa n) = [95] := by simpa [vnm, lowS] using h1
 have h2 := (List.cons.inj h1).2
 rcases itoa_head n [] with ⟨c, t, hc, _⟩ | ⟨c, t, hc, _⟩
 · rw [List.append_nil, h2] at hc; cases hc
 · rw [List.append_nil, h2] at hc; cases hc
theorem last_idx : ∀ {vs : List Int} (n : Int), vs.Nodup → lastI (vs.map vnm) (vnm n) = idxI vs n
 | [], n, _ => rfl
 | x :: l, n, h => by
  rw [List.nodup_cons] at h
  have ih := last_idx n h.2
  rw [List.map_cons, idxI]
  simp only [lastI, ih]
  by_cases hx : x = n
  · subst hx
    have h9 : idxI l x = none := by
     have h8 := idx_mem (l := l) (n := x)
     have h7 : l.contains x = false := by
      rw [List.contains_eq_mem, decide_eq_false_iff_not]
      exact h.1
     rw [h7] at h8
     cases hh : idxI l x with
     | none => rfl
     | some j => rw [hh] at h8; cases h8
    rw [h9, if_pos rfl, if_pos rfl]
  · rw [if_neg hx]
    cases hh : idxI l n with
    | none =>
     simp only
     rw [if_neg (fun h9 => hx (vnm_inj h9))]
     rfl
    | some j => rfl
theorem varsF_nodup : ∀ (ps : List Tm) (l : List Int), l.Nodup → (varsF l ps).Nodup
 | [], l, h => h
 | p :: ps, l, h => by
  rw [varsF_cons]
  refine varsF_nodup ps _ ?_
  split
  · rename_i hc
    rw [List.nodup_append]
    refine ⟨h, by simp, ?_⟩
    intro a ha b hb
    rw [List.mem_singleton] at hb
    subst hb
    intro h9
    subst h9
    apply hc.2
    rw [List.contains_eq_mem, decide_eq_true_iff]
    exact ha
  · exact h
theorem varsF_pre : ∀ (ps : List Tm) (l : List Int), l <+: varsF l ps
 | [], l => List.prefix_refl l
 | p :: ps, l => by
  rw [varsF_cons]
  refine List.IsPrefix.trans ?_ (varsF_pre ps _)
  split
  · exact List.prefix_append _ _
  · exact List.prefix_refl _
theorem varsF_memb : ∀ (ps : List Tm) (l : List Int) (p : Tm), p ∈ ps → p.k = 1 → (varsF l ps).contains p.n = true
 | [], l, p, h, _ => (List.not_mem_nil h).elim
 | q :: ps, l, p, h, hk => by
  rw [varsF_cons]
  rcases List.mem_cons.1 h with rfl | h
  · obtain ⟨m, hm⟩ := varsF_pre ps (if p.k = 1 ∧ ¬ l.contains p.n = true then l ++ [p.n] else l)
    rw [← hm, List.contains_eq_mem, decide_eq_true_iff]
    refine List.mem_append_left _ ?_
    by_cases hc : l.contains p.n = true
    · rw [if_neg (fun h9 => h9.2 hc)]
      rw [List.contains_eq_mem, decide_eq_true_iff] at hc
      exact hc
    · rw [if_pos ⟨hk, hc⟩]
      simp
  · exact varsF_memb ps _ p h hk
theorem varsF_lenP : ∀ (ps : List Tm) (l : List Int), (varsF l ps).length ≤ l.length + ps.length
 | [], l => Nat.le_refl _
 | p :: ps, l => by
  rw [varsF_cons]
  have h := varsF_lenP ps (if p.k = 1 ∧ ¬ l.contains p.n = true then l ++ [p.n] else l)
  rw [List.length_cons]
  split at h
  · rename_i hc
    rw [if_pos hc]
    rw [List.length_append, List.length_cons, List.length_nil] at h
    omega
  · rename_i hc
    rw [if_neg hc]
    omega
theorem no_vars {t : Tm} (h : varsT t = []) : ∀ p ∈ partsT t, ¬ p.k = 1 := fun p hp hk => by
 have := varsF_memb (partsT t) [] p hp hk
 unfold varsT at h
 rw [h] at this
 cases this
theorem parts_kid {k n : Int} {s : ByteArray} {kids : List Tm} {t p : Tm} (ht : t ∈ kids) (hp : p ∈ partsT t) : p ∈ partsT (.mk k n s kids) := by
 rw [parts_mk]
 exact List.mem_cons_of_mem _ (partsTs_mem ht hp)
theorem first_same (l : List Int) : ∀ t : Tm, (∀ p ∈ partsT t, ¬ p.k = 1) → firstT l t = t := fun t => by
 induction t using Tm.ind with
 | h k n s kids ih =>
  intro h
  have h1 : ¬ k = 1 := h (.mk k n s kids) (by rw [parts_mk]; exact List.mem_cons_self)
  rw [firstT_mk, if_neg h1, firstTs_map]
  congr 1
  have : ∀ r : List Tm, (∀ t ∈ r, firstT l t = t) → r.map (firstT l) = r := fun r hr => by
   induction r with
   | nil => rfl
   | cons x r ihr => rw [List.map_cons, hr x List.mem_cons_self, ihr (fun y hy => hr y (List.mem_cons_of_mem _ hy))]
  exact this kids (fun t ht => ih t ht (fun p hp => h p (parts_kid ht hp)))
/-! reading -/
def Stp (u : RT) (most : Int) : Prop := goT u most 0 = false ∧ pT u [40] = false ∧ ¬ u.kind = 3 ∧ beginsR u = false
theorem stp44 : Stp (pnR 44 true) 999 := by unfold Stp; decide
theorem stp41 : Stp (pnR 41 true) 999 := by unfold Stp; decide
theorem stpE : Stp (endR false) 1200 := by unfold Stp; decide
theorem drop_cat {α : Type} {L a b : List α} {i : Nat} (h : L.drop i = a ++ b) : L.drop (i + a.length) = b := by
 rw [← List.drop_drop, h]
 rw [List.drop_append_of_le_length (Nat.le_refl _), List.drop_length, List.nil_append]
def ReadB (t : Tm) : Prop := ∀ (L : List RT) (k i : Nat) (b : Bool) (most : Int) (vs l : List Int) (u : RT) (r : List RT), L.drop i = tokR b t ++ u :: r → Stp u most → 2 * deepT t ≤ k → vs.Nodup → varsF vs (partsT t) <+: l → readT L 16 k most ⟨i, vs.map vnm⟩ = .ok (firstT l t, 0) ⟨i + (tokR b t).length, (varsF vs (partsT t)).map vnm⟩
theorem pre_left {l : List Int} {vs : List Int} {ps qs : List Tm} (h : varsF vs (ps ++ qs) <+: l) : varsF vs ps <+: l := by
 rw [varsF_app] at h
 exact (varsF_pre qs _).trans h
section
variable {L : List RT}
theorem more_back {l : List Int} {k : Nat} : ∀ (r : List Tm) (n i : Nat) (vs : List Int) (acc : List Tm) (rest : List RT), (∀ t ∈ r, ReadB t ∧ 2 * deepT t ≤ k) → L.drop i = tokRsC r ++ pnR 41 true :: rest → r.length ≤ n → vs.Nodup → varsF vs (partsTs r) <+: l →
    moreR L (readT L 16 k) n acc ⟨i, vs.map vnm⟩ = .ok (acc ++ firstTs l r) ⟨i + (tokRsC r).length, (varsF vs (partsTs r)).map vnm⟩
 | [], n, i, vs, acc, rest, _, h, hn, hv, hp => by
  rw [tokRsC_nil, List.nil_append] at h
  rw [more_stop (by rw [dr_p (i := i) h]; decide), firstTs_nil, List.append_nil, tokRsC_nil, partsTs_nil, varsF_nil]
  rfl
 | t :: r, n, i, vs, acc, rest, hr, h, hn, hv, hp => by
  obtain ⟨n, rfl⟩ : ∃ m, n = m + 1 := ⟨n - 1, by rw [List.length_cons] at hn; omega⟩
  rw [tokRsC_cons, List.cons_append, List.append_assoc] at h
  have h1 := dr_next h
  have ht := hr t List.mem_cons_self
  have hp1 : varsF vs (partsT t) <+: l := by rw [partsTs_cons] at hp; exact pre_left hp
  have key : ∃ u s, tokRsC r ++ pnR 41 true :: rest = u :: s ∧ Stp u 999 := by
   cases r with
   | nil => exact ⟨_, _, by rw [tokRsC_nil]; rfl, stp41⟩
   | cons x r => exact ⟨_, _, by rw [tokRsC_cons]; rfl, stp44⟩
  obtain ⟨u, s, hu, hs⟩ := key
  rw [hu] at h1
  have r1 := ht.1 L k (i + 1) true 999 vs l u s h1 hs ht.2 hv hp1
  rw [more_one (st := ⟨i, vs.map vnm⟩) (by rw [dr_p (i := i) h]; decide) r1]
  have h2 := drop_cat h1
  rw [← hu] at h2
  have hn2 := varsF_nodup (partsT t) vs hv
  rw [partsTs_cons, varsF_app] at hp
  rw [more_back r n _ (varsF vs (partsT t)) _ rest (fun x hx => hr x (List.mem_cons_of_mem _ hx)) h2 (by rw [List.length_cons] at hn; omega) hn2 hp]
  rw [firstTs_cons, partsTs_cons, varsF_app, List.append_assoc, tokRsC_cons, List.length_cons, List.length_append]
  congr 2
  omega
theorem tokRsC_len : ∀ r : List Tm, r.length ≤ (tokRsC r).length
 | [] => Nat.zero_le _
 | t :: r => by
  have := tokRsC_len r
  rw [tokRsC_cons, List.length_cons, List.length_cons, List.length_append]
  omega
theorem args_back {l : List Int} {k : Nat} {r : List Tm} {i : Nat} {vs : List Int} {rest : List RT} (h0 : ¬ r.length = 0) (hr : ∀ t ∈ r, ReadB t ∧ 2 * deepT t ≤ k) (h : L.drop i = tokRs r ++ pnR 41 true :: rest) (hv : vs.Nodup) (hp : varsF vs (partsTs r) <+: l) :
    argsR L (readT L 16 k) ⟨i, vs.map vnm⟩ = .ok (firstTs l r) ⟨i + (tokRs r).length, (varsF vs (partsTs r)).map vnm⟩ := by
 cases r with
 | nil => exact absurd rfl h0
 | cons t r =>
  rw [tokRs_cons, List.append_assoc] at h
  have ht := hr t List.mem_cons_self
  have hp1 : varsF vs (partsT t) <+: l := by rw [partsTs_cons] at hp; exact pre_left hp
  have key : ∃ u s, tokRsC r ++ pnR 41 true :: rest = u :: s ∧ Stp u 999 := by
   cases r with
   | nil => exact ⟨_, _, by rw [tokRsC_nil]; rfl, stp41⟩
   | cons x r => exact ⟨_, _, by rw [tokRsC_cons]; rfl, stp44⟩
  obtain ⟨u, s, hu, hs⟩ := key
  have h1 := h
  rw [hu] at h1
  have r1 := ht.1 L k i true 999 vs l u s h1 hs ht.2 hv hp1
  have h2 := drop_cat h
  have hn2 := varsF_nodup (partsT t) vs hv
  rw [partsTs_cons, varsF_app] at hp
  have hlen : r.length ≤ L.length + 1 := by
   have h9 := congrArg List.length h2
   have h8 := tokRsC_len r
   rw [List.length_drop, List.length_append] at h9
   omega
  unfold argsR
  rw [r1]
  simp only
  rw [more_back r _ _ (varsF vs (partsT t)) _ rest (fun x hx => hr x (List.mem_cons_of_mem _ hx)) h2 hlen hn2 hp]
  rw [firstTs_cons, partsTs_cons, varsF_app, tokRs_cons, List.length_append]
  congr 2
  omega
end
theorem deep_kid {k n : Int} {s : ByteArray} {kids : List Tm} {t : Tm} (h : t ∈ kids) : deepT t + 1 ≤ deepT (.mk k n s kids) := by
 have key : ∀ l : List Tm, t ∈ l → deepT t ≤ deepTs l := fun l => by
  induction l with
  | nil => intro h; exact (List.not_mem_nil h).elim
  | cons x l ih =>
   intro h
   rw [deepTs]
   rcases List.mem_cons.1 h with rfl | h
   · omega
   · have := ih h; omega
 have := key kids h
 rw [deepT]
 omega
theorem deep_pos (t : Tm) : 1 ≤ deepT t := by cases t; rw [deepT]; omega
theorem wrap_in {n : Int} (h0 : -9223372036854775808 ≤ n) (h1 : n ≤ 9223372036854775807) : IntKind.i64.wrap n = n := IntWalk.i64_in n ⟨h0, h1⟩
theorem int_back (n : Int) (h0 : -9223372036854775808 ≤ n) (h1 : n ≤ 9223372036854775807) : ReadB (.mk 2 n ⟨#[]⟩ []) := by
 intro L k i b most vs l u r h hs hk hv hp
 have hd : deepT (.mk 2 n ⟨#[]⟩ []) = 1 := by rw [deepT, deepTs]
 rw [hd] at hk
 obtain ⟨k, rfl⟩ : ∃ m, k = m + 2 := ⟨k - 2, by omega⟩
 have hv1 : varsF vs (partsT (.mk 2 n ⟨#[]⟩ [])) = vs := by rw [parts_mk, partsTs_nil, varsF_skip _ _ (by show ¬ (2 : Int) = 1; decide), varsF_nil]
 have hf : firstT l (.mk 2 n ⟨#[]⟩ []) = numT n := by rw [firstT_mk, if_neg (by decide), firstTs_nil]; rfl
 rw [hv1, hf]
 rw [tokR_int] at h ⊢
 unfold intRs at h ⊢
 by_cases hn : n < 0
 · rw [if_pos hn] at h ⊢
   have h : L.drop i = namR [45] b :: numR ((n.natAbs : Nat) : Int) true :: u :: r := h
   have h2 := dr_next h
   have h3 := dr_next h2
   have f1 := first_name (L := L) (lv := 16) (tm := readT L 16 k) (most := most) (n := vs.map vnm) h rfl
   have n1 := name_minus (L := L) (lv := 16) (tm := readT L 16 k) (most := most) (n := vs.map vnm) (t := namR [45] b) h2 rfl rfl rfl rfl
   have e : IntKind.i64.wrap (-(numR ((n.natAbs : Nat) : Int) true).num) = n := by
    show IntKind.i64.wrap (-(IntKind.i64.wrap ((n.natAbs : Nat) : Int))) = n
    by_cases hb : n = -9223372036854775808
    · subst hb
      decide
    · rw [wrap_in (n := ((n.natAbs : Nat) : Int)) (by omega) (by omega), wrap_in (by omega) (by omega)]
      omega
   rw [e] at n1
   have := read_first (k := k) (f1.trans n1) (by rw [dr_goes (i := i + 1 + 1) h3]; exact hs.1)
   exact this
 · rw [if_neg hn] at h ⊢
   have h : L.drop i = numR ((n.toNat : Nat) : Int) b :: u :: r := h
   have h2 := dr_next h
   have e : (numR ((n.toNat : Nat) : Int) b).num = n := by
    show IntKind.i64.wrap ((n.toNat : Nat) : Int) = n
    rw [wrap_in (by omega) (by omega)]
    omega
   have f1 := first_num (L := L) (lv := 16) (tm := readT L 16 k) (most := most) (n := vs.map vnm) h rfl (by rw [e]; omega)
   rw [e] at f1
   exact read_first (k := k) f1 (by show goesR L most 0 ⟨i + 1, _⟩ = false; rw [dr_goes (i := i + 1) h2]; exact hs.1)
theorem sld_toks (b : Bool) (n : Int) (t : Tm) : tokR b (.mk 4 n ⟨#[]⟩ [t]) = namR [64] b :: pnR 40 true :: (tokRs [t, .mk 2 n ⟨#[]⟩ []] ++ [pnR 41 true]) := by
 rw [tokR_sld, tokRs_cons, tokRsC_cons, tokRsC_nil, tokR_int, List.append_nil]
 simp
theorem read_back : ∀ t : Tm, Rda t → ReadB t := fun t => by
 induction t using Tm.ind with
 | h k0 n s kids ih =>
  intro hr
  cases hr with
  | int _ h0 h1 => exact int_back n h0 h1
  | var _ h0 h1 =>
   intro L k i b most vs l u r h hs hk hv hp
   have hd : deepT (.mk 1 n ⟨#[]⟩ []) = 1 := by rw [deepT, deepTs]
   rw [hd] at hk
   obtain ⟨k, rfl⟩ : ∃ m, k = m + 2 := ⟨k - 2, by omega⟩
   rw [tokR_var] at h ⊢
   have h : L.drop i = varR_ n b :: u :: r := h
   have h2 := dr_next h
   have f1 := first_var (L := L) (lv := 16) (tm := readT L 16 k) (most := most) (n := vs.map vnm) h rfl
   have hf : firstT l (.mk 1 n ⟨#[]⟩ []) = letT ((placeI l n : Nat) : Int) := by rw [firstT_mk, if_pos rfl, firstTs_nil]; rfl
   have hvp : varsF vs (partsT (.mk 1 n ⟨#[]⟩ [])) = if vs.contains n = true then vs else vs ++ [n] := by
    rw [parts_mk, partsTs_nil, varsF_cons, varsF_nil]
    by_cases hc : vs.contains n = true
    · rw [if_pos hc, if_neg (fun h9 => h9.2 hc)]
    · rw [if_neg hc, if_pos ⟨rfl, hc⟩]
      rfl
   rw [hvp] at hp ⊢
   rw [hf]
   have hl := last_idx n hv
   have hvr : varR (vnm n) ⟨i + 1, vs.map vnm⟩ = (letT ((placeI l n : Nat) : Int), ⟨i + 1, (if vs.contains n = true then vs else vs ++ [n]).map vnm⟩) := by
    obtain ⟨m, hm⟩ := hp
    unfold varR
    have en : (⟨i + 1, vs.map vnm⟩ : RSt).names = vs.map vnm := rfl
    rw [en, hl]
    cases hx : idxI vs n with
    | none =>
     have hc : ¬ vs.contains n = true := by rw [← idx_mem, hx]; decide
     rw [if_neg hc] at hm ⊢
     have e : idxI l n = some vs.length := by rw [← hm]; exact idx_pre (idx_snoc hx)
     simp only [List.map_append, List.map_cons, List.map_nil, List.length_map]
     unfold placeI
     rw [e]
     rfl
    | some j =>
     have hc : vs.contains n = true := by rw [← idx_mem, hx]; rfl
     rw [if_pos hc] at hm ⊢
     have e : idxI l n = some j := by rw [← hm]; exact idx_pre hx
     simp only [if_neg (vnm_low n)]
     unfold placeI
     rw [e]
     rfl
   have es : (varR_ n b).str = vnm n := rfl
   rw [es, hvr] at f1
   exact read_first (k := k) f1 (by show goesR L most 0 ⟨i + 1, _⟩ = false; rw [dr_goes (i := i + 1) h2]; exact hs.1)
  | fn _ _ hsz ho hat hkd =>
   intro L k i b most vs l u r h hs hk hv hp
   have hdp := deep_pos (.mk 3 0 s kids)
   obtain ⟨k, rfl⟩ : ∃ m, k = m + 2 := ⟨k - 2, by omega⟩
   have hvp : varsF vs (partsT (.mk 3 0 s kids)) = varsF vs (partsTs kids) := by rw [parts_mk, varsF_skip _ _ (by show ¬ (3 : Int) = 1; decide)]
   have hf : firstT l (.mk 3 0 s kids) = funT s (firstTs l kids) := by rw [firstT_mk, if_neg (by decide)]; rfl
   rw [hvp] at hp ⊢
   rw [hf]
   by_cases hl : kids.length = 0
   · have : kids = [] := List.eq_nil_of_length_eq_zero hl
     subst this
     rw [partsTs_nil, varsF_nil, firstTs_nil]
     by_cases hb : s = brL
     · subst hb
       rw [tokR_br] at h ⊢
       have h : L.drop i = pnR 91 b :: pnR 93 true :: u :: r := h
       have h2 := dr_next h
       have h3 := dr_next h2
       have f1 := first_list (L := L) (lv := 16) (tm := readT L 16 k) (most := most) (n := vs.map vnm) h (by show pT (pnR 91 b) [91] = true; rfl)
       have hli : listR L (readT L 16 k) ⟨i + 1, vs.map vnm⟩ = .ok nilT ⟨i + 1 + 1, vs.map vnm⟩ := by
        unfold listR
        rw [if_pos (by show isP L (i + 1) [93] = true; rw [dr_p h2]; decide)]
        rfl
       rw [hli] at f1
       exact read_first (k := k) f1 (by show goesR L most 0 ⟨i + 1 + 1, _⟩ = false; rw [dr_goes (i := i + 1 + 1) h3]; exact hs.1)
     · rw [tokR_atom b hb] at h ⊢
       have h : L.drop i = nmR s (!plainB s.data.toList) b :: u :: r := h
       have h2 := dr_next h
       have f1 := first_name (L := L) (lv := 16) (tm := readT L 16 k) (most := most) (n := vs.map vnm) h rfl
       rw [name_atom h2 hs.2.1 hs.2.2.1 hs.2.2.2] at f1
       exact read_first (k := k) f1 (by show goesR L most 0 ⟨i + 1, _⟩ = false; rw [dr_goes (i := i + 1) h2]; exact hs.1)
   · rw [tokR_fn b s hl] at h ⊢
     have h : L.drop i = nmR s (if s = brL then true else !plainB s.data.toList) b :: pnR 40 true :: (tokRs kids ++ [pnR 41 true] ++ u :: r) := h
     rw [List.append_assoc] at h
     have h2 := dr_next h
     have h3 := dr_next h2
     have h4 := drop_cat h3
     have h5 := dr_next h4
     have ha := args_back (L := L) (l := l) (k := k) hl (fun t ht => ⟨ih t ht (hkd t ht), by have := deep_kid (k := 3) (n := 0) (s := s) ht; omega⟩) h3 hv hp
     have hw : isP L (i + 1 + 1 + (tokRs kids).length) [41] = true := by rw [dr_p h4]; decide
     have f1 := first_name (L := L) (lv := 16) (tm := readT L 16 k) (most := most) (n := vs.map vnm) h rfl
     rw [name_args h2 rfl (by decide) ha hw, mk_fun (by
      rw [firstTs_map, List.length_map]
      exact hat)] at f1
     have hlen : i + (nmR s (if s = brL then true else !plainB s.data.toList) b :: pnR 40 true :: (tokRs kids ++ [pnR 41 true])).length = i + 1 + 1 + (tokRs kids).length + 1 := by simp; omega
     rw [hlen]
     exact read_first (k := k) f1 (by show goesR L most 0 ⟨i + 1 + 1 + (tokRs kids).length + 1, _⟩ = false; rw [dr_goes h5]; exact hs.1)
  | sld _ t h0 h1 hvt hkt =>
   intro L k i b most vs l u r h hs hk hv hp
   have hdk := deep_kid (k := 4) (n := n) (s := ⟨#[]⟩) (t := t) (kids := [t]) (by simp)
   have hdp := deep_pos t
   obtain ⟨k, rfl⟩ : ∃ m, k = m + 2 := ⟨k - 2, by omega⟩
   have hnv := no_vars hvt
   have hsame : firstT l t = t := first_same l t hnv
   have hv2 : varsF vs (partsTs [t, .mk 2 n ⟨#[]⟩ []]) = varsF vs (partsT t) := by
    rw [vf_two, parts_mk, partsTs_nil, varsF_skip _ _ (by show ¬ (2 : Int) = 1; decide), varsF_nil]
   have hvp : varsF vs (partsT (.mk 4 n ⟨#[]⟩ [t])) = varsF vs (partsTs [t, .mk 2 n ⟨#[]⟩ []]) := by
    rw [hv2, parts_mk, varsF_skip _ _ (by show ¬ (4 : Int) = 1; decide), vf_one]
   have hf : firstT l (.mk 4 n ⟨#[]⟩ [t]) = .mk 4 n ⟨#[]⟩ [t] := by rw [firstT_mk, if_neg (by decide), firstTs_cons, firstTs_nil, hsame]
   rw [hvp] at hp ⊢
   rw [hf]
   rw [sld_toks] at h ⊢
   have h : L.drop i = namR [64] b :: pnR 40 true :: (tokRs [t, .mk 2 n ⟨#[]⟩ []] ++ [pnR 41 true] ++ u :: r) := h
   rw [List.append_assoc] at h
   have h2 := dr_next h
   have h3 := dr_next h2
   have h4 := drop_cat h3
   have h5 := dr_next h4
   have ha := args_back (L := L) (l := l) (k := k) (r := [t, .mk 2 n ⟨#[]⟩ []]) (by simp) (fun x hx => by
    rcases List.mem_cons.1 hx with rfl | hx
    · exact ⟨ih x (by simp) hkt, by omega⟩
    · rw [List.mem_singleton.1 hx]
      exact ⟨int_back n (by omega) (by omega), by rw [deepT, deepTs]; omega⟩) h3 hv hp
   have hw : isP L (i + 1 + 1 + (tokRs [t, .mk 2 n ⟨#[]⟩ []]).length) [41] = true := by rw [dr_p h4]; decide
   have f1 := first_name (L := L) (lv := 16) (tm := readT L 16 k) (most := most) (n := vs.map vnm) h rfl
   have hm : ∀ st : RSt, mkR 16 (namR [64] b).str (firstTs l [t, .mk 2 n ⟨#[]⟩ []]) st = .ok (.mk 4 n ⟨#[]⟩ [t]) st := fun st => by
    have e : firstTs l [t, .mk 2 n ⟨#[]⟩ []] = [t, .mk 2 n ⟨#[]⟩ []] := by
     rw [firstTs_cons, firstTs_cons, firstTs_nil, hsame, firstT_mk, if_neg (by decide), firstTs_nil]
    have es : (namR [64] b).str = atS := rfl
    rw [e, es]
    unfold mkR
    simp only [if_true]
    rw [if_pos ⟨rfl, h0, h1, hvt⟩]
    rfl
   rw [name_args h2 rfl (by decide) ha hw, hm] at f1
   have hlen : i + (namR [64] b :: pnR 40 true :: (tokRs [t, .mk 2 n ⟨#[]⟩ []] ++ [pnR 41 true])).length = i + 1 + 1 + (tokRs [t, .mk 2 n ⟨#[]⟩ []]).length + 1 := by simp; omega
   rw [hlen]
   exact read_first (k := k) f1 (by show goesR L most 0 ⟨i + 1 + 1 + (tokRs [t, .mk 2 n ⟨#[]⟩ []]).length + 1, _⟩ = false; rw [dr_goes h5]; exact hs.1)
/-! it may be -/
theorem parts_first (l : List Int) : ∀ t : Tm, partsT (firstT l t) = (partsT t).map (firstT l) := fun t => by
 induction t using Tm.ind with
 | h k n s kids ih =>
  have key : ∀ r : List Tm, (∀ t ∈ r, partsT (firstT l t) = (partsT t).map (firstT l)) → partsTs (firstTs l r) = (partsTs r).map (firstT l) := fun r => by
   induction r with
   | nil => intro _; rw [firstTs_nil, partsTs_nil]; rfl
   | cons x r ihr =>
    intro h
    rw [firstTs_cons, partsTs_cons, partsTs_cons, List.map_append, h x List.mem_cons_self, ihr (fun y hy => h y (List.mem_cons_of_mem _ hy))]
  rw [parts_mk, List.map_cons, firstT_mk, parts_mk, key kids ih]
theorem deep_first (l : List Int) : ∀ t : Tm, deepT (firstT l t) = deepT t := fun t => by
 induction t using Tm.ind with
 | h k n s kids ih =>
  have key : ∀ r : List Tm, (∀ t ∈ r, deepT (firstT l t) = deepT t) → deepTs (firstTs l r) = deepTs r := fun r => by
   induction r with
   | nil => intro _; rw [firstTs_nil]
   | cons x r ihr =>
    intro h
    rw [firstTs_cons, deepTs, deepTs, h x List.mem_cons_self, ihr (fun y hy => h y (List.mem_cons_of_mem _ hy))]
  rw [firstT_mk, deepT, deepT, key kids ih]
theorem place_lt (l : List Int) (n : Int) : placeI l n < l.length + 1 := by
 unfold placeI
 cases h : idxI l n with
 | none => show 0 < _; omega
 | some i => have := idx_lt h; show i < _; omega
theorem alone_first {lv : Int} {l : List Int} (hl : l.length ≤ 1000) : ∀ t : Tm, aloneT lv t = true → aloneT lv (firstT l t) = true := fun t h => by
 cases t with
 | mk k n s kids =>
  rw [firstT_mk]
  rw [aloneT] at h ⊢
  by_cases h1 : k = 1
  · rw [if_pos h1] at h ⊢
    have hp := place_lt l n
    simp only [Bool.and_eq_true, decide_eq_true_eq] at h ⊢
    rw [if_pos h1, firstTs_map, List.length_map]
    exact ⟨⟨⟨by omega, by omega⟩, h.1.2⟩, h.2⟩
  · rw [if_neg h1] at h ⊢
    rw [if_neg h1]
    by_cases h2 : k = 2
    · rw [if_pos h2] at h ⊢
      rw [firstTs_map, List.length_map]
      exact h
    · rw [if_neg h2] at h ⊢
      by_cases h3 : k = 3
      · rw [if_pos h3] at h ⊢
        rw [firstTs_map, List.length_map]
        exact h
      · rw [if_neg h3] at h ⊢
        by_cases h4 : k = 4
        · rw [if_pos h4] at h ⊢
          simp only [Bool.and_eq_true, decide_eq_true_eq] at h ⊢
          match kids, h with
          | [t], h =>
           have hv : varsT t = [] := by
            have h9 := h.2
            simp only [List.map_cons, List.map_nil, List.sum_cons, List.sum_nil] at h9
            exact List.eq_nil_of_length_eq_zero (by omega)
           rw [firstTs_cons, firstTs_nil, first_same l t (no_vars hv)]
           exact h
        · rw [if_neg h4] at h
          cases h
theorem chk_first {lv : Int} {t : Tm} (h : chkT lv t = 0) : chkT lv (firstT (varsT t) t) = 0 := by
 obtain ⟨h1, h2, h3⟩ := chk_ok h
 have hl : (varsT t).length ≤ 1000 := by
  have := varsF_lenP (partsT t) []
  unfold varsT
  rw [List.length_nil] at this
  omega
 unfold chkT
 rw [parts_first, List.length_map, deep_first, if_neg (by omega), if_neg (by omega), if_pos]
 rw [List.all_eq_true]
 intro p hp
 obtain ⟨q, hq, rfl⟩ := List.mem_map.1 hp
 exact alone_first hl q (List.all_eq_true.1 h1 q hq)
theorem rda_of : ∀ g : GT, Fits g → (partsT g.tm).all (aloneT 16) = true → atT g.tm = false → Rda g.tm := fun g => by
 induction g using GT.ind with
 | h k n s A c kids ih =>
  intro hf hp ha
  have hns := hf.nums
  rw [GT.tm_mk] at hp ha ⊢
  rw [parts_mk, List.all_cons, Bool.and_eq_true] at hp
  rw [at_mk, Bool.or_eq_false_iff, Bool.or_eq_false_iff] at ha
  have hk : ∀ t ∈ kids, Rda t.tm := fun t ht => ih t ht (hf.kid ht) (by
   rw [List.all_eq_true]
   intro p hpm
   exact List.all_eq_true.1 hp.2 p (partsTs_mem (List.mem_map.2 ⟨t, ht, rfl⟩) hpm)) (by
   cases h : atT t.tm with
   | false => rfl
   | true =>
    have : (kids.map GT.tm).any atT = true := List.any_eq_true.2 ⟨t.tm, List.mem_map.2 ⟨t, ht, rfl⟩, h⟩
    rw [ha.2] at this
    cases this)
  have hok : s.data.toList.all okB = true := by
   have := ha.1.2
   simpa using this
  have h1 := hp.1
  rw [aloneT] at h1
  by_cases hk1 : k = 1
  · rw [if_pos hk1] at h1
    simp only [Bool.and_eq_true, decide_eq_true_eq] at h1
    have := List.eq_nil_of_length_eq_zero h1.2
    rw [hk1, h1.1.2, this]
    exact .var n h1.1.1.1 h1.1.1.2
  rw [if_neg hk1] at h1
  split at h1
  · rename_i hk2
    simp only [Bool.and_eq_true, decide_eq_true_eq] at h1
    have := List.eq_nil_of_length_eq_zero h1.2
    rw [hk2, h1.1, this]
    exact .int n hns.2.1.1 hns.2.1.2
  split at h1
  · rename_i _ hk3
    simp only [Bool.and_eq_true, decide_eq_true_eq] at h1
    have ha2 := ha.1.1
    rw [hk3, h1.1.1]
    refine .fn s _ h1.1.2 hok (fun h9 => ?_) (fun t ht => ?_)
    · rw [hk3, h9.1, h9.2] at ha2
      exact absurd ha2 (by decide)
    · obtain ⟨g, hg, rfl⟩ := List.mem_map.1 ht
      exact hk g hg
  split at h1
  · rename_i _ _ hk4
    simp only [Bool.and_eq_true, decide_eq_true_eq] at h1
    match kids, h1, hk with
    | [t], h1, hk =>
     have hv : varsT t.tm = [] := by
      have h9 := h1.2
      simp only [List.map_cons, List.map_nil, List.sum_cons, List.sum_nil] at h9
      exact List.eq_nil_of_length_eq_zero (by omega)
     rw [hk4, h1.1.1.1.1]
     exact .sld n t.tm h1.1.1.1.2 h1.1.1.2 hv (hk t (List.mem_cons_self))
  · cases h1
theorem back_law {g : GT} (hf : Fits g) (hc : chkT 16 g.tm = 0) (ha : atT g.tm = false) (hd : deepT g.tm ≤ 25) (hz : (txt g.tm).length + 2 ≤ 4096) : allA 16 (txt g.tm ++ [32, 46]) = .ok [firstT (varsT g.tm) g.tm] := by
 have hr := rda_of g hf (chk_ok hc).1 ha
 refine allA_lxr (by rw [List.length_append]; exact hz) (lex_end hr) ?_
 have h0 : (tokR false g.tm ++ [endR false]).drop 0 = tokR false g.tm ++ endR false :: [] := rfl
 have h1 := read_back g.tm hr (tokR false g.tm ++ [endR false]) 60 0 false 1200 [] (varsT g.tm) (endR false) [] h0 stpE (by omega) List.nodup_nil (List.prefix_refl _)
 have h2 := drop_cat h0
 rw [Nat.zero_add] at h1 h2
 refine whole_ok h1 (by rw [dr_tok h2]; rfl) (chk_first hc) ?_
 rw [List.length_append]
 rfl
end Go.Proofs.YtanhhihechakhaaGreatDoor.ReadP
set_option linter.unusedVariables false
set_option linter.unusedSimpArgs false
namespace Go.Proofs.YtanhhihechakhaaGreatDoor
open Go.RowKit Go.Proofs.YtanhhihechakhaaGreatDoor.E Go.Proofs.YtanhhihechakhaaGreatDoor.ReplP Go.Proofs.YtanhhihechakhaaGreatDoor.TokP Go.Proofs.YtanhhihechakhaaGreatDoor.TermP Go.Proofs.YtanhhihechakhaaGreatDoor.WrP Go.Proofs.YtanhhihechakhaaGreatDoor.ReadP Go.Proofs.YtanhhihechakhaaGreatDoor.OpsP
theorem varsT_wt2 (t : GT) : (varsT t.tm).length ≤ wtG t := by
 have h1 := varsF_lenP (partsT t.tm) []
 have h2 := prts_wt t
 rw [← prts_tm, List.length_map, List.length_nil, Nat.zero_add, prts_tm] at h1
 unfold varsT
 omega
theorem place_take {l : List Int} {i : Nat} {e n : Int} (h : idxI (l.take i) n = none) (he : l[i]? = some e) : (e = n → placeI l n = i) ∧ (¬ e = n → idxI (l.take (i + 1)) n = none) := by
 have hl := (List.getElem?_eq_some_iff.1 he).1
 constructor
 · intro h1
   subst h1
   have h2 := idx_snoc h
   have h3 : l.take i ++ [e] = l.take (i + 1) := (take_snoc he).symm
   rw [h3] at h2
   have h4 := idx_pre (m := l.drop (i + 1)) h2
   rw [List.take_append_drop] at h4
   unfold placeI
   rw [h4]
   show (l.take i).length = i
   rw [List.length_take]
   omega
 · intro h1
   rw [take_snoc he]
   have h2 : (l.take i ++ [e]).contains n = false := by
    have h3 := idx_mem (l := l.take i) (n := n)
    rw [h] at h3
    rw [List.contains_eq_mem, decide_eq_false_iff_not, List.mem_append]
    rw [List.contains_eq_mem] at h3
    have h4 : n ∉ l.take i := by
     intro h9
     rw [decide_eq_true h9] at h3
     cases h3
    rintro (h9 | h9)
    · exact h4 h9
    · rw [List.mem_singleton] at h9
      exact h1 h9.symm
   have h5 := idx_mem (l := l.take i ++ [e]) (n := n)
   rw [h2] at h5
   cases hh : idxI (l.take i ++ [e]) n with
   | none => rfl
   | some j => rw [hh] at h5; cases h5
set_option maxRecDepth 100000 in
theorem place_c (l : List Int) (A : Option Addr) (c : Nat) (n : Int) (h : Hp) (hR : RowsAt h A 1 (l.map intC)) (hl : l.length ≤ 1099511627776) : C0 Tryz.prog 37 [.slice A l.length c, .int .i64 n] h (.int .i64 ((placeI l n : Nat) : Int)) := by
 refine enter0 Tryz.func37 rfl rfl rfl (fun w => ?_)
 refine cy_seq ?_
 refine cy_region ?_
 refine sy_assign rfl rfl rfl ?_
 refine sy_nil rfl ?_
 refine ny_next ?_
 refine cy_seq ?_
 refine cy_seq ?_
 refine cy_region ?_
 refine sy_assign rfl rfl rfl ?_
 refine sy_nil rfl ?_
 refine ny_next ?_
 refine cy_block ?_
 refine cy_loopK (ι := Nat) [0, 1] rfl (fun i => i ≤ l.length ∧ idxI (l.take i) n = none) (fun i => l.length - i) (fun i => [(5, .int .i64 (i : Int))]) (fun i => h) (fun i => []) 0 [] ⟨Nat.zero_le _, rfl⟩ ⟨rfl, trivial⟩ rfl rfl ?_
 rintro i ⟨hI, hno⟩
 refine cy_seq ?_
 refine cy_seq ?_
 refine cy_region ?_
 refine sy_move rfl rfl rfl ?_
 refine sy_move rfl rfl rfl ?_
 refine sy_len rfl (len_slice Tryz.underlying35 _ _ _) rfl rfl ?_
 refine sy_cmp rfl rfl rfl rfl rfl ?_
 refine sy_nil rfl ?_
 refine ny_next ?_
 refine cy_cond rfl (fun hc9 => ?_) (fun hc9 => ?_)
 · have hlti : i < l.length := by have := of_decide_eq_true hc9; omega
   refine cy_skip ?_
   refine ny_next ?_
   refine cy_seq ?_
   refine cy_block ?_
   refine cy_seq ?_
   refine cy_region ?_
   refine sy_move rfl rfl rfl ?_
   refine sy_move rfl rfl rfl ?_
   refine sy_idxR (i := i) (fc := intC) (es := l) els_35 rfl rfl hR rfl (by omega) rfl rfl (fun e14 b14 o14 he14 hA14 hc14 => ?_)
   refine sy_ldh one_3 rfl (hc14 0 _ rfl) rfl rfl ?_
   refine sy_move rfl rfl rfl ?_
   refine sy_cmp rfl rfl rfl rfl rfl ?_
   refine sy_nil rfl ?_
   refine ny_next ?_
   refine cy_cond rfl (fun hc17 => ?_) (fun hc17 => ?_)
   · have hres : placeI l n = i := (place_take hno he14).1 (by simpa using hc17)
     refine cy_seq ?_
     refine cy_region ?_
     refine sy_move rfl rfl rfl ?_
     refine sy_assign rfl rfl rfl ?_
     refine sy_nil rfl ?_
     refine ny_next ?_
     refine cy_ret ?_
     refine ny_blockR ?_
     refine ny_thenR ?_
     refine ny_thenR ?_
     refine ny_blockR ?_
     refine ny_thenR ?_
     refine ny_finR (res1 rfl rfl) (fun w hs2 => ⟨?_, hs2.frm⟩)
     rw [hres]
   · refine cy_skip ?_
     refine ny_blockN ?_
     refine ny_next ?_
     refine cy_region ?_
     refine sy_move rfl rfl rfl ?_
     refine sy_addi (z := ((i + 1 : Nat) : Int)) rfl rfl (by omega) (by omega) (by omega) rfl rfl ?_
     refine sy_assign rfl rfl rfl ?_
     refine sy_nil rfl ?_
     refine ny_roundK [0, 1] (i + 1) [] ⟨(show i + 1 ≤ l.length by omega), (place_take hno he14).2 (by simpa using hc17)⟩ (show l.length - (i + 1) < l.length - i by omega) rfl ⟨rfl, trivial⟩ rfl rfl
 · have hie : i = l.length := by have := of_decide_eq_false hc9; omega
   subst hie
   rw [List.take_length] at hno
   have hres : placeI l n = 0 := by unfold placeI; rw [hno]; rfl
   refine cy_exit ?_
   refine ny_thenE ?_
   refine ny_thenE ?_
   refine ny_blockX ?_
   refine ny_next ?_
   refine cy_seq ?_
   refine cy_region ?_
   refine sy_assign rfl rfl rfl ?_
   refine sy_nil rfl ?_
   refine ny_next ?_
   refine cy_ret ?_
   refine ny_finR (res1 rfl rfl) (fun w hs2 => ⟨?_, hs2.frm⟩)
   rw [hres]; rfl
structure FZ where
 acc : List GT
 i : Nat
 A : Option Addr
 c : Nat
 hh : Hp
abbrev FirstP (l : List Int) (t : GT) (g : GT) (h : Hp) : Prop := g.tm = firstT l t.tm ∧ (Lies h g ∧ Fits g)
set_option maxRecDepth 100000 in
theorem firstL_c (l : List Int) (hl9 : l.length ≤ 1099511627776) (t : GT) : ∀ (A : Option Addr) (c : Nat) (h : Hp), RowsAt h A 1 (l.map intC) → Lies h t → Fits t → CX Tryz.prog 17 [.agg (GT.cells t).toArray, .slice A l.length c] h (fun g : GT => .agg (GT.cells g).toArray) (FirstP l t) := by
 induction t using GT.ind
 rename_i tk tn ts tA tc kids ih
 intro A c h hR hl hf
 have hroom := hf.room
 show CX Tryz.prog 17 [.agg #[.int .i64 tk, .int .i64 tn, .string ts, .slice tA kids.length tc], .slice A l.length c] h _ (FirstP l (GT.mk tk tn ts tA tc kids))
 refine enterX Tryz.func17 rfl rfl rfl (fun w => ?_)
 refine cy_seq ?_
 refine cy_region ?_
 refine sy_box rfl rfl rfl rfl (fun b2 hb2 hM2 => ?_) (by simp)
 refine sy_alloc zer_24 rfl rfl (fun b4 hb4 hM4 => ?_) (by simp)
 refine sy_nil rfl ?_
 refine ny_next ?_
 refine cy_seq ?_
 refine cy_frz 1 rfl (by simp) (fun h1 hle1 hbx => ?_)
 replace hl := hl.le hle1
 have hr := hl.rows
 have hR1 := hR.le hle1
 refine cy_region ?_
 refine sy_field fld_24_0 rfl rfl rfl ?_
 refine sy_ldh one_3 rfl (Hp.blk hbx 0 _ rfl) rfl rfl ?_
 refine sy_field fld_24_1 rfl rfl rfl ?_
 refine sy_ldh one_2 rfl (Hp.blk hbx 1 _ rfl) rfl rfl ?_
 refine sy_field fld_24_2 rfl rfl rfl ?_
 refine sy_ldh one_9 rfl (Hp.blk hbx 2 _ rfl) rfl rfl ?_
 refine sy_build rfl (fun w => bld_24_0x1x2 w) rfl rfl ?_
 refine sy_alloc zer_24 rfl rfl (fun b5 hb5 hM5 => ?_) (by simp)
 refine sy_stl 0 sz_24 rfl rfl rfl rfl rfl rfl rfl rfl ?_
 refine sy_nil rfl ?_
 refine ny_next ?_
 refine cy_seq ?_
 refine cy_seq ?_
 refine cy_region ?_
 refine sy_field fld_24_0 rfl rfl rfl ?_
 refine sy_ldh one_3 rfl (Hp.blk hbx 0 _ rfl) rfl rfl ?_
 refine sy_cmp rfl rfl rfl rfl rfl ?_
 refine sy_nil rfl ?_
 refine ny_next ?_
 refine cy_cond rfl (fun hc16 => ?_) (fun hc16 => ?_)
 · have hk1 : tk = 1 := by simpa using hc16
   refine cy_region ?_
   refine sy_move rfl rfl rfl ?_
   refine sy_field fld_24_1 rfl rfl rfl ?_
   refine sy_ldh one_2 rfl (Hp.blk hbx 1 _ rfl) rfl rfl ?_
   refine sy_call rfl call_37 rfl (place_c l A c tn _ hR1 hl9) rfl rfl ?_
   have hpl := place_lt l tn
   obtain ⟨nn, hnn⟩ : ∃ nn : Int, nn = (if tk = 1 then ((placeI l tn : Nat) : Int) else tn) := ⟨_, rfl⟩
   have hnt : ((placeI l tn : Nat) : Int) = nn := by rw [hnn, if_pos hk1]
   have hnb : -9223372036854775808 ≤ nn ∧ nn ≤ 9223372036854775807 := by rw [← hnt]; omega
   rw [hnt]
   refine sy_field fld_24_1 rfl rfl rfl ?_
   refine sy_stl 0 sz_2 rfl rfl rfl rfl rfl rfl rfl rfl ?_
   refine sy_nil rfl ?_
   refine ny_next ?_
   refine cy_seq ?_
   refine cy_seq ?_
   refine cy_region ?_
   refine sy_assign rfl rfl rfl ?_
   refine sy_nil rfl ?_
   refine ny_next ?_
   refine cy_block ?_
   refine cy_nilRow 24 4 ?_
   refine cy_loopK (ι := FZ) [1, 2, 4, 5] rfl (fun z => z.i ≤ kids.length ∧ z.acc.length = z.i ∧ z.acc.map GT.tm = (kids.take z.i).map (fun x => firstT l x.tm) ∧ h1.Le z.hh ∧ ∀ x ∈ z.acc, Lies z.hh x ∧ Fits x) (fun z => kids.length - z.i) (fun z => [(6, .int .i64 (z.i : Int))]) (fun z => z.hh) (fun z => [.blk b5 (.cells ([.int .i64 tk, .int .i64 nn, .string ts, .slice z.A z.acc.length z.c] : List Value).toArray 24 (0, 0)), .row (.slice z.A z.acc.length z.c) 24 4 z.acc.length ((z.acc.map GT.cells).flatten), .blk b4 (.cells ([.int .i64 0, .int .i64 0, .string ⟨#[]⟩, .slice none 0 0] : List Value).toArray 24 (0, 0))]) ⟨[], 0, none, 0, h1⟩ [1, 0, 0] ⟨Nat.zero_le _, rfl, rfl, Hp.Le.refl _, fun x h9 => (List.not_mem_nil h9).elim⟩ ⟨rfl, trivial⟩ rfl rfl ?_
   rintro ⟨acc, i, Az, cz, hz⟩ ⟨hI, hal, hac, hlez, hgz⟩
   simp only at hI hal hac hlez hgz ⊢
   have hrz := hr.le hlez
   replace hRz := hR.le (hle1.trans hlez)
   have hbz := hlez _ _ hbx
   refine cy_seq ?_
   refine cy_seq ?_
   refine cy_region ?_
   refine sy_move rfl rfl rfl ?_
   refine sy_field fld_24_3 rfl rfl rfl ?_
   refine sy_ldh one_22 rfl (Hp.blk hbz 3 _ rfl) rfl rfl ?_
   refine sy_len rfl (len_slice Tryz.underlying22 _ _ _) rfl rfl ?_
   refine sy_cmp rfl rfl rfl rfl rfl ?_
   refine sy_nil rfl ?_
   refine ny_next ?_
   refine cy_cond rfl (fun hc26 => ?_) (fun hc26 => ?_)
   · have hlti : i < kids.length := by have := of_decide_eq_true hc26; omega
     refine cy_skip ?_
     refine ny_next ?_
     refine cy_seq ?_
     refine cy_block ?_
     refine cy_regionA mixed ?_
     refine zy_q 0 rfl (by kernel_rfl) (fun hB7_0 => ?_)
     refine sy_field fld_24_3 rfl rfl rfl ?_
     refine sy_nil1 (ny_zq hB7_0 ?_)
     refine zy_q 2 rfl (by kernel_rfl) (fun hB7_2 => ?_)
     refine sy_field fld_24_3 rfl rfl rfl ?_
     refine sy_nil1 (ny_zq hB7_2 ?_)
     refine zy_q 3 rfl (by kernel_rfl) (fun hB7_3 => ?_)
     refine sy_ldh one_22 rfl (Hp.blk hbz 3 _ rfl) rfl rfl ?_
     refine sy_nil1 (ny_zq hB7_3 ?_)
     refine zy_q 4 rfl (by kernel_rfl) (fun hB7_4 => ?_)
     refine sy_move rfl rfl rfl ?_
     refine sy_nil1 (ny_zq hB7_4 ?_)
     refine zy_q 5 rfl (by kernel_rfl) (fun hB7_5 => ?_)
     refine sy_idxR (i := i) (fc := GT.cells) (es := kids) els_22 rfl rfl hrz rfl (by omega) rfl rfl (fun e34 b34 o34 he34 hA34 hc34 => ?_)
     refine sy_nil1 (ny_zq hB7_5 ?_)
     refine zy_q 6 rfl (by kernel_rfl) (fun hB7_6 => ?_)
     refine sy_ldah (vs := GT.cells e34) agg_24 rfl rfl hc34 rfl rfl ?_
     refine sy_nil1 (ny_zq hB7_6 ?_)
     refine zy_q 7 rfl (by kernel_rfl) (fun hB7_7 => ?_)
     refine sy_move rfl rfl rfl ?_
     refine sy_nil1 (ny_zq hB7_7 ?_)
     refine zy_2 1 8 (by kernel_rfl) ?_ ?_
     · refine zop_run rfl rfl (fun hB7_1 => ?_)
       refine sy_ldr 0 one_22 rfl rfl rfl rfl rfl ?_
       refine sy_nil rfl (ny_zy hB7_1 (Hp.Le.refl _) ?_)
       refine zy_1 8 (by kernel_rfl) ?_
       refine zop_run rfl rfl (fun hB7_8 => ?_)
       refine sy_callx call_17 rfl (ih e34 (List.mem_of_getElem? he34) A c _ hRz ((hl.le hlez).at he34) (hf.at he34)) rfl rfl (fun x37 h37 hx37 hle37 => ?_)
       refine sy_nil rfl (ny_zy hB7_8 hle37 ?_)
       refine zy_1 9 (by kernel_rfl) ?_
       refine zop_run rfl rfl (fun hB7_9 => ?_)
       refine sy_buildSlice (cs := [x37].flatMap GT.cells) rfl (fun w => bsl_22_1_0 w) rfl rfl (fun b38 hb38 hM38 => ?_) (by simp)
       refine sy_nil rfl (ny_zy hB7_9 (Hp.Le.refl _) ?_)
       refine zy_1 10 (by kernel_rfl) ?_
       refine zop_run rfl rfl (fun hB7_10 => ?_)
       refine sy_append 2 0 row_22 (by decide) rfl rfl rfl rfl rfl rfl (by omega) (by simp only [maxLen]; omega) rfl rfl (fun v39 => ?_)
       refine sy_rowform 0 rfl (fun A39 c39 hv39 => ?_)
       subst hv39
       refine sy_nil rfl (ny_zy hB7_10 (Hp.Le.refl _) ?_)
       refine zy_q 11 rfl (by kernel_rfl) (fun hB7_11 => ?_)
       refine sy_field fld_24_3 rfl rfl rfl ?_
       refine sy_nil1 (ny_zq hB7_11 ?_)
       refine zy_1 12 (by kernel_rfl) ?_
       refine zop_run rfl rfl (fun hB7_12 => ?_)
       refine sy_stl 2 sz_22 rfl rfl rfl rfl rfl rfl rfl rfl ?_
       refine sy_nil rfl (ny_zy hB7_12 (Hp.Le.refl _) ?_)
       refine zy_done (by kernel_rfl) ?_
       refine ny_blockN ?_
       refine ny_next ?_
       refine cy_region ?_
       refine sy_move rfl rfl rfl ?_
       refine sy_addi (z := ((i + 1 : Nat) : Int)) rfl rfl (by omega) (by omega) (by omega) rfl rfl ?_
       refine sy_assign rfl rfl rfl ?_
       refine sy_nil rfl ?_
       refine ny_roundK [1, 2, 4, 5] ⟨acc ++ [x37], i + 1, A39, c39, h37⟩ [0, 0, 1] ⟨(show i + 1 ≤ kids.length by omega), (by rw [List.length_append, List.length_cons, List.length_nil, hal]), (by rw [List.map_append, hac, take_snoc he34, List.map_append, List.map_cons, List.map_nil, List.map_cons, List.map_nil, hx37.1]), hlez.trans hle37, fun x h9 => (List.mem_append.1 h9).elim (fun h8 => ⟨(hgz x h8).1.le hle37, (hgz x h8).2⟩) (fun h8 => by rw [List.mem_singleton.1 h8]; exact hx37.2)⟩ (show kids.length - (i + 1) < kids.length - i by omega) rfl ⟨rfl, trivial⟩ rfl (by show some [_, _, _] = some [_, _, _]; rw [List.length_append, GT.cells_snoc]; rfl)
     · refine zop_run rfl rfl (fun hB7_8 => ?_)
       refine sy_callx call_17 rfl (ih e34 (List.mem_of_getElem? he34) A c _ hRz ((hl.le hlez).at he34) (hf.at he34)) rfl rfl (fun x37 h37 hx37 hle37 => ?_)
       refine sy_nil rfl (ny_zy hB7_8 hle37 ?_)
       refine zy_2 1 9 (by kernel_rfl) ?_ ?_
       · refine zop_run rfl rfl (fun hB7_1 => ?_)
         refine sy_ldr 0 one_22 rfl rfl rfl rfl rfl ?_
         refine sy_nil rfl (ny_zy hB7_1 (Hp.Le.refl _) ?_)
         refine zy_1 9 (by kernel_rfl) ?_
         refine zop_run rfl rfl (fun hB7_9 => ?_)
         refine sy_buildSlice (cs := [x37].flatMap GT.cells) rfl (fun w => bsl_22_1_0 w) rfl rfl (fun b38 hb38 hM38 => ?_) (by simp)
         refine sy_nil rfl (ny_zy hB7_9 (Hp.Le.refl _) ?_)
         refine zy_1 10 (by kernel_rfl) ?_
         refine zop_run rfl rfl (fun hB7_10 => ?_)
         refine sy_append 2 0 row_22 (by decide) rfl rfl rfl rfl rfl rfl (by omega) (by simp only [maxLen]; omega) rfl rfl (fun v39 => ?_)
         refine sy_rowform 0 rfl (fun A39 c39 hv39 => ?_)
         subst hv39
         refine sy_nil rfl (ny_zy hB7_10 (Hp.Le.refl _) ?_)
         refine zy_q 11 rfl (by kernel_rfl) (fun hB7_11 => ?_)
         refine sy_field fld_24_3 rfl rfl rfl ?_
         refine sy_nil1 (ny_zq hB7_11 ?_)
         refine zy_1 12 (by kernel_rfl) ?_
         refine zop_run rfl rfl (fun hB7_12 => ?_)
         refine sy_stl 2 sz_22 rfl rfl rfl rfl rfl rfl rfl rfl ?_
         refine sy_nil rfl (ny_zy hB7_12 (Hp.Le.refl _) ?_)
         refine zy_done (by kernel_rfl) ?_
         refine ny_blockN ?_
         refine ny_next ?_
         refine cy_region ?_
         refine sy_move rfl rfl rfl ?_
         refine sy_addi (z := ((i + 1 : Nat) : Int)) rfl rfl (by omega) (by omega) (by omega) rfl rfl ?_
         refine sy_assign rfl rfl rfl ?_
         refine sy_nil rfl ?_
         refine ny_roundK [1, 2, 4, 5] ⟨acc ++ [x37], i + 1, A39, c39, h37⟩ [0, 0, 1] ⟨(show i + 1 ≤ kids.length by omega), (by rw [List.length_append, List.length_cons, List.length_nil, hal]), (by rw [List.map_append, hac, take_snoc he34, List.map_append, List.map_cons, List.map_nil, List.map_cons, List.map_nil, hx37.1]), hlez.trans hle37, fun x h9 => (List.mem_append.1 h9).elim (fun h8 => ⟨(hgz x h8).1.le hle37, (hgz x h8).2⟩) (fun h8 => by rw [List.mem_singleton.1 h8]; exact hx37.2)⟩ (show kids.length - (i + 1) < kids.length - i by omega) rfl ⟨rfl, trivial⟩ rfl (by show some [_, _, _] = some [_, _, _]; rw [List.length_append, GT.cells_snoc]; rfl)
       · refine zop_run rfl rfl (fun hB7_9 => ?_)
         refine sy_buildSlice (cs := [x37].flatMap GT.cells) rfl (fun w => bsl_22_1_0 w) rfl rfl (fun b38 hb38 hM38 => ?_) (by simp)
         refine sy_nil rfl (ny_zy hB7_9 (Hp.Le.refl _) ?_)
         refine zy_1 1 (by kernel_rfl) ?_
         refine zop_run rfl rfl (fun hB7_1 => ?_)
         refine sy_ldr 1 one_22 rfl rfl rfl rfl rfl ?_
         refine sy_nil rfl (ny_zy hB7_1 (Hp.Le.refl _) ?_)
         refine zy_1 10 (by kernel_rfl) ?_
         refine zop_run rfl rfl (fun hB7_10 => ?_)
         refine sy_append 2 0 row_22 (by decide) rfl rfl rfl rfl rfl rfl (by omega) (by simp only [maxLen]; omega) rfl rfl (fun v39 => ?_)
         refine sy_rowform 0 rfl (fun A39 c39 hv39 => ?_)
         subst hv39
         refine sy_nil rfl (ny_zy hB7_10 (Hp.Le.refl _) ?_)
         refine zy_q 11 rfl (by kernel_rfl) (fun hB7_11 => ?_)
         refine sy_field fld_24_3 rfl rfl rfl ?_
         refine sy_nil1 (ny_zq hB7_11 ?_)
         refine zy_1 12 (by kernel_rfl) ?_
         refine zop_run rfl rfl (fun hB7_12 => ?_)
         refine sy_stl 2 sz_22 rfl rfl rfl rfl rfl rfl rfl rfl ?_
         refine sy_nil rfl (ny_zy hB7_12 (Hp.Le.refl _) ?_)
         refine zy_done (by kernel_rfl) ?_
         refine ny_blockN ?_
         refine ny_next ?_
         refine cy_region ?_
         refine sy_move rfl rfl rfl ?_
         refine sy_addi (z := ((i + 1 : Nat) : Int)) rfl rfl (by omega) (by omega) (by omega) rfl rfl ?_
         refine sy_assign rfl rfl rfl ?_
         refine sy_nil rfl ?_
         refine ny_roundK [1, 2, 4, 5] ⟨acc ++ [x37], i + 1, A39, c39, h37⟩ [0, 0, 1] ⟨(show i + 1 ≤ kids.length by omega), (by rw [List.length_append, List.length_cons, List.length_nil, hal]), (by rw [List.map_append, hac, take_snoc he34, List.map_append, List.map_cons, List.map_nil, List.map_cons, List.map_nil, hx37.1]), hlez.trans hle37, fun x h9 => (List.mem_append.1 h9).elim (fun h8 => ⟨(hgz x h8).1.le hle37, (hgz x h8).2⟩) (fun h8 => by rw [List.mem_singleton.1 h8]; exact hx37.2)⟩ (show kids.length - (i + 1) < kids.length - i by omega) rfl ⟨rfl, trivial⟩ rfl (by show some [_, _, _] = some [_, _, _]; rw [List.length_append, GT.cells_snoc]; rfl)
   · have hie : i = kids.length := by have := of_decide_eq_false hc26; omega
     subst hie
     refine cy_frzRow 1 rfl (fun _ _ => by simp) (fun AF cF hF hvF hlcF hcmF _ hleF hcellF => ?_)
     obtain ⟨rfl, rfl⟩ : Az = AF ∧ cz = cF := by simpa using hvF
     refine cy_exit ?_
     refine ny_thenE ?_
     refine ny_thenE ?_
     refine ny_blockX ?_
     refine ny_next ?_
     refine cy_seq ?_
     refine cy_region ?_
     refine sy_ldar 0 agg_24 rfl rfl rfl rfl rfl ?_
     refine sy_stl 1 sz_24 rfl rfl rfl rfl rfl rfl rfl rfl ?_
     refine sy_nil rfl ?_
     refine ny_next ?_
     refine cy_ret ?_
     refine ny_finR (rescS 0 rfl agg_24 rfl rfl rfl) (fun w9 hs => ⟨GT.mk tk nn ts Az cz acc, hF, rfl, ⟨?_, .intro _ _ _ _ _ _ hlcF (rows_row (by decide) (GT.cells_len _) hcellF) (fun x h9 => (hgz x h9).1.le hleF), .intro _ _ _ _ _ _ hf.nums.1.1 hf.nums.1.2 hnb.1 hnb.2 hf.nums.2.2 (by rw [hal]; exact hroom) (fun x h9 => (hgz x h9).2)⟩, hs.toGrow⟩)
     (rw [GT.tm_mk, GT.tm_mk, firstT_mk, hac, List.take_length, firstTs_map, List.map_map, hnn]; rfl)
 · have hk1 : ¬ tk = 1 := by simpa using hc16
   obtain ⟨nn, hnn⟩ : ∃ nn : Int, nn = (if tk = 1 then ((placeI l tn : Nat) : Int) else tn) := ⟨_, rfl⟩
   have hnt : tn = nn := by rw [hnn, if_neg hk1]
   have hnb : -9223372036854775808 ≤ nn ∧ nn ≤ 9223372036854775807 := by rw [← hnt]; exact hf.nums.2.1
   rw [hnt]
   refine cy_skip ?_
   refine ny_next ?_
   refine cy_seq ?_
   refine cy_seq ?_
   refine cy_region ?_
   refine sy_assign rfl rfl rfl ?_
   refine sy_nil rfl ?_
   refine ny_next ?_
   refine cy_block ?_
   refine cy_nilRow 24 4 ?_
   refine cy_loopK (ι := FZ) [1, 2, 4, 5] rfl (fun z => z.i ≤ kids.length ∧ z.acc.length = z.i ∧ z.acc.map GT.tm = (kids.take z.i).map (fun x => firstT l x.tm) ∧ h1.Le z.hh ∧ ∀ x ∈ z.acc, Lies z.hh x ∧ Fits x) (fun z => kids.length - z.i) (fun z => [(6, .int .i64 (z.i : Int))]) (fun z => z.hh) (fun z => [.blk b5 (.cells ([.int .i64 tk, .int .i64 nn, .string ts, .slice z.A z.acc.length z.c] : List Value).toArray 24 (0, 0)), .row (.slice z.A z.acc.length z.c) 24 4 z.acc.length ((z.acc.map GT.cells).flatten), .blk b4 (.cells ([.int .i64 0, .int .i64 0, .string ⟨#[]⟩, .slice none 0 0] : List Value).toArray 24 (0, 0))]) ⟨[], 0, none, 0, h1⟩ [1, 0, 0] ⟨Nat.zero_le _, rfl, rfl, Hp.Le.refl _, fun x h9 => (List.not_mem_nil h9).elim⟩ ⟨rfl, trivial⟩ rfl rfl ?_
   rintro ⟨acc, i, Az, cz, hz⟩ ⟨hI, hal, hac, hlez, hgz⟩
   simp only at hI hal hac hlez hgz ⊢
   have hrz := hr.le hlez
   replace hRz := hR.le (hle1.trans hlez)
   have hbz := hlez _ _ hbx
   refine cy_seq ?_
   refine cy_seq ?_
   refine cy_region ?_
   refine sy_move rfl rfl rfl ?_
   refine sy_field fld_24_3 rfl rfl rfl ?_
   refine sy_ldh one_22 rfl (Hp.blk hbz 3 _ rfl) rfl rfl ?_
   refine sy_len rfl (len_slice Tryz.underlying22 _ _ _) rfl rfl ?_
   refine sy_cmp rfl rfl rfl rfl rfl ?_
   refine sy_nil rfl ?_
   refine ny_next ?_
   refine cy_cond rfl (fun hc26 => ?_) (fun hc26 => ?_)
   · have hlti : i < kids.length := by have := of_decide_eq_true hc26; omega
     refine cy_skip ?_
     refine ny_next ?_
     refine cy_seq ?_
     refine cy_block ?_
     refine cy_regionA mixed ?_
     refine zy_q 0 rfl (by kernel_rfl) (fun hB7_0 => ?_)
     refine sy_field fld_24_3 rfl rfl rfl ?_
     refine sy_nil1 (ny_zq hB7_0 ?_)
     refine zy_q 2 rfl (by kernel_rfl) (fun hB7_2 => ?_)
     refine sy_field fld_24_3 rfl rfl rfl ?_
     refine sy_nil1 (ny_zq hB7_2 ?_)
     refine zy_q 3 rfl (by kernel_rfl) (fun hB7_3 => ?_)
     refine sy_ldh one_22 rfl (Hp.blk hbz 3 _ rfl) rfl rfl ?_
     refine sy_nil1 (ny_zq hB7_3 ?_)
     refine zy_q 4 rfl (by kernel_rfl) (fun hB7_4 => ?_)
     refine sy_move rfl rfl rfl ?_
     refine sy_nil1 (ny_zq hB7_4 ?_)
     refine zy_q 5 rfl (by kernel_rfl) (fun hB7_5 => ?_)
     refine sy_idxR (i := i) (fc := GT.cells) (es := kids) els_22 rfl rfl hrz rfl (by omega) rfl rfl (fun e34 b34 o34 he34 hA34 hc34 => ?_)
     refine sy_nil1 (ny_zq hB7_5 ?_)
     refine zy_q 6 rfl (by kernel_rfl) (fun hB7_6 => ?_)
     refine sy_ldah (vs := GT.cells e34) agg_24 rfl rfl hc34 rfl rfl ?_
     refine sy_nil1 (ny_zq hB7_6 ?_)
     refine zy_q 7 rfl (by kernel_rfl) (fun hB7_7 => ?_)
     refine sy_move rfl rfl rfl ?_
     refine sy_nil1 (ny_zq hB7_7 ?_)
     refine zy_2 1 8 (by kernel_rfl) ?_ ?_
     · refine zop_run rfl rfl (fun hB7_1 => ?_)
       refine sy_ldr 0 one_22 rfl rfl rfl rfl rfl ?_
       refine sy_nil rfl (ny_zy hB7_1 (Hp.Le.refl _) ?_)
       refine zy_1 8 (by kernel_rfl) ?_
       refine zop_run rfl rfl (fun hB7_8 => ?_)
       refine sy_callx call_17 rfl (ih e34 (List.mem_of_getElem? he34) A c _ hRz ((hl.le hlez).at he34) (hf.at he34)) rfl rfl (fun x37 h37 hx37 hle37 => ?_)
       refine sy_nil rfl (ny_zy hB7_8 hle37 ?_)
       refine zy_1 9 (by kernel_rfl) ?_
       refine zop_run rfl rfl (fun hB7_9 => ?_)
       refine sy_buildSlice (cs := [x37].flatMap GT.cells) rfl (fun w => bsl_22_1_0 w) rfl rfl (fun b38 hb38 hM38 => ?_) (by simp)
       refine sy_nil rfl (ny_zy hB7_9 (Hp.Le.refl _) ?_)
       refine zy_1 10 (by kernel_rfl) ?_
       refine zop_run rfl rfl (fun hB7_10 => ?_)
       refine sy_append 2 0 row_22 (by decide) rfl rfl rfl rfl rfl rfl (by omega) (by simp only [maxLen]; omega) rfl rfl (fun v39 => ?_)
       refine sy_rowform 0 rfl (fun A39 c39 hv39 => ?_)
       subst hv39
       refine sy_nil rfl (ny_zy hB7_10 (Hp.Le.refl _) ?_)
       refine zy_q 11 rfl (by kernel_rfl) (fun hB7_11 => ?_)
       refine sy_field fld_24_3 rfl rfl rfl ?_
       refine sy_nil1 (ny_zq hB7_11 ?_)
       refine zy_1 12 (by kernel_rfl) ?_
       refine zop_run rfl rfl (fun hB7_12 => ?_)
       refine sy_stl 2 sz_22 rfl rfl rfl rfl rfl rfl rfl rfl ?_
       refine sy_nil rfl (ny_zy hB7_12 (Hp.Le.refl _) ?_)
       refine zy_done (by kernel_rfl) ?_
       refine ny_blockN ?_
       refine ny_next ?_
       refine cy_region ?_
       refine sy_move rfl rfl rfl ?_
       refine sy_addi (z := ((i + 1 : Nat) : Int)) rfl rfl (by omega) (by omega) (by omega) rfl rfl ?_
       refine sy_assign rfl rfl rfl ?_
       refine sy_nil rfl ?_
       refine ny_roundK [1, 2, 4, 5] ⟨acc ++ [x37], i + 1, A39, c39, h37⟩ [0, 0, 1] ⟨(show i + 1 ≤ kids.length by omega), (by rw [List.length_append, List.length_cons, List.length_nil, hal]), (by rw [List.map_append, hac, take_snoc he34, List.map_append, List.map_cons, List.map_nil, List.map_cons, List.map_nil, hx37.1]), hlez.trans hle37, fun x h9 => (List.mem_append.1 h9).elim (fun h8 => ⟨(hgz x h8).1.le hle37, (hgz x h8).2⟩) (fun h8 => by rw [List.mem_singleton.1 h8]; exact hx37.2)⟩ (show kids.length - (i + 1) < kids.length - i by omega) rfl ⟨rfl, trivial⟩ rfl (by show some [_, _, _] = some [_, _, _]; rw [List.length_append, GT.cells_snoc]; rfl)
     · refine zop_run rfl rfl (fun hB7_8 => ?_)
       refine sy_callx call_17 rfl (ih e34 (List.mem_of_getElem? he34) A c _ hRz ((hl.le hlez).at he34) (hf.at he34)) rfl rfl (fun x37 h37 hx37 hle37 => ?_)
       refine sy_nil rfl (ny_zy hB7_8 hle37 ?_)
       refine zy_2 1 9 (by kernel_rfl) ?_ ?_
       · refine zop_run rfl rfl (fun hB7_1 => ?_)
         refine sy_ldr 0 one_22 rfl rfl rfl rfl rfl ?_
         refine sy_nil rfl (ny_zy hB7_1 (Hp.Le.refl _) ?_)
         refine zy_1 9 (by kernel_rfl) ?_
         refine zop_run rfl rfl (fun hB7_9 => ?_)
         refine sy_buildSlice (cs := [x37].flatMap GT.cells) rfl (fun w => bsl_22_1_0 w) rfl rfl (fun b38 hb38 hM38 => ?_) (by simp)
         refine sy_nil rfl (ny_zy hB7_9 (Hp.Le.refl _) ?_)
         refine zy_1 10 (by kernel_rfl) ?_
         refine zop_run rfl rfl (fun hB7_10 => ?_)
         refine sy_append 2 0 row_22 (by decide) rfl rfl rfl rfl rfl rfl (by omega) (by simp only [maxLen]; omega) rfl rfl (fun v39 => ?_)
         refine sy_rowform 0 rfl (fun A39 c39 hv39 => ?_)
         subst hv39
         refine sy_nil rfl (ny_zy hB7_10 (Hp.Le.refl _) ?_)
         refine zy_q 11 rfl (by kernel_rfl) (fun hB7_11 => ?_)
         refine sy_field fld_24_3 rfl rfl rfl ?_
         refine sy_nil1 (ny_zq hB7_11 ?_)
         refine zy_1 12 (by kernel_rfl) ?_
         refine zop_run rfl rfl (fun hB7_12 => ?_)
         refine sy_stl 2 sz_22 rfl rfl rfl rfl rfl rfl rfl rfl ?_
         refine sy_nil rfl (ny_zy hB7_12 (Hp.Le.refl _) ?_)
         refine zy_done (by kernel_rfl) ?_
         refine ny_blockN ?_
         refine ny_next ?_
         refine cy_region ?_
         refine sy_move rfl rfl rfl ?_
         refine sy_addi (z := ((i + 1 : Nat) : Int)) rfl rfl (by omega) (by omega) (by omega) rfl rfl ?_
         refine sy_assign rfl rfl rfl ?_
         refine sy_nil rfl ?_
         refine ny_roundK [1, 2, 4, 5] ⟨acc ++ [x37], i + 1, A39, c39, h37⟩ [0, 0, 1] ⟨(show i + 1 ≤ kids.length by omega), (by rw [List.length_append, List.length_cons, List.length_nil, hal]), (by rw [List.map_append, hac, take_snoc he34, List.map_append, List.map_cons, List.map_nil, List.map_cons, List.map_nil, hx37.1]), hlez.trans hle37, fun x h9 => (List.mem_append.1 h9).elim (fun h8 => ⟨(hgz x h8).1.le hle37, (hgz x h8).2⟩) (fun h8 => by rw [List.mem_singleton.1 h8]; exact hx37.2)⟩ (show kids.length - (i + 1) < kids.length - i by omega) rfl ⟨rfl, trivial⟩ rfl (by show some [_, _, _] = some [_, _, _]; rw [List.length_append, GT.cells_snoc]; rfl)
       · refine zop_run rfl rfl (fun hB7_9 => ?_)
         refine sy_buildSlice (cs := [x37].flatMap GT.cells) rfl (fun w => bsl_22_1_0 w) rfl rfl (fun b38 hb38 hM38 => ?_) (by simp)
         refine sy_nil rfl (ny_zy hB7_9 (Hp.Le.refl _) ?_)
         refine zy_1 1 (by kernel_rfl) ?_
         refine zop_run rfl rfl (fun hB7_1 => ?_)
         refine sy_ldr 1 one_22 rfl rfl rfl rfl rfl ?_
         refine sy_nil rfl (ny_zy hB7_1 (Hp.Le.refl _) ?_)
         refine zy_1 10 (by kernel_rfl) ?_
         refine zop_run rfl rfl (fun hB7_10 => ?_)
         refine sy_append 2 0 row_22 (by decide) rfl rfl rfl rfl rfl rfl (by omega) (by simp only [maxLen]; omega) rfl rfl (fun v39 => ?_)
         refine sy_rowform 0 rfl (fun A39 c39 hv39 => ?_)
         subst hv39
         refine sy_nil rfl (ny_zy hB7_10 (Hp.Le.refl _) ?_)
         refine zy_q 11 rfl (by kernel_rfl) (fun hB7_11 => ?_)
         refine sy_field fld_24_3 rfl rfl rfl ?_
         refine sy_nil1 (ny_zq hB7_11 ?_)
         refine zy_1 12 (by kernel_rfl) ?_
         refine zop_run rfl rfl (fun hB7_12 => ?_)
         refine sy_stl 2 sz_22 rfl rfl rfl rfl rfl rfl rfl rfl ?_
         refine sy_nil rfl (ny_zy hB7_12 (Hp.Le.refl _) ?_)
         refine zy_done (by kernel_rfl) ?_
         refine ny_blockN ?_
         refine ny_next ?_
         refine cy_region ?_
         refine sy_move rfl rfl rfl ?_
         refine sy_addi (z := ((i + 1 : Nat) : Int)) rfl rfl (by omega) (by omega) (by omega) rfl rfl ?_
         refine sy_assign rfl rfl rfl ?_
         refine sy_nil rfl ?_
         refine ny_roundK [1, 2, 4, 5] ⟨acc ++ [x37], i + 1, A39, c39, h37⟩ [0, 0, 1] ⟨(show i + 1 ≤ kids.length by omega), (by rw [List.length_append, List.length_cons, List.length_nil, hal]), (by rw [List.map_append, hac, take_snoc he34, List.map_append, List.map_cons, List.map_nil, List.map_cons, List.map_nil, hx37.1]), hlez.trans hle37, fun x h9 => (List.mem_append.1 h9).elim (fun h8 => ⟨(hgz x h8).1.le hle37, (hgz x h8).2⟩) (fun h8 => by rw [List.mem_singleton.1 h8]; exact hx37.2)⟩ (show kids.length - (i + 1) < kids.length - i by omega) rfl ⟨rfl, trivial⟩ rfl (by show some [_, _, _] = some [_, _, _]; rw [List.length_append, GT.cells_snoc]; rfl)
   · have hie : i = kids.length := by have := of_decide_eq_false hc26; omega
     subst hie
     refine cy_frzRow 1 rfl (fun _ _ => by simp) (fun AF cF hF hvF hlcF hcmF _ hleF hcellF => ?_)
     obtain ⟨rfl, rfl⟩ : Az = AF ∧ cz = cF := by simpa using hvF
     refine cy_exit ?_
     refine ny_thenE ?_
     refine ny_thenE ?_
     refine ny_blockX ?_
     refine ny_next ?_
     refine cy_seq ?_
     refine cy_region ?_
     refine sy_ldar 0 agg_24 rfl rfl rfl rfl rfl ?_
     refine sy_stl 1 sz_24 rfl rfl rfl rfl rfl rfl rfl rfl ?_
     refine sy_nil rfl ?_
     refine ny_next ?_
     refine cy_ret ?_
     refine ny_finR (rescS 0 rfl agg_24 rfl rfl rfl) (fun w9 hs => ⟨GT.mk tk nn ts Az cz acc, hF, rfl, ⟨?_, .intro _ _ _ _ _ _ hlcF (rows_row (by decide) (GT.cells_len _) hcellF) (fun x h9 => (hgz x h9).1.le hleF), .intro _ _ _ _ _ _ hf.nums.1.1 hf.nums.1.2 hnb.1 hnb.2 hf.nums.2.2 (by rw [hal]; exact hroom) (fun x h9 => (hgz x h9).2)⟩, hs.toGrow⟩)
     (rw [GT.tm_mk, GT.tm_mk, firstT_mk, if_neg hk1, hac, List.take_length, firstTs_map, List.map_map]; rfl)
theorem allL_c (s : ByteArray) (l : List UInt8) (hl : s.data.toList = l) (lv : Int) (h : Hp) (hh : Hdl h) : CX Tryz.prog 16 [.string s, .int .i64 lv] h (fun x : RdR => .tuple #[.slice x.2.1 x.1.length x.2.2, .int .i64 ((raAt (allA lv l) : Nat) : Int), .int .i64 (raE (allA lv l))]) (AllP (allA lv l)) := by
 subst hl
 exact allR_c s lv h hh
theorem map_one {es : List GT} {x : Tm} (h : es.map GT.tm = [x]) : ∃ a, es = [a] ∧ a.tm = x := by
 match es, h with
 | [a], h =>
  simp only [List.map_cons, List.map_nil, List.cons.injEq, and_true] at h
  exact ⟨a, rfl, h⟩
theorem same_refl {a b : Tm} (h : a = b) : sameT a b = true := (same_eq a b).2 h
set_option maxRecDepth 100000 in
theorem back08_c (t : GT) (h : Hp) (hl : Lies h t) (hf : Fits t) (hw : wtG t ≤ 1099511627776) (hz : (txt t.tm).length ≤ 268435456) (ht : Tab10 h) (hh : Hdl h) : C0 Tryz.prog 4 [.agg (GT.cells t).toArray] h (.bool true) := by
 show C0 Tryz.prog 4 [.agg #[.int .i64 t.k, .int .i64 t.n, .string t.s, .slice t.A t.kids.length t.c]] h _
 refine enter0 Tryz.func4 rfl rfl rfl (fun w => ?_)
 refine cy_seq ?_
 refine cy_region ?_
 refine sy_box rfl rfl rfl rfl (fun b1 hb1 hM1 => ?_) (by simp)
 refine sy_assign rfl rfl rfl ?_
 refine sy_nil rfl ?_
 refine ny_next ?_
 refine cy_seq ?_
 refine cy_frz 0 rfl (by simp) (fun h1 hle1 hbx => ?_)
 replace hl := hl.le hle1
 replace ht := ht.le hle1
 replace hh := hh.le hle1
 refine cy_region ?_
 refine sy_call rfl call_9 rfl (shown08_c _ ht) rfl rfl ?_
 refine sy_setT (d := 8) rfl rfl rfl ?_
 refine sy_assign rfl rfl rfl ?_
 refine sy_nil rfl ?_
 refine ny_next ?_
 refine cy_seq ?_
 refine cy_seq ?_
 refine cy_region ?_
 refine sy_ldah (vs := GT.cells t) agg_24 rfl rfl (Hp.blk hbx) rfl rfl ?_
 refine sy_call rfl call_10 rfl (few_c t _ hl hf) rfl rfl ?_
 refine sy_not rfl rfl rfl ?_
 refine sy_move rfl rfl rfl ?_
 refine sy_cond (d := 12) _ rfl rfl (fun hg12 => ?_) (fun hg12 => ?_)
 · refine sy_skip rfl rfl rfl ?_
   refine sy_skip rfl rfl rfl ?_
   refine sy_skip rfl rfl rfl ?_
   refine sy_pickT rfl rfl rfl rfl ?_
   refine sy_move rfl rfl rfl ?_
   refine sy_skip rfl rfl rfl ?_
   refine sy_skip rfl rfl rfl ?_
   refine sy_skip rfl rfl rfl ?_
   refine sy_pickT rfl rfl rfl rfl ?_
   refine sy_move rfl rfl rfl ?_
   refine sy_skip rfl rfl rfl ?_
   refine sy_skip rfl rfl rfl ?_
   refine sy_pickT rfl rfl rfl rfl ?_
   refine sy_nil rfl ?_
   refine ny_next ?_
   refine cy_condT rfl ?_
   refine cy_seq ?_
   refine cy_region ?_
   refine sy_move rfl rfl rfl ?_
   refine sy_assign rfl rfl rfl ?_
   refine sy_nil rfl ?_
   refine ny_next ?_
   refine cy_ret ?_
   refine ny_thenR ?_
   refine ny_finR (res1 rfl rfl) (fun w hs2 => ⟨?_, hs2.frm⟩)
   rfl
 · refine sy_ldah (vs := GT.cells t) agg_24 rfl rfl (Hp.blk hbx) rfl rfl ?_
   refine sy_call rfl call_11 rfl (check_c t 16 _ hl hf hw) rfl rfl ?_
   refine sy_cmp rfl rfl rfl rfl rfl ?_
   refine sy_pickF rfl rfl rfl rfl ?_
   refine sy_move rfl rfl rfl ?_
   refine sy_cond (d := 17) _ rfl rfl (fun hg17 => ?_) (fun hg17 => ?_)
   · refine sy_skip rfl rfl rfl ?_
     refine sy_skip rfl rfl rfl ?_
     refine sy_skip rfl rfl rfl ?_
     refine sy_pickT rfl rfl rfl rfl ?_
     refine sy_move rfl rfl rfl ?_
     refine sy_skip rfl rfl rfl ?_
     refine sy_skip rfl rfl rfl ?_
     refine sy_pickT rfl rfl rfl rfl ?_
     refine sy_nil rfl ?_
     refine ny_next ?_
     refine cy_condT rfl ?_
     refine cy_seq ?_
     refine cy_region ?_
     refine sy_move rfl rfl rfl ?_
     refine sy_assign rfl rfl rfl ?_
     refine sy_nil rfl ?_
     refine ny_next ?_
     refine cy_ret ?_
     refine ny_thenR ?_
     refine ny_finR (res1 rfl rfl) (fun w hs2 => ⟨?_, hs2.frm⟩)
     rfl
   · have hck : chkT 16 t.tm = 0 := by simpa using hg17
     refine sy_ldah (vs := GT.cells t) agg_24 rfl rfl (Hp.blk hbx) rfl rfl ?_
     refine sy_call rfl call_15 rfl (deep_c t _ hl hf hw) rfl rfl ?_
     refine sy_cmp rfl rfl rfl rfl rfl ?_
     refine sy_pickF rfl rfl rfl rfl ?_
     refine sy_move rfl rfl rfl ?_
     refine sy_cond (d := 22) _ rfl rfl (fun hg22 => ?_) (fun hg22 => ?_)
     · refine sy_skip rfl rfl rfl ?_
       refine sy_skip rfl rfl rfl ?_
       refine sy_pickT rfl rfl rfl rfl ?_
       refine sy_nil rfl ?_
       refine ny_next ?_
       refine cy_condT rfl ?_
       refine cy_seq ?_
       refine cy_region ?_
       refine sy_move rfl rfl rfl ?_
       refine sy_assign rfl rfl rfl ?_
       refine sy_nil rfl ?_
       refine ny_next ?_
       refine cy_ret ?_
       refine ny_thenR ?_
       refine ny_finR (res1 rfl rfl) (fun w hs2 => ⟨?_, hs2.frm⟩)
       rfl
     · have hdp : deepT t.tm ≤ 25 := by have := of_decide_eq_false hg22; omega
       refine sy_ldah (vs := GT.cells t) agg_24 rfl rfl (Hp.blk hbx) rfl rfl ?_
       refine sy_call rfl call_12 rfl (at_c t _ hl hf) rfl rfl ?_
       refine sy_pickF rfl rfl rfl rfl ?_
       refine sy_nil rfl ?_
       refine ny_next ?_
       refine cy_cond rfl (fun hc25 => ?_) (fun hc25 => ?_)
       · refine cy_seq ?_
         refine cy_region ?_
         refine sy_move rfl rfl rfl ?_
         refine sy_assign rfl rfl rfl ?_
         refine sy_nil rfl ?_
         refine ny_next ?_
         refine cy_ret ?_
         refine ny_thenR ?_
         refine ny_finR (res1 rfl rfl) (fun w hs2 => ⟨?_, hs2.frm⟩)
         rfl
       · have hat : atT t.tm = false := hc25
         refine cy_skip ?_
         refine ny_next ?_
         refine cy_seq ?_
         refine cy_region ?_
         refine sy_ldah (vs := GT.cells t) agg_24 rfl rfl (Hp.blk hbx) rfl rfl ?_
         refine sy_call rfl call_13 rfl (text_c t _ hl hf ht (by omega)) rfl rfl ?_
         have e2 : (⟨(txt t.tm).toArray⟩ : ByteArray).size = (txt t.tm).length := by simp [ByteArray.size]
         have e1 : (⟨#[32, 46]⟩ : ByteArray).size = 2 := rfl
         refine sy_cat rfl rfl (by (try simp only [ByteArray.size_append]); omega) rfl rfl ?_
         refine sy_assign rfl rfl rfl ?_
         refine sy_nil rfl ?_
         refine ny_next ?_
         refine cy_seq ?_
         refine cy_seq ?_
         refine cy_region ?_
         refine sy_move rfl rfl rfl ?_
         refine sy_len rfl (len_string Tryz.underlying9 _) rfl rfl ?_
         refine sy_cmp rfl rfl rfl rfl rfl ?_
         refine sy_nil rfl ?_
         refine ny_next ?_
         refine cy_cond rfl (fun hc32 => ?_) (fun hc32 => ?_)
         · refine cy_seq ?_
           refine cy_region ?_
           refine sy_move rfl rfl rfl ?_
           refine sy_assign rfl rfl rfl ?_
           refine sy_nil rfl ?_
           refine ny_next ?_
           refine cy_ret ?_
           refine ny_thenR ?_
           refine ny_finR (res1 rfl rfl) (fun w hs2 => ⟨?_, hs2.frm⟩)
           rfl
         · have hlen : (txt t.tm).length + 2 ≤ 4096 := by
            have h9 := of_decide_eq_false hc32
            rw [ByteArray.size_append, e1, e2] at h9
            omega
           have hback := back_law hf hck hat hdp hlen
           refine cy_skip ?_
           refine ny_next ?_
           refine cy_seq ?_
           refine cy_region ?_
           refine sy_move rfl rfl rfl ?_
           refine sy_callx call_16 rfl (allL_c _ ((txt t.tm ++ [32, 46])) (by rw [ba_cat]) (16) _ hh) rfl rfl (fun x36 h36 hx36 hle36 => ?_)
           obtain ⟨es36, A36, c36⟩ := x36
           obtain ⟨hT36, hr36, hc36, hz36, hg36⟩ := hx36
           simp only at hT36 hr36 hc36 hz36 hg36 ⊢
           replace hh := hh.le hle36
           replace hl := hl.le hle36
           replace ht := ht.le hle36
           have hbx36 := hle36 _ _ hbx
           rw [hback] at hT36 ⊢
           obtain ⟨q, rfl, hq⟩ := map_one hT36
           refine sy_move rfl rfl rfl ?_
           refine sy_extract rfl rfl rfl rfl ?_
           refine sy_extract rfl rfl rfl rfl ?_
           refine sy_extract rfl rfl rfl rfl ?_
           refine sy_assign rfl rfl rfl ?_
           refine sy_assign rfl rfl rfl ?_
           refine sy_assign rfl rfl rfl ?_
           refine sy_nil rfl ?_
           refine ny_next ?_
           refine cy_seq ?_
           refine cy_regionA mixed ?_
           refine zy_q 0 rfl (by kernel_rfl) (fun hB8_0 => ?_)
           refine sy_move rfl rfl rfl ?_
           refine sy_nil1 (ny_zq hB8_0 ?_)
           refine zy_q 1 rfl (by kernel_rfl) (fun hB8_1 => ?_)
           refine sy_move rfl rfl rfl ?_
           refine sy_nil1 (ny_zq hB8_1 ?_)
           refine zy_q 2 rfl (by kernel_rfl) (fun hB8_2 => ?_)
           refine sy_move rfl rfl rfl ?_
           refine sy_nil1 (ny_zq hB8_2 ?_)
           refine zy_q 3 rfl (by kernel_rfl) (fun hB8_3 => ?_)
           refine sy_cmp rfl rfl rfl rfl rfl ?_
           refine sy_nil1 (ny_zq hB8_3 ?_)
           refine zy_q 4 rfl (by kernel_rfl) (fun hB8_4 => ?_)
           refine sy_pickT rfl rfl rfl rfl ?_
           refine sy_nil1 (ny_zq hB8_4 ?_)
           refine zy_q 5 rfl (by kernel_rfl) (fun hB8_5 => ?_)
           refine sy_move rfl rfl rfl ?_
           refine sy_nil1 (ny_zq hB8_5 ?_)
           refine zy_q 6 rfl (by kernel_rfl) (fun hB8_6 => ?_)
           refine sy_setT (d := 45) rfl rfl (by first | rfl | (simp; done)) ?_
           refine sy_move rfl rfl rfl ?_
           refine sy_nil1 (ny_zq hB8_6 ?_)
           refine zy_q 7 rfl (by kernel_rfl) (fun hB8_7 => ?_)
           refine sy_len rfl (len_slice Tryz.underlying22 _ _ _) rfl rfl ?_
           refine sy_nil1 (ny_zq hB8_7 ?_)
           refine zy_q 8 rfl (by kernel_rfl) (fun hB8_8 => ?_)
           refine sy_cmp rfl rfl rfl rfl rfl ?_
           refine sy_nil1 (ny_zq hB8_8 ?_)
           refine zy_q 9 rfl (by kernel_rfl) (fun hB8_9 => ?_)
           refine sy_pickT rfl rfl rfl rfl ?_
           refine sy_nil1 (ny_zq hB8_9 ?_)
           refine zy_q 10 rfl (by kernel_rfl) (fun hB8_10 => ?_)
           refine sy_move rfl rfl rfl ?_
           refine sy_nil1 (ny_zq hB8_10 ?_)
           refine zy_q 11 rfl (by kernel_rfl) (fun hB8_11 => ?_)
           refine sy_setT (d := 50) rfl rfl (by first | rfl | (simp; done)) ?_
           refine sy_move rfl rfl rfl ?_
           refine sy_nil1 (ny_zq hB8_11 ?_)
           refine zy_q 12 rfl (by kernel_rfl) (fun hB8_12 => ?_)
           refine sy_idxR (i := 0) (fc := GT.cells) (es := [q]) els_22 rfl rfl hr36 rfl (by simp) rfl rfl (fun e52 b52 o52 he52 hA52 hc52 => ?_)
           obtain rfl : q = e52 := Option.some.inj he52
           refine sy_nil1 (ny_zq hB8_12 ?_)
           refine zy_q 13 rfl (by kernel_rfl) (fun hB8_13 => ?_)
           refine sy_ldah (vs := GT.cells q) agg_24 rfl rfl hc52 rfl rfl ?_
           refine sy_nil1 (ny_zq hB8_13 ?_)
           refine zy_q 14 rfl (by kernel_rfl) (fun hB8_14 => ?_)
           refine sy_ldah (vs := GT.cells t) agg_24 rfl rfl (Hp.blk hbx36) rfl rfl ?_
           refine sy_nil1 (ny_zq hB8_14 ?_)
           refine zy_q 15 rfl (by kernel_rfl) (fun hB8_15 => ?_)
           refine sy_ldah (vs := GT.cells t) agg_24 rfl rfl (Hp.blk hbx36) rfl rfl ?_
           refine sy_nil1 (ny_zq hB8_15 ?_)
           refine zy_1 16 (by kernel_rfl) ?_
           refine zop_run rfl rfl (fun hB8_16 => ?_)
           refine sy_callx call_18 rfl (vars_c t _ hl hf hw) rfl rfl (fun x56 h56 hx56 hle56 => ?_)
           obtain ⟨A56, c56⟩ := x56
           have hvl := varsT_wt2 t
           refine sy_nil rfl (ny_zy hB8_16 hle56 ?_)
           refine zy_1 17 (by kernel_rfl) ?_
           refine zop_run rfl rfl (fun hB8_17 => ?_)
           refine sy_callx call_17 rfl (firstL_c (varsT t.tm) (by omega) t A56 c56 _ hx56.1 (hl.le hle56) hf) rfl rfl (fun x57 h57 hx57 hle57 => ?_)
           refine sy_nil rfl (ny_zy hB8_17 hle57 ?_)
           refine zy_1 18 (by kernel_rfl) ?_
           refine zop_run rfl rfl (fun hB8_18 => ?_)
           refine sy_call rfl call_14 rfl (same_c q x57 _ (((hg36 q (by simp)).1.1.le hle56).le hle57) (hg36 q (by simp)).1.2 hx57.2.1 hx57.2.2) rfl rfl ?_
           rw [same_refl (a := q.tm) (b := x57.tm) (by rw [hq, hx57.1])]
           refine sy_setT (d := 58) rfl rfl rfl ?_
           refine sy_nil rfl (ny_zy hB8_18 (Hp.Le.refl _) ?_)
           refine zy_q 19 rfl (by kernel_rfl) (fun hB8_19 => ?_)
           refine sy_pickT rfl rfl rfl rfl ?_
           refine sy_nil1 (ny_zq hB8_19 ?_)
           refine zy_q 20 rfl (by kernel_rfl) (fun hB8_20 => ?_)
           refine sy_assign rfl rfl rfl ?_
           refine sy_nil1 (ny_zq hB8_20 ?_)
           refine zy_done (by kernel_rfl) ?_
           refine ny_next ?_
           refine cy_ret ?_
           refine ny_finR (res1 rfl rfl) (fun w hs2 => ⟨?_, hs2.frm⟩)
           rfl
end Go.Proofs.YtanhhihechakhaaGreatDoor
set_option linter.unusedVariables false
set_option linter.unusedSimpArgs false
namespace Go.Proofs.YtanhhihechakhaaGreatDoor
open Go.ChangeShapes Go.WideShapes Go.ChangeAt Go.RowKit Go.Proofs.YtanhhihechakhaaGreatDoor.E Go.Proofs.YtanhhihechakhaaGreatDoor.TermP Go.Proofs.YtanhhihechakhaaGreatDoor.WrP
theorem sum_bulk {H : Type} {α : Type} {fw : α → Nat} : ∀ {l : List α} {m : List (DataW H)}, l.length = m.length → (∀ (i : Nat) (y : α) (d : DataW H), l[i]? = some y → m[i]? = some d → fw y ≤ Rows.uptoBulk d) → (l.map fw).sum ≤ Rows.uptoBulkAll m
 | [], [], _, _ => Nat.zero_le _
 | x :: l, d :: m, h, hk => by
  have h1 := hk 0 x d rfl rfl
  have h2 := sum_bulk (fw := fw) (l := l) (m := m) (by simpa using h) (fun i y d hy hd => hk (i + 1) y d (by simpa using hy) (by simpa using hd))
  rw [List.map_cons, List.sum_cons]
  simp only [Rows.uptoBulkAll]
  omega
theorem bulk_agg {H : Type} {l : List (DataW H)} {j : Nat} {d : DataW H} (h : l[j]? = some d) : Rows.uptoBulk d ≤ Rows.uptoBulkAll l := bulk_mem (List.mem_of_getElem? h)
theorem wtGs_map : ∀ l : List GT, (l.map wtG).sum = wtGs l
 | [] => by rw [wtGs_nil]; rfl
 | t :: l => by rw [List.map_cons, List.sum_cons, wtGs_cons, wtGs_map l]
theorem bulk_two {H : Type} : ∀ {l : List (DataW H)} {i j : Nat} {d e : DataW H}, i < j → l[i]? = some d → l[j]? = some e → Rows.uptoBulk d + Rows.uptoBulk e ≤ Rows.uptoBulkAll l
 | [], i, j, d, e, _, hd, _ => by simp at hd
 | x :: l, 0, j + 1, d, e, _, hd, he => by
  simp only [List.getElem?_cons_zero, Option.some.injEq] at hd
  subst hd
  have := bulk_agg (l := l) (j := j) (by simpa using he)
  simp only [Rows.uptoBulkAll]
  omega
 | x :: l, i + 1, j + 1, d, e, h, hd, he => by
  have := bulk_two (l := l) (i := i) (j := j) (by omega) (by simpa using hd) (by simpa using he)
  simp only [Rows.uptoBulkAll]
  omega
theorem open_rowsW {H : Type} {enc : TypeId × Value → H} {P : Program} {W : World} {t e : TypeId} {sz fuel : Nat} {cs : List Value} {x : DataW H × List MemPlace} {α : Type} {fc : α → List Value} {good : α → Prop} {fw : α → Nat} (ht : P.underlying t = some (.slice e)) (hce : P.cellsOf e = sz) (hsz : 0 < sz)
    (hf : DataW.trod enc P W 0 (fun _ => true) true fuel t cs = some x) (hw : Wt P t x.1)
    (key : ∀ (n : Nat) (cs : List Value) (x : DataW H × List MemPlace), n < fuel → DataW.trod enc P W 0 (fun _ => true) true n e cs = some x → Wt P e x.1 → ∃ a, cs = fc a ∧ good a ∧ fw a ≤ Rows.uptoBulk x.1) :
    ∃ (A : Option Addr) (l c : Nat) (es : List α), cs = [.slice A l c] ∧ l ≤ c ∧ c ≤ maxLen ∧ es.length = l ∧ RowsAt (hpOf W) A sz (es.map fc) ∧ (∀ a ∈ es, good a) ∧ l * P.bytesOf e ≤ reachBytes ∧ (es.map fw).sum + 1 ≤ Rows.uptoBulk x.1 := by
 classical
 rcases DataW.trod_slice ht hf with ⟨h0, h1⟩ | ⟨a, l, c, elems, rest, n, hn, h0, hx, _, hlc, hcm, hlen, hel, _, _⟩
 · subst h0
   exact ⟨none, 0, 0, [], rfl, Nat.le_refl _, by simp [maxLen], rfl, fun j x hj => by simp at hj, fun _ h => (List.not_mem_nil h).elim, by simp, by rw [h1]; simp [Rows.uptoBulk]⟩
 · subst h0 hx
   obtain ⟨hw1, hw2⟩ := wt_slice ht hw
   have hk : ∀ i, i < l → ∃ y : α, good y ∧ (fc y).length = sz ∧ (∀ j u, (fc y)[j]? = some u → W.cell? ((a.add (i * sz)).add j) = some u) ∧ ∀ d, (elems.map (·.1))[i]? = some d → fw y ≤ Rows.uptoBulk d := fun i hi => by
    have h2 := hel i hi
    have h3 : elems[i]? = some (elems[i]'(by omega)) := List.getElem?_eq_getElem _
    rw [h3, hce] at h2
    obtain ⟨cs', h4, h5⟩ := Option.bind_eq_some_iff.1 h2
    obtain ⟨_, h6, h7⟩ := World.cells?_some h4
    obtain ⟨y, rfl, hg, hfw⟩ := key n cs' _ (by omega) h5 (hw2 _ (List.mem_map.2 ⟨_, List.mem_of_getElem? h3, rfl⟩))
    exact ⟨y, hg, h6, fun j u hj => (h7 j (by have := (List.getElem?_eq_some_iff.1 hj).1; omega)).trans hj, fun d hd => by
     rw [List.getElem?_map, h3] at hd
     rw [← Option.some.inj hd]
     exact hfw⟩
   refine ⟨some a, l, c, List.ofFn fun i : Fin l => Classical.choose (hk i.1 i.2), rfl, hlc, hcm, by simp, ?_, ?_, by simpa [hlen] using hw1, ?_⟩
   · intro j cs hj
     rw [List.getElem?_map, Option.map_eq_some_iff] at hj
     obtain ⟨y, hy, rfl⟩ := hj
     have hjl : j < l := by
      have := (List.getElem?_eq_some_iff.1 hy).1
      simpa using this
     have hye : y = Classical.choose (hk j hjl) := by
      have h8 := (List.getElem?_eq_some_iff.1 hy).2
      rw [List.getElem_ofFn] at h8
      exact h8.symm
     obtain ⟨_, g2, g3, _⟩ := Classical.choose_spec (hk j hjl)
     rw [← hye] at g2 g3
     have hsp : a.spot = none := by
      obtain ⟨y0, _, q2, q3, _⟩ := hk 0 (by omega)
      have h0 : (fc y0)[0]? = some ((fc y0)[0]'(by omega)) := List.getElem?_eq_getElem _
      have z0 := q3 0 _ h0
      have e0 : (a.add (0 * sz)).add 0 = a := by simp [Addr.add]
      rw [e0] at z0
      unfold World.cell? at z0
      split at z0
      · split at z0
        · cases z0
        · rename_i h11
          simpa using h11
      · cases z0
     obtain ⟨b, off, sp⟩ := a
     simp only at hsp
     subst hsp
     refine ⟨b, off, rfl, fun jj u hu => ?_⟩
     have := g3 jj u hu
     rw [Addr.add_at, Addr.add_at] at this
     exact this
   · intro y hy
     obtain ⟨i, rfl⟩ := List.mem_ofFn.1 hy
     exact (Classical.choose_spec (hk i.1 i.2)).1
   · have hs : ((List.ofFn fun i : Fin l => Classical.choose (hk i.1 i.2)).map fw).sum ≤ Rows.uptoBulkAll (elems.map (·.1)) := sum_bulk (by simp [hlen]) fun i y d hy hd => by
      have hil : i < l := by
       have := (List.getElem?_eq_some_iff.1 hy).1
       simpa using this
      have hye : y = Classical.choose (hk i hil) := by
       have h8 := (List.getElem?_eq_some_iff.1 hy).2
       rw [List.getElem_ofFn] at h8
       exact h8.symm
      rw [hye]
      exact (Classical.choose_spec (hk i hil)).2.2.2 d hd
     simp only [Rows.uptoBulk]
     omega
section
variable {H : Type} {enc : TypeId × Value → H} {P : Program} {W : World} {e i i2 s sl : TypeId} {f0 f1 f2 f3 : Field}
theorem tm_cellsW (hs : P.underlying e = some (.struct #[f0, f1, f2, f3])) (hc : P.cellsOf e = 4) (h0 : f0.type = i ∧ f0.offset = 0) (h1 : f1.type = i2 ∧ f1.offset = 1) (h2 : f2.type = s ∧ f2.offset = 2) (h3 : f3.type = sl ∧ f3.offset = 3)
    (hi : P.underlying i = some (.int .i64)) (hci : P.cellsOf i = 1) (hi2 : P.underlying i2 = some (.int .i64)) (hci2 : P.cellsOf i2 = 1) (hstr : P.underlying s = some .string) (hcs : P.cellsOf s = 1) (hsl : P.underlying sl = some (.slice e)) (hcl : P.cellsOf sl = 1) (hbe : P.bytesOf e = 56) :
    ∀ (fuel : Nat) (cs : List Value) (x : DataW H × List MemPlace), DataW.trod enc P W 0 (fun _ => true) true fuel e cs = some x → Wt P e x.1 → ∃ a : GT, cs = a.cells ∧ (Lies (hpOf W) a ∧ Fits a) ∧ wtG a ≤ Rows.uptoBulk x.1 := by
 intro fuel
 induction fuel using Nat.strongRecOn
 rename_i fuel ih
 intro cs x hf hw
 obtain ⟨xs, mm, hmm, hx, hl, hxl, hel⟩ := DataW.trod_struct hs hf
 rw [hc] at hl
 match cs, hl with
 | [c0, c1, c2, c3], _ =>
  have q0 := hel 0 f0 rfl
  have q1 := hel 1 f1 rfl
  have q2 := hel 2 f2 rfl
  have q3 := hel 3 f3 rfl
  simp only [h0.1, h0.2, h1.1, h1.2, h2.1, h2.2, h3.1, h3.2, hci, hci2, hcs, hcl, List.drop_zero, List.take_succ_cons, List.take_zero, List.drop_succ_cons] at q0 q1 q2 q3
  have hxl' : xs.length = 4 := hxl
  have r0 : xs[0]? = some (xs[0]'(by omega)) := List.getElem?_eq_getElem _
  have r1 : xs[1]? = some (xs[1]'(by omega)) := List.getElem?_eq_getElem _
  have r2 : xs[2]? = some (xs[2]'(by omega)) := List.getElem?_eq_getElem _
  have r3 : xs[3]? = some (xs[3]'(by omega)) := List.getElem?_eq_getElem _
  rw [r0] at q0
  rw [r1] at q1
  rw [r2] at q2
  rw [r3] at q3
  obtain ⟨k, e0, _, w0⟩ := DataW.trod_int hi q0
  obtain ⟨l, e1, _, w1⟩ := DataW.trod_int hi2 q1
  obtain ⟨t, e2, g2, _⟩ := DataW.trod_string hstr q2
  simp only [List.cons.injEq, and_true] at e0 e1 e2
  subst e0 e1 e2
  have hwp : Wt P e (.agg (xs.map (·.1))) := by rw [hx] at hw; exact hw
  have hw2 := wt_struct hs hwp 2 f2 (.lit (.string t.data.toList)) rfl (by rw [List.getElem?_map, r2, g2]; rfl)
  have h9 := wt_string hw2
  have h9' : t.size ≤ reachBytes := by simpa using h9
  have hw3 := wt_struct hs hwp 3 f3 (xs[3]'(by omega)).1 rfl (by rw [List.getElem?_map, r3]; rfl)
  rw [h3.1] at hw3
  obtain ⟨A, l3, c3', es, e3, hlc, _, hl3, hr, hg, hby, hwt⟩ := open_rowsW (fw := wtG) (fc := GT.cells) (good := fun a => Lies (hpOf W) a ∧ Fits a) hsl hc (by decide) q3 hw3 fun n cs x hn h5 h6 => ih n (by omega) cs x h5 h6
  simp only [List.cons.injEq, and_true] at e3
  subst e3 hl3
  simp only [reachBytes] at h9' hby
  rw [hbe] at hby
  have b0 := bounds_i64 w0
  have b1 := bounds_i64 w1
  have hb2 := bulk_two (l := xs.map (·.1)) (i := 2) (j := 3) (by decide) (by rw [List.getElem?_map, r2]; rfl) (by rw [List.getElem?_map, r3]; rfl)
  rw [g2] at hb2
  simp only [Rows.uptoBulk] at hb2
  have hts : t.data.toList.length = t.size := rfl
  exact ⟨.mk k l t A c3' es, rfl, ⟨.intro _ _ _ _ _ _ hlc hr (fun a ha => (hg a ha).1), .intro _ _ _ _ _ _ b0.1 b0.2 b1.1 b1.2 (by omega) (by omega) (fun a ha => (hg a ha).2)⟩, by
   rw [wtG_mk, ← wtGs_map, hx]
   simp only [Rows.uptoBulk]
   omega⟩
theorem open_tmW {b0 : Nat} {r : Go.Reach} {v : Value} {d : DataW H} {ps : List MemPlace} (hs : P.underlying e = some (.struct #[f0, f1, f2, f3])) (hc : P.cellsOf e = 4) (h0 : f0.type = i ∧ f0.offset = 0) (h1 : f1.type = i2 ∧ f1.offset = 1) (h2 : f2.type = s ∧ f2.offset = 2) (h3 : f3.type = sl ∧ f3.offset = 3)
    (hi : P.underlying i = some (.int .i64)) (hci : P.cellsOf i = 1) (hi2 : P.underlying i2 = some (.int .i64)) (hci2 : P.cellsOf i2 = 1) (hstr : P.underlying s = some .string) (hcs : P.cellsOf s = 1) (hsl : P.underlying sl = some (.slice e)) (hcl : P.cellsOf sl = 1) (hbe : P.bytesOf e = 56)
    (hval : Value.okWide P W r b0 e v) (h : DataW.Trod enc P W 0 (fun _ => true) true e v d ps) (hw : Wt P e d) : ∃ a : GT, v = .agg a.cells.toArray ∧ (Lies (hpOf W) a ∧ Fits a) ∧ wtG a ≤ Rows.uptoBulk d := by
 obtain ⟨cs, rfl, hsz⟩ := okWide_struct hs hval
 obtain ⟨fuel, hf⟩ := h
 obtain ⟨a, e1, hg⟩ := tm_cellsW hs hc h0 h1 h2 h3 hi hci hi2 hci2 hstr hcs hsl hcl hbe fuel _ _ hf hw
 refine ⟨a, ?_, hg⟩
 obtain ⟨csl⟩ := cs
 have e2 : csl = GT.cells a := e1
 rw [e2]
end
end Go.Proofs.YtanhhihechakhaaGreatDoor

/- The engine, the plain laws and the walks of this seat, part 4: what the functions answer. Conditions: as each says; printed by programs of this session. -/
import Derived.Stop.Asserts
import Derived.Laws.Externs
import Derived.Lib.ItoaNum
import Derived.Lib.Join
import Derived.Test.YtanhhihechakhaaGreatDoorRows
import Derived.LaidMore
import Derived.LaidSub
import Derived.LaidHandle
import Derived.Stop.Joined
import Derived.Deep.Slices
import Derived.Deep.DeepHandedRow
import Derived.Test.YtanhhihechakhaaGreatDoorProg
import Derived.Test.YtanhhihechakhaaGreatDoorMc
set_option linter.unusedVariables false
set_option linter.unusedSimpArgs false
namespace Go.Proofs.YtanhhihechakhaaGreatDoor.WrP
open Go.RowKit Go.Proofs.YtanhhihechakhaaGreatDoor.E Go.Proofs.YtanhhihechakhaaGreatDoor.ReplP Go.Proofs.YtanhhihechakhaaGreatDoor.TokP Go.Proofs.YtanhhihechakhaaGreatDoor.TermP
mutual
/-- how much a term holds -/
def wtG : GT → Nat | .mk _ _ s _ _ kids => s.size + 1 + wtGs kids
def wtGs : List GT → Nat | [] => 0 | t :: l => wtG t + wtGs l
end
theorem wtG_mk (k n : Int) (s : ByteArray) (A : Option Addr) (c : Nat) (kids : List GT) : wtG (.mk k n s A c kids) = s.size + 1 + wtGs kids := by rw [wtG]
theorem wtGs_nil : wtGs [] = 0 := by rw [wtGs]
theorem wtGs_cons (t : GT) (l : List GT) : wtGs (t :: l) = wtG t + wtGs l := by rw [wtGs]
theorem wtG_pos (t : GT) : 1 ≤ wtG t := by
  cases t
  rw [wtG_mk]
  omega
theorem wtGs_kid : ∀ {l : List GT} {t : GT}, t ∈ l → wtG t ≤ wtGs l
  | [], t, h => (List.not_mem_nil h).elim
  | x :: l, t, h => by
    rw [wtGs_cons]
    rcases List.mem_cons.1 h with rfl | h
    · omega
    · have := wtGs_kid h
      omega
theorem itoa_len {n : Int} (h0 : -9223372036854775808 ≤ n) (h1 : n ≤ 9223372036854775807) : (Lib.itoa n).length ≤ 20 := by
  by_cases hn : n < 0
  · rw [itoa_neg hn, List.length_cons]
    have := fig_len 18 n.natAbs (by omega)
    omega
  · rw [itoa_pos hn]
    have := fig_len 18 n.toNat (by omega)
    omega
theorem q_len (s : ByteArray) : (qL s).length ≤ 2 * s.size + 2 := by
  unfold qL quoteL
  have h1 := repl_le s.data.toList
  have h2 : s.data.toList.length = s.size := rfl
  split <;> (try simp only [List.length_append, List.length_cons, List.length_nil]) <;> omega
theorem nm_len (s : ByteArray) (k : Nat) : (nmL s k).length ≤ 2 * s.size + 4 := by
  unfold nmL
  split
  · show 4 ≤ _
    omega
  · have := q_len s
    omega
theorem txtsC_len : ∀ l : List GT, (txtsC (l.map GT.tm)).length = (l.map fun t => (txt t.tm).length + 1).sum
  | [] => by rw [List.map_nil, txtsC_nil]; rfl
  | t :: l => by
    rw [List.map_cons, txtsC_cons, List.map_cons, List.sum_cons, List.length_append, List.length_append, txtsC_len l]
    simp only [List.length_cons, List.length_nil]
    omega
theorem txts_le : ∀ l : List GT, (txts (l.map GT.tm)).length ≤ (l.map fun t => (txt t.tm).length + 1).sum
  | [] => by rw [List.map_nil, txts_nil]; exact Nat.zero_le _
  | t :: l => by
    rw [List.map_cons, txts_cons, List.map_cons, List.sum_cons, List.length_append, txtsC_len l]
    omega
theorem sum_le2 {α : Type} {f g : α → Nat} : ∀ (l : List α), (∀ t ∈ l, f t ≤ g t) → (l.map f).sum ≤ (l.map g).sum
  | [], _ => Nat.le_refl _
  | x :: l, h => by
    rw [List.map_cons, List.map_cons, List.sum_cons, List.sum_cons]
    have h1 := h x (List.mem_cons_self)
    have h2 := sum_le2 l (fun t ht => h t (List.mem_cons_of_mem _ ht))
    omega
theorem wtGs_sum : ∀ l : List GT, (l.map fun t => 28 * wtG t).sum = 28 * wtGs l
  | [] => by rw [wtGs_nil]; rfl
  | t :: l => by
    rw [List.map_cons, List.sum_cons, wtGs_cons, wtGs_sum l]
    omega
theorem txt_len : ∀ t : GT, Fits t → (txt t.tm).length + 1 ≤ 28 * wtG t := fun t => by
  induction t using GT.ind with
  | h k n s A c kids ih =>
    intro hf
    have hn := hf.nums.2.1
    have hi := itoa_len hn.1 hn.2
    have hk : (txts (kids.map GT.tm)).length ≤ 28 * wtGs kids := Nat.le_trans (txts_le kids) (by rw [← wtGs_sum]; exact sum_le2 kids fun t ht => ih t ht (hf.kid ht))
    rw [GT.tm_mk, wtG_mk]
    by_cases h1 : k = 1
    · rw [txt_var (t := .mk k n s _) h1]
      show (95 :: Lib.itoa n).length + 1 ≤ _
      rw [List.length_cons]
      omega
    by_cases h2 : k = 2
    · rw [txt_int (t := .mk k n s _) h2]
      show (Lib.itoa n).length + 1 ≤ _
      omega
    by_cases h3 : k = 3
    · rw [txt_fun h3, List.length_map]
      have e1 := q_len s
      have e2 := nm_len s kids.length
      split <;> (try simp only [List.length_append, List.length_cons, List.length_nil]) <;> omega
    by_cases h4 : k = 4 ∧ kids.length = 1
    · rw [txt_seal h4.1 (by rw [List.length_map]; exact h4.2)]
      simp only [List.length_append, List.length_cons, List.length_nil]
      omega
    · rw [txt_else h1 h2 h3 (by rw [List.length_map]; exact h4)]
      show 1 + 1 ≤ _
      omega
/-- the text of the first of them is no longer than that of all -/
theorem txts_mono : ∀ (l : List GT) (i : Nat), (txts ((l.take i).map GT.tm)).length ≤ (txts (l.map GT.tm)).length
  | [], i => by rw [List.take_nil]; exact Nat.le_refl _
  | t :: l, 0 => by rw [List.take_zero, List.map_nil, txts_nil]; exact Nat.zero_le _
  | t :: l, i + 1 => by
    rw [List.take_succ_cons, List.map_cons, List.map_cons, txts_cons, txts_cons, List.length_append, List.length_append, txtsC_len, txtsC_len]
    have : ((l.take i).map fun t => (txt t.tm).length + 1).sum ≤ (l.map fun t => (txt t.tm).length + 1).sum := by
      conv => rhs; rw [← List.take_append_drop i l, List.map_append, List.sum_append]
      omega
    omega
theorem q_ne (s : ByteArray) : qL s ≠ [] := fun h => by
  unfold qL quoteL at h
  split at h
  · rename_i hp
    rw [h] at hp
    exact absurd hp (by decide)
  · simp at h
theorem itoa_ne (n : Int) : Lib.itoa n ≠ [] := fun h => by
  rcases itoa_head n [] with ⟨c, t, hc, _⟩ | ⟨c, t, hc, _⟩ <;> · rw [h] at hc; cases hc
theorem txt_ne (t : Tm) : txt t ≠ [] := by
  cases t with
  | mk k n s kids =>
    rw [txt]
    split
    · simp
    split
    · exact itoa_ne n
    split
    · split
      · exact q_ne s
      · simp
    split
    · simp
    · simp
/-- a name is no longer than its text -/
theorem q_ge (s : ByteArray) : s.size ≤ (qL s).length := by
  unfold qL quoteL
  have h1 := repl_count s.data.toList
  have h2 : s.data.toList.length = s.size := rfl
  split <;> (try simp only [List.length_append, List.length_cons, List.length_nil]) <;> omega
theorem nm_ge (s : ByteArray) (k : Nat) : s.size ≤ (nmL s k).length := by
  unfold nmL
  split
  · rename_i h
    rw [h.1]
    decide
  · exact q_ge s
/-! names' texts -/
theorem pn_clean {l : List UInt8} (h : Pn l) : ∀ b ∈ l, ¬ b = 10 ∧ ¬ b = 32 := by
  have all : ∀ (p : UInt8 → Bool), p 10 = false → p 32 = false → ∀ l : List UInt8, l.all p = true → ∀ b ∈ l, ¬ b = 10 ∧ ¬ b = 32 := fun p h10 h32 l hl b hb => by
    have := List.all_eq_true.1 hl b hb
    refine ⟨fun h9 => ?_, fun h9 => ?_⟩
    · rw [h9, h10] at this; cases this
    · rw [h9, h32] at this; cases this
  cases h with
  | br => decide
  | ex => decide
  | se => decide
  | lo c t hc ha => exact all letterB (by decide) (by decide) _ ha
  | si c t ha h46 => exact all signB (by decide) (by decide) _ ha
theorem repl_clean : ∀ (l : List UInt8), ∀ b ∈ repl l, ¬ b = 10
  | [], b, hb => (List.not_mem_nil hb).elim
  | c :: l, b, hb => by
    rw [repl_cons] at hb
    rcases List.mem_append.1 hb with hb | hb
    · by_cases h10 : c = 10
      · subst h10
        have : b ∈ [92, 110] := hb
        simp at this
        rcases this with rfl | rfl <;> decide
      by_cases h92 : c = 92
      · subst h92
        have : b ∈ [92, 92] := hb
        simp at this
        subst this
        decide
      by_cases h39 : c = 39
      · subst h39
        have : b ∈ [39, 39] := hb
        simp at this
        subst this
        decide
      rw [one_no (by unfold isSp; simp [h10, h92, h39])] at hb
      simp at hb
      subst hb
      exact h10
    · exact repl_clean l b hb
theorem q_clean {s : ByteArray} {i : Nat} {b : UInt8} (h : (qL s)[i]? = some b) : ¬ b = 10 ∧ (b = 32 → (qL s)[0]? = some 39) := by
  have hb := List.mem_of_getElem? h
  by_cases hs : plainB s.data.toList = true
  · rw [q_plain hs] at hb
    have := pn_clean (plain_pn hs) b hb
    exact ⟨this.1, fun h9 => absurd h9 this.2⟩
  · rw [q_mark hs] at hb ⊢
    refine ⟨?_, fun _ => rfl⟩
    rcases List.mem_cons.1 hb with rfl | hb
    · decide
    rcases List.mem_append.1 hb with hb | hb
    · exact repl_clean _ b hb
    · simp at hb
      subst hb
      decide
theorem q_int (s : ByteArray) (n : Int) : qL s ≠ Lib.itoa n := fun h => q_no_int (x := []) (y := []) (.inl (.inl rfl)) (by rw [h])
theorem int_let (n m : Int) : Lib.itoa n ≠ 95 :: Lib.itoa m := fun h => itoa_no (c := 95) (n := n) (x := []) (y := Lib.itoa m) (by decide) (by decide) (by rw [List.append_nil]; exact h)
/-! answers -/
def hidB (s : ByteArray) : Bool := firstB (fun c => c == 95) s.data.toList
def rowsA : List ByteArray → List Tm → List (List UInt8)
  | n :: ns, v :: vs => if hidB n = true then rowsA ns vs else (n.data.toList ++ [32, 61, 32] ++ txt v) :: rowsA ns vs
  | _, _ => []
def joinL : List (List UInt8) → List UInt8
  | [] => []
  | x :: r => x ++ (r.flatMap fun y => [44, 32] ++ y)
def ansL (ns : List ByteArray) (vs : List Tm) : List UInt8 := if rowsA ns vs = [] then [121, 101, 115] else joinL (rowsA ns vs)
theorem rowsA_nil (ns : List ByteArray) : rowsA ns [] = [] := by cases ns <;> rfl
theorem rowsA_succ : ∀ (ns : List ByteArray) (vs : List Tm) (i : Nat) (n : ByteArray) (v : Tm), ns[i]? = some n → vs[i]? = some v → rowsA (ns.take (i + 1)) vs = rowsA (ns.take i) vs ++ (if hidB n = true then [] else [n.data.toList ++ [32, 61, 32] ++ txt v])
  | [], _, i, n, v, h, _ => by simp at h
  | _ :: _, [], i, n, v, _, h => by simp at h
  | x :: ns, y :: vs, 0, n, v, h1, h2 => by
    simp only [List.getElem?_cons_zero, Option.some.injEq] at h1 h2
    subst h1 h2
    rw [List.take_succ_cons, List.take_zero, List.take_zero]
    simp only [rowsA, List.nil_append]
  | x :: ns, y :: vs, i + 1, n, v, h1, h2 => by
    have ih := rowsA_succ ns vs i n v (by simpa using h1) (by simpa using h2)
    rw [List.take_succ_cons, List.take_succ_cons]
    simp only [rowsA]
    split
    · exact ih
    · rw [ih, List.cons_append]
theorem rowsA_more : ∀ (ns : List ByteArray) (vs : List Tm) (i : Nat), vs.length ≤ i → rowsA (ns.take i) vs = rowsA ns vs
  | [], vs, i, h => by rw [List.take_nil]
  | x :: ns, [], i, h => by rw [rowsA_nil, rowsA_nil]
  | x :: ns, y :: vs, 0, h => by simp at h
  | x :: ns, y :: vs, i + 1, h => by
    rw [List.take_succ_cons]
    simp only [rowsA]
    rw [rowsA_more ns vs i (by simpa using h)]
theorem joinL_snoc (r : List (List UInt8)) (x : List UInt8) : joinL (r ++ [x]) = if r = [] then x else joinL r ++ [44, 32] ++ x := by
  cases r with
  | nil =>
    rw [if_pos rfl, List.nil_append]
    show x ++ [] = x
    rw [List.append_nil]
  | cons y r =>
    rw [if_neg (by simp), List.cons_append]
    show y ++ ((r ++ [x]).flatMap fun y => [44, 32] ++ y) = y ++ (r.flatMap fun y => [44, 32] ++ y) ++ [44, 32] ++ x
    rw [List.flatMap_append]
    simp
theorem joinL_ne {r : List (List UInt8)} (h : ∀ x ∈ r, x ≠ []) : joinL r = [] ↔ r = [] := by
  cases r with
  | nil => exact ⟨fun _ => rfl, fun _ => rfl⟩
  | cons y r =>
    refine ⟨fun h9 => ?_, fun h9 => by cases h9⟩
    unfold joinL at h9
    exact absurd (List.append_eq_nil_iff.1 h9).1 (h y (List.mem_cons_self))
theorem rowsA_ne : ∀ (ns : List ByteArray) (vs : List Tm), ∀ x ∈ rowsA ns vs, x ≠ []
  | [], _, x, h => by simp [rowsA] at h
  | _ :: _, [], x, h => by simp [rowsA] at h
  | n :: ns, v :: vs, x, h => by
    simp only [rowsA] at h
    split at h
    · exact rowsA_ne ns vs x h
    · rcases List.mem_cons.1 h with rfl | h
      · simp
      · exact rowsA_ne ns vs x h
end Go.Proofs.YtanhhihechakhaaGreatDoor.WrP
set_option linter.unusedVariables false
set_option linter.unusedSimpArgs false
namespace Go.Proofs.YtanhhihechakhaaGreatDoor
open Go.RowKit Go.Proofs.YtanhhihechakhaaGreatDoor.E Go.Proofs.YtanhhihechakhaaGreatDoor.ReplP Go.Proofs.YtanhhihechakhaaGreatDoor.TokP Go.Proofs.YtanhhihechakhaaGreatDoor.TermP Go.Proofs.YtanhhihechakhaaGreatDoor.WrP
theorem bsz (l : List UInt8) : (⟨l.toArray⟩ : ByteArray).size = l.length := rfl
theorem bdl (l : List UInt8) : (⟨l.toArray⟩ : ByteArray).data.toList = l := rfl
theorem quoteB_q (s : ByteArray) : quoteB s (plainB s.data.toList) = ⟨(qL s).toArray⟩ := by
  unfold quoteB qL quoteL
  split
  · exact (ba_eta s).symm
  · apply ByteArray.ext
    simp
set_option maxRecDepth 100000 in
theorem fig_c (n : Int) (h : Hp) (h0 : -9223372036854775808 ≤ n) (h1 : n ≤ 9223372036854775807) (ht : Tab10 h) : C0 Tryz.prog 46 [.int .i64 n] h (.string ⟨(Lib.itoa n).toArray⟩) := by
  refine enter0 Tryz.func46 rfl rfl rfl (fun w => ?_)
  refine cy_seq ?_
  refine cy_region ?_
  refine sy_assign rfl rfl rfl ?_
  refine sy_nil rfl ?_
  refine ny_next ?_
  refine cy_seq ?_
  refine cy_region ?_
  refine sy_move rfl rfl rfl ?_
  refine sy_call rfl call_62 rfl (fmt_c n _ h0 h1 ht) rfl rfl ?_
  refine sy_assign rfl rfl rfl ?_
  refine sy_nil rfl ?_
  refine ny_next ?_
  refine cy_ret ?_
  refine ny_finR (res1 rfl rfl) (fun w hs => ⟨?_, hs.frm⟩)
  rfl
set_option maxRecDepth 100000 in
theorem name_c (t : GT) (h : Hp) (hs : t.s.size ≤ 140737488355328) (hk : t.kids.length ≤ 9223372036854775807) : C0 Tryz.prog 47 [.agg (GT.cells t).toArray] h (.string ⟨(nmL t.s t.kids.length).toArray⟩) := by
  show C0 Tryz.prog 47 [.agg #[.int .i64 t.k, .int .i64 t.n, .string t.s, .slice t.A t.kids.length t.c]] h _
  refine enter0 Tryz.func47 rfl rfl rfl (fun w => ?_)
  refine cy_seq ?_
  refine cy_region ?_
  refine sy_box rfl rfl rfl rfl (fun b1 hb1 hM1 => ?_) (by simp)
  refine sy_assign rfl rfl rfl ?_
  refine sy_nil rfl ?_
  refine ny_next ?_
  refine cy_seq ?_
  refine cy_seq ?_
  refine cy_region ?_
  refine sy_field fld_24_2 rfl rfl rfl ?_
  first | refine sy_ldr 0 one_9 rfl rfl rfl rfl rfl ?_ | refine sy_ldr 1 one_9 rfl rfl rfl rfl rfl ?_
  refine sy_eqs rfl rfl rfl rfl ?_
  refine sy_move rfl rfl rfl ?_
  refine sy_cond (d := 6) _ rfl rfl (fun hg6 => ?_) (fun hg6 => ?_)
  · refine sy_field fld_24_3 rfl rfl rfl ?_
    first | refine sy_ldr 0 one_22 rfl rfl rfl rfl rfl ?_ | refine sy_ldr 1 one_22 rfl rfl rfl rfl rfl ?_
    refine sy_len rfl (len_slice Tryz.underlying22 _ _ _) rfl rfl ?_
    refine sy_cmp rfl rfl rfl rfl rfl ?_
    refine sy_pickT rfl rfl rfl rfl ?_
    refine sy_nil rfl ?_
    refine ny_next ?_
    refine cy_cond rfl (fun hc11 => ?_) (fun hc11 => ?_)
    · refine cy_seq ?_
      refine cy_region ?_
      refine sy_assign rfl rfl rfl ?_
      refine sy_nil rfl ?_
      refine ny_next ?_
      refine cy_ret ?_
      refine ny_thenR ?_
      refine ny_finR (res1 rfl rfl) (fun w hs2 => ⟨?_, hs2.frm⟩)
      refine congrArg (fun l : List UInt8 => Ending.returned (Value.string ⟨l.toArray⟩)) ?_
      unfold nmL
      have h6 : t.s = brL := ba_inj (eq_of_beq hg6)
      have h11 : 0 < t.kids.length := by have := of_decide_eq_true hc11; omega
      rw [if_pos ⟨h6, h11⟩]
    · refine cy_skip ?_
      refine ny_next ?_
      refine cy_seq ?_
      refine cy_region ?_
      refine sy_field fld_24_2 rfl rfl rfl ?_
      first | refine sy_ldr 0 one_9 rfl rfl rfl rfl rfl ?_ | refine sy_ldr 1 one_9 rfl rfl rfl rfl rfl ?_
      refine sy_call rfl call_63 rfl (quote_c t.s _ _ hs (fun h => plain_c t.s h hs)) rfl rfl ?_
      rw [quoteB_q]
      refine sy_assign rfl rfl rfl ?_
      refine sy_nil rfl ?_
      refine ny_next ?_
      refine cy_ret ?_
      refine ny_finR (res1 rfl rfl) (fun w hs2 => ⟨?_, hs2.frm⟩)
      refine congrArg (fun l : List UInt8 => Ending.returned (Value.string ⟨l.toArray⟩)) ?_
      unfold nmL
      rw [if_neg]
      rintro ⟨h6, h11⟩
      first | (rw [h6] at hg6; exact absurd hg6 (by decide)) | (have := of_decide_eq_false hc11; omega)
  · refine sy_skip rfl rfl rfl ?_
    refine sy_skip rfl rfl rfl ?_
    refine sy_skip rfl rfl rfl ?_
    refine sy_skip rfl rfl rfl ?_
    refine sy_pickF rfl rfl rfl rfl ?_
    refine sy_nil rfl ?_
    refine ny_next ?_
    refine cy_condF rfl ?_
    refine cy_skip ?_
    refine ny_next ?_
    refine cy_seq ?_
    refine cy_region ?_
    refine sy_field fld_24_2 rfl rfl rfl ?_
    first | refine sy_ldr 0 one_9 rfl rfl rfl rfl rfl ?_ | refine sy_ldr 1 one_9 rfl rfl rfl rfl rfl ?_
    refine sy_call rfl call_63 rfl (quote_c t.s _ _ hs (fun h => plain_c t.s h hs)) rfl rfl ?_
    rw [quoteB_q]
    refine sy_assign rfl rfl rfl ?_
    refine sy_nil rfl ?_
    refine ny_next ?_
    refine cy_ret ?_
    refine ny_finR (res1 rfl rfl) (fun w hs2 => ⟨?_, hs2.frm⟩)
    refine congrArg (fun l : List UInt8 => Ending.returned (Value.string ⟨l.toArray⟩)) ?_
    unfold nmL
    rw [if_neg]
    rintro ⟨h6, h11⟩
    first | (rw [h6] at hg6; exact absurd hg6 (by decide)) | (have := of_decide_eq_false hc11; omega)
set_option maxRecDepth 100000 in
theorem write_c (b : Nat) (t : GT) : ∀ (h : Hp) (p v : Value) (xs : List UInt8), Lies h t → Fits t → Tab10 h → PSt b p → xs.length + (txt t.tm).length ≤ 70368744177600 → CR Tryz.prog 30 [.agg (GT.cells t).toArray, .func (.func 31) #[.pointer (some ⟨b, 0, none⟩)] #[]] h [.blk b (.cells [p, v].toArray 53 (0, 0)), .row v 5 1 (xs).length (bvs (xs))] (fun _ : Value => .returned (.tuple #[])) (fun v' h' H' => H' = [.blk b (.cells [.pointer (some ⟨b, 0, none⟩), v'].toArray 53 (0, 0)), .row v' 5 1 (xs ++ txt t.tm).length (bvs (xs ++ txt t.tm))]) := by
  induction t using GT.ind
  rename_i tk tn ts tA tc kids ih
  intro h p v xs hl hf ht hp hz
  have hroom := hf.room
  have sz1 : ∀ a : UInt8, (⟨#[a]⟩ : ByteArray).size = 1 := fun _ => rfl
  have sz2 : ∀ a c : UInt8, (⟨#[a, c]⟩ : ByteArray).size = 2 := fun _ _ => rfl
  have dl1 : ∀ a : UInt8, (⟨#[a]⟩ : ByteArray).data.toList = [a] := fun _ => rfl
  show CR Tryz.prog 30 [.agg #[.int .i64 tk, .int .i64 tn, .string ts, .slice tA kids.length tc], .func (.func 31) #[.pointer (some ⟨b, 0, none⟩)] #[]] h _ _ _
  refine enterR Tryz.func30 rfl rfl rfl (fun w hb0 => ?_)
  refine cy_seq ?_
  refine cy_region ?_
  refine sy_box rfl rfl rfl rfl (fun b2 hb2 hM2 => ?_) hb0
  refine sy_nil rfl ?_
  refine ny_next ?_
  refine cy_block ?_
  refine cy_seq ?_
  refine cy_frz 0 rfl hM2 (fun h1 hle1 hbx => ?_)
  replace hl := hl.le hle1
  replace ht := ht.le hle1
  have hr := hl.rows
  have hil := itoa_len hf.nums.2.1.1 hf.nums.2.1.2
  have hns := hf.nums.2.2
  refine cy_region ?_
  refine sy_field fld_24_0 rfl rfl rfl ?_
  refine sy_ldh one_3 rfl (Hp.blk hbx 0 _ rfl) rfl rfl ?_
  refine sy_cmp rfl rfl rfl rfl rfl ?_
  refine sy_assign rfl rfl rfl ?_
  refine sy_nil rfl ?_
  refine ny_next ?_
  refine cy_cond rfl (fun hc8 => ?_) (fun hc8 => ?_)
  · have hk1 : tk = 1 := by simpa using hc8
    have htx : txt (GT.mk tk tn ts tA tc kids).tm = 95 :: Lib.itoa tn := by rw [GT.tm_mk]; exact txt_var (t := .mk _ _ _ _) hk1
    rw [htx] at hz
    rw [List.length_cons] at hz
    refine cy_region ?_
    refine sy_move rfl rfl rfl ?_
    refine sy_field fld_24_1 rfl rfl rfl ?_
    refine sy_ldh one_2 rfl (Hp.blk hbx 1 _ rfl) rfl rfl ?_
    refine sy_call rfl call_46 rfl (fig_c tn _ hf.nums.2.1.1 hf.nums.2.1.2 ht) rfl rfl ?_
    refine sy_cat rfl rfl (by first | omega | (simp only [ByteArray.size_append, bsz, ba_cat, bdl, dl1, List.length_append, List.length_cons, List.length_nil, sz1, sz2]; omega) | (simp [ByteArray.size_append, bsz, sz1, sz2]; done)) rfl rfl ?_
    refine sy_callbR1 [0, 0] call_31 rfl rfl rfl (writeString_c b _ _ _ _ _ hp (by first | omega | (simp only [ByteArray.size_append, bsz, ba_cat, bdl, dl1, List.length_append, List.length_cons, List.length_nil, sz1, sz2]; omega) | (simp [ByteArray.size_append, bsz, sz1, sz2]; done))) rfl rfl (fun v17 h17 H17 hx17 hle17 => ?_)
    obtain ⟨rfl, rfl⟩ := hx17
    refine sy_nil rfl ?_
    refine ny_blockN ?_
    have hE : xs ++ ((⟨#[95]⟩ : ByteArray) ++ ⟨(Lib.itoa tn).toArray⟩).data.toList = xs ++ txt (GT.mk tk tn ts tA tc kids).tm := by first | (rw [htx]; done) | (rw [htx]; simp; done)
    refine ny_fin (res0 rfl) (fun w hs => ⟨v17, _, _, rfl, ?_, hs⟩)
    rw [← hE]
    rfl
  · have hk1 : ¬ tk = 1 := by simpa using hc8
    refine cy_seq ?_
    refine cy_region ?_
    refine sy_field fld_24_0 rfl rfl rfl ?_
    refine sy_ldh one_3 rfl (Hp.blk hbx 0 _ rfl) rfl rfl ?_
    refine sy_cmp rfl rfl rfl rfl rfl ?_
    refine sy_assign rfl rfl rfl ?_
    refine sy_nil rfl ?_
    refine ny_next ?_
    refine cy_cond rfl (fun hc18 => ?_) (fun hc18 => ?_)
    · have hk2 : tk = 2 := by simpa using hc18
      have htx : txt (GT.mk tk tn ts tA tc kids).tm = Lib.itoa tn := by rw [GT.tm_mk]; exact txt_int (t := .mk _ _ _ _) hk2
      rw [htx] at hz
      refine cy_region ?_
      refine sy_move rfl rfl rfl ?_
      refine sy_field fld_24_1 rfl rfl rfl ?_
      refine sy_ldh one_2 rfl (Hp.blk hbx 1 _ rfl) rfl rfl ?_
      refine sy_call rfl call_46 rfl (fig_c tn _ hf.nums.2.1.1 hf.nums.2.1.2 ht) rfl rfl ?_
      refine sy_callbR1 [0, 0] call_31 rfl rfl rfl (writeString_c b _ _ _ _ _ hp (by first | omega | (simp only [ByteArray.size_append, bsz, ba_cat, bdl, dl1, List.length_append, List.length_cons, List.length_nil, sz1, sz2]; omega) | (simp [ByteArray.size_append, bsz, sz1, sz2]; done))) rfl rfl (fun v26 h26 H26 hx26 hle26 => ?_)
      obtain ⟨rfl, rfl⟩ := hx26
      refine sy_nil rfl ?_
      refine ny_blockN ?_
      have hE : xs ++ (⟨(Lib.itoa tn).toArray⟩ : ByteArray).data.toList = xs ++ txt (GT.mk tk tn ts tA tc kids).tm := by first | (rw [htx]; done) | (rw [htx]; simp; done)
      refine ny_fin (res0 rfl) (fun w hs => ⟨v26, _, _, rfl, ?_, hs⟩)
      rw [← hE]
      rfl
    · have hk2 : ¬ tk = 2 := by simpa using hc18
      refine cy_seq ?_
      refine cy_region ?_
      refine sy_field fld_24_0 rfl rfl rfl ?_
      refine sy_ldh one_3 rfl (Hp.blk hbx 0 _ rfl) rfl rfl ?_
      refine sy_cmp rfl rfl rfl rfl rfl ?_
      refine sy_move rfl rfl rfl ?_
      refine sy_cond (d := 31) _ rfl rfl (fun hg31 => ?_) (fun hg31 => ?_)
      · have hk3 : tk = 3 := by simpa using hg31
        refine sy_field fld_24_3 rfl rfl rfl ?_
        refine sy_ldh one_22 rfl (Hp.blk hbx 3 _ rfl) rfl rfl ?_
        refine sy_len rfl (len_slice Tryz.underlying22 _ _ _) rfl rfl ?_
        refine sy_cmp rfl rfl rfl rfl rfl ?_
        refine sy_pickT rfl rfl rfl rfl ?_
        refine sy_assign rfl rfl rfl ?_
        refine sy_nil rfl ?_
        refine ny_next ?_
        refine cy_cond rfl (fun hc27 => ?_) (fun hc27 => ?_)
        · have hk0 : kids.length = 0 := by have := eq_of_beq hc27; omega
          have htx : txt (GT.mk tk tn ts tA tc kids).tm = nmL ts kids.length := by rw [GT.tm_mk]; rw [txt_fun hk3, if_pos (by rw [List.length_map]; exact hk0), hk0, nm0]
          rw [htx] at hz
          refine cy_region ?_
          refine sy_move rfl rfl rfl ?_
          refine sy_ldah (vs := [.int .i64 tk, .int .i64 tn, .string ts, .slice tA kids.length tc]) agg_24 rfl rfl (Hp.blk hbx) rfl rfl ?_
          refine sy_call rfl call_47 rfl ((show C0 Tryz.prog 47 _ _ (.string ⟨(nmL ts kids.length).toArray⟩) from name_c (GT.mk tk tn ts tA tc kids) _ hns (by show kids.length ≤ _; omega))) rfl rfl ?_
          refine sy_callbR1 [0, 0] call_31 rfl rfl rfl (writeString_c b _ _ _ _ _ hp (by first | omega | (simp only [ByteArray.size_append, bsz, ba_cat, bdl, dl1, List.length_append, List.length_cons, List.length_nil, sz1, sz2]; omega) | (simp [ByteArray.size_append, bsz, sz1, sz2]; done))) rfl rfl (fun v40 h40 H40 hx40 hle40 => ?_)
          obtain ⟨rfl, rfl⟩ := hx40
          refine sy_nil rfl ?_
          refine ny_blockN ?_
          have hE : xs ++ (⟨(nmL ts kids.length).toArray⟩ : ByteArray).data.toList = xs ++ txt (GT.mk tk tn ts tA tc kids).tm := by first | (rw [htx]; done) | (rw [htx]; simp; done)
          refine ny_fin (res0 rfl) (fun w hs => ⟨v40, _, _, rfl, ?_, hs⟩)
          rw [← hE]
          rfl
        · have hk0 : ¬ kids.length = 0 := by
            intro h9
            rw [h9] at hc27
            simp at hc27
          have htx : txt (GT.mk tk tn ts tA tc kids).tm = nmL ts kids.length ++ [40] ++ txts (kids.map GT.tm) ++ [41] := by rw [GT.tm_mk]; rw [txt_fun hk3, if_neg (by rw [List.length_map]; exact hk0), List.length_map]
          rw [htx] at hz
          simp only [List.length_append, List.length_cons, List.length_nil] at hz
          refine cy_seq ?_
          refine cy_region ?_
          refine sy_field fld_24_0 rfl rfl rfl ?_
          refine sy_ldh one_3 rfl (Hp.blk hbx 0 _ rfl) rfl rfl ?_
          refine sy_cmp rfl rfl rfl rfl rfl ?_
          refine sy_assign rfl rfl rfl ?_
          refine sy_setT (d := 41) rfl rfl hg31 ?_
          refine sy_nil rfl ?_
          refine ny_next ?_
          refine cy_condT rfl ?_
          refine cy_seq ?_
          refine cy_region ?_
          refine sy_move rfl rfl rfl ?_
          refine sy_ldah (vs := [.int .i64 tk, .int .i64 tn, .string ts, .slice tA kids.length tc]) agg_24 rfl rfl (Hp.blk hbx) rfl rfl ?_
          refine sy_call rfl call_47 rfl ((show C0 Tryz.prog 47 _ _ (.string ⟨(nmL ts kids.length).toArray⟩) from name_c (GT.mk tk tn ts tA tc kids) _ hns (by show kids.length ≤ _; omega))) rfl rfl ?_
          refine sy_cat rfl rfl (by first | omega | (simp only [ByteArray.size_append, bsz, ba_cat, bdl, dl1, List.length_append, List.length_cons, List.length_nil, sz1, sz2]; omega) | (simp [ByteArray.size_append, bsz, sz1, sz2]; done)) rfl rfl ?_
          refine sy_callbR1 [0, 0] call_31 rfl rfl rfl (writeString_c b _ _ _ _ _ hp (by first | omega | (simp only [ByteArray.size_append, bsz, ba_cat, bdl, dl1, List.length_append, List.length_cons, List.length_nil, sz1, sz2]; omega) | (simp [ByteArray.size_append, bsz, sz1, sz2]; done))) rfl rfl (fun v49 h49 H49 hx49 hle49 => ?_)
          obtain ⟨rfl, rfl⟩ := hx49
          refine sy_nil rfl ?_
          refine ny_next ?_
          refine cy_seq ?_
          refine cy_seq ?_
          refine cy_region ?_
          refine sy_field fld_24_3 rfl rfl rfl ?_
          refine sy_ldh one_22 rfl (Hp.blk hbx 3 _ rfl) rfl rfl ?_
          refine sy_len rfl (len_slice Tryz.underlying22 _ _ _) rfl rfl ?_
          refine sy_move rfl rfl rfl ?_
          refine sy_nil rfl ?_
          refine ny_next ?_
          refine cy_block ?_
          refine cy_loopK (ι := Nat × Value × Hp) [1, 51, 52] rfl (fun z => z.1 ≤ kids.length ∧ h1.Le z.2.2) (fun z => kids.length - z.1) (fun z => [(53, .int .i64 (z.1 : Int))]) (fun z => z.2.2) (fun z => [.blk b (.cells [.pointer (some ⟨b, 0, none⟩), z.2.1].toArray 53 (0, 0)), .row z.2.1 5 1 (xs ++ (⟨(nmL ts kids.length).toArray⟩ ++ ⟨#[40]⟩ : ByteArray).data.toList ++ (txts ((kids.take z.1).map GT.tm))).length (bvs (xs ++ (⟨(nmL ts kids.length).toArray⟩ ++ ⟨#[40]⟩ : ByteArray).data.toList ++ (txts ((kids.take z.1).map GT.tm))))]) (0, v49, h1) [0, 0] ⟨Nat.zero_le _, Hp.Le.refl _⟩ ⟨rfl, trivial⟩ rfl (by rw [show xs ++ (⟨(nmL ts kids.length).toArray⟩ ++ ⟨#[40]⟩ : ByteArray).data.toList ++ (txts ((kids.take (0, v49, h1).1).map GT.tm)) = xs ++ (⟨(nmL ts kids.length).toArray⟩ ++ ⟨#[40]⟩ : ByteArray).data.toList from by rw [List.take_zero, List.map_nil, txts_nil, List.append_nil]]; rfl) ?_
          rintro ⟨i, vz, hzz⟩ ⟨hI, hlez⟩
          simp only at hI hlez ⊢
          have hlz := hl.le hlez
          have hrz := hlz.rows
          have htz := ht.le hlez
          have hm0 := txts_mono kids i
          refine cy_seq ?_
          refine cy_region ?_
          refine sy_cmp rfl rfl rfl rfl rfl ?_
          refine sy_nil rfl ?_
          refine ny_next ?_
          refine cy_seq ?_
          refine cy_cond rfl (fun hc54 => ?_) (fun hc54 => ?_)
          · have hlti : i < kids.length := by have := of_decide_eq_true hc54; omega
            refine cy_skip ?_
            refine ny_next ?_
            refine cy_seq ?_
            refine cy_block ?_
            refine cy_seq ?_
            refine cy_region ?_
            refine sy_move rfl rfl rfl ?_
            refine sy_idxR (fc := GT.cells) (es := kids) els_22 rfl rfl hrz rfl (by omega) rfl rfl (fun e56 b56 o56 he56 hA56 hc56 => ?_)
            have hsu := txts_succ he56
            have hm1 := txts_mono kids (i + 1)
            have hm2 := congrArg List.length hsu
            simp only [List.length_append] at hm2
            refine sy_ldah (vs := GT.cells e56) agg_24 rfl rfl hc56 rfl rfl ?_
            refine sy_alloc zer_24 rfl rfl (fun b5 hb5 hM5 => ?_) hb0
            refine sy_assign rfl rfl rfl ?_
            first | refine sy_stl 0 sz_24 rfl rfl rfl rfl rfl rfl rfl rfl ?_ | refine sy_stl 1 sz_24 rfl rfl rfl rfl rfl rfl rfl rfl ?_ | refine sy_stl 2 sz_24 rfl rfl rfl rfl rfl rfl rfl rfl ?_ | refine sy_stl 3 sz_24 rfl rfl rfl rfl rfl rfl rfl rfl ?_
            refine sy_nil rfl ?_
            refine ny_next ?_
            refine cy_seq ?_
            refine cy_seq ?_
            refine cy_region ?_
            refine sy_move rfl rfl rfl ?_
            refine sy_cmp rfl rfl rfl rfl rfl ?_
            refine sy_nil rfl ?_
            refine ny_next ?_
            refine cy_cond rfl (fun hc59 => ?_) (fun hc59 => ?_)
            · have hi0 : ¬ i = 0 := by have := of_decide_eq_true hc59; omega
              rw [if_neg hi0, List.length_cons, List.length_nil] at hm2
              refine cy_region ?_
              refine sy_move rfl rfl rfl ?_
              refine sy_callbR1 [1, 1] call_31 rfl rfl rfl (writeString_c b _ _ _ _ _ (.inr rfl) (by first | omega | (simp only [ByteArray.size_append, bsz, ba_cat, bdl, dl1, List.length_append, List.length_cons, List.length_nil, sz1, sz2]; omega) | (simp [ByteArray.size_append, bsz, sz1, sz2]; done))) rfl rfl (fun v61 h61 H61 hx61 hle61 => ?_)
              obtain ⟨rfl, rfl⟩ := hx61
              refine sy_nil rfl ?_
              refine ny_next ?_
              refine cy_region ?_
              first | refine sy_ldar 0 agg_24 rfl rfl rfl rfl rfl ?_ | refine sy_ldar 1 agg_24 rfl rfl rfl rfl rfl ?_ | refine sy_ldar 2 agg_24 rfl rfl rfl rfl rfl ?_ | refine sy_ldar 3 agg_24 rfl rfl rfl rfl rfl ?_
              refine sy_move rfl rfl rfl ?_
              refine sy_callR1 [0, 0] call_30 rfl rfl (ih e56 (List.mem_of_getElem? he56) _ _ _ _ (hlz.at he56) (hf.at he56) htz (.inr rfl) (by first | omega | (simp only [ByteArray.size_append, bsz, ba_cat, bdl, dl1, List.length_append, List.length_cons, List.length_nil, sz1, sz2]; omega) | (simp [ByteArray.size_append, bsz, sz1, sz2]; done))) rfl rfl (fun v64 h64 H64 hx64 hle64 => ?_)
              subst hx64
              refine sy_nil rfl ?_
              refine ny_blockN ?_
              refine ny_next ?_
              refine cy_region ?_
              refine sy_addi (z := ((i + 1 : Nat) : Int)) rfl rfl (by omega) (by omega) (by omega) rfl rfl ?_
              refine sy_move rfl rfl rfl ?_
              refine sy_nil rfl ?_
              refine ny_roundK [1, 51, 52] (i + 1, v64, h64) [0, 0] ⟨(show i + 1 ≤ kids.length by omega), hlez.trans hle64⟩ (show kids.length - (i + 1) < kids.length - i by omega) rfl ⟨rfl, trivial⟩ rfl (by rw [show xs ++ (⟨(nmL ts kids.length).toArray⟩ ++ ⟨#[40]⟩ : ByteArray).data.toList ++ (txts ((kids.take (i + 1)).map GT.tm)) = xs ++ (⟨(nmL ts kids.length).toArray⟩ ++ ⟨#[40]⟩ : ByteArray).data.toList ++ (txts ((kids.take i).map GT.tm)) ++ (⟨#[44]⟩ : ByteArray).data.toList ++ txt e56.tm from by rw [hsu]; (first | (rw [if_neg (by omega)]; simp; done) | (rw [if_pos (by omega)]; simp; done))]; rfl)
            · have hi0 : i = 0 := by have := of_decide_eq_false hc59; omega
              rw [if_pos hi0, List.length_nil] at hm2
              refine cy_skip ?_
              refine ny_next ?_
              refine cy_region ?_
              first | refine sy_ldar 0 agg_24 rfl rfl rfl rfl rfl ?_ | refine sy_ldar 1 agg_24 rfl rfl rfl rfl rfl ?_ | refine sy_ldar 2 agg_24 rfl rfl rfl rfl rfl ?_ | refine sy_ldar 3 agg_24 rfl rfl rfl rfl rfl ?_
              refine sy_move rfl rfl rfl ?_
              refine sy_callR1 [1, 1] call_30 rfl rfl (ih e56 (List.mem_of_getElem? he56) _ _ _ _ (hlz.at he56) (hf.at he56) htz (.inr rfl) (by first | omega | (simp only [ByteArray.size_append, bsz, ba_cat, bdl, dl1, List.length_append, List.length_cons, List.length_nil, sz1, sz2]; omega) | (simp [ByteArray.size_append, bsz, sz1, sz2]; done))) rfl rfl (fun v64 h64 H64 hx64 hle64 => ?_)
              subst hx64
              refine sy_nil rfl ?_
              refine ny_blockN ?_
              refine ny_next ?_
              refine cy_region ?_
              refine sy_addi (z := ((i + 1 : Nat) : Int)) rfl rfl (by omega) (by omega) (by omega) rfl rfl ?_
              refine sy_move rfl rfl rfl ?_
              refine sy_nil rfl ?_
              refine ny_roundK [1, 51, 52] (i + 1, v64, h64) [0, 0] ⟨(show i + 1 ≤ kids.length by omega), hlez.trans hle64⟩ (show kids.length - (i + 1) < kids.length - i by omega) rfl ⟨rfl, trivial⟩ rfl (by rw [show xs ++ (⟨(nmL ts kids.length).toArray⟩ ++ ⟨#[40]⟩ : ByteArray).data.toList ++ (txts ((kids.take (i + 1)).map GT.tm)) = xs ++ (⟨(nmL ts kids.length).toArray⟩ ++ ⟨#[40]⟩ : ByteArray).data.toList ++ (txts ((kids.take i).map GT.tm)) ++ txt e56.tm from by rw [hsu]; (first | (rw [if_neg (by omega)]; simp; done) | (rw [if_pos (by omega)]; simp; done))]; rfl)
          · have hie : i = kids.length := by have := of_decide_eq_false hc54; omega
            subst hie
            refine cy_exit ?_
            refine ny_thenE ?_
            refine ny_thenE ?_
            refine ny_blockX ?_
            refine ny_next ?_
            have htk : kids.take kids.length = kids := List.take_length
            rw [htk] at hm0 ⊢
            refine cy_region ?_
            refine sy_move rfl rfl rfl ?_
            refine sy_callbR1 [0, 0] call_31 rfl rfl rfl (writeString_c b _ _ _ _ _ (.inr rfl) (by first | omega | (simp only [ByteArray.size_append, bsz, ba_cat, bdl, dl1, List.length_append, List.length_cons, List.length_nil, sz1, sz2]; omega) | (simp [ByteArray.size_append, bsz, sz1, sz2]; done))) rfl rfl (fun v67 h67 H67 hx67 hle67 => ?_)
            obtain ⟨rfl, rfl⟩ := hx67
            refine sy_nil rfl ?_
            refine ny_blockN ?_
            have hE : xs ++ (⟨(nmL ts kids.length).toArray⟩ ++ ⟨#[40]⟩ : ByteArray).data.toList ++ txts (kids.map GT.tm) ++ (⟨#[41]⟩ : ByteArray).data.toList = xs ++ txt (GT.mk tk tn ts tA tc kids).tm := by first | (rw [htx]; done) | (rw [htx]; simp; done)
            refine ny_fin (res0 rfl) (fun w hs => ⟨v67, _, _, rfl, ?_, hs⟩)
            rw [← hE]
            rfl
      · have hk3 : ¬ tk = 3 := by simpa using hg31
        refine sy_skip rfl rfl rfl ?_
        refine sy_skip rfl rfl rfl ?_
        refine sy_skip rfl rfl rfl ?_
        refine sy_skip rfl rfl rfl ?_
        refine sy_pickF rfl rfl rfl rfl ?_
        refine sy_assign rfl rfl rfl ?_
        refine sy_nil rfl ?_
        refine ny_next ?_
        refine cy_condF rfl ?_
        refine cy_seq ?_
        refine cy_region ?_
        refine sy_field fld_24_0 rfl rfl rfl ?_
        refine sy_ldh one_3 rfl (Hp.blk hbx 0 _ rfl) rfl rfl ?_
        refine sy_cmp rfl rfl rfl rfl rfl ?_
        refine sy_assign rfl rfl rfl ?_
        refine sy_setF (d := 41) rfl rfl hg31 ?_
        refine sy_nil rfl ?_
        refine ny_next ?_
        refine cy_condF rfl ?_
        refine cy_seq ?_
        refine cy_region ?_
        refine sy_field fld_24_0 rfl rfl rfl ?_
        refine sy_ldh one_3 rfl (Hp.blk hbx 0 _ rfl) rfl rfl ?_
        refine sy_cmp rfl rfl rfl rfl rfl ?_
        refine sy_move rfl rfl rfl ?_
        refine sy_cond (d := 72) _ rfl rfl (fun hg72 => ?_) (fun hg72 => ?_)
        · have hk4 : tk = 4 := by simpa using hg72
          refine sy_field fld_24_3 rfl rfl rfl ?_
          refine sy_ldh one_22 rfl (Hp.blk hbx 3 _ rfl) rfl rfl ?_
          refine sy_len rfl (len_slice Tryz.underlying22 _ _ _) rfl rfl ?_
          refine sy_cmp rfl rfl rfl rfl rfl ?_
          refine sy_pickT rfl rfl rfl rfl ?_
          refine sy_assign rfl rfl rfl ?_
          refine sy_nil rfl ?_
          refine ny_next ?_
          refine cy_cond rfl (fun hc68 => ?_) (fun hc68 => ?_)
          · have hk0 : kids.length = 1 := by have := eq_of_beq hc68; omega
            have htx : txt (GT.mk tk tn ts tA tc kids).tm = [64, 40] ++ txts (kids.map GT.tm) ++ [44] ++ Lib.itoa tn ++ [41] := by rw [GT.tm_mk]; exact txt_seal hk4 (by rw [List.length_map]; exact hk0)
            rw [htx] at hz
            simp only [List.length_append, List.length_cons, List.length_nil] at hz
            refine cy_seq ?_
            refine cy_region ?_
            refine sy_move rfl rfl rfl ?_
            refine sy_callbR1 [0, 0] call_31 rfl rfl rfl (writeString_c b _ _ _ _ _ hp (by first | omega | (simp only [ByteArray.size_append, bsz, ba_cat, bdl, dl1, List.length_append, List.length_cons, List.length_nil, sz1, sz2]; omega) | (simp [ByteArray.size_append, bsz, sz1, sz2]; done))) rfl rfl (fun v79 h79 H79 hx79 hle79 => ?_)
            obtain ⟨rfl, rfl⟩ := hx79
            refine sy_nil rfl ?_
            refine ny_next ?_
            refine cy_seq ?_
            refine cy_region ?_
            refine sy_field fld_24_3 rfl rfl rfl ?_
            refine sy_ldh one_22 rfl (Hp.blk hbx 3 _ rfl) rfl rfl ?_
            refine sy_idxR (i := 0) (fc := GT.cells) (es := kids) els_22 rfl rfl hr rfl (by omega) rfl rfl (fun e82 b82 o82 he82 hA82 hc82 => ?_)
            have hke : kids.map GT.tm = [e82.tm] := by
              match kids, hk0, he82 with
              | [x], _, he => have := Option.some.inj he; rw [this]; rfl
            rw [hke, txts_one] at htx hz
            refine sy_ldah (vs := GT.cells e82) agg_24 rfl rfl hc82 rfl rfl ?_
            refine sy_move rfl rfl rfl ?_
            refine sy_callR1 [0, 0] call_30 rfl rfl (ih e82 (List.mem_of_getElem? he82) _ _ _ _ (hl.at he82) (hf.at he82) ht (.inr rfl) (by first | omega | (simp only [ByteArray.size_append, bsz, ba_cat, bdl, dl1, List.length_append, List.length_cons, List.length_nil, sz1, sz2]; omega) | (simp [ByteArray.size_append, bsz, sz1, sz2]; done))) rfl rfl (fun v85 h85 H85 hx85 hle85 => ?_)
            subst hx85
            replace hbx := hle85 _ _ hbx
            replace ht := ht.le hle85
            refine sy_nil rfl ?_
            refine ny_next ?_
            refine cy_region ?_
            refine sy_move rfl rfl rfl ?_
            refine sy_field fld_24_1 rfl rfl rfl ?_
            refine sy_ldh one_2 rfl (Hp.blk hbx 1 _ rfl) rfl rfl ?_
            refine sy_call rfl call_46 rfl (fig_c tn _ hf.nums.2.1.1 hf.nums.2.1.2 ht) rfl rfl ?_
            refine sy_cat rfl rfl (by first | omega | (simp only [ByteArray.size_append, bsz, ba_cat, bdl, dl1, List.length_append, List.length_cons, List.length_nil, sz1, sz2]; omega) | (simp [ByteArray.size_append, bsz, sz1, sz2]; done)) rfl rfl ?_
            refine sy_cat rfl rfl (by first | omega | (simp only [ByteArray.size_append, bsz, ba_cat, bdl, dl1, List.length_append, List.length_cons, List.length_nil, sz1, sz2]; omega) | (simp [ByteArray.size_append, bsz, sz1, sz2]; done)) rfl rfl ?_
            refine sy_callbR1 [0, 0] call_31 rfl rfl rfl (writeString_c b _ _ _ _ _ (.inr rfl) (by first | omega | (simp only [ByteArray.size_append, bsz, ba_cat, bdl, dl1, List.length_append, List.length_cons, List.length_nil, sz1, sz2]; omega) | (simp [ByteArray.size_append, bsz, sz1, sz2]; done))) rfl rfl (fun v92 h92 H92 hx92 hle92 => ?_)
            obtain ⟨rfl, rfl⟩ := hx92
            refine sy_nil rfl ?_
            refine ny_blockN ?_
            have hE : xs ++ (⟨#[64, 40]⟩ : ByteArray).data.toList ++ txt e82.tm ++ ((⟨#[44]⟩ : ByteArray) ++ ⟨(Lib.itoa tn).toArray⟩ ++ ⟨#[41]⟩).data.toList = xs ++ txt (GT.mk tk tn ts tA tc kids).tm := by first | (rw [htx]; done) | (rw [htx]; simp; done)
            refine ny_fin (res0 rfl) (fun w hs => ⟨v92, _, _, rfl, ?_, hs⟩)
            rw [← hE]
            rfl
          · have hk0 : ¬ kids.length = 1 := by
              intro h9
              rw [h9] at hc68
              simp at hc68
            have htx : txt (GT.mk tk tn ts tA tc kids).tm = [63] := by rw [GT.tm_mk]; exact txt_else hk1 hk2 hk3 (fun h9 => hk0 (by have := h9.2; rwa [List.length_map] at this))
            rw [htx] at hz
            refine cy_region ?_
            refine sy_move rfl rfl rfl ?_
            refine sy_callbR1 [0, 0] call_31 rfl rfl rfl (writeString_c b _ _ _ _ _ hp (by first | omega | (simp only [ByteArray.size_append, bsz, ba_cat, bdl, dl1, List.length_append, List.length_cons, List.length_nil, sz1, sz2]; omega) | (simp [ByteArray.size_append, bsz, sz1, sz2]; done))) rfl rfl (fun v7 h7 H7 hx7 hle7 => ?_)
            obtain ⟨rfl, rfl⟩ := hx7
            refine sy_nil rfl ?_
            refine ny_blockN ?_
            have hE : xs ++ (⟨#[63]⟩ : ByteArray).data.toList = xs ++ txt (GT.mk tk tn ts tA tc kids).tm := by first | (rw [htx]; done) | (rw [htx]; simp; done)
            refine ny_fin (res0 rfl) (fun w hs => ⟨v7, _, _, rfl, ?_, hs⟩)
            rw [← hE]
            rfl
        · have hk4 : ¬ tk = 4 := by simpa using hg72
          have htx : txt (GT.mk tk tn ts tA tc kids).tm = [63] := by rw [GT.tm_mk]; exact txt_else hk1 hk2 hk3 (fun h9 => hk4 h9.1)
          rw [htx] at hz
          refine sy_skip rfl rfl rfl ?_
          refine sy_skip rfl rfl rfl ?_
          refine sy_skip rfl rfl rfl ?_
          refine sy_skip rfl rfl rfl ?_
          refine sy_pickF rfl rfl rfl rfl ?_
          refine sy_assign rfl rfl rfl ?_
          refine sy_nil rfl ?_
          refine ny_next ?_
          refine cy_condF rfl ?_
          refine cy_region ?_
          refine sy_move rfl rfl rfl ?_
          refine sy_callbR1 [0, 0] call_31 rfl rfl rfl (writeString_c b _ _ _ _ _ hp (by first | omega | (simp only [ByteArray.size_append, bsz, ba_cat, bdl, dl1, List.length_append, List.length_cons, List.length_nil, sz1, sz2]; omega) | (simp [ByteArray.size_append, bsz, sz1, sz2]; done))) rfl rfl (fun v7 h7 H7 hx7 hle7 => ?_)
          obtain ⟨rfl, rfl⟩ := hx7
          refine sy_nil rfl ?_
          refine ny_blockN ?_
          have hE : xs ++ (⟨#[63]⟩ : ByteArray).data.toList = xs ++ txt (GT.mk tk tn ts tA tc kids).tm := by first | (rw [htx]; done) | (rw [htx]; simp; done)
          refine ny_fin (res0 rfl) (fun w hs => ⟨v7, _, _, rfl, ?_, hs⟩)
          rw [← hE]
          rfl
end Go.Proofs.YtanhhihechakhaaGreatDoor
set_option linter.unusedVariables false
set_option linter.unusedSimpArgs false
namespace Go.Proofs.YtanhhihechakhaaGreatDoor.E
open Go.RowKit
section
variable {m : Md} {P : Program} {ops : Array Oper} {Q : Exit → Act → World → Prop} {n : Nat} {D : List Deferred} {w0 : World} {M : List Nat} {h0 : Hp}
variable {f : Tab} {h : Hp} {H : List Res} {rest : List Oper} {o : Oper}
/-- a named result that lies in a block of its own -/
theorem rescS {fn : Func} {t ty e l : Nat} {fr : Nat × Nat} {b : Nat} {cs vs : List Value} {H1 : List Res} (i : Nat) (hr : fn.results = #[.cell t ty]) (hty : aggB P ty l = true) (hv : f.get t = some (.pointer (some ⟨b, 0, none⟩)))
    (hp : pickR i H = some (.blk b (.cells cs.toArray e fr), H1)) (hc : sliceO 0 l cs = some vs) :
    ∀ a w, Holds n [] f a → St w0 M h0 h H w → (results fn a.tmps).run P w = .ok (.agg vs.toArray) w := fun a w ha hs => by
  have h1 := ha.get t _ hv
  have hb : w.heap[b]? = some (.cells cs.toArray e fr) := (hs.swap (pickR_perm hp)).ok _ (List.mem_cons_self)
  obtain ⟨h5, h6⟩ := agg_spec hty w
  obtain ⟨h7, h8⟩ := sliceO_spec hc
  subst h7
  have h3 := run_loadCells_list (P := P) w ⟨b, 0, none⟩ vs (fun j u hj => by
    rw [Addr.add_at]
    have := h8 j u hj
    simp only [Nat.zero_add] at this ⊢
    simp [World.cell?, hb, this])
  simp [results, hr, h1, asAddr, loadVar, h5, h6, h3]
end
theorem one_len {l : Nat} : ((l : Int) == 1) = decide (l = 1) := by
  rw [Bool.eq_iff_iff]
  simp
  omega
end Go.Proofs.YtanhhihechakhaaGreatDoor.E
set_option linter.unusedVariables false
set_option linter.unusedSimpArgs false
namespace Go.Proofs.YtanhhihechakhaaGreatDoor
open Go.RowKit Go.Proofs.YtanhhihechakhaaGreatDoor.E Go.Proofs.YtanhhihechakhaaGreatDoor.ReplP Go.Proofs.YtanhhihechakhaaGreatDoor.TokP Go.Proofs.YtanhhihechakhaaGreatDoor.TermP Go.Proofs.YtanhhihechakhaaGreatDoor.WrP
set_option maxRecDepth 100000 in
theorem text_c (t : GT) (h : Hp) (hl : Lies h t) (hf : Fits t) (ht : Tab10 h) (hz : (txt t.tm).length ≤ 70368744177600) : C0 Tryz.prog 13 [.agg (GT.cells t).toArray] h (.string ⟨(txt t.tm).toArray⟩) := by
  show C0 Tryz.prog 13 [.agg #[.int .i64 t.k, .int .i64 t.n, .string t.s, .slice t.A t.kids.length t.c]] h _
  refine enter0 Tryz.func13 rfl rfl rfl (fun w => ?_)
  refine cy_seq ?_
  refine cy_region ?_
  refine sy_box rfl rfl rfl rfl (fun b1 hb1 hM1 => ?_) (by simp)
  refine sy_assign rfl rfl rfl ?_
  refine sy_nil rfl ?_
  refine ny_next ?_
  refine cy_seq ?_
  refine cy_region ?_
  refine sy_alloc zer_53 rfl rfl (fun b3 hb3 hM3 => ?_) (by simp)
  refine sy_nil rfl ?_
  refine ny_next ?_
  refine cy_seq ?_
  refine cy_nilRow 5 1 ?_
  refine cy_region ?_
  first | refine sy_ldar 0 agg_24 rfl rfl rfl rfl rfl ?_ | refine sy_ldar 1 agg_24 rfl rfl rfl rfl rfl ?_ | refine sy_ldar 2 agg_24 rfl rfl rfl rfl rfl ?_
  refine sy_bind (s := 0) rfl rfl rfl rfl ?_
  refine sy_callR1 [1, 0] call_30 rfl rfl (write_c b3 t _ _ _ [] hl hf ht (.inl rfl) (by rw [List.length_nil, Nat.zero_add]; exact hz)) rfl rfl (fun v6 h6 H6 hx6 hle6 => ?_)
  subst hx6
  refine sy_frz 0 rfl (by simp) (fun h7 hle7 hb7 => ?_)
  refine sy_nil rfl ?_
  refine ny_next ?_
  refine cy_seq ?_
  refine cy_region ?_
  have hne : txt t.tm ≠ [] := txt_ne t.tm
  refine sy_callR1 [0] call_32 rfl rfl (string_c b3 _ _ _ _ hb7 (by rw [List.nil_append]; exact hne)) rfl rfl (fun v8 h8 H8 hx8 hle8 => ?_)
  obtain ⟨rfl, rfl⟩ := hx8
  refine sy_assign rfl rfl rfl ?_
  refine sy_nil rfl ?_
  refine ny_next ?_
  refine cy_ret ?_
  refine ny_finR (res1 rfl rfl) (fun w hs => ⟨?_, hs.frm⟩)
  rw [List.nil_append]
set_option maxRecDepth 100000 in
theorem num_c (n : Int) (h : Hp) : C0 Tryz.prog 24 [.int .i64 n] h (.agg (GT.cells (GT.mk 2 n ⟨#[]⟩ none 0 [])).toArray) := by
  refine enter0 Tryz.func24 rfl rfl rfl (fun w => ?_)
  refine cy_seq ?_
  refine cy_region ?_
  refine sy_alloc zer_24 rfl rfl (fun b2 hb2 hM2 => ?_) (by simp)
  refine sy_nil rfl ?_
  refine ny_next ?_
  refine cy_seq ?_
  refine cy_region ?_
  refine sy_move rfl rfl rfl ?_
  refine sy_build rfl (fun w => bld_24_0x1 w) rfl rfl ?_
  first | refine sy_stl 0 sz_24 rfl rfl rfl rfl rfl rfl rfl rfl ?_
  refine sy_nil rfl ?_
  refine ny_next ?_
  refine cy_ret ?_
  refine ny_finR (rescS 0 rfl agg_24 rfl rfl rfl) (fun w hs => ⟨rfl, hs.frm⟩)
set_option maxRecDepth 100000 in
theorem let_c (n : Int) (h : Hp) : C0 Tryz.prog 25 [.int .i64 n] h (.agg (GT.cells (GT.mk 1 n ⟨#[]⟩ none 0 [])).toArray) := by
  refine enter0 Tryz.func25 rfl rfl rfl (fun w => ?_)
  refine cy_seq ?_
  refine cy_region ?_
  refine sy_alloc zer_24 rfl rfl (fun b2 hb2 hM2 => ?_) (by simp)
  refine sy_nil rfl ?_
  refine ny_next ?_
  refine cy_seq ?_
  refine cy_region ?_
  refine sy_move rfl rfl rfl ?_
  refine sy_build rfl (fun w => bld_24_0x1 w) rfl rfl ?_
  first | refine sy_stl 0 sz_24 rfl rfl rfl rfl rfl rfl rfl rfl ?_
  refine sy_nil rfl ?_
  refine ny_next ?_
  refine cy_ret ?_
  refine ny_finR (rescS 0 rfl agg_24 rfl rfl rfl) (fun w hs => ⟨rfl, hs.frm⟩)
set_option maxRecDepth 100000 in
theorem clone0_c (h : Hp) : C0 Tryz.prog 43 [.slice none 0 0] h (.slice none 0 0) := by
  refine enter0 Tryz.func43 rfl rfl rfl (fun w => ?_)
  refine cy_seq ?_
  refine cy_region ?_
  refine sy_assign rfl rfl rfl ?_
  refine sy_nil rfl ?_
  refine ny_next ?_
  refine cy_seq ?_
  refine cy_seq ?_
  refine cy_region ?_
  refine sy_move rfl rfl rfl ?_
  refine sy_eqsl (b := true) Tryz.underlying22 rfl rfl rfl rfl ?_
  refine sy_setT (d := 4) rfl rfl rfl ?_
  refine sy_nil rfl ?_
  refine ny_next ?_
  refine cy_condT rfl ?_
  refine cy_seq ?_
  refine cy_region ?_
  refine sy_assign rfl rfl rfl ?_
  refine sy_nil rfl ?_
  refine ny_next ?_
  refine cy_ret ?_
  refine ny_thenR ?_
  refine ny_finR (res1 rfl rfl) (fun w hs => ⟨?_, hs.frm⟩)
  rfl
set_option maxRecDepth 100000 in
theorem make0_c (s : ByteArray) (h : Hp) : C0 Tryz.prog 22 [.string s, .slice none 0 0] h (.agg (GT.cells (GT.mk 3 0 s none 0 [])).toArray) := by
  refine enter0 Tryz.func22 rfl rfl rfl (fun w => ?_)
  refine cy_seq ?_
  refine cy_region ?_
  refine sy_alloc zer_24 rfl rfl (fun b4 hb4 hM4 => ?_) (by simp)
  refine sy_nil rfl ?_
  refine ny_next ?_
  refine cy_seq ?_
  refine cy_region ?_
  refine sy_move rfl rfl rfl ?_
  refine sy_move rfl rfl rfl ?_
  refine sy_call rfl call_43 rfl (clone0_c _) rfl rfl ?_
  refine sy_build rfl (fun w => bld_24_0x2x3 w) rfl rfl ?_
  first | refine sy_stl 0 sz_24 rfl rfl rfl rfl rfl rfl rfl rfl ?_
  refine sy_nil rfl ?_
  refine ny_next ?_
  refine cy_ret ?_
  refine ny_finR (rescS 0 rfl agg_24 rfl rfl rfl) (fun w hs => ⟨rfl, hs.frm⟩)
set_option maxRecDepth 100000 in
theorem atom_c (s : ByteArray) (h : Hp) : C0 Tryz.prog 23 [.string s] h (.agg (GT.cells (GT.mk 3 0 s none 0 [])).toArray) := by
  refine enter0 Tryz.func23 rfl rfl rfl (fun w => ?_)
  refine cy_seq ?_
  refine cy_region ?_
  refine sy_alloc zer_24 rfl rfl (fun b2 hb2 hM2 => ?_) (by simp)
  refine sy_nil rfl ?_
  refine ny_next ?_
  refine cy_seq ?_
  refine cy_region ?_
  refine sy_move rfl rfl rfl ?_
  refine sy_call rfl call_22 rfl (make0_c s _) rfl rfl ?_
  first | refine sy_stl 0 sz_24 rfl rfl rfl rfl rfl rfl rfl rfl ?_
  refine sy_nil rfl ?_
  refine ny_next ?_
  refine cy_ret ?_
  refine ny_finR (rescS 0 rfl agg_24 rfl rfl rfl) (fun w hs => ⟨rfl, hs.frm⟩)
set_option maxRecDepth 100000 in
theorem clone_c (A : Option Addr) (c : Nat) (kids : List GT) (h : Hp) (hA : A.isNone = false) (hr : RowsAt h A 4 (kids.map GT.cells)) (hb : kids.length ≤ 1048576) : CX Tryz.prog 43 [.slice A kids.length c] h (fun x : Option Addr × Nat => .slice x.1 kids.length x.2) (fun x h' => RowsAt h' x.1 4 (kids.map GT.cells) ∧ kids.length ≤ x.2) := by
  refine enterX Tryz.func43 rfl rfl rfl (fun w => ?_)
  refine cy_seq ?_
  refine cy_region ?_
  refine sy_assign rfl rfl rfl ?_
  refine sy_nil rfl ?_
  refine ny_next ?_
  refine cy_seq ?_
  refine cy_seq ?_
  refine cy_region ?_
  refine sy_move rfl rfl rfl ?_
  refine sy_eqsl (b := false) Tryz.underlying22 rfl (by rw [hA]) rfl rfl ?_
  refine sy_setF (d := 4) rfl rfl rfl ?_
  refine sy_nil rfl ?_
  refine ny_next ?_
  refine cy_condF rfl ?_
  refine cy_skip ?_
  refine ny_next ?_
  refine cy_seq ?_
  refine cy_region ?_
  refine sy_buildSlice (cs := []) rfl (fun w => bsl_22_0_ w) rfl rfl (fun b5 hb5 hM5 => ?_) (by simp)
  refine sy_asRow (l := 0) (sz := 4) (cs := []) 0 rfl rfl (Nat.zero_le _) ?_
  refine sy_move rfl rfl rfl ?_
  refine sy_appendh (news := (kids.map GT.cells).flatten) 0 row_22 (by decide) rfl rfl rfl (fun h9 => by rw [h9] at hA; cases hA) (by rw [flat_len (GT.cells_len _), List.length_map]) (hr.cells (by decide) (GT.cells_len _)) (GT.cells_ones _) (by omega) (by simp only [maxLen]; omega) rfl rfl (fun v7 => ?_)
  refine sy_frzRow 0 rfl (fun _ _ => by simp) (fun A7 c7 h7 hv7 hlc7 hcm7 _ hle7 hcell7 => ?_)
  rw [Nat.zero_add] at hv7 hlc7
  subst hv7
  rw [List.nil_append] at hcell7
  have hr7 : RowsAt h7 A7 4 (kids.map GT.cells) := rows_row (by decide) (GT.cells_len _) hcell7
  refine sy_assign rfl rfl rfl ?_
  refine sy_nil rfl ?_
  refine ny_next ?_
  refine cy_ret ?_
  exact ny_finR (res1 rfl rfl) (fun w hs => ⟨(A7, c7), h7, rfl, ⟨hr7, hlc7⟩, hs.toGrow⟩)
set_option maxRecDepth 100000 in
theorem make_c (s : ByteArray) (A : Option Addr) (c : Nat) (kids : List GT) (h : Hp) (hA : A.isNone = false) (hr : RowsAt h A 4 (kids.map GT.cells)) (hb : kids.length ≤ 1048576) : CX Tryz.prog 22 [.string s, .slice A kids.length c] h (fun x : Option Addr × Nat => .agg (GT.cells (GT.mk 3 0 s x.1 x.2 kids)).toArray) (fun x h' => RowsAt h' x.1 4 (kids.map GT.cells) ∧ kids.length ≤ x.2) := by
  refine enterX Tryz.func22 rfl rfl rfl (fun w => ?_)
  refine cy_seq ?_
  refine cy_region ?_
  refine sy_alloc zer_24 rfl rfl (fun b4 hb4 hM4 => ?_) (by simp)
  refine sy_nil rfl ?_
  refine ny_next ?_
  refine cy_seq ?_
  refine cy_region ?_
  refine sy_move rfl rfl rfl ?_
  refine sy_move rfl rfl rfl ?_
  refine sy_callx call_43 rfl (clone_c A c kids _ hA hr hb) rfl rfl (fun x7 h7 hx7 hle7 => ?_)
  obtain ⟨A7, c7⟩ := x7
  refine sy_build rfl (fun w => bld_24_0x2x3 w) rfl rfl ?_
  first | refine sy_stl 0 sz_24 rfl rfl rfl rfl rfl rfl rfl rfl ?_
  refine sy_nil rfl ?_
  refine ny_next ?_
  refine cy_ret ?_
  refine ny_finR (rescS 0 rfl agg_24 rfl rfl rfl) (fun w hs => ⟨(A7, c7), h7, rfl, hx7, hs.toGrow⟩)
end Go.Proofs.YtanhhihechakhaaGreatDoor
set_option linter.unusedVariables false
set_option linter.unusedSimpArgs false
namespace Go.Proofs.YtanhhihechakhaaGreatDoor.E
open Go.RowKit
theorem met_run {P : Program} {F t : Nat} {v recv r : Value} {name : String} {vs : Array Value} {w : World} (hm : (method (P.types.size + Made.depth) t v name).run P w = .ok (F, recv) w) (hr : (callFunc F (#[recv] ++ vs)).run P w = .ok (.value r) w) :
    (callMethod (.iface t v) name vs).run P w = .ok (.value r) w := by
  have hp : Sem.run P program w = .ok P w := rfl
  simp only [callMethod, Sem.run_bind, hp, Result.andThen_ok, hm, hr]
section
variable {m : Md} {P : Program} {ops : Array Oper} {Q : Exit → Act → World → Prop} {n : Nat} {D : List Deferred} {w0 : World} {M : List Nat} {h0 : Hp}
variable {f : Tab} {h : Hp} {H : List Res} {rest : List Oper} {o : Oper}
variable {d t s : Nat} {p : String} {af : Array Edge} {g : Option (Nat × Bool)} {F : Nat} {args : Array Operand} {tys : Array TypeId} {vs : List Value}
theorem sy_assert {x : Operand} {vx v : Value} {xT aT : TypeId} {ok : Bool} (hx : f.ev x = some vx) (hr : ∀ w, (Instr.typeAssert vx xT aT ok).run P w = .ok v w) (hw : gok ops f g = some true) (hn : Nat.blt d n = true)
    (k : Sy m P ops Q n D w0 M h0 rest ((d, v) :: f) h H) : Sy m P ops Q n D w0 M h0 (⟨some d, .typeAssert x xT aT ok, t, p, af, g⟩ :: rest) f h H :=
  sy_val hw rfl hn (fun a w ha _ => by simp [execOp, ha.ev hx, hr]) k
theorem sy_eqif {x y : Operand} {tx ty s2 : Nat} {vx vy : Value} {b : Bool} (hx : f.ev x = some (.iface tx vx)) (hy : f.ev y = some (.iface ty vy)) (hr : ∀ w, (binOp .eql s (.iface tx vx) (.iface ty vy)).run P w = .ok (.bool b) w) (hw : gok ops f g = some true) (hn : Nat.blt d n = true)
    (k : Sy m P ops Q n D w0 M h0 rest ((d, .bool b) :: f) h H) : Sy m P ops Q n D w0 M h0 (⟨some d, .binOp .eql s x y s2, t, p, af, g⟩ :: rest) f h H :=
  sy_val hw rfl hn (fun a w ha _ => by
    have hg : (eqGuard .eql s x y (.iface tx vx) (.iface ty vy)).run P w = .ok () w := by simp [eqGuard]
    simp [execOp, ha.ev hx, ha.ev hy, hg, hr]) k
theorem sy_exn {v : Nat → Value} {ob : Obj} (hx : f.evs args.toList = some vs) (hr : ∀ w, (callFunc F vs.toArray).run P w = .ok (.value (v w.heap.size)) (w.alloc ob)) (hw : gok ops f g = some true) (hn : Nat.blt d n = true)
    (k : ∀ b, w0.heap.size ≤ b → b ∉ M → Sy .txt P ops Q n D w0 M h0 rest ((d, v b) :: f) h (.blk b ob :: H)) (hM : ∀ x ∈ M, x < w0.heap.size) : Sy .txt P ops Q n D w0 M h0 (⟨some d, .call ⟨.value (.func F), args, tys⟩, t, p, af, g⟩ :: rest) f h H :=
  sy_op hw fun a w ha hs => by
    have h1 := map_evs ha hx
    have hrun : (execOp a.eval ⟨some d, .call ⟨.value (.func F), args, tys⟩, t, p, af, g⟩).run P w = .ok (.value (v w.heap.size)) (w.alloc ob) := by
      simp only [execOp, resolve, h1, Act.eval, Deferred.ofValue, Sem.run_bind, Sem.run_pure, Result.andThen_ok, invoke, Array.empty_append, Array.append_empty, hr w]
    unfold Oper.wp
    rw [hrun]
    exact k w.heap.size hs.frm.size (fun hx => by have := hM _ hx; have := hs.frm.size; omega) _ _ (ha.put d _ hn) (hs.alloc _)
/-- .. that writes one cell of an owned block, and reads what it likes -/
theorem sy_exw2 {v old new : Value} {b off e : Nat} {cs cs' : List Value} {H1 : List Res} (i : Nat) (hx : f.evs args.toList = some vs) (hp : pickR i H = some (.blk b (.cells cs.toArray e (0, 0)), H1)) (ho : cs[off]? = some old) (hc : cs.set off new = cs')
    (hr : ∀ w, St w0 M h0 h H w → w.cell? ⟨b, off, none⟩ = some old → w.frozen? ⟨b, off, none⟩ = false → (callFunc F vs.toArray).run P w = .ok (.value v) (w.setCell ⟨b, off, none⟩ new)) (hw : gok ops f g = some true) (hn : Nat.blt d n = true)
    (k : Sy .txt P ops Q n D w0 M h0 rest ((d, v) :: f) h (.blk b (.cells cs'.toArray e (0, 0)) :: H1)) : Sy .txt P ops Q n D w0 M h0 (⟨some d, .call ⟨.value (.func F), args, tys⟩, t, p, af, g⟩ :: rest) f h H :=
  sy_op hw fun a w ha hs => by
    have hs' := hs.swap (pickR_perm hp)
    have hb : w.heap[b]? = some (.cells cs.toArray e (0, 0)) := hs'.ok _ (List.mem_cons_self)
    have hcell : w.cell? ⟨b, off, none⟩ = some old := by simp [World.cell?, hb, ho]
    have hfz : w.frozen? ⟨b, off, none⟩ = false := by simp [World.frozen?, hb]
    have h1 := map_evs ha hx
    have hrun : (execOp a.eval ⟨some d, .call ⟨.value (.func F), args, tys⟩, t, p, af, g⟩).run P w = .ok (.value v) (w.setCell ⟨b, off, none⟩ new) := by
      simp only [execOp, resolve, h1, Act.eval, Deferred.ofValue, Sem.run_bind, Sem.run_pure, Result.andThen_ok, invoke, Array.empty_append, Array.append_empty, hr w hs hcell hfz]
    unfold Oper.wp
    rw [hrun]
    refine k _ _ (ha.put d _ hn) (hs'.write (o' := .cells cs'.toArray e (0, 0)) ⟨rfl, rfl, rfl, by simp [World.setCell], fun j hj hm => heap_setCell_other w ⟨b, off, none⟩ j new (by simpa using hm)⟩ ?_)
    rw [heap_setCell_same w b off cs.toArray e new hb, ← hc]
    simp
theorem St.cellQ {b off e : Nat} {cs : List Value} {fr : Nat × Nat} {v : Value} {H1 : List Res} {w : World} (i : Nat) (hp : pickR i H = some (.blk b (.cells cs.toArray e fr), H1)) (hc : cs[off]? = some v) (hs : St w0 M h0 h H w) : w.cell? ⟨b, off, none⟩ = some v := by
  have h1 : w.heap[b]? = some (.cells cs.toArray e fr) := (hs.swap (pickR_perm hp)).ok _ (List.mem_cons_self)
  simp [World.cell?, h1, hc]
theorem sy_invq {recv : Operand} {name : String} {vr v : Value} (hr : f.ev recv = some vr) (hx : f.evs args.toList = some vs) (hmeth : ∀ w, (callMethod vr name vs.toArray).run P w = .ok (.value v) w) (hw : gok ops f g = some true) (hn : Nat.blt d n = true)
    (k : Sy m P ops Q n D w0 M h0 rest ((d, v) :: f) h H) : Sy m P ops Q n D w0 M h0 (⟨some d, .call ⟨.invoke recv name, args, tys⟩, t, p, af, g⟩ :: rest) f h H :=
  sy_val hw rfl hn (fun a w ha _ => by
    have h1 := map_evs ha hx
    have h2 : (#[vr] ++ vs.toArray)[0]? = some vr := by simp
    have h3 : (#[vr] ++ vs.toArray).extract 1 (#[vr] ++ vs.toArray).size = vs.toArray := by
      apply Array.ext'
      simp
    simp only [execOp, resolve, h1, ha.ev hr, Sem.run_bind, Sem.run_pure, Result.andThen_ok, invoke, h2, h3, hmeth]) k
end
end Go.Proofs.YtanhhihechakhaaGreatDoor.E
set_option linter.unusedVariables false
set_option linter.unusedSimpArgs false
namespace Go.Proofs.YtanhhihechakhaaGreatDoor.E
open Go.RowKit
section
variable {m : Md} {P : Program} {ops : Array Oper} {Q : Exit → Act → World → Prop} {n : Nat} {D : List Deferred} {w0 : World} {M : List Nat} {h0 : Hp}
variable {f : Tab} {h : Hp} {H : List Res} {rest : List Oper} {o : Oper}
variable {d t s : Nat} {p : String} {af : Array Edge} {g : Option (Nat × Bool)}
theorem run_remt {a b z : Int} (h1 : 0 < b) (hb : b ≤ 9223372036854775807) (hz : a.tmod b = z) (w : World) : (binOp .rem s (.int .i64 a) (.int .i64 b)).run P w = .ok (.int .i64 z) w := by
  have h5 : ¬ b = 0 := by omega
  have h6 : ¬ b = -1 := by omega
  have h3 : -b < a.tmod b ∧ a.tmod b < b := by
    have e1 := Int.tmod_lt_of_pos a h1
    have e2 := Int.tmod_lt_of_pos (-a) h1
    rw [Int.neg_tmod] at e2
    omega
  subst hz
  simp [binOp, Op.intDiv, h5, IntWalk.i64_in (a.tmod b) ⟨by omega, by omega⟩]
/-- a remainder, with the sign of what is divided -/
theorem sy_remt {x y : Operand} {m1 m2 z : Int} {s2 : Nat} (hx : f.ev x = some (.int .i64 m1)) (hy : f.ev y = some (.int .i64 m2)) (h1 : 0 < m2) (hb : m2 ≤ 9223372036854775807) (hz : m1.tmod m2 = z) (hw : gok ops f g = some true) (hn : Nat.blt d n = true)
    (k : Sy m P ops Q n D w0 M h0 rest ((d, .int .i64 z) :: f) h H) : Sy m P ops Q n D w0 M h0 (⟨some d, .binOp .rem s x y s2, t, p, af, g⟩ :: rest) f h H :=
  sy_bin hx hy ⟨by simp, by simp⟩ (fun w => run_remt h1 hb hz w) hw hn k
theorem sy_conv8 {x : Operand} {i1 : IntKind} {mm : Int} {s2 : Nat} (hs : P.underlying s = some (.int i1)) (ht : P.underlying s2 = some (.int .u8)) (hx : f.ev x = some (.int i1 mm)) (hl : 0 ≤ mm) (hu : mm ≤ 255) (hw : gok ops f g = some true) (hn : Nat.blt d n = true)
    (k : Sy m P ops Q n D w0 M h0 rest ((d, .int .u8 mm) :: f) h H) : Sy m P ops Q n D w0 M h0 (⟨some d, .convert s s2 x, t, p, af, g⟩ :: rest) f h H :=
  sy_conv hs ht hx hw hn (by rw [IntWalk.u8_in mm ⟨hl, hu⟩]; exact k)
theorem sy_negi {x : Operand} {mm : Int} (hs : P.underlying s = some (.int .i64)) (hx : f.ev x = some (.int .i64 mm)) (hl : -9223372036854775807 ≤ mm) (hu : mm ≤ 9223372036854775807) (hw : gok ops f g = some true) (hn : Nat.blt d n = true)
    (k : Sy m P ops Q n D w0 M h0 rest ((d, .int .i64 (-mm)) :: f) h H) : Sy m P ops Q n D w0 M h0 (⟨some d, .unOp .neg s x, t, p, af, g⟩ :: rest) f h H :=
  sy_val hw rfl hn (fun a w ha _ => by simp [execOp, ha.ev hx, Op.unary, Op.intArith, IntWalk.i64_in (-mm) ⟨by omega, by omega⟩]) k
end
theorem ba_snoc (a : List UInt8) (u : UInt8) : (⟨a.toArray⟩ : ByteArray) ++ ⟨#[u]⟩ = ⟨(a ++ [u]).toArray⟩ := by
  apply ByteArray.ext
  simp
theorem dec_small {u : Nat} (h : u < 10) : Lib.decDigits u = [UInt8.ofNat (48 + u)] := by rw [Lib.decDigits, dif_pos h]
theorem dec_big {u : Nat} (h : ¬ u < 10) : Lib.decDigits u = Lib.decDigits (u / 10) ++ [UInt8.ofNat (48 + u % 10)] := by rw [Lib.decDigits, dif_neg h]
theorem dg_nat {k : Nat} (h : k < 10) : ((48 + k : Nat) : Int) = ((UInt8.ofNat (48 + k)).toNat : Int) := by
  rw [UInt8.toNat_ofNat_of_lt' (by show 48 + k < 256; omega)]
/-- x is negative: how it goes by tens -/
theorem neg_ten {x : Int} (h : x < 0) : x.tmod 10 = -((x.natAbs % 10 : Nat) : Int) ∧ x.tdiv 10 = -((x.natAbs / 10 : Nat) : Int) := by
  obtain ⟨k, hk⟩ : ∃ k : Nat, x = -(k : Int) := ⟨x.natAbs, by omega⟩
  subst hk
  have e1 : (-(k : Int)).natAbs = k := by simp
  rw [e1, Int.neg_tmod, Int.neg_tdiv]
  exact ⟨rfl, rfl⟩
theorem pos_ten {x : Int} (h : 0 ≤ x) : x.tmod 10 = ((x.natAbs % 10 : Nat) : Int) ∧ x.tdiv 10 = ((x.natAbs / 10 : Nat) : Int) := by
  obtain ⟨k, rfl⟩ := Int.eq_ofNat_of_zero_le h
  exact ⟨rfl, rfl⟩
theorem itoa_n1 {x : Int} (h : x < 0) (h1 : -10 < x) : (⟨#[45]⟩ : ByteArray) ++ ⟨#[UInt8.ofNat (48 + x.natAbs % 10)]⟩ = ⟨(Lib.itoa x).toArray⟩ := by
  unfold Lib.itoa
  rw [if_pos h, dec_small (by omega), Nat.mod_eq_of_lt (by omega)]
  exact ba_snoc [45] _
theorem itoa_nR {x : Int} (h : x < 0) (h1 : ¬ -10 < x) : (⟨(Lib.itoa (x.tdiv 10)).toArray⟩ : ByteArray) ++ ⟨#[UInt8.ofNat (48 + x.natAbs % 10)]⟩ = ⟨(Lib.itoa x).toArray⟩ := by
  have e := (neg_ten h).2
  rw [e, ba_snoc]
  unfold Lib.itoa
  have e2 : (-((x.natAbs / 10 : Nat) : Int)).natAbs = x.natAbs / 10 := by rw [Int.natAbs_neg]; rfl
  rw [if_pos h, if_pos (by omega), dec_big (u := x.natAbs) (by omega), e2]
  rfl
theorem itoa_p1 {x : Int} (h : 0 ≤ x) (h1 : x < 10) : (⟨#[UInt8.ofNat (48 + x.natAbs)]⟩ : ByteArray) = ⟨(Lib.itoa x).toArray⟩ := by
  unfold Lib.itoa
  rw [if_neg (by omega), dec_small (by omega)]
  obtain ⟨k, rfl⟩ := Int.eq_ofNat_of_zero_le h
  rfl
theorem itoa_pR {x : Int} (h : 0 ≤ x) (h1 : ¬ x < 10) : (⟨(Lib.itoa (x.tdiv 10)).toArray⟩ : ByteArray) ++ ⟨#[UInt8.ofNat (48 + x.natAbs % 10)]⟩ = ⟨(Lib.itoa x).toArray⟩ := by
  have e := (pos_ten h).2
  rw [e, ba_snoc]
  unfold Lib.itoa
  rw [if_neg (by omega), if_neg (by omega), dec_big (u := x.toNat) (by omega)]
  obtain ⟨k, rfl⟩ := Int.eq_ofNat_of_zero_le h
  rfl
end Go.Proofs.YtanhhihechakhaaGreatDoor.E
set_option linter.unusedVariables false
set_option linter.unusedSimpArgs false
namespace Go.Proofs.YtanhhihechakhaaGreatDoor
open Go.RowKit Go.Proofs.YtanhhihechakhaaGreatDoor.E Go.Proofs.YtanhhihechakhaaGreatDoor.ReplP Go.Proofs.YtanhhihechakhaaGreatDoor.TokP Go.Proofs.YtanhhihechakhaaGreatDoor.TermP Go.Proofs.YtanhhihechakhaaGreatDoor.WrP
theorem ba_app (a b : List UInt8) : (⟨a.toArray⟩ : ByteArray) ++ ⟨b.toArray⟩ = ⟨(a ++ b).toArray⟩ := by
  apply ByteArray.ext
  simp
def preL (l : List GT) (i : Nat) : List UInt8 := if i = 0 then [] else [40] ++ txts ((l.take i).map GT.tm)
theorem preL_succ {l : List GT} {i : Nat} {t : GT} (h : l[i]? = some t) : preL l (i + 1) = preL l i ++ (if i = 0 then [40] else [44]) ++ txt t.tm := by
  unfold preL
  rw [if_neg (by omega), txts_succ h]
  by_cases h0 : i = 0
  · rw [if_pos h0, if_pos h0, if_pos h0, h0, List.take_zero, List.map_nil, txts_nil]
    simp
  · rw [if_neg h0, if_neg h0, if_neg h0]
    simp
theorem preL_all {l : List GT} (h : ¬ l.length = 0) : preL l l.length = [40] ++ txts (l.map GT.tm) := by
  unfold preL
  rw [if_neg h, List.take_length]
theorem preL_len {l : List GT} {i : Nat} : (preL l i).length ≤ 1 + (txts (l.map GT.tm)).length := by
  unfold preL
  have := txts_mono l i
  split
  · simp
  · simp only [List.length_append, List.length_cons, List.length_nil]
    omega
set_option maxRecDepth 100000 in
theorem figs_c (m : Nat) : ∀ (x : Int) (h : Hp), x.natAbs = m → -9223372036854775808 ≤ x → x ≤ 9223372036854775807 → C0 Tryz.prog 39 [.int .i64 x] h (.string ⟨(Lib.itoa x).toArray⟩) := by
  induction m using Nat.strongRecOn
  rename_i m ih
  intro x h hmx hxl hxu
  refine enter0 Tryz.func39 rfl rfl rfl (fun w => ?_)
  refine cy_seq ?_
  refine cy_region ?_
  refine sy_assign rfl rfl rfl ?_
  refine sy_nil rfl ?_
  refine ny_next ?_
  refine cy_seq ?_
  refine cy_seq ?_
  refine cy_region ?_
  refine sy_move rfl rfl rfl ?_
  refine sy_cmp rfl rfl rfl rfl rfl ?_
  refine sy_nil rfl ?_
  refine ny_next ?_
  refine cy_cond rfl (fun hc5 => ?_) (fun hc5 => ?_)
  · have hx0 : x < 0 := by simpa using hc5
    obtain ⟨hm1, hd1⟩ := neg_ten hx0
    refine cy_seq ?_
    refine cy_region ?_
    refine sy_move rfl rfl rfl ?_
    refine sy_remt rfl rfl (by decide) (by decide) hm1 rfl rfl ?_
    refine sy_negi Tryz.underlying2 rfl (by omega) (by omega) rfl rfl ?_
    refine sy_assign rfl rfl rfl ?_
    refine sy_nil rfl ?_
    refine ny_next ?_
    refine cy_seq ?_
    refine cy_seq ?_
    refine cy_region ?_
    refine sy_move rfl rfl rfl ?_
    refine sy_cmp rfl rfl rfl rfl rfl ?_
    refine sy_nil rfl ?_
    refine ny_next ?_
    refine cy_cond rfl (fun hc10 => ?_) (fun hc10 => ?_)
    · have hx1 : -10 < x := by simpa using hc10
      refine cy_seq ?_
      refine cy_region ?_
      refine sy_move rfl rfl rfl ?_
      refine sy_addi (z := ((48 + (x.natAbs % 10) : Nat) : Int)) rfl rfl (by omega) (by omega) (by omega) rfl rfl ?_
      refine sy_conv8 Tryz.underlying2 Tryz.underlying5 rfl (by omega) (by omega) rfl rfl ?_
      refine sy_buildSlice rfl (fun w => bsl_40_1_0 w) rfl rfl (fun b14 hb14 hM14 => ?_) (by simp)
      refine sy_byte1 (u := UInt8.ofNat (48 + (x.natAbs % 10))) 0 Tryz.underlying40 Tryz.underlying5 Tryz.underlying9 rfl rfl (dg_nat (by omega)) rfl rfl ?_
      refine sy_cat rfl rfl (by show 1 + 1 ≤ _; decide) rfl rfl ?_
      refine sy_assign rfl rfl rfl ?_
      refine sy_nil rfl ?_
      refine ny_next ?_
      refine cy_ret ?_
      refine ny_thenR ?_
      refine ny_thenR ?_
      refine ny_finR (res1 rfl rfl) (fun w hs => ⟨?_, hs.frm⟩)
      rw [itoa_n1 hx0 hx1]
    · have hx1 : ¬ -10 < x := by simpa using hc10
      refine cy_skip ?_
      refine ny_next ?_
      refine cy_seq ?_
      refine cy_regionA mixed ?_
      refine zy_q 0 rfl (by kernel_rfl) (fun hB5_0 => ?_)
      refine sy_move rfl rfl rfl ?_
      refine sy_nil1 (ny_zq hB5_0 ?_)
      refine zy_q 1 rfl (by kernel_rfl) (fun hB5_1 => ?_)
      refine sy_quo rfl rfl (by decide) rfl (by omega) (by omega) rfl rfl ?_
      refine sy_nil1 (ny_zq hB5_1 ?_)
      refine zy_q 3 rfl (by kernel_rfl) (fun hB5_3 => ?_)
      refine sy_move rfl rfl rfl ?_
      refine sy_nil1 (ny_zq hB5_3 ?_)
      refine zy_q 4 rfl (by kernel_rfl) (fun hB5_4 => ?_)
      refine sy_addi (z := ((48 + (x.natAbs % 10) : Nat) : Int)) rfl rfl (by omega) (by omega) (by omega) rfl rfl ?_
      refine sy_nil1 (ny_zq hB5_4 ?_)
      refine zy_q 5 rfl (by kernel_rfl) (fun hB5_5 => ?_)
      refine sy_conv8 Tryz.underlying2 Tryz.underlying5 rfl (by omega) (by omega) rfl rfl ?_
      refine sy_nil1 (ny_zq hB5_5 ?_)
      refine zy_2 2 6 (by kernel_rfl) ?_ ?_
      · refine zop_run rfl rfl (fun hB5_2 => ?_)
        refine sy_call rfl call_39 rfl (ih (x.tdiv 10).natAbs (by omega) (x.tdiv 10) _ rfl (by omega) (by omega)) rfl rfl ?_
        refine sy_nil rfl (ny_zy hB5_2 (Hp.Le.refl _) ?_)
        refine zy_1 6 (by kernel_rfl) ?_
        refine zop_run rfl rfl (fun hB5_6 => ?_)
        refine sy_buildSlice rfl (fun w => bsl_40_1_0 w) rfl rfl (fun b23 hb23 hM23 => ?_) (by simp)
        refine sy_nil rfl (ny_zy hB5_6 (Hp.Le.refl _) ?_)
        refine zy_1 7 (by kernel_rfl) ?_
        refine zop_run rfl rfl (fun hB5_7 => ?_)
        refine sy_byte1 (u := UInt8.ofNat (48 + (x.natAbs % 10))) 0 Tryz.underlying40 Tryz.underlying5 Tryz.underlying9 rfl rfl (dg_nat (by omega)) rfl rfl ?_
        refine sy_nil rfl (ny_zy hB5_7 (Hp.Le.refl _) ?_)
        refine zy_q 8 rfl (by kernel_rfl) (fun hB5_8 => ?_)
        refine sy_cat rfl rfl (by have h1 := itoa_len (n := x.tdiv 10) (by omega) (by omega); show (Lib.itoa (x.tdiv 10)).length + 1 ≤ _; omega) rfl rfl ?_
        refine sy_nil1 (ny_zq hB5_8 ?_)
        refine zy_q 9 rfl (by kernel_rfl) (fun hB5_9 => ?_)
        refine sy_assign rfl rfl rfl ?_
        refine sy_nil1 (ny_zq hB5_9 ?_)
        refine zy_done (by kernel_rfl) ?_
        refine ny_next ?_
        refine cy_ret ?_
        refine ny_thenR ?_
        refine ny_finR (res1 rfl rfl) (fun w hs => ⟨?_, hs.frm⟩)
        rw [itoa_nR hx0 hx1]
      · refine zop_run rfl rfl (fun hB5_6 => ?_)
        refine sy_buildSlice rfl (fun w => bsl_40_1_0 w) rfl rfl (fun b23 hb23 hM23 => ?_) (by simp)
        refine sy_nil rfl (ny_zy hB5_6 (Hp.Le.refl _) ?_)
        refine zy_2 2 7 (by kernel_rfl) ?_ ?_
        · refine zop_run rfl rfl (fun hB5_2 => ?_)
          refine sy_call rfl call_39 rfl (ih (x.tdiv 10).natAbs (by omega) (x.tdiv 10) _ rfl (by omega) (by omega)) rfl rfl ?_
          refine sy_nil rfl (ny_zy hB5_2 (Hp.Le.refl _) ?_)
          refine zy_1 7 (by kernel_rfl) ?_
          refine zop_run rfl rfl (fun hB5_7 => ?_)
          refine sy_byte1 (u := UInt8.ofNat (48 + (x.natAbs % 10))) 0 Tryz.underlying40 Tryz.underlying5 Tryz.underlying9 rfl rfl (dg_nat (by omega)) rfl rfl ?_
          refine sy_nil rfl (ny_zy hB5_7 (Hp.Le.refl _) ?_)
          refine zy_q 8 rfl (by kernel_rfl) (fun hB5_8 => ?_)
          refine sy_cat rfl rfl (by have h1 := itoa_len (n := x.tdiv 10) (by omega) (by omega); show (Lib.itoa (x.tdiv 10)).length + 1 ≤ _; omega) rfl rfl ?_
          refine sy_nil1 (ny_zq hB5_8 ?_)
          refine zy_q 9 rfl (by kernel_rfl) (fun hB5_9 => ?_)
          refine sy_assign rfl rfl rfl ?_
          refine sy_nil1 (ny_zq hB5_9 ?_)
          refine zy_done (by kernel_rfl) ?_
          refine ny_next ?_
          refine cy_ret ?_
          refine ny_thenR ?_
          refine ny_finR (res1 rfl rfl) (fun w hs => ⟨?_, hs.frm⟩)
          rw [itoa_nR hx0 hx1]
        · refine zop_run rfl rfl (fun hB5_7 => ?_)
          refine sy_byte1 (u := UInt8.ofNat (48 + (x.natAbs % 10))) 0 Tryz.underlying40 Tryz.underlying5 Tryz.underlying9 rfl rfl (dg_nat (by omega)) rfl rfl ?_
          refine sy_nil rfl (ny_zy hB5_7 (Hp.Le.refl _) ?_)
          refine zy_1 2 (by kernel_rfl) ?_
          refine zop_run rfl rfl (fun hB5_2 => ?_)
          refine sy_call rfl call_39 rfl (ih (x.tdiv 10).natAbs (by omega) (x.tdiv 10) _ rfl (by omega) (by omega)) rfl rfl ?_
          refine sy_nil rfl (ny_zy hB5_2 (Hp.Le.refl _) ?_)
          refine zy_q 8 rfl (by kernel_rfl) (fun hB5_8 => ?_)
          refine sy_cat rfl rfl (by have h1 := itoa_len (n := x.tdiv 10) (by omega) (by omega); show (Lib.itoa (x.tdiv 10)).length + 1 ≤ _; omega) rfl rfl ?_
          refine sy_nil1 (ny_zq hB5_8 ?_)
          refine zy_q 9 rfl (by kernel_rfl) (fun hB5_9 => ?_)
          refine sy_assign rfl rfl rfl ?_
          refine sy_nil1 (ny_zq hB5_9 ?_)
          refine zy_done (by kernel_rfl) ?_
          refine ny_next ?_
          refine cy_ret ?_
          refine ny_thenR ?_
          refine ny_finR (res1 rfl rfl) (fun w hs => ⟨?_, hs.frm⟩)
          rw [itoa_nR hx0 hx1]
  · have hx0 : 0 ≤ x := by simpa using hc5
    obtain ⟨hm1, hd1⟩ := pos_ten hx0
    refine cy_skip ?_
    refine ny_next ?_
    refine cy_seq ?_
    refine cy_seq ?_
    refine cy_region ?_
    refine sy_move rfl rfl rfl ?_
    refine sy_cmp rfl rfl rfl rfl rfl ?_
    refine sy_nil rfl ?_
    refine ny_next ?_
    refine cy_cond rfl (fun hc27 => ?_) (fun hc27 => ?_)
    · have hx1 : x < 10 := by simpa using hc27
      refine cy_seq ?_
      refine cy_region ?_
      refine sy_move rfl rfl rfl ?_
      refine sy_addi (z := ((48 + x.natAbs : Nat) : Int)) rfl rfl (by omega) (by omega) (by omega) rfl rfl ?_
      refine sy_conv8 Tryz.underlying2 Tryz.underlying5 rfl (by omega) (by omega) rfl rfl ?_
      refine sy_buildSlice rfl (fun w => bsl_40_1_0 w) rfl rfl (fun b31 hb31 hM31 => ?_) (by simp)
      refine sy_byte1 (u := UInt8.ofNat (48 + x.natAbs)) 0 Tryz.underlying40 Tryz.underlying5 Tryz.underlying9 rfl rfl (dg_nat (by omega)) rfl rfl ?_
      refine sy_assign rfl rfl rfl ?_
      refine sy_nil rfl ?_
      refine ny_next ?_
      refine cy_ret ?_
      refine ny_thenR ?_
      refine ny_finR (res1 rfl rfl) (fun w hs => ⟨?_, hs.frm⟩)
      rw [itoa_p1 hx0 hx1]
    · have hx1 : ¬ x < 10 := by simpa using hc27
      refine cy_skip ?_
      refine ny_next ?_
      refine cy_seq ?_
      refine cy_regionA mixed ?_
      refine zy_q 0 rfl (by kernel_rfl) (fun hB8_0 => ?_)
      refine sy_move rfl rfl rfl ?_
      refine sy_nil1 (ny_zq hB8_0 ?_)
      refine zy_q 1 rfl (by kernel_rfl) (fun hB8_1 => ?_)
      refine sy_quo rfl rfl (by decide) rfl (by omega) (by omega) rfl rfl ?_
      refine sy_nil1 (ny_zq hB8_1 ?_)
      refine zy_q 3 rfl (by kernel_rfl) (fun hB8_3 => ?_)
      refine sy_move rfl rfl rfl ?_
      refine sy_nil1 (ny_zq hB8_3 ?_)
      refine zy_q 4 rfl (by kernel_rfl) (fun hB8_4 => ?_)
      refine sy_remt rfl rfl (by decide) (by decide) hm1 rfl rfl ?_
      refine sy_nil1 (ny_zq hB8_4 ?_)
      refine zy_q 5 rfl (by kernel_rfl) (fun hB8_5 => ?_)
      refine sy_addi (z := ((48 + (x.natAbs % 10) : Nat) : Int)) rfl rfl (by omega) (by omega) (by omega) rfl rfl ?_
      refine sy_nil1 (ny_zq hB8_5 ?_)
      refine zy_q 6 rfl (by kernel_rfl) (fun hB8_6 => ?_)
      refine sy_conv8 Tryz.underlying2 Tryz.underlying5 rfl (by omega) (by omega) rfl rfl ?_
      refine sy_nil1 (ny_zq hB8_6 ?_)
      refine zy_2 2 7 (by kernel_rfl) ?_ ?_
      · refine zop_run rfl rfl (fun hB8_2 => ?_)
        refine sy_call rfl call_39 rfl (ih (x.tdiv 10).natAbs (by omega) (x.tdiv 10) _ rfl (by omega) (by omega)) rfl rfl ?_
        refine sy_nil rfl (ny_zy hB8_2 (Hp.Le.refl _) ?_)
        refine zy_1 7 (by kernel_rfl) ?_
        refine zop_run rfl rfl (fun hB8_7 => ?_)
        refine sy_buildSlice rfl (fun w => bsl_40_1_0 w) rfl rfl (fun b40 hb40 hM40 => ?_) (by simp)
        refine sy_nil rfl (ny_zy hB8_7 (Hp.Le.refl _) ?_)
        refine zy_1 8 (by kernel_rfl) ?_
        refine zop_run rfl rfl (fun hB8_8 => ?_)
        refine sy_byte1 (u := UInt8.ofNat (48 + (x.natAbs % 10))) 0 Tryz.underlying40 Tryz.underlying5 Tryz.underlying9 rfl rfl (dg_nat (by omega)) rfl rfl ?_
        refine sy_nil rfl (ny_zy hB8_8 (Hp.Le.refl _) ?_)
        refine zy_q 9 rfl (by kernel_rfl) (fun hB8_9 => ?_)
        refine sy_cat rfl rfl (by have h1 := itoa_len (n := x.tdiv 10) (by omega) (by omega); show (Lib.itoa (x.tdiv 10)).length + 1 ≤ _; omega) rfl rfl ?_
        refine sy_nil1 (ny_zq hB8_9 ?_)
        refine zy_q 10 rfl (by kernel_rfl) (fun hB8_10 => ?_)
        refine sy_assign rfl rfl rfl ?_
        refine sy_nil1 (ny_zq hB8_10 ?_)
        refine zy_done (by kernel_rfl) ?_
        refine ny_next ?_
        refine cy_ret ?_
        refine ny_finR (res1 rfl rfl) (fun w hs => ⟨?_, hs.frm⟩)
        rw [itoa_pR hx0 hx1]
      · refine zop_run rfl rfl (fun hB8_7 => ?_)
        refine sy_buildSlice rfl (fun w => bsl_40_1_0 w) rfl rfl (fun b40 hb40 hM40 => ?_) (by simp)
        refine sy_nil rfl (ny_zy hB8_7 (Hp.Le.refl _) ?_)
        refine zy_2 2 8 (by kernel_rfl) ?_ ?_
        · refine zop_run rfl rfl (fun hB8_2 => ?_)
          refine sy_call rfl call_39 rfl (ih (x.tdiv 10).natAbs (by omega) (x.tdiv 10) _ rfl (by omega) (by omega)) rfl rfl ?_
          refine sy_nil rfl (ny_zy hB8_2 (Hp.Le.refl _) ?_)
          refine zy_1 8 (by kernel_rfl) ?_
          refine zop_run rfl rfl (fun hB8_8 => ?_)
          refine sy_byte1 (u := UInt8.ofNat (48 + (x.natAbs % 10))) 0 Tryz.underlying40 Tryz.underlying5 Tryz.underlying9 rfl rfl (dg_nat (by omega)) rfl rfl ?_
          refine sy_nil rfl (ny_zy hB8_8 (Hp.Le.refl _) ?_)
          refine zy_q 9 rfl (by kernel_rfl) (fun hB8_9 => ?_)
          refine sy_cat rfl rfl (by have h1 := itoa_len (n := x.tdiv 10) (by omega) (by omega); show (Lib.itoa (x.tdiv 10)).length + 1 ≤ _; omega) rfl rfl ?_
          refine sy_nil1 (ny_zq hB8_9 ?_)
          refine zy_q 10 rfl (by kernel_rfl) (fun hB8_10 => ?_)
          refine sy_assign rfl rfl rfl ?_
          refine sy_nil1 (ny_zq hB8_10 ?_)
          refine zy_done (by kernel_rfl) ?_
          refine ny_next ?_
          refine cy_ret ?_
          refine ny_finR (res1 rfl rfl) (fun w hs => ⟨?_, hs.frm⟩)
          rw [itoa_pR hx0 hx1]
        · refine zop_run rfl rfl (fun hB8_8 => ?_)
          refine sy_byte1 (u := UInt8.ofNat (48 + (x.natAbs % 10))) 0 Tryz.underlying40 Tryz.underlying5 Tryz.underlying9 rfl rfl (dg_nat (by omega)) rfl rfl ?_
          refine sy_nil rfl (ny_zy hB8_8 (Hp.Le.refl _) ?_)
          refine zy_1 2 (by kernel_rfl) ?_
          refine zop_run rfl rfl (fun hB8_2 => ?_)
          refine sy_call rfl call_39 rfl (ih (x.tdiv 10).natAbs (by omega) (x.tdiv 10) _ rfl (by omega) (by omega)) rfl rfl ?_
          refine sy_nil rfl (ny_zy hB8_2 (Hp.Le.refl _) ?_)
          refine zy_q 9 rfl (by kernel_rfl) (fun hB8_9 => ?_)
          refine sy_cat rfl rfl (by have h1 := itoa_len (n := x.tdiv 10) (by omega) (by omega); show (Lib.itoa (x.tdiv 10)).length + 1 ≤ _; omega) rfl rfl ?_
          refine sy_nil1 (ny_zq hB8_9 ?_)
          refine zy_q 10 rfl (by kernel_rfl) (fun hB8_10 => ?_)
          refine sy_assign rfl rfl rfl ?_
          refine sy_nil1 (ny_zq hB8_10 ?_)
          refine zy_done (by kernel_rfl) ?_
          refine ny_next ?_
          refine cy_ret ?_
          refine ny_finR (res1 rfl rfl) (fun w hs => ⟨?_, hs.frm⟩)
          rw [itoa_pR hx0 hx1]
set_option maxRecDepth 100000 in
theorem size_c (t : GT) : ∀ h, Lies h t → Fits t → C0 Tryz.prog 26 [.agg (GT.cells t).toArray] h (.int .i64 (sizeW t)) := by
  induction t using GT.ind
  rename_i tk tn ts tA tc kids ih
  intro h hl hf
  have hroom := hf.room
  show C0 Tryz.prog 26 [.agg #[.int .i64 tk, .int .i64 tn, .string ts, .slice tA kids.length tc]] h (.int .i64 (sizeW (GT.mk tk tn ts tA tc kids)))
  refine enter0 Tryz.func26 rfl rfl rfl (fun w => ?_)
  refine cy_seq ?_
  refine cy_region ?_
  refine sy_box rfl rfl rfl rfl (fun b1 hb1 hM1 => ?_) (by simp)
  refine sy_assign rfl rfl rfl ?_
  refine sy_nil rfl ?_
  refine ny_next ?_
  refine cy_seq ?_
  refine cy_frz 0 rfl (by simp) (fun h1 hle1 hbx => ?_)
  replace hl := hl.le hle1
  have hr := hl.rows
  refine cy_region ?_
  refine sy_assign rfl rfl rfl ?_
  refine sy_nil rfl ?_
  refine ny_next ?_
  refine cy_seq ?_
  refine cy_seq ?_
  refine cy_region ?_
  refine sy_assign rfl rfl rfl ?_
  refine sy_nil rfl ?_
  refine ny_next ?_
  refine cy_block ?_
  refine cy_loopK (ι := Nat) [1] rfl (fun i => i ≤ kids.length) (fun i => kids.length - i) (fun i => [(3, .int .i64 (sizesW 1 (kids.take i))), (4, .int .i64 (i : Int))]) (fun i => h1) (fun i => []) 0 [] (Nat.zero_le _) ⟨rfl, rfl, trivial⟩ rfl rfl ?_
  rintro i hI
  refine cy_seq ?_
  refine cy_seq ?_
  refine cy_region ?_
  refine sy_move rfl rfl rfl ?_
  refine sy_field fld_24_3 rfl rfl rfl ?_
  refine sy_ldh one_22 rfl (Hp.blk hbx 3 _ rfl) rfl rfl ?_
  refine sy_len rfl (len_slice Tryz.underlying22 _ _ _) rfl rfl ?_
  refine sy_cmp rfl rfl rfl rfl rfl ?_
  refine sy_nil rfl ?_
  refine ny_next ?_
  refine cy_cond rfl (fun hc9 => ?_) (fun hc9 => ?_)
  · have hlti : i < kids.length := by have := of_decide_eq_true hc9; omega
    refine cy_skip ?_
    refine ny_next ?_
    refine cy_seq ?_
    refine cy_block ?_
    refine cy_region ?_
    refine sy_move rfl rfl rfl ?_
    refine sy_field fld_24_3 rfl rfl rfl ?_
    refine sy_ldh one_22 rfl (Hp.blk hbx 3 _ rfl) rfl rfl ?_
    refine sy_move rfl rfl rfl ?_
    refine sy_idxR (fc := GT.cells) (es := kids) els_22 rfl rfl hr rfl (by omega) rfl rfl (fun e16 b16 o16 he16 hA16 hc16 => ?_)
    refine sy_ldah (vs := GT.cells e16) agg_24 rfl rfl hc16 rfl rfl ?_
    refine sy_call rfl call_26 rfl (ih e16 (List.mem_of_getElem? he16) _ (hl.at he16) (hf.at he16)) rfl rfl ?_
    refine sy_add rfl rfl rfl rfl ?_
    refine sy_assign rfl rfl rfl ?_
    refine sy_nil rfl ?_
    refine ny_blockN ?_
    refine ny_next ?_
    refine cy_region ?_
    refine sy_move rfl rfl rfl ?_
    refine sy_addi (z := ((i + 1 : Nat) : Int)) rfl rfl (by omega) (by omega) (by omega) rfl rfl ?_
    refine sy_assign rfl rfl rfl ?_
    refine sy_nil rfl ?_
    refine ny_roundK [1] (i + 1) [] (show i + 1 ≤ kids.length by omega) (show kids.length - (i + 1) < kids.length - i by omega) rfl ⟨congrArg (fun z => some (Value.int .i64 z)) (sizesW_succ he16), rfl, trivial⟩ rfl rfl
  · have hie : i = kids.length := by have := of_decide_eq_false hc9; omega
    subst hie
    refine cy_exit ?_
    refine ny_thenE ?_
    refine ny_thenE ?_
    refine ny_blockX ?_
    refine ny_next ?_
    refine cy_seq ?_
    refine cy_region ?_
    refine sy_move rfl rfl rfl ?_
    refine sy_assign rfl rfl rfl ?_
    refine sy_nil rfl ?_
    refine ny_next ?_
    refine cy_ret ?_
    refine ny_finR (res1 rfl rfl) (fun w hs => ⟨?_, hs.frm⟩)
    rw [sizesW_all]
set_option maxRecDepth 100000 in
theorem few_c (t : GT) (h : Hp) (hl : Lies h t) (hf : Fits t) : C0 Tryz.prog 10 [.agg (GT.cells t).toArray] h (.bool (decide (sizeW t ≤ 1000))) := by
  show C0 Tryz.prog 10 [.agg #[.int .i64 t.k, .int .i64 t.n, .string t.s, .slice t.A t.kids.length t.c]] h _
  refine enter0 Tryz.func10 rfl rfl rfl (fun w => ?_)
  refine cy_seq ?_
  refine cy_region ?_
  refine sy_box rfl rfl rfl rfl (fun b1 hb1 hM1 => ?_) (by simp)
  refine sy_assign rfl rfl rfl ?_
  refine sy_nil rfl ?_
  refine ny_next ?_
  refine cy_seq ?_
  refine cy_region ?_
  first | refine sy_ldar 0 agg_24 rfl rfl rfl rfl rfl ?_ | refine sy_ldar 1 agg_24 rfl rfl rfl rfl rfl ?_
  refine sy_call rfl call_26 rfl (size_c t _ hl hf) rfl rfl ?_
  refine sy_cmp rfl rfl rfl rfl rfl ?_
  refine sy_assign rfl rfl rfl ?_
  refine sy_nil rfl ?_
  refine ny_next ?_
  refine cy_ret ?_
  refine ny_finR (res1 rfl rfl) (fun w hs => ⟨?_, hs.frm⟩)
  rfl
set_option maxRecDepth 100000 in
theorem rtext_c (t : GT) : ∀ h, Lies h t → Fits t → (txt t.tm).length ≤ 70368744177600 → C0 Tryz.prog 19 [.agg (GT.cells t).toArray] h (.string ⟨(txt t.tm).toArray⟩) := by
  induction t using GT.ind
  rename_i tk tn ts tA tc kids ih
  intro h hl hf hz
  have hroom := hf.room
  have sz1 : ∀ a : UInt8, (⟨#[a]⟩ : ByteArray).size = 1 := fun _ => rfl
  have sz2 : ∀ a c : UInt8, (⟨#[a, c]⟩ : ByteArray).size = 2 := fun _ _ => rfl
  show C0 Tryz.prog 19 [.agg #[.int .i64 tk, .int .i64 tn, .string ts, .slice tA kids.length tc]] h _
  refine enter0 Tryz.func19 rfl rfl rfl (fun w => ?_)
  refine cy_seq ?_
  refine cy_region ?_
  refine sy_box rfl rfl rfl rfl (fun b1 hb1 hM1 => ?_) (by simp)
  refine sy_assign rfl rfl rfl ?_
  refine sy_nil rfl ?_
  refine ny_next ?_
  refine cy_seq ?_
  refine cy_seq ?_
  refine cy_frz 0 rfl (by simp) (fun h1 hle1 hbx => ?_)
  replace hl := hl.le hle1
  have hr := hl.rows
  have hil := itoa_len hf.nums.2.1.1 hf.nums.2.1.2
  have hns := hf.nums.2.2
  refine cy_region ?_
  refine sy_field fld_24_0 rfl rfl rfl ?_
  refine sy_ldh one_3 rfl (Hp.blk hbx 0 _ rfl) rfl rfl ?_
  refine sy_cmp rfl rfl rfl rfl rfl ?_
  refine sy_nil rfl ?_
  refine ny_next ?_
  refine cy_cond rfl (fun hc7 => ?_) (fun hc7 => ?_)
  · have hk1 : tk = 1 := by simpa using hc7
    have htx : txt (GT.mk tk tn ts tA tc kids).tm = 95 :: Lib.itoa tn := by rw [GT.tm_mk]; exact txt_var (t := .mk _ _ _ _) hk1
    rw [htx] at hz
    simp only [List.length_append, List.length_cons, List.length_nil] at hz
    refine cy_seq ?_
    refine cy_region ?_
    refine sy_field fld_24_1 rfl rfl rfl ?_
    refine sy_ldh one_2 rfl (Hp.blk hbx 1 _ rfl) rfl rfl ?_
    refine sy_call rfl call_39 rfl (figs_c _ tn _ rfl hf.nums.2.1.1 hf.nums.2.1.2) rfl rfl ?_
    refine sy_cat rfl rfl (by first | omega | (simp only [ByteArray.size_append, bsz, List.length_append, List.length_cons, List.length_nil, sz1, sz2]; omega) | (simp [ByteArray.size_append, bsz, sz1, sz2]; done)) rfl rfl ?_
    refine sy_assign rfl rfl rfl ?_
    refine sy_nil rfl ?_
    refine ny_next ?_
    refine cy_ret ?_
    refine ny_thenR ?_
    refine ny_finR (res1 rfl rfl) (fun w hs => ⟨?_, hs.frm⟩)
    rw [htx]
    rfl
  · have hk1 : ¬ tk = 1 := by simpa using hc7
    refine cy_skip ?_
    refine ny_next ?_
    refine cy_seq ?_
    refine cy_seq ?_
    refine cy_region ?_
    refine sy_field fld_24_0 rfl rfl rfl ?_
    refine sy_ldh one_3 rfl (Hp.blk hbx 0 _ rfl) rfl rfl ?_
    refine sy_cmp rfl rfl rfl rfl rfl ?_
    refine sy_nil rfl ?_
    refine ny_next ?_
    refine cy_cond rfl (fun hc14 => ?_) (fun hc14 => ?_)
    · have hk2 : tk = 2 := by simpa using hc14
      have htx : txt (GT.mk tk tn ts tA tc kids).tm = Lib.itoa tn := by rw [GT.tm_mk]; exact txt_int (t := .mk _ _ _ _) hk2
      rw [htx] at hz
      refine cy_seq ?_
      refine cy_region ?_
      refine sy_field fld_24_1 rfl rfl rfl ?_
      refine sy_ldh one_2 rfl (Hp.blk hbx 1 _ rfl) rfl rfl ?_
      refine sy_call rfl call_39 rfl (figs_c _ tn _ rfl hf.nums.2.1.1 hf.nums.2.1.2) rfl rfl ?_
      refine sy_assign rfl rfl rfl ?_
      refine sy_nil rfl ?_
      refine ny_next ?_
      refine cy_ret ?_
      refine ny_thenR ?_
      refine ny_finR (res1 rfl rfl) (fun w hs => ⟨?_, hs.frm⟩)
      rw [htx]
    · have hk2 : ¬ tk = 2 := by simpa using hc14
      refine cy_skip ?_
      refine ny_next ?_
      refine cy_seq ?_
      refine cy_seq ?_
      refine cy_region ?_
      refine sy_field fld_24_0 rfl rfl rfl ?_
      refine sy_ldh one_3 rfl (Hp.blk hbx 0 _ rfl) rfl rfl ?_
      refine sy_cmp rfl rfl rfl rfl rfl ?_
      refine sy_move rfl rfl rfl ?_
      refine sy_cond (d := 21) _ rfl rfl (fun hg21 => ?_) (fun hg21 => ?_)
      · have hk4 : tk = 4 := by simpa using hg21
        refine sy_field fld_24_3 rfl rfl rfl ?_
        refine sy_ldh one_22 rfl (Hp.blk hbx 3 _ rfl) rfl rfl ?_
        refine sy_len rfl (len_slice Tryz.underlying22 _ _ _) rfl rfl ?_
        refine sy_cmp rfl rfl rfl rfl rfl ?_
        refine sy_pickT rfl rfl rfl rfl ?_
        refine sy_nil rfl ?_
        refine ny_next ?_
        refine cy_cond rfl (fun hc26 => ?_) (fun hc26 => ?_)
        · have hk0 : kids.length = 1 := by have := eq_of_beq hc26; omega
          have htx : txt (GT.mk tk tn ts tA tc kids).tm = [64, 40] ++ txts (kids.map GT.tm) ++ [44] ++ Lib.itoa tn ++ [41] := by rw [GT.tm_mk]; exact txt_seal hk4 (by rw [List.length_map]; exact hk0)
          rw [htx] at hz
          simp only [List.length_append, List.length_cons, List.length_nil] at hz
          refine cy_seq ?_
          refine cy_regionQ mixed (by kernel_rfl) ?_
          refine sy_field fld_24_3 rfl rfl rfl ?_
          refine sy_ldh one_22 rfl (Hp.blk hbx 3 _ rfl) rfl rfl ?_
          refine sy_idxR (i := 0) (fc := GT.cells) (es := kids) els_22 rfl rfl hr rfl (by omega) rfl rfl (fun e29 b29 o29 he29 hA29 hc29 => ?_)
          have hke : kids.map GT.tm = [e29.tm] := by
            match kids, hk0, he29 with
            | [x], _, he => have := Option.some.inj he; rw [this]; rfl
          rw [hke, txts_one] at htx hz
          refine sy_ldah (vs := GT.cells e29) agg_24 rfl rfl hc29 rfl rfl ?_
          refine sy_call rfl call_19 rfl (ih e29 (List.mem_of_getElem? he29) _ (hl.at he29) (hf.at he29) (by omega)) rfl rfl ?_
          refine sy_cat rfl rfl (by first | omega | (simp only [ByteArray.size_append, bsz, List.length_append, List.length_cons, List.length_nil, sz1, sz2]; omega) | (simp [ByteArray.size_append, bsz, sz1, sz2]; done)) rfl rfl ?_
          refine sy_cat rfl rfl (by first | omega | (simp only [ByteArray.size_append, bsz, List.length_append, List.length_cons, List.length_nil, sz1, sz2]; omega) | (simp [ByteArray.size_append, bsz, sz1, sz2]; done)) rfl rfl ?_
          refine sy_field fld_24_1 rfl rfl rfl ?_
          refine sy_ldh one_2 rfl (Hp.blk hbx 1 _ rfl) rfl rfl ?_
          refine sy_call rfl call_39 rfl (figs_c _ tn _ rfl hf.nums.2.1.1 hf.nums.2.1.2) rfl rfl ?_
          refine sy_cat rfl rfl (by first | omega | (simp only [ByteArray.size_append, bsz, List.length_append, List.length_cons, List.length_nil, sz1, sz2]; omega) | (simp [ByteArray.size_append, bsz, sz1, sz2]; done)) rfl rfl ?_
          refine sy_cat rfl rfl (by first | omega | (simp only [ByteArray.size_append, bsz, List.length_append, List.length_cons, List.length_nil, sz1, sz2]; omega) | (simp [ByteArray.size_append, bsz, sz1, sz2]; done)) rfl rfl ?_
          refine sy_assign rfl rfl rfl ?_
          refine sy_nil rfl ?_
          refine ny_next ?_
          refine cy_ret ?_
          refine ny_thenR ?_
          refine ny_finR (res1 rfl rfl) (fun w hs => ⟨?_, hs.frm⟩)
          rw [htx]
          apply congrArg (fun b : ByteArray => Ending.returned (Value.string b))
          apply ByteArray.ext
          simp
        · have hk5 : ¬ (tk = 4 ∧ (kids.map GT.tm).length = 1) := by
            rintro ⟨_, h9⟩
            rw [List.length_map] at h9
            rw [h9] at hc26
            simp at hc26
          refine cy_skip ?_
          refine ny_next ?_
          refine cy_seq ?_
          refine cy_seq ?_
          refine cy_region ?_
          refine sy_field fld_24_0 rfl rfl rfl ?_
          refine sy_ldh one_3 rfl (Hp.blk hbx 0 _ rfl) rfl rfl ?_
          refine sy_cmp rfl rfl rfl rfl rfl ?_
          refine sy_nil rfl ?_
          refine ny_next ?_
          refine cy_cond rfl (fun hc41 => ?_) (fun hc41 => ?_)
          · have hk3 : ¬ tk = 3 := by simpa using hc41
            have htx : txt (GT.mk tk tn ts tA tc kids).tm = [63] := by rw [GT.tm_mk]; exact txt_else hk1 hk2 hk3 hk5
            rw [htx] at hz
            refine cy_seq ?_
            refine cy_region ?_
            refine sy_assign rfl rfl rfl ?_
            refine sy_nil rfl ?_
            refine ny_next ?_
            refine cy_ret ?_
            refine ny_thenR ?_
            refine ny_finR (res1 rfl rfl) (fun w hs => ⟨?_, hs.frm⟩)
            first | (rw [htx]; done) | (rw [htx]; rfl)
          · have hk3 : tk = 3 := by simpa using hc41
            have hng := nm_ge ts kids.length
            have hgs : ts.size ≤ 70368744177600 := by
              have h9 : (txt (GT.mk tk tn ts tA tc kids).tm).length = (nmL ts kids.length ++ if kids.length = 0 then [] else [40] ++ txts (kids.map GT.tm) ++ [41]).length := by rw [GT.tm_mk, hk3, txt_nm, List.length_map]
              rw [h9, List.length_append] at hz
              omega
            have hqn := q_len ts
            refine cy_skip ?_
            refine ny_next ?_
            refine cy_seq ?_
            refine cy_region ?_
            refine sy_field fld_24_2 rfl rfl rfl ?_
            refine sy_ldh one_9 rfl (Hp.blk hbx 2 _ rfl) rfl rfl ?_
            refine sy_call rfl call_40 rfl (rquote_c ts _ hgs) rfl rfl ?_
            rw [quoteB_q]
            refine sy_assign rfl rfl rfl ?_
            refine sy_nil rfl ?_
            refine ny_next ?_
            refine cy_seq ?_
            refine cy_seq ?_
            refine cy_region ?_
            refine sy_field fld_24_3 rfl rfl rfl ?_
            refine sy_ldh one_22 rfl (Hp.blk hbx 3 _ rfl) rfl rfl ?_
            refine sy_len rfl (len_slice Tryz.underlying22 _ _ _) rfl rfl ?_
            refine sy_cmp rfl rfl rfl rfl rfl ?_
            refine sy_nil rfl ?_
            refine ny_next ?_
            refine cy_cond rfl (fun hc48 => ?_) (fun hc48 => ?_)
            · have hk0 : kids.length = 0 := by have := eq_of_beq hc48; omega
              have htx : txt (GT.mk tk tn ts tA tc kids).tm = qL ts := by rw [GT.tm_mk]; rw [txt_fun hk3, if_pos (by rw [List.length_map]; exact hk0)]
              rw [htx] at hz
              refine cy_seq ?_
              refine cy_region ?_
              refine sy_move rfl rfl rfl ?_
              refine sy_assign rfl rfl rfl ?_
              refine sy_nil rfl ?_
              refine ny_next ?_
              refine cy_ret ?_
              refine ny_thenR ?_
              refine ny_finR (res1 rfl rfl) (fun w hs => ⟨?_, hs.frm⟩)
              rw [htx]
            · have hk0 : ¬ kids.length = 0 := by
                intro h9
                rw [h9] at hc48
                simp at hc48
              have htx : txt (GT.mk tk tn ts tA tc kids).tm = nmL ts kids.length ++ [40] ++ txts (kids.map GT.tm) ++ [41] := by rw [GT.tm_mk]; rw [txt_fun hk3, if_neg (by rw [List.length_map]; exact hk0), List.length_map]
              rw [htx] at hz
              simp only [List.length_append, List.length_cons, List.length_nil] at hz
              refine cy_skip ?_
              refine ny_next ?_
              refine cy_seq ?_
              refine cy_seq ?_
              refine cy_region ?_
              refine sy_field fld_24_2 rfl rfl rfl ?_
              refine sy_ldh one_9 rfl (Hp.blk hbx 2 _ rfl) rfl rfl ?_
              refine sy_eqs rfl rfl rfl rfl ?_
              refine sy_nil rfl ?_
              refine ny_next ?_
              refine cy_cond rfl (fun hc52 => ?_) (fun hc52 => ?_)
              · have hnm : nmL ts kids.length = [39, 91, 93, 39] := by unfold nmL; rw [if_pos ⟨ba_inj (eq_of_beq hc52), by omega⟩]
                refine cy_region ?_
                refine sy_assign rfl rfl rfl ?_
                refine sy_nil rfl ?_
                refine ny_next ?_
                refine cy_seq ?_
                refine cy_seq ?_
                refine cy_region ?_
                refine sy_assign rfl rfl rfl ?_
                refine sy_nil rfl ?_
                refine ny_next ?_
                refine cy_block ?_
                refine cy_loopK (ι := Nat) [1] rfl (fun i => i ≤ kids.length) (fun i => kids.length - i) (fun i => [(3, .string ⟨(nmL ts kids.length ++ preL kids (i)).toArray⟩), (4, .int .i64 (i : Int))]) (fun i => h1) (fun i => []) 0 [] (Nat.zero_le _) ⟨by show some _ = some (Value.string ⟨(nmL ts kids.length ++ preL kids 0).toArray⟩); rw [hnm]; first | rfl | (unfold preL; rw [if_pos rfl, List.append_nil]), rfl, trivial⟩ rfl rfl ?_
                rintro i hI
                have hpl := preL_len (l := kids) (i := i)
                refine cy_seq ?_
                refine cy_seq ?_
                refine cy_region ?_
                refine sy_move rfl rfl rfl ?_
                refine sy_field fld_24_3 rfl rfl rfl ?_
                refine sy_ldh one_22 rfl (Hp.blk hbx 3 _ rfl) rfl rfl ?_
                refine sy_len rfl (len_slice Tryz.underlying22 _ _ _) rfl rfl ?_
                refine sy_cmp rfl rfl rfl rfl rfl ?_
                refine sy_nil rfl ?_
                refine ny_next ?_
                refine cy_cond rfl (fun hc57 => ?_) (fun hc57 => ?_)
                · have hlti : i < kids.length := by have := of_decide_eq_true hc57; omega
                  refine cy_skip ?_
                  refine ny_next ?_
                  refine cy_seq ?_
                  refine cy_block ?_
                  refine cy_seq ?_
                  refine cy_seq ?_
                  refine cy_region ?_
                  refine sy_move rfl rfl rfl ?_
                  refine sy_cmp rfl rfl rfl rfl rfl ?_
                  refine sy_nil rfl ?_
                  refine ny_next ?_
                  refine cy_cond rfl (fun hc61 => ?_) (fun hc61 => ?_)
                  · have hi0 : i = 0 := by have := eq_of_beq hc61; omega
                    refine cy_region ?_
                    refine sy_move rfl rfl rfl ?_
                    refine sy_cat rfl rfl (by first | omega | (simp only [ByteArray.size_append, bsz, List.length_append, List.length_cons, List.length_nil, sz1, sz2]; omega) | (simp [ByteArray.size_append, bsz, sz1, sz2]; done)) rfl rfl ?_
                    refine sy_assign rfl rfl rfl ?_
                    refine sy_nil rfl ?_
                    refine ny_next ?_
                    refine cy_region ?_
                    refine sy_move rfl rfl rfl ?_
                    refine sy_field fld_24_3 rfl rfl rfl ?_
                    refine sy_ldh one_22 rfl (Hp.blk hbx 3 _ rfl) rfl rfl ?_
                    refine sy_move rfl rfl rfl ?_
                    have hsu0 : True := trivial
                    refine sy_idxR (fc := GT.cells) (es := kids) els_22 rfl rfl hr rfl (by omega) rfl rfl (fun e70 b70 o70 he70 hA70 hc70 => ?_)
                    have hsu := txts_succ he70
                    have hm1 := txts_mono kids (i + 1)
                    have hm2 := congrArg List.length hsu
                    simp only [List.length_append] at hm2
                    refine sy_ldah (vs := GT.cells e70) agg_24 rfl rfl hc70 rfl rfl ?_
                    refine sy_call rfl call_19 rfl (ih e70 (List.mem_of_getElem? he70) _ (hl.at he70) (hf.at he70) (by omega)) rfl rfl ?_
                    refine sy_cat rfl rfl (by first | omega | (simp only [ByteArray.size_append, bsz, List.length_append, List.length_cons, List.length_nil, sz1, sz2]; omega) | (simp [ByteArray.size_append, bsz, sz1, sz2]; done)) rfl rfl ?_
                    refine sy_assign rfl rfl rfl ?_
                    refine sy_nil rfl ?_
                    refine ny_blockN ?_
                    refine ny_next ?_
                    refine cy_region ?_
                    refine sy_move rfl rfl rfl ?_
                    refine sy_addi (z := ((i + 1 : Nat) : Int)) rfl rfl (by omega) (by omega) (by omega) rfl rfl ?_
                    refine sy_assign rfl rfl rfl ?_
                    refine sy_nil rfl ?_
                    refine ny_roundK [1] (i + 1) [] (show i + 1 ≤ kids.length by omega) (show kids.length - (i + 1) < kids.length - i by omega) rfl ⟨congrArg (fun b : ByteArray => some (Value.string b)) (by rw [preL_succ he70, if_pos hi0, ← List.append_assoc, ← List.append_assoc, ← ba_app, ← ba_app]; rfl), rfl, trivial⟩ rfl rfl
                  · have hi0 : ¬ i = 0 := by
                      intro h9
                      rw [h9] at hc61
                      simp at hc61
                    refine cy_region ?_
                    refine sy_move rfl rfl rfl ?_
                    refine sy_cat rfl rfl (by first | omega | (simp only [ByteArray.size_append, bsz, List.length_append, List.length_cons, List.length_nil, sz1, sz2]; omega) | (simp [ByteArray.size_append, bsz, sz1, sz2]; done)) rfl rfl ?_
                    refine sy_assign rfl rfl rfl ?_
                    refine sy_nil rfl ?_
                    refine ny_next ?_
                    refine cy_region ?_
                    refine sy_move rfl rfl rfl ?_
                    refine sy_field fld_24_3 rfl rfl rfl ?_
                    refine sy_ldh one_22 rfl (Hp.blk hbx 3 _ rfl) rfl rfl ?_
                    refine sy_move rfl rfl rfl ?_
                    have hsu0 : True := trivial
                    refine sy_idxR (fc := GT.cells) (es := kids) els_22 rfl rfl hr rfl (by omega) rfl rfl (fun e70 b70 o70 he70 hA70 hc70 => ?_)
                    have hsu := txts_succ he70
                    have hm1 := txts_mono kids (i + 1)
                    have hm2 := congrArg List.length hsu
                    simp only [List.length_append] at hm2
                    refine sy_ldah (vs := GT.cells e70) agg_24 rfl rfl hc70 rfl rfl ?_
                    refine sy_call rfl call_19 rfl (ih e70 (List.mem_of_getElem? he70) _ (hl.at he70) (hf.at he70) (by omega)) rfl rfl ?_
                    refine sy_cat rfl rfl (by first | omega | (simp only [ByteArray.size_append, bsz, List.length_append, List.length_cons, List.length_nil, sz1, sz2]; omega) | (simp [ByteArray.size_append, bsz, sz1, sz2]; done)) rfl rfl ?_
                    refine sy_assign rfl rfl rfl ?_
                    refine sy_nil rfl ?_
                    refine ny_blockN ?_
                    refine ny_next ?_
                    refine cy_region ?_
                    refine sy_move rfl rfl rfl ?_
                    refine sy_addi (z := ((i + 1 : Nat) : Int)) rfl rfl (by omega) (by omega) (by omega) rfl rfl ?_
                    refine sy_assign rfl rfl rfl ?_
                    refine sy_nil rfl ?_
                    refine ny_roundK [1] (i + 1) [] (show i + 1 ≤ kids.length by omega) (show kids.length - (i + 1) < kids.length - i by omega) rfl ⟨congrArg (fun b : ByteArray => some (Value.string b)) (by rw [preL_succ he70, if_neg hi0, ← List.append_assoc, ← List.append_assoc, ← ba_app, ← ba_app]; rfl), rfl, trivial⟩ rfl rfl
                · have hie : i = kids.length := by have := of_decide_eq_false hc57; omega
                  subst hie
                  refine cy_exit ?_
                  refine ny_thenE ?_
                  refine ny_thenE ?_
                  refine ny_blockX ?_
                  refine ny_next ?_
                  refine cy_seq ?_
                  refine cy_region ?_
                  refine sy_move rfl rfl rfl ?_
                  refine sy_cat rfl rfl (by first | omega | (simp only [ByteArray.size_append, bsz, List.length_append, List.length_cons, List.length_nil, sz1, sz2]; omega) | (simp [ByteArray.size_append, bsz, sz1, sz2]; done)) rfl rfl ?_
                  refine sy_assign rfl rfl rfl ?_
                  refine sy_nil rfl ?_
                  refine ny_next ?_
                  refine cy_ret ?_
                  refine ny_finR (res1 rfl rfl) (fun w hs => ⟨?_, hs.frm⟩)
                  rw [htx]
                  apply congrArg (fun b : ByteArray => Ending.returned (Value.string b))
                  rw [preL_all hk0]
                  apply ByteArray.ext
                  simp
              · have hnm : nmL ts kids.length = qL ts := by
                  unfold nmL
                  rw [if_neg]
                  rintro ⟨h9, _⟩
                  rw [h9] at hc52
                  exact absurd hc52 (by decide)
                refine cy_skip ?_
                refine ny_next ?_
                refine cy_seq ?_
                refine cy_seq ?_
                refine cy_region ?_
                refine sy_assign rfl rfl rfl ?_
                refine sy_nil rfl ?_
                refine ny_next ?_
                refine cy_block ?_
                refine cy_loopK (ι := Nat) [1] rfl (fun i => i ≤ kids.length) (fun i => kids.length - i) (fun i => [(3, .string ⟨(nmL ts kids.length ++ preL kids (i)).toArray⟩), (4, .int .i64 (i : Int))]) (fun i => h1) (fun i => []) 0 [] (Nat.zero_le _) ⟨by show some _ = some (Value.string ⟨(nmL ts kids.length ++ preL kids 0).toArray⟩); rw [hnm]; first | rfl | (unfold preL; rw [if_pos rfl, List.append_nil]), rfl, trivial⟩ rfl rfl ?_
                rintro i hI
                have hpl := preL_len (l := kids) (i := i)
                refine cy_seq ?_
                refine cy_seq ?_
                refine cy_region ?_
                refine sy_move rfl rfl rfl ?_
                refine sy_field fld_24_3 rfl rfl rfl ?_
                refine sy_ldh one_22 rfl (Hp.blk hbx 3 _ rfl) rfl rfl ?_
                refine sy_len rfl (len_slice Tryz.underlying22 _ _ _) rfl rfl ?_
                refine sy_cmp rfl rfl rfl rfl rfl ?_
                refine sy_nil rfl ?_
                refine ny_next ?_
                refine cy_cond rfl (fun hc57 => ?_) (fun hc57 => ?_)
                · have hlti : i < kids.length := by have := of_decide_eq_true hc57; omega
                  refine cy_skip ?_
                  refine ny_next ?_
                  refine cy_seq ?_
                  refine cy_block ?_
                  refine cy_seq ?_
                  refine cy_seq ?_
                  refine cy_region ?_
                  refine sy_move rfl rfl rfl ?_
                  refine sy_cmp rfl rfl rfl rfl rfl ?_
                  refine sy_nil rfl ?_
                  refine ny_next ?_
                  refine cy_cond rfl (fun hc61 => ?_) (fun hc61 => ?_)
                  · have hi0 : i = 0 := by have := eq_of_beq hc61; omega
                    refine cy_region ?_
                    refine sy_move rfl rfl rfl ?_
                    refine sy_cat rfl rfl (by first | omega | (simp only [ByteArray.size_append, bsz, List.length_append, List.length_cons, List.length_nil, sz1, sz2]; omega) | (simp [ByteArray.size_append, bsz, sz1, sz2]; done)) rfl rfl ?_
                    refine sy_assign rfl rfl rfl ?_
                    refine sy_nil rfl ?_
                    refine ny_next ?_
                    refine cy_region ?_
                    refine sy_move rfl rfl rfl ?_
                    refine sy_field fld_24_3 rfl rfl rfl ?_
                    refine sy_ldh one_22 rfl (Hp.blk hbx 3 _ rfl) rfl rfl ?_
                    refine sy_move rfl rfl rfl ?_
                    have hsu0 : True := trivial
                    refine sy_idxR (fc := GT.cells) (es := kids) els_22 rfl rfl hr rfl (by omega) rfl rfl (fun e70 b70 o70 he70 hA70 hc70 => ?_)
                    have hsu := txts_succ he70
                    have hm1 := txts_mono kids (i + 1)
                    have hm2 := congrArg List.length hsu
                    simp only [List.length_append] at hm2
                    refine sy_ldah (vs := GT.cells e70) agg_24 rfl rfl hc70 rfl rfl ?_
                    refine sy_call rfl call_19 rfl (ih e70 (List.mem_of_getElem? he70) _ (hl.at he70) (hf.at he70) (by omega)) rfl rfl ?_
                    refine sy_cat rfl rfl (by first | omega | (simp only [ByteArray.size_append, bsz, List.length_append, List.length_cons, List.length_nil, sz1, sz2]; omega) | (simp [ByteArray.size_append, bsz, sz1, sz2]; done)) rfl rfl ?_
                    refine sy_assign rfl rfl rfl ?_
                    refine sy_nil rfl ?_
                    refine ny_blockN ?_
                    refine ny_next ?_
                    refine cy_region ?_
                    refine sy_move rfl rfl rfl ?_
                    refine sy_addi (z := ((i + 1 : Nat) : Int)) rfl rfl (by omega) (by omega) (by omega) rfl rfl ?_
                    refine sy_assign rfl rfl rfl ?_
                    refine sy_nil rfl ?_
                    refine ny_roundK [1] (i + 1) [] (show i + 1 ≤ kids.length by omega) (show kids.length - (i + 1) < kids.length - i by omega) rfl ⟨congrArg (fun b : ByteArray => some (Value.string b)) (by rw [preL_succ he70, if_pos hi0, ← List.append_assoc, ← List.append_assoc, ← ba_app, ← ba_app]; rfl), rfl, trivial⟩ rfl rfl
                  · have hi0 : ¬ i = 0 := by
                      intro h9
                      rw [h9] at hc61
                      simp at hc61
                    refine cy_region ?_
                    refine sy_move rfl rfl rfl ?_
                    refine sy_cat rfl rfl (by first | omega | (simp only [ByteArray.size_append, bsz, List.length_append, List.length_cons, List.length_nil, sz1, sz2]; omega) | (simp [ByteArray.size_append, bsz, sz1, sz2]; done)) rfl rfl ?_
                    refine sy_assign rfl rfl rfl ?_
                    refine sy_nil rfl ?_
                    refine ny_next ?_
                    refine cy_region ?_
                    refine sy_move rfl rfl rfl ?_
                    refine sy_field fld_24_3 rfl rfl rfl ?_
                    refine sy_ldh one_22 rfl (Hp.blk hbx 3 _ rfl) rfl rfl ?_
                    refine sy_move rfl rfl rfl ?_
                    have hsu0 : True := trivial
                    refine sy_idxR (fc := GT.cells) (es := kids) els_22 rfl rfl hr rfl (by omega) rfl rfl (fun e70 b70 o70 he70 hA70 hc70 => ?_)
                    have hsu := txts_succ he70
                    have hm1 := txts_mono kids (i + 1)
                    have hm2 := congrArg List.length hsu
                    simp only [List.length_append] at hm2
                    refine sy_ldah (vs := GT.cells e70) agg_24 rfl rfl hc70 rfl rfl ?_
                    refine sy_call rfl call_19 rfl (ih e70 (List.mem_of_getElem? he70) _ (hl.at he70) (hf.at he70) (by omega)) rfl rfl ?_
                    refine sy_cat rfl rfl (by first | omega | (simp only [ByteArray.size_append, bsz, List.length_append, List.length_cons, List.length_nil, sz1, sz2]; omega) | (simp [ByteArray.size_append, bsz, sz1, sz2]; done)) rfl rfl ?_
                    refine sy_assign rfl rfl rfl ?_
                    refine sy_nil rfl ?_
                    refine ny_blockN ?_
                    refine ny_next ?_
                    refine cy_region ?_
                    refine sy_move rfl rfl rfl ?_
                    refine sy_addi (z := ((i + 1 : Nat) : Int)) rfl rfl (by omega) (by omega) (by omega) rfl rfl ?_
                    refine sy_assign rfl rfl rfl ?_
                    refine sy_nil rfl ?_
                    refine ny_roundK [1] (i + 1) [] (show i + 1 ≤ kids.length by omega) (show kids.length - (i + 1) < kids.length - i by omega) rfl ⟨congrArg (fun b : ByteArray => some (Value.string b)) (by rw [preL_succ he70, if_neg hi0, ← List.append_assoc, ← List.append_assoc, ← ba_app, ← ba_app]; rfl), rfl, trivial⟩ rfl rfl
                · have hie : i = kids.length := by have := of_decide_eq_false hc57; omega
                  subst hie
                  refine cy_exit ?_
                  refine ny_thenE ?_
                  refine ny_thenE ?_
                  refine ny_blockX ?_
                  refine ny_next ?_
                  refine cy_seq ?_
                  refine cy_region ?_
                  refine sy_move rfl rfl rfl ?_
                  refine sy_cat rfl rfl (by first | omega | (simp only [ByteArray.size_append, bsz, List.length_append, List.length_cons, List.length_nil, sz1, sz2]; omega) | (simp [ByteArray.size_append, bsz, sz1, sz2]; done)) rfl rfl ?_
                  refine sy_assign rfl rfl rfl ?_
                  refine sy_nil rfl ?_
                  refine ny_next ?_
                  refine cy_ret ?_
                  refine ny_finR (res1 rfl rfl) (fun w hs => ⟨?_, hs.frm⟩)
                  rw [htx]
                  apply congrArg (fun b : ByteArray => Ending.returned (Value.string b))
                  rw [preL_all hk0]
                  apply ByteArray.ext
                  simp
      · have hk4 : ¬ tk = 4 := by simpa using hg21
        have hk5 : ¬ (tk = 4 ∧ (kids.map GT.tm).length = 1) := fun h9 => hk4 h9.1
        refine sy_skip rfl rfl rfl ?_
        refine sy_skip rfl rfl rfl ?_
        refine sy_skip rfl rfl rfl ?_
        refine sy_skip rfl rfl rfl ?_
        refine sy_pickF rfl rfl rfl rfl ?_
        refine sy_nil rfl ?_
        refine ny_next ?_
        refine cy_condF rfl ?_
        refine cy_skip ?_
        refine ny_next ?_
        refine cy_seq ?_
        refine cy_seq ?_
        refine cy_region ?_
        refine sy_field fld_24_0 rfl rfl rfl ?_
        refine sy_ldh one_3 rfl (Hp.blk hbx 0 _ rfl) rfl rfl ?_
        refine sy_cmp rfl rfl rfl rfl rfl ?_
        refine sy_nil rfl ?_
        refine ny_next ?_
        refine cy_cond rfl (fun hc41 => ?_) (fun hc41 => ?_)
        · have hk3 : ¬ tk = 3 := by simpa using hc41
          have htx : txt (GT.mk tk tn ts tA tc kids).tm = [63] := by rw [GT.tm_mk]; exact txt_else hk1 hk2 hk3 hk5
          rw [htx] at hz
          refine cy_seq ?_
          refine cy_region ?_
          refine sy_assign rfl rfl rfl ?_
          refine sy_nil rfl ?_
          refine ny_next ?_
          refine cy_ret ?_
          refine ny_thenR ?_
          refine ny_finR (res1 rfl rfl) (fun w hs => ⟨?_, hs.frm⟩)
          first | (rw [htx]; done) | (rw [htx]; rfl)
        · have hk3 : tk = 3 := by simpa using hc41
          have hng := nm_ge ts kids.length
          have hgs : ts.size ≤ 70368744177600 := by
            have h9 : (txt (GT.mk tk tn ts tA tc kids).tm).length = (nmL ts kids.length ++ if kids.length = 0 then [] else [40] ++ txts (kids.map GT.tm) ++ [41]).length := by rw [GT.tm_mk, hk3, txt_nm, List.length_map]
            rw [h9, List.length_append] at hz
            omega
          have hqn := q_len ts
          refine cy_skip ?_
          refine ny_next ?_
          refine cy_seq ?_
          refine cy_region ?_
          refine sy_field fld_24_2 rfl rfl rfl ?_
          refine sy_ldh one_9 rfl (Hp.blk hbx 2 _ rfl) rfl rfl ?_
          refine sy_call rfl call_40 rfl (rquote_c ts _ hgs) rfl rfl ?_
          rw [quoteB_q]
          refine sy_assign rfl rfl rfl ?_
          refine sy_nil rfl ?_
          refine ny_next ?_
          refine cy_seq ?_
          refine cy_seq ?_
          refine cy_region ?_
          refine sy_field fld_24_3 rfl rfl rfl ?_
          refine sy_ldh one_22 rfl (Hp.blk hbx 3 _ rfl) rfl rfl ?_
          refine sy_len rfl (len_slice Tryz.underlying22 _ _ _) rfl rfl ?_
          refine sy_cmp rfl rfl rfl rfl rfl ?_
          refine sy_nil rfl ?_
          refine ny_next ?_
          refine cy_cond rfl (fun hc48 => ?_) (fun hc48 => ?_)
          · have hk0 : kids.length = 0 := by have := eq_of_beq hc48; omega
            have htx : txt (GT.mk tk tn ts tA tc kids).tm = qL ts := by rw [GT.tm_mk]; rw [txt_fun hk3, if_pos (by rw [List.length_map]; exact hk0)]
            rw [htx] at hz
            refine cy_seq ?_
            refine cy_region ?_
            refine sy_move rfl rfl rfl ?_
            refine sy_assign rfl rfl rfl ?_
            refine sy_nil rfl ?_
            refine ny_next ?_
            refine cy_ret ?_
            refine ny_thenR ?_
            refine ny_finR (res1 rfl rfl) (fun w hs => ⟨?_, hs.frm⟩)
            rw [htx]
          · have hk0 : ¬ kids.length = 0 := by
              intro h9
              rw [h9] at hc48
              simp at hc48
            have htx : txt (GT.mk tk tn ts tA tc kids).tm = nmL ts kids.length ++ [40] ++ txts (kids.map GT.tm) ++ [41] := by rw [GT.tm_mk]; rw [txt_fun hk3, if_neg (by rw [List.length_map]; exact hk0), List.length_map]
            rw [htx] at hz
            simp only [List.length_append, List.length_cons, List.length_nil] at hz
            refine cy_skip ?_
            refine ny_next ?_
            refine cy_seq ?_
            refine cy_seq ?_
            refine cy_region ?_
            refine sy_field fld_24_2 rfl rfl rfl ?_
            refine sy_ldh one_9 rfl (Hp.blk hbx 2 _ rfl) rfl rfl ?_
            refine sy_eqs rfl rfl rfl rfl ?_
            refine sy_nil rfl ?_
            refine ny_next ?_
            refine cy_cond rfl (fun hc52 => ?_) (fun hc52 => ?_)
            · have hnm : nmL ts kids.length = [39, 91, 93, 39] := by unfold nmL; rw [if_pos ⟨ba_inj (eq_of_beq hc52), by omega⟩]
              refine cy_region ?_
              refine sy_assign rfl rfl rfl ?_
              refine sy_nil rfl ?_
              refine ny_next ?_
              refine cy_seq ?_
              refine cy_seq ?_
              refine cy_region ?_
              refine sy_assign rfl rfl rfl ?_
              refine sy_nil rfl ?_
              refine ny_next ?_
              refine cy_block ?_
              refine cy_loopK (ι := Nat) [1] rfl (fun i => i ≤ kids.length) (fun i => kids.length - i) (fun i => [(3, .string ⟨(nmL ts kids.length ++ preL kids (i)).toArray⟩), (4, .int .i64 (i : Int))]) (fun i => h1) (fun i => []) 0 [] (Nat.zero_le _) ⟨by show some _ = some (Value.string ⟨(nmL ts kids.length ++ preL kids 0).toArray⟩); rw [hnm]; first | rfl | (unfold preL; rw [if_pos rfl, List.append_nil]), rfl, trivial⟩ rfl rfl ?_
              rintro i hI
              have hpl := preL_len (l := kids) (i := i)
              refine cy_seq ?_
              refine cy_seq ?_
              refine cy_region ?_
              refine sy_move rfl rfl rfl ?_
              refine sy_field fld_24_3 rfl rfl rfl ?_
              refine sy_ldh one_22 rfl (Hp.blk hbx 3 _ rfl) rfl rfl ?_
              refine sy_len rfl (len_slice Tryz.underlying22 _ _ _) rfl rfl ?_
              refine sy_cmp rfl rfl rfl rfl rfl ?_
              refine sy_nil rfl ?_
              refine ny_next ?_
              refine cy_cond rfl (fun hc57 => ?_) (fun hc57 => ?_)
              · have hlti : i < kids.length := by have := of_decide_eq_true hc57; omega
                refine cy_skip ?_
                refine ny_next ?_
                refine cy_seq ?_
                refine cy_block ?_
                refine cy_seq ?_
                refine cy_seq ?_
                refine cy_region ?_
                refine sy_move rfl rfl rfl ?_
                refine sy_cmp rfl rfl rfl rfl rfl ?_
                refine sy_nil rfl ?_
                refine ny_next ?_
                refine cy_cond rfl (fun hc61 => ?_) (fun hc61 => ?_)
                · have hi0 : i = 0 := by have := eq_of_beq hc61; omega
                  refine cy_region ?_
                  refine sy_move rfl rfl rfl ?_
                  refine sy_cat rfl rfl (by first | omega | (simp only [ByteArray.size_append, bsz, List.length_append, List.length_cons, List.length_nil, sz1, sz2]; omega) | (simp [ByteArray.size_append, bsz, sz1, sz2]; done)) rfl rfl ?_
                  refine sy_assign rfl rfl rfl ?_
                  refine sy_nil rfl ?_
                  refine ny_next ?_
                  refine cy_region ?_
                  refine sy_move rfl rfl rfl ?_
                  refine sy_field fld_24_3 rfl rfl rfl ?_
                  refine sy_ldh one_22 rfl (Hp.blk hbx 3 _ rfl) rfl rfl ?_
                  refine sy_move rfl rfl rfl ?_
                  have hsu0 : True := trivial
                  refine sy_idxR (fc := GT.cells) (es := kids) els_22 rfl rfl hr rfl (by omega) rfl rfl (fun e70 b70 o70 he70 hA70 hc70 => ?_)
                  have hsu := txts_succ he70
                  have hm1 := txts_mono kids (i + 1)
                  have hm2 := congrArg List.length hsu
                  simp only [List.length_append] at hm2
                  refine sy_ldah (vs := GT.cells e70) agg_24 rfl rfl hc70 rfl rfl ?_
                  refine sy_call rfl call_19 rfl (ih e70 (List.mem_of_getElem? he70) _ (hl.at he70) (hf.at he70) (by omega)) rfl rfl ?_
                  refine sy_cat rfl rfl (by first | omega | (simp only [ByteArray.size_append, bsz, List.length_append, List.length_cons, List.length_nil, sz1, sz2]; omega) | (simp [ByteArray.size_append, bsz, sz1, sz2]; done)) rfl rfl ?_
                  refine sy_assign rfl rfl rfl ?_
                  refine sy_nil rfl ?_
                  refine ny_blockN ?_
                  refine ny_next ?_
                  refine cy_region ?_
                  refine sy_move rfl rfl rfl ?_
                  refine sy_addi (z := ((i + 1 : Nat) : Int)) rfl rfl (by omega) (by omega) (by omega) rfl rfl ?_
                  refine sy_assign rfl rfl rfl ?_
                  refine sy_nil rfl ?_
                  refine ny_roundK [1] (i + 1) [] (show i + 1 ≤ kids.length by omega) (show kids.length - (i + 1) < kids.length - i by omega) rfl ⟨congrArg (fun b : ByteArray => some (Value.string b)) (by rw [preL_succ he70, if_pos hi0, ← List.append_assoc, ← List.append_assoc, ← ba_app, ← ba_app]; rfl), rfl, trivial⟩ rfl rfl
                · have hi0 : ¬ i = 0 := by
                    intro h9
                    rw [h9] at hc61
                    simp at hc61
                  refine cy_region ?_
                  refine sy_move rfl rfl rfl ?_
                  refine sy_cat rfl rfl (by first | omega | (simp only [ByteArray.size_append, bsz, List.length_append, List.length_cons, List.length_nil, sz1, sz2]; omega) | (simp [ByteArray.size_append, bsz, sz1, sz2]; done)) rfl rfl ?_
                  refine sy_assign rfl rfl rfl ?_
                  refine sy_nil rfl ?_
                  refine ny_next ?_
                  refine cy_region ?_
                  refine sy_move rfl rfl rfl ?_
                  refine sy_field fld_24_3 rfl rfl rfl ?_
                  refine sy_ldh one_22 rfl (Hp.blk hbx 3 _ rfl) rfl rfl ?_
                  refine sy_move rfl rfl rfl ?_
                  have hsu0 : True := trivial
                  refine sy_idxR (fc := GT.cells) (es := kids) els_22 rfl rfl hr rfl (by omega) rfl rfl (fun e70 b70 o70 he70 hA70 hc70 => ?_)
                  have hsu := txts_succ he70
                  have hm1 := txts_mono kids (i + 1)
                  have hm2 := congrArg List.length hsu
                  simp only [List.length_append] at hm2
                  refine sy_ldah (vs := GT.cells e70) agg_24 rfl rfl hc70 rfl rfl ?_
                  refine sy_call rfl call_19 rfl (ih e70 (List.mem_of_getElem? he70) _ (hl.at he70) (hf.at he70) (by omega)) rfl rfl ?_
                  refine sy_cat rfl rfl (by first | omega | (simp only [ByteArray.size_append, bsz, List.length_append, List.length_cons, List.length_nil, sz1, sz2]; omega) | (simp [ByteArray.size_append, bsz, sz1, sz2]; done)) rfl rfl ?_
                  refine sy_assign rfl rfl rfl ?_
                  refine sy_nil rfl ?_
                  refine ny_blockN ?_
                  refine ny_next ?_
                  refine cy_region ?_
                  refine sy_move rfl rfl rfl ?_
                  refine sy_addi (z := ((i + 1 : Nat) : Int)) rfl rfl (by omega) (by omega) (by omega) rfl rfl ?_
                  refine sy_assign rfl rfl rfl ?_
                  refine sy_nil rfl ?_
                  refine ny_roundK [1] (i + 1) [] (show i + 1 ≤ kids.length by omega) (show kids.length - (i + 1) < kids.length - i by omega) rfl ⟨congrArg (fun b : ByteArray => some (Value.string b)) (by rw [preL_succ he70, if_neg hi0, ← List.append_assoc, ← List.append_assoc, ← ba_app, ← ba_app]; rfl), rfl, trivial⟩ rfl rfl
              · have hie : i = kids.length := by have := of_decide_eq_false hc57; omega
                subst hie
                refine cy_exit ?_
                refine ny_thenE ?_
                refine ny_thenE ?_
                refine ny_blockX ?_
                refine ny_next ?_
                refine cy_seq ?_
                refine cy_region ?_
                refine sy_move rfl rfl rfl ?_
                refine sy_cat rfl rfl (by first | omega | (simp only [ByteArray.size_append, bsz, List.length_append, List.length_cons, List.length_nil, sz1, sz2]; omega) | (simp [ByteArray.size_append, bsz, sz1, sz2]; done)) rfl rfl ?_
                refine sy_assign rfl rfl rfl ?_
                refine sy_nil rfl ?_
                refine ny_next ?_
                refine cy_ret ?_
                refine ny_finR (res1 rfl rfl) (fun w hs => ⟨?_, hs.frm⟩)
                rw [htx]
                apply congrArg (fun b : ByteArray => Ending.returned (Value.string b))
                rw [preL_all hk0]
                apply ByteArray.ext
                simp
            · have hnm : nmL ts kids.length = qL ts := by
                unfold nmL
                rw [if_neg]
                rintro ⟨h9, _⟩
                rw [h9] at hc52
                exact absurd hc52 (by decide)
              refine cy_skip ?_
              refine ny_next ?_
              refine cy_seq ?_
              refine cy_seq ?_
              refine cy_region ?_
              refine sy_assign rfl rfl rfl ?_
              refine sy_nil rfl ?_
              refine ny_next ?_
              refine cy_block ?_
              refine cy_loopK (ι := Nat) [1] rfl (fun i => i ≤ kids.length) (fun i => kids.length - i) (fun i => [(3, .string ⟨(nmL ts kids.length ++ preL kids (i)).toArray⟩), (4, .int .i64 (i : Int))]) (fun i => h1) (fun i => []) 0 [] (Nat.zero_le _) ⟨by show some _ = some (Value.string ⟨(nmL ts kids.length ++ preL kids 0).toArray⟩); rw [hnm]; first | rfl | (unfold preL; rw [if_pos rfl, List.append_nil]), rfl, trivial⟩ rfl rfl ?_
              rintro i hI
              have hpl := preL_len (l := kids) (i := i)
              refine cy_seq ?_
              refine cy_seq ?_
              refine cy_region ?_
              refine sy_move rfl rfl rfl ?_
              refine sy_field fld_24_3 rfl rfl rfl ?_
              refine sy_ldh one_22 rfl (Hp.blk hbx 3 _ rfl) rfl rfl ?_
              refine sy_len rfl (len_slice Tryz.underlying22 _ _ _) rfl rfl ?_
              refine sy_cmp rfl rfl rfl rfl rfl ?_
              refine sy_nil rfl ?_
              refine ny_next ?_
              refine cy_cond rfl (fun hc57 => ?_) (fun hc57 => ?_)
              · have hlti : i < kids.length := by have := of_decide_eq_true hc57; omega
                refine cy_skip ?_
                refine ny_next ?_
                refine cy_seq ?_
                refine cy_block ?_
                refine cy_seq ?_
                refine cy_seq ?_
                refine cy_region ?_
                refine sy_move rfl rfl rfl ?_
                refine sy_cmp rfl rfl rfl rfl rfl ?_
                refine sy_nil rfl ?_
                refine ny_next ?_
                refine cy_cond rfl (fun hc61 => ?_) (fun hc61 => ?_)
                · have hi0 : i = 0 := by have := eq_of_beq hc61; omega
                  refine cy_region ?_
                  refine sy_move rfl rfl rfl ?_
                  refine sy_cat rfl rfl (by first | omega | (simp only [ByteArray.size_append, bsz, List.length_append, List.length_cons, List.length_nil, sz1, sz2]; omega) | (simp [ByteArray.size_append, bsz, sz1, sz2]; done)) rfl rfl ?_
                  refine sy_assign rfl rfl rfl ?_
                  refine sy_nil rfl ?_
                  refine ny_next ?_
                  refine cy_region ?_
                  refine sy_move rfl rfl rfl ?_
                  refine sy_field fld_24_3 rfl rfl rfl ?_
                  refine sy_ldh one_22 rfl (Hp.blk hbx 3 _ rfl) rfl rfl ?_
                  refine sy_move rfl rfl rfl ?_
                  have hsu0 : True := trivial
                  refine sy_idxR (fc := GT.cells) (es := kids) els_22 rfl rfl hr rfl (by omega) rfl rfl (fun e70 b70 o70 he70 hA70 hc70 => ?_)
                  have hsu := txts_succ he70
                  have hm1 := txts_mono kids (i + 1)
                  have hm2 := congrArg List.length hsu
                  simp only [List.length_append] at hm2
                  refine sy_ldah (vs := GT.cells e70) agg_24 rfl rfl hc70 rfl rfl ?_
                  refine sy_call rfl call_19 rfl (ih e70 (List.mem_of_getElem? he70) _ (hl.at he70) (hf.at he70) (by omega)) rfl rfl ?_
                  refine sy_cat rfl rfl (by first | omega | (simp only [ByteArray.size_append, bsz, List.length_append, List.length_cons, List.length_nil, sz1, sz2]; omega) | (simp [ByteArray.size_append, bsz, sz1, sz2]; done)) rfl rfl ?_
                  refine sy_assign rfl rfl rfl ?_
                  refine sy_nil rfl ?_
                  refine ny_blockN ?_
                  refine ny_next ?_
                  refine cy_region ?_
                  refine sy_move rfl rfl rfl ?_
                  refine sy_addi (z := ((i + 1 : Nat) : Int)) rfl rfl (by omega) (by omega) (by omega) rfl rfl ?_
                  refine sy_assign rfl rfl rfl ?_
                  refine sy_nil rfl ?_
                  refine ny_roundK [1] (i + 1) [] (show i + 1 ≤ kids.length by omega) (show kids.length - (i + 1) < kids.length - i by omega) rfl ⟨congrArg (fun b : ByteArray => some (Value.string b)) (by rw [preL_succ he70, if_pos hi0, ← List.append_assoc, ← List.append_assoc, ← ba_app, ← ba_app]; rfl), rfl, trivial⟩ rfl rfl
                · have hi0 : ¬ i = 0 := by
                    intro h9
                    rw [h9] at hc61
                    simp at hc61
                  refine cy_region ?_
                  refine sy_move rfl rfl rfl ?_
                  refine sy_cat rfl rfl (by first | omega | (simp only [ByteArray.size_append, bsz, List.length_append, List.length_cons, List.length_nil, sz1, sz2]; omega) | (simp [ByteArray.size_append, bsz, sz1, sz2]; done)) rfl rfl ?_
                  refine sy_assign rfl rfl rfl ?_
                  refine sy_nil rfl ?_
                  refine ny_next ?_
                  refine cy_region ?_
                  refine sy_move rfl rfl rfl ?_
                  refine sy_field fld_24_3 rfl rfl rfl ?_
                  refine sy_ldh one_22 rfl (Hp.blk hbx 3 _ rfl) rfl rfl ?_
                  refine sy_move rfl rfl rfl ?_
                  have hsu0 : True := trivial
                  refine sy_idxR (fc := GT.cells) (es := kids) els_22 rfl rfl hr rfl (by omega) rfl rfl (fun e70 b70 o70 he70 hA70 hc70 => ?_)
                  have hsu := txts_succ he70
                  have hm1 := txts_mono kids (i + 1)
                  have hm2 := congrArg List.length hsu
                  simp only [List.length_append] at hm2
                  refine sy_ldah (vs := GT.cells e70) agg_24 rfl rfl hc70 rfl rfl ?_
                  refine sy_call rfl call_19 rfl (ih e70 (List.mem_of_getElem? he70) _ (hl.at he70) (hf.at he70) (by omega)) rfl rfl ?_
                  refine sy_cat rfl rfl (by first | omega | (simp only [ByteArray.size_append, bsz, List.length_append, List.length_cons, List.length_nil, sz1, sz2]; omega) | (simp [ByteArray.size_append, bsz, sz1, sz2]; done)) rfl rfl ?_
                  refine sy_assign rfl rfl rfl ?_
                  refine sy_nil rfl ?_
                  refine ny_blockN ?_
                  refine ny_next ?_
                  refine cy_region ?_
                  refine sy_move rfl rfl rfl ?_
                  refine sy_addi (z := ((i + 1 : Nat) : Int)) rfl rfl (by omega) (by omega) (by omega) rfl rfl ?_
                  refine sy_assign rfl rfl rfl ?_
                  refine sy_nil rfl ?_
                  refine ny_roundK [1] (i + 1) [] (show i + 1 ≤ kids.length by omega) (show kids.length - (i + 1) < kids.length - i by omega) rfl ⟨congrArg (fun b : ByteArray => some (Value.string b)) (by rw [preL_succ he70, if_neg hi0, ← List.append_assoc, ← List.append_assoc, ← ba_app, ← ba_app]; rfl), rfl, trivial⟩ rfl rfl
              · have hie : i = kids.length := by have := of_decide_eq_false hc57; omega
                subst hie
                refine cy_exit ?_
                refine ny_thenE ?_
                refine ny_thenE ?_
                refine ny_blockX ?_
                refine ny_next ?_
                refine cy_seq ?_
                refine cy_region ?_
                refine sy_move rfl rfl rfl ?_
                refine sy_cat rfl rfl (by first | omega | (simp only [ByteArray.size_append, bsz, List.length_append, List.length_cons, List.length_nil, sz1, sz2]; omega) | (simp [ByteArray.size_append, bsz, sz1, sz2]; done)) rfl rfl ?_
                refine sy_assign rfl rfl rfl ?_
                refine sy_nil rfl ?_
                refine ny_next ?_
                refine cy_ret ?_
                refine ny_finR (res1 rfl rfl) (fun w hs => ⟨?_, hs.frm⟩)
                rw [htx]
                apply congrArg (fun b : ByteArray => Ending.returned (Value.string b))
                rw [preL_all hk0]
                apply ByteArray.ext
                simp
end Go.Proofs.YtanhhihechakhaaGreatDoor
set_option linter.unusedVariables false
set_option linter.unusedSimpArgs false
namespace Go.Proofs.YtanhhihechakhaaGreatDoor.WrP
open Go.RowKit Go.Proofs.YtanhhihechakhaaGreatDoor.E Go.Proofs.YtanhhihechakhaaGreatDoor.ReplP Go.Proofs.YtanhhihechakhaaGreatDoor.TokP Go.Proofs.YtanhhihechakhaaGreatDoor.TermP
def RB (ns : List ByteArray) (vs : List Tm) : List ByteArray := (rowsA ns vs).map fun r => ⟨r.toArray⟩
def strC (s : ByteArray) : List Value := [.string s]
theorem strC_len (l : List ByteArray) : ∀ c ∈ l.map strC, c.length = 1 := fun c hc => by
  obtain ⟨t, _, rfl⟩ := List.mem_map.1 hc
  rfl
theorem strC_snoc (l : List ByteArray) (s : ByteArray) : ((l ++ [s]).map strC).flatten = (l.map strC).flatten ++ [.string s] := by
  rw [List.map_append, List.flatten_append]
  simp [strC]
def lenA (ns : List ByteArray) : Nat := (ns.map fun s => s.size + 5).sum
def lenV (vs : List GT) : Nat := (vs.map fun t => (txt t.tm).length).sum
theorem sum_mem {α : Type} {f : α → Nat} : ∀ {l : List α} {i : Nat} {x : α}, l[i]? = some x → f x ≤ (l.map f).sum
  | [], i, x, h => by simp at h
  | y :: l, 0, x, h => by
    simp only [List.getElem?_cons_zero, Option.some.injEq] at h
    subst h
    rw [List.map_cons, List.sum_cons]
    omega
  | y :: l, i + 1, x, h => by
    rw [List.map_cons, List.sum_cons]
    have := sum_mem (f := f) (l := l) (i := i) (by simpa using h)
    omega
theorem lenA_at {ns : List ByteArray} {i : Nat} {n : ByteArray} (h : ns[i]? = some n) : n.size + 5 ≤ lenA ns := sum_mem (f := fun s : ByteArray => s.size + 5) h
theorem lenV_at {vs : List GT} {i : Nat} {t : GT} (h : vs[i]? = some t) : (txt t.tm).length ≤ lenV vs := sum_mem (f := fun t : GT => (txt t.tm).length) h
theorem joinL_len : ∀ r : List (List UInt8), (joinL r).length ≤ (r.map fun x => x.length + 2).sum
  | [] => Nat.zero_le _
  | x :: r => by
    unfold joinL
    rw [List.map_cons, List.sum_cons, List.length_append]
    have : (r.flatMap fun y => [44, 32] ++ y).length = (r.map fun x => x.length + 2).sum := by
      induction r with
      | nil => rfl
      | cons y r ih =>
        rw [List.flatMap_cons, List.length_append, ih, List.map_cons, List.sum_cons]
        simp only [List.length_append, List.length_cons, List.length_nil]
        omega
    omega
theorem rowsA_sum : ∀ (ns : List ByteArray) (vs : List GT), ((rowsA ns (vs.map GT.tm)).map fun x => x.length + 2).sum ≤ lenA ns + lenV vs
  | [], vs => by simp [rowsA]
  | n :: ns, [] => by simp [rowsA]
  | n :: ns, v :: vs => by
    have ih := rowsA_sum ns vs
    have e1 : lenA (n :: ns) = n.size + 5 + lenA ns := by unfold lenA; rw [List.map_cons, List.sum_cons]
    have e2 : lenV (v :: vs) = (txt v.tm).length + lenV vs := by unfold lenV; rw [List.map_cons, List.sum_cons]
    have e3 : n.data.toList.length = n.size := rfl
    rw [List.map_cons]
    simp only [rowsA]
    split
    · omega
    · rw [List.map_cons, List.sum_cons]
      simp only [List.length_append, List.length_cons, List.length_nil]
      omega
theorem joinA_len (ns : List ByteArray) (vs : List GT) : (joinL (rowsA ns (vs.map GT.tm))).length ≤ lenA ns + lenV vs := Nat.le_trans (joinL_len _) (rowsA_sum ns vs)
theorem rowsA_take_sum (ns : List ByteArray) (vs : List GT) (i : Nat) : lenA (ns.take i) + lenV vs ≤ lenA ns + lenV vs := by
  have : lenA (ns.take i) ≤ lenA ns := by
    unfold lenA
    conv => rhs; rw [← List.take_append_drop i ns, List.map_append, List.sum_append]
    omega
  omega
theorem join_eq (r : List (List UInt8)) : Lib.join r [44, 32] = joinL r := by
  cases r with
  | nil => rfl
  | cons x r =>
    rw [Lib.join_cons]
    show x ++ Lib.joinTail [44, 32] r = x ++ (r.flatMap fun y => [44, 32] ++ y)
    unfold Lib.joinTail
    rw [List.flatMap_def]
theorem RB_join (ns : List ByteArray) (vs : List Tm) : Lib.join ((RB ns vs).map (·.data.toList)) [44, 32] = joinL (rowsA ns vs) := by
  unfold RB
  rw [List.map_map, join_eq]
  congr 1
  induction rowsA ns vs with
  | nil => rfl
  | cons x r ih => rw [List.map_cons, ih]; rfl
theorem RB_succ {ns : List ByteArray} {vs : List GT} {i : Nat} {n : ByteArray} {v : GT} (h1 : ns[i]? = some n) (h2 : vs[i]? = some v) (hh : hidB n = false) : RB (ns.take (i + 1)) (vs.map GT.tm) = RB (ns.take i) (vs.map GT.tm) ++ [⟨(n.data.toList ++ [32, 61, 32] ++ txt v.tm).toArray⟩] := by
  unfold RB
  rw [rowsA_succ ns (vs.map GT.tm) i n v.tm h1 (by rw [List.getElem?_map, h2]; rfl), hh, List.map_append]
  rfl
theorem rowsA_hid {ns : List ByteArray} {vs : List GT} {i : Nat} {n : ByteArray} (h1 : ns[i]? = some n) (hh : hidB n = true ∨ vs.length ≤ i) : rowsA (ns.take (i + 1)) (vs.map GT.tm) = rowsA (ns.take i) (vs.map GT.tm) := by
  by_cases hl : vs.length ≤ i
  · rw [rowsA_more ns _ (i + 1) (by rw [List.length_map]; omega), rowsA_more ns _ i (by rw [List.length_map]; omega)]
  · have hv : vs[i]? = some (vs[i]'(by omega)) := List.getElem?_eq_getElem _
    rcases hh with hh | hh
    · rw [rowsA_succ ns (vs.map GT.tm) i n _ h1 (by rw [List.getElem?_map, hv]; rfl), hh, if_pos rfl, List.append_nil]
    · exact absurd hh hl
theorem RB_hid {ns : List ByteArray} {vs : List GT} {i : Nat} {n : ByteArray} (h1 : ns[i]? = some n) (hh : hidB n = true ∨ vs.length ≤ i) : RB (ns.take (i + 1)) (vs.map GT.tm) = RB (ns.take i) (vs.map GT.tm) := by unfold RB; rw [rowsA_hid h1 hh]
theorem rowsA_le : ∀ (ns : List ByteArray) (vs : List Tm), (rowsA ns vs).length ≤ ns.length
  | [], vs => by simp [rowsA]
  | n :: ns, [] => by simp [rowsA]
  | n :: ns, v :: vs => by
    have ih := rowsA_le ns vs
    simp only [rowsA]
    split
    · rw [List.length_cons]; omega
    · rw [List.length_cons, List.length_cons]; omega
theorem RB_le {ns : List ByteArray} {vs : List Tm} {i : Nat} : (RB (ns.take i) vs).length ≤ i := by
  unfold RB
  rw [List.length_map]
  have := rowsA_le (ns.take i) vs
  rw [List.length_take] at this
  omega
theorem hid_take (l : List UInt8) : (l.take 1 == [95]) = firstB (fun c => c == 95) l := by
  cases l with
  | nil => rfl
  | cons c t => simp [firstB]
theorem hid_nil {l : List UInt8} (h : ¬ 1 ≤ l.length) : firstB (fun c => c == 95) l = false := by
  cases l with
  | nil => rfl
  | cons c t => simp at h
theorem hid_at {s : ByteArray} {c : UInt8} (h : s.data.toList[0]? = some c) : hidB s = ((c.toNat : Int) == 95) := by
  unfold hidB
  cases hl : s.data.toList with
  | nil => rw [hl] at h; simp at h
  | cons d t =>
    rw [hl] at h
    simp only [List.getElem?_cons_zero, Option.some.injEq] at h
    subst h
    show (d == 95) = _
    rw [Bool.eq_iff_iff, beq_iff_eq, beq_iff_eq]
    constructor
    · intro h9; rw [h9]; rfl
    · intro h9; exact UInt8.toNat_inj.1 (by show d.toNat = 95; omega)
theorem ansL_ne {ns : List ByteArray} {vs : List Tm} (h : ¬ (RB ns vs).length = 0) : ansL ns vs = joinL (rowsA ns vs) := by
  unfold ansL
  rw [if_neg]
  intro h9
  unfold RB at h
  rw [h9] at h
  exact h rfl
theorem ansL_no {ns : List ByteArray} {vs : List Tm} (h : (RB ns vs).length = 0) : ansL ns vs = [121, 101, 115] := by
  unfold ansL
  rw [if_pos]
  unfold RB at h
  rw [List.length_map] at h
  exact List.eq_nil_of_length_eq_zero h
theorem joinA_nil {ns : List ByteArray} {vs : List Tm} : joinL (rowsA ns vs) = [] ↔ rowsA ns vs = [] := joinL_ne (rowsA_ne ns vs)
theorem joinA_succ {ns : List ByteArray} {vs : List GT} {i : Nat} {n : ByteArray} {v : GT} (h1 : ns[i]? = some n) (h2 : vs[i]? = some v) (hh : hidB n = false) : joinL (rowsA (ns.take (i + 1)) (vs.map GT.tm)) = joinL (rowsA (ns.take i) (vs.map GT.tm)) ++ (if rowsA (ns.take i) (vs.map GT.tm) = [] then [] else [44, 32]) ++ (n.data.toList ++ [32, 61, 32] ++ txt v.tm) := by
  rw [rowsA_succ ns (vs.map GT.tm) i n v.tm h1 (by rw [List.getElem?_map, h2]; rfl), hh, if_neg (by decide), joinL_snoc]
  by_cases h0 : rowsA (ns.take i) (vs.map GT.tm) = []
  · rw [if_pos h0, if_pos h0, h0]
    rfl
  · rw [if_neg h0, if_neg h0]
end Go.Proofs.YtanhhihechakhaaGreatDoor.WrP
set_option linter.unusedVariables false
set_option linter.unusedSimpArgs false
namespace Go.Proofs.YtanhhihechakhaaGreatDoor
open Go.RowKit Go.Proofs.YtanhhihechakhaaGreatDoor.E Go.Proofs.YtanhhihechakhaaGreatDoor.ReplP Go.Proofs.YtanhhihechakhaaGreatDoor.TokP Go.Proofs.YtanhhihechakhaaGreatDoor.TermP Go.Proofs.YtanhhihechakhaaGreatDoor.WrP
set_option maxRecDepth 100000 in
theorem hq2_c (s : ByteArray) (h : Hp) (hs : s.size ≤ 140737488355328) : C0 Tryz.prog 60 [.string s, .string ⟨#[95]⟩] h (.bool (hidB s)) := by
  refine enter0 Tryz.func60 rfl rfl rfl (fun w => ?_)
  refine cy_seq ?_
  refine cy_region ?_
  refine sy_assign rfl rfl rfl ?_
  refine sy_nil rfl ?_
  refine ny_next ?_
  refine cy_seq ?_
  refine cy_region ?_
  refine sy_move rfl rfl rfl ?_
  refine sy_len rfl (len_string Tryz.underlying9 _) rfl rfl ?_
  refine sy_move rfl rfl rfl ?_
  refine sy_len rfl (len_string Tryz.underlying9 _) rfl rfl ?_
  refine sy_cmp rfl rfl rfl rfl rfl ?_
  refine sy_move rfl rfl rfl ?_
  refine sy_cond (d := 10) _ rfl rfl (fun hg10 => ?_) (fun hg10 => ?_)
  · refine sy_move rfl rfl rfl ?_
    refine sy_move rfl rfl rfl ?_
    refine sy_len rfl (len_string Tryz.underlying9 _) rfl rfl ?_
    refine sy_strto (hi := 1) Tryz.underlying9 rfl rfl (by have := of_decide_eq_true hg10; have h8 : (⟨#[95]⟩ : ByteArray).size = 1 := rfl; omega) rfl rfl ?_
    refine sy_move rfl rfl rfl ?_
    refine sy_eqs rfl rfl rfl rfl ?_
    refine sy_pickT rfl rfl rfl rfl ?_
    refine sy_assign rfl rfl rfl ?_
    refine sy_nil rfl ?_
    refine ny_next ?_
    refine cy_ret ?_
    refine ny_finR (res1 rfl rfl) (fun w hs2 => ⟨?_, hs2.frm⟩)
    refine congrArg (fun b => Ending.returned (Value.bool b)) ?_
    first | (rw [ext_to]; exact hid_take _) | exact (hid_nil (by have h9 := of_decide_eq_false hg10; have h8 : (⟨#[95]⟩ : ByteArray).size = 1 := rfl; have h7 : s.data.toList.length = s.size := rfl; omega)).symm
  · refine sy_skip rfl rfl rfl ?_
    refine sy_skip rfl rfl rfl ?_
    refine sy_skip rfl rfl rfl ?_
    refine sy_skip rfl rfl rfl ?_
    refine sy_skip rfl rfl rfl ?_
    refine sy_skip rfl rfl rfl ?_
    refine sy_pickF rfl rfl rfl rfl ?_
    refine sy_assign rfl rfl rfl ?_
    refine sy_nil rfl ?_
    refine ny_next ?_
    refine cy_ret ?_
    refine ny_finR (res1 rfl rfl) (fun w hs2 => ⟨?_, hs2.frm⟩)
    refine congrArg (fun b => Ending.returned (Value.bool b)) ?_
    first | (rw [ext_to]; exact hid_take _) | exact (hid_nil (by have h9 := of_decide_eq_false hg10; have h8 : (⟨#[95]⟩ : ByteArray).size = 1 := rfl; have h7 : s.data.toList.length = s.size := rfl; omega)).symm
set_option maxRecDepth 100000 in
theorem hq_c (s : ByteArray) (h : Hp) (hs : s.size ≤ 140737488355328) : C0 Tryz.prog 41 [.string s, .string ⟨#[95]⟩] h (.bool (hidB s)) := by
  refine enter0 Tryz.func41 rfl rfl rfl (fun w => ?_)
  refine cy_seq ?_
  refine cy_region ?_
  refine sy_assign rfl rfl rfl ?_
  refine sy_nil rfl ?_
  refine ny_next ?_
  refine cy_seq ?_
  refine cy_region ?_
  refine sy_move rfl rfl rfl ?_
  refine sy_move rfl rfl rfl ?_
  refine sy_call rfl call_60 rfl (hq2_c s _ hs) rfl rfl ?_
  refine sy_assign rfl rfl rfl ?_
  refine sy_nil rfl ?_
  refine ny_next ?_
  refine cy_ret ?_
  refine ny_finR (res1 rfl rfl) (fun w hs => ⟨?_, hs.frm⟩)
  rfl
set_option maxRecDepth 100000 in
theorem answer_c (ns : List ByteArray) (A : Option Addr) (cA : Nat) (vs : List GT) (B : Option Addr) (cB : Nat) (h : Hp) (hN : RowsAt h A 1 (ns.map strC)) (hV : RowsAt h B 4 (vs.map GT.cells)) (hL : ∀ t ∈ vs, Lies h t ∧ Fits t) (ht : Tab10 h) (hn : ns.length ≤ 1048576) (hv : vs.length ≤ 1048576) (hz : lenA ns + lenV vs ≤ 1099511627776) : C0 Tryz.prog 20 [.slice A ns.length cA, .slice B vs.length cB] h (.string ⟨(ansL ns (vs.map GT.tm)).toArray⟩) := by
  have sz1 : ∀ a : UInt8, (⟨#[a]⟩ : ByteArray).size = 1 := fun _ => rfl
  have sz2 : ∀ a c : UInt8, (⟨#[a, c]⟩ : ByteArray).size = 2 := fun _ _ => rfl
  have sz3 : ∀ a c e : UInt8, (⟨#[a, c, e]⟩ : ByteArray).size = 3 := fun _ _ _ => rfl
  refine enter0 Tryz.func20 rfl rfl rfl (fun w => ?_)
  refine cy_seq ?_
  refine cy_region ?_
  refine sy_assign rfl rfl rfl ?_
  refine sy_nil rfl ?_
  refine ny_next ?_
  refine cy_seq ?_
  refine cy_region ?_
  refine sy_assign rfl rfl rfl ?_
  refine sy_nil rfl ?_
  refine ny_next ?_
  refine cy_seq ?_
  refine cy_seq ?_
  refine cy_region ?_
  refine sy_move rfl rfl rfl ?_
  refine sy_len rfl (len_slice Tryz.underlying37 _ _ _) rfl rfl ?_
  refine sy_move rfl rfl rfl ?_
  refine sy_nil rfl ?_
  refine ny_next ?_
  refine cy_block ?_
  refine cy_nilRow 9 1 ?_
  refine cy_loopK (ι := Nat × Value) [1, 8, 9] rfl (fun z => z.1 ≤ ns.length) (fun z => ns.length - z.1) (fun z => [(5, z.2), (10, .int .i64 (z.1 : Int))]) (fun z => h) (fun z => [Res.row z.2 9 1 (RB (ns.take z.1) (vs.map GT.tm)).length (((RB (ns.take z.1) (vs.map GT.tm)).map strC).flatten)]) (0, .slice none 0 0) [0] (Nat.zero_le _) ⟨rfl, rfl, trivial⟩ rfl rfl ?_
  rintro ⟨i, v5⟩ hI
  simp only at hI ⊢
  refine cy_seq ?_
  refine cy_region ?_
  refine sy_cmp rfl rfl rfl rfl rfl ?_
  refine sy_nil rfl ?_
  refine ny_next ?_
  refine cy_seq ?_
  refine cy_cond rfl (fun hc11 => ?_) (fun hc11 => ?_)
  · have hlti : i < ns.length := by have := of_decide_eq_true hc11; omega
    refine cy_skip ?_
    refine ny_next ?_
    refine cy_seq ?_
    refine cy_block ?_
    refine cy_seq ?_
    refine cy_region ?_
    refine sy_move rfl rfl rfl ?_
    refine sy_idxR (fc := strC) (es := ns) els_37 rfl rfl hN rfl (by omega) rfl rfl (fun e13 b13 o13 he13 hA13 hc13 => ?_)
    have hsa := lenA_at he13
    refine sy_ldh one_9 rfl (hc13 0 _ rfl) rfl rfl ?_
    refine sy_assign rfl rfl rfl ?_
    refine sy_assign rfl rfl rfl ?_
    refine sy_nil rfl ?_
    refine ny_next ?_
    refine cy_seq ?_
    refine cy_region ?_
    refine sy_move rfl rfl rfl ?_
    refine sy_move rfl rfl rfl ?_
    refine sy_len rfl (len_slice Tryz.underlying22 _ _ _) rfl rfl ?_
    refine sy_cmp rfl rfl rfl rfl rfl ?_
    refine sy_move rfl rfl rfl ?_
    refine sy_cond (d := 19) _ rfl rfl (fun hg19 => ?_) (fun hg19 => ?_)
    · have hnl : i < vs.length := by have := of_decide_eq_true hg19; omega
      refine sy_move rfl rfl rfl ?_
      refine sy_call rfl call_41 rfl (hq_c e13 _ (by omega)) rfl rfl ?_
      refine sy_not rfl rfl rfl ?_
      refine sy_pickT rfl rfl rfl rfl ?_
      refine sy_nil rfl ?_
      refine ny_next ?_
      refine cy_cond rfl (fun hc23 => ?_) (fun hc23 => ?_)
      · have hnh : hidB e13 = false := by simpa using hc23
        refine cy_region ?_
        refine sy_move rfl rfl rfl ?_
        refine sy_move rfl rfl rfl ?_
        refine sy_cat rfl rfl (by first | omega | (simp only [ByteArray.size_append, bsz, List.length_append, List.length_cons, List.length_nil, sz1, sz2, sz3]; omega) | (simp [ByteArray.size_append, bsz, sz1, sz2, sz3]; done)) rfl rfl ?_
        refine sy_move rfl rfl rfl ?_
        refine sy_move rfl rfl rfl ?_
        refine sy_idxR (fc := GT.cells) (es := vs) els_22 rfl rfl hV rfl (by omega) rfl rfl (fun e29 b29 o29 he29 hA29 hc29 => ?_)
        have hsv := lenV_at he29
        have hlf := hL e29 (List.mem_of_getElem? he29)
        refine sy_ldah (vs := GT.cells e29) agg_24 rfl rfl hc29 rfl rfl ?_
        refine sy_call rfl call_13 rfl (text_c e29 _ hlf.1 hlf.2 ht (by omega)) rfl rfl ?_
        refine sy_cat rfl rfl (by first | omega | (simp only [ByteArray.size_append, bsz, List.length_append, List.length_cons, List.length_nil, sz1, sz2, sz3]; omega) | (simp [ByteArray.size_append, bsz, sz1, sz2, sz3]; done)) rfl rfl ?_
        have hBA : e13 ++ ⟨#[32, 61, 32]⟩ ++ ⟨(txt e29.tm).toArray⟩ = (⟨(e13.data.toList ++ [32, 61, 32] ++ txt e29.tm).toArray⟩ : ByteArray) := by
          apply ByteArray.ext
          simp
        refine sy_buildSlice rfl (fun w => bsl_37_1_0 w) rfl rfl (fun b33 hb33 hM33 => ?_) (by simp)
        refine sy_append 1 0 row_37 (by decide) rfl rfl rfl rfl rfl rfl (by have h9 : (RB (ns.take i) (vs.map GT.tm)).length ≤ i := RB_le; omega) (by have h9 : (RB (ns.take i) (vs.map GT.tm)).length ≤ i := RB_le; simp only [maxLen]; omega) rfl rfl (fun v34 => ?_)
        refine sy_assign rfl rfl rfl ?_
        refine sy_nil rfl ?_
        refine ny_blockN ?_
        refine ny_next ?_
        refine cy_region ?_
        refine sy_addi (z := ((i + 1 : Nat) : Int)) rfl rfl (by omega) (by omega) (by omega) rfl rfl ?_
        refine sy_move rfl rfl rfl ?_
        refine sy_nil rfl ?_
        refine ny_roundK [1, 8, 9] (i + 1, v34) [0] (show i + 1 ≤ ns.length by omega) (show ns.length - (i + 1) < ns.length - i by omega) rfl ⟨rfl, rfl, trivial⟩ rfl (by show _ = some [Res.row v34 9 1 (RB (ns.take (i + 1)) (vs.map GT.tm)).length (((RB (ns.take (i + 1)) (vs.map GT.tm)).map strC).flatten)]; rw [RB_succ he13 he29 hnh, strC_snoc, List.length_append, ← hBA]; rfl)
      · have hnh : hidB e13 = true := by simpa using hc23
        refine cy_skip ?_
        refine ny_blockN ?_
        refine ny_next ?_
        refine cy_region ?_
        refine sy_addi (z := ((i + 1 : Nat) : Int)) rfl rfl (by omega) (by omega) (by omega) rfl rfl ?_
        refine sy_move rfl rfl rfl ?_
        refine sy_nil rfl ?_
        refine ny_roundK [1, 8, 9] (i + 1, v5) [0] (show i + 1 ≤ ns.length by omega) (show ns.length - (i + 1) < ns.length - i by omega) rfl ⟨rfl, rfl, trivial⟩ rfl (by show _ = some [Res.row v5 9 1 (RB (ns.take (i + 1)) (vs.map GT.tm)).length (((RB (ns.take (i + 1)) (vs.map GT.tm)).map strC).flatten)]; rw [RB_hid he13 (.inl hnh)]; rfl)
    · have hnl : vs.length ≤ i := by have := of_decide_eq_false hg19; omega
      refine sy_skip rfl rfl rfl ?_
      refine sy_skip rfl rfl rfl ?_
      refine sy_skip rfl rfl rfl ?_
      refine sy_pickF rfl rfl rfl rfl ?_
      refine sy_nil rfl ?_
      refine ny_next ?_
      refine cy_condF rfl ?_
      refine cy_skip ?_
      refine ny_blockN ?_
      refine ny_next ?_
      refine cy_region ?_
      refine sy_addi (z := ((i + 1 : Nat) : Int)) rfl rfl (by omega) (by omega) (by omega) rfl rfl ?_
      refine sy_move rfl rfl rfl ?_
      refine sy_nil rfl ?_
      refine ny_roundK [1, 8, 9] (i + 1, v5) [0] (show i + 1 ≤ ns.length by omega) (show ns.length - (i + 1) < ns.length - i by omega) rfl ⟨rfl, rfl, trivial⟩ rfl (by show _ = some [Res.row v5 9 1 (RB (ns.take (i + 1)) (vs.map GT.tm)).length (((RB (ns.take (i + 1)) (vs.map GT.tm)).map strC).flatten)]; rw [RB_hid he13 (.inr hnl)]; rfl)
  · have hie : i = ns.length := by have := of_decide_eq_false hc11; omega
    subst hie
    rw [List.take_length]
    refine cy_exit ?_
    refine ny_thenE ?_
    refine ny_thenE ?_
    refine ny_blockX ?_
    refine ny_next ?_
    refine cy_seq ?_
    refine cy_seq ?_
    refine cy_frzRow 0 rfl (fun _ _ => by simp) (fun A5 c5 h5 hv5 hlc5 hcm5 _ hle5 hcell5 => ?_)
    subst hv5
    have hr5 : RowsAt h5 A5 1 ((RB ns (vs.map GT.tm)).map strC) := rows_row (by decide) (strC_len _) hcell5
    replace ht := ht.le hle5
    have hrl : (RB ns (vs.map GT.tm)).length ≤ ns.length := by have h9 := RB_le (ns := ns) (vs := vs.map GT.tm) (i := ns.length); rwa [List.take_length] at h9
    have hjl := joinA_len ns vs
    refine cy_region ?_
    refine sy_move rfl rfl rfl ?_
    refine sy_len rfl (len_slice Tryz.underlying37 _ _ _) rfl rfl ?_
    refine sy_cmp rfl rfl rfl rfl rfl ?_
    refine sy_nil rfl ?_
    refine ny_next ?_
    refine cy_cond rfl (fun hc38 => ?_) (fun hc38 => ?_)
    · have hk0 : (RB ns (vs.map GT.tm)).length = 0 := by have := eq_of_beq hc38; omega
      refine cy_seq ?_
      refine cy_region ?_
      refine sy_assign rfl rfl rfl ?_
      refine sy_nil rfl ?_
      refine ny_next ?_
      refine cy_ret ?_
      refine ny_thenR ?_
      refine ny_finR (res1 rfl rfl) (fun w hs => ⟨?_, hs.frm⟩)
      refine congrArg (fun l : List UInt8 => Ending.returned (Value.string ⟨l.toArray⟩)) ?_
      exact (ansL_no hk0).symm
    · have hk0 : ¬ (RB ns (vs.map GT.tm)).length = 0 := by
        intro h9
        rw [h9] at hc38
        simp at hc38
      refine cy_skip ?_
      refine ny_next ?_
      refine cy_seq ?_
      refine cy_region ?_
      refine sy_move rfl rfl rfl ?_
      refine sy_call rfl call_42 rfl (join_c A5 c5 (RB ns (vs.map GT.tm)) ⟨#[44, 32]⟩ _ hr5 hlc5 (by omega) (by show (Lib.join ((RB ns (vs.map GT.tm)).map (·.data.toList)) [44, 32]).length ≤ _; rw [RB_join]; omega)) rfl rfl ?_
      refine sy_assign rfl rfl rfl ?_
      refine sy_nil rfl ?_
      refine ny_next ?_
      refine cy_ret ?_
      refine ny_finR (res1 rfl rfl) (fun w hs => ⟨?_, hs.frm⟩)
      refine congrArg (fun l : List UInt8 => Ending.returned (Value.string ⟨l.toArray⟩)) ?_
      first | (rw [ansL_ne hk0, ← RB_join]; done) | (rw [ansL_ne hk0, ← RB_join]; rfl)
set_option maxRecDepth 100000 in
theorem ranswer_c (ns : List ByteArray) (A : Option Addr) (cA : Nat) (vs : List GT) (B : Option Addr) (cB : Nat) (h : Hp) (hN : RowsAt h A 1 (ns.map strC)) (hV : RowsAt h B 4 (vs.map GT.cells)) (hL : ∀ t ∈ vs, Lies h t ∧ Fits t) (hn : ns.length ≤ 1048576) (hv : vs.length ≤ 1048576) (hz : lenA ns + lenV vs ≤ 1099511627776) : C0 Tryz.prog 21 [.slice A ns.length cA, .slice B vs.length cB] h (.string ⟨(ansL ns (vs.map GT.tm)).toArray⟩) := by
  have sz1 : ∀ a : UInt8, (⟨#[a]⟩ : ByteArray).size = 1 := fun _ => rfl
  have sz2 : ∀ a c : UInt8, (⟨#[a, c]⟩ : ByteArray).size = 2 := fun _ _ => rfl
  have sz3 : ∀ a c e : UInt8, (⟨#[a, c, e]⟩ : ByteArray).size = 3 := fun _ _ _ => rfl
  refine enter0 Tryz.func21 rfl rfl rfl (fun w => ?_)
  refine cy_seq ?_
  refine cy_region ?_
  refine sy_assign rfl rfl rfl ?_
  refine sy_nil rfl ?_
  refine ny_next ?_
  refine cy_seq ?_
  refine cy_region ?_
  refine sy_assign rfl rfl rfl ?_
  refine sy_nil rfl ?_
  refine ny_next ?_
  refine cy_seq ?_
  refine cy_seq ?_
  refine cy_region ?_
  refine sy_assign rfl rfl rfl ?_
  refine sy_nil rfl ?_
  refine ny_next ?_
  refine cy_block ?_
  refine cy_loopK (ι := Nat) [0, 1] rfl (fun i => i ≤ ns.length) (fun i => ns.length - i) (fun i => [(5, .string ⟨(joinL (rowsA (ns.take i) (vs.map GT.tm))).toArray⟩), (6, .int .i64 (i : Int))]) (fun i => h) (fun i => []) 0 [] (Nat.zero_le _) ⟨rfl, rfl, trivial⟩ rfl rfl ?_
  rintro i hI
  have hjl := joinA_len (ns.take i) vs
  have hjm := rowsA_take_sum ns vs i
  refine cy_seq ?_
  refine cy_seq ?_
  refine cy_region ?_
  refine sy_move rfl rfl rfl ?_
  refine sy_move rfl rfl rfl ?_
  refine sy_len rfl (len_slice Tryz.underlying37 _ _ _) rfl rfl ?_
  refine sy_cmp rfl rfl rfl rfl rfl ?_
  refine sy_move rfl rfl rfl ?_
  refine sy_cond (d := 11) _ rfl rfl (fun hg11 => ?_) (fun hg11 => ?_)
  · have hlti : i < ns.length := by have := of_decide_eq_true hg11; omega
    refine sy_move rfl rfl rfl ?_
    refine sy_move rfl rfl rfl ?_
    refine sy_len rfl (len_slice Tryz.underlying22 _ _ _) rfl rfl ?_
    refine sy_cmp rfl rfl rfl rfl rfl ?_
    refine sy_pickT rfl rfl rfl rfl ?_
    refine sy_nil rfl ?_
    refine ny_next ?_
    refine cy_cond rfl (fun hc16 => ?_) (fun hc16 => ?_)
    · have hltv : i < vs.length := by have := of_decide_eq_true hc16; omega
      refine cy_skip ?_
      refine ny_next ?_
      refine cy_seq ?_
      refine cy_block ?_
      refine cy_seq ?_
      refine cy_seq ?_
      refine cy_region ?_
      refine sy_move rfl rfl rfl ?_
      refine sy_move rfl rfl rfl ?_
      refine sy_idxR (fc := strC) (es := ns) els_37 rfl rfl hN rfl (by omega) rfl rfl (fun e21 b21 o21 he21 hA21 hc21 => ?_)
      have hsa := lenA_at he21
      refine sy_ldh one_9 rfl (hc21 0 _ rfl) rfl rfl ?_
      refine sy_len rfl (len_string Tryz.underlying9 _) rfl rfl ?_
      refine sy_cmp rfl rfl rfl rfl rfl ?_
      refine sy_move rfl rfl rfl ?_
      refine sy_cond (d := 25) _ rfl rfl (fun hg25 => ?_) (fun hg25 => ?_)
      · obtain ⟨e0, he0⟩ : ∃ e0, e21.data.toList[0]? = some e0 := ⟨_, List.getElem?_eq_getElem (by have := of_decide_eq_true hg25; show 0 < e21.size; omega)⟩
        have hh0 := hid_at he0
        refine sy_move rfl rfl rfl ?_
        refine sy_move rfl rfl rfl ?_
        refine sy_idxR (fc := strC) (es := ns) els_37 rfl rfl hN rfl (by omega) rfl rfl (fun e28 b28 o28 he28 hA28 hc28 => ?_)
        obtain rfl : e21 = e28 := Option.some.inj (he21.symm.trans he28)
        refine sy_ldh one_9 rfl (hc28 0 _ rfl) rfl rfl ?_
        refine sy_idxs (u := e0) Tryz.underlying9 rfl rfl (by omega) (ba_at (i := 0) he0) rfl rfl ?_
        refine sy_cmp rfl rfl rfl rfl rfl ?_
        refine sy_pickT rfl rfl rfl rfl ?_
        refine sy_nil rfl ?_
        refine ny_next ?_
        refine cy_cond rfl (fun hc32 => ?_) (fun hc32 => ?_)
        · have hnh : hidB e21 = true := hh0.trans hc32
          refine cy_exit ?_
          refine ny_thenE ?_
          refine ny_blockX ?_
          refine ny_next ?_
          refine cy_region ?_
          refine sy_move rfl rfl rfl ?_
          refine sy_addi (z := ((i + 1 : Nat) : Int)) rfl rfl (by omega) (by omega) (by omega) rfl rfl ?_
          refine sy_assign rfl rfl rfl ?_
          refine sy_nil rfl ?_
          refine ny_roundK [0, 1] (i + 1) [] (show i + 1 ≤ ns.length by omega) (show ns.length - (i + 1) < ns.length - i by omega) rfl ⟨congrArg (fun l : List UInt8 => some (Value.string ⟨l.toArray⟩)) (by rw [rowsA_hid he21 (.inl hnh)]), rfl, trivial⟩ rfl rfl
        · have hnh : hidB e21 = false := hh0.trans hc32
          refine cy_skip ?_
          refine ny_next ?_
          refine cy_seq ?_
          refine cy_seq ?_
          refine cy_region ?_
          refine sy_move rfl rfl rfl ?_
          refine sy_nes rfl rfl rfl rfl ?_
          refine sy_nil rfl ?_
          refine ny_next ?_
          refine cy_cond rfl (fun hc34 => ?_) (fun hc34 => ?_)
          · have hrn : ¬ rowsA (ns.take i) (vs.map GT.tm) = [] := fun h9 => by
              rw [h9] at hc34
              exact absurd hc34 (by decide)
            refine cy_region ?_
            refine sy_move rfl rfl rfl ?_
            refine sy_cat rfl rfl (by first | omega | (simp only [ByteArray.size_append, bsz, List.length_append, List.length_cons, List.length_nil, sz1, sz2, sz3]; omega) | (simp [ByteArray.size_append, bsz, sz1, sz2, sz3]; done)) rfl rfl ?_
            refine sy_assign rfl rfl rfl ?_
            refine sy_nil rfl ?_
            refine ny_next ?_
            refine cy_regionQ mixed (by kernel_rfl) ?_
            refine sy_move rfl rfl rfl ?_
            refine sy_move rfl rfl rfl ?_
            refine sy_move rfl rfl rfl ?_
            refine sy_idxR (fc := strC) (es := ns) els_37 rfl rfl hN rfl (by omega) rfl rfl (fun e40 b40 o40 he40 hA40 hc40 => ?_)
            obtain rfl : e21 = e40 := Option.some.inj (he21.symm.trans he40)
            refine sy_ldh one_9 rfl (hc40 0 _ rfl) rfl rfl ?_
            refine sy_cat rfl rfl (by first | omega | (simp only [ByteArray.size_append, bsz, List.length_append, List.length_cons, List.length_nil, sz1, sz2, sz3]; omega) | (simp [ByteArray.size_append, bsz, sz1, sz2, sz3]; done)) rfl rfl ?_
            refine sy_cat rfl rfl (by first | omega | (simp only [ByteArray.size_append, bsz, List.length_append, List.length_cons, List.length_nil, sz1, sz2, sz3]; omega) | (simp [ByteArray.size_append, bsz, sz1, sz2, sz3]; done)) rfl rfl ?_
            refine sy_move rfl rfl rfl ?_
            refine sy_move rfl rfl rfl ?_
            refine sy_idxR (fc := GT.cells) (es := vs) els_22 rfl rfl hV rfl (by omega) rfl rfl (fun e46 b46 o46 he46 hA46 hc46 => ?_)
            have hsv := lenV_at he46
            have hlf := hL e46 (List.mem_of_getElem? he46)
            refine sy_ldah (vs := GT.cells e46) agg_24 rfl rfl hc46 rfl rfl ?_
            refine sy_call rfl call_19 rfl (rtext_c e46 _ hlf.1 hlf.2 (by omega)) rfl rfl ?_
            refine sy_cat rfl rfl (by first | omega | (simp only [ByteArray.size_append, bsz, List.length_append, List.length_cons, List.length_nil, sz1, sz2, sz3]; omega) | (simp [ByteArray.size_append, bsz, sz1, sz2, sz3]; done)) rfl rfl ?_
            refine sy_assign rfl rfl rfl ?_
            refine sy_nil rfl ?_
            refine ny_blockN ?_
            refine ny_next ?_
            refine cy_region ?_
            refine sy_move rfl rfl rfl ?_
            refine sy_addi (z := ((i + 1 : Nat) : Int)) rfl rfl (by omega) (by omega) (by omega) rfl rfl ?_
            refine sy_assign rfl rfl rfl ?_
            refine sy_nil rfl ?_
            refine ny_roundK [0, 1] (i + 1) [] (show i + 1 ≤ ns.length by omega) (show ns.length - (i + 1) < ns.length - i by omega) rfl ⟨congrArg (fun b : ByteArray => some (Value.string b)) (by rw [joinA_succ he21 he46 hnh, if_neg hrn]; apply ByteArray.ext; simp), rfl, trivial⟩ rfl rfl
          · have hrn : rowsA (ns.take i) (vs.map GT.tm) = [] := joinA_nil.1 (by simpa using hc34)
            refine cy_skip ?_
            refine ny_next ?_
            refine cy_regionQ mixed (by kernel_rfl) ?_
            refine sy_move rfl rfl rfl ?_
            refine sy_move rfl rfl rfl ?_
            refine sy_move rfl rfl rfl ?_
            refine sy_idxR (fc := strC) (es := ns) els_37 rfl rfl hN rfl (by omega) rfl rfl (fun e40 b40 o40 he40 hA40 hc40 => ?_)
            obtain rfl : e21 = e40 := Option.some.inj (he21.symm.trans he40)
            refine sy_ldh one_9 rfl (hc40 0 _ rfl) rfl rfl ?_
            refine sy_cat rfl rfl (by first | omega | (simp only [ByteArray.size_append, bsz, List.length_append, List.length_cons, List.length_nil, sz1, sz2, sz3]; omega) | (simp [ByteArray.size_append, bsz, sz1, sz2, sz3]; done)) rfl rfl ?_
            refine sy_cat rfl rfl (by first | omega | (simp only [ByteArray.size_append, bsz, List.length_append, List.length_cons, List.length_nil, sz1, sz2, sz3]; omega) | (simp [ByteArray.size_append, bsz, sz1, sz2, sz3]; done)) rfl rfl ?_
            refine sy_move rfl rfl rfl ?_
            refine sy_move rfl rfl rfl ?_
            refine sy_idxR (fc := GT.cells) (es := vs) els_22 rfl rfl hV rfl (by omega) rfl rfl (fun e46 b46 o46 he46 hA46 hc46 => ?_)
            have hsv := lenV_at he46
            have hlf := hL e46 (List.mem_of_getElem? he46)
            refine sy_ldah (vs := GT.cells e46) agg_24 rfl rfl hc46 rfl rfl ?_
            refine sy_call rfl call_19 rfl (rtext_c e46 _ hlf.1 hlf.2 (by omega)) rfl rfl ?_
            refine sy_cat rfl rfl (by first | omega | (simp only [ByteArray.size_append, bsz, List.length_append, List.length_cons, List.length_nil, sz1, sz2, sz3]; omega) | (simp [ByteArray.size_append, bsz, sz1, sz2, sz3]; done)) rfl rfl ?_
            refine sy_assign rfl rfl rfl ?_
            refine sy_nil rfl ?_
            refine ny_blockN ?_
            refine ny_next ?_
            refine cy_region ?_
            refine sy_move rfl rfl rfl ?_
            refine sy_addi (z := ((i + 1 : Nat) : Int)) rfl rfl (by omega) (by omega) (by omega) rfl rfl ?_
            refine sy_assign rfl rfl rfl ?_
            refine sy_nil rfl ?_
            refine ny_roundK [0, 1] (i + 1) [] (show i + 1 ≤ ns.length by omega) (show ns.length - (i + 1) < ns.length - i by omega) rfl ⟨congrArg (fun b : ByteArray => some (Value.string b)) (by rw [joinA_succ he21 he46 hnh, if_pos hrn]; apply ByteArray.ext; simp), rfl, trivial⟩ rfl rfl
      · have hnh : hidB e21 = false := hid_nil (by have := of_decide_eq_false hg25; show ¬ 1 ≤ e21.size; omega)
        refine sy_skip rfl rfl rfl ?_
        refine sy_skip rfl rfl rfl ?_
        refine sy_skip rfl rfl rfl ?_
        refine sy_skip rfl rfl rfl ?_
        refine sy_skip rfl rfl rfl ?_
        refine sy_skip rfl rfl rfl ?_
        refine sy_pickF rfl rfl rfl rfl ?_
        refine sy_nil rfl ?_
        refine ny_next ?_
        refine cy_condF rfl ?_
        refine cy_skip ?_
        refine ny_next ?_
        refine cy_seq ?_
        refine cy_seq ?_
        refine cy_region ?_
        refine sy_move rfl rfl rfl ?_
        refine sy_nes rfl rfl rfl rfl ?_
        refine sy_nil rfl ?_
        refine ny_next ?_
        refine cy_cond rfl (fun hc34 => ?_) (fun hc34 => ?_)
        · have hrn : ¬ rowsA (ns.take i) (vs.map GT.tm) = [] := fun h9 => by
            rw [h9] at hc34
            exact absurd hc34 (by decide)
          refine cy_region ?_
          refine sy_move rfl rfl rfl ?_
          refine sy_cat rfl rfl (by first | omega | (simp only [ByteArray.size_append, bsz, List.length_append, List.length_cons, List.length_nil, sz1, sz2, sz3]; omega) | (simp [ByteArray.size_append, bsz, sz1, sz2, sz3]; done)) rfl rfl ?_
          refine sy_assign rfl rfl rfl ?_
          refine sy_nil rfl ?_
          refine ny_next ?_
          refine cy_regionQ mixed (by kernel_rfl) ?_
          refine sy_move rfl rfl rfl ?_
          refine sy_move rfl rfl rfl ?_
          refine sy_move rfl rfl rfl ?_
          refine sy_idxR (fc := strC) (es := ns) els_37 rfl rfl hN rfl (by omega) rfl rfl (fun e40 b40 o40 he40 hA40 hc40 => ?_)
          obtain rfl : e21 = e40 := Option.some.inj (he21.symm.trans he40)
          refine sy_ldh one_9 rfl (hc40 0 _ rfl) rfl rfl ?_
          refine sy_cat rfl rfl (by first | omega | (simp only [ByteArray.size_append, bsz, List.length_append, List.length_cons, List.length_nil, sz1, sz2, sz3]; omega) | (simp [ByteArray.size_append, bsz, sz1, sz2, sz3]; done)) rfl rfl ?_
          refine sy_cat rfl rfl (by first | omega | (simp only [ByteArray.size_append, bsz, List.length_append, List.length_cons, List.length_nil, sz1, sz2, sz3]; omega) | (simp [ByteArray.size_append, bsz, sz1, sz2, sz3]; done)) rfl rfl ?_
          refine sy_move rfl rfl rfl ?_
          refine sy_move rfl rfl rfl ?_
          refine sy_idxR (fc := GT.cells) (es := vs) els_22 rfl rfl hV rfl (by omega) rfl rfl (fun e46 b46 o46 he46 hA46 hc46 => ?_)
          have hsv := lenV_at he46
          have hlf := hL e46 (List.mem_of_getElem? he46)
          refine sy_ldah (vs := GT.cells e46) agg_24 rfl rfl hc46 rfl rfl ?_
          refine sy_call rfl call_19 rfl (rtext_c e46 _ hlf.1 hlf.2 (by omega)) rfl rfl ?_
          refine sy_cat rfl rfl (by first | omega | (simp only [ByteArray.size_append, bsz, List.length_append, List.length_cons, List.length_nil, sz1, sz2, sz3]; omega) | (simp [ByteArray.size_append, bsz, sz1, sz2, sz3]; done)) rfl rfl ?_
          refine sy_assign rfl rfl rfl ?_
          refine sy_nil rfl ?_
          refine ny_blockN ?_
          refine ny_next ?_
          refine cy_region ?_
          refine sy_move rfl rfl rfl ?_
          refine sy_addi (z := ((i + 1 : Nat) : Int)) rfl rfl (by omega) (by omega) (by omega) rfl rfl ?_
          refine sy_assign rfl rfl rfl ?_
          refine sy_nil rfl ?_
          refine ny_roundK [0, 1] (i + 1) [] (show i + 1 ≤ ns.length by omega) (show ns.length - (i + 1) < ns.length - i by omega) rfl ⟨congrArg (fun b : ByteArray => some (Value.string b)) (by rw [joinA_succ he21 he46 hnh, if_neg hrn]; apply ByteArray.ext; simp), rfl, trivial⟩ rfl rfl
        · have hrn : rowsA (ns.take i) (vs.map GT.tm) = [] := joinA_nil.1 (by simpa using hc34)
          refine cy_skip ?_
          refine ny_next ?_
          refine cy_regionQ mixed (by kernel_rfl) ?_
          refine sy_move rfl rfl rfl ?_
          refine sy_move rfl rfl rfl ?_
          refine sy_move rfl rfl rfl ?_
          refine sy_idxR (fc := strC) (es := ns) els_37 rfl rfl hN rfl (by omega) rfl rfl (fun e40 b40 o40 he40 hA40 hc40 => ?_)
          obtain rfl : e21 = e40 := Option.some.inj (he21.symm.trans he40)
          refine sy_ldh one_9 rfl (hc40 0 _ rfl) rfl rfl ?_
          refine sy_cat rfl rfl (by first | omega | (simp only [ByteArray.size_append, bsz, List.length_append, List.length_cons, List.length_nil, sz1, sz2, sz3]; omega) | (simp [ByteArray.size_append, bsz, sz1, sz2, sz3]; done)) rfl rfl ?_
          refine sy_cat rfl rfl (by first | omega | (simp only [ByteArray.size_append, bsz, List.length_append, List.length_cons, List.length_nil, sz1, sz2, sz3]; omega) | (simp [ByteArray.size_append, bsz, sz1, sz2, sz3]; done)) rfl rfl ?_
          refine sy_move rfl rfl rfl ?_
          refine sy_move rfl rfl rfl ?_
          refine sy_idxR (fc := GT.cells) (es := vs) els_22 rfl rfl hV rfl (by omega) rfl rfl (fun e46 b46 o46 he46 hA46 hc46 => ?_)
          have hsv := lenV_at he46
          have hlf := hL e46 (List.mem_of_getElem? he46)
          refine sy_ldah (vs := GT.cells e46) agg_24 rfl rfl hc46 rfl rfl ?_
          refine sy_call rfl call_19 rfl (rtext_c e46 _ hlf.1 hlf.2 (by omega)) rfl rfl ?_
          refine sy_cat rfl rfl (by first | omega | (simp only [ByteArray.size_append, bsz, List.length_append, List.length_cons, List.length_nil, sz1, sz2, sz3]; omega) | (simp [ByteArray.size_append, bsz, sz1, sz2, sz3]; done)) rfl rfl ?_
          refine sy_assign rfl rfl rfl ?_
          refine sy_nil rfl ?_
          refine ny_blockN ?_
          refine ny_next ?_
          refine cy_region ?_
          refine sy_move rfl rfl rfl ?_
          refine sy_addi (z := ((i + 1 : Nat) : Int)) rfl rfl (by omega) (by omega) (by omega) rfl rfl ?_
          refine sy_assign rfl rfl rfl ?_
          refine sy_nil rfl ?_
          refine ny_roundK [0, 1] (i + 1) [] (show i + 1 ≤ ns.length by omega) (show ns.length - (i + 1) < ns.length - i by omega) rfl ⟨congrArg (fun b : ByteArray => some (Value.string b)) (by rw [joinA_succ he21 he46 hnh, if_pos hrn]; apply ByteArray.ext; simp), rfl, trivial⟩ rfl rfl
    · have hall : rowsA (ns.take i) (vs.map GT.tm) = rowsA ns (vs.map GT.tm) := rowsA_more ns _ i (by have := of_decide_eq_false hc16; rw [List.length_map]; omega)
      refine cy_exit ?_
      refine ny_thenE ?_
      refine ny_thenE ?_
      refine ny_blockX ?_
      refine ny_next ?_
      refine cy_seq ?_
      refine cy_seq ?_
      rw [hall]
      refine cy_region ?_
      refine sy_move rfl rfl rfl ?_
      refine sy_eqs rfl rfl rfl rfl ?_
      refine sy_nil rfl ?_
      refine ny_next ?_
      refine cy_cond rfl (fun hc51 => ?_) (fun hc51 => ?_)
      · have hk0 : rowsA ns (vs.map GT.tm) = [] := joinA_nil.1 (by simpa using hc51)
        refine cy_seq ?_
        refine cy_region ?_
        refine sy_assign rfl rfl rfl ?_
        refine sy_nil rfl ?_
        refine ny_next ?_
        refine cy_ret ?_
        refine ny_thenR ?_
        refine ny_finR (res1 rfl rfl) (fun w hs => ⟨?_, hs.frm⟩)
        refine congrArg (fun l : List UInt8 => Ending.returned (Value.string ⟨l.toArray⟩)) ?_
        unfold ansL
        rw [if_pos hk0]
      · have hk0 : ¬ rowsA ns (vs.map GT.tm) = [] := fun h9 => by
          rw [h9] at hc51
          exact absurd hc51 (by decide)
        refine cy_skip ?_
        refine ny_next ?_
        refine cy_seq ?_
        refine cy_region ?_
        refine sy_move rfl rfl rfl ?_
        refine sy_assign rfl rfl rfl ?_
        refine sy_nil rfl ?_
        refine ny_next ?_
        refine cy_ret ?_
        refine ny_finR (res1 rfl rfl) (fun w hs => ⟨?_, hs.frm⟩)
        refine congrArg (fun l : List UInt8 => Ending.returned (Value.string ⟨l.toArray⟩)) ?_
        unfold ansL
        rw [if_neg hk0]
  · have hall : rowsA (ns.take i) (vs.map GT.tm) = rowsA ns (vs.map GT.tm) := by
      have h9 := of_decide_eq_false hg11
      rw [List.take_of_length_le (by omega)]
    refine sy_skip rfl rfl rfl ?_
    refine sy_skip rfl rfl rfl ?_
    refine sy_skip rfl rfl rfl ?_
    refine sy_skip rfl rfl rfl ?_
    refine sy_pickF rfl rfl rfl rfl ?_
    refine sy_nil rfl ?_
    refine ny_next ?_
    refine cy_condF rfl ?_
    refine cy_exit ?_
    refine ny_thenE ?_
    refine ny_thenE ?_
    refine ny_blockX ?_
    refine ny_next ?_
    refine cy_seq ?_
    refine cy_seq ?_
    rw [hall]
    refine cy_region ?_
    refine sy_move rfl rfl rfl ?_
    refine sy_eqs rfl rfl rfl rfl ?_
    refine sy_nil rfl ?_
    refine ny_next ?_
    refine cy_cond rfl (fun hc51 => ?_) (fun hc51 => ?_)
    · have hk0 : rowsA ns (vs.map GT.tm) = [] := joinA_nil.1 (by simpa using hc51)
      refine cy_seq ?_
      refine cy_region ?_
      refine sy_assign rfl rfl rfl ?_
      refine sy_nil rfl ?_
      refine ny_next ?_
      refine cy_ret ?_
      refine ny_thenR ?_
      refine ny_finR (res1 rfl rfl) (fun w hs => ⟨?_, hs.frm⟩)
      refine congrArg (fun l : List UInt8 => Ending.returned (Value.string ⟨l.toArray⟩)) ?_
      unfold ansL
      rw [if_pos hk0]
    · have hk0 : ¬ rowsA ns (vs.map GT.tm) = [] := fun h9 => by
        rw [h9] at hc51
        exact absurd hc51 (by decide)
      refine cy_skip ?_
      refine ny_next ?_
      refine cy_seq ?_
      refine cy_region ?_
      refine sy_move rfl rfl rfl ?_
      refine sy_assign rfl rfl rfl ?_
      refine sy_nil rfl ?_
      refine ny_next ?_
      refine cy_ret ?_
      refine ny_finR (res1 rfl rfl) (fun w hs => ⟨?_, hs.frm⟩)
      refine congrArg (fun l : List UInt8 => Ending.returned (Value.string ⟨l.toArray⟩)) ?_
      unfold ansL
      rw [if_neg hk0]
end Go.Proofs.YtanhhihechakhaaGreatDoor
set_option linter.unusedVariables false
set_option linter.unusedSimpArgs false
namespace Go.Proofs.YtanhhihechakhaaGreatDoor
open Go.RowKit Go.Proofs.YtanhhihechakhaaGreatDoor.E Go.Proofs.YtanhhihechakhaaGreatDoor.ReplP Go.Proofs.YtanhhihechakhaaGreatDoor.TokP Go.Proofs.YtanhhihechakhaaGreatDoor.TermP Go.Proofs.YtanhhihechakhaaGreatDoor.WrP
theorem lies_leaf (h : Hp) (k n : Int) (s : ByteArray) : Lies h (GT.mk k n s none 0 []) := .intro _ _ _ _ _ _ (Nat.le_refl _) (fun j c hj => by simp at hj) (fun t ht => (List.not_mem_nil ht).elim)
theorem fits_leaf {k n : Int} {s : ByteArray} (hk0 : -9223372036854775808 ≤ k) (hk1 : k ≤ 9223372036854775807) (hn0 : -9223372036854775808 ≤ n) (hn1 : n ≤ 9223372036854775807) (hs : s.size ≤ 140737488355328) : Fits (GT.mk k n s none 0 []) := .intro _ _ _ _ _ _ hk0 hk1 hn0 hn1 hs (by simp) (fun t ht => (List.not_mem_nil ht).elim)
theorem fits_kids {k n : Int} {s : ByteArray} {A : Option Addr} {c : Nat} {kids : List GT} (hk0 : -9223372036854775808 ≤ k) (hk1 : k ≤ 9223372036854775807) (hn0 : -9223372036854775808 ≤ n) (hn1 : n ≤ 9223372036854775807) (hs : s.size ≤ 140737488355328) (hl : kids.length ≤ 1048576) (hk : ∀ t ∈ kids, Fits t) : Fits (GT.mk k n s A c kids) := .intro _ _ _ _ _ _ hk0 hk1 hn0 hn1 hs (by omega) hk
theorem tm_leaf (k n : Int) (s : ByteArray) : (GT.mk k n s none 0 []).tm = .mk k n s [] := by rw [GT.tm_mk]; rfl
set_option maxRecDepth 100000 in
theorem shown08_c (h : Hp) (ht : Tab10 h) : C0 Tryz.prog 9 [] h (.bool true) := by
  refine enter0 Tryz.func9 rfl rfl rfl (fun w => ?_)
  refine cy_seq ?_
  refine cy_region ?_
  refine sy_assign rfl rfl rfl ?_
  refine sy_nil rfl ?_
  refine ny_next ?_
  refine cy_seq ?_
  refine cy_region ?_
  refine sy_call rfl call_25 rfl (let_c 1 _) rfl rfl ?_
  refine sy_call rfl call_23 rfl (atom_c ⟨#[65]⟩ _) rfl rfl ?_
  refine sy_buildSlice (cs := [(GT.mk 1 1 ⟨#[]⟩ none 0 []), (GT.mk 3 0 ⟨#[65]⟩ none 0 [])].flatMap GT.cells) rfl (fun w => bsl_22_2_0x1 w) rfl rfl (fun b3 hb3 hM3 => ?_) (by simp)
  refine sy_frz 0 rfl (by simp) (fun h3 hle3 hbx3 => ?_)
  have hr3 : RowsAt h3 (some ⟨b3, 0, none⟩) 4 ([(GT.mk 1 1 ⟨#[]⟩ none 0 []), (GT.mk 3 0 ⟨#[65]⟩ none 0 [])].map GT.cells) := rows_blk (by decide) (GT.cells_len _) hbx3
  replace ht := ht.le hle3
  refine sy_callx call_22 rfl (make_c ⟨#[102]⟩ (some ⟨b3, 0, none⟩) 2 [(GT.mk 1 1 ⟨#[]⟩ none 0 []), (GT.mk 3 0 ⟨#[65]⟩ none 0 [])] _ rfl hr3 (by decide)) rfl rfl (fun x4 h4 hx4 hle4 => ?_)
  obtain ⟨A4, c4⟩ := x4
  obtain ⟨hr4, hc4⟩ := hx4
  replace ht := ht.le hle4
  have hl4 : ∀ t ∈ [(GT.mk 1 1 ⟨#[]⟩ none 0 []), (GT.mk 3 0 ⟨#[65]⟩ none 0 [])], Lies h4 t ∧ Fits t := (fun t ht => by simp only [List.mem_cons, List.not_mem_nil, or_false] at ht; rcases ht with rfl | rfl <;> exact ⟨lies_leaf _ _ _ _, fits_leaf (by decide) (by decide) (by decide) (by decide) (by decide)⟩)
  have hT : txt (GT.mk 3 0 ⟨#[102]⟩ A4 c4 [(GT.mk 1 1 ⟨#[]⟩ none 0 []), (GT.mk 3 0 ⟨#[65]⟩ none 0 [])]).tm = [102, 40, 95, 49, 44, 39, 65, 39, 41] := by kernel_rfl
  refine sy_call rfl call_13 rfl (text_c (GT.mk 3 0 ⟨#[102]⟩ A4 c4 [(GT.mk 1 1 ⟨#[]⟩ none 0 []), (GT.mk 3 0 ⟨#[65]⟩ none 0 [])]) _ (.intro _ _ _ _ _ _ hc4 hr4 (fun t h9 => (hl4 t h9).1)) (fits_kids (by decide) (by decide) (by decide) (by decide) (by decide) (by decide) (fun t h9 => (hl4 t h9).2)) ht (by rw [hT]; decide)) rfl rfl ?_
  rw [hT]
  refine sy_eqs rfl rfl rfl rfl ?_
  refine sy_move rfl rfl rfl ?_
  refine sy_setT (d := 7) rfl rfl (by first | rfl | decide | kernel_rfl | (simp; done) | (simp_all; done)) ?_
  refine sy_buildSlice (cs := [.string ⟨#[88]⟩, .string ⟨#[95, 121]⟩]) rfl (fun w => bsl_37_2_0x1 w) rfl rfl (fun b8 hb8 hM8 => ?_) (by simp)
  refine sy_frz 0 rfl (by simp) (fun h8 hle8 hbx8 => ?_)
  have hr8 : RowsAt h8 (some ⟨b8, 0, none⟩) 1 ([(⟨#[88]⟩ : ByteArray), ⟨#[95, 121]⟩].map strC) := rows_blk (by decide) (strC_len _) hbx8
  replace ht := ht.le hle8
  refine sy_call rfl call_24 rfl (num_c (-3) _) rfl rfl ?_
  refine sy_call rfl call_24 rfl (num_c 4 _) rfl rfl ?_
  refine sy_buildSlice (cs := [(GT.mk 2 (-3) ⟨#[]⟩ none 0 []), (GT.mk 2 4 ⟨#[]⟩ none 0 [])].flatMap GT.cells) rfl (fun w => bsl_22_2_0x1 w) rfl rfl (fun b11 hb11 hM11 => ?_) (by simp)
  refine sy_frz 0 rfl (by simp) (fun h11 hle11 hbx11 => ?_)
  have hr11 : RowsAt h11 (some ⟨b11, 0, none⟩) 4 ([(GT.mk 2 (-3) ⟨#[]⟩ none 0 []), (GT.mk 2 4 ⟨#[]⟩ none 0 [])].map GT.cells) := rows_blk (by decide) (GT.cells_len _) hbx11
  replace ht := ht.le hle11
  replace hr8 := hr8.le hle11
  have hl11 : ∀ t ∈ [(GT.mk 2 (-3) ⟨#[]⟩ none 0 []), (GT.mk 2 4 ⟨#[]⟩ none 0 [])], Lies h11 t ∧ Fits t := (fun t ht => by simp only [List.mem_cons, List.not_mem_nil, or_false] at ht; rcases ht with rfl | rfl <;> exact ⟨lies_leaf _ _ _ _, fits_leaf (by decide) (by decide) (by decide) (by decide) (by decide)⟩)
  have hA : ansL [(⟨#[88]⟩ : ByteArray), ⟨#[95, 121]⟩] ([(GT.mk 2 (-3) ⟨#[]⟩ none 0 []), (GT.mk 2 4 ⟨#[]⟩ none 0 [])].map GT.tm) = [88, 32, 61, 32, 45, 51] := by kernel_rfl
  refine sy_call rfl call_20 rfl (answer_c [(⟨#[88]⟩ : ByteArray), ⟨#[95, 121]⟩] _ 2 [(GT.mk 2 (-3) ⟨#[]⟩ none 0 []), (GT.mk 2 4 ⟨#[]⟩ none 0 [])] _ 2 _ hr8 hr11 hl11 ht (by decide) (by decide) (Nat.le_of_ble_eq_true (by kernel_rfl))) rfl rfl ?_
  rw [hA]
  refine sy_eqs rfl rfl rfl rfl ?_
  refine sy_pickT rfl rfl rfl rfl ?_
  refine sy_move rfl rfl rfl ?_
  refine sy_setT (d := 15) rfl rfl (by first | rfl | decide | kernel_rfl | (simp; done) | (simp_all; done)) ?_
  refine sy_call rfl call_20 rfl (answer_c [] none 0 [] none 0 _ (fun j c hj => by simp at hj) (fun j c hj => by simp at hj) (fun t h9 => (List.not_mem_nil h9).elim) ht (by decide) (by decide) (by decide)) rfl rfl ?_
  rw [show ansL [] ([].map GT.tm) = [121, 101, 115] by kernel_rfl]
  refine sy_eqs rfl rfl rfl rfl ?_
  refine sy_pickT rfl rfl rfl rfl ?_
  refine sy_assign rfl rfl rfl ?_
  refine sy_nil rfl ?_
  refine ny_next ?_
  refine cy_ret ?_
  refine ny_finR (res1 rfl rfl) (fun w hs => ⟨?_, hs.frm⟩)
  first | rfl | kernel_rfl | (simp; done)
set_option maxRecDepth 100000 in
theorem texts08_c (t : GT) (ns : List ByteArray) (A : Option Addr) (cA : Nat) (vs : List GT) (B : Option Addr) (cB : Nat) (h : Hp) (hN : RowsAt h A 1 (ns.map strC)) (hV : RowsAt h B 4 (vs.map GT.cells)) (hL : ∀ t ∈ vs, Lies h t ∧ Fits t) (ht : Tab10 h) (hn : ns.length ≤ 1048576) (hv : vs.length ≤ 1048576) (hz : lenA ns + lenV vs ≤ 1099511627776) (hl : Lies h t) (hf : Fits t) (hzt : (txt t.tm).length ≤ 1099511627776) : C0 Tryz.prog 5 [.agg (GT.cells t).toArray, .slice A ns.length cA, .slice B vs.length cB] h (.bool true) := by
  show C0 Tryz.prog 5 [.agg #[.int .i64 t.k, .int .i64 t.n, .string t.s, .slice t.A t.kids.length t.c], _, _] h _
  refine enter0 Tryz.func5 rfl rfl rfl (fun w => ?_)
  refine cy_seq ?_
  refine cy_region ?_
  refine sy_box rfl rfl rfl rfl (fun b3 hb3 hM3 => ?_) (by simp)
  refine sy_assign rfl rfl rfl ?_
  refine sy_nil rfl ?_
  refine ny_next ?_
  refine cy_seq ?_
  refine cy_frz 0 rfl (by simp) (fun h1 hle1 hbx => ?_)
  replace hl := hl.le hle1
  replace ht := ht.le hle1
  replace hN := hN.le hle1
  replace hV := hV.le hle1
  replace hL := fun t h9 => (⟨(hL t h9).1.le hle1, (hL t h9).2⟩ : Lies h1 t ∧ Fits t)
  refine cy_region ?_
  refine sy_call rfl call_9 rfl (shown08_c _ ht) rfl rfl ?_
  refine sy_assign rfl rfl rfl ?_
  refine sy_nil rfl ?_
  refine ny_next ?_
  refine cy_seq ?_
  refine cy_seq ?_
  refine cy_region ?_
  refine sy_ldah (vs := GT.cells t) agg_24 rfl rfl (Hp.blk hbx) rfl rfl ?_
  refine sy_call rfl call_10 rfl (few_c t _ hl hf) rfl rfl ?_
  refine sy_not rfl rfl rfl ?_
  refine sy_move rfl rfl rfl ?_
  refine sy_cond (d := 13) _ rfl rfl (fun hg13 => ?_) (fun hg13 => ?_)
  · refine sy_skip rfl rfl rfl ?_
    refine sy_skip rfl rfl rfl ?_
    refine sy_skip rfl rfl rfl ?_
    refine sy_pickT rfl rfl rfl rfl ?_
    refine sy_nil rfl ?_
    refine ny_next ?_
    refine cy_condT rfl ?_
    refine cy_seq ?_
    refine cy_region ?_
    refine sy_move rfl rfl rfl ?_
    refine sy_assign rfl rfl rfl ?_
    refine sy_nil rfl ?_
    refine ny_next ?_
    refine cy_ret ?_
    refine ny_thenR ?_
    refine ny_finR (res1 rfl rfl) (fun w hs2 => ⟨?_, hs2.frm⟩)
    first | rfl | (simp; done)
  · refine sy_move rfl rfl rfl ?_
    refine sy_len rfl (len_slice Tryz.underlying22 _ _ _) rfl rfl ?_
    refine sy_cmp rfl rfl rfl rfl rfl ?_
    refine sy_pickF rfl rfl rfl rfl ?_
    refine sy_nil rfl ?_
    refine ny_next ?_
    refine cy_cond rfl (fun hc17 => ?_) (fun hc17 => ?_)
    · refine cy_seq ?_
      refine cy_region ?_
      refine sy_move rfl rfl rfl ?_
      refine sy_assign rfl rfl rfl ?_
      refine sy_nil rfl ?_
      refine ny_next ?_
      refine cy_ret ?_
      refine ny_thenR ?_
      refine ny_finR (res1 rfl rfl) (fun w hs2 => ⟨?_, hs2.frm⟩)
      first | rfl | (simp; done)
    · refine cy_skip ?_
      refine ny_next ?_
      refine cy_seq ?_
      refine cy_seq ?_
      refine cy_region ?_
      refine sy_assign rfl rfl rfl ?_
      refine sy_nil rfl ?_
      refine ny_next ?_
      refine cy_block ?_
      refine cy_loopK (ι := Nat) [1, 2, 3, 7] rfl (fun i => i ≤ vs.length) (fun i => vs.length - i) (fun i => [(8, .int .i64 (i : Int))]) (fun i => h1) (fun i => []) 0 [] (Nat.zero_le _) ⟨rfl, trivial⟩ rfl rfl ?_
      rintro i hI
      refine cy_seq ?_
      refine cy_seq ?_
      refine cy_region ?_
      refine sy_move rfl rfl rfl ?_
      refine sy_move rfl rfl rfl ?_
      refine sy_len rfl (len_slice Tryz.underlying22 _ _ _) rfl rfl ?_
      refine sy_cmp rfl rfl rfl rfl rfl ?_
      refine sy_nil rfl ?_
      refine ny_next ?_
      refine cy_cond rfl (fun hc22 => ?_) (fun hc22 => ?_)
      · have hlti : i < vs.length := by have := of_decide_eq_true hc22; omega
        refine cy_skip ?_
        refine ny_next ?_
        refine cy_seq ?_
        refine cy_block ?_
        refine cy_seq ?_
        refine cy_region ?_
        refine sy_move rfl rfl rfl ?_
        refine sy_move rfl rfl rfl ?_
        refine sy_idxR (fc := GT.cells) (es := vs) els_22 rfl rfl hV rfl (by omega) rfl rfl (fun e27 b27 o27 he27 hA27 hc27 => ?_)
        refine sy_ldah (vs := GT.cells e27) agg_24 rfl rfl hc27 rfl rfl ?_
        refine sy_call rfl call_10 rfl (few_c e27 _ (hL e27 (List.mem_of_getElem? he27)).1 (hL e27 (List.mem_of_getElem? he27)).2) rfl rfl ?_
        refine sy_not rfl rfl rfl ?_
        refine sy_nil rfl ?_
        refine ny_next ?_
        refine cy_cond rfl (fun hc30 => ?_) (fun hc30 => ?_)
        · refine cy_seq ?_
          refine cy_region ?_
          refine sy_move rfl rfl rfl ?_
          refine sy_assign rfl rfl rfl ?_
          refine sy_nil rfl ?_
          refine ny_next ?_
          refine cy_ret ?_
          refine ny_blockR ?_
          refine ny_thenR ?_
          refine ny_thenR ?_
          refine ny_blockR ?_
          refine ny_thenR ?_
          refine ny_finR (res1 rfl rfl) (fun w hs2 => ⟨?_, hs2.frm⟩)
          first | rfl | (simp; done)
        · refine cy_skip ?_
          refine ny_blockN ?_
          refine ny_next ?_
          refine cy_region ?_
          refine sy_move rfl rfl rfl ?_
          refine sy_addi (z := ((i + 1 : Nat) : Int)) rfl rfl (by omega) (by omega) (by omega) rfl rfl ?_
          refine sy_assign rfl rfl rfl ?_
          refine sy_nil rfl ?_
          refine ny_roundK [1, 2, 3, 7] (i + 1) [] (show i + 1 ≤ vs.length by omega) (show vs.length - (i + 1) < vs.length - i by omega) rfl ⟨rfl, trivial⟩ rfl rfl
      · refine cy_exit ?_
        refine ny_thenE ?_
        refine ny_thenE ?_
        refine ny_blockX ?_
        refine ny_next ?_
        refine cy_seq ?_
        refine cy_regionQ mixed (by kernel_rfl) ?_
        refine sy_move rfl rfl rfl ?_
        refine sy_move rfl rfl rfl ?_
        refine sy_setT (d := 33) rfl rfl (by first | rfl | (simp; done)) ?_
        refine sy_ldah (vs := GT.cells t) agg_24 rfl rfl (Hp.blk hbx) rfl rfl ?_
        refine sy_call rfl call_13 rfl (text_c t _ hl hf ht (by omega)) rfl rfl ?_
        refine sy_ldah (vs := GT.cells t) agg_24 rfl rfl (Hp.blk hbx) rfl rfl ?_
        refine sy_call rfl call_19 rfl (rtext_c t _ hl hf (by omega)) rfl rfl ?_
        refine sy_eqs rfl rfl rfl rfl ?_
        refine sy_pickT rfl rfl rfl rfl ?_
        refine sy_move rfl rfl rfl ?_
        refine sy_setT (d := 40) rfl rfl (by first | rfl | (simp; done)) ?_
        refine sy_move rfl rfl rfl ?_
        refine sy_move rfl rfl rfl ?_
        refine sy_call rfl call_20 rfl (answer_c ns A cA vs B cB _ hN hV hL ht hn hv hz) rfl rfl ?_
        refine sy_move rfl rfl rfl ?_
        refine sy_move rfl rfl rfl ?_
        refine sy_call rfl call_21 rfl (ranswer_c ns A cA vs B cB _ hN hV hL hn hv hz) rfl rfl ?_
        refine sy_eqs rfl rfl rfl rfl ?_
        refine sy_pickT rfl rfl rfl rfl ?_
        refine sy_assign rfl rfl rfl ?_
        refine sy_nil rfl ?_
        refine ny_next ?_
        refine cy_ret ?_
        refine ny_finR (res1 rfl rfl) (fun w hs2 => ⟨?_, hs2.frm⟩)
        first | rfl | (simp; done)
end Go.Proofs.YtanhhihechakhaaGreatDoor
set_option linter.unusedVariables false
set_option linter.unusedSimpArgs false
namespace Go.Proofs.YtanhhihechakhaaGreatDoor
open Go.RowKit Go.Proofs.YtanhhihechakhaaGreatDoor.E Go.Proofs.YtanhhihechakhaaGreatDoor.ReplP Go.Proofs.YtanhhihechakhaaGreatDoor.TokP Go.Proofs.YtanhhihechakhaaGreatDoor.TermP Go.Proofs.YtanhhihechakhaaGreatDoor.WrP
theorem txt_atom (s : ByteArray) (A : Option Addr) (c : Nat) : txt (GT.mk 3 0 s A c []).tm = qL s := by rw [GT.tm_mk, List.map_nil, txt_fun rfl, List.length_nil, if_pos rfl]
theorem txt_num (n : Int) (s : ByteArray) (A : Option Addr) (c : Nat) : txt (GT.mk 2 n s A c []).tm = Lib.itoa n := by rw [GT.tm_mk]; exact txt_int (t := .mk _ _ _ _) rfl
theorem txt_let (n : Int) (s : ByteArray) (A : Option Addr) (c : Nat) : txt (GT.mk 1 n s A c []).tm = 95 :: Lib.itoa n := by rw [GT.tm_mk]; exact txt_var (t := .mk _ _ _ _) rfl
theorem q_same (a b : ByteArray) : ((qL a == qL b) == (a.data.toList == b.data.toList)) = true := by
  by_cases h : a = b
  · rw [h, beq_self_eq_true, beq_self_eq_true]; rfl
  · rw [beq_false_of_ne (fun h9 => h (ba_inj h9)), beq_false_of_ne (fun h9 => h (q_inj h9))]; rfl
theorem q_nint (a : ByteArray) (n : Int) : (!(qL a == Lib.itoa n)) = true := by rw [beq_false_of_ne (q_int a n)]; rfl
theorem int_nlet (n m : Int) : (!(Lib.itoa n == 95 :: Lib.itoa m)) = true := by rw [beq_false_of_ne (int_let n m)]; rfl
theorem u8_no {b : UInt8} {k : Nat} (hk : k < 256) (h : ¬ b = UInt8.ofNat k) : ((b.toNat : Int) == (k : Int)) = false := by
  rw [beq_eq_false_iff_ne]
  intro h9
  exact h (UInt8.toNat_inj.1 (by rw [UInt8.toNat_ofNat']; have : b.toNat < 256 := b.toNat_lt; omega))
theorem q_end {s : ByteArray} {e : UInt8} (h : (qL s)[0]? = some 39) (he : (qL s)[0]? = some e) : ((e.toNat : Int) != 39) = false := by
  rw [h] at he
  rw [← Option.some.inj he]
  rfl
theorem ans_x (t : Tm) : ansL [⟨#[88]⟩] [t] = [88, 32, 61, 32] ++ txt t := by
  have h : rowsA [⟨#[88]⟩] [t] = [[88] ++ [32, 61, 32] ++ txt t] := by simp [rowsA, hidB, firstB]
  unfold ansL
  rw [h, if_neg (by simp)]
  simp [joinL]
theorem ans_xx (t : Tm) : ansL [⟨#[88]⟩, ⟨#[89]⟩] [t] = [88, 32, 61, 32] ++ txt t := by
  have h : rowsA [⟨#[88]⟩, ⟨#[89]⟩] [t] = [[88] ++ [32, 61, 32] ++ txt t] := by simp [rowsA, hidB, firstB]
  unfold ansL
  rw [h, if_neg (by simp)]
  simp [joinL]
theorem ans_hy (t u : Tm) : ansL [⟨#[95]⟩, ⟨#[89]⟩] [t, u] = [89, 32, 61, 32] ++ txt u := by
  have h : rowsA [⟨#[95]⟩, ⟨#[89]⟩] [t, u] = [[89] ++ [32, 61, 32] ++ txt u] := by simp [rowsA, hidB, firstB]
  unfold ansL
  rw [h, if_neg (by simp)]
  simp [joinL]
theorem ans_xy (t u : Tm) : ansL [⟨#[88]⟩, ⟨#[89]⟩] [t, u] = [88, 32, 61, 32] ++ txt t ++ [44, 32] ++ ([89, 32, 61, 32] ++ txt u) := by
  have h : rowsA [⟨#[88]⟩, ⟨#[89]⟩] [t, u] = [[88] ++ [32, 61, 32] ++ txt t, [89] ++ [32, 61, 32] ++ txt u] := by simp [rowsA, hidB, firstB]
  unfold ansL
  rw [h, if_neg (by simp)]
  simp [joinL]
theorem dg10 (k : Nat) (h : k < 10) : (⟨#[UInt8.ofNat (48 + k)]⟩ : ByteArray) = ⟨(Lib.itoa (k : Int)).toArray⟩ := itoa_p1 (x := (k : Int)) (by omega) (by omega)
theorem txt_parts {s : ByteArray} (hs : ¬ s = brL) (A : Option Addr) (c : Nat) (a b : GT) : txt (GT.mk 3 0 s A c [a, b]).tm = qL s ++ [40] ++ txt a.tm ++ [44] ++ txt b.tm ++ [41] := by
  rw [GT.tm_mk, txt_fun rfl, List.length_map, if_neg (by simp)]
  have h : nmL s [a, b].length = qL s := by unfold nmL; exact if_neg (fun h => hs h.1)
  rw [h, List.map_cons, List.map_cons, List.map_nil, txts_cons, txtsC_cons, txtsC_nil]
  simp
theorem txt_sealed (n : Int) (s : ByteArray) (A : Option Addr) (c : Nat) (a : GT) : txt (GT.mk 4 n s A c [a]).tm = [64, 40] ++ txt a.tm ++ [44] ++ Lib.itoa n ++ [41] := by
  rw [GT.tm_mk, txt_seal rfl rfl, List.map_cons, List.map_nil, txts_one]
theorem duo {h : Hp} {a b : GT} (ha : Lies h a ∧ Fits a) (hb : Lies h b ∧ Fits b) : ∀ t ∈ [a, b], Lies h t ∧ Fits t := fun t h9 => by
  simp only [List.mem_cons, List.not_mem_nil, or_false] at h9
  rcases h9 with rfl | rfl
  · exact ha
  · exact hb
theorem uno {h : Hp} {a : GT} (ha : Lies h a ∧ Fits a) : ∀ t ∈ [a], Lies h t ∧ Fits t := fun t h9 => by
  rw [List.mem_singleton.1 h9]
  exact ha
set_option maxRecDepth 100000 in
theorem names08_c (a b : ByteArray) (n : Int) (h : Hp) (ha : a.size ≤ 1099511627776) (hb : b.size ≤ 1099511627776) (hn0 : -9223372036854775808 ≤ n) (hn1 : n ≤ 9223372036854775807) (ht : Tab10 h) : C0 Tryz.prog 7 [.string a, .string b, .int .i64 n] h (.bool true) := by
  have hqa := q_len a
  have hqb := q_len b
  have hil := itoa_len hn0 hn1
  refine enter0 Tryz.func7 rfl rfl rfl (fun w => ?_)
  refine cy_seq ?_
  refine cy_region ?_
  refine sy_assign rfl rfl rfl ?_
  refine sy_nil rfl ?_
  refine ny_next ?_
  refine cy_seq ?_
  refine cy_region ?_
  refine sy_call rfl call_9 rfl (shown08_c _ ht) rfl rfl ?_
  refine sy_assign rfl rfl rfl ?_
  refine sy_nil rfl ?_
  refine ny_next ?_
  refine cy_seq ?_
  refine cy_region ?_
  refine sy_move rfl rfl rfl ?_
  refine sy_call rfl call_23 rfl (atom_c a _) rfl rfl ?_
  refine sy_call rfl call_13 rfl (text_c (GT.mk 3 0 a none 0 []) _ (lies_leaf _ _ _ _) (fits_leaf (by decide) (by decide) (by decide) (by decide) (by omega)) ht (by rw [txt_atom]; omega)) rfl rfl ?_
  rw [txt_atom]
  refine sy_assign rfl rfl rfl ?_
  refine sy_nil rfl ?_
  refine ny_next ?_
  refine cy_seq ?_
  refine cy_region ?_
  refine sy_move rfl rfl rfl ?_
  refine sy_call rfl call_23 rfl (atom_c b _) rfl rfl ?_
  refine sy_call rfl call_13 rfl (text_c (GT.mk 3 0 b none 0 []) _ (lies_leaf _ _ _ _) (fits_leaf (by decide) (by decide) (by decide) (by decide) (by omega)) ht (by rw [txt_atom]; omega)) rfl rfl ?_
  rw [txt_atom]
  refine sy_assign rfl rfl rfl ?_
  refine sy_nil rfl ?_
  refine ny_next ?_
  refine cy_seq ?_
  refine cy_seq ?_
  refine cy_region ?_
  refine sy_assign rfl rfl rfl ?_
  refine sy_nil rfl ?_
  refine ny_next ?_
  refine cy_block ?_
  refine cy_loopK (ι := Nat) [0, 1, 2, 7, 8, 9] rfl (fun i => i ≤ (qL a).length) (fun i => (qL a).length - i) (fun i => [(10, .int .i64 (i : Int))]) (fun i => h) (fun i => []) 0 [] (Nat.zero_le _) ⟨rfl, trivial⟩ rfl rfl ?_
  rintro i hI
  refine cy_seq ?_
  refine cy_seq ?_
  refine cy_region ?_
  refine sy_move rfl rfl rfl ?_
  refine sy_move rfl rfl rfl ?_
  refine sy_len rfl (len_string Tryz.underlying9 _) rfl rfl ?_
  refine sy_cmp rfl rfl rfl rfl rfl ?_
  refine sy_nil rfl ?_
  refine ny_next ?_
  refine cy_cond rfl (fun hc21 => ?_) (fun hc21 => ?_)
  · have hlt : i < (qL a).length := by have h9 := of_decide_eq_true hc21; simp only [bsz] at h9; omega
    obtain ⟨ei, hei⟩ : ∃ e, (qL a)[i]? = some e := ⟨_, List.getElem?_eq_getElem hlt⟩
    obtain ⟨e0, he0⟩ : ∃ e, (qL a)[0]? = some e := ⟨_, List.getElem?_eq_getElem (by omega)⟩
    have hcl := q_clean hei
    refine cy_skip ?_
    refine ny_next ?_
    refine cy_seq ?_
    refine cy_block ?_
    refine cy_seq ?_
    refine cy_region ?_
    refine sy_move rfl rfl rfl ?_
    refine sy_move rfl rfl rfl ?_
    refine sy_idxs (u := ei) Tryz.underlying9 rfl rfl (by omega) (ba_at (i := i) hei) rfl rfl ?_
    refine sy_cmp rfl rfl rfl rfl rfl ?_
    refine sy_setF (d := 27) rfl rfl (u8_no (k := 10) (by decide) hcl.1) ?_
    refine sy_move rfl rfl rfl ?_
    refine sy_move rfl rfl rfl ?_
    refine sy_move rfl rfl rfl ?_
    refine sy_idxs (u := ei) Tryz.underlying9 rfl rfl (by omega) (ba_at (i := i) hei) rfl rfl ?_
    refine sy_cmp rfl rfl rfl rfl rfl ?_
    refine sy_move rfl rfl rfl ?_
    refine sy_cond (d := 33) _ rfl rfl (fun hg33 => ?_) (fun hg33 => ?_)
    · have h39 : (qL a)[0]? = some 39 := hcl.2 (UInt8.toNat_inj.1 (by have := eq_of_beq hg33; show ei.toNat = 32; omega))
      refine sy_move rfl rfl rfl ?_
      refine sy_idxs (u := e0) Tryz.underlying9 rfl rfl (by omega) (ba_at (i := 0) he0) rfl rfl ?_
      refine sy_cmp rfl rfl rfl rfl rfl ?_
      refine sy_setF (d := 36) rfl rfl (q_end h39 he0) ?_
      refine sy_pickT rfl rfl rfl rfl ?_
      refine sy_pickF rfl rfl rfl rfl ?_
      refine sy_nil rfl ?_
      refine ny_next ?_
      refine cy_condF rfl ?_
      refine cy_skip ?_
      refine ny_blockN ?_
      refine ny_next ?_
      refine cy_region ?_
      refine sy_move rfl rfl rfl ?_
      refine sy_addi (z := ((i + 1 : Nat) : Int)) rfl rfl (by omega) (by omega) (by omega) rfl rfl ?_
      refine sy_assign rfl rfl rfl ?_
      refine sy_nil rfl ?_
      refine ny_roundK [0, 1, 2, 7, 8, 9] (i + 1) [] (show i + 1 ≤ (qL a).length by omega) (show (qL a).length - (i + 1) < (qL a).length - i by omega) rfl ⟨rfl, trivial⟩ rfl rfl
    · refine sy_skip rfl rfl rfl ?_
      refine sy_skip rfl rfl rfl ?_
      refine sy_skip rfl rfl rfl ?_
      refine sy_pickF rfl rfl rfl rfl ?_
      refine sy_pickF rfl rfl rfl rfl ?_
      refine sy_nil rfl ?_
      refine ny_next ?_
      refine cy_condF rfl ?_
      refine cy_skip ?_
      refine ny_blockN ?_
      refine ny_next ?_
      refine cy_region ?_
      refine sy_move rfl rfl rfl ?_
      refine sy_addi (z := ((i + 1 : Nat) : Int)) rfl rfl (by omega) (by omega) (by omega) rfl rfl ?_
      refine sy_assign rfl rfl rfl ?_
      refine sy_nil rfl ?_
      refine ny_roundK [0, 1, 2, 7, 8, 9] (i + 1) [] (show i + 1 ≤ (qL a).length by omega) (show (qL a).length - (i + 1) < (qL a).length - i by omega) rfl ⟨rfl, trivial⟩ rfl rfl
  · refine cy_exit ?_
    refine ny_thenE ?_
    refine ny_thenE ?_
    refine ny_blockX ?_
    refine ny_next ?_
    refine cy_seq ?_
    refine cy_region ?_
    refine sy_move rfl rfl rfl ?_
    refine sy_move rfl rfl rfl ?_
    refine sy_setT (d := 40) rfl rfl (by first | rfl | (simp; done)) ?_
    refine sy_move rfl rfl rfl ?_
    refine sy_move rfl rfl rfl ?_
    refine sy_eqs rfl rfl rfl rfl ?_
    refine sy_move rfl rfl rfl ?_
    refine sy_move rfl rfl rfl ?_
    refine sy_eqs rfl rfl rfl rfl ?_
    refine sy_eqb Tryz.underlying4 rfl rfl rfl rfl ?_
    refine sy_setT (d := 47) rfl rfl (q_same a b) ?_
    refine sy_pickT rfl rfl rfl rfl ?_
    refine sy_move rfl rfl rfl ?_
    refine sy_move rfl rfl rfl ?_
    refine sy_move rfl rfl rfl ?_
    refine sy_call rfl call_24 rfl (num_c n _) rfl rfl ?_
    refine sy_call rfl call_13 rfl (text_c (GT.mk 2 n ⟨#[]⟩ none 0 []) _ (lies_leaf _ _ _ _) (fits_leaf (by decide) (by decide) hn0 hn1 (by decide)) ht (by rw [txt_num]; omega)) rfl rfl ?_
    rw [txt_num]
    refine sy_nes rfl rfl rfl rfl ?_
    refine sy_setT (d := 54) rfl rfl (q_nint a n) ?_
    refine sy_pickT rfl rfl rfl rfl ?_
    refine sy_move rfl rfl rfl ?_
    refine sy_move rfl rfl rfl ?_
    refine sy_call rfl call_24 rfl (num_c n _) rfl rfl ?_
    refine sy_call rfl call_13 rfl (text_c (GT.mk 2 n ⟨#[]⟩ none 0 []) _ (lies_leaf _ _ _ _) (fits_leaf (by decide) (by decide) hn0 hn1 (by decide)) ht (by rw [txt_num]; omega)) rfl rfl ?_
    rw [txt_num]
    refine sy_move rfl rfl rfl ?_
    refine sy_call rfl call_25 rfl (let_c n _) rfl rfl ?_
    refine sy_call rfl call_13 rfl (text_c (GT.mk 1 n ⟨#[]⟩ none 0 []) _ (lies_leaf _ _ _ _) (fits_leaf (by decide) (by decide) hn0 hn1 (by decide)) ht (by rw [txt_let, List.length_cons]; omega)) rfl rfl ?_
    rw [txt_let]
    refine sy_nes rfl rfl rfl rfl ?_
    refine sy_setT (d := 63) rfl rfl (int_nlet n n) ?_
    refine sy_pickT rfl rfl rfl rfl ?_
    refine sy_assign rfl rfl rfl ?_
    refine sy_nil rfl ?_
    refine ny_next ?_
    refine cy_ret ?_
    refine ny_finR (res1 rfl rfl) (fun w hs2 => ⟨?_, hs2.frm⟩)
    first | rfl | (simp; done)
theorem dg8 {k : Nat} (h : k < 10) : IntKind.u8.wrap (48 + (k : Int)) = ((UInt8.ofNat (48 + k)).toNat : Int) := by rw [IntWalk.u8_in (48 + (k : Int)) ⟨by omega, by omega⟩, UInt8.toNat_ofNat']; omega
set_option maxRecDepth 100000 in
theorem parts08_c (s : ByteArray) (a b : GT) (d : UInt8) (h : Hp) (hsz : s.size ≤ 1099511627776) (hla : Lies h a) (hfa : Fits a) (hlb : Lies h b) (hfb : Fits b) (hza : (txt a.tm).length ≤ 268435456) (hzb : (txt b.tm).length ≤ 268435456) (ht : Tab10 h) : C0 Tryz.prog 6 [.string s, .agg (GT.cells a).toArray, .agg (GT.cells b).toArray, .int .u8 (d.toNat : Int)] h (.bool true) := by
  have sz1 : ∀ a : UInt8, (⟨#[a]⟩ : ByteArray).size = 1 := fun _ => rfl
  have sz2 : ∀ a c : UInt8, (⟨#[a, c]⟩ : ByteArray).size = 2 := fun _ _ => rfl
  have sz3 : ∀ a c e : UInt8, (⟨#[a, c, e]⟩ : ByteArray).size = 3 := fun _ _ _ => rfl
  have sz4 : ∀ a c e f : UInt8, (⟨#[a, c, e, f]⟩ : ByteArray).size = 4 := fun _ _ _ _ => rfl
  have hqs := q_len s
  have hdn := d.toNat_lt
  show C0 Tryz.prog 6 [_, .agg #[.int .i64 a.k, .int .i64 a.n, .string a.s, .slice a.A a.kids.length a.c], .agg #[.int .i64 b.k, .int .i64 b.n, .string b.s, .slice b.A b.kids.length b.c], _] h _
  refine enter0 Tryz.func6 rfl rfl rfl (fun w => ?_)
  refine cy_seq ?_
  refine cy_region ?_
  refine sy_box rfl rfl rfl rfl (fun b5 hb5 hM5 => ?_) (by simp)
  refine sy_box rfl rfl rfl rfl (fun b6 hb6 hM6 => ?_) (by simp)
  refine sy_assign rfl rfl rfl ?_
  refine sy_nil rfl ?_
  refine ny_next ?_
  refine cy_seq ?_
  refine cy_frz 0 rfl (by simp) (fun h1 hle1 hbx1 => ?_)
  refine cy_frz 0 rfl (by simp) (fun h2 hle2 hbx2 => ?_)
  replace hbx1 := hle2 _ _ hbx1
  replace ht := (ht.le hle1).le hle2
  replace hla := (hla.le hle1).le hle2
  replace hlb := (hlb.le hle1).le hle2
  refine cy_region ?_
  refine sy_call rfl call_9 rfl (shown08_c _ ht) rfl rfl ?_
  refine sy_assign rfl rfl rfl ?_
  refine sy_nil rfl ?_
  refine ny_next ?_
  refine cy_seq ?_
  refine cy_seq ?_
  refine cy_region ?_
  refine sy_ldah (vs := GT.cells a) agg_24 rfl rfl (Hp.blk hbx2) rfl rfl ?_
  refine sy_call rfl call_10 rfl (few_c a _ hla hfa) rfl rfl ?_
  refine sy_not rfl rfl rfl ?_
  refine sy_move rfl rfl rfl ?_
  refine sy_cond (d := 18) _ rfl rfl (fun hg18 => ?_) (fun hg18 => ?_)
  · refine sy_skip rfl rfl rfl ?_
    refine sy_skip rfl rfl rfl ?_
    refine sy_skip rfl rfl rfl ?_
    refine sy_pickT rfl rfl rfl rfl ?_
    refine sy_move rfl rfl rfl ?_
    refine sy_skip rfl rfl rfl ?_
    refine sy_skip rfl rfl rfl ?_
    refine sy_pickT rfl rfl rfl rfl ?_
    refine sy_nil rfl ?_
    refine ny_next ?_
    refine cy_condT rfl ?_
    refine cy_seq ?_
    refine cy_region ?_
    refine sy_move rfl rfl rfl ?_
    refine sy_assign rfl rfl rfl ?_
    refine sy_nil rfl ?_
    refine ny_next ?_
    refine cy_ret ?_
    refine ny_thenR ?_
    refine ny_finR (res1 rfl rfl) (fun w hs2 => ⟨?_, hs2.frm⟩)
    first | rfl | (simp; done)
  · refine sy_ldah (vs := GT.cells b) agg_24 rfl rfl (Hp.blk hbx1) rfl rfl ?_
    refine sy_call rfl call_10 rfl (few_c b _ hlb hfb) rfl rfl ?_
    refine sy_not rfl rfl rfl ?_
    refine sy_pickF rfl rfl rfl rfl ?_
    refine sy_move rfl rfl rfl ?_
    refine sy_cond (d := 23) _ rfl rfl (fun hg23 => ?_) (fun hg23 => ?_)
    · refine sy_skip rfl rfl rfl ?_
      refine sy_skip rfl rfl rfl ?_
      refine sy_pickT rfl rfl rfl rfl ?_
      refine sy_nil rfl ?_
      refine ny_next ?_
      refine cy_condT rfl ?_
      refine cy_seq ?_
      refine cy_region ?_
      refine sy_move rfl rfl rfl ?_
      refine sy_assign rfl rfl rfl ?_
      refine sy_nil rfl ?_
      refine ny_next ?_
      refine cy_ret ?_
      refine ny_thenR ?_
      refine ny_finR (res1 rfl rfl) (fun w hs2 => ⟨?_, hs2.frm⟩)
      first | rfl | (simp; done)
    · skip
      refine sy_move rfl rfl rfl ?_
      refine sy_eqs rfl rfl rfl rfl ?_
      refine sy_pickF rfl rfl rfl rfl ?_
      refine sy_nil rfl ?_
      refine ny_next ?_
      refine cy_cond rfl (fun hc26 => ?_) (fun hc26 => ?_)
      · refine cy_seq ?_
        refine cy_region ?_
        refine sy_move rfl rfl rfl ?_
        refine sy_assign rfl rfl rfl ?_
        refine sy_nil rfl ?_
        refine ny_next ?_
        refine cy_ret ?_
        refine ny_thenR ?_
        refine ny_finR (res1 rfl rfl) (fun w hs2 => ⟨?_, hs2.frm⟩)
        first | rfl | (simp; done)
      · have hsb : ¬ s = brL := fun h9 => by
          rw [h9] at hc26
          exact absurd hc26 (by decide)
        refine cy_skip ?_
        refine ny_next ?_
        refine cy_seq ?_
        refine cy_region ?_
        refine sy_ldah (vs := GT.cells a) agg_24 rfl rfl (Hp.blk hbx2) rfl rfl ?_
        refine sy_call rfl call_13 rfl (text_c a _ hla hfa ht (by omega)) rfl rfl ?_
        refine sy_assign rfl rfl rfl ?_
        refine sy_nil rfl ?_
        refine ny_next ?_
        refine cy_seq ?_
        refine cy_region ?_
        refine sy_ldah (vs := GT.cells b) agg_24 rfl rfl (Hp.blk hbx1) rfl rfl ?_
        refine sy_call rfl call_13 rfl (text_c b _ hlb hfb ht (by omega)) rfl rfl ?_
        refine sy_assign rfl rfl rfl ?_
        refine sy_nil rfl ?_
        refine ny_next ?_
        refine cy_seq ?_
        refine cy_region ?_
        refine sy_move rfl rfl rfl ?_
        refine sy_rem8 (a := d.toNat) (b := 10) rfl rfl (by decide) (by decide) (by have := d.toNat_lt; omega) rfl rfl ?_
        refine sy_convi Tryz.underlying5 Tryz.underlying2 rfl (by omega) (by omega) rfl rfl ?_
        refine sy_ldah (vs := GT.cells a) agg_24 rfl rfl (Hp.blk hbx2) rfl rfl ?_
        refine sy_buildSlice (cs := [a].flatMap GT.cells) rfl (fun w => bsl_22_1_0 w) rfl rfl (fun b36 hb36 hM36 => ?_) (by simp)
        refine sy_frz 0 rfl (by simp) (fun h36 hle36 hb36x => ?_)
        have hr36 : RowsAt h36 (some ⟨b36, 0, none⟩) 4 ([a].map GT.cells) := rows_blk (by decide) (GT.cells_len _) hb36x
        replace hbx1 := hle36 _ _ hbx1
        replace hbx2 := hle36 _ _ hbx2
        replace hla := hla.le hle36
        replace hlb := hlb.le hle36
        replace ht := ht.le hle36
        refine sy_build rfl (fun w => bld_24_0x1x3 w) rfl rfl ?_
        refine sy_alloc zer_24 rfl rfl (fun b12 hb12 hM12 => ?_) (by simp)
        first | refine sy_stl 0 sz_24 rfl rfl rfl rfl rfl rfl rfl rfl ?_ | refine sy_stl 1 sz_24 rfl rfl rfl rfl rfl rfl rfl rfl ?_ | refine sy_stl 2 sz_24 rfl rfl rfl rfl rfl rfl rfl rfl ?_
        refine sy_nil rfl ?_
        refine ny_next ?_
        refine cy_seq ?_
        refine cy_frz 0 rfl (by simp) (fun h7 hle7 hbs => ?_)
        replace hbx1 := hle7 _ _ hbx1
        replace hbx2 := hle7 _ _ hbx2
        replace hla := hla.le hle7
        replace hlb := hlb.le hle7
        replace ht := ht.le hle7
        replace hr36 := hr36.le hle7
        have hlk : ∀ t ∈ [a], Lies h7 t ∧ Fits t := uno ⟨hla, hfa⟩
        have hls : Lies h7 (GT.mk 4 (((d.toNat % 10) : Nat) : Int) ⟨#[]⟩ (some ⟨b36, 0, none⟩) 1 [a]) := .intro _ _ _ _ _ _ (Nat.le_refl _) hr36 (fun t h9 => (hlk t h9).1)
        have hfs : Fits (GT.mk 4 (((d.toNat % 10) : Nat) : Int) ⟨#[]⟩ (some ⟨b36, 0, none⟩) 1 [a]) := fits_kids (by decide) (by decide) (by omega) (by omega) (by decide) (by simp) (fun t h9 => (hlk t h9).2)
        have hts := txt_sealed (((d.toNat % 10) : Nat) : Int) ⟨#[]⟩ (some ⟨b36, 0, none⟩) 1 a
        have hil := itoa_len (n := (((d.toNat % 10) : Nat) : Int)) (by omega) (by omega)
        have hzs : (txt (GT.mk 4 (((d.toNat % 10) : Nat) : Int) ⟨#[]⟩ (some ⟨b36, 0, none⟩) 1 [a]).tm).length ≤ 536870912 := by rw [hts]; simp only [List.length_append, List.length_cons, List.length_nil]; omega
        refine cy_region ?_
        refine sy_move rfl rfl rfl ?_
        refine sy_rem8 (a := d.toNat) (b := 10) rfl rfl (by decide) (by decide) (by have := d.toNat_lt; omega) rfl rfl ?_
        refine sy_add rfl rfl rfl rfl ?_
        refine sy_buildSlice rfl (fun w => bsl_40_1_0 w) rfl rfl (fun b41 hb41 hM41 => ?_) (by simp)
        refine sy_byte1 (u := UInt8.ofNat (48 + (d.toNat % 10))) 0 Tryz.underlying40 Tryz.underlying5 Tryz.underlying9 rfl rfl (dg8 (by omega)) rfl rfl ?_
        rw [dg10 _ (by omega)]
        refine sy_assign rfl rfl rfl ?_
        refine sy_nil rfl ?_
        refine ny_next ?_
        refine cy_seq ?_
        refine cy_region ?_
        refine sy_move rfl rfl rfl ?_
        refine sy_move rfl rfl rfl ?_
        refine sy_setT (d := 44) rfl rfl (by first | rfl | (simp; done)) ?_
        refine sy_move rfl rfl rfl ?_
        refine sy_ldah (vs := GT.cells a) agg_24 rfl rfl (Hp.blk hbx2) rfl rfl ?_
        refine sy_ldah (vs := GT.cells b) agg_24 rfl rfl (Hp.blk hbx1) rfl rfl ?_
        refine sy_buildSlice (cs := [a, b].flatMap GT.cells) rfl (fun w => bsl_22_2_0x1 w) rfl rfl (fun b48 hb48 hM48 => ?_) (by simp)
        refine sy_frz 0 rfl (by simp) (fun h48 hle48 hb48x => ?_)
        have hr48 : RowsAt h48 (some ⟨b48, 0, none⟩) 4 ([a, b].map GT.cells) := rows_blk (by decide) (GT.cells_len _) hb48x
        replace hbx1 := hle48 _ _ hbx1
        replace hbx2 := hle48 _ _ hbx2
        replace hbs := hle48 _ _ hbs
        replace hla := hla.le hle48
        replace hlb := hlb.le hle48
        replace ht := ht.le hle48
        replace hls := hls.le hle48
        refine sy_callx call_22 rfl (make_c s (some ⟨b48, 0, none⟩) 2 [a, b] _ rfl hr48 (by simp)) rfl rfl (fun x49 h49 hx49 hle49 => ?_)
        obtain ⟨A49, c49⟩ := x49
        obtain ⟨hr49, hc49⟩ := hx49
        replace hbx1 := hle49 _ _ hbx1
        replace hbx2 := hle49 _ _ hbx2
        replace hbs := hle49 _ _ hbs
        replace hla := hla.le hle49
        replace hlb := hlb.le hle49
        replace ht := ht.le hle49
        replace hls := hls.le hle49
        have hl49 : ∀ t ∈ [a, b], Lies h49 t ∧ Fits t := duo ⟨hla, hfa⟩ ⟨hlb, hfb⟩
        have htp := txt_parts hsb A49 c49 a b
        have hzp : (txt (GT.mk 3 0 s A49 c49 [a, b]).tm).length ≤ 8796093022208 := by rw [htp]; simp only [List.length_append, List.length_cons, List.length_nil]; omega
        refine sy_call rfl call_13 rfl (text_c (GT.mk 3 0 s A49 c49 [a, b]) _ (.intro _ _ _ _ _ _ hc49 hr49 (fun t h9 => (hl49 t h9).1)) (fits_kids (by decide) (by decide) (by decide) (by decide) (by omega) (by simp) (fun t h9 => (hl49 t h9).2)) ht (by omega)) rfl rfl ?_
        rw [htp]
        refine sy_move rfl rfl rfl ?_
        refine sy_call rfl call_23 rfl (atom_c s _) rfl rfl ?_
        refine sy_call rfl call_13 rfl (text_c (GT.mk 3 0 s none 0 []) _ (lies_leaf _ _ _ _) (fits_leaf (by decide) (by decide) (by decide) (by decide) (by omega)) ht (by rw [txt_atom]; omega)) rfl rfl ?_
        rw [txt_atom]
        refine sy_cat rfl rfl (by first | omega | (simp only [ByteArray.size_append, bsz, List.length_append, List.length_cons, List.length_nil, sz1, sz2, sz3, sz4]; omega) | (simp [ByteArray.size_append, bsz, sz1, sz2, sz3, sz4]; done)) rfl rfl ?_
        refine sy_move rfl rfl rfl ?_
        refine sy_cat rfl rfl (by first | omega | (simp only [ByteArray.size_append, bsz, List.length_append, List.length_cons, List.length_nil, sz1, sz2, sz3, sz4]; omega) | (simp [ByteArray.size_append, bsz, sz1, sz2, sz3, sz4]; done)) rfl rfl ?_
        refine sy_cat rfl rfl (by first | omega | (simp only [ByteArray.size_append, bsz, List.length_append, List.length_cons, List.length_nil, sz1, sz2, sz3, sz4]; omega) | (simp [ByteArray.size_append, bsz, sz1, sz2, sz3, sz4]; done)) rfl rfl ?_
        refine sy_move rfl rfl rfl ?_
        refine sy_cat rfl rfl (by first | omega | (simp only [ByteArray.size_append, bsz, List.length_append, List.length_cons, List.length_nil, sz1, sz2, sz3, sz4]; omega) | (simp [ByteArray.size_append, bsz, sz1, sz2, sz3, sz4]; done)) rfl rfl ?_
        refine sy_cat rfl rfl (by first | omega | (simp only [ByteArray.size_append, bsz, List.length_append, List.length_cons, List.length_nil, sz1, sz2, sz3, sz4]; omega) | (simp [ByteArray.size_append, bsz, sz1, sz2, sz3, sz4]; done)) rfl rfl ?_
        refine sy_eqs rfl rfl rfl rfl ?_
        refine sy_setT (d := 61) rfl rfl (by rw [beq_iff_eq]; simp) ?_
        refine sy_pickT rfl rfl rfl rfl ?_
        refine sy_move rfl rfl rfl ?_
        refine sy_ldah (vs := GT.cells (GT.mk 4 (((d.toNat % 10) : Nat) : Int) ⟨#[]⟩ (some ⟨b36, 0, none⟩) 1 [a])) agg_24 rfl rfl (Hp.blk hbs) rfl rfl ?_
        refine sy_call rfl call_13 rfl (text_c (GT.mk 4 (((d.toNat % 10) : Nat) : Int) ⟨#[]⟩ (some ⟨b36, 0, none⟩) 1 [a]) _ hls hfs ht (by omega)) rfl rfl ?_
        rw [hts]
        refine sy_move rfl rfl rfl ?_
        refine sy_cat rfl rfl (by first | omega | (simp only [ByteArray.size_append, bsz, List.length_append, List.length_cons, List.length_nil, sz1, sz2, sz3, sz4]; omega) | (simp [ByteArray.size_append, bsz, sz1, sz2, sz3, sz4]; done)) rfl rfl ?_
        refine sy_cat rfl rfl (by first | omega | (simp only [ByteArray.size_append, bsz, List.length_append, List.length_cons, List.length_nil, sz1, sz2, sz3, sz4]; omega) | (simp [ByteArray.size_append, bsz, sz1, sz2, sz3, sz4]; done)) rfl rfl ?_
        refine sy_move rfl rfl rfl ?_
        refine sy_cat rfl rfl (by first | omega | (simp only [ByteArray.size_append, bsz, List.length_append, List.length_cons, List.length_nil, sz1, sz2, sz3, sz4]; omega) | (simp [ByteArray.size_append, bsz, sz1, sz2, sz3, sz4]; done)) rfl rfl ?_
        refine sy_cat rfl rfl (by first | omega | (simp only [ByteArray.size_append, bsz, List.length_append, List.length_cons, List.length_nil, sz1, sz2, sz3, sz4]; omega) | (simp [ByteArray.size_append, bsz, sz1, sz2, sz3, sz4]; done)) rfl rfl ?_
        refine sy_eqs rfl rfl rfl rfl ?_
        refine sy_setT (d := 72) rfl rfl (by rw [beq_iff_eq]; simp) ?_
        refine sy_pickT rfl rfl rfl rfl ?_
        refine sy_assign rfl rfl rfl ?_
        refine sy_nil rfl ?_
        refine ny_next ?_
        refine cy_ret ?_
        refine ny_finR (res1 rfl rfl) (fun w hs2 => ⟨?_, hs2.frm⟩)
        first | rfl | (simp; done)
set_option maxRecDepth 100000 in
theorem answers08_c (a b : GT) (h : Hp) (hla : Lies h a) (hfa : Fits a) (hlb : Lies h b) (hfb : Fits b) (hza : (txt a.tm).length ≤ 268435456) (hzb : (txt b.tm).length ≤ 268435456) (ht : Tab10 h) : C0 Tryz.prog 8 [.agg (GT.cells a).toArray, .agg (GT.cells b).toArray] h (.bool true) := by
  have sz1 : ∀ a : UInt8, (⟨#[a]⟩ : ByteArray).size = 1 := fun _ => rfl
  have sz2 : ∀ a c : UInt8, (⟨#[a, c]⟩ : ByteArray).size = 2 := fun _ _ => rfl
  have sz3 : ∀ a c e : UInt8, (⟨#[a, c, e]⟩ : ByteArray).size = 3 := fun _ _ _ => rfl
  have sz4 : ∀ a c e f : UInt8, (⟨#[a, c, e, f]⟩ : ByteArray).size = 4 := fun _ _ _ _ => rfl
  show C0 Tryz.prog 8 [.agg #[.int .i64 a.k, .int .i64 a.n, .string a.s, .slice a.A a.kids.length a.c], .agg #[.int .i64 b.k, .int .i64 b.n, .string b.s, .slice b.A b.kids.length b.c]] h _
  refine enter0 Tryz.func8 rfl rfl rfl (fun w => ?_)
  refine cy_seq ?_
  refine cy_region ?_
  refine sy_box rfl rfl rfl rfl (fun b2 hb2 hM2 => ?_) (by simp)
  refine sy_box rfl rfl rfl rfl (fun b3 hb3 hM3 => ?_) (by simp)
  refine sy_assign rfl rfl rfl ?_
  refine sy_nil rfl ?_
  refine ny_next ?_
  refine cy_seq ?_
  refine cy_frz 0 rfl (by simp) (fun h1 hle1 hbx1 => ?_)
  refine cy_frz 0 rfl (by simp) (fun h2 hle2 hbx2 => ?_)
  replace hbx1 := hle2 _ _ hbx1
  replace ht := (ht.le hle1).le hle2
  replace hla := (hla.le hle1).le hle2
  replace hlb := (hlb.le hle1).le hle2
  refine cy_region ?_
  refine sy_call rfl call_9 rfl (shown08_c _ ht) rfl rfl ?_
  refine sy_assign rfl rfl rfl ?_
  refine sy_nil rfl ?_
  refine ny_next ?_
  refine cy_seq ?_
  refine cy_seq ?_
  refine cy_region ?_
  refine sy_ldah (vs := GT.cells a) agg_24 rfl rfl (Hp.blk hbx2) rfl rfl ?_
  refine sy_call rfl call_10 rfl (few_c a _ hla hfa) rfl rfl ?_
  refine sy_not rfl rfl rfl ?_
  refine sy_move rfl rfl rfl ?_
  refine sy_cond (d := 12) _ rfl rfl (fun hg12 => ?_) (fun hg12 => ?_)
  · refine sy_skip rfl rfl rfl ?_
    refine sy_skip rfl rfl rfl ?_
    refine sy_skip rfl rfl rfl ?_
    refine sy_pickT rfl rfl rfl rfl ?_
    refine sy_nil rfl ?_
    refine ny_next ?_
    refine cy_condT rfl ?_
    refine cy_seq ?_
    refine cy_region ?_
    refine sy_move rfl rfl rfl ?_
    refine sy_assign rfl rfl rfl ?_
    refine sy_nil rfl ?_
    refine ny_next ?_
    refine cy_ret ?_
    refine ny_thenR ?_
    refine ny_finR (res1 rfl rfl) (fun w hs2 => ⟨?_, hs2.frm⟩)
    first | rfl | (simp; done)
  · refine sy_ldah (vs := GT.cells b) agg_24 rfl rfl (Hp.blk hbx1) rfl rfl ?_
    refine sy_call rfl call_10 rfl (few_c b _ hlb hfb) rfl rfl ?_
    refine sy_not rfl rfl rfl ?_
    refine sy_pickF rfl rfl rfl rfl ?_
    refine sy_nil rfl ?_
    refine ny_next ?_
    refine cy_cond rfl (fun hc16 => ?_) (fun hc16 => ?_)
    · refine cy_seq ?_
      refine cy_region ?_
      refine sy_move rfl rfl rfl ?_
      refine sy_assign rfl rfl rfl ?_
      refine sy_nil rfl ?_
      refine ny_next ?_
      refine cy_ret ?_
      refine ny_thenR ?_
      refine ny_finR (res1 rfl rfl) (fun w hs2 => ⟨?_, hs2.frm⟩)
      first | rfl | (simp; done)
    · refine cy_skip ?_
      refine ny_next ?_
      refine cy_seq ?_
      refine cy_region ?_
      refine sy_ldah (vs := GT.cells a) agg_24 rfl rfl (Hp.blk hbx2) rfl rfl ?_
      refine sy_call rfl call_13 rfl (text_c a _ hla hfa ht (by omega)) rfl rfl ?_
      refine sy_cat rfl rfl (by first | omega | (simp only [ByteArray.size_append, bsz, List.length_append, List.length_cons, List.length_nil, sz1, sz2, sz3, sz4]; omega) | (simp [ByteArray.size_append, bsz, sz1, sz2, sz3, sz4]; done)) rfl rfl ?_
      refine sy_assign rfl rfl rfl ?_
      refine sy_nil rfl ?_
      refine ny_next ?_
      refine cy_seq ?_
      refine cy_region ?_
      refine sy_ldah (vs := GT.cells b) agg_24 rfl rfl (Hp.blk hbx1) rfl rfl ?_
      refine sy_call rfl call_13 rfl (text_c b _ hlb hfb ht (by omega)) rfl rfl ?_
      refine sy_cat rfl rfl (by first | omega | (simp only [ByteArray.size_append, bsz, List.length_append, List.length_cons, List.length_nil, sz1, sz2, sz3, sz4]; omega) | (simp [ByteArray.size_append, bsz, sz1, sz2, sz3, sz4]; done)) rfl rfl ?_
      refine sy_assign rfl rfl rfl ?_
      refine sy_nil rfl ?_
      refine ny_next ?_
      refine cy_seq ?_
      refine cy_region ?_
      refine sy_move rfl rfl rfl ?_
      refine sy_move rfl rfl rfl ?_
      refine sy_setT (d := 25) rfl rfl (by first | rfl | (simp; done)) ?_
      refine sy_buildSlice (cs := [.string ⟨#[88]⟩]) rfl (fun w => bsl_37_1_0 w) rfl rfl (fun b26 hb26 hM26 => ?_) (by simp)
      refine sy_frz 0 rfl (by simp) (fun h26 hle26 hb26x => ?_)
      have hr26 : RowsAt h26 (some ⟨b26, 0, none⟩) 1 ([(⟨#[88]⟩ : ByteArray)].map strC) := rows_blk (by decide) (strC_len _) hb26x
      replace hbx1 := hle26 _ _ hbx1
      replace hbx2 := hle26 _ _ hbx2
      replace hla := hla.le hle26
      replace hlb := hlb.le hle26
      replace ht := ht.le hle26
      refine sy_ldah (vs := GT.cells a) agg_24 rfl rfl (Hp.blk hbx2) rfl rfl ?_
      refine sy_buildSlice (cs := [a].flatMap GT.cells) rfl (fun w => bsl_22_1_0 w) rfl rfl (fun b28 hb28 hM28 => ?_) (by simp)
      refine sy_frz 0 rfl (by simp) (fun h28 hle28 hb28x => ?_)
      have hr28 : RowsAt h28 (some ⟨b28, 0, none⟩) 4 ([a].map GT.cells) := rows_blk (by decide) (GT.cells_len _) hb28x
      replace hbx1 := hle28 _ _ hbx1
      replace hbx2 := hle28 _ _ hbx2
      replace hla := hla.le hle28
      replace hlb := hlb.le hle28
      replace ht := ht.le hle28
      replace hr26 := hr26.le hle28
      have hlv29 : ∀ t ∈ [a], Lies h28 t ∧ Fits t := uno ⟨hla, hfa⟩
      have hlen29 : lenA [(⟨#[88]⟩ : ByteArray)] + lenV [a] ≤ 1099511627776 := by simp only [lenA, lenV, List.map_cons, List.map_nil, List.sum_cons, List.sum_nil, sz1]; omega
      refine sy_call rfl call_20 rfl (answer_c [(⟨#[88]⟩ : ByteArray)] _ 1 [a] _ 1 _ hr26 hr28 hlv29 ht (by simp) (by simp) hlen29) rfl rfl ?_
      simp only [List.map_cons, List.map_nil, ans_x]
      refine sy_move rfl rfl rfl ?_
      refine sy_eqs rfl rfl rfl rfl ?_
      refine sy_setT (d := 31) rfl rfl (by rw [beq_iff_eq]; simp) ?_
      refine sy_pickT rfl rfl rfl rfl ?_
      refine sy_move rfl rfl rfl ?_
      refine sy_buildSlice (cs := [.string ⟨#[88]⟩, .string ⟨#[89]⟩]) rfl (fun w => bsl_37_2_0x1 w) rfl rfl (fun b34 hb34 hM34 => ?_) (by simp)
      refine sy_frz 0 rfl (by simp) (fun h34 hle34 hb34x => ?_)
      have hr34 : RowsAt h34 (some ⟨b34, 0, none⟩) 1 ([(⟨#[88]⟩ : ByteArray), (⟨#[89]⟩ : ByteArray)].map strC) := rows_blk (by decide) (strC_len _) hb34x
      replace hbx1 := hle34 _ _ hbx1
      replace hbx2 := hle34 _ _ hbx2
      replace hla := hla.le hle34
      replace hlb := hlb.le hle34
      replace ht := ht.le hle34
      refine sy_ldah (vs := GT.cells a) agg_24 rfl rfl (Hp.blk hbx2) rfl rfl ?_
      refine sy_ldah (vs := GT.cells b) agg_24 rfl rfl (Hp.blk hbx1) rfl rfl ?_
      refine sy_buildSlice (cs := [a, b].flatMap GT.cells) rfl (fun w => bsl_22_2_0x1 w) rfl rfl (fun b37 hb37 hM37 => ?_) (by simp)
      refine sy_frz 0 rfl (by simp) (fun h37 hle37 hb37x => ?_)
      have hr37 : RowsAt h37 (some ⟨b37, 0, none⟩) 4 ([a, b].map GT.cells) := rows_blk (by decide) (GT.cells_len _) hb37x
      replace hbx1 := hle37 _ _ hbx1
      replace hbx2 := hle37 _ _ hbx2
      replace hla := hla.le hle37
      replace hlb := hlb.le hle37
      replace ht := ht.le hle37
      replace hr34 := hr34.le hle37
      have hlv38 : ∀ t ∈ [a, b], Lies h37 t ∧ Fits t := duo ⟨hla, hfa⟩ ⟨hlb, hfb⟩
      have hlen38 : lenA [(⟨#[88]⟩ : ByteArray), (⟨#[89]⟩ : ByteArray)] + lenV [a, b] ≤ 1099511627776 := by simp only [lenA, lenV, List.map_cons, List.map_nil, List.sum_cons, List.sum_nil, sz1]; omega
      refine sy_call rfl call_20 rfl (answer_c [(⟨#[88]⟩ : ByteArray), (⟨#[89]⟩ : ByteArray)] _ 2 [a, b] _ 2 _ hr34 hr37 hlv38 ht (by simp) (by simp) hlen38) rfl rfl ?_
      simp only [List.map_cons, List.map_nil, ans_xy]
      refine sy_move rfl rfl rfl ?_
      refine sy_cat rfl rfl (by first | omega | (simp only [ByteArray.size_append, bsz, List.length_append, List.length_cons, List.length_nil, sz1, sz2, sz3, sz4]; omega) | (simp [ByteArray.size_append, bsz, sz1, sz2, sz3, sz4]; done)) rfl rfl ?_
      refine sy_move rfl rfl rfl ?_
      refine sy_cat rfl rfl (by first | omega | (simp only [ByteArray.size_append, bsz, List.length_append, List.length_cons, List.length_nil, sz1, sz2, sz3, sz4]; omega) | (simp [ByteArray.size_append, bsz, sz1, sz2, sz3, sz4]; done)) rfl rfl ?_
      refine sy_eqs rfl rfl rfl rfl ?_
      refine sy_setT (d := 43) rfl rfl (by rw [beq_iff_eq]; simp) ?_
      refine sy_pickT rfl rfl rfl rfl ?_
      refine sy_move rfl rfl rfl ?_
      refine sy_buildSlice (cs := [.string ⟨#[95]⟩, .string ⟨#[89]⟩]) rfl (fun w => bsl_37_2_0x1 w) rfl rfl (fun b46 hb46 hM46 => ?_) (by simp)
      refine sy_frz 0 rfl (by simp) (fun h46 hle46 hb46x => ?_)
      have hr46 : RowsAt h46 (some ⟨b46, 0, none⟩) 1 ([(⟨#[95]⟩ : ByteArray), (⟨#[89]⟩ : ByteArray)].map strC) := rows_blk (by decide) (strC_len _) hb46x
      replace hbx1 := hle46 _ _ hbx1
      replace hbx2 := hle46 _ _ hbx2
      replace hla := hla.le hle46
      replace hlb := hlb.le hle46
      replace ht := ht.le hle46
      refine sy_ldah (vs := GT.cells a) agg_24 rfl rfl (Hp.blk hbx2) rfl rfl ?_
      refine sy_ldah (vs := GT.cells b) agg_24 rfl rfl (Hp.blk hbx1) rfl rfl ?_
      refine sy_buildSlice (cs := [a, b].flatMap GT.cells) rfl (fun w => bsl_22_2_0x1 w) rfl rfl (fun b49 hb49 hM49 => ?_) (by simp)
      refine sy_frz 0 rfl (by simp) (fun h49 hle49 hb49x => ?_)
      have hr49 : RowsAt h49 (some ⟨b49, 0, none⟩) 4 ([a, b].map GT.cells) := rows_blk (by decide) (GT.cells_len _) hb49x
      replace hbx1 := hle49 _ _ hbx1
      replace hbx2 := hle49 _ _ hbx2
      replace hla := hla.le hle49
      replace hlb := hlb.le hle49
      replace ht := ht.le hle49
      replace hr46 := hr46.le hle49
      have hlv50 : ∀ t ∈ [a, b], Lies h49 t ∧ Fits t := duo ⟨hla, hfa⟩ ⟨hlb, hfb⟩
      have hlen50 : lenA [(⟨#[95]⟩ : ByteArray), (⟨#[89]⟩ : ByteArray)] + lenV [a, b] ≤ 1099511627776 := by simp only [lenA, lenV, List.map_cons, List.map_nil, List.sum_cons, List.sum_nil, sz1]; omega
      refine sy_call rfl call_20 rfl (answer_c [(⟨#[95]⟩ : ByteArray), (⟨#[89]⟩ : ByteArray)] _ 2 [a, b] _ 2 _ hr46 hr49 hlv50 ht (by simp) (by simp) hlen50) rfl rfl ?_
      simp only [List.map_cons, List.map_nil, ans_hy]
      refine sy_move rfl rfl rfl ?_
      refine sy_eqs rfl rfl rfl rfl ?_
      refine sy_setT (d := 52) rfl rfl (by rw [beq_iff_eq]; simp) ?_
      refine sy_pickT rfl rfl rfl rfl ?_
      refine sy_move rfl rfl rfl ?_
      refine sy_buildSlice (cs := [.string ⟨#[88]⟩, .string ⟨#[89]⟩]) rfl (fun w => bsl_37_2_0x1 w) rfl rfl (fun b55 hb55 hM55 => ?_) (by simp)
      refine sy_frz 0 rfl (by simp) (fun h55 hle55 hb55x => ?_)
      have hr55 : RowsAt h55 (some ⟨b55, 0, none⟩) 1 ([(⟨#[88]⟩ : ByteArray), (⟨#[89]⟩ : ByteArray)].map strC) := rows_blk (by decide) (strC_len _) hb55x
      replace hbx1 := hle55 _ _ hbx1
      replace hbx2 := hle55 _ _ hbx2
      replace hla := hla.le hle55
      replace hlb := hlb.le hle55
      replace ht := ht.le hle55
      refine sy_ldah (vs := GT.cells a) agg_24 rfl rfl (Hp.blk hbx2) rfl rfl ?_
      refine sy_buildSlice (cs := [a].flatMap GT.cells) rfl (fun w => bsl_22_1_0 w) rfl rfl (fun b57 hb57 hM57 => ?_) (by simp)
      refine sy_frz 0 rfl (by simp) (fun h57 hle57 hb57x => ?_)
      have hr57 : RowsAt h57 (some ⟨b57, 0, none⟩) 4 ([a].map GT.cells) := rows_blk (by decide) (GT.cells_len _) hb57x
      replace hbx1 := hle57 _ _ hbx1
      replace hbx2 := hle57 _ _ hbx2
      replace hla := hla.le hle57
      replace hlb := hlb.le hle57
      replace ht := ht.le hle57
      replace hr55 := hr55.le hle57
      have hlv58 : ∀ t ∈ [a], Lies h57 t ∧ Fits t := uno ⟨hla, hfa⟩
      have hlen58 : lenA [(⟨#[88]⟩ : ByteArray), (⟨#[89]⟩ : ByteArray)] + lenV [a] ≤ 1099511627776 := by simp only [lenA, lenV, List.map_cons, List.map_nil, List.sum_cons, List.sum_nil, sz1]; omega
      refine sy_call rfl call_20 rfl (answer_c [(⟨#[88]⟩ : ByteArray), (⟨#[89]⟩ : ByteArray)] _ 2 [a] _ 1 _ hr55 hr57 hlv58 ht (by simp) (by simp) hlen58) rfl rfl ?_
      simp only [List.map_cons, List.map_nil, ans_xx]
      refine sy_move rfl rfl rfl ?_
      refine sy_eqs rfl rfl rfl rfl ?_
      refine sy_setT (d := 60) rfl rfl (by rw [beq_iff_eq]; simp) ?_
      refine sy_pickT rfl rfl rfl rfl ?_
      refine sy_assign rfl rfl rfl ?_
      refine sy_nil rfl ?_
      refine ny_next ?_
      refine cy_ret ?_
      refine ny_finR (res1 rfl rfl) (fun w hs2 => ⟨?_, hs2.frm⟩)
      first | rfl | (simp; done)
end Go.Proofs.YtanhhihechakhaaGreatDoor
set_option linter.unusedVariables false
namespace Go.Proofs.YtanhhihechakhaaGreatDoor
open Go.ChangeShapes Go.WideShapes Go.ChangeAt Go.RowKit Go.Proofs.YtanhhihechakhaaGreatDoor.E
theorem own : ownKnob Tryz.prog.godebug = none := by kernel_rfl
theorem tab_of {W : World} (h : laidMetH Tryz.prog [("math/bits.deBruijn32tab", Rows.laid_math_bits_deBruijn32tab), ("math/bits.deBruijn64tab", Rows.laid_math_bits_deBruijn64tab), ("internal/strconv.uint64pow10", Rows.laid_internal_strconv_uint64pow10)] W) : Tab10 (hpOf W) := by
  refine tab10_hp ?_
  have h2 := ((laidMetH_iff.1 h).1).filter (fun x => x.1 == "internal/strconv.uint64pow10")
  have e : (([("math/bits.deBruijn32tab", Rows.laid_math_bits_deBruijn32tab), ("math/bits.deBruijn64tab", Rows.laid_math_bits_deBruijn64tab), ("internal/strconv.uint64pow10", Rows.laid_internal_strconv_uint64pow10)] : List (String × DataW Unit)).filter fun x => x.2.handleName?.isNone).filter (fun x => x.1 == "internal/strconv.uint64pow10") = [("internal/strconv.uint64pow10", Lib.tabData .u64 Lib.pow10Tab)] := by kernel_rfl
  rw [e] at h2
  exact Lib.tabIs_of_head (g := 2) (t := 177) (e := 121) (n := 20) (by kernel_rfl) (by kernel_rfl) Tryz.underlying177 Tryz.underlying121 (by kernel_rfl) (by kernel_rfl) h2
theorem door_met (os : Os) (args : Array Value) : laidMetH Tryz.prog [("math/bits.deBruijn32tab", Rows.laid_math_bits_deBruijn32tab), ("math/bits.deBruijn64tab", Rows.laid_math_bits_deBruijn64tab), ("internal/strconv.uint64pow10", Rows.laid_internal_strconv_uint64pow10)] ((World.doorLaid Tryz.prog 400 os).forCall (fun _ _ => 0) ⟨#[], args, []⟩).memory :=
  laidMetH_of_parts3 (fuel := 8) (laidMet_of_run' 8 (by kernel_rfl) (by kernel_rfl)) (by kernel_rfl) (by kernel_rfl)
end Go.Proofs.YtanhhihechakhaaGreatDoor
set_option linter.unusedVariables false
set_option linter.unusedSimpArgs false
namespace Go.Proofs.YtanhhihechakhaaGreatDoor.E
open Go.ChangeShapes Go.WideShapes Go.ChangeAt Go.RowKit
/-- Each part of a datum fits in memory. -/
def Wt {H : Type} (P : Program) (t : TypeId) (d : DataW H) : Prop := ∀ x ∈ d.weights P t, x ≤ reachBytes
theorem wt_all {H : Type} {P : Program} {e : TypeId} : ∀ {ds : List (DataW H)}, (∀ x ∈ DataW.weightsAll P e ds, x ≤ reachBytes) → ∀ d ∈ ds, Wt P e d
  | [], _, d, hd => (List.not_mem_nil hd).elim
  | y :: ds, h, d, hd => by
    unfold DataW.weightsAll at h
    rcases List.mem_cons.1 hd with rfl | hd
    · exact fun x hx => h x (List.mem_append_left _ hx)
    · exact wt_all (fun x hx => h x (List.mem_append_right _ hx)) d hd
theorem wt_each {H : Type} {P : Program} : ∀ {ts : List TypeId} {ds : List (DataW H)}, (∀ x ∈ DataW.weightsEach P ts ds, x ≤ reachBytes) → ∀ (j : Nat) (t : TypeId) (d : DataW H), ts[j]? = some t → ds[j]? = some d → Wt P t d
  | [], _, _, j, t, d, ht, _ => by simp at ht
  | _ :: _, [], _, j, t, d, _, hd => by simp at hd
  | t0 :: ts, d0 :: ds, h, j, t, d, ht, hd => by
    unfold DataW.weightsEach at h
    cases j with
    | zero =>
      simp only [List.getElem?_cons_zero, Option.some.injEq] at ht hd
      subst ht hd
      exact fun x hx => h x (List.mem_append_left _ hx)
    | succ j => exact wt_each (fun x hx => h x (List.mem_append_right _ hx)) j t d (by simpa using ht) (by simpa using hd)
theorem wt_struct {H : Type} {P : Program} {t : TypeId} {fs : Array Field} {parts : List (DataW H)} (hs : P.underlying t = some (.struct fs)) (h : Wt P t (.agg parts))   : ∀ (j : Nat) (f : Field) (d : DataW H), fs[j]? = some f → parts[j]? = some d → Wt P f.type d := fun j f d hf hd => by
  unfold Wt at h
  unfold DataW.weights at h
  rw [hs] at h
  exact wt_each h j f.type d (by simp [hf]) hd
theorem wt_slice {H : Type} {P : Program} {t e : TypeId} {elems spare : List (DataW H)} (hs : P.underlying t = some (.slice e)) (h : Wt P t (.slice elems spare)) : elems.length * P.bytesOf e ≤ reachBytes ∧ ∀ d ∈ elems, Wt P e d := by
  unfold Wt at h
  unfold DataW.weights at h
  rw [hs] at h
  simp only at h
  refine ⟨Nat.le_trans (Nat.mul_le_mul_right _ (Nat.le_add_right _ _)) (h _ (List.mem_cons_self)), wt_all fun x hx => h x (List.mem_cons_of_mem _ (List.mem_append_left _ hx))⟩
theorem wt_string {H : Type} {P : Program} {t : TypeId} {bs : List UInt8} (h : Wt (H := H) P t (.lit (.string bs))) : bs.length ≤ reachBytes := h _ (by simp [DataW.weights])
theorem wt_of {H : Type} {P : Program} {ts : List TypeId} {ds : List (DataW H)} (h : (DataW.weightsEach P ts ds).all (· ≤ reachBytes) = true) : ∀ x ∈ DataW.weightsEach P ts ds, x ≤ reachBytes := fun x hx => by
  have := List.all_eq_true.1 h x hx
  simpa using this
theorem open_rows {H : Type} {enc : TypeId × Value → H} {P : Program} {W : World} {t e : TypeId} {sz fuel : Nat} {cs : List Value} {x : DataW H × List MemPlace} {α : Type} {fc : α → List Value} {good : α → Prop} (ht : P.underlying t = some (.slice e)) (hce : P.cellsOf e = sz) (hsz : 0 < sz)
    (hf : DataW.trod enc P W 0 (fun _ => true) true fuel t cs = some x) (hw : Wt P t x.1)
    (key : ∀ (n : Nat) (cs : List Value) (x : DataW H × List MemPlace), n < fuel → DataW.trod enc P W 0 (fun _ => true) true n e cs = some x → Wt P e x.1 → ∃ a, cs = fc a ∧ good a) :
    ∃ (A : Option Addr) (l c : Nat) (es : List α), cs = [.slice A l c] ∧ l ≤ c ∧ c ≤ maxLen ∧ es.length = l ∧ RowsAt (hpOf W) A sz (es.map fc) ∧ (∀ a ∈ es, good a) ∧ l * P.bytesOf e ≤ reachBytes := by
  classical
  rcases DataW.trod_slice ht hf with ⟨h0, h1⟩ | ⟨a, l, c, elems, rest, n, hn, h0, hx, _, hlc, hcm, hlen, hel, _, _⟩
  · subst h0
    exact ⟨none, 0, 0, [], rfl, Nat.le_refl _, by simp [maxLen], rfl, fun j x hj => by simp at hj, fun _ h => (List.not_mem_nil h).elim, by simp⟩
  · subst h0 hx
    obtain ⟨hw1, hw2⟩ := wt_slice ht hw
    have hk : ∀ i, i < l → ∃ y : α, good y ∧ (fc y).length = sz ∧ ∀ j u, (fc y)[j]? = some u → W.cell? ((a.add (i * sz)).add j) = some u := fun i hi => by
      have h2 := hel i hi
      have h3 : elems[i]? = some (elems[i]'(by omega)) := List.getElem?_eq_getElem _
      rw [h3, hce] at h2
      obtain ⟨cs', h4, h5⟩ := Option.bind_eq_some_iff.1 h2
      obtain ⟨_, h6, h7⟩ := World.cells?_some h4
      obtain ⟨y, rfl, hg⟩ := key n cs' _ (by omega) h5 (hw2 _ (List.mem_map.2 ⟨_, List.mem_of_getElem? h3, rfl⟩))
      exact ⟨y, hg, h6, fun j u hj => (h7 j (by have := (List.getElem?_eq_some_iff.1 hj).1; omega)).trans hj⟩
    refine ⟨some a, l, c, List.ofFn fun i : Fin l => Classical.choose (hk i.1 i.2), rfl, hlc, hcm, by simp, ?_, ?_, by simpa [hlen] using hw1⟩
    · intro j cs hj
      rw [List.getElem?_map, Option.map_eq_some_iff] at hj
      obtain ⟨y, hy, rfl⟩ := hj
      have hjl : j < l := by
        have := (List.getElem?_eq_some_iff.1 hy).1
        simpa using this
      have hye : y = Classical.choose (hk j hjl) := by
        have h8 := (List.getElem?_eq_some_iff.1 hy).2
        rw [List.getElem_ofFn] at h8
        exact h8.symm
      obtain ⟨_, g2, g3⟩ := Classical.choose_spec (hk j hjl)
      rw [← hye] at g2 g3
      have hsp : a.spot = none := by
        obtain ⟨y0, _, q2, q3⟩ := hk 0 (by omega)
        have h0 : (fc y0)[0]? = some ((fc y0)[0]'(by omega)) := List.getElem?_eq_getElem _
        have z0 := q3 0 _ h0
        have e0 : (a.add (0 * sz)).add 0 = a := by simp [Addr.add]
        rw [e0] at z0
        unfold World.cell? at z0
        split at z0
        · split at z0
          · cases z0
          · rename_i h11
            simpa using h11
        · cases z0
      obtain ⟨b, off, sp⟩ := a
      simp only at hsp
      subst hsp
      refine ⟨b, off, rfl, fun jj u hu => ?_⟩
      have := g3 jj u hu
      rw [Addr.add_at, Addr.add_at] at this
      exact this
    · intro y hy
      obtain ⟨i, rfl⟩ := List.mem_ofFn.1 hy
      exact (Classical.choose_spec (hk i.1 i.2)).1
theorem u16_of_wf {a : Int} (h : (Lit.int .u16 a).wf = true) : ∃ c : Nat, a = (c : Int) ∧ c < 65536 := by
  have hx : 0 ≤ a ∧ a ≤ 65535 := by simpa [Lit.wf, IntKind.min, IntKind.max, IntKind.signed, IntKind.bits] using h
  exact ⟨a.toNat, by omega, by omega⟩
/-- texts -/
theorem open_strs {H : Type} {enc : TypeId × Value → H} {P : Program} {W : World} {t e : TypeId} {fuel : Nat} {cs : List Value} {x : DataW H × List MemPlace} (ht : P.underlying t = some (.slice e)) (hce : P.cellsOf e = 1) (he : P.underlying e = some .string)
    (hf : DataW.trod enc P W 0 (fun _ => true) true fuel t cs = some x) (hw : Wt P t x.1) :
    ∃ (A : Option Addr) (l c : Nat) (ss : List ByteArray), cs = [.slice A l c] ∧ l ≤ c ∧ c ≤ maxLen ∧ ss.length = l ∧ RowsAt (hpOf W) A 1 (ss.map fun s => [Value.string s]) ∧ (∀ s ∈ ss, s.size ≤ reachBytes) ∧ l * P.bytesOf e ≤ reachBytes :=
  open_rows ht hce (by decide) hf hw fun n cs x _ h5 h6 => by
    obtain ⟨s, rfl, h7, _⟩ := DataW.trod_string he h5
    rw [h7] at h6
    have := wt_string h6
    exact ⟨s, rfl, by simpa using this⟩
end Go.Proofs.YtanhhihechakhaaGreatDoor.E
set_option linter.unusedVariables false
set_option linter.unusedSimpArgs false
namespace Go.Proofs.YtanhhihechakhaaGreatDoor
open Go.ChangeShapes Go.WideShapes Go.ChangeAt Go.RowKit Go.Proofs.YtanhhihechakhaaGreatDoor.E
theorem holds0 (modest : Bool) (C : Checked) (f : FuncId) (args : Array Value) (w0 : World) : ({ modest := modest } : Assume).holds C.prog (lone (Frame.enter C.prog f args .normal) [] (w0.forCall (fun _ _ => 0) ⟨#[], args, []⟩)) := by
  simp only [Assume.holds]
  exact ⟨by simp, by simp, fun _ => Modest.zero, by simp, by simp⟩
theorem witness_row_shaped {H : Type} {enc : TypeId × Value → H} {C : Checked} {os : Os} {f : FuncId} {fn : Func} {s : OpenSpec} {conds : List PathCond} {apart : Bool} {laid : List (String × DataW Unit)} (modest : Bool) (w0 : World) (args : Array Value) (hos : w0.os = os)
    (hsh : (w0.forCall (fun _ _ => 0) ⟨#[], args, []⟩).Shaped C.prog) (hok : Input.okWideB C.prog (w0.forCall (fun _ _ => 0) ⟨#[], args, []⟩) f ⟨#[], args, []⟩ = true)
    (hrow : s.preRow enc C.prog fn conds apart laid (w0.forCall (fun _ _ => 0) ⟨#[], args, []⟩).memory args) :
    ∃ (w : World) (tape : Tape) (i : Input), w.os = os ∧ (w.forCall tape i).Shaped C.prog ∧ i.vars = [] ∧ Input.okWide C.prog (w.forCall tape i) .any w.heap.size f i ∧
      s.preRow enc C.prog fn conds apart laid (w.forCall tape i).memory i.args ∧ ({ modest := modest } : Assume).holds C.prog (lone (Frame.enter C.prog f i.args .normal) [] (w.forCall tape i)) :=
  ⟨w0, fun _ _ => 0, ⟨#[], args, []⟩, hos, hsh, (Input.okWide_of_okWideB (base := 0) hok).1, (Input.okWide_of_okWideB hok).2, hrow, holds0 modest C f args w0⟩
theorem bulk_one {H : Type} (d : DataW H) : 1 ≤ Rows.uptoBulk d := by
  cases d with
  | lit l => cases l <;> simp [Rows.uptoBulk]
  | nil => simp [Rows.uptoBulk]
  | ptr d => simp [Rows.uptoBulk]
  | slice elems spare => simp [Rows.uptoBulk]
  | agg parts => simp [Rows.uptoBulk]
  | iface t d => simp [Rows.uptoBulk]
  | map entries => simp [Rows.uptoBulk]
  | held h => simp [Rows.uptoBulk]
theorem bulk_mem {H : Type} : ∀ {l : List (DataW H)} {d : DataW H}, d ∈ l → Rows.uptoBulk d ≤ Rows.uptoBulkAll l
  | [], _, h => (List.not_mem_nil h).elim
  | x :: r, d, h => by
    simp only [Rows.uptoBulkAll]
    rcases List.mem_cons.1 h with rfl | h
    · omega
    · have := bulk_mem h
      omega
theorem bulk_len {H : Type} : ∀ l : List (DataW H), l.length ≤ Rows.uptoBulkAll l
  | [] => by simp [Rows.uptoBulkAll]
  | x :: r => by
    have h1 := bulk_one x
    have h2 := bulk_len r
    simp only [Rows.uptoBulkAll, List.length_cons]
    omega
theorem bulk_at {H : Type} {ds : List (DataW H)} (h : Rows.uptoSmall H ds = true) (j : Nat) (d : DataW H) (hd : ds[j]? = some d) : Rows.uptoBulk d ≤ 1048576 := by
  have h1 : Rows.uptoBulkAll ds ≤ 1048576 := of_decide_eq_true h
  exact Nat.le_trans (bulk_mem (List.mem_of_getElem? hd)) h1
theorem bulk_slice {H : Type} {enc : TypeId × Value → H} {P : Program} {W : World} {t e : TypeId} {A : Option Addr} {l c : Nat} {d : DataW H} {ps : List MemPlace} (ht : P.underlying t = some (.slice e)) (h : DataW.Trod enc P W 0 (fun _ => true) true t (.slice A l c) d ps) : l ≤ Rows.uptoBulk d := by
  obtain ⟨fuel, hf⟩ := h
  rcases DataW.trod_slice ht hf with ⟨h0, _⟩ | ⟨a, len, cap, elems, rest, n, _, h0, hx, _, _, _, hlen, _⟩
  · have h1 : [Value.slice A l c] = [.slice none 0 0] := h0
    simp only [List.cons.injEq, Value.slice.injEq, and_true] at h1
    omega
  · have h1 : [Value.slice A l c] = [.slice (some a) len cap] := h0
    simp only [List.cons.injEq, Value.slice.injEq, and_true] at h1
    have h2 : d = .slice (elems.map (·.1)) (rest.map (·.1)) := congrArg Prod.fst hx
    rw [h2]
    have h3 := bulk_len (elems.map (·.1))
    rw [List.length_map] at h3
    simp only [Rows.uptoBulk]
    omega
end Go.Proofs.YtanhhihechakhaaGreatDoor
set_option linter.unusedVariables false
namespace Go.Proofs.YtanhhihechakhaaGreatDoor
open Go.RowKit Go.Proofs.YtanhhihechakhaaGreatDoor.E
theorem call_11 : callB Tryz.prog 11 = true := by kernel_rfl
end Go.Proofs.YtanhhihechakhaaGreatDoor
set_option linter.unusedVariables false
namespace Go.Proofs.YtanhhihechakhaaGreatDoor
open Go.RowKit Go.Proofs.YtanhhihechakhaaGreatDoor.E
theorem bsl_35_1_0 {x1 : Int} (w : World) : (Instr.buildSlice 35 1 #[(0, .int .i64 x1)]).run Tryz.prog w = .ok (.slice (some ⟨w.heap.size, 0, none⟩) 1 1) (w.alloc (.cells #[.int .i64 x1] 3)) := by kernel_rfl
theorem call_18 : callB Tryz.prog 18 = true := by kernel_rfl
theorem call_27 : callB Tryz.prog 27 = true := by kernel_rfl
theorem call_28 : callB Tryz.prog 28 = true := by kernel_rfl
theorem call_29 : callB Tryz.prog 29 = true := by kernel_rfl
theorem call_38 : callB Tryz.prog 38 = true := by kernel_rfl
theorem call_44 : callB Tryz.prog 44 = true := by kernel_rfl
theorem call_45 : callB Tryz.prog 45 = true := by kernel_rfl
theorem one_27 : oneB Tryz.prog 27 = true := by kernel_rfl
theorem one_35 : oneB Tryz.prog 35 = true := by kernel_rfl
theorem row_35 : rowB Tryz.prog 35 3 1 8 = true := by kernel_rfl
theorem sz_27 : szB Tryz.prog 27 1 = true := by kernel_rfl
theorem sz_35 : szB Tryz.prog 35 1 = true := by kernel_rfl
theorem zer_27 : zerL Tryz.prog 27 = some [.int .i64 0] := by kernel_rfl
theorem zer_35 : zerL Tryz.prog 35 = some [.slice none 0 0] := by kernel_rfl
theorem zer_3 : zerL Tryz.prog 3 = some [.int .i64 0] := by kernel_rfl
end Go.Proofs.YtanhhihechakhaaGreatDoor
set_option linter.unusedVariables false
namespace Go.Proofs.YtanhhihechakhaaGreatDoor
open Go.RowKit Go.Proofs.YtanhhihechakhaaGreatDoor.E
theorem call_12 : callB Tryz.prog 12 = true := by kernel_rfl
theorem call_14 : callB Tryz.prog 14 = true := by kernel_rfl
theorem call_15 : callB Tryz.prog 15 = true := by kernel_rfl
theorem call_33 : callB Tryz.prog 33 = true := by kernel_rfl
end Go.Proofs.YtanhhihechakhaaGreatDoor
set_option linter.unusedVariables false
set_option linter.unusedSimpArgs false
namespace Go.Proofs.YtanhhihechakhaaGreatDoor.WrP
open Go.RowKit Go.Proofs.YtanhhihechakhaaGreatDoor.E Go.Proofs.YtanhhihechakhaaGreatDoor.ReplP Go.Proofs.YtanhhihechakhaaGreatDoor.TokP Go.Proofs.YtanhhihechakhaaGreatDoor.TermP
mutual
/-- a term's parts, itself first -/
def partsT : Tm → List Tm | .mk k n s kids => .mk k n s kids :: partsTs kids
def partsTs : List Tm → List Tm | [] => [] | t :: l => partsT t ++ partsTs l
end
mutual
def deepT : Tm → Nat | .mk _ _ _ kids => 1 + deepTs kids
def deepTs : List Tm → Nat | [] => 0 | t :: l => max (deepT t) (deepTs l)
end
theorem parts_mk (k n : Int) (s : ByteArray) (kids : List Tm) : partsT (.mk k n s kids) = .mk k n s kids :: partsTs kids := by rw [partsT]
theorem partsTs_nil : partsTs [] = [] := by rw [partsTs]
theorem partsTs_cons (t : Tm) (l : List Tm) : partsTs (t :: l) = partsT t ++ partsTs l := by rw [partsTs]
theorem partsTs_mem : ∀ {l : List Tm} {t p : Tm}, t ∈ l → p ∈ partsT t → p ∈ partsTs l
  | [], t, p, h, _ => (List.not_mem_nil h).elim
  | x :: l, t, p, h, hp => by
    rw [partsTs_cons]
    rcases List.mem_cons.1 h with rfl | h
    · exact List.mem_append_left _ hp
    · exact List.mem_append_right _ (partsTs_mem h hp)
/-- the variables of some parts, each once -/
def varsF (l : List Int) (ps : List Tm) : List Int := ps.foldl (fun l p => if p.k = 1 ∧ ¬ l.contains p.n = true then l ++ [p.n] else l) l
def varsT (t : Tm) : List Int := varsF [] (partsT t)
/-- may a part be, but for its kids? -/
def aloneT (lv : Int) : Tm → Bool
  | .mk k n s kids => if k = 1 then decide (0 ≤ n) && decide (n < 4096) && decide (s = ⟨#[]⟩) && decide (kids.length = 0)
    else if k = 2 then decide (s = ⟨#[]⟩) && decide (kids.length = 0)
    else if k = 3 then decide (n = 0) && decide (s.size ≤ 64) && decide (kids.length ≤ 8)
    else if k = 4 then decide (s = ⟨#[]⟩) && decide (0 ≤ n) && decide (n < lv) && decide (kids.length = 1) && decide ((kids.map fun t => (varsT t).length).sum = 0)
    else false
def chkT (lv : Int) (t : Tm) : Int := if 1000 < (partsT t).length then 3 else if 60 < deepT t then 7 else if (partsT t).all (aloneT lv) = true then 0 else 4
theorem chk_ok {lv : Int} {t : Tm} (h : chkT lv t = 0) : (partsT t).all (aloneT lv) = true ∧ (partsT t).length ≤ 1000 ∧ deepT t ≤ 60 := by
  unfold chkT at h
  split at h
  · cases h
  · split at h
    · cases h
    · split at h
      · exact ⟨by assumption, by omega, by omega⟩
      · cases h
mutual
/-- has a term a Fun @ of two, or a name with a byte that may not be? -/
def atT : Tm → Bool | .mk k n s kids => (decide (k = 3) && decide (s = atS) && decide (kids.length = 2)) || !(s.data.toList.all okB) || atTs kids
def atTs : List Tm → Bool | [] => false | t :: l => atT t || atTs l
end
theorem atTs_any : ∀ l : List Tm, atTs l = l.any atT
  | [] => by rw [atTs]; rfl
  | t :: l => by rw [atTs, List.any_cons, atTs_any l]
theorem at_mk (k n : Int) (s : ByteArray) (kids : List Tm) : atT (.mk k n s kids) = ((decide (k = 3) && decide (s = atS) && decide (kids.length = 2)) || !(s.data.toList.all okB) || kids.any atT) := by
  rw [atT, atTs_any]
theorem good_of {lv : Int} : ∀ t, (partsT t).all (aloneT lv) = true → atT t = false → Good t := fun t => by
  induction t using Tm.ind with
  | h k n s kids ih =>
    intro hp ha
    rw [parts_mk, List.all_cons, Bool.and_eq_true] at hp
    rw [at_mk, Bool.or_eq_false_iff, Bool.or_eq_false_iff] at ha
    have hk : ∀ t ∈ kids, Good t := fun t ht => ih t ht (by
      rw [List.all_eq_true]
      intro p hpm
      exact List.all_eq_true.1 hp.2 p (partsTs_mem ht hpm)) (by
      cases h : atT t with
      | false => rfl
      | true =>
        have : kids.any atT = true := List.any_eq_true.2 ⟨t, ht, h⟩
        rw [ha.2] at this
        cases this)
    have h1 := hp.1
    rw [aloneT] at h1
    by_cases hk1 : k = 1
    · rw [if_pos hk1] at h1
      simp only [Bool.and_eq_true, decide_eq_true_eq] at h1
      have := List.eq_nil_of_length_eq_zero h1.2
      rw [hk1, h1.1.2, this]
      exact .var n
    rw [if_neg hk1] at h1
    split at h1
    · rename_i hk2
      simp only [Bool.and_eq_true, decide_eq_true_eq] at h1
      have := List.eq_nil_of_length_eq_zero h1.2
      rw [hk2, h1.1, this]
      exact .int n
    split at h1
    · rename_i _ hk3
      simp only [Bool.and_eq_true, decide_eq_true_eq] at h1
      have ha2 := ha.1.1
      rw [hk3, h1.1.1]
      refine .fn s kids (fun h9 => ?_) hk
      rw [hk3, h9.1, h9.2] at ha2
      exact absurd ha2 (by decide)
    split at h1
    · rename_i _ _ hk4
      simp only [Bool.and_eq_true, decide_eq_true_eq] at h1
      match kids, h1, hk with
      | [t], h1, hk =>
        rw [hk4, h1.1.1.1.1]
        exact .sld n t (hk t (List.mem_cons_self))
    · cases h1
end Go.Proofs.YtanhhihechakhaaGreatDoor.WrP

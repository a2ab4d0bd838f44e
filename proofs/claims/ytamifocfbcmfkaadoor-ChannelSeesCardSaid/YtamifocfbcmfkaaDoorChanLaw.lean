/- Events over a lattice: the plain law. Conditions: none; plain lemmas. -/
import Derived.Test.YtamifocfbcmfkaaDoorChanPure
import Derived.Test.YtamifocfbcmfkaaDoorLattLaw
set_option linter.unusedVariables false
set_option linter.unusedSimpArgs false
namespace Go.Proofs.YtamifocfbcmfkaaDoor.ChanP
open Go.RowKit Go.Proofs.YtamifocfbcmfkaaDoor.E Go.Proofs.YtamifocfbcmfkaaDoor.LattP
theorem evEq_refl (e : Ev) : evEq e e = true := by simp [evEq]
theorem besideN_refl (es : List Ev) : ∀ i, i ≤ es.length → besideN es es i = true
  | 0, _ => rfl
  | i + 1, h => by
    have he : es[i]? = some (es[i]'(by omega)) := List.getElem?_eq_getElem _
    exact besideN_yes (besideN_refl es i (by omega)) he he (by rw [evEq_refl]; rfl)
theorem sameB_refl (es : List Ev) : sameB es es = true := by
  unfold sameB
  rw [besideN_refl es es.length (Nat.le_refl _)]
  simp
section
variable {n : Nat} {p : List (Int × Int)}
theorem leqI_is {u : U} {a b : Int} (h : leqI n u a b = true) : isI n a = true ∧ isI n b = true := by
  unfold leqI at h
  rw [Bool.and_eq_true, Bool.and_eq_true] at h
  exact h.1
theorem leqI_trans {a b c : Int} (h1 : leqI n (ru n p) a b = true) (h2 : leqI n (ru n p) b c = true) : leqI n (ru n p) a c = true := by
  obtain ⟨ha, hb⟩ := leqI_is h1
  obtain ⟨_, hc⟩ := leqI_is h2
  obtain ⟨a, rfl, ha'⟩ := isI_some ha
  obtain ⟨b, rfl, hb'⟩ := isI_some hb
  obtain ⟨c, rfl, hc'⟩ := isI_some hc
  rw [leq_ru ha' hc']
  exact ((leq_ru ha' hb').1 h1).trans ((leq_ru hb' hc').1 h2)
def vis (n : Nat) (u : U) (es : List Ev) (lv : Int) : List Ev := es.filter fun e => leqI n u e.l lv
theorem vis_vis {es : List Ev} {a b : Int} (h : leqI n (ru n p) a b = true) : vis n (ru n p) (vis n (ru n p) es b) a = vis n (ru n p) es a := by
  unfold vis
  rw [List.filter_filter]
  congr 1
  funext e
  cases h1 : leqI n (ru n p) e.l a with
  | false => rfl
  | true => rw [leqI_trans h1 h]; rfl
theorem vis_vis' {es : List Ev} {a b : Int} (h : leqI n (ru n p) a b = true) : vis n (ru n p) (vis n (ru n p) es a) b = vis n (ru n p) es a := by
  unfold vis
  rw [List.filter_filter]
  congr 1
  funext e
  cases h1 : leqI n (ru n p) e.l a with
  | false => simp
  | true => rw [leqI_trans h1 h]; rfl
theorem vis_len {es : List Ev} {a b : Int} (h : leqI n (ru n p) a b = true) : (vis n (ru n p) es a).length ≤ (vis n (ru n p) es b).length := by
  rw [← vis_vis h]
  exact List.length_filter_le _ _
theorem vis_top {j m : Nat → Nat → Nat} {lo hi : Nat} (L : Lat2 n p j m lo hi) (es : List Ev) : vis n (ru n p) es (hi : Int) = es.filter fun e => isI n e.l := by
  unfold vis
  congr 1
  funext e
  cases h : isI n e.l with
  | false => unfold leqI; rw [h]; rfl
  | true =>
    obtain ⟨a, ha, ha'⟩ := isI_some h
    rw [ha]
    exact (leq_ru ha' L.hin).2 (L.hir a ha')
theorem vis_le {u : U} {es : List Ev} {a : Int} : (vis n u es a).length ≤ es.length := List.length_filter_le _ _
end
theorem besideN_same {es fs : List Ev} {i : Nat} (h : ∀ j, j < i → es[j]? = fs[j]? ∧ ∃ e, es[j]? = some e) : besideN es fs i = true := by
  unfold besideN
  rw [List.all_eq_true]
  intro j hj
  obtain ⟨h1, e, h2⟩ := h j (List.mem_range.1 hj)
  rw [← h1, h2]
  exact evEq_refl e
theorem beside_take (es : List Ev) (i k : Nat) : besideB (es.take i) (es.take k) = true := besideN_same fun j hj => by
  simp only [List.length_take] at hj
  have hjl : j < es.length := by omega
  rw [List.getElem?_take, List.getElem?_take, if_pos (by omega), if_pos (by omega)]
  exact ⟨rfl, _, List.getElem?_eq_getElem hjl⟩
theorem beside_self (es : List Ev) : besideB es es = true := besideN_same fun j hj => ⟨rfl, _, List.getElem?_eq_getElem (by omega)⟩
theorem beside_nil (es : List Ev) : besideB [] es = true := besideN_same fun j hj => by simp at hj
theorem beside_more (es : List Ev) (x : Ev) : besideB (es ++ [x]) es = true := besideN_same fun j hj => by
  simp only [List.length_append, List.length_cons, List.length_nil] at hj
  have hjl : j < es.length := by omega
  rw [List.getElem?_append_left hjl]
  exact ⟨rfl, _, List.getElem?_eq_getElem hjl⟩
theorem beside_unlike (es : List Ev) {x y : Ev} (h : evEq x y = false) : besideB (es ++ [x]) (es ++ [y]) = false := by
  unfold besideB
  refine besideN_bad (i := es.length) (by simp) (e := x) (f := y) (by simp) (by simp) h
theorem wrap_ne (a : Int) (h0 : -9223372036854775808 ≤ a) (h1 : a ≤ 9223372036854775807) : (a == IntKind.i64.wrap (a + 1)) = false := by
  rw [IntKind.wrap_i64]
  simp only [beq_eq_false_iff_ne, ne_eq]
  omega
theorem evC_ones (es : List Ev) : ∀ u ∈ (es.map evC).flatten, u.oneCell' = true := fun u hu => by
  obtain ⟨l, hl, hu⟩ := List.mem_flatten.1 hu
  obtain ⟨e, _, rfl⟩ := List.mem_map.1 hl
  simp only [evC, List.mem_cons, List.not_mem_nil, or_false] at hu
  rcases hu with rfl | rfl | rfl <;> rfl
theorem vis_meet {n : Nat} {p : List (Int × Int)} {j m : Nat → Nat → Nat} {lo hi : Nat} (L : Lat2 n p j m lo hi) (es : List Ev) {x y : Nat} (hx : x < n) (hy : y < n) : vis n (ru n p) (vis n (ru n p) es (x : Int)) (y : Int) = vis n (ru n p) es ((m x y : Nat) : Int) := by
  unfold vis
  rw [List.filter_filter]
  congr 1
  funext e
  have hm := L.mn x y hx hy
  have key : leqI n (ru n p) e.l ((m x y : Nat) : Int) = true ↔ leqI n (ru n p) e.l (y : Int) = true ∧ leqI n (ru n p) e.l (x : Int) = true := by
    constructor
    · intro h
      obtain ⟨a, ha, ha'⟩ := isI_some (leqI_is h).1
      rw [ha] at h ⊢
      have h1 := (leq_ru ha' hm).1 h
      exact ⟨(leq_ru ha' hy).2 (L.tr _ _ _ h1 (L.mr x y hx hy)), (leq_ru ha' hx).2 (L.tr _ _ _ h1 (L.ml x y hx hy))⟩
    · rintro ⟨h1, h2⟩
      obtain ⟨a, ha, ha'⟩ := isI_some (leqI_is h1).1
      rw [ha] at h1 h2 ⊢
      exact (leq_ru ha' hm).2 (L.mm x y a hx hy ha' ((leq_ru ha' hx).1 h2) ((leq_ru ha' hy).1 h1))
  rw [Bool.eq_iff_iff, Bool.and_eq_true]
  exact key.symm
theorem vis_append (n : Nat) (u : U) (es fs : List Ev) (a : Int) : vis n u (es ++ fs) a = vis n u es a ++ vis n u fs a := List.filter_append _ _
theorem strsN_self (xs : List ByteArray) {i : Nat} (h : i ≤ xs.length) : strsN xs xs i = true := by
  unfold strsN
  rw [List.all_eq_true]
  intro j hj
  have hj' := List.mem_range.1 hj
  rw [List.getElem?_eq_getElem (show j < xs.length by omega)]
  simp
theorem strs_ones (xs : List ByteArray) : ∀ u ∈ ((xs.map fun s => [Value.string s]).flatten), u.oneCell' = true := fun u hu => by
  obtain ⟨l, hl, hu⟩ := List.mem_flatten.1 hu
  obtain ⟨e, _, rfl⟩ := List.mem_map.1 hl
  simp only [List.mem_cons, List.not_mem_nil, or_false] at hu
  subst hu
  rfl
theorem strs_len (xs : List ByteArray) : ∀ c ∈ (xs.map fun s => [Value.string s]), c.length = 1 := fun c hc => by
  obtain ⟨e, _, rfl⟩ := List.mem_map.1 hc
  rfl
/-- with another level -/
def relev (lv : Int) (e : Ev) : Ev := ⟨e.k, lv, e.s⟩
theorem relev_snoc {es : List Ev} {i : Nat} {e : Ev} (lv : Int) (he : es[i]? = some e) : (((es.take (i + 1)).map (relev lv)).map evC).flatten = (((es.take i).map (relev lv)).map evC).flatten ++ [.int .i64 e.k, .int .i64 lv, .string e.s] := by
  rw [List.take_add_one, he]
  simp [evC, relev]
end Go.Proofs.YtamifocfbcmfkaaDoor.ChanP

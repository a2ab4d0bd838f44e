/- Grants: what may be, what is let, as plain functions. Conditions: none; plain lemmas. -/
import Derived.Test.YtamifocfbcmfkaaDoorEngStr
import Derived.Test.YtamifocfbcmfkaaDoorLattLaw
set_option linter.unusedVariables false
set_option linter.unusedSimpArgs false
namespace Go.Proofs.YtamifocfbcmfkaaDoor.GrantP
open Go.RowKit Go.Proofs.YtamifocfbcmfkaaDoor.E Go.Proofs.YtamifocfbcmfkaaDoor.LattP
structure Gr where
  s : ByteArray
  a : Int
  b : Int
def grC (g : Gr) : List Value := [.string g.s, .int .i64 g.a, .int .i64 g.b]
theorem grC_len (gs : List Gr) : ∀ c ∈ gs.map grC, c.length = 3 := fun c hc => by
  obtain ⟨e, _, rfl⟩ := List.mem_map.1 hc
  rfl
theorem grC_ones (gs : List Gr) : ∀ u ∈ (gs.map grC).flatten, u.oneCell' = true := fun u hu => by
  obtain ⟨l, hl, hu⟩ := List.mem_flatten.1 hu
  obtain ⟨e, _, rfl⟩ := List.mem_map.1 hl
  simp only [grC, List.mem_cons, List.not_mem_nil, or_false] at hu
  rcases hu with rfl | rfl | rfl <;> rfl
theorem grs_snoc (gs : List Gr) (g : Gr) : ((gs ++ [g]).map grC).flatten = (gs.map grC).flatten ++ [.string g.s, .int .i64 g.a, .int .i64 g.b] := by
  rw [List.map_append, List.flatten_append]
  simp [grC]
/-- a small letter -/
def lettB (c : UInt8) : Bool := decide (97 ≤ c.toNat) && decide (c.toNat ≤ 122)
def nameB (s : ByteArray) : Bool := s.data.toList.all lettB && (decide (1 ≤ s.size) && decide (s.size ≤ 64))
theorem name_end {s : ByteArray} (hp : s.data.toList.all lettB = true) : nameB s = (!(s.data.toList == (⟨#[]⟩ : ByteArray).data.toList) && decide ((s.size : Int) ≤ 64)) := by
  unfold nameB
  rw [hp, Bool.true_and]
  have hz : s.data.toList.length = s.size := rfl
  have h64 : decide ((s.size : Int) ≤ 64) = decide (s.size ≤ 64) := decide_eq_decide.2 (by omega)
  rw [h64]
  cases hl : s.data.toList with
  | nil =>
    rw [hl] at hz
    have : s.size = 0 := hz.symm
    simp [this]
  | cons x r =>
    rw [hl] at hz
    have : 1 ≤ s.size := by rw [← hz]; simp
    simp [this]
theorem all_take_succ {α : Type} {p : α → Bool} {l : List α} {i : Nat} {x : α} (h : l[i]? = some x) : (l.take (i + 1)).all p = ((l.take i).all p && p x) := by
  rw [List.take_add_one, h, List.all_append]
  simp
theorem any_take_succ {α : Type} {p : α → Bool} {l : List α} {i : Nat} {x : α} (h : l[i]? = some x) : (l.take (i + 1)).any p = ((l.take i).any p || p x) := by
  rw [List.take_add_one, h, List.any_append]
  simp
theorem all_no {α : Type} {p : α → Bool} {l : List α} {i : Nat} {x : α} (h : l[i]? = some x) (hp : p x = false) : l.all p = false := by
  rw [List.all_eq_false]
  exact ⟨x, List.mem_of_getElem? h, by simp [hp]⟩
theorem any_yes {α : Type} {p : α → Bool} {l : List α} {i : Nat} {x : α} (h : l[i]? = some x) (hp : p x = true) : l.any p = true := List.any_eq_true.2 ⟨x, List.mem_of_getElem? h, hp⟩
def wrongI (n : Nat) (u : U) (g : Gr) : Int := if nameB g.s = true then (if leqI n u g.a g.a = true then (if leqI n u g.b g.b = true then 0 else 2) else 2) else 4
def mayB (n : Nat) (u : U) (o : ByteArray) (x y : Int) (g : Gr) : Bool := (g.s.data.toList == o.data.toList) && (leqI n u x g.a && leqI n u g.b y)
def crossB (n : Nat) (u : U) (x : Int) (g : Gr) : Bool := !leqI n u g.a x && leqI n u g.b x
/-- a table as it lies -/
def TableAt (h : Hp) (T tb g : Nat) (gs : List Gr) : Prop := ∃ A c, h tb = some (.cells [.pointer (some ⟨g, 0, none⟩), .slice A gs.length c].toArray T (0, 0)) ∧ RowsAt h A 3 (gs.map grC)
theorem TableAt.le {h h' : Hp} {T tb g : Nat} {gs : List Gr} (ht : TableAt h T tb g gs) (hl : h.Le h') : TableAt h' T tb g gs := by
  obtain ⟨A, c, h1, h2⟩ := ht
  exact ⟨A, c, hl _ _ h1, h2.le hl⟩
/-- which error a table's grants make; none: 0 -/
def newI (n : Nat) (u : U) (gs : List Gr) : Int := if gs.length > 100 then 3 else ((gs.map (wrongI n u)).find? (· != 0)).getD 0
theorem newI_full {n : Nat} {u : U} {gs : List Gr} (h : gs.length > 100) : newI n u gs = 3 := if_pos h
theorem newI_bad {n : Nat} {u : U} {gs : List Gr} (hl : ¬ gs.length > 100) {i : Nat} {g : Gr} (hi : gs[i]? = some g) (hpre : ∀ j x, j < i → gs[j]? = some x → wrongI n u x = 0) (hw : wrongI n u g ≠ 0) : newI n u gs = wrongI n u g := by
  unfold newI
  rw [if_neg hl]
  have : (gs.map (wrongI n u)).find? (· != 0) = some (wrongI n u g) := by
    rw [List.find?_eq_some_iff_getElem]
    refine ⟨by simpa using hw, i, ?_, ?_, ?_⟩
    · have := (List.getElem?_eq_some_iff.1 hi).1
      simpa using this
    · have := (List.getElem?_eq_some_iff.1 hi).2
      simp [this]
    · intro j hj
      have hjl : j < gs.length := by have := (List.getElem?_eq_some_iff.1 hi).1; omega
      have := hpre j _ hj (List.getElem?_eq_getElem hjl)
      simp [this]
  rw [this]
  rfl
theorem newI_fine {n : Nat} {u : U} {gs : List Gr} (hl : ¬ gs.length > 100) (h : ∀ j x, j < gs.length → gs[j]? = some x → wrongI n u x = 0) : newI n u gs = 0 := by
  unfold newI
  rw [if_neg hl]
  have : (gs.map (wrongI n u)).find? (· != 0) = none := by
    rw [List.find?_eq_none]
    intro x hx
    obtain ⟨g, hg, rfl⟩ := List.mem_map.1 hx
    obtain ⟨j, hj, he⟩ := List.mem_iff_getElem.1 hg
    have := h j g hj (by rw [List.getElem?_eq_getElem hj, he])
    simp [this]
  rw [this]
  rfl
theorem wrong_cases (n : Nat) (u : U) (g : Gr) : wrongI n u g = 0 ∨ wrongI n u g = 2 ∨ wrongI n u g = 4 := by
  unfold wrongI
  split <;> (try split) <;> (try split) <;> simp
theorem newI_zero {n : Nat} {u : U} {gs : List Gr} : newI n u gs = 0 ↔ ¬ gs.length > 100 ∧ ∀ g, g ∈ gs → wrongI n u g = 0 := by
  unfold newI
  constructor
  · intro h
    split at h
    · cases h
    · rename_i hl
      refine ⟨hl, fun g hg => ?_⟩
      cases hf : (gs.map (wrongI n u)).find? (· != 0) with
      | none =>
        rw [List.find?_eq_none] at hf
        have := hf _ (List.mem_map.2 ⟨g, hg, rfl⟩)
        simpa using this
      | some x =>
        rw [hf] at h
        have := List.find?_some hf
        simp only [Option.getD_some] at h
        subst h
        simp at this
  · rintro ⟨hl, h⟩
    rw [if_neg hl]
    have : (gs.map (wrongI n u)).find? (· != 0) = none := by
      rw [List.find?_eq_none]
      intro x hx
      obtain ⟨g, hg, rfl⟩ := List.mem_map.1 hx
      simp [h g hg]
    rw [this]
    rfl
theorem wrong_zero {n : Nat} {u : U} {g : Gr} : wrongI n u g = 0 ↔ nameB g.s = true ∧ leqI n u g.a g.a = true ∧ leqI n u g.b g.b = true := by
  unfold wrongI
  by_cases h1 : nameB g.s = true <;> by_cases h2 : leqI n u g.a g.a = true <;> by_cases h3 : leqI n u g.b g.b = true <;> simp [h1, h2, h3]
/-! owners -/
def ownB (o : ByteArray) (g : Gr) : Bool := g.s.data.toList == o.data.toList
theorem owners_may {n : Nat} {u : U} (gs : List Gr) (o : ByteArray) (x y : Int) : gs.any (mayB n u o x y) = (gs.filter (ownB o)).any (mayB n u o x y) := by
  rw [List.any_filter]
  congr 1
  funext g
  unfold mayB ownB
  cases (g.s.data.toList == o.data.toList) <;> simp
theorem owners_new {n : Nat} {u : U} {gs : List Gr} (o : ByteArray) (h : newI n u gs = 0) : newI n u (gs.filter (ownB o)) = 0 := by
  obtain ⟨h1, h2⟩ := newI_zero.1 h
  have := List.length_filter_le (ownB o) gs
  exact newI_zero.2 ⟨by omega, fun g hg => h2 g (List.mem_filter.1 hg).1⟩
theorem filter_take_yes {α : Type} {p : α → Bool} {l : List α} {i : Nat} {x : α} (h : l[i]? = some x) (hp : p x = true) : (l.take (i + 1)).filter p = (l.take i).filter p ++ [x] := by
  rw [List.take_add_one, h, List.filter_append]
  simp [hp]
theorem filter_take_no {α : Type} {p : α → Bool} {l : List α} {i : Nat} {x : α} (h : l[i]? = some x) (hp : p x = false) : (l.take (i + 1)).filter p = (l.take i).filter p := by
  rw [List.take_add_one, h, List.filter_append]
  simp [hp]
theorem filter_take_len {α : Type} (p : α → Bool) (l : List α) (i : Nat) : ((l.take i).filter p).length ≤ i := Nat.le_trans (List.length_filter_le _ _) (by rw [List.length_take]; omega)
/-! one grant -/
theorem one_may {n : Nat} {u : U} (g : Gr) (x y : Int) : [g].any (mayB n u g.s x y) = (leqI n u x g.a && leqI n u g.b y) := by simp [mayB]
theorem one_not {n : Nat} {u : U} (g : Gr) (c : UInt8) (x y : Int) : [g].any (mayB n u (g.s ++ ⟨#[c]⟩) x y) = false := by
  have : (g.s.data.toList == (g.s ++ (⟨#[c]⟩ : ByteArray)).data.toList) = false := by
    rw [beq_eq_false_iff_ne]
    intro h
    have h1 := congrArg List.length h
    simp at h1
  simp [mayB, this]
theorem one_cross {n : Nat} {u : U} (g : Gr) (x : Int) (hx : leqI n u x x = true) : (leqI n u x x && [g].any (crossB n u x)) = (!leqI n u g.a x && leqI n u g.b x) := by simp [hx, crossB]
section
variable {n : Nat} {p : List (Int × Int)}
theorem leqS_is {u : U} {a b : Int} (h : leqI n u a b = true) : isI n a = true ∧ isI n b = true := by
  unfold leqI at h
  rw [Bool.and_eq_true, Bool.and_eq_true] at h
  exact h.1
theorem leqS_trans {a b c : Int} (h1 : leqI n (ru n p) a b = true) (h2 : leqI n (ru n p) b c = true) : leqI n (ru n p) a c = true := by
  obtain ⟨ha, hb⟩ := leqS_is h1
  obtain ⟨_, hc⟩ := leqS_is h2
  obtain ⟨a, rfl, ha'⟩ := isI_some ha
  obtain ⟨b, rfl, hb'⟩ := isI_some hb
  obtain ⟨c, rfl, hc'⟩ := isI_some hc
  rw [leq_ru ha' hc']
  exact ((leq_ru ha' hb').1 h1).trans ((leq_ru hb' hc').1 h2)
theorem leqS_refl {a : Nat} (ha : a < n) : leqI n (ru n p) a a = true := (leq_ru ha ha).2 (.refl _)
/-- more is let further up, and from further down -/
theorem may_wider {gs : List Gr} {o : ByteArray} {x y x' y' : Int} (h : gs.any (mayB n (ru n p) o x y) = true) (hx : leqI n (ru n p) x' x = true) (hy : leqI n (ru n p) y y' = true) : gs.any (mayB n (ru n p) o x' y') = true := by
  obtain ⟨g, hg, hm⟩ := List.any_eq_true.1 h
  refine List.any_eq_true.2 ⟨g, hg, ?_⟩
  unfold mayB at hm ⊢
  rw [Bool.and_eq_true, Bool.and_eq_true] at hm ⊢
  exact ⟨hm.1, leqS_trans hx hm.2.1, leqS_trans hm.2.2 hy⟩
theorem may_more {gs : List Gr} {o : ByteArray} {x y : Int} (m : Gr) (h : gs.any (mayB n (ru n p) o x y) = true) : (gs ++ [m]).any (mayB n (ru n p) o x y) = true := by
  rw [List.any_append, h, Bool.true_or]
/-! crossed -/
def isF (n : Nat) (u : U) (gs : List Gr) (x : Int) (o : ByteArray) (a : Nat) : Bool := !leqI n u (a : Int) x && gs.any (mayB n u o (a : Int) x)
def isG (n : Nat) (u : U) (gs : List Gr) (x : Int) (g : Gr) : Bool := (List.range n).any (isF n u gs x g.s)
theorem cross_is {gs : List Gr} {x : Nat} (hx : x < n) (hf : newI n (ru n p) gs = 0) : (leqI n (ru n p) (x : Int) (x : Int) && gs.any (crossB n (ru n p) x)) = gs.any (isG n (ru n p) gs x) := by
  rw [leqS_refl hx, Bool.true_and]
  obtain ⟨_, hw⟩ := newI_zero.1 hf
  rw [Bool.eq_iff_iff]
  constructor
  · intro h
    obtain ⟨g, hg, hc⟩ := List.any_eq_true.1 h
    unfold crossB at hc
    rw [Bool.and_eq_true] at hc
    obtain ⟨_, ha, _⟩ := wrong_zero.1 (hw g hg)
    obtain ⟨a, ha1, ha2⟩ := isI_some (leqS_is ha).1
    refine List.any_eq_true.2 ⟨g, hg, List.any_eq_true.2 ⟨a, List.mem_range.2 ha2, ?_⟩⟩
    unfold isF
    rw [Bool.and_eq_true]
    rw [ha1] at hc
    refine ⟨hc.1, List.any_eq_true.2 ⟨g, hg, ?_⟩⟩
    unfold mayB
    rw [ha1] at ha ⊢
    rw [ha, hc.2]
    simp
  · intro h
    obtain ⟨g0, hg0, hr⟩ := List.any_eq_true.1 h
    obtain ⟨a, ha, hc⟩ := List.any_eq_true.1 hr
    unfold isF at hc
    rw [Bool.and_eq_true] at hc
    obtain ⟨g, hg, hm⟩ := List.any_eq_true.1 hc.2
    unfold mayB at hm
    rw [Bool.and_eq_true, Bool.and_eq_true] at hm
    refine List.any_eq_true.2 ⟨g, hg, ?_⟩
    unfold crossB
    rw [hm.2.2, Bool.and_true]
    cases hl : leqI n (ru n p) g.a x with
    | false => rfl
    | true =>
      have := leqS_trans hm.2.1 hl
      rw [this] at hc
      exact absurd hc.1 (by simp)
theorem cross_top {j m : Nat → Nat → Nat} {lo hi : Nat} (L : Lat2 n p j m lo hi) {gs : List Gr} (hf : newI n (ru n p) gs = 0) : (leqI n (ru n p) (hi : Int) (hi : Int) && gs.any (crossB n (ru n p) (hi : Int))) = false := by
  obtain ⟨_, hw⟩ := newI_zero.1 hf
  have : gs.any (crossB n (ru n p) (hi : Int)) = false := by
    rw [List.any_eq_false]
    intro g hg
    obtain ⟨_, ha, _⟩ := wrong_zero.1 (hw g hg)
    obtain ⟨a, ha1, ha2⟩ := isI_some (leqS_is ha).1
    unfold crossB
    rw [ha1, (leq_ru ha2 L.hin).2 (L.hir a ha2)]
    simp
  rw [this, Bool.and_false]
theorem any_range_succ (f : Nat → Bool) (j : Nat) : (List.range (j + 1)).any f = ((List.range j).any f || f j) := by
  rw [List.range_succ, List.any_append]
  simp
theorem newI_nil {u : U} : newI n u [] = 0 := newI_zero.2 ⟨by decide, fun g hg => (List.not_mem_nil hg).elim⟩
end
end Go.Proofs.YtamifocfbcmfkaaDoor.GrantP

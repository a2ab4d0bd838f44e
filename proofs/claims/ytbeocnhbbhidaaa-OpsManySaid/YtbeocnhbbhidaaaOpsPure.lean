/- Operators by their names: what a search in the rows finds, and what the document's table says, are one. Conditions: none. -/
set_option linter.unusedVariables false
set_option linter.unusedSimpArgs false
namespace Go.Proofs.Ytbeocnhbbhidaaa.OpsP

abbrev OpT := Int × List UInt8 × List UInt8
/-- the rows: priority, type, names -/
def rowsL : List (Int × List UInt8 × List (List UInt8)) :=
  [(1200, [120, 102, 120], [[58, 45]]), (1200, [102, 120], [[58, 45]]), (1150, [120, 102, 120], [[58, 58]]), (1100, [120, 102, 121], [[59]]), (1050, [120, 102, 121], [[45, 62]]), (1000, [120, 102, 121], [[44]]), (900, [102, 121], [[92, 43]]),
   (700, [120, 102, 120], [[61], [92, 61], [61, 61], [92, 61, 61], [64, 60], [105, 115], [61, 58, 61], [61, 92, 61], [60], [62], [61, 60], [62, 61]]), (500, [121, 102, 120], [[43], [45]]), (400, [121, 102, 120], [[42], [47, 47], [109, 111, 100]]), (200, [102, 121], [[45]]), (190, [120, 102, 120], [[64]])]
def opsL : List OpT := rowsL.flatMap fun r => r.2.2.map fun n => (r.1, r.2.1, n)
def hit (L : List UInt8) (k : Int) (o : OpT) : Bool := o.2.2 == L && ((o.2.1.length : Int) == k)
def findL (L : List UInt8) (k : Int) : Option OpT := opsL.find? (hit L k)
def bes (p : Int) (c : UInt8) : Int := if c = 121 then p else p - 1
def infixL (L : List UInt8) : Int × Int × Int × Bool := match findL L 3 with
  | some (p, ty, _) => (bes p (ty.getD 0 0), p, bes p (ty.getD 2 0), true)
  | none => (0, 0, 0, false)
def prefixL (L : List UInt8) : Int × Int × Bool := match findL L 2 with
  | some (p, ty, _) => (p, bes p (ty.getD 1 0), true)
  | none => (0, 0, false)
def refNames : List (List UInt8) := [[61], [92, 61], [61, 61], [92, 61, 61], [64, 60], [105, 115], [61, 58, 61], [61, 92, 61], [60], [62], [61, 60], [62, 61]]
def refInfix (L : List UInt8) : Int × Int × Int × Bool :=
  if L == [58, 45] then (1199, 1200, 1199, true) else
  if L == [58, 58] then (1149, 1150, 1149, true) else
  if L == [59] then (1099, 1100, 1100, true) else
  if L == [45, 62] then (1049, 1050, 1050, true) else
  if L == [44] then (999, 1000, 1000, true) else
  if refNames.any (· == L) then (699, 700, 699, true) else
  if L == [43] || L == [45] then (500, 500, 499, true) else
  if L == [42] || L == [47, 47] || L == [109, 111, 100] then (400, 400, 399, true) else
  if L == [64] then (189, 190, 189, true) else (0, 0, 0, false)
def refPrefix (L : List UInt8) : Int × Int × Bool :=
  if L == [58, 45] then (1200, 1199, true) else
  if L == [92, 43] then (900, 900, true) else
  if L == [45] then (200, 200, true) else (0, 0, false)
/-- all names -/
def allNames : List (List UInt8) := opsL.map (·.2.2)
theorem names_eq : allNames = [[58, 45], [58, 45], [58, 58], [59], [45, 62], [44], [92, 43], [61], [92, 61], [61, 61], [92, 61, 61], [64, 60], [105, 115], [61, 58, 61], [61, 92, 61], [60], [62], [61, 60], [62, 61], [43], [45], [42], [47, 47], [109, 111, 100], [45], [64]] := by decide
theorem findL_none {L : List UInt8} (k : Int) (h : L ∉ allNames) : findL L k = none := by
  unfold findL
  rw [List.find?_eq_none]
  intro o ho
  unfold hit
  have : ¬ o.2.2 = L := by
    rintro rfl
    exact h (List.mem_map.2 ⟨o, ho, rfl⟩)
  simp [this]
theorem infix_eq (L : List UInt8) : infixL L = refInfix L := by
  by_cases h : L ∈ allNames
  · revert h
    revert L
    rw [names_eq]
    decide
  · unfold infixL
    rw [findL_none 3 h]
    rw [names_eq] at h
    simp only [List.mem_cons, not_or] at h
    simp [refInfix, refNames, h, eq_comm (b := L)]
theorem prefix_eq (L : List UInt8) : prefixL L = refPrefix L := by
  by_cases h : L ∈ allNames
  · revert h
    revert L
    rw [names_eq]
    decide
  · unfold prefixL
    rw [findL_none 2 h]
    rw [names_eq] at h
    simp only [List.mem_cons, not_or] at h
    simp [refPrefix, h]
theorem infix_facts {L : List UInt8} {a b c : Int} {is : Bool} (h : refInfix L = (a, b, c, is)) : (is = false → a = 0 ∧ b = 0 ∧ c = 0) ∧ (is = true → (a = b ∨ a = b - 1) ∧ (c = b ∨ c = b - 1) ∧ (a < b ∨ c < b) ∧ 0 < b ∧ b ≤ 2000) := by
  unfold refInfix at h
  iterate 9 (all_goals (try split at h))
  all_goals (cases h; simp)
theorem prefix_facts {L : List UInt8} {d e : Int} {was : Bool} (h : refPrefix L = (d, e, was)) : (was = false → d = 0 ∧ e = 0) ∧ (was = true → (e = d ∨ e = d - 1) ∧ 0 < d ∧ d ≤ 2000) := by
  unfold refPrefix at h
  iterate 9 (all_goals (try split at h))
  all_goals (cases h; simp)
/-- what an operator's name is told as -/
def told (o : OpT) : Bool :=
  if o.2.1.length = 3 then (refInfix o.2.2).2.2.2 && ((refInfix o.2.2).2.1 == o.1) && (((refInfix o.2.2).1 == o.1) == (o.2.1.getD 0 0 == 121)) && (((refInfix o.2.2).2.2.1 == o.1) == (o.2.1.getD 2 0 == 121))
    && decide ((refInfix o.2.2).1 ≥ o.1 - 1) && decide ((refInfix o.2.2).2.2.1 ≥ o.1 - 1) && decide ((refInfix o.2.2).1 ≥ 0) && decide ((refInfix o.2.2).2.2.1 ≥ 0) && decide ((refInfix o.2.2).1 + (refInfix o.2.2).2.2.1 ≥ 2 * o.1 - 2) && decide ((refInfix o.2.2).1 + (refInfix o.2.2).2.2.1 < 2 * o.1)
  else (o.2.1.length == 2) && (refPrefix o.2.2).2.2 && ((refPrefix o.2.2).1 == o.1) && (((refPrefix o.2.2).2.1 == o.1) == (o.2.1 == [102, 121])) && decide ((refPrefix o.2.2).2.1 ≥ o.1 - 1) && decide ((refPrefix o.2.2).2.1 ≤ o.1)
theorem told_all : ∀ o ∈ opsL, told o = true := by decide
theorem pri_all : ∀ o ∈ opsL, 1 ≤ o.1 ∧ o.1 ≤ 1200 := by decide
theorem apart_all : ∀ i, i < 26 → ∀ k, k < 26 → ¬ i = k → ∀ o o' : OpT, opsL[i]? = some o → opsL[k]? = some o' → ¬ (o.2.2 = o'.2.2 ∧ o.2.1.length = o'.2.1.length) := by
  have h : ∀ i, i < 26 → ∀ k, k < 26 → (i == k || !((opsL.getD i (0, [], [])).2.2 == (opsL.getD k (0, [], [])).2.2 && (opsL.getD i (0, [], [])).2.1.length == (opsL.getD k (0, [], [])).2.1.length)) = true := by decide
  intro i hi k hk hne o o' ho ho' he
  have h1 := h i hi k hk
  rw [List.getD_eq_getElem?_getD, List.getD_eq_getElem?_getD, ho, ho'] at h1
  simp only [Option.getD_some] at h1
  have h2 : (i == k) = false := by simpa using hne
  rw [h2, he.1, he.2] at h1
  simp at h1
/-- how many operators -/
def cnt (p : OpT → Bool) (l : List OpT) : Int := (l.countP p : Int)
theorem cnt_succ {p : OpT → Bool} {i : Nat} {o : OpT} (ho : opsL[i]? = some o) : cnt p (opsL.take (i + 1)) = cnt p (opsL.take i) + (if p o then 1 else 0) := by
  unfold cnt
  rw [List.take_add_one, ho]
  simp only [Option.toList_some, List.countP_append, List.countP_singleton]
  split <;> simp
theorem cnt_le (p : OpT → Bool) (i : Nat) : 0 ≤ cnt p (opsL.take i) ∧ cnt p (opsL.take i) ≤ 26 := by
  unfold cnt
  have h1 := List.countP_le_length (p := p) (l := opsL.take i)
  have h2 : (opsL.take i).length ≤ 26 := by
    have h3 : opsL.length = 26 := by decide
    simp only [List.length_take]
    omega
  omega
theorem len_all : ∀ o ∈ opsL, o.2.1.length = 3 ∨ o.2.1.length = 2 := by decide
theorem cnt_all : cnt (fun o => o.2.1.length == 3) opsL + cnt (fun o => !(o.2.1.length == 3)) opsL = 26 := by decide
theorem own_none {L : List UInt8} (h : L ∉ allNames) (n : Int) : cnt (hit L n) opsL = 0 := by
  unfold cnt
  have : opsL.countP (hit L n) = 0 := by
    rw [List.countP_eq_zero]
    intro o ho
    have h1 : ¬ o.2.2 = L := by
      rintro rfl
      exact h (List.mem_map.2 ⟨o, ho, rfl⟩)
    simp [hit, h1]
  omega
theorem own_eq (L : List UInt8) : ((refInfix L).2.2.2 = (cnt (hit L 3) opsL == 1)) ∧ ((refPrefix L).2.2 = (cnt (hit L 2) opsL == 1)) ∧ cnt (hit L 3) opsL ≤ 1 ∧ cnt (hit L 2) opsL ≤ 1 := by
  by_cases h : L ∈ allNames
  · revert h
    revert L
    rw [names_eq]
    decide
  · have h1 : (refInfix L).2.2.2 = false := by
      rw [← infix_eq]
      unfold infixL
      rw [findL_none 3 h]
    have h2 : (refPrefix L).2.2 = false := by
      rw [← prefix_eq]
      unfold prefixL
      rw [findL_none 2 h]
    rw [own_none h, own_none h, h1, h2]
    decide
end Go.Proofs.Ytbeocnhbbhidaaa.OpsP

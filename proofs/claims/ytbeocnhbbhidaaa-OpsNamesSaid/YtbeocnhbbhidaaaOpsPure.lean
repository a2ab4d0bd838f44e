/- Operators by their names: what a search in the rows finds, and what the document's table says, are one. Conditions: none. -/
set_option linter.unusedVariables false
set_option linter.unusedSimpArgs false
namespace Go.Proofs.Ytbeocnhbbhidaaa.OpsP

abbrev OpT := Int × List UInt8 × List UInt8
/-- the rows: priority, type, names -/
def rowsL : List (Int × List UInt8 × List (List UInt8)) :=
  [(1200, [120, 102, 120], [[58, 45]]), (1200, [102, 120], [[58, 45]]), (1150, [120, 102, 120], [[58, 58]]), (1100, [120, 102, 121], [[59]]), (1050, [120, 102, 121], [[45, 62]]), (1000, [120, 102, 121], [[44]]), (900, [102, 121], [[92, 43]]),
   (700, [120, 102, 120], [[61], [92, 61], [61, 61], [92, 61, 61], [64, 60], [105, 115], [61, 58, 61], [61, 92, 61], [60], [62], [61, 60], [62, 61]]), (500, [121, 102, 120], [[43], [45]]), (400, [121, 102, 120], [[42], [47, 47], [109, 111, 100]]), (200, [102, 121], [[45]]), (190, [120, 102, 120], [[64]])]
def opsL : List OpT := rowsL.flatMap fun r => r.2.2.map fun n => (r.1, r.2.1, n)
def hit (L : List UInt8) (k : Int) (o : OpT) : Bool := o.2.2 == L && ((o.2.1.length : Int) == k)
def findL (L : List UInt8) (k : Int) : Option OpT := opsL.find? (hit L k)
def bes (p : Int) (c : UInt8) : Int := if c = 121 then p else p - 1
def infixL (L : List UInt8) : Int × Int × Int × Bool := match findL L 3 with
  | some (p, ty, _) => (bes p (ty.getD 0 0), p, bes p (ty.getD 2 0), true)
  | none => (0, 0, 0, false)
def prefixL (L : List UInt8) : Int × Int × Bool := match findL L 2 with
  | some (p, ty, _) => (p, bes p (ty.getD 1 0), true)
  | none => (0, 0, false)
def refNames : List (List UInt8) := [[61], [92, 61], [61, 61], [92, 61, 61], [64, 60], [105, 115], [61, 58, 61], [61, 92, 61], [60], [62], [61, 60], [62, 61]]
def refInfix (L : List UInt8) : Int × Int × Int × Bool :=
  if L == [58, 45] then (1199, 1200, 1199, true) else
  if L == [58, 58] then (1149, 1150, 1149, true) else
  if L == [59] then (1099, 1100, 1100, true) else
  if L == [45, 62] then (1049, 1050, 1050, true) else
  if L == [44] then (999, 1000, 1000, true) else
  if refNames.any (· == L) then (699, 700, 699, true) else
  if L == [43] || L == [45] then (500, 500, 499, true) else
  if L == [42] || L == [47, 47] || L == [109, 111, 100] then (400, 400, 399, true) else
  if L == [64] then (189, 190, 189, true) else (0, 0, 0, false)
def refPrefix (L : List UInt8) : Int × Int × Bool :=
  if L == [58, 45] then (1200, 1199, true) else
  if L == [92, 43] then (900, 900, true) else
  if L == [45] then (200, 200, true) else (0, 0, false)
/-- all names -/
def allNames : List (List UInt8) := opsL.map (·.2.2)
theorem names_eq : allNames = [[58, 45], [58, 45], [58, 58], [59], [45, 62], [44], [92, 43], [61], [92, 61], [61, 61], [92, 61, 61], [64, 60], [105, 115], [61, 58, 61], [61, 92, 61], [60], [62], [61, 60], [62, 61], [43], [45], [42], [47, 47], [109, 111, 100], [45], [64]] := by decide
theorem findL_none {L : List UInt8} (k : Int) (h : L ∉ allNames) : findL L k = none := by
  unfold findL
  rw [List.find?_eq_none]
  intro o ho
  unfold hit
  have : ¬ o.2.2 = L := by
    rintro rfl
    exact h (List.mem_map.2 ⟨o, ho, rfl⟩)
  simp [this]
theorem infix_eq (L : List UInt8) : infixL L = refInfix L := by
  by_cases h : L ∈ allNames
  · revert h
    revert L
    rw [names_eq]
    decide
  · unfold infixL
    rw [findL_none 3 h]
    rw [names_eq] at h
    simp only [List.mem_cons, not_or] at h
    simp [refInfix, refNames, h, eq_comm (b := L)]
theorem prefix_eq (L : List UInt8) : prefixL L = refPrefix L := by
  by_cases h : L ∈ allNames
  · revert h
    revert L
    rw [names_eq]
    decide
  · unfold prefixL
    rw [findL_none 2 h]
    rw [names_eq] at h
    simp only [List.mem_cons, not_or] at h
    simp [refPrefix, h]
end Go.Proofs.Ytbeocnhbbhidaaa.OpsP

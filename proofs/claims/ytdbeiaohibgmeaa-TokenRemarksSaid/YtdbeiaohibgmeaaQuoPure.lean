/- Names in marks, step by step. Conditions: none; plain lemmas. -/
import Derived.Test.YtdbeiaohibgmeaaNumPure
set_option linter.unusedVariables false
set_option linter.unusedSimpArgs false
namespace Go.Proofs.Ytdbeiaohibgmeaa.TokP
open Go.RowKit Go.Proofs.Ytdbeiaohibgmeaa.E Go.Proofs.Ytdbeiaohibgmeaa.ReplP
def q1 : ByteArray := ⟨#[97, 32, 98, 97, 99, 107, 115, 108, 97, 115, 104]⟩
def q2 : ByteArray := ⟨#[97, 32, 98, 121, 116, 101, 32, 111, 102, 32, 97, 32, 110, 97, 109, 101]⟩
def q3 : ByteArray := ⟨#[97, 32, 110, 97, 109, 101, 32, 119, 105, 116, 104, 111, 117, 116, 32, 97, 110, 32, 101, 110, 100]⟩
def quoL : List UInt8 → List UInt8 → Nat → Ans
  | [], _, _ => .bad q3 4
  | [c], out, k => if c = 39 then .tok 1 ⟨out.toArray⟩ 0 true (k + 1) else if c = 92 then .bad q2 4 else if (c.toNat : Int) < 32 then .bad q2 4 else .bad q3 4
  | c :: d :: t, out, k => if c = 39 then (if d = 39 then quoL t (out ++ [39]) (k + 2) else .tok 1 ⟨out.toArray⟩ 0 true (k + 1))
      else if c = 92 then (match esc d with | some x => quoL t (out ++ [x]) (k + 2) | none => .bad q1 4)
      else if (c.toNat : Int) < 32 then .bad q2 4 else quoL (d :: t) (out ++ [c]) (k + 1)
section
variable {l out : List UInt8} {i : Nat} {c d : UInt8}
theorem quo_none (h : l.length ≤ i) : quoL (l.drop i) out i = .bad q3 4 := by rw [List.drop_eq_nil_of_le h, quoL]
theorem drop_two (h1 : l[i]? = some c) (h2 : l[i + 1]? = some d) : l.drop i = c :: d :: l.drop (i + 2) := by rw [drop_at h1, drop_at h2]
theorem drop_one (h1 : l[i]? = some c) (h2 : ¬ i + 1 < l.length) : l.drop i = [c] := by rw [drop_at h1, List.drop_eq_nil_of_le (by omega)]
theorem quo_mark (h1 : l[i]? = some 39) (h2 : l[i + 1]? = some 39) : quoL (l.drop (i + 2)) (out ++ [39]) (i + 2) = quoL (l.drop i) out i := by
  rw [drop_two h1 h2, quoL, if_pos rfl, if_pos rfl]
theorem quo_end (h1 : l[i]? = some 39) (h2 : ¬ l[i + 1]? = some 39) : quoL (l.drop i) out i = .tok 1 ⟨out.toArray⟩ 0 true (i + 1) := by
  by_cases hl : i + 1 < l.length
  · have h3 : l[i + 1]? = some (l[i + 1]'hl) := List.getElem?_eq_getElem hl
    rw [drop_two h1 h3, quoL, if_pos rfl, if_neg (fun h => h2 (by rw [h3, h]))]
  · rw [drop_one h1 hl, quoL, if_pos rfl]
theorem quo_esc {x : UInt8} (h1 : l[i]? = some 92) (h2 : l[i + 1]? = some d) (h3 : esc d = some x) : quoL (l.drop (i + 2)) (out ++ [x]) (i + 2) = quoL (l.drop i) out i := by
  rw [drop_two h1 h2, quoL, if_neg (by decide), if_pos rfl, h3]
theorem quo_bad (h1 : l[i]? = some 92) (h2 : l[i + 1]? = some d) (h3 : esc d = none) : quoL (l.drop i) out i = .bad q1 4 := by
  rw [drop_two h1 h2, quoL, if_neg (by decide), if_pos rfl, h3]
theorem quo_slash (h1 : l[i]? = some 92) (h2 : ¬ i + 1 < l.length) : quoL (l.drop i) out i = .bad q2 4 := by
  rw [drop_one h1 h2, quoL, if_neg (by decide), if_pos rfl]
theorem quo_low (h1 : l[i]? = some c) (h39 : ¬ c = 39) (h92 : ¬ c = 92) (h : (c.toNat : Int) < 32) : quoL (l.drop i) out i = .bad q2 4 := by
  by_cases hl : i + 1 < l.length
  · rw [drop_two h1 (List.getElem?_eq_getElem hl), quoL, if_neg h39, if_neg h92, if_pos h]
  · rw [drop_one h1 hl, quoL, if_neg h39, if_neg h92, if_pos h]
theorem quo_byte (h1 : l[i]? = some c) (h39 : ¬ c = 39) (h92 : ¬ c = 92) (h : ¬ (c.toNat : Int) < 32) : quoL (l.drop (i + 1)) (out ++ [c]) (i + 1) = quoL (l.drop i) out i := by
  by_cases hl : i + 1 < l.length
  · have h3 : l[i + 1]? = some (l[i + 1]'hl) := List.getElem?_eq_getElem hl
    rw [drop_two h1 h3, quoL, if_neg h39, if_neg h92, if_neg h, drop_at h3]
  · rw [drop_one h1 hl, quoL, if_neg h39, if_neg h92, if_neg h, List.drop_eq_nil_of_le (by omega), quoL]
theorem quo_markC (h1 : l[i]? = some c) (h39 : c = 39) (h2 : l[i + 1]? = some d) (h39b : d = 39) : quoL (l.drop (i + 2)) (out ++ [c]) (i + 2) = quoL (l.drop i) out i := by
  subst h39 h39b
  exact quo_mark h1 h2
theorem quo_endC (h1 : l[i]? = some c) (h39 : c = 39) (h2 : ∀ d, l[i + 1]? = some d → ¬ d = 39) : quoL (l.drop i) out i = .tok 1 ⟨out.toArray⟩ 0 true (i + 1) := by
  subst h39
  exact quo_end h1 (fun h => h2 39 h rfl)
theorem quo_escC {x : UInt8} (h1 : l[i]? = some c) (h92 : c = 92) (h2 : l[i + 1]? = some d) (h3 : esc d = some x) : quoL (l.drop (i + 2)) (out ++ [x]) (i + 2) = quoL (l.drop i) out i := by
  subst h92
  exact quo_esc h1 h2 h3
theorem quo_badC (h1 : l[i]? = some c) (h92 : c = 92) (h2 : l[i + 1]? = some d) (h3 : esc d = none) : quoL (l.drop i) out i = .bad q1 4 := by
  subst h92
  exact quo_bad h1 h2 h3
theorem quo_slashC (h1 : l[i]? = some c) (h92 : c = 92) (h2 : ¬ i + 1 < l.length) : quoL (l.drop i) out i = .bad q2 4 := by
  subst h92
  exact quo_slash h1 h2
end
def quoA (l : List UInt8) : Ans := quoL (l.drop 1) [] 1
end Go.Proofs.Ytdbeiaohibgmeaa.TokP

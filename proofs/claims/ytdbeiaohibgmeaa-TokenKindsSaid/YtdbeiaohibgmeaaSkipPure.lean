/- What is passed over, step by step. Conditions: none; plain lemmas. -/
import Derived.Test.YtdbeiaohibgmeaaTokPure
set_option linter.unusedVariables false
set_option linter.unusedSimpArgs false
namespace Go.Proofs.Ytdbeiaohibgmeaa.TokP
open Go.RowKit Go.Proofs.Ytdbeiaohibgmeaa.E Go.Proofs.Ytdbeiaohibgmeaa.ReplP
theorem ext_from (s : ByteArray) (i : Nat) : (s.extract i s.size).data.toList = s.data.toList.drop i := by
  obtain ⟨⟨l⟩⟩ := s
  simp [ByteArray.size]
  rw [List.take_of_length_le (by rw [List.length_drop]; exact Nat.le_refl _)]
theorem ext_to (s : ByteArray) (i : Nat) : (s.extract 0 i).data.toList = s.data.toList.take i := by
  obtain ⟨⟨l⟩⟩ := s
  simp
theorem drop_at {l : List UInt8} {i : Nat} {e : UInt8} (h : l[i]? = some e) : l.drop i = e :: l.drop (i + 1) := by
  have hl := (List.getElem?_eq_some_iff.1 h).1
  rw [List.drop_eq_getElem_cons hl, (List.getElem?_eq_some_iff.1 h).2]
theorem skip_nil : skipN [] = 0 := by rw [skipN]
theorem skip_cons (c : UInt8) (l : List UInt8) : skipN (c :: l) = if c = 37 then (if runB lineB l = l.length then l.length + 1 else runB lineB l + 2 + skipN (l.drop (runB lineB l + 1))) else if blankB c = true then 1 + skipN l else 0 := by rw [skipN]
theorem line_pct : lineB 37 = true := rfl
section
variable {l : List UInt8} {i : Nat} {e : UInt8}
theorem skip_blank (h : l[i]? = some e) (h1 : ¬ e = 37) (h2 : blankB e = true) : i + 1 + skipN (l.drop (i + 1)) = i + skipN (l.drop i) := by
  rw [drop_at h, skip_cons, if_neg h1, if_pos h2]
  omega
theorem skip_stop (h : l[i]? = some e) (h1 : ¬ e = 37) (h2 : blankB e = false) : skipN (l.drop i) = 0 := by
  rw [drop_at h, skip_cons, if_neg h1, h2]
  rfl
theorem skip_run (h : l[i]? = some e) (h1 : e = 37) : runB lineB (l.drop i) = runB lineB (l.drop (i + 1)) + 1 := by
  rw [drop_at h, h1, runB_yes line_pct]
theorem skip_last (h : l[i]? = some e) (h1 : e = 37) (h2 : i + runB lineB (l.drop i) = l.length) : i + skipN (l.drop i) = l.length := by
  have hl := (List.getElem?_eq_some_iff.1 h).1
  rw [skip_run h h1] at h2
  have h3 : runB lineB (l.drop (i + 1)) = (l.drop (i + 1)).length := by rw [List.length_drop]; omega
  rw [drop_at h, skip_cons, if_pos h1, if_pos h3, List.length_drop]
  omega
theorem skip_remark (h : l[i]? = some e) (h1 : e = 37) (h2 : ¬ i + runB lineB (l.drop i) = l.length) : i + runB lineB (l.drop i) + 1 ≤ l.length ∧ (i + runB lineB (l.drop i) + 1) + skipN (l.drop (i + runB lineB (l.drop i) + 1)) = i + skipN (l.drop i) := by
  have hl := (List.getElem?_eq_some_iff.1 h).1
  have h4 := runB_le lineB (l.drop i)
  rw [List.length_drop] at h4
  refine ⟨by omega, ?_⟩
  rw [skip_run h h1] at h2 h4
  have h3 : ¬ runB lineB (l.drop (i + 1)) = (l.drop (i + 1)).length := by rw [List.length_drop]; omega
  have h5 : skipN (l.drop i) = runB lineB (l.drop (i + 1)) + 2 + skipN ((l.drop (i + 1)).drop (runB lineB (l.drop (i + 1)) + 1)) := by rw [drop_at h, skip_cons, if_pos h1, if_neg h3]
  have h6 : (l.drop (i + 1)).drop (runB lineB (l.drop (i + 1)) + 1) = l.drop (i + runB lineB (l.drop i) + 1) := by
    rw [List.drop_drop, skip_run h h1]
    congr 1
    omega
  rw [h6] at h5
  rw [h5, skip_run h h1]
  omega
end
theorem skip_le : ∀ (k : Nat) (l : List UInt8), l.length ≤ k → skipN l ≤ l.length
  | _, [], _ => by rw [skip_nil]; exact Nat.le_refl _
  | 0, _ :: _, h => by simp at h
  | k + 1, c :: l, h => by
    have hl : l.length ≤ k := by simpa using h
    rw [skip_cons, List.length_cons]
    split
    · split
      · exact Nat.le_refl _
      · have h1 := skip_le k (l.drop (runB lineB l + 1)) (by rw [List.length_drop]; omega)
        have h2 := runB_le lineB l
        rw [List.length_drop] at h1
        omega
    · split
      · have := skip_le k l hl
        omega
      · exact Nat.zero_le _
/-! ends and escapes -/
def pointB : List UInt8 → Bool
  | [] => false
  | c :: _ => c == 46
theorem point_take (l : List UInt8) : (l.take 1 == [46]) = pointB l := by
  cases l with
  | nil => rfl
  | cons c t => simp [pointB]
theorem point_nil {l : List UInt8} (h : ¬ 1 ≤ l.length) : pointB l = false := by
  cases l with
  | nil => rfl
  | cons c t => simp at h
theorem point_some {l : List UInt8} (h : pointB l = true) : 1 ≤ l.length := by
  cases l with
  | nil => simp [pointB] at h
  | cons c t => simp
def afterB : Option UInt8 → Bool
  | none => false
  | some d => blankB d || ((d.toNat : Int) == 37)
def endsB (l : List UInt8) : Bool := pointB l && (((l.length : Int) == 1) || afterB l[1]?)
def esc (c : UInt8) : Option UInt8 := if ((c.toNat : Int) == 92) = true then some c else if ((c.toNat : Int) == 39) = true then some c else if ((c.toNat : Int) == 110) = true then some 10 else none
end Go.Proofs.Ytdbeiaohibgmeaa.TokP

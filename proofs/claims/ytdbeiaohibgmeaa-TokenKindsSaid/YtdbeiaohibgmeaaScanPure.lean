/- A text in tokens. Conditions: none; plain lemmas. -/
import Derived.Test.YtdbeiaohibgmeaaOnePure
set_option linter.unusedVariables false
set_option linter.unusedSimpArgs false
namespace Go.Proofs.Ytdbeiaohibgmeaa.TokP
open Go.RowKit Go.Proofs.Ytdbeiaohibgmeaa.E Go.Proofs.Ytdbeiaohibgmeaa.ReplP
structure Tk where
  a : Ans
  tight : Bool
def tkC (t : Tk) : List Value := [.int .i64 t.a.kind, .string t.a.str, .int .i64 t.a.num, .bool t.a.quo, .bool t.tight]
inductive Sc where
  | ok (ts : List Tk)
  | bad (at_ : Nat) (what : ByteArray) (e : Int)
def n1 : ByteArray := ⟨#[97, 32, 110, 97, 109, 101]⟩
/-- what is wrong with what was read -/
def errA (a : Ans) : Option (ByteArray × Int) := if a.err = none ∧ 64 < a.str.size then some (n1, 3) else a.err
def firstC : List UInt8 → UInt8
  | [] => 0
  | c :: _ => c
def scanF (l : List UInt8) : Nat → Nat → List Tk → Sc
  | 0, _, acc => .ok acc
  | k + 1, i, acc =>
    if i + skipN (l.drop i) = l.length then .ok acc
    else match errA (oneC (firstC (l.drop (i + skipN (l.drop i)))) (l.drop (i + skipN (l.drop i)))) with
      | some x => .bad (i + skipN (l.drop i)) x.1 x.2
      | none => scanF l k (i + skipN (l.drop i) + (oneC (firstC (l.drop (i + skipN (l.drop i)))) (l.drop (i + skipN (l.drop i)))).used) (acc ++ [⟨oneC (firstC (l.drop (i + skipN (l.drop i)))) (l.drop (i + skipN (l.drop i))), decide (skipN (l.drop i) = 0) && decide (0 < acc.length)⟩])
theorem run_first {p : UInt8 → Bool} {c : UInt8} {l : List UInt8} (h : p c = true) : 1 ≤ runB p (c :: l) := by rw [runB_yes h]; omega
theorem num_used {c : UInt8} {l : List UInt8} (h : digitB c = true) (he : (numA (c :: l)).err = none) : 1 ≤ (numA (c :: l)).used ∧ (numA (c :: l)).used ≤ (c :: l).length := by
  unfold numA at he ⊢
  split at he
  · cases he
  · rename_i h1
    rw [if_neg h1]
    split at he
    · cases he
    · rename_i h2
      rw [if_neg h2]
      exact ⟨run_first h, runB_le _ _⟩
theorem quo_used (l : List UInt8) : ∀ (m : Nat) (r out : List UInt8) (k : Nat), r.length ≤ m → k + r.length = l.length → (quoL r out k).err = none → 1 ≤ (quoL r out k).used ∧ (quoL r out k).used ≤ l.length := by
  intro m
  induction m with
  | zero =>
    intro r out k hr hk he
    have : r = [] := List.eq_nil_of_length_eq_zero (by omega)
    subst this
    rw [quoL] at he
    cases he
  | succ m ih =>
    intro r out k hr hk he
    match r, hr, hk, he with
    | [], _, _, he => rw [quoL] at he; cases he
    | [c], _, hk, he =>
      rw [quoL] at he ⊢
      simp only [List.length_cons, List.length_nil] at hk
      split at he
      · rename_i h1
        rw [if_pos h1]
        exact ⟨by show 1 ≤ k + 1; omega, by show k + 1 ≤ _; omega⟩
      · split at he
        · cases he
        · split at he <;> cases he
    | c :: d :: t, hr, hk, he =>
      rw [quoL] at he ⊢
      simp only [List.length_cons] at hk hr
      by_cases h39 : c = 39
      · rw [if_pos h39] at he ⊢
        by_cases hd : d = 39
        · rw [if_pos hd] at he ⊢
          exact ih t _ (k + 2) (by omega) (by omega) he
        · rw [if_neg hd] at he ⊢
          exact ⟨by show 1 ≤ k + 1; omega, by show k + 1 ≤ _; omega⟩
      · rw [if_neg h39] at he ⊢
        by_cases h92 : c = 92
        · rw [if_pos h92] at he ⊢
          cases hx : esc d with
          | none => rw [hx] at he; cases he
          | some x =>
            rw [hx] at he
            exact ih t _ (k + 2) (by omega) (by omega) he
        · rw [if_neg h92] at he ⊢
          by_cases hlow : (c.toNat : Int) < 32
          · rw [if_pos hlow] at he; cases he
          · rw [if_neg hlow] at he ⊢
            exact ih (d :: t) _ (k + 1) (by simp only [List.length_cons]; omega) (by simp only [List.length_cons]; omega) he
theorem one_used {c : UInt8} {l : List UInt8} (he : (oneC c (c :: l)).err = none) : 1 ≤ (oneC c (c :: l)).used ∧ (oneC c (c :: l)).used ≤ (c :: l).length := by
  have h1 : 1 ≤ (c :: l).length := by simp
  unfold oneC at he ⊢
  split at he
  · rename_i h; rw [if_pos h]; exact ⟨run_first (by unfold letterB; rw [h]; rfl), runB_le _ _⟩
  rename_i h
  rw [if_neg h]
  split at he
  · rename_i h; rw [if_pos h]; exact ⟨run_first (by unfold letterB; rw [h]; simp), runB_le _ _⟩
  rename_i h
  rw [if_neg h]
  split at he
  · rename_i h; rw [if_pos h]; exact num_used h he
  rename_i h
  rw [if_neg h]
  split at he
  · rename_i h; rw [if_pos h]; exact quo_used (c :: l) l.length l [] 1 (Nat.le_refl _) (by simp; omega) he
  rename_i h
  rw [if_neg h]
  split at he
  · rename_i h; rw [if_pos h]; exact ⟨Nat.le_refl _, h1⟩
  rename_i h
  rw [if_neg h]
  split at he
  · rename_i h; rw [if_pos h]; exact ⟨Nat.le_refl _, h1⟩
  rename_i h
  rw [if_neg h]
  split at he
  · rename_i h; rw [if_pos h]; exact ⟨Nat.le_refl _, h1⟩
  rename_i h
  rw [if_neg h]
  split at he
  · rename_i h; rw [if_pos h]; exact ⟨run_first h, runB_le _ _⟩
  · cases he
/-! step by step -/
section
variable {l : List UInt8} {i k : Nat} {acc : List Tk}
theorem skip_room (hi : i ≤ l.length) : i + skipN (l.drop i) ≤ l.length := by
  have := skip_le (l.drop i).length (l.drop i) (Nat.le_refl _)
  rw [List.length_drop] at this
  omega
theorem scan_done (h : i + skipN (l.drop i) = l.length) : scanF l (k + 1) i acc = .ok acc := by rw [scanF, if_pos h]
theorem scan_bad {x : ByteArray × Int} (h : ¬ i + skipN (l.drop i) = l.length) (he : errA (oneC (firstC (l.drop (i + skipN (l.drop i)))) (l.drop (i + skipN (l.drop i)))) = some x) : scanF l (k + 1) i acc = .bad (i + skipN (l.drop i)) x.1 x.2 := by rw [scanF, if_neg h, he]
theorem scan_more (h : ¬ i + skipN (l.drop i) = l.length) (he : errA (oneC (firstC (l.drop (i + skipN (l.drop i)))) (l.drop (i + skipN (l.drop i)))) = none) : scanF l (k + 1) i acc = scanF l k (i + skipN (l.drop i) + (oneC (firstC (l.drop (i + skipN (l.drop i)))) (l.drop (i + skipN (l.drop i)))).used) (acc ++ [⟨oneC (firstC (l.drop (i + skipN (l.drop i)))) (l.drop (i + skipN (l.drop i))), decide (skipN (l.drop i) = 0) && decide (0 < acc.length)⟩]) := by rw [scanF, if_neg h, he]
theorem err_none {a : Ans} (h : errA a = none) : a.err = none := by
  unfold errA at h
  split at h
  · cases h
  · exact h
theorem scan_used (hi : i ≤ l.length) (h : ¬ i + skipN (l.drop i) = l.length) (he : errA (oneC (firstC (l.drop (i + skipN (l.drop i)))) (l.drop (i + skipN (l.drop i)))) = none) : i + 1 ≤ i + skipN (l.drop i) + (oneC (firstC (l.drop (i + skipN (l.drop i)))) (l.drop (i + skipN (l.drop i)))).used ∧ i + skipN (l.drop i) + (oneC (firstC (l.drop (i + skipN (l.drop i)))) (l.drop (i + skipN (l.drop i)))).used ≤ l.length := by
  have h1 := skip_room hi
  have hlt : i + skipN (l.drop i) < l.length := by omega
  have h2 := drop_at (List.getElem?_eq_getElem hlt)
  have h3 := err_none he
  rw [h2] at h3 ⊢
  have h4 := one_used h3
  simp only [firstC]
  have h5 : (l[i + skipN (l.drop i)] :: l.drop (i + skipN (l.drop i) + 1)).length = l.length - (i + skipN (l.drop i)) := by rw [← h2, List.length_drop]
  have h6 : (oneC l[i + skipN (l.drop i)] (l[i + skipN (l.drop i)] :: l.drop (i + skipN (l.drop i) + 1))).used ≤ l.length - (i + skipN (l.drop i)) := Nat.le_trans h4.2 (Nat.le_of_eq h5)
  have h7 : 1 ≤ (oneC l[i + skipN (l.drop i)] (l[i + skipN (l.drop i)] :: l.drop (i + skipN (l.drop i) + 1))).used := h4.1
  omega
theorem scan_fuel : ∀ (k1 k2 i : Nat) (acc : List Tk), i ≤ l.length → l.length + 1 ≤ i + k1 → l.length + 1 ≤ i + k2 → scanF l k1 i acc = scanF l k2 i acc
  | 0, _, i, acc, hi, h1, _ => by omega
  | _, 0, i, acc, hi, _, h2 => by omega
  | k1 + 1, k2 + 1, i, acc, hi, h1, h2 => by
    by_cases h : i + skipN (l.drop i) = l.length
    · rw [scan_done h, scan_done h]
    · cases he : errA (oneC (firstC (l.drop (i + skipN (l.drop i)))) (l.drop (i + skipN (l.drop i)))) with
      | some x => rw [scan_bad h he, scan_bad h he]
      | none =>
        rw [scan_more h he, scan_more h he]
        have hu := scan_used hi h he
        exact scan_fuel k1 k2 _ _ hu.2 (by omega) (by omega)
end
def scanA (l : List UInt8) : Sc := if 4096 < l.length then .bad 0 ⟨#[97, 32, 116, 101, 120, 116]⟩ 3 else scanF l (l.length + 1) 0 []
end Go.Proofs.Ytdbeiaohibgmeaa.TokP

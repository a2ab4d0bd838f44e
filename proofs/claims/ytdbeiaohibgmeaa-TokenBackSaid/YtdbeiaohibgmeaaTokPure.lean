/- What bytes are; how many bytes a text begins with; which names are plain. Conditions: none; plain lemmas. -/
import Derived.Test.YtdbeiaohibgmeaaEngByte
set_option linter.unusedVariables false
set_option linter.unusedSimpArgs false
namespace Go.Proofs.Ytdbeiaohibgmeaa.E
open Go.RowKit
theorem cy_asRow {P : Program} {c : Code} {Q : Exit → Act → World → Prop} {n : Nat} {D : List Deferred} {w0 : World} {M : List Nat} {h0 : Hp} {f : Tab} {h : Hp} {H : List Res} {b e l sz : Nat} {cs : List Value} {H1 : List Res} (i : Nat) (hp : pickR i H = some (.blk b (.cells cs.toArray e (0, 0)), H1)) (hl : cs.length = l * sz) (hm : l ≤ maxLen) (k : Cy P c Q n D w0 M h0 f h (.row (.slice (some ⟨b, 0, none⟩) l l) e sz l cs :: H1)) :
    Cy P c Q n D w0 M h0 f h H := fun a w ha hs => k a w ha ((hs.swap (pickR_perm hp)).asRow hl hm)
end Go.Proofs.Ytdbeiaohibgmeaa.E
namespace Go.Proofs.Ytdbeiaohibgmeaa.TokP
open Go.RowKit Go.Proofs.Ytdbeiaohibgmeaa.E Go.Proofs.Ytdbeiaohibgmeaa.ReplP
def smallB (c : UInt8) : Bool := decide ((97 : Int) ≤ (c.toNat : Int)) && decide ((c.toNat : Int) ≤ 122)
def bigB (c : UInt8) : Bool := (decide ((65 : Int) ≤ (c.toNat : Int)) && decide ((c.toNat : Int) ≤ 90)) || ((c.toNat : Int) == 95)
def digitB (c : UInt8) : Bool := decide ((48 : Int) ≤ (c.toNat : Int)) && decide ((c.toNat : Int) ≤ 57)
def letterB (c : UInt8) : Bool := smallB c || bigB c || digitB c
def signL : List UInt8 := [43, 45, 42, 47, 92, 94, 60, 62, 61, 126, 58, 46, 63, 64, 35, 38, 36]
def signB (c : UInt8) : Bool := signL.contains c
def blankB (c : UInt8) : Bool := (((c.toNat : Int) == 9) || ((c.toNat : Int) == 10)) || ((c.toNat : Int) == 13) || ((c.toNat : Int) == 32)
def lineB (c : UInt8) : Bool := !((c.toNat : Int) == 10)
theorem idx_has : ∀ (l : List UInt8) (c : UInt8), decide (0 ≤ Lib.indexByte l c) = l.contains c
  | [], c => rfl
  | b :: l, c => by
    have h1 := idx_has l c
    have h2 := Lib.indexByte_ge l c
    have e : Lib.indexByte (b :: l) c = if (b == c) = true then 0 else if (Lib.indexByte l c == -1) = true then -1 else Lib.indexByte l c + 1 := by rw [Lib.indexByte]
    rw [List.contains_cons, ← h1, e]
    clear e
    by_cases hb : (b == c) = true
    · rw [if_pos hb]
      have : (c == b) = true := beq_iff_eq.2 (beq_iff_eq.1 hb).symm
      rw [this]
      rfl
    · rw [if_neg hb]
      have : (c == b) = false := by
        have hb' : (b == c) = false := by simpa using hb
        rw [beq_eq_false_iff_ne] at hb' ⊢
        exact fun h => hb' h.symm
      rw [this, Bool.false_or]
      by_cases h3 : (Lib.indexByte l c == -1) = true
      · rw [if_pos h3]
        have h4 : Lib.indexByte l c = -1 := by simpa using h3
        rw [h4]
      · rw [if_neg h3]
        have h4 : ¬ Lib.indexByte l c = -1 := by simpa using h3
        exact decide_eq_decide.2 (by omega)
/-! how many bytes of one kind a text begins with -/
def runB (p : UInt8 → Bool) (l : List UInt8) : Nat := (l.takeWhile p).length
theorem runB_le (p : UInt8 → Bool) (l : List UInt8) : runB p l ≤ l.length := (List.takeWhile_prefix p).length_le
theorem runB_nil (p : UInt8 → Bool) : runB p [] = 0 := rfl
theorem runB_yes {p : UInt8 → Bool} {c : UInt8} {l : List UInt8} (h : p c = true) : runB p (c :: l) = runB p l + 1 := by simp [runB, h]
theorem runB_no {p : UInt8 → Bool} {c : UInt8} {l : List UInt8} (h : p c = false) : runB p (c :: l) = 0 := by simp [runB, h]
theorem run_end {p : UInt8 → Bool} : ∀ {l : List UInt8} {i : Nat}, (l.take i).all p = true → l.length ≤ i → runB p l = l.length
  | [], _, _, _ => rfl
  | c :: l, 0, _, hl => by simp at hl
  | c :: l, i + 1, h, hl => by
    rw [List.take_succ_cons, List.all_cons, Bool.and_eq_true] at h
    rw [runB_yes h.1, run_end h.2 (by simpa using hl)]
    rfl
theorem run_at {p : UInt8 → Bool} : ∀ {l : List UInt8} {i : Nat} {e : UInt8}, (l.take i).all p = true → l[i]? = some e → p e = false → runB p l = i
  | [], i, e, _, he, _ => by simp at he
  | c :: l, 0, e, _, he, hp => by
    simp only [List.getElem?_cons_zero, Option.some.injEq] at he
    subst he
    exact runB_no hp
  | c :: l, i + 1, e, h, he, hp => by
    rw [List.take_succ_cons, List.all_cons, Bool.and_eq_true] at h
    rw [runB_yes h.1, run_at h.2 (by simpa using he) hp]
theorem all_snoc {p : UInt8 → Bool} {l : List UInt8} {i : Nat} {x : UInt8} (h : l[i]? = some x) : (l.take (i + 1)).all p = ((l.take i).all p && p x) := by
  rw [List.take_add_one, h, List.all_append]
  simp
theorem has_snoc {l : List UInt8} {i : Nat} {c x : UInt8} (h : l[i]? = some x) (hp : (l.take i).contains c = false) (hx : ¬ x.toNat = c.toNat) : (l.take (i + 1)).contains c = false := by
  rw [List.take_add_one, h, List.contains_eq_mem]
  rw [List.contains_eq_mem] at hp
  have hne : ¬ c = x := fun h9 => hx (by rw [h9])
  simp only [Option.toList_some, List.mem_append, List.mem_singleton, decide_eq_false_iff_not, not_or] at hp ⊢
  exact ⟨hp, hne⟩
theorem has_yes {l : List UInt8} {i : Nat} {c x : UInt8} (h : l[i]? = some x) (hx : x.toNat = c.toNat) : l.contains c = true := by
  have : x = c := UInt8.toNat_inj.1 hx
  subst this
  rw [List.contains_eq_mem, decide_eq_true_iff]
  exact List.mem_of_getElem? h
theorem run_eq_all (p : UInt8 → Bool) : ∀ l : List UInt8, decide (runB p l = l.length) = l.all p
  | [] => rfl
  | c :: l => by
    have ih := run_eq_all p l
    rw [List.all_cons, ← ih]
    cases h : p c with
    | true =>
      rw [runB_yes h, Bool.true_and]
      exact decide_eq_decide.2 (by simp)
    | false =>
      rw [runB_no h, Bool.false_and]
      simp
theorem run_all (p : UInt8 → Bool) (l : List UInt8) : (((runB p l : Nat) : Int) == ((l.length : Nat) : Int)) = l.all p := by
  rw [← run_eq_all, Bool.eq_iff_iff]
  simp
  omega
/-! plain names -/
def firstB (p : UInt8 → Bool) : List UInt8 → Bool
  | [] => false
  | c :: _ => p c
def plainB (l : List UInt8) : Bool := if (l == [] || l == [46]) = true then false else if ((l == [91, 93] || l == [33]) || l == [59]) = true then true else (firstB smallB l && l.all letterB) || l.all signB
theorem plain_end {l : List UInt8} (h1 : (l == []) = false) (h2 : (l == [46]) = false) (h3 : (l == [91, 93]) = false) (h4 : (l == [33]) = false) (h5 : (l == [59]) = false) : plainB l = ((firstB smallB l && l.all letterB) || l.all signB) := by
  unfold plainB
  rw [h1, h2, h3, h4, h5]
  rfl
/-! what is passed over -/
def skipN : List UInt8 → Nat
  | [] => 0
  | c :: l => if c = 37 then (if runB lineB l = l.length then l.length + 1 else runB lineB l + 2 + skipN (l.drop (runB lineB l + 1))) else if blankB c = true then 1 + skipN l else 0
termination_by l => l.length
decreasing_by
  · simp
    omega
  · simp
end Go.Proofs.Ytdbeiaohibgmeaa.TokP

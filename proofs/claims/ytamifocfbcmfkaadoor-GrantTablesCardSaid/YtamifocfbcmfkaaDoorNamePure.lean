/- Names of owners, letter by letter; one grant, and many alike. Conditions: none; plain lemmas. -/
import Derived.Test.YtamifocfbcmfkaaDoorGrantPure
import Derived.Test.YtamifocfbcmfkaaDoorLattLaw2
set_option linter.unusedVariables false
set_option linter.unusedSimpArgs false
namespace Go.Proofs.YtamifocfbcmfkaaDoor.GrantP
open Go.RowKit Go.Proofs.YtamifocfbcmfkaaDoor.E Go.Proofs.YtamifocfbcmfkaaDoor.LattP
theorem ba_at {s : ByteArray} {i : Nat} {u : UInt8} (h : s.data.toList[i]? = some u) : s[((i : Nat) : Int).toNat]? = some u := by
  have hl := (List.getElem?_eq_some_iff.1 h).1
  have hi : i < s.size := by simpa using hl
  have e : ((i : Nat) : Int).toNat = i := Int.toNat_natCast i
  rw [e, getElem?_pos s i hi]
  have h2 := (List.getElem?_eq_some_iff.1 h).2
  rw [← h2]
  rfl
def sizeB (s : ByteArray) : Bool := decide ((1 : Int) ≤ (s.size : Int)) && decide ((s.size : Int) ≤ 64)
def fineB (s : ByteArray) (i : Nat) : Bool := sizeB s && (s.data.toList.take i).all lettB
theorem fine_zero (s : ByteArray) : fineB s 0 = sizeB s := by simp [fineB]
theorem fine_succ {s : ByteArray} {i : Nat} {u : UInt8} (h : s.data.toList[i]? = some u) : fineB s (i + 1) = ((fineB s i && decide ((97 : Int) ≤ (u.toNat : Int))) && decide ((u.toNat : Int) ≤ 122)) := by
  unfold fineB
  rw [all_take_succ h]
  have e1 : decide ((97 : Int) ≤ (u.toNat : Int)) = decide (97 ≤ u.toNat) := decide_eq_decide.2 (by omega)
  have e2 : decide ((u.toNat : Int) ≤ 122) = decide (u.toNat ≤ 122) := decide_eq_decide.2 (by omega)
  rw [e1, e2]
  unfold lettB
  simp only [Bool.and_assoc]
theorem fine_end (s : ByteArray) : fineB s s.size = nameB s := by
  unfold fineB nameB sizeB
  have e0 : s.data.toList.take s.size = s.data.toList := List.take_of_length_le (Nat.le_refl _)
  have e1 : decide ((1 : Int) ≤ (s.size : Int)) = decide (1 ≤ s.size) := decide_eq_decide.2 (by omega)
  have e2 : decide ((s.size : Int) ≤ 64) = decide (s.size ≤ 64) := decide_eq_decide.2 (by omega)
  rw [e0, e1, e2, Bool.and_comm]
theorem one_fine : Fine ((1 : Nat) : Int) [] := ch_fine (k := 1) (by decide) (by decide)
theorem leq_one : leqI 1 (ru 1 []) 0 0 = true := leqS_refl (n := 1) (p := []) (a := 0) (by decide)
theorem wrong_one (s : ByteArray) : wrongI 1 (ru 1 []) ⟨s, 0, 0⟩ = if nameB s = true then 0 else 4 := by
  unfold wrongI
  simp only [leq_one]
  simp
theorem names_fine {s : ByteArray} (h : nameB s = true) : newI 1 (ru 1 []) [⟨s, 0, 0⟩] = 0 := newI_zero.2 ⟨by simp, fun g hg => by
  simp only [List.mem_cons, List.not_mem_nil, or_false] at hg
  subst hg
  rw [wrong_one, if_pos h]⟩
theorem names_bad {s : ByteArray} (h : nameB s = false) : newI 1 (ru 1 []) [⟨s, 0, 0⟩] = 4 := by
  have hw : wrongI 1 (ru 1 []) ⟨s, 0, 0⟩ = 4 := by rw [wrong_one, h]; rfl
  rw [newI_bad (g := ⟨s, 0, 0⟩) (i := 0) (by simp) rfl (fun j x hj => absurd hj (Nat.not_lt_zero j)) (by rw [hw]; decide), hw]
def ga : Gr := ⟨⟨#[97]⟩, 0, 0⟩
theorem many_fine {m : Nat} (h : m ≤ 100) : newI 1 (ru 1 []) (List.replicate m ga) = 0 := newI_zero.2 ⟨by rw [List.length_replicate]; omega, fun g hg => by
  obtain ⟨_, rfl⟩ := List.mem_replicate.1 hg
  have h2 : nameB ⟨#[97]⟩ = true := by decide
  exact (wrong_one _).trans (if_pos h2)⟩
theorem many_full {m : Nat} (h : ¬ m ≤ 100) : newI 1 (ru 1 []) (List.replicate m ga) = 3 := newI_full (by rw [List.length_replicate]; omega)
theorem many_snoc (m : Nat) : ((List.replicate (m + 1) ga).map grC).flatten = ((List.replicate m ga).map grC).flatten ++ [.string ⟨#[97]⟩, .int .i64 0, .int .i64 0] := by
  rw [List.replicate_succ', grs_snoc]
  rfl
theorem many_ok {m : Nat} : ∀ g, g ∈ List.replicate m ga → g.s.size ≤ 140737488355328 := fun g hg => by
  obtain ⟨_, rfl⟩ := List.mem_replicate.1 hg
  decide
theorem pairs_none {h : Hp} : PairsAt h none [] := fun j x hj => by simp at hj
end Go.Proofs.YtamifocfbcmfkaaDoor.GrantP

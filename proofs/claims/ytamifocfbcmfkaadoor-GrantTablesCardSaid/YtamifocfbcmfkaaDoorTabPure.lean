/- Grants over the document's lattice. Conditions: none; plain lemmas. -/
import Derived.Test.YtamifocfbcmfkaaDoorNamePure
import Derived.Test.YtamifocfbcmfkaaDoorLattRef
set_option linter.unusedVariables false
set_option linter.unusedSimpArgs false
namespace Go.Proofs.YtamifocfbcmfkaaDoor.GrantP
open Go.RowKit Go.Proofs.YtamifocfbcmfkaaDoor.E Go.Proofs.YtamifocfbcmfkaaDoor.LattP
theorem isI_refl {n : Nat} {p : List (Int × Int)} (a : Int) : isI n a = leqI n (ru n p) a a := by
  cases h : isI n a with
  | true =>
    obtain ⟨k, rfl, hk⟩ := isI_some h
    exact (leqS_refl hk).symm
  | false =>
    unfold leqI
    rw [h]
    rfl
def crossE (n : Nat) (u : U) (x : Int) (g : Gr) : Bool := leqI n u x x && crossB n u x g
theorem crossE_any (n : Nat) (u : U) (x : Int) (gs : List Gr) : gs.any (crossE n u x) = (leqI n u x x && gs.any (crossB n u x)) := by
  unfold crossE
  induction gs with
  | nil => simp
  | cons g gs ih =>
    simp only [List.any_cons, ih]
    cases leqI n u x x <;> simp
theorem wrong_name {n : Nat} {u : U} {g : Gr} (h : nameB g.s = false) : wrongI n u g = 4 := by simp [wrongI, h]
theorem wrong_from {n : Nat} {u : U} {g : Gr} (h : nameB g.s = true) (h1 : leqI n u g.a g.a = false) : wrongI n u g = 2 := by simp [wrongI, h, h1]
theorem wrong_to {n : Nat} {u : U} {g : Gr} (h : nameB g.s = true) (h1 : leqI n u g.a g.a = true) (h2 : leqI n u g.b g.b = false) : wrongI n u g = 2 := by simp [wrongI, h, h1, h2]
theorem wrong_not {n : Nat} {u : U} {g : Gr} (h : nameB g.s = true) (h1 : leqI n u g.a g.a = true) (h2 : leqI n u g.b g.b = true) : wrongI n u g = 0 := by simp [wrongI, h, h1, h2]
theorem pre_succ {n : Nat} {u : U} {gs : List Gr} {i : Nat} {g : Gr} (hpre : ∀ j x, j < i → gs[j]? = some x → wrongI n u x = 0) (hi : gs[i]? = some g) (hw : wrongI n u g = 0) : ∀ j x, j < i + 1 → gs[j]? = some x → wrongI n u x = 0 := fun j x hj hx => by
  rcases Nat.lt_succ_iff_lt_or_eq.1 hj with hj | hj
  · exact hpre j x hj hx
  · subst hj
    rw [hi] at hx
    injection hx with hx
    subst hx
    exact hw
end Go.Proofs.YtamifocfbcmfkaaDoor.GrantP

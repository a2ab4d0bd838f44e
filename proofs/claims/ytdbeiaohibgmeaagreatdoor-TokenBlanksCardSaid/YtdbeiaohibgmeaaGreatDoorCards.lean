/-
  DERIVED. GIVEN WITH THE SEED: THE CARDS: each row of YtdbeiaohibgmeaaGreatDoorRows.lean that lists a variable, with what it lists TIED to the program's text (the seventh form; the later family's looks); each row that meets fmt, with fmt's text TOLD by the authors' own Lean function (tested against real Go, not proved from fmt's source: count such statements apart). THE CARD IS WHAT COUNTS. Prove the row's statement (the work); the ties are given (YtdbeiaohibgmeaaGreatDoorTie.lean); close each card by the builder's one call (the guide's Derived/Test/ToyasCard.lean, 'card_holds'). Laid BY PROGRAM, IN A SANDBOX (cutbox-door.mjs). By AI agents, Wed Nov 11 2026. No macro, syntax, notation, axiom, sorry.
-/
import Derived.Test.YtdbeiaohibgmeaaGreatDoorRows
import GoSem.ClaimSeven
namespace Go.Proofs.YtdbeiaohibgmeaaGreatDoor
namespace Rows

/-- THE TIED CARD OF 'torcherelaw05.TokenBlanks'. -/
def tokenBlanksCard : Claim7 := { stood := { row := tokenBlanksRow, standIns := [], harness := (true, "6df4e660b90310242bf57bdc55eb8cd517f07f1e416c112cf995febebb7ed737"), looks := true }, kinds := [], alts := [], laidByText := true, laidKinds := [.handle], laidTests := true, laidLooks := .later }
def TokenBlanksCardSaid : Prop := Claim7.holds Tryz.pinned (.plain (OpenSpec.ofChange tokenBlanksSpec)) tokenBlanksCard

/-- THE TIED CARD OF 'torcherelaw05.TokenInts'. -/
def tokenIntsCard : Claim7 := { stood := { row := tokenIntsRow, standIns := [], harness := (true, "6df4e660b90310242bf57bdc55eb8cd517f07f1e416c112cf995febebb7ed737"), looks := true }, kinds := [], alts := [], laidByText := true, laidKinds := [.handle], laidTests := true, laidLooks := .later }
def TokenIntsCardSaid : Prop := Claim7.holds Tryz.pinned (.plain (OpenSpec.ofChange tokenIntsSpec)) tokenIntsCard

/-- THE SECOND FORM's CARD OF 'torcherelaw05.TokenBlanks'. -/
def tokenBlanksUptoCard : Claim7 := { stood := { row := tokenBlanksUptoRow, standIns := [], harness := (true, "6df4e660b90310242bf57bdc55eb8cd517f07f1e416c112cf995febebb7ed737"), looks := true }, kinds := [], alts := [], laidByText := true, laidKinds := [.handle], laidTests := true, laidLooks := .later }
def TokenBlanksUptoCardSaid : Prop := Claim7.holds Tryz.pinned (.plain (OpenSpec.upto tokenBlanksSpec)) tokenBlanksUptoCard

/-- THE SECOND FORM's CARD OF 'torcherelaw05.TokenInts'. -/
def tokenIntsUptoCard : Claim7 := { stood := { row := tokenIntsUptoRow, standIns := [], harness := (true, "6df4e660b90310242bf57bdc55eb8cd517f07f1e416c112cf995febebb7ed737"), looks := true }, kinds := [], alts := [], laidByText := true, laidKinds := [.handle], laidTests := true, laidLooks := .later }
def TokenIntsUptoCardSaid : Prop := Claim7.holds Tryz.pinned (.plain (OpenSpec.upto tokenIntsSpec)) tokenIntsUptoCard
end Rows
end Go.Proofs.YtdbeiaohibgmeaaGreatDoor

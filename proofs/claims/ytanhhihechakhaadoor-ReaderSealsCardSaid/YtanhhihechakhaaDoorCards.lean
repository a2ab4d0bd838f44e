/-
  DERIVED. GIVEN WITH THE SEED: THE CARDS: each row of YtanhhihechakhaaDoorRows.lean that lists a variable, with what it lists TIED to the program's text (the seventh form; the later family's looks); each row that meets fmt, with fmt's text TOLD by the authors' own Lean function (tested against real Go, not proved from fmt's source: count such statements apart). THE CARD IS WHAT COUNTS. Prove the row's statement (the work); the ties are given (YtanhhihechakhaaDoorTie.lean); close each card by the builder's one call (the guide's Derived/Test/ToyasCard.lean, 'card_holds'). Laid BY PROGRAM, IN A SANDBOX (cutbox-door.mjs). By AI agents, Wed Nov 11 2026. No macro, syntax, notation, axiom, sorry.
-/
import Derived.Test.YtanhhihechakhaaDoorRows
import GoSem.ClaimSeven
namespace Go.Proofs.YtanhhihechakhaaDoor
namespace Rows

/-- THE TIED CARD OF 'torcherelaw07.ReaderMay'. -/
def readerMayCard : Claim7 := { stood := { row := readerMayRow, standIns := [], harness := (true, "78518e3ab8ebfcb51b231203c00761b7cfd727720f012d9679b3f6bdf246633f"), looks := true }, kinds := [], alts := [], laidByText := true, laidKinds := [.handle], laidTests := true, laidLooks := .later }
def ReaderMayCardSaid : Prop := Claim7.holds Tryd.pinned (.plain (OpenSpec.ofChange readerMaySpec)) readerMayCard

/-- THE TIED CARD OF 'torcherelaw07.ReaderBrackets'. -/
def readerBracketsCard : Claim7 := { stood := { row := readerBracketsRow, standIns := [], harness := (true, "78518e3ab8ebfcb51b231203c00761b7cfd727720f012d9679b3f6bdf246633f"), looks := true }, kinds := [], alts := [], laidByText := true, laidKinds := [.handle], laidTests := true, laidLooks := .later }
def ReaderBracketsCardSaid : Prop := Claim7.holds Tryd.pinned (.plain (OpenSpec.ofChange readerBracketsSpec)) readerBracketsCard

/-- THE TIED CARD OF 'torcherelaw07.ReaderSums'. -/
def readerSumsCard : Claim7 := { stood := { row := readerSumsRow, standIns := [], harness := (true, "78518e3ab8ebfcb51b231203c00761b7cfd727720f012d9679b3f6bdf246633f"), looks := true }, kinds := [], alts := [], laidByText := true, laidKinds := [.handle], laidTests := true, laidLooks := .later }
def ReaderSumsCardSaid : Prop := Claim7.holds Tryd.pinned (.plain (OpenSpec.ofChange readerSumsSpec)) readerSumsCard

/-- THE TIED CARD OF 'torcherelaw07.ReaderLists'. -/
def readerListsCard : Claim7 := { stood := { row := readerListsRow, standIns := [], harness := (true, "78518e3ab8ebfcb51b231203c00761b7cfd727720f012d9679b3f6bdf246633f"), looks := true }, kinds := [], alts := [], laidByText := true, laidKinds := [.handle], laidTests := true, laidLooks := .later }
def ReaderListsCardSaid : Prop := Claim7.holds Tryd.pinned (.plain (OpenSpec.ofChange readerListsSpec)) readerListsCard

/-- THE TIED CARD OF 'torcherelaw07.ReaderCuts'. -/
def readerCutsCard : Claim7 := { stood := { row := readerCutsRow, standIns := [], harness := (true, "78518e3ab8ebfcb51b231203c00761b7cfd727720f012d9679b3f6bdf246633f"), looks := true }, kinds := [], alts := [], laidByText := true, laidKinds := [.handle], laidTests := true, laidLooks := .later }
def ReaderCutsCardSaid : Prop := Claim7.holds Tryd.pinned (.plain (OpenSpec.ofChange readerCutsSpec)) readerCutsCard

/-- THE TIED CARD OF 'torcherelaw07.ReaderSeals'. -/
def readerSealsCard : Claim7 := { stood := { row := readerSealsRow, standIns := [], harness := (true, "78518e3ab8ebfcb51b231203c00761b7cfd727720f012d9679b3f6bdf246633f"), looks := true }, kinds := [], alts := [], laidByText := true, laidKinds := [.handle], laidTests := true, laidLooks := .later }
def ReaderSealsCardSaid : Prop := Claim7.holds Tryd.pinned (.plain (OpenSpec.ofChange readerSealsSpec)) readerSealsCard

/-- THE SECOND FORM's CARD OF 'torcherelaw07.ReaderMay'. -/
def readerMayUptoCard : Claim7 := { stood := { row := readerMayUptoRow, standIns := [], harness := (true, "78518e3ab8ebfcb51b231203c00761b7cfd727720f012d9679b3f6bdf246633f"), looks := true }, kinds := [], alts := [], laidByText := true, laidKinds := [.handle], laidTests := true, laidLooks := .later }
def ReaderMayUptoCardSaid : Prop := Claim7.holds Tryd.pinned (.plain (OpenSpec.upto readerMaySpec)) readerMayUptoCard

/-- THE SECOND FORM's CARD OF 'torcherelaw07.ReaderBrackets'. -/
def readerBracketsUptoCard : Claim7 := { stood := { row := readerBracketsUptoRow, standIns := [], harness := (true, "78518e3ab8ebfcb51b231203c00761b7cfd727720f012d9679b3f6bdf246633f"), looks := true }, kinds := [], alts := [], laidByText := true, laidKinds := [.handle], laidTests := true, laidLooks := .later }
def ReaderBracketsUptoCardSaid : Prop := Claim7.holds Tryd.pinned (.plain (OpenSpec.upto readerBracketsSpec)) readerBracketsUptoCard

/-- THE SECOND FORM's CARD OF 'torcherelaw07.ReaderSums'. -/
def readerSumsUptoCard : Claim7 := { stood := { row := readerSumsUptoRow, standIns := [], harness := (true, "78518e3ab8ebfcb51b231203c00761b7cfd727720f012d9679b3f6bdf246633f"), looks := true }, kinds := [], alts := [], laidByText := true, laidKinds := [.handle], laidTests := true, laidLooks := .later }
def ReaderSumsUptoCardSaid : Prop := Claim7.holds Tryd.pinned (.plain (OpenSpec.upto readerSumsSpec)) readerSumsUptoCard

/-- THE SECOND FORM's CARD OF 'torcherelaw07.ReaderLists'. -/
def readerListsUptoCard : Claim7 := { stood := { row := readerListsUptoRow, standIns := [], harness := (true, "78518e3ab8ebfcb51b231203c00761b7cfd727720f012d9679b3f6bdf246633f"), looks := true }, kinds := [], alts := [], laidByText := true, laidKinds := [.handle], laidTests := true, laidLooks := .later }
def ReaderListsUptoCardSaid : Prop := Claim7.holds Tryd.pinned (.plain (OpenSpec.upto readerListsSpec)) readerListsUptoCard

/-- THE SECOND FORM's CARD OF 'torcherelaw07.ReaderCuts'. -/
def readerCutsUptoCard : Claim7 := { stood := { row := readerCutsUptoRow, standIns := [], harness := (true, "78518e3ab8ebfcb51b231203c00761b7cfd727720f012d9679b3f6bdf246633f"), looks := true }, kinds := [], alts := [], laidByText := true, laidKinds := [.handle], laidTests := true, laidLooks := .later }
def ReaderCutsUptoCardSaid : Prop := Claim7.holds Tryd.pinned (.plain (OpenSpec.upto readerCutsSpec)) readerCutsUptoCard

/-- THE SECOND FORM's CARD OF 'torcherelaw07.ReaderSeals'. -/
def readerSealsUptoCard : Claim7 := { stood := { row := readerSealsUptoRow, standIns := [], harness := (true, "78518e3ab8ebfcb51b231203c00761b7cfd727720f012d9679b3f6bdf246633f"), looks := true }, kinds := [], alts := [], laidByText := true, laidKinds := [.handle], laidTests := true, laidLooks := .later }
def ReaderSealsUptoCardSaid : Prop := Claim7.holds Tryd.pinned (.plain (OpenSpec.upto readerSealsSpec)) readerSealsUptoCard
end Rows
end Go.Proofs.YtanhhihechakhaaDoor

/-
  DERIVED. GIVEN WITH THE SEED: THE CARDS: each row of YtanhhihechakhaaGreatDoorRows.lean that lists a variable, with what it lists TIED to the program's text (the seventh form; the later family's looks); each row that meets fmt, with fmt's text TOLD by the authors' own Lean function (tested against real Go, not proved from fmt's source: count such statements apart). THE CARD IS WHAT COUNTS. Prove the row's statement (the work); the ties are given (YtanhhihechakhaaGreatDoorTie.lean); close each card by the builder's one call (the guide's Derived/Test/ToyasCard.lean, 'card_holds'). Laid BY PROGRAM, IN A SANDBOX (cutbox-door.mjs). By AI agents, Wed Nov 11 2026. No macro, syntax, notation, axiom, sorry.
-/
import Derived.Test.YtanhhihechakhaaGreatDoorRows
import GoSem.ClaimSeven
namespace Go.Proofs.YtanhhihechakhaaGreatDoor
namespace Rows

/-- THE TIED CARD OF 'torcherelaw08.WriterOnes'. -/
def writerOnesCard : Claim7 := { stood := { row := writerOnesRow, standIns := [], harness := (true, "07eba6f0bb44f9f9f2b5051a0b08b6225f5aa8e7f4fb7c578332edab23bd41a0"), looks := true }, kinds := [], alts := [], laidByText := true, laidKinds := [.data, .data, .data], laidTests := true, laidLooks := .later }
def WriterOnesCardSaid : Prop := Claim7.holds Tryz.pinned (.plain (OpenSpec.ofChange writerOnesSpec)) writerOnesCard

/-- THE TIED CARD OF 'torcherelaw08.WriterBack'. -/
def writerBackCard : Claim7 := { stood := { row := writerBackRow, standIns := [], harness := (true, "07eba6f0bb44f9f9f2b5051a0b08b6225f5aa8e7f4fb7c578332edab23bd41a0"), looks := true }, kinds := [], alts := [], laidByText := true, laidKinds := [.data, .data, .data, .handle], laidTests := true, laidLooks := .later }
def WriterBackCardSaid : Prop := Claim7.holds Tryz.pinned (.plain (OpenSpec.ofChange writerBackSpec)) writerBackCard

/-- THE TIED CARD OF 'torcherelaw08.WriterTexts'. -/
def writerTextsCard : Claim7 := { stood := { row := writerTextsRow, standIns := [], harness := (true, "07eba6f0bb44f9f9f2b5051a0b08b6225f5aa8e7f4fb7c578332edab23bd41a0"), looks := true }, kinds := [], alts := [], laidByText := true, laidKinds := [.data, .data, .data], laidTests := true, laidLooks := .later }
def WriterTextsCardSaid : Prop := Claim7.holds Tryz.pinned (.plain (OpenSpec.ofChange writerTextsSpec)) writerTextsCard

/-- THE TIED CARD OF 'torcherelaw08.WriterParts'. -/
def writerPartsCard : Claim7 := { stood := { row := writerPartsRow, standIns := [], harness := (true, "07eba6f0bb44f9f9f2b5051a0b08b6225f5aa8e7f4fb7c578332edab23bd41a0"), looks := true }, kinds := [], alts := [], laidByText := true, laidKinds := [.data, .data, .data], laidTests := true, laidLooks := .later }
def WriterPartsCardSaid : Prop := Claim7.holds Tryz.pinned (.plain (OpenSpec.ofChange writerPartsSpec)) writerPartsCard

/-- THE TIED CARD OF 'torcherelaw08.WriterNames'. -/
def writerNamesCard : Claim7 := { stood := { row := writerNamesRow, standIns := [], harness := (true, "07eba6f0bb44f9f9f2b5051a0b08b6225f5aa8e7f4fb7c578332edab23bd41a0"), looks := true }, kinds := [], alts := [], laidByText := true, laidKinds := [.data, .data, .data], laidTests := true, laidLooks := .later }
def WriterNamesCardSaid : Prop := Claim7.holds Tryz.pinned (.plain (OpenSpec.ofChange writerNamesSpec)) writerNamesCard

/-- THE TIED CARD OF 'torcherelaw08.WriterAnswers'. -/
def writerAnswersCard : Claim7 := { stood := { row := writerAnswersRow, standIns := [], harness := (true, "07eba6f0bb44f9f9f2b5051a0b08b6225f5aa8e7f4fb7c578332edab23bd41a0"), looks := true }, kinds := [], alts := [], laidByText := true, laidKinds := [.data, .data, .data], laidTests := true, laidLooks := .later }
def WriterAnswersCardSaid : Prop := Claim7.holds Tryz.pinned (.plain (OpenSpec.ofChange writerAnswersSpec)) writerAnswersCard

/-- THE SECOND FORM's CARD OF 'torcherelaw08.WriterOnes'. -/
def writerOnesUptoCard : Claim7 := { stood := { row := writerOnesUptoRow, standIns := [], harness := (true, "07eba6f0bb44f9f9f2b5051a0b08b6225f5aa8e7f4fb7c578332edab23bd41a0"), looks := true }, kinds := [], alts := [], laidByText := true, laidKinds := [.data, .data, .data], laidTests := true, laidLooks := .later }
def WriterOnesUptoCardSaid : Prop := Claim7.holds Tryz.pinned (.plain (OpenSpec.upto writerOnesSpec)) writerOnesUptoCard

/-- THE SECOND FORM's CARD OF 'torcherelaw08.WriterBack'. -/
def writerBackUptoCard : Claim7 := { stood := { row := writerBackUptoRow, standIns := [], harness := (true, "07eba6f0bb44f9f9f2b5051a0b08b6225f5aa8e7f4fb7c578332edab23bd41a0"), looks := true }, kinds := [], alts := [], laidByText := true, laidKinds := [.data, .data, .data, .handle], laidTests := true, laidLooks := .later }
def WriterBackUptoCardSaid : Prop := Claim7.holds Tryz.pinned (.plain (OpenSpec.upto writerBackSpec)) writerBackUptoCard

/-- THE SECOND FORM's CARD OF 'torcherelaw08.WriterTexts'. -/
def writerTextsUptoCard : Claim7 := { stood := { row := writerTextsUptoRow, standIns := [], harness := (true, "07eba6f0bb44f9f9f2b5051a0b08b6225f5aa8e7f4fb7c578332edab23bd41a0"), looks := true }, kinds := [], alts := [], laidByText := true, laidKinds := [.data, .data, .data], laidTests := true, laidLooks := .later }
def WriterTextsUptoCardSaid : Prop := Claim7.holds Tryz.pinned (.plain (OpenSpec.upto writerTextsSpec)) writerTextsUptoCard

/-- THE SECOND FORM's CARD OF 'torcherelaw08.WriterParts'. -/
def writerPartsUptoCard : Claim7 := { stood := { row := writerPartsUptoRow, standIns := [], harness := (true, "07eba6f0bb44f9f9f2b5051a0b08b6225f5aa8e7f4fb7c578332edab23bd41a0"), looks := true }, kinds := [], alts := [], laidByText := true, laidKinds := [.data, .data, .data], laidTests := true, laidLooks := .later }
def WriterPartsUptoCardSaid : Prop := Claim7.holds Tryz.pinned (.plain (OpenSpec.upto writerPartsSpec)) writerPartsUptoCard

/-- THE SECOND FORM's CARD OF 'torcherelaw08.WriterNames'. -/
def writerNamesUptoCard : Claim7 := { stood := { row := writerNamesUptoRow, standIns := [], harness := (true, "07eba6f0bb44f9f9f2b5051a0b08b6225f5aa8e7f4fb7c578332edab23bd41a0"), looks := true }, kinds := [], alts := [], laidByText := true, laidKinds := [.data, .data, .data], laidTests := true, laidLooks := .later }
def WriterNamesUptoCardSaid : Prop := Claim7.holds Tryz.pinned (.plain (OpenSpec.upto writerNamesSpec)) writerNamesUptoCard

/-- THE SECOND FORM's CARD OF 'torcherelaw08.WriterAnswers'. -/
def writerAnswersUptoCard : Claim7 := { stood := { row := writerAnswersUptoRow, standIns := [], harness := (true, "07eba6f0bb44f9f9f2b5051a0b08b6225f5aa8e7f4fb7c578332edab23bd41a0"), looks := true }, kinds := [], alts := [], laidByText := true, laidKinds := [.data, .data, .data], laidTests := true, laidLooks := .later }
def WriterAnswersUptoCardSaid : Prop := Claim7.holds Tryz.pinned (.plain (OpenSpec.upto writerAnswersSpec)) writerAnswersUptoCard
end Rows
end Go.Proofs.YtanhhihechakhaaGreatDoor

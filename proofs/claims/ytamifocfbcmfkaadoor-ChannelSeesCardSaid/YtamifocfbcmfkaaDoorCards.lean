/-
  DERIVED. GIVEN WITH THE SEED: THE CARDS: each row of YtamifocfbcmfkaaDoorRows.lean that lists a variable, with what it lists TIED to the program's text (the seventh form; the later family's looks); each row that meets fmt, with fmt's text TOLD by the authors' own Lean function (tested against real Go, not proved from fmt's source: count such statements apart). THE CARD IS WHAT COUNTS. Prove the row's statement (the work); the ties are given (YtamifocfbcmfkaaDoorTie.lean); close each card by the builder's one call (the guide's Derived/Test/ToyasCard.lean, 'card_holds'). Laid BY PROGRAM, IN A SANDBOX (cutbox-door.mjs). By AI agents, Wed Nov 11 2026. No macro, syntax, notation, axiom, sorry.
-/
import Derived.Test.YtamifocfbcmfkaaDoorRows
import GoSem.ClaimSeven
namespace Go.Proofs.YtamifocfbcmfkaaDoor
namespace Rows

/-- THE TIED CARD OF 'torcherelaw02.GrantOwners'. -/
def grantOwnersCard : Claim7 := { stood := { row := grantOwnersRow, standIns := [], harness := (true, "30a2b235989c06830d68090221ded0af4e816a7bab8bf19c0702163c141d2476"), looks := true }, kinds := [], alts := [], laidByText := true, laidKinds := [.data, .data, .data], laidTests := true, laidLooks := .later }
def GrantOwnersCardSaid : Prop := Claim7.holds Tryd.pinned (.plain (OpenSpec.ofChange grantOwnersSpec)) grantOwnersCard

/-- THE TIED CARD OF 'torcherelaw02.GrantOnes'. -/
def grantOnesCard : Claim7 := { stood := { row := grantOnesRow, standIns := [], harness := (true, "30a2b235989c06830d68090221ded0af4e816a7bab8bf19c0702163c141d2476"), looks := true }, kinds := [], alts := [], laidByText := true, laidKinds := [.data, .data, .data], laidTests := true, laidLooks := .later }
def GrantOnesCardSaid : Prop := Claim7.holds Tryd.pinned (.plain (OpenSpec.ofChange grantOnesSpec)) grantOnesCard

/-- THE TIED CARD OF 'torcherelaw02.GrantWider'. -/
def grantWiderCard : Claim7 := { stood := { row := grantWiderRow, standIns := [], harness := (true, "30a2b235989c06830d68090221ded0af4e816a7bab8bf19c0702163c141d2476"), looks := true }, kinds := [], alts := [], laidByText := true, laidKinds := [.data, .data, .data], laidTests := true, laidLooks := .later }
def GrantWiderCardSaid : Prop := Claim7.holds Tryd.pinned (.plain (OpenSpec.ofChange grantWiderSpec)) grantWiderCard

/-- THE TIED CARD OF 'torcherelaw02.GrantCrosses'. -/
def grantCrossesCard : Claim7 := { stood := { row := grantCrossesRow, standIns := [], harness := (true, "30a2b235989c06830d68090221ded0af4e816a7bab8bf19c0702163c141d2476"), looks := true }, kinds := [], alts := [], laidByText := true, laidKinds := [.data, .data, .data], laidTests := true, laidLooks := .later }
def GrantCrossesCardSaid : Prop := Claim7.holds Tryd.pinned (.plain (OpenSpec.ofChange grantCrossesSpec)) grantCrossesCard

/-- THE TIED CARD OF 'torcherelaw02.GrantTexts'. -/
def grantTextsCard : Claim7 := { stood := { row := grantTextsRow, standIns := [], harness := (true, "30a2b235989c06830d68090221ded0af4e816a7bab8bf19c0702163c141d2476"), looks := true }, kinds := [], alts := [], laidByText := true, laidKinds := [.data, .data, .data, .handle], laidTests := true, laidLooks := .later }
def GrantTextsCardSaid : Prop := Claim7.holds Tryd.pinned (.plain (OpenSpec.ofChange grantTextsSpec)) grantTextsCard

/-- THE TIED CARD OF 'torcherelaw02.GrantNames'. -/
def grantNamesCard : Claim7 := { stood := { row := grantNamesRow, standIns := [], harness := (true, "30a2b235989c06830d68090221ded0af4e816a7bab8bf19c0702163c141d2476"), looks := true }, kinds := [], alts := [], laidByText := true, laidKinds := [.data, .data, .data, .handle], laidTests := true, laidLooks := .later }
def GrantNamesCardSaid : Prop := Claim7.holds Tryd.pinned (.plain (OpenSpec.ofChange grantNamesSpec)) grantNamesCard

/-- THE TIED CARD OF 'torcherelaw02.GrantTables'. -/
def grantTablesCard : Claim7 := { stood := { row := grantTablesRow, standIns := [], harness := (true, "30a2b235989c06830d68090221ded0af4e816a7bab8bf19c0702163c141d2476"), looks := true }, kinds := [], alts := [], laidByText := true, laidKinds := [.data, .data, .data, .handle], laidTests := true, laidLooks := .later }
def GrantTablesCardSaid : Prop := Claim7.holds Tryd.pinned (.plain (OpenSpec.ofChange grantTablesSpec)) grantTablesCard

/-- THE TIED CARD OF 'torcherelaw15.ChannelRises'. -/
def channelRisesCard : Claim7 := { stood := { row := channelRisesRow, standIns := [], harness := (true, "30a2b235989c06830d68090221ded0af4e816a7bab8bf19c0702163c141d2476"), looks := true }, kinds := [], alts := [], laidByText := true, laidKinds := [.data, .data, .data], laidTests := true, laidLooks := .later }
def ChannelRisesCardSaid : Prop := Claim7.holds Tryd.pinned (.plain (OpenSpec.ofChange channelRisesSpec)) channelRisesCard

/-- THE TIED CARD OF 'torcherelaw15.ChannelBegins'. -/
def channelBeginsCard : Claim7 := { stood := { row := channelBeginsRow, standIns := [], harness := (true, "30a2b235989c06830d68090221ded0af4e816a7bab8bf19c0702163c141d2476"), looks := true }, kinds := [], alts := [], laidByText := true, laidKinds := [.data, .data, .data], laidTests := true, laidLooks := .later }
def ChannelBeginsCardSaid : Prop := Claim7.holds Tryd.pinned (.plain (OpenSpec.ofChange channelBeginsSpec)) channelBeginsCard

/-- THE TIED CARD OF 'torcherelaw15.ChannelLevels'. -/
def channelLevelsCard : Claim7 := { stood := { row := channelLevelsRow, standIns := [], harness := (true, "30a2b235989c06830d68090221ded0af4e816a7bab8bf19c0702163c141d2476"), looks := true }, kinds := [], alts := [], laidByText := true, laidKinds := [.data, .data, .data], laidTests := true, laidLooks := .later }
def ChannelLevelsCardSaid : Prop := Claim7.holds Tryd.pinned (.plain (OpenSpec.ofChange channelLevelsSpec)) channelLevelsCard

/-- THE TIED CARD OF 'torcherelaw15.ChannelTexts'. -/
def channelTextsCard : Claim7 := { stood := { row := channelTextsRow, standIns := [], harness := (true, "30a2b235989c06830d68090221ded0af4e816a7bab8bf19c0702163c141d2476"), looks := true }, kinds := [], alts := [], laidByText := true, laidKinds := [.data, .data, .data], laidTests := true, laidLooks := .later }
def ChannelTextsCardSaid : Prop := Claim7.holds Tryd.pinned (.plain (OpenSpec.ofChange channelTextsSpec)) channelTextsCard

/-- THE TIED CARD OF 'torcherelaw15.ChannelShares'. -/
def channelSharesCard : Claim7 := { stood := { row := channelSharesRow, standIns := [], harness := (true, "30a2b235989c06830d68090221ded0af4e816a7bab8bf19c0702163c141d2476"), looks := true }, kinds := [], alts := [], laidByText := true, laidKinds := [.data, .data, .data], laidTests := true, laidLooks := .later }
def ChannelSharesCardSaid : Prop := Claim7.holds Tryd.pinned (.plain (OpenSpec.ofChange channelSharesSpec)) channelSharesCard

/-- THE TIED CARD OF 'torcherelaw15.ChannelSees'. -/
def channelSeesCard : Claim7 := { stood := { row := channelSeesRow, standIns := [], harness := (true, "30a2b235989c06830d68090221ded0af4e816a7bab8bf19c0702163c141d2476"), looks := true }, kinds := [], alts := [], laidByText := true, laidKinds := [.data, .data, .data], laidTests := true, laidLooks := .later }
def ChannelSeesCardSaid : Prop := Claim7.holds Tryd.pinned (.plain (OpenSpec.ofChange channelSeesSpec)) channelSeesCard

/-- THE TIED CARD OF 'torcherelaw15.ChannelMays'. -/
def channelMaysCard : Claim7 := { stood := { row := channelMaysRow, standIns := [], harness := (true, "30a2b235989c06830d68090221ded0af4e816a7bab8bf19c0702163c141d2476"), looks := true }, kinds := [], alts := [], laidByText := true, laidKinds := [.data, .data, .data], laidTests := true, laidLooks := .later }
def ChannelMaysCardSaid : Prop := Claim7.holds Tryd.pinned (.plain (OpenSpec.ofChange channelMaysSpec)) channelMaysCard

/-- THE SECOND FORM's CARD OF 'torcherelaw02.GrantOwners'. -/
def grantOwnersUptoCard : Claim7 := { stood := { row := grantOwnersUptoRow, standIns := [], harness := (true, "30a2b235989c06830d68090221ded0af4e816a7bab8bf19c0702163c141d2476"), looks := true }, kinds := [], alts := [], laidByText := true, laidKinds := [.data, .data, .data], laidTests := true, laidLooks := .later }
def GrantOwnersUptoCardSaid : Prop := Claim7.holds Tryd.pinned (.plain (OpenSpec.upto grantOwnersSpec)) grantOwnersUptoCard

/-- THE SECOND FORM's CARD OF 'torcherelaw02.GrantOnes'. -/
def grantOnesUptoCard : Claim7 := { stood := { row := grantOnesUptoRow, standIns := [], harness := (true, "30a2b235989c06830d68090221ded0af4e816a7bab8bf19c0702163c141d2476"), looks := true }, kinds := [], alts := [], laidByText := true, laidKinds := [.data, .data, .data], laidTests := true, laidLooks := .later }
def GrantOnesUptoCardSaid : Prop := Claim7.holds Tryd.pinned (.plain (OpenSpec.upto grantOnesSpec)) grantOnesUptoCard

/-- THE SECOND FORM's CARD OF 'torcherelaw02.GrantWider'. -/
def grantWiderUptoCard : Claim7 := { stood := { row := grantWiderUptoRow, standIns := [], harness := (true, "30a2b235989c06830d68090221ded0af4e816a7bab8bf19c0702163c141d2476"), looks := true }, kinds := [], alts := [], laidByText := true, laidKinds := [.data, .data, .data], laidTests := true, laidLooks := .later }
def GrantWiderUptoCardSaid : Prop := Claim7.holds Tryd.pinned (.plain (OpenSpec.upto grantWiderSpec)) grantWiderUptoCard

/-- THE SECOND FORM's CARD OF 'torcherelaw02.GrantCrosses'. -/
def grantCrossesUptoCard : Claim7 := { stood := { row := grantCrossesUptoRow, standIns := [], harness := (true, "30a2b235989c06830d68090221ded0af4e816a7bab8bf19c0702163c141d2476"), looks := true }, kinds := [], alts := [], laidByText := true, laidKinds := [.data, .data, .data], laidTests := true, laidLooks := .later }
def GrantCrossesUptoCardSaid : Prop := Claim7.holds Tryd.pinned (.plain (OpenSpec.upto grantCrossesSpec)) grantCrossesUptoCard

/-- THE SECOND FORM's CARD OF 'torcherelaw02.GrantTexts'. -/
def grantTextsUptoCard : Claim7 := { stood := { row := grantTextsUptoRow, standIns := [], harness := (true, "30a2b235989c06830d68090221ded0af4e816a7bab8bf19c0702163c141d2476"), looks := true }, kinds := [], alts := [], laidByText := true, laidKinds := [.data, .data, .data, .handle], laidTests := true, laidLooks := .later }
def GrantTextsUptoCardSaid : Prop := Claim7.holds Tryd.pinned (.plain (OpenSpec.upto grantTextsSpec)) grantTextsUptoCard

/-- THE SECOND FORM's CARD OF 'torcherelaw02.GrantNames'. -/
def grantNamesUptoCard : Claim7 := { stood := { row := grantNamesUptoRow, standIns := [], harness := (true, "30a2b235989c06830d68090221ded0af4e816a7bab8bf19c0702163c141d2476"), looks := true }, kinds := [], alts := [], laidByText := true, laidKinds := [.data, .data, .data, .handle], laidTests := true, laidLooks := .later }
def GrantNamesUptoCardSaid : Prop := Claim7.holds Tryd.pinned (.plain (OpenSpec.upto grantNamesSpec)) grantNamesUptoCard

/-- THE SECOND FORM's CARD OF 'torcherelaw02.GrantTables'. -/
def grantTablesUptoCard : Claim7 := { stood := { row := grantTablesUptoRow, standIns := [], harness := (true, "30a2b235989c06830d68090221ded0af4e816a7bab8bf19c0702163c141d2476"), looks := true }, kinds := [], alts := [], laidByText := true, laidKinds := [.data, .data, .data, .handle], laidTests := true, laidLooks := .later }
def GrantTablesUptoCardSaid : Prop := Claim7.holds Tryd.pinned (.plain (OpenSpec.upto grantTablesSpec)) grantTablesUptoCard

/-- THE SECOND FORM's CARD OF 'torcherelaw15.ChannelRises'. -/
def channelRisesUptoCard : Claim7 := { stood := { row := channelRisesUptoRow, standIns := [], harness := (true, "30a2b235989c06830d68090221ded0af4e816a7bab8bf19c0702163c141d2476"), looks := true }, kinds := [], alts := [], laidByText := true, laidKinds := [.data, .data, .data], laidTests := true, laidLooks := .later }
def ChannelRisesUptoCardSaid : Prop := Claim7.holds Tryd.pinned (.plain (OpenSpec.upto channelRisesSpec)) channelRisesUptoCard

/-- THE SECOND FORM's CARD OF 'torcherelaw15.ChannelBegins'. -/
def channelBeginsUptoCard : Claim7 := { stood := { row := channelBeginsUptoRow, standIns := [], harness := (true, "30a2b235989c06830d68090221ded0af4e816a7bab8bf19c0702163c141d2476"), looks := true }, kinds := [], alts := [], laidByText := true, laidKinds := [.data, .data, .data], laidTests := true, laidLooks := .later }
def ChannelBeginsUptoCardSaid : Prop := Claim7.holds Tryd.pinned (.plain (OpenSpec.upto channelBeginsSpec)) channelBeginsUptoCard

/-- THE SECOND FORM's CARD OF 'torcherelaw15.ChannelLevels'. -/
def channelLevelsUptoCard : Claim7 := { stood := { row := channelLevelsUptoRow, standIns := [], harness := (true, "30a2b235989c06830d68090221ded0af4e816a7bab8bf19c0702163c141d2476"), looks := true }, kinds := [], alts := [], laidByText := true, laidKinds := [.data, .data, .data], laidTests := true, laidLooks := .later }
def ChannelLevelsUptoCardSaid : Prop := Claim7.holds Tryd.pinned (.plain (OpenSpec.upto channelLevelsSpec)) channelLevelsUptoCard

/-- THE SECOND FORM's CARD OF 'torcherelaw15.ChannelTexts'. -/
def channelTextsUptoCard : Claim7 := { stood := { row := channelTextsUptoRow, standIns := [], harness := (true, "30a2b235989c06830d68090221ded0af4e816a7bab8bf19c0702163c141d2476"), looks := true }, kinds := [], alts := [], laidByText := true, laidKinds := [.data, .data, .data], laidTests := true, laidLooks := .later }
def ChannelTextsUptoCardSaid : Prop := Claim7.holds Tryd.pinned (.plain (OpenSpec.upto channelTextsSpec)) channelTextsUptoCard

/-- THE SECOND FORM's CARD OF 'torcherelaw15.ChannelShares'. -/
def channelSharesUptoCard : Claim7 := { stood := { row := channelSharesUptoRow, standIns := [], harness := (true, "30a2b235989c06830d68090221ded0af4e816a7bab8bf19c0702163c141d2476"), looks := true }, kinds := [], alts := [], laidByText := true, laidKinds := [.data, .data, .data], laidTests := true, laidLooks := .later }
def ChannelSharesUptoCardSaid : Prop := Claim7.holds Tryd.pinned (.plain (OpenSpec.upto channelSharesSpec)) channelSharesUptoCard

/-- THE SECOND FORM's CARD OF 'torcherelaw15.ChannelSees'. -/
def channelSeesUptoCard : Claim7 := { stood := { row := channelSeesUptoRow, standIns := [], harness := (true, "30a2b235989c06830d68090221ded0af4e816a7bab8bf19c0702163c141d2476"), looks := true }, kinds := [], alts := [], laidByText := true, laidKinds := [.data, .data, .data], laidTests := true, laidLooks := .later }
def ChannelSeesUptoCardSaid : Prop := Claim7.holds Tryd.pinned (.plain (OpenSpec.upto channelSeesSpec)) channelSeesUptoCard

/-- THE SECOND FORM's CARD OF 'torcherelaw15.ChannelMays'. -/
def channelMaysUptoCard : Claim7 := { stood := { row := channelMaysUptoRow, standIns := [], harness := (true, "30a2b235989c06830d68090221ded0af4e816a7bab8bf19c0702163c141d2476"), looks := true }, kinds := [], alts := [], laidByText := true, laidKinds := [.data, .data, .data], laidTests := true, laidLooks := .later }
def ChannelMaysUptoCardSaid : Prop := Claim7.holds Tryd.pinned (.plain (OpenSpec.upto channelMaysSpec)) channelMaysUptoCard
end Rows
end Go.Proofs.YtamifocfbcmfkaaDoor

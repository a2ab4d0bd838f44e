/-
  NARROWER THAN 'FOR EVERY INPUT', by the rows' own cells (each row's printed sentence says how): GrantOwners: laid · GrantOnes: laid · GrantWider: laid · GrantCrosses: laid · GrantTexts: laid · GrantNames: laid · GrantTables: laid · ChannelRises: laid · ChannelBegins: laid · ChannelLevels: laid · ChannelTexts: laid · ChannelShares: laid · ChannelSees: loops, laid · ChannelMays: loops, laid.
  DERIVED. THE GIVEN ROWS OF THIS SEAT. 14 by the template 'for every input the law returns true; each argument reads behind the call as it read before'; 0 by the template 'total and deterministic' (their statements: YtamifocfbcmfkaaDoorTotals.lean).
  GIVEN WITH THE SEED: the statements are not yours to turn. If you find one false, say at which input.
  Laid BY PROGRAM, IN A SANDBOX (cutbox-rows.mjs): the forced cells as the released guide's own fill.sh prints them over the translation 202651359f37c741… (all of the seat's roots in one cut). By AI agents, Wed Nov 11 2026. No macro, syntax, notation, axiom, sorry.
-/
import Derived.Test.YtamifocfbcmfkaaDoorChecked
import GoSem.Claim
import GoSem.ClaimJoined
import GoSem.ClaimMapViews
import Derived.JoinedTies
import Derived.KernelRfl
namespace Go.Proofs.YtamifocfbcmfkaaDoor
/- THE CELL 'sum', in the pinned program and in every row, IS THE sha256 OF THE DUMP (.gsa) THAT YtamifocfbcmfkaaDoorProg.lean LOADS. Nothing in Lean hashes anything: it is a label: what it is worth is what the hold of that sum in a sandbox is worth. -/
noncomputable def Tryd.pinned : Pinned := { name := "ytamifocfbcmfkaadoor", sum := "202651359f37c74115dc76f47eb3f04573848703007e8a0dd54f7aaadf80c489", checked := Tryd.checked }
namespace Rows
def none {H : Type} : Left H := { results := [], args := [] }

/- WHAT THE LISTED PACKAGE-LEVEL VARIABLES READ AS WHEN THE CALL BEGINS. Each datum BY PROGRAM (the guide's laid-datum.mjs) off the statement by which the dump's own 'gosem.cut.vars' lays the variable. In a bare row this is a premise. The card (YtamifocfbcmfkaaDoorCards.lean) ties it to the program's text. -/
def laid_math_bits_deBruijn32tab {H : Type} : DataW H := .agg [.lit (.int .u8 0), .lit (.int .u8 1), .lit (.int .u8 28), .lit (.int .u8 2), .lit (.int .u8 29), .lit (.int .u8 14), .lit (.int .u8 24), .lit (.int .u8 3), .lit (.int .u8 30), .lit (.int .u8 22), .lit (.int .u8 20), .lit (.int .u8 15), .lit (.int .u8 25), .lit (.int .u8 17), .lit (.int .u8 4), .lit (.int .u8 8), .lit (.int .u8 31), .lit (.int .u8 27), .lit (.int .u8 13), .lit (.int .u8 23), .lit (.int .u8 21), .lit (.int .u8 19), .lit (.int .u8 16), .lit (.int .u8 7), .lit (.int .u8 26), .lit (.int .u8 12), .lit (.int .u8 18), .lit (.int .u8 6), .lit (.int .u8 11), .lit (.int .u8 5), .lit (.int .u8 10), .lit (.int .u8 9)]
def laid_math_bits_deBruijn64tab {H : Type} : DataW H := .agg [.lit (.int .u8 0), .lit (.int .u8 1), .lit (.int .u8 56), .lit (.int .u8 2), .lit (.int .u8 57), .lit (.int .u8 49), .lit (.int .u8 28), .lit (.int .u8 3), .lit (.int .u8 61), .lit (.int .u8 58), .lit (.int .u8 42), .lit (.int .u8 50), .lit (.int .u8 38), .lit (.int .u8 29), .lit (.int .u8 17), .lit (.int .u8 4), .lit (.int .u8 62), .lit (.int .u8 47), .lit (.int .u8 59), .lit (.int .u8 36), .lit (.int .u8 45), .lit (.int .u8 43), .lit (.int .u8 51), .lit (.int .u8 22), .lit (.int .u8 53), .lit (.int .u8 39), .lit (.int .u8 33), .lit (.int .u8 30), .lit (.int .u8 24), .lit (.int .u8 18), .lit (.int .u8 12), .lit (.int .u8 5), .lit (.int .u8 63), .lit (.int .u8 55), .lit (.int .u8 48), .lit (.int .u8 27), .lit (.int .u8 60), .lit (.int .u8 41), .lit (.int .u8 37), .lit (.int .u8 16), .lit (.int .u8 46), .lit (.int .u8 35), .lit (.int .u8 44), .lit (.int .u8 21), .lit (.int .u8 52), .lit (.int .u8 32), .lit (.int .u8 23), .lit (.int .u8 11), .lit (.int .u8 54), .lit (.int .u8 26), .lit (.int .u8 40), .lit (.int .u8 15), .lit (.int .u8 34), .lit (.int .u8 20), .lit (.int .u8 31), .lit (.int .u8 10), .lit (.int .u8 25), .lit (.int .u8 14), .lit (.int .u8 19), .lit (.int .u8 9), .lit (.int .u8 13), .lit (.int .u8 8), .lit (.int .u8 7), .lit (.int .u8 6)]
def laid_internal_strconv_uint64pow10 {H : Type} : DataW H := .agg [.lit (.int .u64 1), .lit (.int .u64 10), .lit (.int .u64 100), .lit (.int .u64 1000), .lit (.int .u64 10000), .lit (.int .u64 100000), .lit (.int .u64 1000000), .lit (.int .u64 10000000), .lit (.int .u64 100000000), .lit (.int .u64 1000000000), .lit (.int .u64 10000000000), .lit (.int .u64 100000000000), .lit (.int .u64 1000000000000), .lit (.int .u64 10000000000000), .lit (.int .u64 100000000000000), .lit (.int .u64 1000000000000000), .lit (.int .u64 10000000000000000), .lit (.int .u64 100000000000000000), .lit (.int .u64 1000000000000000000), .lit (.int .u64 10000000000000000000)]
def laid_errors_errorType {H : Type} : DataW H := .iface "internal/reflectlite.rtype" (.agg [.ptr (.lit (.string [101, 114, 114, 111, 114]))])

/-- 'torcherelaw02.GrantOwners': WHATEVER THE INPUT: true; the input reads as it did. -/
def grantOwnersSpec : ChangeSpec := { name := "grantOwners", fn := fun _ => fun
  | [d1, d2, d3] => { results := [.lit (.bool true)], args := [d1, d2, d3] }
  | _ => none }
def grantOwnersRow : OpenClaim := { program := "ytamifocfbcmfkaadoor", sum := "202651359f37c74115dc76f47eb3f04573848703007e8a0dd54f7aaadf80c489", func := "torchere/torcherelaw02.GrantOwners", spec := "grantOwners", named := ["internal/strconv.uint64pow10", "math/bits.deBruijn32tab", "math/bits.deBruijn64tab"], apart := false, laid := [("math/bits.deBruijn32tab", laid_math_bits_deBruijn32tab), ("math/bits.deBruijn64tab", laid_math_bits_deBruijn64tab), ("internal/strconv.uint64pow10", laid_internal_strconv_uint64pow10)] }
def GrantOwnersSaid : Prop := grantOwnersRow.holds Tryd.pinned (OpenSpec.ofChange grantOwnersSpec)

/-- ITS FALSE NEIGHBOUR: 'it returns false'. Refute it at one input. -/
def grantOwnersWrong : ChangeSpec := { name := "grantOwners", fn := fun _ => fun
  | [d1, d2, d3] => { results := [.lit (.bool false)], args := [d1, d2, d3] }
  | _ => none }
def GrantOwnersWrongFalsely : Prop := grantOwnersRow.holds Tryd.pinned (OpenSpec.ofChange grantOwnersWrong)

/-- 'torcherelaw02.GrantOnes': WHATEVER THE INPUT: true; the input reads as it did. -/
def grantOnesSpec : ChangeSpec := { name := "grantOnes", fn := fun _ => fun
  | [d1, d2, d3, d4] => { results := [.lit (.bool true)], args := [d1, d2, d3, d4] }
  | _ => none }
def grantOnesRow : OpenClaim := { program := "ytamifocfbcmfkaadoor", sum := "202651359f37c74115dc76f47eb3f04573848703007e8a0dd54f7aaadf80c489", func := "torchere/torcherelaw02.GrantOnes", spec := "grantOnes", named := ["internal/strconv.uint64pow10", "math/bits.deBruijn32tab", "math/bits.deBruijn64tab"], apart := false, laid := [("math/bits.deBruijn32tab", laid_math_bits_deBruijn32tab), ("math/bits.deBruijn64tab", laid_math_bits_deBruijn64tab), ("internal/strconv.uint64pow10", laid_internal_strconv_uint64pow10)] }
def GrantOnesSaid : Prop := grantOnesRow.holds Tryd.pinned (OpenSpec.ofChange grantOnesSpec)

/-- ITS FALSE NEIGHBOUR: 'it returns false'. Refute it at one input. -/
def grantOnesWrong : ChangeSpec := { name := "grantOnes", fn := fun _ => fun
  | [d1, d2, d3, d4] => { results := [.lit (.bool false)], args := [d1, d2, d3, d4] }
  | _ => none }
def GrantOnesWrongFalsely : Prop := grantOnesRow.holds Tryd.pinned (OpenSpec.ofChange grantOnesWrong)

/-- 'torcherelaw02.GrantWider': WHATEVER THE INPUT: true; the input reads as it did. -/
def grantWiderSpec : ChangeSpec := { name := "grantWider", fn := fun _ => fun
  | [d1, d2, d3, d4] => { results := [.lit (.bool true)], args := [d1, d2, d3, d4] }
  | _ => none }
def grantWiderRow : OpenClaim := { program := "ytamifocfbcmfkaadoor", sum := "202651359f37c74115dc76f47eb3f04573848703007e8a0dd54f7aaadf80c489", func := "torchere/torcherelaw02.GrantWider", spec := "grantWider", named := ["internal/strconv.uint64pow10", "math/bits.deBruijn32tab", "math/bits.deBruijn64tab"], apart := false, laid := [("math/bits.deBruijn32tab", laid_math_bits_deBruijn32tab), ("math/bits.deBruijn64tab", laid_math_bits_deBruijn64tab), ("internal/strconv.uint64pow10", laid_internal_strconv_uint64pow10)] }
def GrantWiderSaid : Prop := grantWiderRow.holds Tryd.pinned (OpenSpec.ofChange grantWiderSpec)

/-- ITS FALSE NEIGHBOUR: 'it returns false'. Refute it at one input. -/
def grantWiderWrong : ChangeSpec := { name := "grantWider", fn := fun _ => fun
  | [d1, d2, d3, d4] => { results := [.lit (.bool false)], args := [d1, d2, d3, d4] }
  | _ => none }
def GrantWiderWrongFalsely : Prop := grantWiderRow.holds Tryd.pinned (OpenSpec.ofChange grantWiderWrong)

/-- 'torcherelaw02.GrantCrosses': WHATEVER THE INPUT: true; the input reads as it did. -/
def grantCrossesSpec : ChangeSpec := { name := "grantCrosses", fn := fun _ => fun
  | [d1, d2, d3] => { results := [.lit (.bool true)], args := [d1, d2, d3] }
  | _ => none }
def grantCrossesRow : OpenClaim := { program := "ytamifocfbcmfkaadoor", sum := "202651359f37c74115dc76f47eb3f04573848703007e8a0dd54f7aaadf80c489", func := "torchere/torcherelaw02.GrantCrosses", spec := "grantCrosses", named := ["internal/strconv.uint64pow10", "math/bits.deBruijn32tab", "math/bits.deBruijn64tab"], apart := false, laid := [("math/bits.deBruijn32tab", laid_math_bits_deBruijn32tab), ("math/bits.deBruijn64tab", laid_math_bits_deBruijn64tab), ("internal/strconv.uint64pow10", laid_internal_strconv_uint64pow10)] }
def GrantCrossesSaid : Prop := grantCrossesRow.holds Tryd.pinned (OpenSpec.ofChange grantCrossesSpec)

/-- ITS FALSE NEIGHBOUR: 'it returns false'. Refute it at one input. -/
def grantCrossesWrong : ChangeSpec := { name := "grantCrosses", fn := fun _ => fun
  | [d1, d2, d3] => { results := [.lit (.bool false)], args := [d1, d2, d3] }
  | _ => none }
def GrantCrossesWrongFalsely : Prop := grantCrossesRow.holds Tryd.pinned (OpenSpec.ofChange grantCrossesWrong)

/-- 'torcherelaw02.GrantTexts': WHATEVER THE INPUT: true; the input reads as it did. -/
def grantTextsSpec : ChangeSpec := { name := "grantTexts", fn := fun _ => fun
  | [d1, d2, d3] => { results := [.lit (.bool true)], args := [d1, d2, d3] }
  | _ => none }
def grantTextsRow : OpenClaim := { program := "ytamifocfbcmfkaadoor", sum := "202651359f37c74115dc76f47eb3f04573848703007e8a0dd54f7aaadf80c489", func := "torchere/torcherelaw02.GrantTexts", spec := "grantTexts", inPlace := ["internal/reflectlite.TypeOf", "internal/reflectlite.ValueOf", "(internal/reflectlite.Value).Type", "(internal/reflectlite.Value).IsNil", "(internal/reflectlite.Value).Elem", "(internal/reflectlite.Value).Set"], unfollowed := true, recurses := true, named := ["internal/strconv.uint64pow10", "math/bits.deBruijn32tab", "math/bits.deBruijn64tab", "errors.errorType"], apart := false, laid := [("math/bits.deBruijn32tab", laid_math_bits_deBruijn32tab), ("math/bits.deBruijn64tab", laid_math_bits_deBruijn64tab), ("internal/strconv.uint64pow10", laid_internal_strconv_uint64pow10), ("errors.errorType", laid_errors_errorType)] }
def GrantTextsSaid : Prop := grantTextsRow.holds Tryd.pinned (OpenSpec.ofChange grantTextsSpec)

/-- ITS FALSE NEIGHBOUR: 'it returns false'. Refute it at one input. -/
def grantTextsWrong : ChangeSpec := { name := "grantTexts", fn := fun _ => fun
  | [d1, d2, d3] => { results := [.lit (.bool false)], args := [d1, d2, d3] }
  | _ => none }
def GrantTextsWrongFalsely : Prop := grantTextsRow.holds Tryd.pinned (OpenSpec.ofChange grantTextsWrong)

/-- 'torcherelaw02.GrantNames': WHATEVER THE INPUT: true; the input reads as it did. -/
def grantNamesSpec : ChangeSpec := { name := "grantNames", fn := fun _ => fun
  | [d1, d2] => { results := [.lit (.bool true)], args := [d1, d2] }
  | _ => none }
def grantNamesRow : OpenClaim := { program := "ytamifocfbcmfkaadoor", sum := "202651359f37c74115dc76f47eb3f04573848703007e8a0dd54f7aaadf80c489", func := "torchere/torcherelaw02.GrantNames", spec := "grantNames", inPlace := ["internal/reflectlite.TypeOf", "internal/reflectlite.ValueOf", "(internal/reflectlite.Value).Type", "(internal/reflectlite.Value).IsNil", "(internal/reflectlite.Value).Elem", "(internal/reflectlite.Value).Set"], unfollowed := true, recurses := true, named := ["internal/strconv.uint64pow10", "math/bits.deBruijn32tab", "math/bits.deBruijn64tab", "errors.errorType"], apart := false, laid := [("math/bits.deBruijn32tab", laid_math_bits_deBruijn32tab), ("math/bits.deBruijn64tab", laid_math_bits_deBruijn64tab), ("internal/strconv.uint64pow10", laid_internal_strconv_uint64pow10), ("errors.errorType", laid_errors_errorType)] }
def GrantNamesSaid : Prop := grantNamesRow.holds Tryd.pinned (OpenSpec.ofChange grantNamesSpec)

/-- ITS FALSE NEIGHBOUR: 'it returns false'. Refute it at one input. -/
def grantNamesWrong : ChangeSpec := { name := "grantNames", fn := fun _ => fun
  | [d1, d2] => { results := [.lit (.bool false)], args := [d1, d2] }
  | _ => none }
def GrantNamesWrongFalsely : Prop := grantNamesRow.holds Tryd.pinned (OpenSpec.ofChange grantNamesWrong)

/-- 'torcherelaw02.GrantTables': WHATEVER THE INPUT: true; the input reads as it did. -/
def grantTablesSpec : ChangeSpec := { name := "grantTables", fn := fun _ => fun
  | [d1, d2, d3, d4, d5] => { results := [.lit (.bool true)], args := [d1, d2, d3, d4, d5] }
  | _ => none }
def grantTablesRow : OpenClaim := { program := "ytamifocfbcmfkaadoor", sum := "202651359f37c74115dc76f47eb3f04573848703007e8a0dd54f7aaadf80c489", func := "torchere/torcherelaw02.GrantTables", spec := "grantTables", inPlace := ["internal/reflectlite.TypeOf", "internal/reflectlite.ValueOf", "(internal/reflectlite.Value).Type", "(internal/reflectlite.Value).IsNil", "(internal/reflectlite.Value).Elem", "(internal/reflectlite.Value).Set"], unfollowed := true, recurses := true, named := ["internal/strconv.uint64pow10", "math/bits.deBruijn32tab", "math/bits.deBruijn64tab", "errors.errorType"], apart := false, laid := [("math/bits.deBruijn32tab", laid_math_bits_deBruijn32tab), ("math/bits.deBruijn64tab", laid_math_bits_deBruijn64tab), ("internal/strconv.uint64pow10", laid_internal_strconv_uint64pow10), ("errors.errorType", laid_errors_errorType)] }
def GrantTablesSaid : Prop := grantTablesRow.holds Tryd.pinned (OpenSpec.ofChange grantTablesSpec)

/-- ITS FALSE NEIGHBOUR: 'it returns false'. Refute it at one input. -/
def grantTablesWrong : ChangeSpec := { name := "grantTables", fn := fun _ => fun
  | [d1, d2, d3, d4, d5] => { results := [.lit (.bool false)], args := [d1, d2, d3, d4, d5] }
  | _ => none }
def GrantTablesWrongFalsely : Prop := grantTablesRow.holds Tryd.pinned (OpenSpec.ofChange grantTablesWrong)

/-- 'torcherelaw15.ChannelRises': WHATEVER THE INPUT: true; the input reads as it did. -/
def channelRisesSpec : ChangeSpec := { name := "channelRises", fn := fun _ => fun
  | [d1, d2, d3, d4] => { results := [.lit (.bool true)], args := [d1, d2, d3, d4] }
  | _ => none }
def channelRisesRow : OpenClaim := { program := "ytamifocfbcmfkaadoor", sum := "202651359f37c74115dc76f47eb3f04573848703007e8a0dd54f7aaadf80c489", func := "torchere/torcherelaw15.ChannelRises", spec := "channelRises", unfollowed := true, recurses := true, named := ["internal/strconv.uint64pow10", "math/bits.deBruijn32tab", "math/bits.deBruijn64tab"], apart := false, laid := [("math/bits.deBruijn32tab", laid_math_bits_deBruijn32tab), ("math/bits.deBruijn64tab", laid_math_bits_deBruijn64tab), ("internal/strconv.uint64pow10", laid_internal_strconv_uint64pow10)] }
def ChannelRisesSaid : Prop := channelRisesRow.holds Tryd.pinned (OpenSpec.ofChange channelRisesSpec)

/-- ITS FALSE NEIGHBOUR: 'it returns false'. Refute it at one input. -/
def channelRisesWrong : ChangeSpec := { name := "channelRises", fn := fun _ => fun
  | [d1, d2, d3, d4] => { results := [.lit (.bool false)], args := [d1, d2, d3, d4] }
  | _ => none }
def ChannelRisesWrongFalsely : Prop := channelRisesRow.holds Tryd.pinned (OpenSpec.ofChange channelRisesWrong)

/-- 'torcherelaw15.ChannelBegins': WHATEVER THE INPUT: true; the input reads as it did. -/
def channelBeginsSpec : ChangeSpec := { name := "channelBegins", fn := fun _ => fun
  | [d1, d2, d3, d4] => { results := [.lit (.bool true)], args := [d1, d2, d3, d4] }
  | _ => none }
def channelBeginsRow : OpenClaim := { program := "ytamifocfbcmfkaadoor", sum := "202651359f37c74115dc76f47eb3f04573848703007e8a0dd54f7aaadf80c489", func := "torchere/torcherelaw15.ChannelBegins", spec := "channelBegins", unfollowed := true, recurses := true, named := ["internal/strconv.uint64pow10", "math/bits.deBruijn32tab", "math/bits.deBruijn64tab"], apart := false, laid := [("math/bits.deBruijn32tab", laid_math_bits_deBruijn32tab), ("math/bits.deBruijn64tab", laid_math_bits_deBruijn64tab), ("internal/strconv.uint64pow10", laid_internal_strconv_uint64pow10)] }
def ChannelBeginsSaid : Prop := channelBeginsRow.holds Tryd.pinned (OpenSpec.ofChange channelBeginsSpec)

/-- ITS FALSE NEIGHBOUR: 'it returns false'. Refute it at one input. -/
def channelBeginsWrong : ChangeSpec := { name := "channelBegins", fn := fun _ => fun
  | [d1, d2, d3, d4] => { results := [.lit (.bool false)], args := [d1, d2, d3, d4] }
  | _ => none }
def ChannelBeginsWrongFalsely : Prop := channelBeginsRow.holds Tryd.pinned (OpenSpec.ofChange channelBeginsWrong)

/-- 'torcherelaw15.ChannelLevels': WHATEVER THE INPUT: true; the input reads as it did. -/
def channelLevelsSpec : ChangeSpec := { name := "channelLevels", fn := fun _ => fun
  | [d1, d2] => { results := [.lit (.bool true)], args := [d1, d2] }
  | _ => none }
def channelLevelsRow : OpenClaim := { program := "ytamifocfbcmfkaadoor", sum := "202651359f37c74115dc76f47eb3f04573848703007e8a0dd54f7aaadf80c489", func := "torchere/torcherelaw15.ChannelLevels", spec := "channelLevels", unfollowed := true, recurses := true, named := ["internal/strconv.uint64pow10", "math/bits.deBruijn32tab", "math/bits.deBruijn64tab"], apart := false, laid := [("math/bits.deBruijn32tab", laid_math_bits_deBruijn32tab), ("math/bits.deBruijn64tab", laid_math_bits_deBruijn64tab), ("internal/strconv.uint64pow10", laid_internal_strconv_uint64pow10)] }
def ChannelLevelsSaid : Prop := channelLevelsRow.holds Tryd.pinned (OpenSpec.ofChange channelLevelsSpec)

/-- ITS FALSE NEIGHBOUR: 'it returns false'. Refute it at one input. -/
def channelLevelsWrong : ChangeSpec := { name := "channelLevels", fn := fun _ => fun
  | [d1, d2] => { results := [.lit (.bool false)], args := [d1, d2] }
  | _ => none }
def ChannelLevelsWrongFalsely : Prop := channelLevelsRow.holds Tryd.pinned (OpenSpec.ofChange channelLevelsWrong)

/-- 'torcherelaw15.ChannelTexts': WHATEVER THE INPUT: true; the input reads as it did. -/
def channelTextsSpec : ChangeSpec := { name := "channelTexts", fn := fun _ => fun
  | [d1, d2, d3] => { results := [.lit (.bool true)], args := [d1, d2, d3] }
  | _ => none }
def channelTextsRow : OpenClaim := { program := "ytamifocfbcmfkaadoor", sum := "202651359f37c74115dc76f47eb3f04573848703007e8a0dd54f7aaadf80c489", func := "torchere/torcherelaw15.ChannelTexts", spec := "channelTexts", unfollowed := true, recurses := true, named := ["internal/strconv.uint64pow10", "math/bits.deBruijn32tab", "math/bits.deBruijn64tab"], apart := false, laid := [("math/bits.deBruijn32tab", laid_math_bits_deBruijn32tab), ("math/bits.deBruijn64tab", laid_math_bits_deBruijn64tab), ("internal/strconv.uint64pow10", laid_internal_strconv_uint64pow10)] }
def ChannelTextsSaid : Prop := channelTextsRow.holds Tryd.pinned (OpenSpec.ofChange channelTextsSpec)

/-- ITS FALSE NEIGHBOUR: 'it returns false'. Refute it at one input. -/
def channelTextsWrong : ChangeSpec := { name := "channelTexts", fn := fun _ => fun
  | [d1, d2, d3] => { results := [.lit (.bool false)], args := [d1, d2, d3] }
  | _ => none }
def ChannelTextsWrongFalsely : Prop := channelTextsRow.holds Tryd.pinned (OpenSpec.ofChange channelTextsWrong)

/-- 'torcherelaw15.ChannelShares': WHATEVER THE INPUT: true; the input reads as it did. -/
def channelSharesSpec : ChangeSpec := { name := "channelShares", fn := fun _ => fun
  | [d1, d2, d3, d4, d5] => { results := [.lit (.bool true)], args := [d1, d2, d3, d4, d5] }
  | _ => none }
def channelSharesRow : OpenClaim := { program := "ytamifocfbcmfkaadoor", sum := "202651359f37c74115dc76f47eb3f04573848703007e8a0dd54f7aaadf80c489", func := "torchere/torcherelaw15.ChannelShares", spec := "channelShares", unfollowed := true, recurses := true, named := ["internal/strconv.uint64pow10", "math/bits.deBruijn32tab", "math/bits.deBruijn64tab"], apart := false, laid := [("math/bits.deBruijn32tab", laid_math_bits_deBruijn32tab), ("math/bits.deBruijn64tab", laid_math_bits_deBruijn64tab), ("internal/strconv.uint64pow10", laid_internal_strconv_uint64pow10)] }
def ChannelSharesSaid : Prop := channelSharesRow.holds Tryd.pinned (OpenSpec.ofChange channelSharesSpec)

/-- ITS FALSE NEIGHBOUR: 'it returns false'. Refute it at one input. -/
def channelSharesWrong : ChangeSpec := { name := "channelShares", fn := fun _ => fun
  | [d1, d2, d3, d4, d5] => { results := [.lit (.bool false)], args := [d1, d2, d3, d4, d5] }
  | _ => none }
def ChannelSharesWrongFalsely : Prop := channelSharesRow.holds Tryd.pinned (OpenSpec.ofChange channelSharesWrong)

/-- 'torcherelaw15.ChannelSees': WHATEVER THE INPUT: true; the input reads as it did. -/
def channelSeesSpec : ChangeSpec := { name := "channelSees", fn := fun _ => fun
  | [d1, d2, d3, d4, d5] => { results := [.lit (.bool true)], args := [d1, d2, d3, d4, d5] }
  | _ => none }
def channelSeesRow : OpenClaim := { program := "ytamifocfbcmfkaadoor", sum := "202651359f37c74115dc76f47eb3f04573848703007e8a0dd54f7aaadf80c489", func := "torchere/torcherelaw15.ChannelSees", spec := "channelSees", unfollowed := true, recurses := true, named := ["internal/strconv.uint64pow10", "math/bits.deBruijn32tab", "math/bits.deBruijn64tab"], loops := true, apart := false, laid := [("math/bits.deBruijn32tab", laid_math_bits_deBruijn32tab), ("math/bits.deBruijn64tab", laid_math_bits_deBruijn64tab), ("internal/strconv.uint64pow10", laid_internal_strconv_uint64pow10)] }
def ChannelSeesSaid : Prop := channelSeesRow.holds Tryd.pinned (OpenSpec.ofChange channelSeesSpec)

/-- ITS FALSE NEIGHBOUR: 'it returns false'. Refute it at one input. -/
def channelSeesWrong : ChangeSpec := { name := "channelSees", fn := fun _ => fun
  | [d1, d2, d3, d4, d5] => { results := [.lit (.bool false)], args := [d1, d2, d3, d4, d5] }
  | _ => none }
def ChannelSeesWrongFalsely : Prop := channelSeesRow.holds Tryd.pinned (OpenSpec.ofChange channelSeesWrong)

/-- 'torcherelaw15.ChannelMays': WHATEVER THE INPUT: true; the input reads as it did. -/
def channelMaysSpec : ChangeSpec := { name := "channelMays", fn := fun _ => fun
  | [d1, d2, d3, d4, d5] => { results := [.lit (.bool true)], args := [d1, d2, d3, d4, d5] }
  | _ => none }
def channelMaysRow : OpenClaim := { program := "ytamifocfbcmfkaadoor", sum := "202651359f37c74115dc76f47eb3f04573848703007e8a0dd54f7aaadf80c489", func := "torchere/torcherelaw15.ChannelMays", spec := "channelMays", unfollowed := true, recurses := true, named := ["internal/strconv.uint64pow10", "math/bits.deBruijn32tab", "math/bits.deBruijn64tab"], loops := true, apart := false, laid := [("math/bits.deBruijn32tab", laid_math_bits_deBruijn32tab), ("math/bits.deBruijn64tab", laid_math_bits_deBruijn64tab), ("internal/strconv.uint64pow10", laid_internal_strconv_uint64pow10)] }
def ChannelMaysSaid : Prop := channelMaysRow.holds Tryd.pinned (OpenSpec.ofChange channelMaysSpec)

/-- ITS FALSE NEIGHBOUR: 'it returns false'. Refute it at one input. -/
def channelMaysWrong : ChangeSpec := { name := "channelMays", fn := fun _ => fun
  | [d1, d2, d3, d4, d5] => { results := [.lit (.bool false)], args := [d1, d2, d3, d4, d5] }
  | _ => none }
def ChannelMaysWrongFalsely : Prop := channelMaysRow.holds Tryd.pinned (OpenSpec.ofChange channelMaysWrong)

/- THE SECOND FORM. 'bulk': how many values and letters a reading holds, each counted each time it is reached (what is shared counts as often as it is met; a slice's spare places count too). A statement '..UptoSaid' is the law's where the arguments, and the package variables that the reading takes, are together of bulk at most 1048576: NARROWER than '..Said'. Prove '..Said' where nothing that the law and all that it calls make is longer than what came in: it says more and counts as full. Else prove '..UptoSaid'. A law counts once. -/
mutual
def uptoBulk {H : Type} : DataW H → Nat
  | .lit (.string bytes) => bytes.length + 1
  | .lit _ => 1
  | .nil => 1
  | .ptr d => uptoBulk d + 1
  | .slice elems spare => uptoBulkAll elems + uptoBulkAll spare + 1
  | .agg parts => uptoBulkAll parts + 1
  | .iface _ d => uptoBulk d + 1
  | .map entries => uptoBulkEntries entries + 1
  | .held _ => 1
def uptoBulkAll {H : Type} : List (DataW H) → Nat
  | [] => 0
  | d :: r => uptoBulk d + uptoBulkAll r
def uptoBulkEntries {H : Type} : List (Lit × DataW H) → Nat
  | [] => 0
  | x :: r => uptoBulkEntry x + uptoBulkEntries r
def uptoBulkEntry {H : Type} : Lit × DataW H → Nat
  | (.string bytes, d) => bytes.length + uptoBulk d + 1
  | (_, d) => uptoBulk d + 1
 end
def uptoSmall : (H : Type) → List (DataW H) → Bool := fun _ ds => decide (uptoBulkAll ds ≤ 1048576)
def OpenSpec.upto (s : _root_.Go.ChangeSpec) : _root_.Go.OpenSpec := { _root_.Go.OpenSpec.ofChange s with cond := some uptoSmall }

/-- 'torcherelaw02.GrantOwners', WHERE WHAT IT READS IS OF BULK AT MOST 1048576: true; the input reads as it did. -/
def grantOwnersUptoRow : OpenClaim := { program := "ytamifocfbcmfkaadoor", sum := "202651359f37c74115dc76f47eb3f04573848703007e8a0dd54f7aaadf80c489", func := "torchere/torcherelaw02.GrantOwners", spec := "grantOwners", named := ["internal/strconv.uint64pow10", "math/bits.deBruijn32tab", "math/bits.deBruijn64tab"], apart := false, laid := [("math/bits.deBruijn32tab", laid_math_bits_deBruijn32tab), ("math/bits.deBruijn64tab", laid_math_bits_deBruijn64tab), ("internal/strconv.uint64pow10", laid_internal_strconv_uint64pow10)], narrowed := true }
def GrantOwnersUptoSaid : Prop := grantOwnersUptoRow.holds Tryd.pinned (OpenSpec.upto grantOwnersSpec)

/-- 'torcherelaw02.GrantOnes', WHERE WHAT IT READS IS OF BULK AT MOST 1048576: true; the input reads as it did. -/
def grantOnesUptoRow : OpenClaim := { program := "ytamifocfbcmfkaadoor", sum := "202651359f37c74115dc76f47eb3f04573848703007e8a0dd54f7aaadf80c489", func := "torchere/torcherelaw02.GrantOnes", spec := "grantOnes", named := ["internal/strconv.uint64pow10", "math/bits.deBruijn32tab", "math/bits.deBruijn64tab"], apart := false, laid := [("math/bits.deBruijn32tab", laid_math_bits_deBruijn32tab), ("math/bits.deBruijn64tab", laid_math_bits_deBruijn64tab), ("internal/strconv.uint64pow10", laid_internal_strconv_uint64pow10)], narrowed := true }
def GrantOnesUptoSaid : Prop := grantOnesUptoRow.holds Tryd.pinned (OpenSpec.upto grantOnesSpec)

/-- 'torcherelaw02.GrantWider', WHERE WHAT IT READS IS OF BULK AT MOST 1048576: true; the input reads as it did. -/
def grantWiderUptoRow : OpenClaim := { program := "ytamifocfbcmfkaadoor", sum := "202651359f37c74115dc76f47eb3f04573848703007e8a0dd54f7aaadf80c489", func := "torchere/torcherelaw02.GrantWider", spec := "grantWider", named := ["internal/strconv.uint64pow10", "math/bits.deBruijn32tab", "math/bits.deBruijn64tab"], apart := false, laid := [("math/bits.deBruijn32tab", laid_math_bits_deBruijn32tab), ("math/bits.deBruijn64tab", laid_math_bits_deBruijn64tab), ("internal/strconv.uint64pow10", laid_internal_strconv_uint64pow10)], narrowed := true }
def GrantWiderUptoSaid : Prop := grantWiderUptoRow.holds Tryd.pinned (OpenSpec.upto grantWiderSpec)

/-- 'torcherelaw02.GrantCrosses', WHERE WHAT IT READS IS OF BULK AT MOST 1048576: true; the input reads as it did. -/
def grantCrossesUptoRow : OpenClaim := { program := "ytamifocfbcmfkaadoor", sum := "202651359f37c74115dc76f47eb3f04573848703007e8a0dd54f7aaadf80c489", func := "torchere/torcherelaw02.GrantCrosses", spec := "grantCrosses", named := ["internal/strconv.uint64pow10", "math/bits.deBruijn32tab", "math/bits.deBruijn64tab"], apart := false, laid := [("math/bits.deBruijn32tab", laid_math_bits_deBruijn32tab), ("math/bits.deBruijn64tab", laid_math_bits_deBruijn64tab), ("internal/strconv.uint64pow10", laid_internal_strconv_uint64pow10)], narrowed := true }
def GrantCrossesUptoSaid : Prop := grantCrossesUptoRow.holds Tryd.pinned (OpenSpec.upto grantCrossesSpec)

/-- 'torcherelaw02.GrantTexts', WHERE WHAT IT READS IS OF BULK AT MOST 1048576: true; the input reads as it did. -/
def grantTextsUptoRow : OpenClaim := { program := "ytamifocfbcmfkaadoor", sum := "202651359f37c74115dc76f47eb3f04573848703007e8a0dd54f7aaadf80c489", func := "torchere/torcherelaw02.GrantTexts", spec := "grantTexts", inPlace := ["internal/reflectlite.TypeOf", "internal/reflectlite.ValueOf", "(internal/reflectlite.Value).Type", "(internal/reflectlite.Value).IsNil", "(internal/reflectlite.Value).Elem", "(internal/reflectlite.Value).Set"], unfollowed := true, recurses := true, named := ["internal/strconv.uint64pow10", "math/bits.deBruijn32tab", "math/bits.deBruijn64tab", "errors.errorType"], apart := false, laid := [("math/bits.deBruijn32tab", laid_math_bits_deBruijn32tab), ("math/bits.deBruijn64tab", laid_math_bits_deBruijn64tab), ("internal/strconv.uint64pow10", laid_internal_strconv_uint64pow10), ("errors.errorType", laid_errors_errorType)], narrowed := true }
def GrantTextsUptoSaid : Prop := grantTextsUptoRow.holds Tryd.pinned (OpenSpec.upto grantTextsSpec)

/-- 'torcherelaw02.GrantNames', WHERE WHAT IT READS IS OF BULK AT MOST 1048576: true; the input reads as it did. -/
def grantNamesUptoRow : OpenClaim := { program := "ytamifocfbcmfkaadoor", sum := "202651359f37c74115dc76f47eb3f04573848703007e8a0dd54f7aaadf80c489", func := "torchere/torcherelaw02.GrantNames", spec := "grantNames", inPlace := ["internal/reflectlite.TypeOf", "internal/reflectlite.ValueOf", "(internal/reflectlite.Value).Type", "(internal/reflectlite.Value).IsNil", "(internal/reflectlite.Value).Elem", "(internal/reflectlite.Value).Set"], unfollowed := true, recurses := true, named := ["internal/strconv.uint64pow10", "math/bits.deBruijn32tab", "math/bits.deBruijn64tab", "errors.errorType"], apart := false, laid := [("math/bits.deBruijn32tab", laid_math_bits_deBruijn32tab), ("math/bits.deBruijn64tab", laid_math_bits_deBruijn64tab), ("internal/strconv.uint64pow10", laid_internal_strconv_uint64pow10), ("errors.errorType", laid_errors_errorType)], narrowed := true }
def GrantNamesUptoSaid : Prop := grantNamesUptoRow.holds Tryd.pinned (OpenSpec.upto grantNamesSpec)

/-- 'torcherelaw02.GrantTables', WHERE WHAT IT READS IS OF BULK AT MOST 1048576: true; the input reads as it did. -/
def grantTablesUptoRow : OpenClaim := { program := "ytamifocfbcmfkaadoor", sum := "202651359f37c74115dc76f47eb3f04573848703007e8a0dd54f7aaadf80c489", func := "torchere/torcherelaw02.GrantTables", spec := "grantTables", inPlace := ["internal/reflectlite.TypeOf", "internal/reflectlite.ValueOf", "(internal/reflectlite.Value).Type", "(internal/reflectlite.Value).IsNil", "(internal/reflectlite.Value).Elem", "(internal/reflectlite.Value).Set"], unfollowed := true, recurses := true, named := ["internal/strconv.uint64pow10", "math/bits.deBruijn32tab", "math/bits.deBruijn64tab", "errors.errorType"], apart := false, laid := [("math/bits.deBruijn32tab", laid_math_bits_deBruijn32tab), ("math/bits.deBruijn64tab", laid_math_bits_deBruijn64tab), ("internal/strconv.uint64pow10", laid_internal_strconv_uint64pow10), ("errors.errorType", laid_errors_errorType)], narrowed := true }
def GrantTablesUptoSaid : Prop := grantTablesUptoRow.holds Tryd.pinned (OpenSpec.upto grantTablesSpec)

/-- 'torcherelaw15.ChannelRises', WHERE WHAT IT READS IS OF BULK AT MOST 1048576: true; the input reads as it did. -/
def channelRisesUptoRow : OpenClaim := { program := "ytamifocfbcmfkaadoor", sum := "202651359f37c74115dc76f47eb3f04573848703007e8a0dd54f7aaadf80c489", func := "torchere/torcherelaw15.ChannelRises", spec := "channelRises", unfollowed := true, recurses := true, named := ["internal/strconv.uint64pow10", "math/bits.deBruijn32tab", "math/bits.deBruijn64tab"], apart := false, laid := [("math/bits.deBruijn32tab", laid_math_bits_deBruijn32tab), ("math/bits.deBruijn64tab", laid_math_bits_deBruijn64tab), ("internal/strconv.uint64pow10", laid_internal_strconv_uint64pow10)], narrowed := true }
def ChannelRisesUptoSaid : Prop := channelRisesUptoRow.holds Tryd.pinned (OpenSpec.upto channelRisesSpec)

/-- 'torcherelaw15.ChannelBegins', WHERE WHAT IT READS IS OF BULK AT MOST 1048576: true; the input reads as it did. -/
def channelBeginsUptoRow : OpenClaim := { program := "ytamifocfbcmfkaadoor", sum := "202651359f37c74115dc76f47eb3f04573848703007e8a0dd54f7aaadf80c489", func := "torchere/torcherelaw15.ChannelBegins", spec := "channelBegins", unfollowed := true, recurses := true, named := ["internal/strconv.uint64pow10", "math/bits.deBruijn32tab", "math/bits.deBruijn64tab"], apart := false, laid := [("math/bits.deBruijn32tab", laid_math_bits_deBruijn32tab), ("math/bits.deBruijn64tab", laid_math_bits_deBruijn64tab), ("internal/strconv.uint64pow10", laid_internal_strconv_uint64pow10)], narrowed := true }
def ChannelBeginsUptoSaid : Prop := channelBeginsUptoRow.holds Tryd.pinned (OpenSpec.upto channelBeginsSpec)

/-- 'torcherelaw15.ChannelLevels', WHERE WHAT IT READS IS OF BULK AT MOST 1048576: true; the input reads as it did. -/
def channelLevelsUptoRow : OpenClaim := { program := "ytamifocfbcmfkaadoor", sum := "202651359f37c74115dc76f47eb3f04573848703007e8a0dd54f7aaadf80c489", func := "torchere/torcherelaw15.ChannelLevels", spec := "channelLevels", unfollowed := true, recurses := true, named := ["internal/strconv.uint64pow10", "math/bits.deBruijn32tab", "math/bits.deBruijn64tab"], apart := false, laid := [("math/bits.deBruijn32tab", laid_math_bits_deBruijn32tab), ("math/bits.deBruijn64tab", laid_math_bits_deBruijn64tab), ("internal/strconv.uint64pow10", laid_internal_strconv_uint64pow10)], narrowed := true }
def ChannelLevelsUptoSaid : Prop := channelLevelsUptoRow.holds Tryd.pinned (OpenSpec.upto channelLevelsSpec)

/-- 'torcherelaw15.ChannelTexts', WHERE WHAT IT READS IS OF BULK AT MOST 1048576: true; the input reads as it did. -/
def channelTextsUptoRow : OpenClaim := { program := "ytamifocfbcmfkaadoor", sum := "202651359f37c74115dc76f47eb3f04573848703007e8a0dd54f7aaadf80c489", func := "torchere/torcherelaw15.ChannelTexts", spec := "channelTexts", unfollowed := true, recurses := true, named := ["internal/strconv.uint64pow10", "math/bits.deBruijn32tab", "math/bits.deBruijn64tab"], apart := false, laid := [("math/bits.deBruijn32tab", laid_math_bits_deBruijn32tab), ("math/bits.deBruijn64tab", laid_math_bits_deBruijn64tab), ("internal/strconv.uint64pow10", laid_internal_strconv_uint64pow10)], narrowed := true }
def ChannelTextsUptoSaid : Prop := channelTextsUptoRow.holds Tryd.pinned (OpenSpec.upto channelTextsSpec)

/-- 'torcherelaw15.ChannelShares', WHERE WHAT IT READS IS OF BULK AT MOST 1048576: true; the input reads as it did. -/
def channelSharesUptoRow : OpenClaim := { program := "ytamifocfbcmfkaadoor", sum := "202651359f37c74115dc76f47eb3f04573848703007e8a0dd54f7aaadf80c489", func := "torchere/torcherelaw15.ChannelShares", spec := "channelShares", unfollowed := true, recurses := true, named := ["internal/strconv.uint64pow10", "math/bits.deBruijn32tab", "math/bits.deBruijn64tab"], apart := false, laid := [("math/bits.deBruijn32tab", laid_math_bits_deBruijn32tab), ("math/bits.deBruijn64tab", laid_math_bits_deBruijn64tab), ("internal/strconv.uint64pow10", laid_internal_strconv_uint64pow10)], narrowed := true }
def ChannelSharesUptoSaid : Prop := channelSharesUptoRow.holds Tryd.pinned (OpenSpec.upto channelSharesSpec)

/-- 'torcherelaw15.ChannelSees', WHERE WHAT IT READS IS OF BULK AT MOST 1048576: true; the input reads as it did. -/
def channelSeesUptoRow : OpenClaim := { program := "ytamifocfbcmfkaadoor", sum := "202651359f37c74115dc76f47eb3f04573848703007e8a0dd54f7aaadf80c489", func := "torchere/torcherelaw15.ChannelSees", spec := "channelSees", unfollowed := true, recurses := true, named := ["internal/strconv.uint64pow10", "math/bits.deBruijn32tab", "math/bits.deBruijn64tab"], loops := true, apart := false, laid := [("math/bits.deBruijn32tab", laid_math_bits_deBruijn32tab), ("math/bits.deBruijn64tab", laid_math_bits_deBruijn64tab), ("internal/strconv.uint64pow10", laid_internal_strconv_uint64pow10)], narrowed := true }
def ChannelSeesUptoSaid : Prop := channelSeesUptoRow.holds Tryd.pinned (OpenSpec.upto channelSeesSpec)

/-- 'torcherelaw15.ChannelMays', WHERE WHAT IT READS IS OF BULK AT MOST 1048576: true; the input reads as it did. -/
def channelMaysUptoRow : OpenClaim := { program := "ytamifocfbcmfkaadoor", sum := "202651359f37c74115dc76f47eb3f04573848703007e8a0dd54f7aaadf80c489", func := "torchere/torcherelaw15.ChannelMays", spec := "channelMays", unfollowed := true, recurses := true, named := ["internal/strconv.uint64pow10", "math/bits.deBruijn32tab", "math/bits.deBruijn64tab"], loops := true, apart := false, laid := [("math/bits.deBruijn32tab", laid_math_bits_deBruijn32tab), ("math/bits.deBruijn64tab", laid_math_bits_deBruijn64tab), ("internal/strconv.uint64pow10", laid_internal_strconv_uint64pow10)], narrowed := true }
def ChannelMaysUptoSaid : Prop := channelMaysUptoRow.holds Tryd.pinned (OpenSpec.upto channelMaysSpec)

end Rows
end Go.Proofs.YtamifocfbcmfkaaDoor

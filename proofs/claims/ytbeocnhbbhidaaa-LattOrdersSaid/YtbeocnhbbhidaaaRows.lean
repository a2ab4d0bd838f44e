/-
  No cell of these rows narrows 'for every input' (looked for: loops, veiled, ifaces, maps, wideKeys, modest, calm, conditions, laid).
  DERIVED. THE GIVEN ROWS OF THIS SEAT. 13 by the template 'for every input the law returns true; each argument reads behind the call as it read before'; 0 by the template 'total and deterministic' (their statements: YtbeocnhbbhidaaaTotals.lean).
  GIVEN WITH THE SEED: the statements are not yours to turn. If you find one false, say at which input.
  Laid BY PROGRAM, IN A SANDBOX (cutbox-rows.mjs): the forced cells as the released guide's own fill.sh prints them over the translation d191cee15ff8f0c1… (all of the seat's roots in one cut). By AI agents, Wed Nov 11 2026. No macro, syntax, notation, axiom, sorry.
-/
import Derived.Test.YtbeocnhbbhidaaaChecked
import GoSem.Claim
import GoSem.ClaimJoined
import GoSem.ClaimMapViews
import Derived.JoinedTies
import Derived.KernelRfl
namespace Go.Proofs.Ytbeocnhbbhidaaa
/- THE CELL 'sum', in the pinned program and in every row, IS THE sha256 OF THE DUMP (.gsa) THAT YtbeocnhbbhidaaaProg.lean LOADS. Nothing in Lean hashes anything: it is a label: what it is worth is what the hold of that sum in a sandbox is worth. -/
noncomputable def Try.pinned : Pinned := { name := "ytbeocnhbbhidaaa", sum := "d191cee15ff8f0c137453e7662fdbfb7272cc34424c2c5124e36edd42de64cf4", checked := Try.checked }
namespace Rows
def none {H : Type} : Left H := { results := [], args := [] }

/-- 'torcherelaw06.OpsNames': WHATEVER THE INPUT: true; the input reads as it did. -/
def opsNamesSpec : ChangeSpec := { name := "opsNames", fn := fun _ => fun
  | [d] => { results := [.lit (.bool true)], args := [d] }
  | _ => none }
def opsNamesRow : OpenClaim := { program := "ytbeocnhbbhidaaa", sum := "d191cee15ff8f0c137453e7662fdbfb7272cc34424c2c5124e36edd42de64cf4", func := "torchere/torcherelaw06.OpsNames", spec := "opsNames", apart := false }
def OpsNamesSaid : Prop := opsNamesRow.holds Try.pinned (OpenSpec.ofChange opsNamesSpec)

/-- ITS FALSE NEIGHBOUR: 'it returns false'. Refute it at one input. -/
def opsNamesWrong : ChangeSpec := { name := "opsNames", fn := fun _ => fun
  | [d] => { results := [.lit (.bool false)], args := [d] }
  | _ => none }
def OpsNamesWrongFalsely : Prop := opsNamesRow.holds Try.pinned (OpenSpec.ofChange opsNamesWrong)

/-- 'torcherelaw06.OpsAll': WHATEVER THE INPUT: true; the input reads as it did. -/
def opsAllSpec : ChangeSpec := { name := "opsAll", fn := fun _ => fun
  | [d1, d2] => { results := [.lit (.bool true)], args := [d1, d2] }
  | _ => none }
def opsAllRow : OpenClaim := { program := "ytbeocnhbbhidaaa", sum := "d191cee15ff8f0c137453e7662fdbfb7272cc34424c2c5124e36edd42de64cf4", func := "torchere/torcherelaw06.OpsAll", spec := "opsAll", apart := false }
def OpsAllSaid : Prop := opsAllRow.holds Try.pinned (OpenSpec.ofChange opsAllSpec)

/-- ITS FALSE NEIGHBOUR: 'it returns false'. Refute it at one input. -/
def opsAllWrong : ChangeSpec := { name := "opsAll", fn := fun _ => fun
  | [d1, d2] => { results := [.lit (.bool false)], args := [d1, d2] }
  | _ => none }
def OpsAllWrongFalsely : Prop := opsAllRow.holds Try.pinned (OpenSpec.ofChange opsAllWrong)

/-- 'torcherelaw06.OpsRooms': WHATEVER THE INPUT: true; the input reads as it did. -/
def opsRoomsSpec : ChangeSpec := { name := "opsRooms", fn := fun _ => fun
  | [d] => { results := [.lit (.bool true)], args := [d] }
  | _ => none }
def opsRoomsRow : OpenClaim := { program := "ytbeocnhbbhidaaa", sum := "d191cee15ff8f0c137453e7662fdbfb7272cc34424c2c5124e36edd42de64cf4", func := "torchere/torcherelaw06.OpsRooms", spec := "opsRooms", apart := false }
def OpsRoomsSaid : Prop := opsRoomsRow.holds Try.pinned (OpenSpec.ofChange opsRoomsSpec)

/-- ITS FALSE NEIGHBOUR: 'it returns false'. Refute it at one input. -/
def opsRoomsWrong : ChangeSpec := { name := "opsRooms", fn := fun _ => fun
  | [d] => { results := [.lit (.bool false)], args := [d] }
  | _ => none }
def OpsRoomsWrongFalsely : Prop := opsRoomsRow.holds Try.pinned (OpenSpec.ofChange opsRoomsWrong)

/-- 'torcherelaw06.OpsReads': WHATEVER THE INPUT: true; the input reads as it did. -/
def opsReadsSpec : ChangeSpec := { name := "opsReads", fn := fun _ => fun
  | [d] => { results := [.lit (.bool true)], args := [d] }
  | _ => none }
def opsReadsRow : OpenClaim := { program := "ytbeocnhbbhidaaa", sum := "d191cee15ff8f0c137453e7662fdbfb7272cc34424c2c5124e36edd42de64cf4", func := "torchere/torcherelaw06.OpsReads", spec := "opsReads", apart := false }
def OpsReadsSaid : Prop := opsReadsRow.holds Try.pinned (OpenSpec.ofChange opsReadsSpec)

/-- ITS FALSE NEIGHBOUR: 'it returns false'. Refute it at one input. -/
def opsReadsWrong : ChangeSpec := { name := "opsReads", fn := fun _ => fun
  | [d] => { results := [.lit (.bool false)], args := [d] }
  | _ => none }
def OpsReadsWrongFalsely : Prop := opsReadsRow.holds Try.pinned (OpenSpec.ofChange opsReadsWrong)

/-- 'torcherelaw06.OpsMany': WHATEVER THE INPUT: true; the input reads as it did. -/
def opsManySpec : ChangeSpec := { name := "opsMany", fn := fun _ => fun
  | [d] => { results := [.lit (.bool true)], args := [d] }
  | _ => none }
def opsManyRow : OpenClaim := { program := "ytbeocnhbbhidaaa", sum := "d191cee15ff8f0c137453e7662fdbfb7272cc34424c2c5124e36edd42de64cf4", func := "torchere/torcherelaw06.OpsMany", spec := "opsMany", apart := false }
def OpsManySaid : Prop := opsManyRow.holds Try.pinned (OpenSpec.ofChange opsManySpec)

/-- ITS FALSE NEIGHBOUR: 'it returns false'. Refute it at one input. -/
def opsManyWrong : ChangeSpec := { name := "opsMany", fn := fun _ => fun
  | [d] => { results := [.lit (.bool false)], args := [d] }
  | _ => none }
def OpsManyWrongFalsely : Prop := opsManyRow.holds Try.pinned (OpenSpec.ofChange opsManyWrong)

/-- 'torcherelaw01.LattRules': WHATEVER THE INPUT: true; the input reads as it did. -/
def lattRulesSpec : ChangeSpec := { name := "lattRules", fn := fun _ => fun
  | [d1, d2, d3, d4, d5] => { results := [.lit (.bool true)], args := [d1, d2, d3, d4, d5] }
  | _ => none }
def lattRulesRow : OpenClaim := { program := "ytbeocnhbbhidaaa", sum := "d191cee15ff8f0c137453e7662fdbfb7272cc34424c2c5124e36edd42de64cf4", func := "torchere/torcherelaw01.LattRules", spec := "lattRules", apart := false }
def LattRulesSaid : Prop := lattRulesRow.holds Try.pinned (OpenSpec.ofChange lattRulesSpec)

/-- ITS FALSE NEIGHBOUR: 'it returns false'. Refute it at one input. -/
def lattRulesWrong : ChangeSpec := { name := "lattRules", fn := fun _ => fun
  | [d1, d2, d3, d4, d5] => { results := [.lit (.bool false)], args := [d1, d2, d3, d4, d5] }
  | _ => none }
def LattRulesWrongFalsely : Prop := lattRulesRow.holds Try.pinned (OpenSpec.ofChange lattRulesWrong)

/-- 'torcherelaw01.LattPairs': WHATEVER THE INPUT: true; the input reads as it did. -/
def lattPairsSpec : ChangeSpec := { name := "lattPairs", fn := fun _ => fun
  | [d1, d2, d3, d4, d5] => { results := [.lit (.bool true)], args := [d1, d2, d3, d4, d5] }
  | _ => none }
def lattPairsRow : OpenClaim := { program := "ytbeocnhbbhidaaa", sum := "d191cee15ff8f0c137453e7662fdbfb7272cc34424c2c5124e36edd42de64cf4", func := "torchere/torcherelaw01.LattPairs", spec := "lattPairs", apart := false }
def LattPairsSaid : Prop := lattPairsRow.holds Try.pinned (OpenSpec.ofChange lattPairsSpec)

/-- ITS FALSE NEIGHBOUR: 'it returns false'. Refute it at one input. -/
def lattPairsWrong : ChangeSpec := { name := "lattPairs", fn := fun _ => fun
  | [d1, d2, d3, d4, d5] => { results := [.lit (.bool false)], args := [d1, d2, d3, d4, d5] }
  | _ => none }
def LattPairsWrongFalsely : Prop := lattPairsRow.holds Try.pinned (OpenSpec.ofChange lattPairsWrong)

/-- 'torcherelaw01.LattGrows': WHATEVER THE INPUT: true; the input reads as it did. -/
def lattGrowsSpec : ChangeSpec := { name := "lattGrows", fn := fun _ => fun
  | [d1, d2, d3, d4, d5] => { results := [.lit (.bool true)], args := [d1, d2, d3, d4, d5] }
  | _ => none }
def lattGrowsRow : OpenClaim := { program := "ytbeocnhbbhidaaa", sum := "d191cee15ff8f0c137453e7662fdbfb7272cc34424c2c5124e36edd42de64cf4", func := "torchere/torcherelaw01.LattGrows", spec := "lattGrows", apart := false }
def LattGrowsSaid : Prop := lattGrowsRow.holds Try.pinned (OpenSpec.ofChange lattGrowsSpec)

/-- ITS FALSE NEIGHBOUR: 'it returns false'. Refute it at one input. -/
def lattGrowsWrong : ChangeSpec := { name := "lattGrows", fn := fun _ => fun
  | [d1, d2, d3, d4, d5] => { results := [.lit (.bool false)], args := [d1, d2, d3, d4, d5] }
  | _ => none }
def LattGrowsWrongFalsely : Prop := lattGrowsRow.holds Try.pinned (OpenSpec.ofChange lattGrowsWrong)

/-- 'torcherelaw01.LattOrders': WHATEVER THE INPUT: true; the input reads as it did. -/
def lattOrdersSpec : ChangeSpec := { name := "lattOrders", fn := fun _ => fun
  | [d1, d2, d3, d4] => { results := [.lit (.bool true)], args := [d1, d2, d3, d4] }
  | _ => none }
def lattOrdersRow : OpenClaim := { program := "ytbeocnhbbhidaaa", sum := "d191cee15ff8f0c137453e7662fdbfb7272cc34424c2c5124e36edd42de64cf4", func := "torchere/torcherelaw01.LattOrders", spec := "lattOrders", apart := false }
def LattOrdersSaid : Prop := lattOrdersRow.holds Try.pinned (OpenSpec.ofChange lattOrdersSpec)

/-- ITS FALSE NEIGHBOUR: 'it returns false'. Refute it at one input. -/
def lattOrdersWrong : ChangeSpec := { name := "lattOrders", fn := fun _ => fun
  | [d1, d2, d3, d4] => { results := [.lit (.bool false)], args := [d1, d2, d3, d4] }
  | _ => none }
def LattOrdersWrongFalsely : Prop := lattOrdersRow.holds Try.pinned (OpenSpec.ofChange lattOrdersWrong)

/-- 'torcherelaw01.LattChains': WHATEVER THE INPUT: true; the input reads as it did. -/
def lattChainsSpec : ChangeSpec := { name := "lattChains", fn := fun _ => fun
  | [d1, d2, d3] => { results := [.lit (.bool true)], args := [d1, d2, d3] }
  | _ => none }
def lattChainsRow : OpenClaim := { program := "ytbeocnhbbhidaaa", sum := "d191cee15ff8f0c137453e7662fdbfb7272cc34424c2c5124e36edd42de64cf4", func := "torchere/torcherelaw01.LattChains", spec := "lattChains", apart := false }
def LattChainsSaid : Prop := lattChainsRow.holds Try.pinned (OpenSpec.ofChange lattChainsSpec)

/-- ITS FALSE NEIGHBOUR: 'it returns false'. Refute it at one input. -/
def lattChainsWrong : ChangeSpec := { name := "lattChains", fn := fun _ => fun
  | [d1, d2, d3] => { results := [.lit (.bool false)], args := [d1, d2, d3] }
  | _ => none }
def LattChainsWrongFalsely : Prop := lattChainsRow.holds Try.pinned (OpenSpec.ofChange lattChainsWrong)

/-- 'torcherelaw01.LattEnds': WHATEVER THE INPUT: true; the input reads as it did. -/
def lattEndsSpec : ChangeSpec := { name := "lattEnds", fn := fun _ => fun
  | [d1, d2, d3] => { results := [.lit (.bool true)], args := [d1, d2, d3] }
  | _ => none }
def lattEndsRow : OpenClaim := { program := "ytbeocnhbbhidaaa", sum := "d191cee15ff8f0c137453e7662fdbfb7272cc34424c2c5124e36edd42de64cf4", func := "torchere/torcherelaw01.LattEnds", spec := "lattEnds", apart := false }
def LattEndsSaid : Prop := lattEndsRow.holds Try.pinned (OpenSpec.ofChange lattEndsSpec)

/-- ITS FALSE NEIGHBOUR: 'it returns false'. Refute it at one input. -/
def lattEndsWrong : ChangeSpec := { name := "lattEnds", fn := fun _ => fun
  | [d1, d2, d3] => { results := [.lit (.bool false)], args := [d1, d2, d3] }
  | _ => none }
def LattEndsWrongFalsely : Prop := lattEndsRow.holds Try.pinned (OpenSpec.ofChange lattEndsWrong)

/-- 'torcherelaw01.LattCubes': WHATEVER THE INPUT: true; the input reads as it did. -/
def lattCubesSpec : ChangeSpec := { name := "lattCubes", fn := fun _ => fun
  | [d1, d2, d3] => { results := [.lit (.bool true)], args := [d1, d2, d3] }
  | _ => none }
def lattCubesRow : OpenClaim := { program := "ytbeocnhbbhidaaa", sum := "d191cee15ff8f0c137453e7662fdbfb7272cc34424c2c5124e36edd42de64cf4", func := "torchere/torcherelaw01.LattCubes", spec := "lattCubes", apart := false }
def LattCubesSaid : Prop := lattCubesRow.holds Try.pinned (OpenSpec.ofChange lattCubesSpec)

/-- ITS FALSE NEIGHBOUR: 'it returns false'. Refute it at one input. -/
def lattCubesWrong : ChangeSpec := { name := "lattCubes", fn := fun _ => fun
  | [d1, d2, d3] => { results := [.lit (.bool false)], args := [d1, d2, d3] }
  | _ => none }
def LattCubesWrongFalsely : Prop := lattCubesRow.holds Try.pinned (OpenSpec.ofChange lattCubesWrong)

/-- 'torcherelaw01.LattNone': WHATEVER THE INPUT: true; the input reads as it did. -/
def lattNoneSpec : ChangeSpec := { name := "lattNone", fn := fun _ => fun
  | [d] => { results := [.lit (.bool true)], args := [d] }
  | _ => none }
def lattNoneRow : OpenClaim := { program := "ytbeocnhbbhidaaa", sum := "d191cee15ff8f0c137453e7662fdbfb7272cc34424c2c5124e36edd42de64cf4", func := "torchere/torcherelaw01.LattNone", spec := "lattNone", apart := false }
def LattNoneSaid : Prop := lattNoneRow.holds Try.pinned (OpenSpec.ofChange lattNoneSpec)

/-- ITS FALSE NEIGHBOUR: 'it returns false'. Refute it at one input. -/
def lattNoneWrong : ChangeSpec := { name := "lattNone", fn := fun _ => fun
  | [d] => { results := [.lit (.bool false)], args := [d] }
  | _ => none }
def LattNoneWrongFalsely : Prop := lattNoneRow.holds Try.pinned (OpenSpec.ofChange lattNoneWrong)

/- THE SECOND FORM. 'bulk': how many values and letters a reading holds, each counted each time it is reached (what is shared counts as often as it is met; a slice's spare places count too). A statement '..UptoSaid' is the law's where the arguments, and the package variables that the reading takes, are together of bulk at most 1048576: NARROWER than '..Said'. Prove '..Said' where nothing that the law and all that it calls make is longer than what came in: it says more and counts as full. Else prove '..UptoSaid'. A law counts once. -/
mutual
def uptoBulk {H : Type} : DataW H → Nat
  | .lit (.string bytes) => bytes.length + 1
  | .lit _ => 1
  | .nil => 1
  | .ptr d => uptoBulk d + 1
  | .slice elems spare => uptoBulkAll elems + uptoBulkAll spare + 1
  | .agg parts => uptoBulkAll parts + 1
  | .iface _ d => uptoBulk d + 1
  | .map entries => uptoBulkEntries entries + 1
  | .held _ => 1
def uptoBulkAll {H : Type} : List (DataW H) → Nat
  | [] => 0
  | d :: r => uptoBulk d + uptoBulkAll r
def uptoBulkEntries {H : Type} : List (Lit × DataW H) → Nat
  | [] => 0
  | x :: r => uptoBulkEntry x + uptoBulkEntries r
def uptoBulkEntry {H : Type} : Lit × DataW H → Nat
  | (.string bytes, d) => bytes.length + uptoBulk d + 1
  | (_, d) => uptoBulk d + 1
 end
def uptoSmall : (H : Type) → List (DataW H) → Bool := fun _ ds => decide (uptoBulkAll ds ≤ 1048576)
def OpenSpec.upto (s : _root_.Go.ChangeSpec) : _root_.Go.OpenSpec := { _root_.Go.OpenSpec.ofChange s with cond := some uptoSmall }

/-- 'torcherelaw06.OpsNames', WHERE WHAT IT READS IS OF BULK AT MOST 1048576: true; the input reads as it did. -/
def opsNamesUptoRow : OpenClaim := { program := "ytbeocnhbbhidaaa", sum := "d191cee15ff8f0c137453e7662fdbfb7272cc34424c2c5124e36edd42de64cf4", func := "torchere/torcherelaw06.OpsNames", spec := "opsNames", apart := false, narrowed := true }
def OpsNamesUptoSaid : Prop := opsNamesUptoRow.holds Try.pinned (OpenSpec.upto opsNamesSpec)

/-- 'torcherelaw06.OpsAll', WHERE WHAT IT READS IS OF BULK AT MOST 1048576: true; the input reads as it did. -/
def opsAllUptoRow : OpenClaim := { program := "ytbeocnhbbhidaaa", sum := "d191cee15ff8f0c137453e7662fdbfb7272cc34424c2c5124e36edd42de64cf4", func := "torchere/torcherelaw06.OpsAll", spec := "opsAll", apart := false, narrowed := true }
def OpsAllUptoSaid : Prop := opsAllUptoRow.holds Try.pinned (OpenSpec.upto opsAllSpec)

/-- 'torcherelaw06.OpsRooms', WHERE WHAT IT READS IS OF BULK AT MOST 1048576: true; the input reads as it did. -/
def opsRoomsUptoRow : OpenClaim := { program := "ytbeocnhbbhidaaa", sum := "d191cee15ff8f0c137453e7662fdbfb7272cc34424c2c5124e36edd42de64cf4", func := "torchere/torcherelaw06.OpsRooms", spec := "opsRooms", apart := false, narrowed := true }
def OpsRoomsUptoSaid : Prop := opsRoomsUptoRow.holds Try.pinned (OpenSpec.upto opsRoomsSpec)

/-- 'torcherelaw06.OpsReads', WHERE WHAT IT READS IS OF BULK AT MOST 1048576: true; the input reads as it did. -/
def opsReadsUptoRow : OpenClaim := { program := "ytbeocnhbbhidaaa", sum := "d191cee15ff8f0c137453e7662fdbfb7272cc34424c2c5124e36edd42de64cf4", func := "torchere/torcherelaw06.OpsReads", spec := "opsReads", apart := false, narrowed := true }
def OpsReadsUptoSaid : Prop := opsReadsUptoRow.holds Try.pinned (OpenSpec.upto opsReadsSpec)

/-- 'torcherelaw06.OpsMany', WHERE WHAT IT READS IS OF BULK AT MOST 1048576: true; the input reads as it did. -/
def opsManyUptoRow : OpenClaim := { program := "ytbeocnhbbhidaaa", sum := "d191cee15ff8f0c137453e7662fdbfb7272cc34424c2c5124e36edd42de64cf4", func := "torchere/torcherelaw06.OpsMany", spec := "opsMany", apart := false, narrowed := true }
def OpsManyUptoSaid : Prop := opsManyUptoRow.holds Try.pinned (OpenSpec.upto opsManySpec)

/-- 'torcherelaw01.LattRules', WHERE WHAT IT READS IS OF BULK AT MOST 1048576: true; the input reads as it did. -/
def lattRulesUptoRow : OpenClaim := { program := "ytbeocnhbbhidaaa", sum := "d191cee15ff8f0c137453e7662fdbfb7272cc34424c2c5124e36edd42de64cf4", func := "torchere/torcherelaw01.LattRules", spec := "lattRules", apart := false, narrowed := true }
def LattRulesUptoSaid : Prop := lattRulesUptoRow.holds Try.pinned (OpenSpec.upto lattRulesSpec)

/-- 'torcherelaw01.LattPairs', WHERE WHAT IT READS IS OF BULK AT MOST 1048576: true; the input reads as it did. -/
def lattPairsUptoRow : OpenClaim := { program := "ytbeocnhbbhidaaa", sum := "d191cee15ff8f0c137453e7662fdbfb7272cc34424c2c5124e36edd42de64cf4", func := "torchere/torcherelaw01.LattPairs", spec := "lattPairs", apart := false, narrowed := true }
def LattPairsUptoSaid : Prop := lattPairsUptoRow.holds Try.pinned (OpenSpec.upto lattPairsSpec)

/-- 'torcherelaw01.LattGrows', WHERE WHAT IT READS IS OF BULK AT MOST 1048576: true; the input reads as it did. -/
def lattGrowsUptoRow : OpenClaim := { program := "ytbeocnhbbhidaaa", sum := "d191cee15ff8f0c137453e7662fdbfb7272cc34424c2c5124e36edd42de64cf4", func := "torchere/torcherelaw01.LattGrows", spec := "lattGrows", apart := false, narrowed := true }
def LattGrowsUptoSaid : Prop := lattGrowsUptoRow.holds Try.pinned (OpenSpec.upto lattGrowsSpec)

/-- 'torcherelaw01.LattOrders', WHERE WHAT IT READS IS OF BULK AT MOST 1048576: true; the input reads as it did. -/
def lattOrdersUptoRow : OpenClaim := { program := "ytbeocnhbbhidaaa", sum := "d191cee15ff8f0c137453e7662fdbfb7272cc34424c2c5124e36edd42de64cf4", func := "torchere/torcherelaw01.LattOrders", spec := "lattOrders", apart := false, narrowed := true }
def LattOrdersUptoSaid : Prop := lattOrdersUptoRow.holds Try.pinned (OpenSpec.upto lattOrdersSpec)

/-- 'torcherelaw01.LattChains', WHERE WHAT IT READS IS OF BULK AT MOST 1048576: true; the input reads as it did. -/
def lattChainsUptoRow : OpenClaim := { program := "ytbeocnhbbhidaaa", sum := "d191cee15ff8f0c137453e7662fdbfb7272cc34424c2c5124e36edd42de64cf4", func := "torchere/torcherelaw01.LattChains", spec := "lattChains", apart := false, narrowed := true }
def LattChainsUptoSaid : Prop := lattChainsUptoRow.holds Try.pinned (OpenSpec.upto lattChainsSpec)

/-- 'torcherelaw01.LattEnds', WHERE WHAT IT READS IS OF BULK AT MOST 1048576: true; the input reads as it did. -/
def lattEndsUptoRow : OpenClaim := { program := "ytbeocnhbbhidaaa", sum := "d191cee15ff8f0c137453e7662fdbfb7272cc34424c2c5124e36edd42de64cf4", func := "torchere/torcherelaw01.LattEnds", spec := "lattEnds", apart := false, narrowed := true }
def LattEndsUptoSaid : Prop := lattEndsUptoRow.holds Try.pinned (OpenSpec.upto lattEndsSpec)

/-- 'torcherelaw01.LattCubes', WHERE WHAT IT READS IS OF BULK AT MOST 1048576: true; the input reads as it did. -/
def lattCubesUptoRow : OpenClaim := { program := "ytbeocnhbbhidaaa", sum := "d191cee15ff8f0c137453e7662fdbfb7272cc34424c2c5124e36edd42de64cf4", func := "torchere/torcherelaw01.LattCubes", spec := "lattCubes", apart := false, narrowed := true }
def LattCubesUptoSaid : Prop := lattCubesUptoRow.holds Try.pinned (OpenSpec.upto lattCubesSpec)

/-- 'torcherelaw01.LattNone', WHERE WHAT IT READS IS OF BULK AT MOST 1048576: true; the input reads as it did. -/
def lattNoneUptoRow : OpenClaim := { program := "ytbeocnhbbhidaaa", sum := "d191cee15ff8f0c137453e7662fdbfb7272cc34424c2c5124e36edd42de64cf4", func := "torchere/torcherelaw01.LattNone", spec := "lattNone", apart := false, narrowed := true }
def LattNoneUptoSaid : Prop := lattNoneUptoRow.holds Try.pinned (OpenSpec.upto lattNoneSpec)

end Rows
end Go.Proofs.Ytbeocnhbbhidaaa

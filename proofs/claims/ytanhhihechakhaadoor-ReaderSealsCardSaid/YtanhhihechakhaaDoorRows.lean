/-
  NARROWER THAN 'FOR EVERY INPUT', by the rows' own cells (each row's printed sentence says how): ReaderMay: laid · ReaderBrackets: laid · ReaderSums: laid · ReaderLists: laid · ReaderCuts: laid · ReaderSeals: laid.
  DERIVED. THE GIVEN ROWS OF THIS SEAT. 6 by the template 'for every input the law returns true; each argument reads behind the call as it read before'; 0 by the template 'total and deterministic' (their statements: YtanhhihechakhaaDoorTotals.lean).
  GIVEN WITH THE SEED: the statements are not yours to turn. If you find one false, say at which input.
  Laid BY PROGRAM, IN A SANDBOX (cutbox-rows.mjs): the forced cells as the released guide's own fill.sh prints them over the translation 6324a26d06261ab6… (all of the seat's roots in one cut). By AI agents, Wed Nov 11 2026. No macro, syntax, notation, axiom, sorry.
-/
import Derived.Test.YtanhhihechakhaaDoorChecked
import GoSem.Claim
import GoSem.ClaimJoined
import GoSem.ClaimMapViews
import Derived.JoinedTies
import Derived.KernelRfl
namespace Go.Proofs.YtanhhihechakhaaDoor
/- THE CELL 'sum', in the pinned program and in every row, IS THE sha256 OF THE DUMP (.gsa) THAT YtanhhihechakhaaDoorProg.lean LOADS. Nothing in Lean hashes anything: it is a label: what it is worth is what the hold of that sum in a sandbox is worth. -/
noncomputable def Tryd.pinned : Pinned := { name := "ytanhhihechakhaadoor", sum := "6324a26d06261ab674249fac9722dfaef36d96bd6a93730b91ae3a977eacd878", checked := Tryd.checked }
namespace Rows
def none {H : Type} : Left H := { results := [], args := [] }

/- WHAT THE LISTED PACKAGE-LEVEL VARIABLES READ AS WHEN THE CALL BEGINS. Each datum BY PROGRAM (the guide's laid-datum.mjs) off the statement by which the dump's own 'gosem.cut.vars' lays the variable. In a bare row this is a premise. The card (YtanhhihechakhaaDoorCards.lean) ties it to the program's text. -/
def laid_errors_errorType {H : Type} : DataW H := .iface "internal/reflectlite.rtype" (.agg [.ptr (.lit (.string [101, 114, 114, 111, 114]))])

/-- 'torcherelaw07.ReaderMay': WHATEVER THE INPUT: true; the input reads as it did. -/
def readerMaySpec : ChangeSpec := { name := "readerMay", fn := fun _ => fun
  | [d1, d2] => { results := [.lit (.bool true)], args := [d1, d2] }
  | _ => none }
def readerMayRow : OpenClaim := { program := "ytanhhihechakhaadoor", sum := "6324a26d06261ab674249fac9722dfaef36d96bd6a93730b91ae3a977eacd878", func := "torchere/torcherelaw07.ReaderMay", spec := "readerMay", inPlace := ["internal/bytealg.IndexByteString", "internal/reflectlite.TypeOf", "internal/reflectlite.ValueOf", "(internal/reflectlite.Value).Type", "(internal/reflectlite.Value).IsNil", "(internal/reflectlite.Value).Elem", "(internal/reflectlite.Value).Set"], unfollowed := true, recurses := true, named := ["errors.errorType"], apart := false, laid := [("errors.errorType", laid_errors_errorType)] }
def ReaderMaySaid : Prop := readerMayRow.holds Tryd.pinned (OpenSpec.ofChange readerMaySpec)

/-- ITS FALSE NEIGHBOUR: 'it returns false'. Refute it at one input. -/
def readerMayWrong : ChangeSpec := { name := "readerMay", fn := fun _ => fun
  | [d1, d2] => { results := [.lit (.bool false)], args := [d1, d2] }
  | _ => none }
def ReaderMayWrongFalsely : Prop := readerMayRow.holds Tryd.pinned (OpenSpec.ofChange readerMayWrong)

/-- 'torcherelaw07.ReaderBrackets': WHATEVER THE INPUT: true; the input reads as it did. -/
def readerBracketsSpec : ChangeSpec := { name := "readerBrackets", fn := fun _ => fun
  | [d1, d2] => { results := [.lit (.bool true)], args := [d1, d2] }
  | _ => none }
def readerBracketsRow : OpenClaim := { program := "ytanhhihechakhaadoor", sum := "6324a26d06261ab674249fac9722dfaef36d96bd6a93730b91ae3a977eacd878", func := "torchere/torcherelaw07.ReaderBrackets", spec := "readerBrackets", inPlace := ["internal/bytealg.IndexByteString", "internal/reflectlite.TypeOf", "internal/reflectlite.ValueOf", "(internal/reflectlite.Value).Type", "(internal/reflectlite.Value).IsNil", "(internal/reflectlite.Value).Elem", "(internal/reflectlite.Value).Set"], unfollowed := true, recurses := true, named := ["errors.errorType"], apart := false, laid := [("errors.errorType", laid_errors_errorType)] }
def ReaderBracketsSaid : Prop := readerBracketsRow.holds Tryd.pinned (OpenSpec.ofChange readerBracketsSpec)

/-- ITS FALSE NEIGHBOUR: 'it returns false'. Refute it at one input. -/
def readerBracketsWrong : ChangeSpec := { name := "readerBrackets", fn := fun _ => fun
  | [d1, d2] => { results := [.lit (.bool false)], args := [d1, d2] }
  | _ => none }
def ReaderBracketsWrongFalsely : Prop := readerBracketsRow.holds Tryd.pinned (OpenSpec.ofChange readerBracketsWrong)

/-- 'torcherelaw07.ReaderSums': WHATEVER THE INPUT: true; the input reads as it did. -/
def readerSumsSpec : ChangeSpec := { name := "readerSums", fn := fun _ => fun
  | [d] => { results := [.lit (.bool true)], args := [d] }
  | _ => none }
def readerSumsRow : OpenClaim := { program := "ytanhhihechakhaadoor", sum := "6324a26d06261ab674249fac9722dfaef36d96bd6a93730b91ae3a977eacd878", func := "torchere/torcherelaw07.ReaderSums", spec := "readerSums", inPlace := ["internal/bytealg.IndexByteString", "internal/reflectlite.TypeOf", "internal/reflectlite.ValueOf", "(internal/reflectlite.Value).Type", "(internal/reflectlite.Value).IsNil", "(internal/reflectlite.Value).Elem", "(internal/reflectlite.Value).Set"], unfollowed := true, recurses := true, named := ["errors.errorType"], apart := false, laid := [("errors.errorType", laid_errors_errorType)] }
def ReaderSumsSaid : Prop := readerSumsRow.holds Tryd.pinned (OpenSpec.ofChange readerSumsSpec)

/-- ITS FALSE NEIGHBOUR: 'it returns false'. Refute it at one input. -/
def readerSumsWrong : ChangeSpec := { name := "readerSums", fn := fun _ => fun
  | [d] => { results := [.lit (.bool false)], args := [d] }
  | _ => none }
def ReaderSumsWrongFalsely : Prop := readerSumsRow.holds Tryd.pinned (OpenSpec.ofChange readerSumsWrong)

/-- 'torcherelaw07.ReaderLists': WHATEVER THE INPUT: true; the input reads as it did. -/
def readerListsSpec : ChangeSpec := { name := "readerLists", fn := fun _ => fun
  | [d1, d2] => { results := [.lit (.bool true)], args := [d1, d2] }
  | _ => none }
def readerListsRow : OpenClaim := { program := "ytanhhihechakhaadoor", sum := "6324a26d06261ab674249fac9722dfaef36d96bd6a93730b91ae3a977eacd878", func := "torchere/torcherelaw07.ReaderLists", spec := "readerLists", inPlace := ["internal/bytealg.IndexByteString", "internal/reflectlite.TypeOf", "internal/reflectlite.ValueOf", "(internal/reflectlite.Value).Type", "(internal/reflectlite.Value).IsNil", "(internal/reflectlite.Value).Elem", "(internal/reflectlite.Value).Set"], unfollowed := true, recurses := true, named := ["errors.errorType"], apart := false, laid := [("errors.errorType", laid_errors_errorType)] }
def ReaderListsSaid : Prop := readerListsRow.holds Tryd.pinned (OpenSpec.ofChange readerListsSpec)

/-- ITS FALSE NEIGHBOUR: 'it returns false'. Refute it at one input. -/
def readerListsWrong : ChangeSpec := { name := "readerLists", fn := fun _ => fun
  | [d1, d2] => { results := [.lit (.bool false)], args := [d1, d2] }
  | _ => none }
def ReaderListsWrongFalsely : Prop := readerListsRow.holds Tryd.pinned (OpenSpec.ofChange readerListsWrong)

/-- 'torcherelaw07.ReaderCuts': WHATEVER THE INPUT: true; the input reads as it did. -/
def readerCutsSpec : ChangeSpec := { name := "readerCuts", fn := fun _ => fun
  | [d] => { results := [.lit (.bool true)], args := [d] }
  | _ => none }
def readerCutsRow : OpenClaim := { program := "ytanhhihechakhaadoor", sum := "6324a26d06261ab674249fac9722dfaef36d96bd6a93730b91ae3a977eacd878", func := "torchere/torcherelaw07.ReaderCuts", spec := "readerCuts", inPlace := ["internal/bytealg.IndexByteString", "internal/reflectlite.TypeOf", "internal/reflectlite.ValueOf", "(internal/reflectlite.Value).Type", "(internal/reflectlite.Value).IsNil", "(internal/reflectlite.Value).Elem", "(internal/reflectlite.Value).Set"], unfollowed := true, recurses := true, named := ["errors.errorType"], apart := false, laid := [("errors.errorType", laid_errors_errorType)] }
def ReaderCutsSaid : Prop := readerCutsRow.holds Tryd.pinned (OpenSpec.ofChange readerCutsSpec)

/-- ITS FALSE NEIGHBOUR: 'it returns false'. Refute it at one input. -/
def readerCutsWrong : ChangeSpec := { name := "readerCuts", fn := fun _ => fun
  | [d] => { results := [.lit (.bool false)], args := [d] }
  | _ => none }
def ReaderCutsWrongFalsely : Prop := readerCutsRow.holds Tryd.pinned (OpenSpec.ofChange readerCutsWrong)

/-- 'torcherelaw07.ReaderSeals': WHATEVER THE INPUT: true; the input reads as it did. -/
def readerSealsSpec : ChangeSpec := { name := "readerSeals", fn := fun _ => fun
  | [d1, d2, d3, d4] => { results := [.lit (.bool true)], args := [d1, d2, d3, d4] }
  | _ => none }
def readerSealsRow : OpenClaim := { program := "ytanhhihechakhaadoor", sum := "6324a26d06261ab674249fac9722dfaef36d96bd6a93730b91ae3a977eacd878", func := "torchere/torcherelaw07.ReaderSeals", spec := "readerSeals", inPlace := ["internal/bytealg.IndexByteString", "internal/reflectlite.TypeOf", "internal/reflectlite.ValueOf", "(internal/reflectlite.Value).Type", "(internal/reflectlite.Value).IsNil", "(internal/reflectlite.Value).Elem", "(internal/reflectlite.Value).Set"], unfollowed := true, recurses := true, named := ["errors.errorType"], apart := false, laid := [("errors.errorType", laid_errors_errorType)] }
def ReaderSealsSaid : Prop := readerSealsRow.holds Tryd.pinned (OpenSpec.ofChange readerSealsSpec)

/-- ITS FALSE NEIGHBOUR: 'it returns false'. Refute it at one input. -/
def readerSealsWrong : ChangeSpec := { name := "readerSeals", fn := fun _ => fun
  | [d1, d2, d3, d4] => { results := [.lit (.bool false)], args := [d1, d2, d3, d4] }
  | _ => none }
def ReaderSealsWrongFalsely : Prop := readerSealsRow.holds Tryd.pinned (OpenSpec.ofChange readerSealsWrong)

/- THE SECOND FORM. 'bulk': how many values and letters a reading holds, each counted each time it is reached (what is shared counts as often as it is met; a slice's spare places count too). A statement '..UptoSaid' is the law's where the arguments, and the package variables that the reading takes, are together of bulk at most 1048576: NARROWER than '..Said'. Prove '..Said' where nothing that the law and all that it calls make is longer than what came in: it says more and counts as full. Else prove '..UptoSaid'. A law counts once. -/
mutual
def uptoBulk {H : Type} : DataW H → Nat
  | .lit (.string bytes) => bytes.length + 1
  | .lit _ => 1
  | .nil => 1
  | .ptr d => uptoBulk d + 1
  | .slice elems spare => uptoBulkAll elems + uptoBulkAll spare + 1
  | .agg parts => uptoBulkAll parts + 1
  | .iface _ d => uptoBulk d + 1
  | .map entries => uptoBulkEntries entries + 1
  | .held _ => 1
def uptoBulkAll {H : Type} : List (DataW H) → Nat
  | [] => 0
  | d :: r => uptoBulk d + uptoBulkAll r
def uptoBulkEntries {H : Type} : List (Lit × DataW H) → Nat
  | [] => 0
  | x :: r => uptoBulkEntry x + uptoBulkEntries r
def uptoBulkEntry {H : Type} : Lit × DataW H → Nat
  | (.string bytes, d) => bytes.length + uptoBulk d + 1
  | (_, d) => uptoBulk d + 1
 end
def uptoSmall : (H : Type) → List (DataW H) → Bool := fun _ ds => decide (uptoBulkAll ds ≤ 1048576)
def OpenSpec.upto (s : _root_.Go.ChangeSpec) : _root_.Go.OpenSpec := { _root_.Go.OpenSpec.ofChange s with cond := some uptoSmall }

/-- 'torcherelaw07.ReaderMay', WHERE WHAT IT READS IS OF BULK AT MOST 1048576: true; the input reads as it did. -/
def readerMayUptoRow : OpenClaim := { program := "ytanhhihechakhaadoor", sum := "6324a26d06261ab674249fac9722dfaef36d96bd6a93730b91ae3a977eacd878", func := "torchere/torcherelaw07.ReaderMay", spec := "readerMay", inPlace := ["internal/bytealg.IndexByteString", "internal/reflectlite.TypeOf", "internal/reflectlite.ValueOf", "(internal/reflectlite.Value).Type", "(internal/reflectlite.Value).IsNil", "(internal/reflectlite.Value).Elem", "(internal/reflectlite.Value).Set"], unfollowed := true, recurses := true, named := ["errors.errorType"], apart := false, laid := [("errors.errorType", laid_errors_errorType)], narrowed := true }
def ReaderMayUptoSaid : Prop := readerMayUptoRow.holds Tryd.pinned (OpenSpec.upto readerMaySpec)

/-- 'torcherelaw07.ReaderBrackets', WHERE WHAT IT READS IS OF BULK AT MOST 1048576: true; the input reads as it did. -/
def readerBracketsUptoRow : OpenClaim := { program := "ytanhhihechakhaadoor", sum := "6324a26d06261ab674249fac9722dfaef36d96bd6a93730b91ae3a977eacd878", func := "torchere/torcherelaw07.ReaderBrackets", spec := "readerBrackets", inPlace := ["internal/bytealg.IndexByteString", "internal/reflectlite.TypeOf", "internal/reflectlite.ValueOf", "(internal/reflectlite.Value).Type", "(internal/reflectlite.Value).IsNil", "(internal/reflectlite.Value).Elem", "(internal/reflectlite.Value).Set"], unfollowed := true, recurses := true, named := ["errors.errorType"], apart := false, laid := [("errors.errorType", laid_errors_errorType)], narrowed := true }
def ReaderBracketsUptoSaid : Prop := readerBracketsUptoRow.holds Tryd.pinned (OpenSpec.upto readerBracketsSpec)

/-- 'torcherelaw07.ReaderSums', WHERE WHAT IT READS IS OF BULK AT MOST 1048576: true; the input reads as it did. -/
def readerSumsUptoRow : OpenClaim := { program := "ytanhhihechakhaadoor", sum := "6324a26d06261ab674249fac9722dfaef36d96bd6a93730b91ae3a977eacd878", func := "torchere/torcherelaw07.ReaderSums", spec := "readerSums", inPlace := ["internal/bytealg.IndexByteString", "internal/reflectlite.TypeOf", "internal/reflectlite.ValueOf", "(internal/reflectlite.Value).Type", "(internal/reflectlite.Value).IsNil", "(internal/reflectlite.Value).Elem", "(internal/reflectlite.Value).Set"], unfollowed := true, recurses := true, named := ["errors.errorType"], apart := false, laid := [("errors.errorType", laid_errors_errorType)], narrowed := true }
def ReaderSumsUptoSaid : Prop := readerSumsUptoRow.holds Tryd.pinned (OpenSpec.upto readerSumsSpec)

/-- 'torcherelaw07.ReaderLists', WHERE WHAT IT READS IS OF BULK AT MOST 1048576: true; the input reads as it did. -/
def readerListsUptoRow : OpenClaim := { program := "ytanhhihechakhaadoor", sum := "6324a26d06261ab674249fac9722dfaef36d96bd6a93730b91ae3a977eacd878", func := "torchere/torcherelaw07.ReaderLists", spec := "readerLists", inPlace := ["internal/bytealg.IndexByteString", "internal/reflectlite.TypeOf", "internal/reflectlite.ValueOf", "(internal/reflectlite.Value).Type", "(internal/reflectlite.Value).IsNil", "(internal/reflectlite.Value).Elem", "(internal/reflectlite.Value).Set"], unfollowed := true, recurses := true, named := ["errors.errorType"], apart := false, laid := [("errors.errorType", laid_errors_errorType)], narrowed := true }
def ReaderListsUptoSaid : Prop := readerListsUptoRow.holds Tryd.pinned (OpenSpec.upto readerListsSpec)

/-- 'torcherelaw07.ReaderCuts', WHERE WHAT IT READS IS OF BULK AT MOST 1048576: true; the input reads as it did. -/
def readerCutsUptoRow : OpenClaim := { program := "ytanhhihechakhaadoor", sum := "6324a26d06261ab674249fac9722dfaef36d96bd6a93730b91ae3a977eacd878", func := "torchere/torcherelaw07.ReaderCuts", spec := "readerCuts", inPlace := ["internal/bytealg.IndexByteString", "internal/reflectlite.TypeOf", "internal/reflectlite.ValueOf", "(internal/reflectlite.Value).Type", "(internal/reflectlite.Value).IsNil", "(internal/reflectlite.Value).Elem", "(internal/reflectlite.Value).Set"], unfollowed := true, recurses := true, named := ["errors.errorType"], apart := false, laid := [("errors.errorType", laid_errors_errorType)], narrowed := true }
def ReaderCutsUptoSaid : Prop := readerCutsUptoRow.holds Tryd.pinned (OpenSpec.upto readerCutsSpec)

/-- 'torcherelaw07.ReaderSeals', WHERE WHAT IT READS IS OF BULK AT MOST 1048576: true; the input reads as it did. -/
def readerSealsUptoRow : OpenClaim := { program := "ytanhhihechakhaadoor", sum := "6324a26d06261ab674249fac9722dfaef36d96bd6a93730b91ae3a977eacd878", func := "torchere/torcherelaw07.ReaderSeals", spec := "readerSeals", inPlace := ["internal/bytealg.IndexByteString", "internal/reflectlite.TypeOf", "internal/reflectlite.ValueOf", "(internal/reflectlite.Value).Type", "(internal/reflectlite.Value).IsNil", "(internal/reflectlite.Value).Elem", "(internal/reflectlite.Value).Set"], unfollowed := true, recurses := true, named := ["errors.errorType"], apart := false, laid := [("errors.errorType", laid_errors_errorType)], narrowed := true }
def ReaderSealsUptoSaid : Prop := readerSealsUptoRow.holds Tryd.pinned (OpenSpec.upto readerSealsSpec)

end Rows
end Go.Proofs.YtanhhihechakhaaDoor

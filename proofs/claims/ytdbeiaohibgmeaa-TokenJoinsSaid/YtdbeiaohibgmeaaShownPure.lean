/- The document's example in tokens. Conditions: none; plain lemmas. -/
import Derived.Test.YtdbeiaohibgmeaaScanPure
set_option linter.unusedVariables false
set_option linter.unusedSimpArgs false
namespace Go.Proofs.Ytdbeiaohibgmeaa.TokP
open Go.RowKit Go.Proofs.Ytdbeiaohibgmeaa.E Go.Proofs.Ytdbeiaohibgmeaa.ReplP
def shT : List UInt8 := [102, 111, 111, 40, 88, 44, 49, 50, 41, 46, 32, 37, 32, 120]
def shL : List Tk := [⟨.tok 1 ⟨#[102, 111, 111]⟩ 0 false 3, false⟩, ⟨.tok 4 ⟨#[40]⟩ 0 false 1, true⟩, ⟨.tok 2 ⟨#[88]⟩ 0 false 1, true⟩, ⟨.tok 4 ⟨#[44]⟩ 0 false 1, true⟩, ⟨.tok 3 ⟨#[]⟩ 12 false 2, true⟩, ⟨.tok 4 ⟨#[41]⟩ 0 false 1, true⟩, ⟨.tok 5 ⟨#[46]⟩ 0 false 1, true⟩]
theorem sh_scan : scanA shT = .ok shL := by kernel_rfl
end Go.Proofs.Ytdbeiaohibgmeaa.TokP

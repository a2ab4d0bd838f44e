/- One token. Conditions: none; plain lemmas. -/
import Derived.Test.YtdbeiaohibgmeaaQuoPure
set_option linter.unusedVariables false
set_option linter.unusedSimpArgs false
namespace Go.Proofs.Ytdbeiaohibgmeaa.TokP
open Go.RowKit Go.Proofs.Ytdbeiaohibgmeaa.E Go.Proofs.Ytdbeiaohibgmeaa.ReplP
def punctL : List UInt8 := [40, 41, 91, 93, 44, 124]
def b1 : ByteArray := ⟨#[97, 32, 98, 121, 116, 101]⟩
def firstT (k : Int) (l : List UInt8) (n : Nat) : Ans := .tok k ⟨(l.take n).toArray⟩ 0 false n
def oneC (c : UInt8) (l : List UInt8) : Ans :=
  if smallB c = true then firstT 1 l (runB letterB l) else if bigB c = true then firstT 2 l (runB letterB l) else if digitB c = true then numA l else if ((c.toNat : Int) == 39) = true then quoA l
  else if punctL.contains c = true then firstT 4 l 1 else if (((c.toNat : Int) == 33) || ((c.toNat : Int) == 59)) = true then firstT 1 l 1 else if endsB l = true then firstT 5 l 1 else if signB c = true then firstT 1 l (runB signB l) else .bad b1 4
theorem ext_take (s : ByteArray) (i : Nat) : s.extract 0 i = ⟨(s.data.toList.take i).toArray⟩ := by
  rw [← ext_to, ba_eta]
end Go.Proofs.Ytdbeiaohibgmeaa.TokP

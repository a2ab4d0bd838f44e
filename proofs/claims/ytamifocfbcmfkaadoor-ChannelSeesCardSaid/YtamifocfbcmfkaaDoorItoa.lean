/- strconv.Itoa as a contract over a ghost heap. Conditions: the table of powers of ten holds its numbers. -/
import Derived.Test.YtamifocfbcmfkaaDoorShelf
import Derived.Test.YtamifocfbcmfkaaDoorEngCode
import Derived.Lib.AppendIntMem
set_option linter.unusedVariables false
namespace Go.Proofs.YtamifocfbcmfkaaDoor
open Go.RowKit Go.Proofs.YtamifocfbcmfkaaDoor.E
/-- The ghost holds the table of powers of ten. -/
def Tab10 (h : Hp) : Prop := ∀ w, h.Sub w → Lib.TabIs Tryd.prog w "internal/strconv.uint64pow10" .u64 Lib.pow10Tab
theorem Tab10.le {h h' : Hp} (ht : Tab10 h) (hl : h.Le h') : Tab10 h' := fun w hw => ht w fun k o hk => hw k o (hl k o hk)
theorem tab10_hp {W : World} (ht : Lib.TabIs Tryd.prog W "internal/strconv.uint64pow10" .u64 Lib.pow10Tab) : Tab10 (hpOf W) := fun w hw => by
  unfold Lib.TabIs World.var? at ht ⊢
  cases hg : Tryd.prog.globalNamed "internal/strconv.uint64pow10" with
  | none => rw [hg] at ht; cases ht
  | some g =>
    rw [hg] at ht
    simp only [Option.bind_some] at ht ⊢
    split at ht
    · rename_i cs e fr hb
      rw [hw g _ hb]
      exact ht
    · cases ht
theorem itoa_c (n : Int) (h : Hp) (h0 : -9223372036854775808 ≤ n) (h1 : n ≤ 9223372036854775807) (ht : Tab10 h) : C0 Tryd.prog 55 [.int .i64 n] h (.string ⟨(Lib.itoa n).toArray⟩) := fun w hw => by
  refine (Tryd.strconv_Itoa n h0 h1 w (ht w hw)).mono fun e w' ⟨he, k, os, hg⟩ => ⟨he, Frm.of_below ?_⟩
  rw [hg]
  exact Lib.below_grow _ w (Nat.le_refl _) k os
end Go.Proofs.YtamifocfbcmfkaaDoor

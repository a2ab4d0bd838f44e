/- The laws on tokens: the example, TokenQuotes: the walks. Conditions: as each says. Printed by a program of this session. -/
import Derived.Test.YtdbeiaohibgmeaaFactsO
import Derived.Test.YtdbeiaohibgmeaaTokG
import Derived.Test.YtdbeiaohibgmeaaShownPure
set_option linter.unusedVariables false
set_option linter.unusedSimpArgs false
namespace Go.Proofs.Ytdbeiaohibgmeaa
open Go.RowKit Go.Proofs.Ytdbeiaohibgmeaa.E Go.Proofs.Ytdbeiaohibgmeaa.ReplP Go.Proofs.Ytdbeiaohibgmeaa.TokP
set_option maxRecDepth 100000 in
theorem shown05_c (h : Hp) : C0 Try.prog 7 [] h (.bool true) := by
  refine enter0 Try.func7 rfl rfl rfl (fun w => ?_)
  refine cy_seq ?_
  refine cy_region ?_
  refine sy_assign rfl rfl rfl ?_
  refine sy_nil rfl ?_
  refine ny_next ?_
  refine cy_seq ?_
  refine cy_region ?_
  refine sy_callx call_9 rfl (scan_c (⟨#[102, 111, 111, 40, 88, 44, 49, 50, 41, 46, 32, 37, 32, 120]⟩ : ByteArray) _) rfl rfl (fun x5 h5 hx5 hle5 => ?_)
  rw [show scanA (⟨#[102, 111, 111, 40, 88, 44, 49, 50, 41, 46, 32, 37, 32, 120]⟩ : ByteArray).data.toList = .ok shL from sh_scan] at hx5 ⊢
  obtain ⟨A5, c5⟩ := x5
  obtain ⟨hr5, _⟩ := hx5
  refine sy_move rfl rfl rfl ?_
  refine sy_extract rfl rfl rfl rfl ?_
  refine sy_extract rfl rfl rfl rfl ?_
  refine sy_extract rfl rfl rfl rfl ?_
  refine sy_assign rfl rfl rfl ?_
  refine sy_assign rfl rfl rfl ?_
  refine sy_assign rfl rfl rfl ?_
  refine sy_nil rfl ?_
  refine ny_next ?_
  refine cy_seq ?_
  refine cy_region ?_
  refine sy_move rfl rfl rfl ?_
  refine sy_eqn Try.underlying26 rfl rfl rfl rfl rfl ?_
  refine sy_move rfl rfl rfl ?_
  refine sy_setT (d := 11) rfl rfl (by first | rfl | decide | kernel_rfl) ?_
  refine sy_move rfl rfl rfl ?_
  refine sy_len rfl (len_slice Try.underlying24 A5 shL.length c5) rfl rfl ?_
  refine sy_cmp rfl rfl rfl rfl rfl ?_
  refine sy_pickT rfl rfl rfl rfl ?_
  refine sy_move rfl rfl rfl ?_
  refine sy_setT (d := 16) rfl rfl (by first | rfl | decide | kernel_rfl) ?_
  refine sy_move rfl rfl rfl ?_
  refine sy_idxR (i := 0) (fc := tkC) (es := shL) els_24 rfl rfl hr5 rfl (by decide) rfl rfl (fun e18 b18 o18 he18 hA18 hc18 => ?_)
  obtain rfl := Option.some.inj (show some (shL[0]) = some e18 from he18)
  refine sy_field fld_31_1 rfl rfl rfl ?_
  refine sy_ldh one_9 rfl (hc18 1 _ rfl) rfl rfl ?_
  refine sy_eqs rfl rfl rfl rfl ?_
  refine sy_pickT rfl rfl rfl rfl ?_
  refine sy_move rfl rfl rfl ?_
  refine sy_setT (d := 23) rfl rfl (by first | rfl | decide | kernel_rfl) ?_
  refine sy_move rfl rfl rfl ?_
  refine sy_idxR (i := 1) (fc := tkC) (es := shL) els_24 rfl rfl hr5 rfl (by decide) rfl rfl (fun e25 b25 o25 he25 hA25 hc25 => ?_)
  obtain rfl := Option.some.inj (show some (shL[1]) = some e25 from he25)
  refine sy_field fld_31_4 rfl rfl rfl ?_
  refine sy_ldh one_4 rfl (hc25 4 _ rfl) rfl rfl ?_
  refine sy_pickT rfl rfl rfl rfl ?_
  refine sy_move rfl rfl rfl ?_
  refine sy_setT (d := 29) rfl rfl (by first | rfl | decide | kernel_rfl) ?_
  refine sy_move rfl rfl rfl ?_
  refine sy_idxR (i := 4) (fc := tkC) (es := shL) els_24 rfl rfl hr5 rfl (by decide) rfl rfl (fun e31 b31 o31 he31 hA31 hc31 => ?_)
  obtain rfl := Option.some.inj (show some (shL[4]) = some e31 from he31)
  refine sy_field fld_31_2 rfl rfl rfl ?_
  refine sy_ldh one_2 rfl (hc31 2 _ rfl) rfl rfl ?_
  refine sy_cmp rfl rfl rfl rfl rfl ?_
  refine sy_pickT rfl rfl rfl rfl ?_
  refine sy_move rfl rfl rfl ?_
  refine sy_setT (d := 36) rfl rfl (by first | rfl | decide | kernel_rfl) ?_
  refine sy_move rfl rfl rfl ?_
  refine sy_idxR (i := 6) (fc := tkC) (es := shL) els_24 rfl rfl hr5 rfl (by decide) rfl rfl (fun e38 b38 o38 he38 hA38 hc38 => ?_)
  obtain rfl := Option.some.inj (show some (shL[6]) = some e38 from he38)
  refine sy_field fld_31_0 rfl rfl rfl ?_
  refine sy_ldh one_3 rfl (hc38 0 _ rfl) rfl rfl ?_
  refine sy_cmp rfl rfl rfl rfl rfl ?_
  refine sy_pickT rfl rfl rfl rfl ?_
  refine sy_move rfl rfl rfl ?_
  refine sy_setT (d := 43) rfl rfl (by first | rfl | decide | kernel_rfl) ?_
  refine sy_call rfl call_10 rfl (quote_c ⟨#[65, 39]⟩ _ _ (by decide) (fun h => plain_c _ h (by decide))) rfl rfl ?_
  refine sy_eqs rfl rfl rfl rfl ?_
  refine sy_setT (d := 45) rfl rfl (by kernel_rfl) ?_
  refine sy_pickT rfl rfl rfl rfl ?_
  refine sy_assign rfl rfl rfl ?_
  refine sy_nil rfl ?_
  refine ny_next ?_
  refine cy_ret ?_
  exact ny_finR (res1 rfl rfl) (fun w hs => ⟨rfl, hs.frm⟩)
end Go.Proofs.Ytdbeiaohibgmeaa

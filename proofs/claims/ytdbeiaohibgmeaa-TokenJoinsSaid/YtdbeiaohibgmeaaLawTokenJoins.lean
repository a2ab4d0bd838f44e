/- TokenJoins: for every two texts, with a new line between they are the tokens of both, if both may be; the law returns true. Conditions: none. -/
import Derived.Test.YtdbeiaohibgmeaaRows
import Derived.Test.YtdbeiaohibgmeaaRow
import Derived.Test.YtdbeiaohibgmeaaTokJ
import Derived.Test.YtdbeiaohibgmeaaRow
namespace Go.Proofs.Ytdbeiaohibgmeaa.tokenJoins
open Go.ChangeShapes Go.WideShapes Go.ChangeAt Go.RowKit Go.Proofs.Ytdbeiaohibgmeaa.E
open Go.ChangeMaps (open_string shut_string)
open Go.Proofs.Ytdbeiaohibgmeaa.TokP
set_option linter.unusedVariables false
theorem own : ownKnob Try.prog.godebug = none := by kernel_rfl
set_option maxRecDepth 100000 in
theorem lifted (os : Os) (started : os.Started) (H : Type) (enc : TypeId × Value → H) :
    ReturnsInHanded {} Try.checked os 4 .any (Rows.tokenJoinsSpec.pre6 enc Try.prog Try.f4 Rows.tokenJoinsRow.domain false) (Rows.tokenJoinsSpec.post enc Try.prog Try.f4 false true false false) := by
  refine returnsInHanded_of_change (C := Try.checked) own started (by kernel_rfl) Try.func4
    (ChangeSpec.witness6 (enc := enc) (C := Try.checked) false ⟨#[], #[.string ByteArray.empty, .string ByteArray.empty], []⟩ 8 (by kernel_rfl) (by kernel_rfl) (by kernel_rfl) (by kernel_rfl)) ?_
  intro W base args ds gs before hval0 hW hcnd hreach
  have hval : ∀ (j : Nat) t v, Try.f4.params[j]? = some t → args[j]? = some v → Value.okWide Try.prog W .any base t v := hval0
  have hW' := hW
  obtain ⟨p, q, hA0, hV, hpq, hfz, hnd⟩ := hW
  obtain ⟨rfl, rfl⟩ := trodVars_none hV
  have hA : DataW.TrodAll enc Try.prog W 0 (fun _ => true) true Try.f4.params.toList args.toList ds p := hA0
  rw [Try.params4] at hA hval
  obtain ⟨v0, vs0, d0, ds0, p0, q0, hargs0, hds0, hp0, h0, r0⟩ := trodAll_cons hA
  obtain ⟨v1, vs1, d1, ds1, p1, q1, hargs1, hds1, hp1, h1, r1⟩ := trodAll_cons r0
  obtain ⟨hl1, hl2, hl3⟩ := trodAll_nil r1
  obtain rfl : args = #[v0, v1] := by
    cases args
    simp_all
  obtain rfl : ds = [d0, d1] := by simp_all
  obtain ⟨a0, rfl, rfl, _, w0⟩ := open_string Try.underlying9 (hval 0 9 v0 rfl rfl) h0
  obtain ⟨a1, rfl, rfl, _, w1⟩ := open_string Try.underlying9 (hval 1 9 v1 rfl rfl) h1
  refine ((joins_c a0 a1 _) W (hpOf_sub W)).mono fun e W' ⟨he, hf⟩ => ⟨_, he, law_post (by kernel_rfl) rfl Try.underlying4 rfl rfl rfl rfl hW' hf.below⟩
theorem over : Rows.tokenJoinsRow.holds Try.pinned (OpenSpec.ofChange Rows.tokenJoinsSpec) :=
  OpenClaim.holds_of_wide 4 Try.f4 rfl rfl rfl rfl rfl rfl rfl ⟨rfl, rfl, rfl, rfl, rfl⟩ rfl rfl rfl rfl rfl (by kernel_rfl) Try.func4 (by kernel_rfl)
    (of_decide_eq_true (by kernel_rfl)) (by unfold Func.isWrapper; first | (rw [if_pos (by decide +kernel)]; kernel_rfl) | (rw [if_neg (by decide +kernel)]; exact ⟨rfl, rfl⟩))
    (fun os started H enc _ => lifted os started H enc)
theorem proved : Rows.TokenJoinsSaid :=
  over
#print axioms proved
end Go.Proofs.Ytdbeiaohibgmeaa.tokenJoins

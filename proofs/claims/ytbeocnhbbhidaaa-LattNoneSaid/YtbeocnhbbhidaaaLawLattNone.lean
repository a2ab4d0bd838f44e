/- LattNone: for every number of levels, levels that nothing is said of are no lattice, with one above and one below all they are; the law returns true. Conditions: none. -/
import Derived.Test.YtbeocnhbbhidaaaRows
import Derived.Test.YtbeocnhbbhidaaaRow
import Derived.Test.YtbeocnhbbhidaaaLattD
import Derived.Test.YtbeocnhbbhidaaaRow
namespace Go.Proofs.Ytbeocnhbbhidaaa.lattNone
open Go.ChangeShapes Go.WideShapes Go.ChangeAt Go.RowKit Go.Proofs.Ytbeocnhbbhidaaa.E
open Go.ChangeMaps (open_string shut_string)
open Go.Proofs.Ytbeocnhbbhidaaa.LattP
set_option linter.unusedVariables false
theorem own : ownKnob Try.prog.godebug = none := by kernel_rfl
set_option maxRecDepth 100000 in
theorem lifted (os : Os) (started : os.Started) (H : Type) (enc : TypeId × Value → H) :
    ReturnsInHanded {} Try.checked os 15 .any (Rows.lattNoneSpec.pre6 enc Try.prog Try.f15 Rows.lattNoneRow.domain false) (Rows.lattNoneSpec.post enc Try.prog Try.f15 false true false false) := by
  refine returnsInHanded_of_change (C := Try.checked) own started (by kernel_rfl) Try.func15
    (ChangeSpec.witness6 (enc := enc) (C := Try.checked) false ⟨#[], #[.int .u8 0], []⟩ 8 (by kernel_rfl) (by kernel_rfl) (by kernel_rfl) (by kernel_rfl)) ?_
  intro W base args ds gs before hval0 hW hcnd hreach
  have hval : ∀ (j : Nat) t v, Try.f15.params[j]? = some t → args[j]? = some v → Value.okWide Try.prog W .any base t v := hval0
  have hW' := hW
  obtain ⟨p, q, hA0, hV, hpq, hfz, hnd⟩ := hW
  obtain ⟨rfl, rfl⟩ := trodVars_none hV
  have hA : DataW.TrodAll enc Try.prog W 0 (fun _ => true) true Try.f15.params.toList args.toList ds p := hA0
  rw [Try.params15] at hA hval
  obtain ⟨v0, vs0, d0, ds0, p0, q0, hargs0, hds0, hp0, h0, r0⟩ := trodAll_cons hA
  obtain ⟨hl1, hl2, hl3⟩ := trodAll_nil r0
  obtain rfl : args = #[v0] := by
    cases args
    simp_all
  obtain rfl : ds = [d0] := by simp_all
  obtain ⟨a0, rfl, rfl, _, w0⟩ := open_int Try.underlying5 (hval 0 5 v0 rfl rfl) h0
  obtain ⟨c0, rfl⟩ := u8_of_wf w0
  refine ((none_c c0 _) W (hpOf_sub W)).mono fun e W' ⟨he, hf⟩ => ⟨_, he, law_post (by kernel_rfl) rfl Try.underlying4 rfl rfl rfl rfl hW' hf.below⟩
theorem over : Rows.lattNoneRow.holds Try.pinned (OpenSpec.ofChange Rows.lattNoneSpec) :=
  OpenClaim.holds_of_wide 15 Try.f15 rfl rfl rfl rfl rfl rfl rfl ⟨rfl, rfl, rfl, rfl, rfl⟩ rfl rfl rfl rfl rfl (by kernel_rfl) Try.func15 (by kernel_rfl)
    (of_decide_eq_true (by kernel_rfl)) (by unfold Func.isWrapper; first | (rw [if_pos (by decide +kernel)]; kernel_rfl) | (rw [if_neg (by decide +kernel)]; exact ⟨rfl, rfl⟩))
    (fun os started H enc _ => lifted os started H enc)
theorem proved : Rows.LattNoneSaid :=
  over
#print axioms proved
end Go.Proofs.Ytbeocnhbbhidaaa.lattNone

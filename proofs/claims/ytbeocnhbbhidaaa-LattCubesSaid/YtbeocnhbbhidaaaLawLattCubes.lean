/- LattCubes: for every number of things and two sets of them, sets are a lattice; the law returns true. Conditions: none. -/
import Derived.Test.YtbeocnhbbhidaaaRows
import Derived.Test.YtbeocnhbbhidaaaRow
import Derived.Test.YtbeocnhbbhidaaaLattE
import Derived.Test.YtbeocnhbbhidaaaRow
namespace Go.Proofs.Ytbeocnhbbhidaaa.lattCubes
open Go.ChangeShapes Go.WideShapes Go.ChangeAt Go.RowKit Go.Proofs.Ytbeocnhbbhidaaa.E
open Go.ChangeMaps (open_string shut_string)
open Go.Proofs.Ytbeocnhbbhidaaa.LattP
set_option linter.unusedVariables false
theorem own : ownKnob Try.prog.godebug = none := by kernel_rfl
set_option maxRecDepth 100000 in
theorem lifted (os : Os) (started : os.Started) (H : Type) (enc : TypeId × Value → H) :
    ReturnsInHanded {} Try.checked os 14 .any (Rows.lattCubesSpec.pre6 enc Try.prog Try.f14 Rows.lattCubesRow.domain false) (Rows.lattCubesSpec.post enc Try.prog Try.f14 false true false false) := by
  refine returnsInHanded_of_change (C := Try.checked) own started (by kernel_rfl) Try.func14
    (ChangeSpec.witness6 (enc := enc) (C := Try.checked) false ⟨#[], #[.int .u8 0, .int .u8 0, .int .u8 0], []⟩ 8 (by kernel_rfl) (by kernel_rfl) (by kernel_rfl) (by kernel_rfl)) ?_
  intro W base args ds gs before hval0 hW hcnd hreach
  have hval : ∀ (j : Nat) t v, Try.f14.params[j]? = some t → args[j]? = some v → Value.okWide Try.prog W .any base t v := hval0
  have hW' := hW
  obtain ⟨p, q, hA0, hV, hpq, hfz, hnd⟩ := hW
  obtain ⟨rfl, rfl⟩ := trodVars_none hV
  have hA : DataW.TrodAll enc Try.prog W 0 (fun _ => true) true Try.f14.params.toList args.toList ds p := hA0
  rw [Try.params14] at hA hval
  obtain ⟨v0, vs0, d0, ds0, p0, q0, hargs0, hds0, hp0, h0, r0⟩ := trodAll_cons hA
  obtain ⟨v1, vs1, d1, ds1, p1, q1, hargs1, hds1, hp1, h1, r1⟩ := trodAll_cons r0
  obtain ⟨v2, vs2, d2, ds2, p2, q2, hargs2, hds2, hp2, h2, r2⟩ := trodAll_cons r1
  obtain ⟨hl1, hl2, hl3⟩ := trodAll_nil r2
  obtain rfl : args = #[v0, v1, v2] := by
    cases args
    simp_all
  obtain rfl : ds = [d0, d1, d2] := by simp_all
  obtain ⟨a0, rfl, rfl, _, w0⟩ := open_int Try.underlying5 (hval 0 5 v0 rfl rfl) h0
  obtain ⟨a1, rfl, rfl, _, w1⟩ := open_int Try.underlying5 (hval 1 5 v1 rfl rfl) h1
  obtain ⟨a2, rfl, rfl, _, w2⟩ := open_int Try.underlying5 (hval 2 5 v2 rfl rfl) h2
  obtain ⟨c0, rfl⟩ := u8_of_wf w0
  obtain ⟨c1, rfl⟩ := u8_of_wf w1
  obtain ⟨c2, rfl⟩ := u8_of_wf w2
  refine ((cubes_c c0 c1 c2 _) W (hpOf_sub W)).mono fun e W' ⟨he, hf⟩ => ⟨_, he, law_post (by kernel_rfl) rfl Try.underlying4 rfl rfl rfl rfl hW' hf.below⟩
theorem over : Rows.lattCubesRow.holds Try.pinned (OpenSpec.ofChange Rows.lattCubesSpec) :=
  OpenClaim.holds_of_wide 14 Try.f14 rfl rfl rfl rfl rfl rfl rfl ⟨rfl, rfl, rfl, rfl, rfl⟩ rfl rfl rfl rfl rfl (by kernel_rfl) Try.func14 (by kernel_rfl)
    (of_decide_eq_true (by kernel_rfl)) (by unfold Func.isWrapper; first | (rw [if_pos (by decide +kernel)]; kernel_rfl) | (rw [if_neg (by decide +kernel)]; exact ⟨rfl, rfl⟩))
    (fun os started H enc _ => lifted os started H enc)
theorem proved : Rows.LattCubesSaid :=
  over
#print axioms proved
end Go.Proofs.Ytbeocnhbbhidaaa.lattCubes

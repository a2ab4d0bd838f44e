/- LattOrders: for every number of levels and pairs, what New answers, and order, join, meet, bottom and top of any two numbers, are the document's; the law returns true. Conditions: none. -/
import Derived.Test.YtbeocnhbbhidaaaRows
import Derived.Test.YtbeocnhbbhidaaaRow
import Derived.Test.YtbeocnhbbhidaaaLattS
import Derived.Test.YtbeocnhbbhidaaaRowPairs
namespace Go.Proofs.Ytbeocnhbbhidaaa.lattOrders
open Go.ChangeShapes Go.WideShapes Go.ChangeAt Go.RowKit Go.Proofs.Ytbeocnhbbhidaaa.E
open Go.ChangeMaps (open_string shut_string)
open Go.Proofs.Ytbeocnhbbhidaaa.LattP
set_option linter.unusedVariables false
theorem own : ownKnob Try.prog.godebug = none := by kernel_rfl
set_option maxRecDepth 100000 in
theorem lifted (os : Os) (started : os.Started) (H : Type) (enc : TypeId × Value → H) :
    ReturnsInHanded {} Try.checked os 11 .any (Rows.lattOrdersSpec.pre6 enc Try.prog Try.f11 Rows.lattOrdersRow.domain false) (Rows.lattOrdersSpec.post enc Try.prog Try.f11 false true false false) := by
  refine returnsInHanded_of_change (C := Try.checked) own started (by kernel_rfl) Try.func11
    (ChangeSpec.witness6 (enc := enc) (C := Try.checked) false ⟨#[], #[.int .i64 0, .slice none 0 0, .int .i64 0, .int .i64 0], []⟩ 8 (by kernel_rfl) (by kernel_rfl) (by kernel_rfl) (by kernel_rfl)) ?_
  intro W base args ds gs before hval0 hW hcnd hreach
  have hval : ∀ (j : Nat) t v, Try.f11.params[j]? = some t → args[j]? = some v → Value.okWide Try.prog W .any base t v := hval0
  have hW' := hW
  obtain ⟨p, q, hA0, hV, hpq, hfz, hnd⟩ := hW
  obtain ⟨rfl, rfl⟩ := trodVars_none hV
  have hA : DataW.TrodAll enc Try.prog W 0 (fun _ => true) true Try.f11.params.toList args.toList ds p := hA0
  rw [Try.params11] at hA hval
  obtain ⟨v0, vs0, d0, ds0, p0, q0, hargs0, hds0, hp0, h0, r0⟩ := trodAll_cons hA
  obtain ⟨v1, vs1, d1, ds1, p1, q1, hargs1, hds1, hp1, h1, r1⟩ := trodAll_cons r0
  obtain ⟨v2, vs2, d2, ds2, p2, q2, hargs2, hds2, hp2, h2, r2⟩ := trodAll_cons r1
  obtain ⟨v3, vs3, d3, ds3, p3, q3, hargs3, hds3, hp3, h3, r3⟩ := trodAll_cons r2
  obtain ⟨hl1, hl2, hl3⟩ := trodAll_nil r3
  obtain rfl : args = #[v0, v1, v2, v3] := by
    cases args
    simp_all
  obtain rfl : ds = [d0, d1, d2, d3] := by simp_all
  obtain ⟨a0, rfl, rfl, _, w0⟩ := open_int Try.underlying3 (hval 0 3 v0 rfl rfl) h0
  obtain ⟨A1, l1, cp1, q1, rfl, hlc1, hm1, hql1, hq1⟩ := open_pairs Try.underlying36 Try.underlying46 Try.underlying3 (by kernel_rfl) (by kernel_rfl) (hval 1 36 v1 rfl rfl) h1
  obtain ⟨a2, rfl, rfl, _, w2⟩ := open_int Try.underlying3 (hval 2 3 v2 rfl rfl) h2
  obtain ⟨a3, rfl, rfl, _, w3⟩ := open_int Try.underlying3 (hval 3 3 v3 rfl rfl) h3
  refine ((orders_c a0 A1 l1 cp1 (min l1 100) (q1.take 100) a2 a3 _ hlc1 rfl (hq1.take 100) (by rw [List.length_take, hql1, Nat.min_comm])) W (hpOf_sub W)).mono fun e W' ⟨he, hf⟩ => ⟨_, he, law_post (by kernel_rfl) rfl Try.underlying4 rfl rfl rfl rfl hW' hf.below⟩
theorem over : Rows.lattOrdersRow.holds Try.pinned (OpenSpec.ofChange Rows.lattOrdersSpec) :=
  OpenClaim.holds_of_wide 11 Try.f11 rfl rfl rfl rfl rfl rfl rfl ⟨rfl, rfl, rfl, rfl, rfl⟩ rfl rfl rfl rfl rfl (by kernel_rfl) Try.func11 (by kernel_rfl)
    (of_decide_eq_true (by kernel_rfl)) (by unfold Func.isWrapper; first | (rw [if_pos (by decide +kernel)]; kernel_rfl) | (rw [if_neg (by decide +kernel)]; exact ⟨rfl, rfl⟩))
    (fun os started H enc _ => lifted os started H enc)
theorem proved : Rows.LattOrdersSaid :=
  over
#print axioms proved
end Go.Proofs.Ytbeocnhbbhidaaa.lattOrders

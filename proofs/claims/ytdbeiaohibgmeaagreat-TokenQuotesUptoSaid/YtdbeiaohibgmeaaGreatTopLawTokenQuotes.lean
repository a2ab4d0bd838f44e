/- TokenQuotes: for every text of at most 2^20 values and letters, whether a name needs no marks, and how it stands in a text, is as the document says; the law returns true. Conditions: the size alone. -/
import Derived.Test.YtdbeiaohibgmeaaGreatRows
import Derived.Stop.Joined
import Derived.Test.YtdbeiaohibgmeaaGreatMc
namespace Go.Proofs.YtdbeiaohibgmeaaGreat.tokenQuotes
open Go.ChangeShapes Go.WideShapes Go.ChangeAt Go.RowKit Go.Proofs.YtdbeiaohibgmeaaGreat.E
open Go.ChangeMaps (open_string shut_string)
open Go.Proofs.YtdbeiaohibgmeaaGreat.TokP
set_option linter.unusedVariables false
theorem own : ownKnob Tryz.prog.godebug = none := by kernel_rfl
theorem reads (os : Os) {H : Type} (enc : TypeId × Value → H) : ∃ places, DataW.whole enc Tryz.prog ((World.holding Tryz.prog os ⟨#[], #[.string ByteArray.empty], []⟩).forCall (fun _ _ => 0) ⟨#[], #[.string ByteArray.empty], []⟩).memory Tryz.f3.params.toList Rows.tokenQuotesSpec.vars false (#[.string ByteArray.empty] : Array Value).toList 8 = some ([.lit (.string [])], [], places) := ⟨[], by kernel_rfl⟩
set_option maxRecDepth 100000 in
theorem lifted (os : Os) (started : os.Started) (H : Type) (enc : TypeId × Value → H) (F : Stop.Interp) :
    ReturnsInHanded {} Tryz.checked os 3 .any ((Rows.OpenSpec.upto Rows.tokenQuotesSpec).preRow enc Tryz.prog Tryz.f3 Rows.tokenQuotesUptoRow.domain false Rows.tokenQuotesUptoRow.laid) (((Rows.OpenSpec.upto Rows.tokenQuotesSpec).at F).post enc Tryz.prog Tryz.f3 false true false false) := by
  obtain ⟨places, hx⟩ := reads os enc
  refine returnsInHanded_of_row (C := Tryz.checked) (s := Rows.OpenSpec.upto Rows.tokenQuotesSpec) own started (by kernel_rfl) Tryz.func3
    (witness_row_shaped (enc := enc) (C := Tryz.checked) false (World.holding Tryz.prog os ⟨#[], #[.string ByteArray.empty], []⟩) #[.string ByteArray.empty] rfl (World.shaped_of_B (by kernel_rfl) (by kernel_rfl)) (by kernel_rfl)
      (OpenSpec.preRow_of_cond 8 hx (by kernel_rfl) (fun k hk => by cases hk; kernel_rfl) (by kernel_rfl) (laidMetH_nil _ _))) ?_
  intro W base args ds gs before hval0 hW _ hcond hsz hL _ _
  have hval : ∀ (j : Nat) t v, Tryz.f3.params[j]? = some t → args[j]? = some v → Value.okWide Tryz.prog W .any base t v := hval0
  have hW' := hW
  obtain ⟨p, q, hA0, hV, hpq, hfz, hnd⟩ := hW
  obtain ⟨rfl, rfl⟩ := trodVars_none hV
  have hA : DataW.TrodAll enc Tryz.prog W 0 (fun _ => true) true Tryz.f3.params.toList args.toList ds p := hA0
  rw [Tryz.params3] at hA hval hsz
  obtain ⟨v0, vs0, d0, ds0, p0, q0, hargs0, hds0, hp0, h0, r0⟩ := trodAll_cons hA
  obtain ⟨hl1, hl2, hl3⟩ := trodAll_nil r0
  obtain rfl : args = #[v0] := by cases args; simp_all
  obtain rfl : ds = [d0] := by simp_all
  obtain ⟨a0, rfl, rfl, _, w0⟩ := open_string Tryz.underlying9 (hval 0 9 v0 rfl rfl) h0
  have hbk := hcond _ rfl
  have hbz : a0.size ≤ 70368744177600 := by
      have h9 := bulk_at hbk 0 _ rfl
      simp only [Rows.uptoBulk] at h9
      have h8 : a0.data.toList.length = a0.size := rfl
      omega
  refine ((quotes_c a0 _ hbz) W (hpOf_sub W)).mono fun e W' ⟨he, hf⟩ => ⟨_, he, law_post (by kernel_rfl) rfl Tryz.underlying4 rfl rfl rfl rfl hW' hf.below⟩
theorem over : Rows.TokenQuotesUptoSaid :=
  OpenClaim.holds_of_cond 3 Tryz.f3 rfl rfl rfl rfl rfl rfl rfl ⟨rfl, rfl, rfl, rfl, rfl⟩ rfl rfl rfl rfl rfl (by kernel_rfl) Tryz.func3 (by kernel_rfl)
    (of_decide_eq_true (by kernel_rfl)) (by unfold Func.isWrapper; first | (rw [if_pos (by decide +kernel)]; kernel_rfl) | (rw [if_neg (by decide +kernel)]; exact ⟨rfl, rfl⟩))
    (fun os started H enc _ F => by rw [OpenClaim.pre_eq_preRow]; exact lifted os started H enc F)
theorem proved : Rows.TokenQuotesUptoSaid := over
#print axioms proved
end Go.Proofs.YtdbeiaohibgmeaaGreat.tokenQuotes

/- WriterNames: for every two names and number, names are written without breaks, without blanks but in marks, alike just if they are the same, and unlike a number or a variable; the law returns true. Conditions: the bound of the narrowed statement. -/
import Derived.Test.YtanhhihechakhaaGreatDoorRows
import Derived.Test.YtanhhihechakhaaGreatDoorTie
import Derived.Test.YtanhhihechakhaaGreatDoorCards
import Derived.SevenTiedAt
import Derived.Test.YtanhhihechakhaaGreatDoorMe
namespace Go.Proofs.YtanhhihechakhaaGreatDoor.writerNames
open Go.ChangeShapes Go.WideShapes Go.ChangeAt Go.RowKit Go.Proofs.YtanhhihechakhaaGreatDoor.E
open Go.ChangeMaps (open_string shut_string)
open Go.Proofs.YtanhhihechakhaaGreatDoor.TermP Go.Proofs.YtanhhihechakhaaGreatDoor.WrP Go.Proofs.YtanhhihechakhaaGreatDoor.TokP
set_option linter.unusedVariables false
theorem reads (os : Os) {H : Type} (enc : TypeId × Value → H) : ∃ places, DataW.whole enc Tryz.prog ((World.doorLaid Tryz.prog 400 os).forCall (fun _ _ => 0) ⟨#[], #[.string ByteArray.empty, .string ByteArray.empty, .int .i64 0], []⟩).memory Tryz.f7.params.toList Rows.writerNamesSpec.vars false (#[.string ByteArray.empty, .string ByteArray.empty, .int .i64 0] : Array Value).toList 8 = some ([.lit (.string []), .lit (.string []), .lit (.int .i64 0)], [], places) := ⟨[], by kernel_rfl⟩
set_option maxRecDepth 100000 in
theorem lifted (os : Os) (started : os.Started) (H : Type) (enc : TypeId × Value → H) (F : Stop.Interp) :
    ReturnsInHanded {} Tryz.checked os 7 .any ((Rows.OpenSpec.upto Rows.writerNamesSpec).preRow enc Tryz.prog Tryz.f7 Rows.writerNamesUptoRow.domain false Rows.writerNamesUptoRow.laid) (((Rows.OpenSpec.upto Rows.writerNamesSpec).at F).post enc Tryz.prog Tryz.f7 false true false false) := by
  obtain ⟨places, hx⟩ := reads os enc
  refine returnsInHanded_of_row (C := Tryz.checked) (s := Rows.OpenSpec.upto Rows.writerNamesSpec) own started (by kernel_rfl) Tryz.func7
    (witness_row_shaped (enc := enc) (C := Tryz.checked) false (World.doorLaid Tryz.prog 400 os) #[.string ByteArray.empty, .string ByteArray.empty, .int .i64 0] rfl (World.shaped_of_RefB (by kernel_rfl) (by kernel_rfl)) (by kernel_rfl)
      (OpenSpec.preRow_of_cond 8 hx (by kernel_rfl) (fun k hk => by cases hk; kernel_rfl) (by kernel_rfl) (door_met os _))) ?_
  intro W base args ds gs before hval0 hW _ hcond hsz hL _ _
  have hval : ∀ (j : Nat) t v, Tryz.f7.params[j]? = some t → args[j]? = some v → Value.okWide Tryz.prog W .any base t v := hval0
  have ht := tab_of hL
  have hW' := hW
  obtain ⟨p, q, hA0, hV, hpq, hfz, hnd⟩ := hW
  obtain ⟨rfl, rfl⟩ := trodVars_none hV
  have hA : DataW.TrodAll enc Tryz.prog W 0 (fun _ => true) true Tryz.f7.params.toList args.toList ds p := hA0
  rw [Tryz.params7] at hA hval hsz
  obtain ⟨v0, vs0, d0, ds0, p0, q0, hargs0, hds0, hp0, h0, r0⟩ := trodAll_cons hA
  obtain ⟨v1, vs1, d1, ds1, p1, q1, hargs1, hds1, hp1, h1, r1⟩ := trodAll_cons r0
  obtain ⟨v2, vs2, d2, ds2, p2, q2, hargs2, hds2, hp2, h2, r2⟩ := trodAll_cons r1
  obtain ⟨hl1, hl2, hl3⟩ := trodAll_nil r2
  obtain rfl : args = #[v0, v1, v2] := by cases args; simp_all
  obtain rfl : ds = [d0, d1, d2] := by simp_all
  obtain ⟨a0, rfl, rfl, _, w0⟩ := open_string Tryz.underlying9 (hval 0 9 v0 rfl rfl) h0
  obtain ⟨a1, rfl, rfl, _, w1⟩ := open_string Tryz.underlying9 (hval 1 9 v1 rfl rfl) h1
  obtain ⟨a2, rfl, rfl, _, w2⟩ := open_int Tryz.underlying2 (hval 2 2 v2 rfl rfl) h2
  have hbk := hcond _ rfl
  have hz0 : a0.size ≤ 1048576 := by
      have h9 := bulk_at hbk 0 _ rfl
      simp only [Rows.uptoBulk] at h9
      have h8 : a0.data.toList.length = a0.size := rfl
      omega
  have hz1 : a1.size ≤ 1048576 := by
      have h9 := bulk_at hbk 1 _ rfl
      simp only [Rows.uptoBulk] at h9
      have h8 : a1.data.toList.length = a1.size := rfl
      omega
  refine ((names08_c a0 a1 a2 _ (by omega) (by omega) (bounds_i64 w2).1 (bounds_i64 w2).2 ht) W (hpOf_sub W)).mono fun e W' ⟨he, hf⟩ => ⟨_, he, law_post (by kernel_rfl) rfl Tryz.underlying4 rfl rfl rfl rfl hW' hf.below⟩
theorem over : Rows.WriterNamesUptoSaid :=
  OpenClaim.holds_of_cond 7 Tryz.f7 rfl rfl rfl rfl rfl rfl rfl ⟨rfl, rfl, rfl, rfl, rfl⟩ rfl rfl rfl rfl rfl (by kernel_rfl) Tryz.func7 (by kernel_rfl)
    (of_decide_eq_true (by kernel_rfl)) (by unfold Func.isWrapper; first | (rw [if_pos (by decide +kernel)]; kernel_rfl) | (rw [if_neg (by decide +kernel)]; exact ⟨rfl, rfl⟩))
    (fun os started H enc _ F => by rw [OpenClaim.pre_eq_preRow]; exact lifted os started H enc F)
theorem proved : Rows.WriterNamesUptoCardSaid :=
  Claim7.holds_tied_plain_at .later [] _ _ _ _ over (fun _ h => by cases h) (by kernel_rfl) (fun _ h => by cases h) writerNamesUpto_row_tie rfl ⟨rfl, rfl⟩ (by kernel_rfl) rfl
    (fun f fn hf hfn => by
      obtain rfl : f = 7 := Option.some.inj ((show Tryz.prog.funcNamed "torchere/torcherelaw08.WriterNames" = some 7 by kernel_rfl).symm.trans hf) |>.symm
      obtain rfl : fn = Tryz.f7 := (Option.some.inj (Tryz.func7.symm.trans hfn)).symm
      exact ⟨by kernel_rfl, fun j t ht => by
        rw [Tryz.params7] at ht
        have hm : t ∈ [9, 9, 2] := by simpa using Array.mem_of_getElem? ht
        have hall : ([9, 9, 2].all fun u => !Tryz.prog.wantsStandIn u) = true := by kernel_rfl
        exact (show Tryz.prog.wantsStandIn t = false by simpa using List.all_eq_true.1 hall t hm)⟩)
    (by kernel_rfl)
#print axioms proved
end Go.Proofs.YtanhhihechakhaaGreatDoor.writerNames

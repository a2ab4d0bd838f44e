/- ChannelTexts: for all events, texts are told one for each event, with other levels the same, of rows one behind the other those of both; the law returns true. Conditions: the bound of the narrowed statement. -/
import Derived.Test.YtamifocfbcmfkaaDoorRows
import Derived.Test.YtamifocfbcmfkaaDoorTie
import Derived.Test.YtamifocfbcmfkaaDoorCards
import Derived.Test.YtamifocfbcmfkaaDoorCards0
import Derived.Test.YtamifocfbcmfkaaDoorRowBulk
import Derived.Test.YtamifocfbcmfkaaDoorChanE
import Derived.Test.YtamifocfbcmfkaaDoorRowChan
import Derived.SevenTiedAt
namespace Go.Proofs.YtamifocfbcmfkaaDoor.channelTexts
open Go.ChangeShapes Go.WideShapes Go.ChangeAt Go.RowKit Go.Proofs.YtamifocfbcmfkaaDoor.E
open Go.ChangeMaps (open_string shut_string)
open Go.Proofs.YtamifocfbcmfkaaDoor.LattP Go.Proofs.YtamifocfbcmfkaaDoor.ChanP
set_option linter.unusedVariables false
theorem reads (os : Os) {H : Type} (enc : TypeId × Value → H) : ∃ places, DataW.whole enc Tryd.prog ((World.doorLaid Tryd.prog 400 os).forCall (fun _ _ => 0) ⟨#[], #[.slice none 0 0, .slice none 0 0, .int .i64 0], []⟩).memory Tryd.f13.params.toList Rows.channelTextsSpec.vars false (#[.slice none 0 0, .slice none 0 0, .int .i64 0] : Array Value).toList 8 = some ([.nil, .nil, .lit (.int .i64 0)], [], places) := ⟨[], by kernel_rfl⟩
set_option maxRecDepth 100000 in
theorem lifted (os : Os) (started : os.Started) (H : Type) (enc : TypeId × Value → H) (F : Stop.Interp) :
    ReturnsInHanded {} Tryd.checked os 13 .any ((Rows.OpenSpec.upto Rows.channelTextsSpec).preRow enc Tryd.prog Tryd.f13 Rows.channelTextsUptoRow.domain false Rows.channelTextsUptoRow.laid) (((Rows.OpenSpec.upto Rows.channelTextsSpec).at F).post enc Tryd.prog Tryd.f13 false true false false) := by
  obtain ⟨places, hx⟩ := reads os enc
  refine returnsInHanded_of_row (C := Tryd.checked) (s := Rows.OpenSpec.upto Rows.channelTextsSpec) own started (by kernel_rfl) Tryd.func13
    (witness_row_shaped (enc := enc) (C := Tryd.checked) false (World.doorLaid Tryd.prog 400 os) #[.slice none 0 0, .slice none 0 0, .int .i64 0] rfl (World.shaped_of_RefB (by kernel_rfl) (by kernel_rfl)) (by kernel_rfl)
      (OpenSpec.preRow_of_cond 8 hx (by kernel_rfl) (fun k hk => by cases hk; kernel_rfl) (by kernel_rfl) (door_met3 os _))) ?_
  intro W base args ds gs before hval0 hW _ hcond hsz hL _ _
  have hval : ∀ (j : Nat) t v, Tryd.f13.params[j]? = some t → args[j]? = some v → Value.okWide Tryd.prog W .any base t v := hval0
  have ht := tab_of_3 hL
  have hW' := hW
  obtain ⟨p, q, hA0, hV, hpq, hfz, hnd⟩ := hW
  obtain ⟨rfl, rfl⟩ := trodVars_none hV
  have hA : DataW.TrodAll enc Tryd.prog W 0 (fun _ => true) true Tryd.f13.params.toList args.toList ds p := hA0
  rw [Tryd.params13] at hA hval hsz
  obtain ⟨v0, vs0, d0, ds0, p0, q0, hargs0, hds0, hp0, h0, r0⟩ := trodAll_cons hA
  obtain ⟨v1, vs1, d1, ds1, p1, q1, hargs1, hds1, hp1, h1, r1⟩ := trodAll_cons r0
  obtain ⟨v2, vs2, d2, ds2, p2, q2, hargs2, hds2, hp2, h2, r2⟩ := trodAll_cons r1
  obtain ⟨hl1, hl2, hl3⟩ := trodAll_nil r2
  obtain rfl : args = #[v0, v1, v2] := by cases args; simp_all
  obtain rfl : ds = [d0, d1, d2] := by simp_all
  obtain ⟨A0, l0, cp0, es0, rfl, hlc0, hle0, hE0, hok0, hby0⟩ := open_evs Tryd.underlying59 Tryd.underlying65 (by kernel_rfl) ⟨rfl, rfl⟩ ⟨rfl, rfl⟩ ⟨rfl, rfl⟩ Tryd.underlying3 (by kernel_rfl) Tryd.underlying9 (by kernel_rfl) (by kernel_rfl) (hval 0 59 v0 rfl rfl) h0 (wt_each (wt_of hsz) 0 59 d0 rfl rfl)
  have hB0 : l0 * 32 ≤ 140737488355328 := by simp only [reachBytes] at hby0; omega
  obtain ⟨A1, l1, cp1, es1, rfl, hlc1, hle1, hE1, hok1, hby1⟩ := open_evs Tryd.underlying59 Tryd.underlying65 (by kernel_rfl) ⟨rfl, rfl⟩ ⟨rfl, rfl⟩ ⟨rfl, rfl⟩ Tryd.underlying3 (by kernel_rfl) Tryd.underlying9 (by kernel_rfl) (by kernel_rfl) (hval 1 59 v1 rfl rfl) h1 (wt_each (wt_of hsz) 1 59 d1 rfl rfl)
  have hB1 : l1 * 32 ≤ 140737488355328 := by simp only [reachBytes] at hby1; omega
  obtain ⟨a2, rfl, rfl, _, w2⟩ := open_int Tryd.underlying3 (hval 2 3 v2 rfl rfl) h2
  have hbk := hcond _ rfl
  refine ((texts_law a2 (bounds_i64 w2).1 (bounds_i64 w2).2 _ ht A0 l0 cp0 es0 hE0 hle0 (Nat.le_trans (bulk_slice Tryd.underlying59 h0) (bulk_at hbk 0 _ rfl)) hok0 A1 l1 cp1 es1 hE1 hle1 (Nat.le_trans (bulk_slice Tryd.underlying59 h1) (bulk_at hbk 1 _ rfl)) hok1) W (hpOf_sub W)).mono fun e W' ⟨he, hf⟩ => ⟨_, he, law_post (by kernel_rfl) rfl Tryd.underlying4 rfl rfl rfl rfl hW' hf.below⟩
theorem over : Rows.ChannelTextsUptoSaid :=
  OpenClaim.holds_of_cond 13 Tryd.f13 rfl rfl rfl rfl rfl rfl rfl ⟨rfl, rfl, rfl, rfl, rfl⟩ rfl rfl rfl rfl rfl (by kernel_rfl) Tryd.func13 (by kernel_rfl)
    (of_decide_eq_true (by kernel_rfl)) (by unfold Func.isWrapper; first | (rw [if_pos (by decide +kernel)]; kernel_rfl) | (rw [if_neg (by decide +kernel)]; exact ⟨rfl, rfl⟩))
    (fun os started H enc _ F => by rw [OpenClaim.pre_eq_preRow]; exact lifted os started H enc F)
theorem proved : Rows.ChannelTextsUptoCardSaid :=
  Claim7.holds_tied_plain_at .later [] _ _ _ _ over (fun _ h => by cases h) (by kernel_rfl) (fun _ h => by cases h) channelTextsUpto_row_tie rfl ⟨rfl, rfl⟩ (by kernel_rfl) rfl
    (fun f fn hf hfn => by
      obtain rfl : f = 13 := Option.some.inj ((show Tryd.prog.funcNamed "torchere/torcherelaw15.ChannelTexts" = some 13 by kernel_rfl).symm.trans hf) |>.symm
      obtain rfl : fn = Tryd.f13 := (Option.some.inj (Tryd.func13.symm.trans hfn)).symm
      exact ⟨by kernel_rfl, fun j t ht => by
        rw [Tryd.params13] at ht
        have hm : t ∈ [59, 59, 3] := by simpa using Array.mem_of_getElem? ht
        have hall : ([59, 59, 3].all fun u => !Tryd.prog.wantsStandIn u) = true := by kernel_rfl
        exact (show Tryd.prog.wantsStandIn t = false by simpa using List.all_eq_true.1 hall t hm)⟩)
    (by kernel_rfl)
#print axioms proved
end Go.Proofs.YtamifocfbcmfkaaDoor.channelTexts

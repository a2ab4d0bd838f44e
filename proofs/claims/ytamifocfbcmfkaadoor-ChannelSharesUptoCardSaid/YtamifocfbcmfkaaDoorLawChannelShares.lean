/- ChannelShares: for every lattice and events, events one behind the other are visible one behind the other, what is visible at two levels is so at their meet; the law returns true. Conditions: the bound of the narrowed statement. -/
import Derived.Test.YtamifocfbcmfkaaDoorRows
import Derived.Test.YtamifocfbcmfkaaDoorTie
import Derived.Test.YtamifocfbcmfkaaDoorCards
import Derived.Test.YtamifocfbcmfkaaDoorCards0
import Derived.Test.YtamifocfbcmfkaaDoorRowBulk
import Derived.Test.YtamifocfbcmfkaaDoorChanE
import Derived.Test.YtamifocfbcmfkaaDoorRowOrder
import Derived.Test.YtamifocfbcmfkaaDoorRowChan
import Derived.SevenTiedAt
namespace Go.Proofs.YtamifocfbcmfkaaDoor.channelShares
open Go.ChangeShapes Go.WideShapes Go.ChangeAt Go.RowKit Go.Proofs.YtamifocfbcmfkaaDoor.E
open Go.ChangeMaps (open_string shut_string)
open Go.Proofs.YtamifocfbcmfkaaDoor.LattP Go.Proofs.YtamifocfbcmfkaaDoor.ChanP
set_option linter.unusedVariables false
theorem reads (os : Os) {H : Type} (enc : TypeId × Value → H) : ∃ places, DataW.whole enc Tryd.prog ((World.doorLaid Tryd.prog 400 os).forCall (fun _ _ => 0) ⟨#[], #[.agg #[.int .i64 0, .slice none 0 0], .slice none 0 0, .slice none 0 0, .int .u8 0, .int .u8 0], []⟩).memory Tryd.f14.params.toList Rows.channelSharesSpec.vars false (#[.agg #[.int .i64 0, .slice none 0 0], .slice none 0 0, .slice none 0 0, .int .u8 0, .int .u8 0] : Array Value).toList 8 = some ([.agg [.lit (.int .i64 0), .nil], .nil, .nil, .lit (.int .u8 0), .lit (.int .u8 0)], [], places) := ⟨[], by kernel_rfl⟩
set_option maxRecDepth 100000 in
theorem lifted (os : Os) (started : os.Started) (H : Type) (enc : TypeId × Value → H) (F : Stop.Interp) :
    ReturnsInHanded {} Tryd.checked os 14 .any ((Rows.OpenSpec.upto Rows.channelSharesSpec).preRow enc Tryd.prog Tryd.f14 Rows.channelSharesUptoRow.domain false Rows.channelSharesUptoRow.laid) (((Rows.OpenSpec.upto Rows.channelSharesSpec).at F).post enc Tryd.prog Tryd.f14 false true false false) := by
  obtain ⟨places, hx⟩ := reads os enc
  refine returnsInHanded_of_row (C := Tryd.checked) (s := Rows.OpenSpec.upto Rows.channelSharesSpec) own started (by kernel_rfl) Tryd.func14
    (witness_row_shaped (enc := enc) (C := Tryd.checked) false (World.doorLaid Tryd.prog 400 os) #[.agg #[.int .i64 0, .slice none 0 0], .slice none 0 0, .slice none 0 0, .int .u8 0, .int .u8 0] rfl (World.shaped_of_RefB (by kernel_rfl) (by kernel_rfl)) (by kernel_rfl)
      (OpenSpec.preRow_of_cond 8 hx (by kernel_rfl) (fun k hk => by cases hk; kernel_rfl) (by kernel_rfl) (door_met3 os _))) ?_
  intro W base args ds gs before hval0 hW _ hcond hsz hL _ _
  have hval : ∀ (j : Nat) t v, Tryd.f14.params[j]? = some t → args[j]? = some v → Value.okWide Tryd.prog W .any base t v := hval0
  have ht := tab_of_3 hL
  have hW' := hW
  obtain ⟨p, q, hA0, hV, hpq, hfz, hnd⟩ := hW
  obtain ⟨rfl, rfl⟩ := trodVars_none hV
  have hA : DataW.TrodAll enc Tryd.prog W 0 (fun _ => true) true Tryd.f14.params.toList args.toList ds p := hA0
  rw [Tryd.params14] at hA hval hsz
  obtain ⟨v0, vs0, d0, ds0, p0, q0, hargs0, hds0, hp0, h0, r0⟩ := trodAll_cons hA
  obtain ⟨v1, vs1, d1, ds1, p1, q1, hargs1, hds1, hp1, h1, r1⟩ := trodAll_cons r0
  obtain ⟨v2, vs2, d2, ds2, p2, q2, hargs2, hds2, hp2, h2, r2⟩ := trodAll_cons r1
  obtain ⟨v3, vs3, d3, ds3, p3, q3, hargs3, hds3, hp3, h3, r3⟩ := trodAll_cons r2
  obtain ⟨v4, vs4, d4, ds4, p4, q4, hargs4, hds4, hp4, h4, r4⟩ := trodAll_cons r3
  obtain ⟨hl1, hl2, hl3⟩ := trodAll_nil r4
  obtain rfl : args = #[v0, v1, v2, v3, v4] := by cases args; simp_all
  obtain rfl : ds = [d0, d1, d2, d3, d4] := by simp_all
  obtain ⟨n0, A0, l0, cp0, q0, rfl, hlc0, hm0, hql0, hq0⟩ := open_order Tryd.underlying24 (by kernel_rfl) ⟨rfl, rfl⟩ ⟨rfl, rfl⟩ (by kernel_rfl) Tryd.underlying22 Tryd.underlying90 Tryd.underlying3 (by kernel_rfl) (by kernel_rfl) (hval 0 24 v0 rfl rfl) h0
  obtain ⟨A1, l1, cp1, es1, rfl, hlc1, hle1, hE1, hok1, hby1⟩ := open_evs Tryd.underlying59 Tryd.underlying65 (by kernel_rfl) ⟨rfl, rfl⟩ ⟨rfl, rfl⟩ ⟨rfl, rfl⟩ Tryd.underlying3 (by kernel_rfl) Tryd.underlying9 (by kernel_rfl) (by kernel_rfl) (hval 1 59 v1 rfl rfl) h1 (wt_each (wt_of hsz) 1 59 d1 rfl rfl)
  have hB1 : l1 * 32 ≤ 140737488355328 := by simp only [reachBytes] at hby1; omega
  obtain ⟨A2, l2, cp2, es2, rfl, hlc2, hle2, hE2, hok2, hby2⟩ := open_evs Tryd.underlying59 Tryd.underlying65 (by kernel_rfl) ⟨rfl, rfl⟩ ⟨rfl, rfl⟩ ⟨rfl, rfl⟩ Tryd.underlying3 (by kernel_rfl) Tryd.underlying9 (by kernel_rfl) (by kernel_rfl) (hval 2 59 v2 rfl rfl) h2 (wt_each (wt_of hsz) 2 59 d2 rfl rfl)
  have hB2 : l2 * 32 ≤ 140737488355328 := by simp only [reachBytes] at hby2; omega
  obtain ⟨a3, rfl, rfl, _, w3⟩ := open_int Tryd.underlying5 (hval 3 5 v3 rfl rfl) h3
  obtain ⟨a4, rfl, rfl, _, w4⟩ := open_int Tryd.underlying5 (hval 4 5 v4 rfl rfl) h4
  obtain ⟨c3, rfl⟩ := u8_of_wf w3
  obtain ⟨c4, rfl⟩ := u8_of_wf w4
  have hbk := hcond _ rfl
  refine ((shares_c n0 c3 c4 A0 l0 cp0 (min l0 60) (q0.take 60) _ hlc0 rfl (hq0.take 60) (by rw [List.length_take, hql0, Nat.min_comm]) A1 l1 cp1 es1 hE1 hle1 (Nat.le_trans (bulk_slice Tryd.underlying59 h1) (bulk_at hbk 1 _ rfl)) hok1 A2 l2 cp2 es2 hE2 hle2 (Nat.le_trans (bulk_slice Tryd.underlying59 h2) (bulk_at hbk 2 _ rfl)) hok2 ht) W (hpOf_sub W)).mono fun e W' ⟨he, hf⟩ => ⟨_, he, law_post (by kernel_rfl) rfl Tryd.underlying4 rfl rfl rfl rfl hW' hf.below⟩
theorem over : Rows.ChannelSharesUptoSaid :=
  OpenClaim.holds_of_cond 14 Tryd.f14 rfl rfl rfl rfl rfl rfl rfl ⟨rfl, rfl, rfl, rfl, rfl⟩ rfl rfl rfl rfl rfl (by kernel_rfl) Tryd.func14 (by kernel_rfl)
    (of_decide_eq_true (by kernel_rfl)) (by unfold Func.isWrapper; first | (rw [if_pos (by decide +kernel)]; kernel_rfl) | (rw [if_neg (by decide +kernel)]; exact ⟨rfl, rfl⟩))
    (fun os started H enc _ F => by rw [OpenClaim.pre_eq_preRow]; exact lifted os started H enc F)
theorem proved : Rows.ChannelSharesUptoCardSaid :=
  Claim7.holds_tied_plain_at .later [] _ _ _ _ over (fun _ h => by cases h) (by kernel_rfl) (fun _ h => by cases h) channelSharesUpto_row_tie rfl ⟨rfl, rfl⟩ (by kernel_rfl) rfl
    (fun f fn hf hfn => by
      obtain rfl : f = 14 := Option.some.inj ((show Tryd.prog.funcNamed "torchere/torcherelaw15.ChannelShares" = some 14 by kernel_rfl).symm.trans hf) |>.symm
      obtain rfl : fn = Tryd.f14 := (Option.some.inj (Tryd.func14.symm.trans hfn)).symm
      exact ⟨by kernel_rfl, fun j t ht => by
        rw [Tryd.params14] at ht
        have hm : t ∈ [24, 59, 59, 5, 5] := by simpa using Array.mem_of_getElem? ht
        have hall : ([24, 59, 59, 5, 5].all fun u => !Tryd.prog.wantsStandIn u) = true := by kernel_rfl
        exact (show Tryd.prog.wantsStandIn t = false by simpa using List.all_eq_true.1 hall t hm)⟩)
    (by kernel_rfl)
#print axioms proved
end Go.Proofs.YtamifocfbcmfkaaDoor.channelShares

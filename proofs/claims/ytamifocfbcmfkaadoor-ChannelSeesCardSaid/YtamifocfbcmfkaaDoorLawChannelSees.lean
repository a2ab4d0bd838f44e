/- ChannelSees: for every lattice, events, and term, what any term may be seen at, which of any events are visible at any level, whether the one begins the other, and their texts, are as the document says; the law returns true. Conditions: none. -/
import Derived.Test.YtamifocfbcmfkaaDoorRows
import Derived.Test.YtamifocfbcmfkaaDoorTie
import Derived.Test.YtamifocfbcmfkaaDoorCards
import Derived.Test.YtamifocfbcmfkaaDoorCards0
import Derived.Test.YtamifocfbcmfkaaDoorTermC
import Derived.Test.YtamifocfbcmfkaaDoorRowOrder
import Derived.Test.YtamifocfbcmfkaaDoorRowChan
import Derived.Test.YtamifocfbcmfkaaDoorRowTerm
import Derived.Test.YtamifocfbcmfkaaDoorRowArr
import Derived.SevenTiedAt
namespace Go.Proofs.YtamifocfbcmfkaaDoor.channelSees
open Go.ChangeShapes Go.WideShapes Go.ChangeAt Go.RowKit Go.Proofs.YtamifocfbcmfkaaDoor.E
open Go.ChangeMaps (open_string shut_string)
open Go.Proofs.YtamifocfbcmfkaaDoor.LattP Go.Proofs.YtamifocfbcmfkaaDoor.ChanP
set_option linter.unusedVariables false
set_option maxRecDepth 100000 in
theorem lifted (os : Os) (started : os.Started) (H : Type) (enc : TypeId × Value → H) :
    ReturnsInHanded {} Tryd.checked os 15 .any (fun w args => (Rows.channelSeesSpec.pre enc Tryd.prog Tryd.f15 [] false w args ∧ laidMetH Tryd.prog [("math/bits.deBruijn32tab", Rows.laid_math_bits_deBruijn32tab), ("math/bits.deBruijn64tab", Rows.laid_math_bits_deBruijn64tab), ("internal/strconv.uint64pow10", Rows.laid_internal_strconv_uint64pow10)] w) ∧ sizedMet enc Tryd.prog Tryd.f15 (OpenSpec.ofChange Rows.channelSeesSpec) false w args)
      (Rows.channelSeesSpec.post enc Tryd.prog Tryd.f15 false true false false) := by
  refine returnsInHanded_of_change_and (C := Tryd.checked) (X := fun w _ => laidMetH Tryd.prog [("math/bits.deBruijn32tab", Rows.laid_math_bits_deBruijn32tab), ("math/bits.deBruijn64tab", Rows.laid_math_bits_deBruijn64tab), ("internal/strconv.uint64pow10", Rows.laid_internal_strconv_uint64pow10)] w) (fun _ _ _ hh h => h.of_heap hh) own started (by kernel_rfl) Tryd.func15
    (ChangeSpec.witness_shaped (enc := enc) (C := Tryd.checked) (os := os) (X := fun w _ => laidMetH Tryd.prog [("math/bits.deBruijn32tab", Rows.laid_math_bits_deBruijn32tab), ("math/bits.deBruijn64tab", Rows.laid_math_bits_deBruijn64tab), ("internal/strconv.uint64pow10", Rows.laid_internal_strconv_uint64pow10)] w) false (World.doorLaid Tryd.prog 400 os) #[.agg #[.int .i64 0, .slice none 0 0], .slice none 0 0, .slice none 0 0, .agg #[.int .i64 0, .int .i64 0, .string ByteArray.empty, .slice none 0 0], .agg #[.int .i64 0, .int .i64 0, .int .i64 0]] 8 rfl (World.shaped_of_RefB (by kernel_rfl) (by kernel_rfl)) (by kernel_rfl) (by kernel_rfl) (by kernel_rfl) (door_met3 os _)) ?_
  intro W base args ds gs before hval0 hW hcnd hsz hL hreach
  have hval : ∀ (j : Nat) t v, Tryd.f15.params[j]? = some t → args[j]? = some v → Value.okWide Tryd.prog W .any base t v := hval0
  have ht := tab_of_3 hL
  have hW' := hW
  obtain ⟨p, q, hA0, hV, hpq, hfz, hnd⟩ := hW
  obtain ⟨rfl, rfl⟩ := trodVars_none hV
  have hA : DataW.TrodAll enc Tryd.prog W 0 (fun _ => true) true Tryd.f15.params.toList args.toList ds p := hA0
  rw [Tryd.params15] at hA hval hsz
  obtain ⟨v0, vs0, d0, ds0, p0, q0, hargs0, hds0, hp0, h0, r0⟩ := trodAll_cons hA
  obtain ⟨v1, vs1, d1, ds1, p1, q1, hargs1, hds1, hp1, h1, r1⟩ := trodAll_cons r0
  obtain ⟨v2, vs2, d2, ds2, p2, q2, hargs2, hds2, hp2, h2, r2⟩ := trodAll_cons r1
  obtain ⟨v3, vs3, d3, ds3, p3, q3, hargs3, hds3, hp3, h3, r3⟩ := trodAll_cons r2
  obtain ⟨v4, vs4, d4, ds4, p4, q4, hargs4, hds4, hp4, h4, r4⟩ := trodAll_cons r3
  obtain ⟨hl1, hl2, hl3⟩ := trodAll_nil r4
  obtain rfl : args = #[v0, v1, v2, v3, v4] := by cases args; simp_all
  obtain rfl : ds = [d0, d1, d2, d3, d4] := by simp_all
  obtain ⟨n0, A0, l0, cp0, q0, rfl, hlc0, hm0, hql0, hq0⟩ := open_order Tryd.underlying24 (by kernel_rfl) ⟨rfl, rfl⟩ ⟨rfl, rfl⟩ (by kernel_rfl) Tryd.underlying22 Tryd.underlying90 Tryd.underlying3 (by kernel_rfl) (by kernel_rfl) (hval 0 24 v0 rfl rfl) h0
  obtain ⟨A1, l1, cp1, es1, rfl, hlc1, hle1, hE1, hok1, hby1⟩ := open_evs Tryd.underlying59 Tryd.underlying65 (by kernel_rfl) ⟨rfl, rfl⟩ ⟨rfl, rfl⟩ ⟨rfl, rfl⟩ Tryd.underlying3 (by kernel_rfl) Tryd.underlying9 (by kernel_rfl) (by kernel_rfl) (hval 1 59 v1 rfl rfl) h1 (wt_each (wt_of hsz) 1 59 d1 rfl rfl)
  have hB1 : l1 * 32 ≤ 140737488355328 := by simp only [reachBytes] at hby1; omega
  obtain ⟨A2, l2, cp2, es2, rfl, hlc2, hle2, hE2, hok2, hby2⟩ := open_evs Tryd.underlying59 Tryd.underlying65 (by kernel_rfl) ⟨rfl, rfl⟩ ⟨rfl, rfl⟩ ⟨rfl, rfl⟩ Tryd.underlying3 (by kernel_rfl) Tryd.underlying9 (by kernel_rfl) (by kernel_rfl) (hval 2 59 v2 rfl rfl) h2 (wt_each (wt_of hsz) 2 59 d2 rfl rfl)
  have hB2 : l2 * 32 ≤ 140737488355328 := by simp only [reachBytes] at hby2; omega
  obtain ⟨t3, rfl, hlt3, hft3⟩ := open_tm Tryd.underlying79 (by kernel_rfl) ⟨rfl, rfl⟩ ⟨rfl, rfl⟩ ⟨rfl, rfl⟩ ⟨rfl, rfl⟩ Tryd.underlying3 (by kernel_rfl) Tryd.underlying2 (by kernel_rfl) Tryd.underlying9 (by kernel_rfl) Tryd.underlying77 (by kernel_rfl) (by kernel_rfl) (hval 3 79 v3 rfl rfl) h3 (wt_each (wt_of hsz) 3 79 d3 rfl rfl)
  obtain ⟨x4, y4, z4, rfl⟩ := open_a3 Tryd.underlying80 (by kernel_rfl) Tryd.underlying3 (by kernel_rfl) (hval 4 80 v4 rfl rfl) h4
  refine ((sees_c n0 t3 x4 y4 z4 A0 l0 cp0 (min l0 60) (q0.take 60) _ hlc0 rfl (hq0.take 60) (by rw [List.length_take, hql0, Nat.min_comm]) A1 l1 cp1 es1 hE1 hle1 hlc1 hB1 A2 l2 cp2 es2 hE2 hle2 hlc2 hB2 hok1 ht hlt3 hft3) W (hpOf_sub W)).mono fun e W' ⟨he, hf⟩ => ⟨_, he, law_post (by kernel_rfl) rfl Tryd.underlying4 rfl rfl rfl rfl hW' hf.below⟩
theorem over : Rows.ChannelSeesSaid :=
  OpenClaim.holds_of_wide 15 Tryd.f15 rfl rfl rfl rfl rfl rfl rfl ⟨rfl, rfl, rfl, rfl, rfl⟩ rfl rfl rfl rfl rfl (by kernel_rfl) Tryd.func15 (by kernel_rfl)
    (of_decide_eq_true (by kernel_rfl)) (by unfold Func.isWrapper; first | (rw [if_pos (by decide +kernel)]; kernel_rfl) | (rw [if_neg (by decide +kernel)]; exact ⟨rfl, rfl⟩))
    (fun os started H enc _ => lifted os started H enc)
theorem proved : Rows.ChannelSeesCardSaid :=
  Claim7.holds_tied_plain_at .later [] [.data, .data, .data] true (true, "30a2b235989c06830d68090221ded0af4e816a7bab8bf19c0702163c141d2476") true
    over (fun _ h => by cases h) (by kernel_rfl) (fun _ h => by cases h) channelSees_row_tie rfl ⟨rfl, rfl⟩ (by kernel_rfl) rfl
    (fun f fn hf hfn => by
      obtain rfl : f = 15 := Option.some.inj ((show Tryd.prog.funcNamed "torchere/torcherelaw15.ChannelSees" = some 15 by kernel_rfl).symm.trans hf) |>.symm
      obtain rfl : fn = Tryd.f15 := (Option.some.inj (Tryd.func15.symm.trans hfn)).symm
      exact ⟨by kernel_rfl, fun j t ht => by
        rw [Tryd.params15] at ht
        have hm : t ∈ [24, 59, 59, 79, 80] := by simpa using Array.mem_of_getElem? ht
        have hall : ([24, 59, 59, 79, 80].all fun u => !Tryd.prog.wantsStandIn u) = true := by kernel_rfl
        exact (show Tryd.prog.wantsStandIn t = false by simpa using List.all_eq_true.1 hall t hm)⟩)
    (by kernel_rfl)
#print axioms proved
end Go.Proofs.YtamifocfbcmfkaaDoor.channelSees

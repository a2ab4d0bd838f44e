/- The engine, the plain laws and the walks of this seat, part 6: what the functions answer. Conditions: as each says; printed by programs of this session. -/
import Derived.Test.YtanhhihechakhaaDoorMe
set_option linter.unusedVariables false
set_option linter.unusedSimpArgs false
namespace Go.Proofs.YtanhhihechakhaaDoor
open Go.RowKit Go.Proofs.YtanhhihechakhaaDoor.E Go.Proofs.YtanhhihechakhaaDoor.ReplP Go.Proofs.YtanhhihechakhaaDoor.TokP Go.Proofs.YtanhhihechakhaaDoor.TermP Go.Proofs.YtanhhihechakhaaDoor.WrP Go.Proofs.YtanhhihechakhaaDoor.ReadP Go.Proofs.YtanhhihechakhaaDoor.OpsP
def smL (c : UInt8) : UInt8 := UInt8.ofNat (97 + c.toNat % 26)
theorem smL_byte (c : UInt8) : ((97 + c.toNat % 26 : Nat) : Int) = ((smL c).toNat : Int) := by
 unfold smL
 rw [UInt8.toNat_ofNat']
 omega
theorem smL_small (c : UInt8) : smallB (smL c) = true := by
 have key : ∀ n : Fin 26, smallB (UInt8.ofNat (97 + n.val)) = true := by decide
 exact key ⟨c.toNat % 26, Nat.mod_lt _ (by decide)⟩
set_option maxRecDepth 100000 in
theorem sealsT_c (c0 c1 c2 : UInt8) (h : Hp) (hh : Hdl h) (h0 : ¬ (true = false ∧ ((dgN c1 : Nat) : Int) < ((c2.toNat % 12 : Nat) : Int))) : C0 Tryd.prog 8 [.int .u8 (c0.toNat : Int), .int .u8 (c1.toNat : Int), .int .u8 (c2.toNat : Int), .bool true] h (.bool true) := by
 refine enter0 Tryd.func8 rfl rfl rfl (fun w => ?_)
 refine cy_seq ?_
 refine cy_region ?_
 refine sy_assign rfl rfl rfl ?_
 refine sy_nil rfl ?_
 refine ny_next ?_
 refine cy_seq ?_
 refine cy_region ?_
 refine sy_call rfl call_9 rfl (shown07_c _ hh) rfl rfl ?_
 refine sy_setT (d := 20) rfl rfl rfl ?_
 refine sy_assign rfl rfl rfl ?_
 refine sy_nil rfl ?_
 refine ny_next ?_
 refine cy_seq ?_
 refine cy_region ?_
 refine sy_move rfl rfl rfl ?_
 refine sy_rem8 (a := c2.toNat) (b := 12) rfl rfl (by decide) (by decide) (by have := c2.toNat_lt; omega) rfl rfl ?_
 refine sy_convK (z := ((c2.toNat % 12 : Nat) : Int)) Tryd.underlying5 Tryd.underlying3 rfl (by rw [IntWalk.i64_in _ ⟨by omega, by omega⟩]) rfl rfl ?_
 refine sy_assign rfl rfl rfl ?_
 refine sy_nil rfl ?_
 refine ny_next ?_
 refine cy_seq ?_
 refine cy_region ?_
 refine sy_move rfl rfl rfl ?_
 refine sy_rem8 (a := c1.toNat) (b := 10) rfl rfl (by decide) (by decide) (by have := c1.toNat_lt; omega) rfl rfl ?_
 refine sy_addK (z := ((48 + dgN c1 : Nat) : Int)) rfl rfl (by have := dgN_lt c1; rw [IntWalk.u8_in _ ⟨by omega, by omega⟩]; unfold dgN; omega) rfl rfl ?_
 refine sy_buildSlice rfl (fun w => bsl_36_1_0 w) rfl rfl (fun b27 hb27 hM27 => ?_) (by simp)
 refine sy_byte1 (u := digC (dgN c1)) 0 Tryd.underlying36 Tryd.underlying5 Tryd.underlying9 rfl rfl (dig_byte c1) rfl rfl ?_
 refine sy_assign rfl rfl rfl ?_
 refine sy_nil rfl ?_
 refine ny_next ?_
 refine cy_seq ?_
 refine cy_region ?_
 refine sy_move rfl rfl rfl ?_
 refine sy_rem8 (a := c0.toNat) (b := 26) rfl rfl (by decide) (by decide) (by have := c0.toNat_lt; omega) rfl rfl ?_
 refine sy_addK (z := ((97 + c0.toNat % 26 : Nat) : Int)) rfl rfl (by rw [IntWalk.u8_in _ ⟨by omega, by omega⟩]; omega) rfl rfl ?_
 refine sy_buildSlice rfl (fun w => bsl_36_1_0 w) rfl rfl (fun b32 hb32 hM32 => ?_) (by simp)
 refine sy_byte1 (u := smL c0) 0 Tryd.underlying36 Tryd.underlying5 Tryd.underlying9 rfl rfl (smL_byte c0) rfl rfl ?_
 refine sy_cat rfl rfl (by (try simp only [ByteArray.size_append]); (try simp only [bz, List.length_cons, List.length_nil]); omega) rfl rfl ?_
 refine sy_cat rfl rfl (by (try simp only [ByteArray.size_append]); (try simp only [bz, List.length_cons, List.length_nil]); omega) rfl rfl ?_
 refine sy_assign rfl rfl rfl ?_
 refine sy_nil rfl ?_
 refine ny_next ?_
 refine cy_seq ?_
 refine cy_region ?_
 refine sy_move rfl rfl rfl ?_
 refine sy_rem8 (a := c0.toNat) (b := 26) rfl rfl (by decide) (by decide) (by have := c0.toNat_lt; omega) rfl rfl ?_
 refine sy_addK (z := ((97 + c0.toNat % 26 : Nat) : Int)) rfl rfl (by rw [IntWalk.u8_in _ ⟨by omega, by omega⟩]; omega) rfl rfl ?_
 refine sy_buildSlice rfl (fun w => bsl_36_1_0 w) rfl rfl (fun b39 hb39 hM39 => ?_) (by simp)
 refine sy_byte1 (u := smL c0) 0 Tryd.underlying36 Tryd.underlying5 Tryd.underlying9 rfl rfl (smL_byte c0) rfl rfl ?_
 refine sy_call rfl call_18 rfl (atom_c ⟨#[smL c0]⟩ _) rfl rfl ?_
 refine sy_buildSlice (cs := [(GT.mk 3 0 ⟨#[smL c0]⟩ none 0 [])].flatMap GT.cells) rfl (fun w => bsl_23_1_0 w) rfl rfl (fun b42 hb42 hM42 => ?_) (by simp)
 refine sy_frz 0 rfl (by simp) (fun h42 hle42 hbx42 => ?_)
 replace hh := hh.le hle42
 have hr42 : RowsAt h42 (some ⟨b42, 0, none⟩) 4 ([(GT.mk 3 0 ⟨#[smL c0]⟩ none 0 [])].map GT.cells) := rows_blk (by decide) (GT.cells_len _) hbx42
 refine sy_callx call_16 rfl (make_c ⟨#[102]⟩ (some ⟨b42, 0, none⟩) 1 [(GT.mk 3 0 ⟨#[smL c0]⟩ none 0 [])] _ rfl hr42 (by simp)) rfl rfl (fun x43 h43 hx43 hle43 => ?_)
 obtain ⟨A43, c43⟩ := x43
 replace hh := hh.le hle43
 have hlf0 : Lies h43 (GT.mk 3 0 ⟨#[smL c0]⟩ none 0 []) ∧ Fits (GT.mk 3 0 ⟨#[smL c0]⟩ none 0 []) := ⟨lies_leaf _ _ _ _, fits_leaf (by decide) (by decide) (by decide) (by decide) (by rw [bz]; exact (by decide : (1 : Nat) ≤ 140737488355328))⟩
 have hlf43 : Lies h43 (GT.mk 3 0 ⟨#[102]⟩ A43 c43 [(GT.mk 3 0 ⟨#[smL c0]⟩ none 0 [])]) ∧ Fits (GT.mk 3 0 ⟨#[102]⟩ A43 c43 [(GT.mk 3 0 ⟨#[smL c0]⟩ none 0 [])]) := ⟨.intro _ _ _ _ _ _ hx43.2 hx43.1 (fun t h9 => by rw [List.mem_singleton.1 h9]; exact hlf0.1), fits_kids (by decide) (by decide) (by decide) (by decide) (by decide) (by simp) (fun t h9 => by rw [List.mem_singleton.1 h9]; exact hlf0.2)⟩
 refine sy_alloc zer_30 rfl rfl (fun b13 hb13 hM13 => ?_) (by simp)
 first | refine sy_stl 0 sz_30 rfl rfl rfl rfl rfl rfl rfl rfl ?_ | refine sy_stl 1 sz_30 rfl rfl rfl rfl rfl rfl rfl rfl ?_ | refine sy_stl 2 sz_30 rfl rfl rfl rfl rfl rfl rfl rfl ?_ | refine sy_stl 3 sz_30 rfl rfl rfl rfl rfl rfl rfl rfl ?_ | refine sy_stl 4 sz_30 rfl rfl rfl rfl rfl rfl rfl rfl ?_ | refine sy_stl 5 sz_30 rfl rfl rfl rfl rfl rfl rfl rfl ?_
 refine sy_nil rfl ?_
 refine ny_next ?_
 refine cy_seq ?_
 refine cy_seq ?_
 refine cy_region ?_
 refine sy_move rfl rfl rfl ?_
 refine sy_setT (d := 44) rfl rfl rfl ?_
 refine sy_nil rfl ?_
 refine ny_next ?_
 refine cy_condT rfl ?_
 refine cy_region ?_
 refine sy_assign rfl rfl rfl ?_
 refine sy_nil rfl ?_
 refine ny_next ?_
 refine cy_seq ?_
 refine cy_region ?_
 refine sy_move rfl rfl rfl ?_
 refine sy_cat rfl rfl (by (try simp only [ByteArray.size_append]); (try simp only [bz, List.length_cons, List.length_nil]); omega) rfl rfl ?_
 refine sy_move rfl rfl rfl ?_
 refine sy_cat rfl rfl (by (try simp only [ByteArray.size_append]); (try simp only [bz, List.length_cons, List.length_nil]); omega) rfl rfl ?_
 refine sy_cat rfl rfl (by (try simp only [ByteArray.size_append]); (try simp only [bz, List.length_cons, List.length_nil]); omega) rfl rfl ?_
 refine sy_move rfl rfl rfl ?_
 refine sy_callx call_10 rfl (allL_c _ (se1C true (smL c0) (dgN c1)) (by simp only [ba_cat]; rfl) (((c2.toNat % 12 : Nat) : Int)) _ hh) rfl rfl (fun x52 h52 hx52 hle52 => ?_)
 obtain ⟨es52, A52, c52⟩ := x52
 obtain ⟨hT52, hr52, hc52, hz52, hg52⟩ := hx52
 simp only at hT52 hr52 hc52 hz52 hg52 ⊢
 replace hh := hh.le hle52
 obtain ⟨a52, hs52⟩ := (seal_read (lv := ((c2.toNat % 12 : Nat) : Int)) (v := true) (c := smL c0) (d := dgN c1) (smL_small c0) (dgN_lt c1)).2 h0
 rw [hs52] at hT52 ⊢
 refine sy_move rfl rfl rfl ?_
 refine sy_extract rfl rfl rfl rfl ?_
 refine sy_extract rfl rfl rfl rfl ?_
 refine sy_extract rfl rfl rfl rfl ?_
 refine sy_assign rfl rfl rfl ?_
 refine sy_assign rfl rfl rfl ?_
 refine sy_assign rfl rfl rfl ?_
 refine sy_nil rfl ?_
 refine ny_next ?_
 refine cy_seq ?_
 refine cy_region ?_
 refine sy_move rfl rfl rfl ?_
 refine sy_cat rfl rfl (by (try simp only [ByteArray.size_append]); (try simp only [bz, List.length_cons, List.length_nil]); omega) rfl rfl ?_
 refine sy_cat rfl rfl (by (try simp only [ByteArray.size_append]); (try simp only [bz, List.length_cons, List.length_nil]); omega) rfl rfl ?_
 refine sy_move rfl rfl rfl ?_
 refine sy_cat rfl rfl (by (try simp only [ByteArray.size_append]); (try simp only [bz, List.length_cons, List.length_nil]); omega) rfl rfl ?_
 refine sy_cat rfl rfl (by (try simp only [ByteArray.size_append]); (try simp only [bz, List.length_cons, List.length_nil]); omega) rfl rfl ?_
 refine sy_move rfl rfl rfl ?_
 refine sy_callx call_10 rfl (allL_c _ (se2C true (smL c0) (dgN c1)) (by simp only [ba_cat]; rfl) (((c2.toNat % 12 : Nat) : Int)) _ hh) rfl rfl (fun x64 h64 hx64 hle64 => ?_)
 obtain ⟨es64, A64, c64⟩ := x64
 obtain ⟨hT64, hr64, hc64, hz64, hg64⟩ := hx64
 simp only at hT64 hr64 hc64 hz64 hg64 ⊢
 replace hh := hh.le hle64
 obtain ⟨a64, hs64⟩ := (seal_read2 (lv := ((c2.toNat % 12 : Nat) : Int)) (v := true) (c := smL c0) (d := dgN c1) (smL_small c0) (dgN_lt c1)).2 h0
 rw [hs64] at hT64 ⊢
 refine sy_move rfl rfl rfl ?_
 refine sy_extract rfl rfl rfl rfl ?_
 refine sy_extract rfl rfl rfl rfl ?_
 refine sy_extract rfl rfl rfl rfl ?_
 refine sy_assign rfl rfl rfl ?_
 refine sy_assign rfl rfl rfl ?_
 refine sy_assign rfl rfl rfl ?_
 refine sy_nil rfl ?_
 refine ny_next ?_
 refine cy_seq ?_
 refine cy_seq ?_
 refine cy_region ?_
 refine sy_move rfl rfl rfl ?_
 refine sy_setT (d := 68) rfl rfl rfl ?_
 refine sy_move rfl rfl rfl ?_
 refine sy_skip rfl rfl rfl ?_
 refine sy_skip rfl rfl rfl ?_
 refine sy_skip rfl rfl rfl ?_
 refine sy_skip rfl rfl rfl ?_
 refine sy_skip rfl rfl rfl ?_
 refine sy_pickT rfl rfl rfl rfl ?_
 refine sy_nil rfl ?_
 refine ny_next ?_
 refine cy_condT rfl ?_
 refine cy_seq ?_
 refine cy_region ?_
 refine sy_move rfl rfl rfl ?_
 refine sy_move rfl rfl rfl ?_
 refine sy_move rfl rfl rfl ?_
 refine sy_cmp rfl rfl rfl rfl rfl ?_
 refine sy_pickT rfl rfl rfl rfl ?_
 refine sy_move rfl rfl rfl ?_
 refine sy_setT (d := 81) rfl rfl (by first | rfl | (simp; done)) ?_
 refine sy_move rfl rfl rfl ?_
 refine sy_cmp rfl rfl rfl rfl rfl ?_
 refine sy_pickT rfl rfl rfl rfl ?_
 refine sy_assign rfl rfl rfl ?_
 refine sy_nil rfl ?_
 refine ny_next ?_
 refine cy_ret ?_
 refine ny_thenR ?_
 refine ny_finR (res1 rfl rfl) (fun w hs2 => ⟨rfl, hs2.frm⟩)
set_option maxRecDepth 100000 in
theorem sealsB_c (c0 c1 c2 : UInt8) (h : Hp) (hh : Hdl h) (h0 : ¬ (false = false ∧ ((dgN c1 : Nat) : Int) < ((c2.toNat % 12 : Nat) : Int))) : C0 Tryd.prog 8 [.int .u8 (c0.toNat : Int), .int .u8 (c1.toNat : Int), .int .u8 (c2.toNat : Int), .bool false] h (.bool true) := by
 refine enter0 Tryd.func8 rfl rfl rfl (fun w => ?_)
 refine cy_seq ?_
 refine cy_region ?_
 refine sy_assign rfl rfl rfl ?_
 refine sy_nil rfl ?_
 refine ny_next ?_
 refine cy_seq ?_
 refine cy_region ?_
 refine sy_call rfl call_9 rfl (shown07_c _ hh) rfl rfl ?_
 refine sy_setT (d := 20) rfl rfl rfl ?_
 refine sy_assign rfl rfl rfl ?_
 refine sy_nil rfl ?_
 refine ny_next ?_
 refine cy_seq ?_
 refine cy_region ?_
 refine sy_move rfl rfl rfl ?_
 refine sy_rem8 (a := c2.toNat) (b := 12) rfl rfl (by decide) (by decide) (by have := c2.toNat_lt; omega) rfl rfl ?_
 refine sy_convK (z := ((c2.toNat % 12 : Nat) : Int)) Tryd.underlying5 Tryd.underlying3 rfl (by rw [IntWalk.i64_in _ ⟨by omega, by omega⟩]) rfl rfl ?_
 refine sy_assign rfl rfl rfl ?_
 refine sy_nil rfl ?_
 refine ny_next ?_
 refine cy_seq ?_
 refine cy_region ?_
 refine sy_move rfl rfl rfl ?_
 refine sy_rem8 (a := c1.toNat) (b := 10) rfl rfl (by decide) (by decide) (by have := c1.toNat_lt; omega) rfl rfl ?_
 refine sy_addK (z := ((48 + dgN c1 : Nat) : Int)) rfl rfl (by have := dgN_lt c1; rw [IntWalk.u8_in _ ⟨by omega, by omega⟩]; unfold dgN; omega) rfl rfl ?_
 refine sy_buildSlice rfl (fun w => bsl_36_1_0 w) rfl rfl (fun b27 hb27 hM27 => ?_) (by simp)
 refine sy_byte1 (u := digC (dgN c1)) 0 Tryd.underlying36 Tryd.underlying5 Tryd.underlying9 rfl rfl (dig_byte c1) rfl rfl ?_
 refine sy_assign rfl rfl rfl ?_
 refine sy_nil rfl ?_
 refine ny_next ?_
 refine cy_seq ?_
 refine cy_region ?_
 refine sy_move rfl rfl rfl ?_
 refine sy_rem8 (a := c0.toNat) (b := 26) rfl rfl (by decide) (by decide) (by have := c0.toNat_lt; omega) rfl rfl ?_
 refine sy_addK (z := ((97 + c0.toNat % 26 : Nat) : Int)) rfl rfl (by rw [IntWalk.u8_in _ ⟨by omega, by omega⟩]; omega) rfl rfl ?_
 refine sy_buildSlice rfl (fun w => bsl_36_1_0 w) rfl rfl (fun b32 hb32 hM32 => ?_) (by simp)
 refine sy_byte1 (u := smL c0) 0 Tryd.underlying36 Tryd.underlying5 Tryd.underlying9 rfl rfl (smL_byte c0) rfl rfl ?_
 refine sy_cat rfl rfl (by (try simp only [ByteArray.size_append]); (try simp only [bz, List.length_cons, List.length_nil]); omega) rfl rfl ?_
 refine sy_cat rfl rfl (by (try simp only [ByteArray.size_append]); (try simp only [bz, List.length_cons, List.length_nil]); omega) rfl rfl ?_
 refine sy_assign rfl rfl rfl ?_
 refine sy_nil rfl ?_
 refine ny_next ?_
 refine cy_seq ?_
 refine cy_region ?_
 refine sy_move rfl rfl rfl ?_
 refine sy_rem8 (a := c0.toNat) (b := 26) rfl rfl (by decide) (by decide) (by have := c0.toNat_lt; omega) rfl rfl ?_
 refine sy_addK (z := ((97 + c0.toNat % 26 : Nat) : Int)) rfl rfl (by rw [IntWalk.u8_in _ ⟨by omega, by omega⟩]; omega) rfl rfl ?_
 refine sy_buildSlice rfl (fun w => bsl_36_1_0 w) rfl rfl (fun b39 hb39 hM39 => ?_) (by simp)
 refine sy_byte1 (u := smL c0) 0 Tryd.underlying36 Tryd.underlying5 Tryd.underlying9 rfl rfl (smL_byte c0) rfl rfl ?_
 refine sy_call rfl call_18 rfl (atom_c ⟨#[smL c0]⟩ _) rfl rfl ?_
 refine sy_buildSlice (cs := [(GT.mk 3 0 ⟨#[smL c0]⟩ none 0 [])].flatMap GT.cells) rfl (fun w => bsl_23_1_0 w) rfl rfl (fun b42 hb42 hM42 => ?_) (by simp)
 refine sy_frz 0 rfl (by simp) (fun h42 hle42 hbx42 => ?_)
 replace hh := hh.le hle42
 have hr42 : RowsAt h42 (some ⟨b42, 0, none⟩) 4 ([(GT.mk 3 0 ⟨#[smL c0]⟩ none 0 [])].map GT.cells) := rows_blk (by decide) (GT.cells_len _) hbx42
 refine sy_callx call_16 rfl (make_c ⟨#[102]⟩ (some ⟨b42, 0, none⟩) 1 [(GT.mk 3 0 ⟨#[smL c0]⟩ none 0 [])] _ rfl hr42 (by simp)) rfl rfl (fun x43 h43 hx43 hle43 => ?_)
 obtain ⟨A43, c43⟩ := x43
 replace hh := hh.le hle43
 have hlf0 : Lies h43 (GT.mk 3 0 ⟨#[smL c0]⟩ none 0 []) ∧ Fits (GT.mk 3 0 ⟨#[smL c0]⟩ none 0 []) := ⟨lies_leaf _ _ _ _, fits_leaf (by decide) (by decide) (by decide) (by decide) (by rw [bz]; exact (by decide : (1 : Nat) ≤ 140737488355328))⟩
 have hlf43 : Lies h43 (GT.mk 3 0 ⟨#[102]⟩ A43 c43 [(GT.mk 3 0 ⟨#[smL c0]⟩ none 0 [])]) ∧ Fits (GT.mk 3 0 ⟨#[102]⟩ A43 c43 [(GT.mk 3 0 ⟨#[smL c0]⟩ none 0 [])]) := ⟨.intro _ _ _ _ _ _ hx43.2 hx43.1 (fun t h9 => by rw [List.mem_singleton.1 h9]; exact hlf0.1), fits_kids (by decide) (by decide) (by decide) (by decide) (by decide) (by simp) (fun t h9 => by rw [List.mem_singleton.1 h9]; exact hlf0.2)⟩
 refine sy_alloc zer_30 rfl rfl (fun b13 hb13 hM13 => ?_) (by simp)
 first | refine sy_stl 0 sz_30 rfl rfl rfl rfl rfl rfl rfl rfl ?_ | refine sy_stl 1 sz_30 rfl rfl rfl rfl rfl rfl rfl rfl ?_ | refine sy_stl 2 sz_30 rfl rfl rfl rfl rfl rfl rfl rfl ?_ | refine sy_stl 3 sz_30 rfl rfl rfl rfl rfl rfl rfl rfl ?_ | refine sy_stl 4 sz_30 rfl rfl rfl rfl rfl rfl rfl rfl ?_ | refine sy_stl 5 sz_30 rfl rfl rfl rfl rfl rfl rfl rfl ?_
 refine sy_nil rfl ?_
 refine ny_next ?_
 refine cy_seq ?_
 refine cy_seq ?_
 refine cy_region ?_
 refine sy_move rfl rfl rfl ?_
 refine sy_setF (d := 44) rfl rfl rfl ?_
 refine sy_nil rfl ?_
 refine ny_next ?_
 refine cy_condF rfl ?_
 refine cy_skip ?_
 refine ny_next ?_
 refine cy_seq ?_
 refine cy_region ?_
 refine sy_move rfl rfl rfl ?_
 refine sy_cat rfl rfl (by (try simp only [ByteArray.size_append]); (try simp only [bz, List.length_cons, List.length_nil]); omega) rfl rfl ?_
 refine sy_move rfl rfl rfl ?_
 refine sy_cat rfl rfl (by (try simp only [ByteArray.size_append]); (try simp only [bz, List.length_cons, List.length_nil]); omega) rfl rfl ?_
 refine sy_cat rfl rfl (by (try simp only [ByteArray.size_append]); (try simp only [bz, List.length_cons, List.length_nil]); omega) rfl rfl ?_
 refine sy_move rfl rfl rfl ?_
 refine sy_callx call_10 rfl (allL_c _ (se1C false (smL c0) (dgN c1)) (by simp only [ba_cat]; rfl) (((c2.toNat % 12 : Nat) : Int)) _ hh) rfl rfl (fun x52 h52 hx52 hle52 => ?_)
 obtain ⟨es52, A52, c52⟩ := x52
 obtain ⟨hT52, hr52, hc52, hz52, hg52⟩ := hx52
 simp only at hT52 hr52 hc52 hz52 hg52 ⊢
 replace hh := hh.le hle52
 obtain ⟨a52, hs52⟩ := (seal_read (lv := ((c2.toNat % 12 : Nat) : Int)) (v := false) (c := smL c0) (d := dgN c1) (smL_small c0) (dgN_lt c1)).2 h0
 rw [hs52] at hT52 ⊢
 refine sy_move rfl rfl rfl ?_
 refine sy_extract rfl rfl rfl rfl ?_
 refine sy_extract rfl rfl rfl rfl ?_
 refine sy_extract rfl rfl rfl rfl ?_
 refine sy_assign rfl rfl rfl ?_
 refine sy_assign rfl rfl rfl ?_
 refine sy_assign rfl rfl rfl ?_
 refine sy_nil rfl ?_
 refine ny_next ?_
 refine cy_seq ?_
 refine cy_region ?_
 refine sy_move rfl rfl rfl ?_
 refine sy_cat rfl rfl (by (try simp only [ByteArray.size_append]); (try simp only [bz, List.length_cons, List.length_nil]); omega) rfl rfl ?_
 refine sy_cat rfl rfl (by (try simp only [ByteArray.size_append]); (try simp only [bz, List.length_cons, List.length_nil]); omega) rfl rfl ?_
 refine sy_move rfl rfl rfl ?_
 refine sy_cat rfl rfl (by (try simp only [ByteArray.size_append]); (try simp only [bz, List.length_cons, List.length_nil]); omega) rfl rfl ?_
 refine sy_cat rfl rfl (by (try simp only [ByteArray.size_append]); (try simp only [bz, List.length_cons, List.length_nil]); omega) rfl rfl ?_
 refine sy_move rfl rfl rfl ?_
 refine sy_callx call_10 rfl (allL_c _ (se2C false (smL c0) (dgN c1)) (by simp only [ba_cat]; rfl) (((c2.toNat % 12 : Nat) : Int)) _ hh) rfl rfl (fun x64 h64 hx64 hle64 => ?_)
 obtain ⟨es64, A64, c64⟩ := x64
 obtain ⟨hT64, hr64, hc64, hz64, hg64⟩ := hx64
 simp only at hT64 hr64 hc64 hz64 hg64 ⊢
 replace hh := hh.le hle64
 obtain ⟨a64, hs64⟩ := (seal_read2 (lv := ((c2.toNat % 12 : Nat) : Int)) (v := false) (c := smL c0) (d := dgN c1) (smL_small c0) (dgN_lt c1)).2 h0
 rw [hs64] at hT64 ⊢
 refine sy_move rfl rfl rfl ?_
 refine sy_extract rfl rfl rfl rfl ?_
 refine sy_extract rfl rfl rfl rfl ?_
 refine sy_extract rfl rfl rfl rfl ?_
 refine sy_assign rfl rfl rfl ?_
 refine sy_assign rfl rfl rfl ?_
 refine sy_assign rfl rfl rfl ?_
 refine sy_nil rfl ?_
 refine ny_next ?_
 refine cy_seq ?_
 refine cy_seq ?_
 refine cy_region ?_
 refine sy_move rfl rfl rfl ?_
 refine sy_setF (d := 68) rfl rfl rfl ?_
 refine sy_move rfl rfl rfl ?_
 refine sy_move rfl rfl rfl ?_
 refine sy_rem8 (a := c1.toNat) (b := 10) rfl rfl (by decide) (by decide) (by have := c1.toNat_lt; omega) rfl rfl ?_
 refine sy_convK (z := ((dgN c1 : Nat) : Int)) Tryd.underlying5 Tryd.underlying3 rfl (by have := dgN_lt c1; rw [IntWalk.i64_in _ ⟨by omega, by omega⟩]; rfl) rfl rfl ?_
 refine sy_move rfl rfl rfl ?_
 refine sy_cmp rfl rfl rfl rfl rfl ?_
 refine sy_setT (d := 74) rfl rfl (decide_eq_true (by first | (have h9 := h0; simp only [ge_iff_le]; omega) | (simp only [ge_iff_le]; exact Int.not_lt.1 (fun h8 => h0 ⟨rfl, h8⟩)))) ?_
 refine sy_pickF rfl rfl rfl rfl ?_
 refine sy_nil rfl ?_
 refine ny_next ?_
 refine cy_condT rfl ?_
 refine cy_seq ?_
 refine cy_region ?_
 refine sy_move rfl rfl rfl ?_
 refine sy_move rfl rfl rfl ?_
 refine sy_move rfl rfl rfl ?_
 refine sy_cmp rfl rfl rfl rfl rfl ?_
 refine sy_pickT rfl rfl rfl rfl ?_
 refine sy_move rfl rfl rfl ?_
 refine sy_setT (d := 81) rfl rfl (by first | rfl | (simp; done)) ?_
 refine sy_move rfl rfl rfl ?_
 refine sy_cmp rfl rfl rfl rfl rfl ?_
 refine sy_pickT rfl rfl rfl rfl ?_
 refine sy_assign rfl rfl rfl ?_
 refine sy_nil rfl ?_
 refine ny_next ?_
 refine cy_ret ?_
 refine ny_thenR ?_
 refine ny_finR (res1 rfl rfl) (fun w hs2 => ⟨rfl, hs2.frm⟩)
set_option maxRecDepth 100000 in
theorem sealsG_c (c0 c1 c2 : UInt8) (h : Hp) (hh : Hdl h) (h0 : ((dgN c1 : Nat) : Int) < ((c2.toNat % 12 : Nat) : Int)) : C0 Tryd.prog 8 [.int .u8 (c0.toNat : Int), .int .u8 (c1.toNat : Int), .int .u8 (c2.toNat : Int), .bool false] h (.bool true) := by
 refine enter0 Tryd.func8 rfl rfl rfl (fun w => ?_)
 refine cy_seq ?_
 refine cy_region ?_
 refine sy_assign rfl rfl rfl ?_
 refine sy_nil rfl ?_
 refine ny_next ?_
 refine cy_seq ?_
 refine cy_region ?_
 refine sy_call rfl call_9 rfl (shown07_c _ hh) rfl rfl ?_
 refine sy_setT (d := 20) rfl rfl rfl ?_
 refine sy_assign rfl rfl rfl ?_
 refine sy_nil rfl ?_
 refine ny_next ?_
 refine cy_seq ?_
 refine cy_region ?_
 refine sy_move rfl rfl rfl ?_
 refine sy_rem8 (a := c2.toNat) (b := 12) rfl rfl (by decide) (by decide) (by have := c2.toNat_lt; omega) rfl rfl ?_
 refine sy_convK (z := ((c2.toNat % 12 : Nat) : Int)) Tryd.underlying5 Tryd.underlying3 rfl (by rw [IntWalk.i64_in _ ⟨by omega, by omega⟩]) rfl rfl ?_
 refine sy_assign rfl rfl rfl ?_
 refine sy_nil rfl ?_
 refine ny_next ?_
 refine cy_seq ?_
 refine cy_region ?_
 refine sy_move rfl rfl rfl ?_
 refine sy_rem8 (a := c1.toNat) (b := 10) rfl rfl (by decide) (by decide) (by have := c1.toNat_lt; omega) rfl rfl ?_
 refine sy_addK (z := ((48 + dgN c1 : Nat) : Int)) rfl rfl (by have := dgN_lt c1; rw [IntWalk.u8_in _ ⟨by omega, by omega⟩]; unfold dgN; omega) rfl rfl ?_
 refine sy_buildSlice rfl (fun w => bsl_36_1_0 w) rfl rfl (fun b27 hb27 hM27 => ?_) (by simp)
 refine sy_byte1 (u := digC (dgN c1)) 0 Tryd.underlying36 Tryd.underlying5 Tryd.underlying9 rfl rfl (dig_byte c1) rfl rfl ?_
 refine sy_assign rfl rfl rfl ?_
 refine sy_nil rfl ?_
 refine ny_next ?_
 refine cy_seq ?_
 refine cy_region ?_
 refine sy_move rfl rfl rfl ?_
 refine sy_rem8 (a := c0.toNat) (b := 26) rfl rfl (by decide) (by decide) (by have := c0.toNat_lt; omega) rfl rfl ?_
 refine sy_addK (z := ((97 + c0.toNat % 26 : Nat) : Int)) rfl rfl (by rw [IntWalk.u8_in _ ⟨by omega, by omega⟩]; omega) rfl rfl ?_
 refine sy_buildSlice rfl (fun w => bsl_36_1_0 w) rfl rfl (fun b32 hb32 hM32 => ?_) (by simp)
 refine sy_byte1 (u := smL c0) 0 Tryd.underlying36 Tryd.underlying5 Tryd.underlying9 rfl rfl (smL_byte c0) rfl rfl ?_
 refine sy_cat rfl rfl (by (try simp only [ByteArray.size_append]); (try simp only [bz, List.length_cons, List.length_nil]); omega) rfl rfl ?_
 refine sy_cat rfl rfl (by (try simp only [ByteArray.size_append]); (try simp only [bz, List.length_cons, List.length_nil]); omega) rfl rfl ?_
 refine sy_assign rfl rfl rfl ?_
 refine sy_nil rfl ?_
 refine ny_next ?_
 refine cy_seq ?_
 refine cy_region ?_
 refine sy_move rfl rfl rfl ?_
 refine sy_rem8 (a := c0.toNat) (b := 26) rfl rfl (by decide) (by decide) (by have := c0.toNat_lt; omega) rfl rfl ?_
 refine sy_addK (z := ((97 + c0.toNat % 26 : Nat) : Int)) rfl rfl (by rw [IntWalk.u8_in _ ⟨by omega, by omega⟩]; omega) rfl rfl ?_
 refine sy_buildSlice rfl (fun w => bsl_36_1_0 w) rfl rfl (fun b39 hb39 hM39 => ?_) (by simp)
 refine sy_byte1 (u := smL c0) 0 Tryd.underlying36 Tryd.underlying5 Tryd.underlying9 rfl rfl (smL_byte c0) rfl rfl ?_
 refine sy_call rfl call_18 rfl (atom_c ⟨#[smL c0]⟩ _) rfl rfl ?_
 refine sy_buildSlice (cs := [(GT.mk 3 0 ⟨#[smL c0]⟩ none 0 [])].flatMap GT.cells) rfl (fun w => bsl_23_1_0 w) rfl rfl (fun b42 hb42 hM42 => ?_) (by simp)
 refine sy_frz 0 rfl (by simp) (fun h42 hle42 hbx42 => ?_)
 replace hh := hh.le hle42
 have hr42 : RowsAt h42 (some ⟨b42, 0, none⟩) 4 ([(GT.mk 3 0 ⟨#[smL c0]⟩ none 0 [])].map GT.cells) := rows_blk (by decide) (GT.cells_len _) hbx42
 refine sy_callx call_16 rfl (make_c ⟨#[102]⟩ (some ⟨b42, 0, none⟩) 1 [(GT.mk 3 0 ⟨#[smL c0]⟩ none 0 [])] _ rfl hr42 (by simp)) rfl rfl (fun x43 h43 hx43 hle43 => ?_)
 obtain ⟨A43, c43⟩ := x43
 replace hh := hh.le hle43
 have hlf0 : Lies h43 (GT.mk 3 0 ⟨#[smL c0]⟩ none 0 []) ∧ Fits (GT.mk 3 0 ⟨#[smL c0]⟩ none 0 []) := ⟨lies_leaf _ _ _ _, fits_leaf (by decide) (by decide) (by decide) (by decide) (by rw [bz]; exact (by decide : (1 : Nat) ≤ 140737488355328))⟩
 have hlf43 : Lies h43 (GT.mk 3 0 ⟨#[102]⟩ A43 c43 [(GT.mk 3 0 ⟨#[smL c0]⟩ none 0 [])]) ∧ Fits (GT.mk 3 0 ⟨#[102]⟩ A43 c43 [(GT.mk 3 0 ⟨#[smL c0]⟩ none 0 [])]) := ⟨.intro _ _ _ _ _ _ hx43.2 hx43.1 (fun t h9 => by rw [List.mem_singleton.1 h9]; exact hlf0.1), fits_kids (by decide) (by decide) (by decide) (by decide) (by decide) (by simp) (fun t h9 => by rw [List.mem_singleton.1 h9]; exact hlf0.2)⟩
 refine sy_alloc zer_30 rfl rfl (fun b13 hb13 hM13 => ?_) (by simp)
 first | refine sy_stl 0 sz_30 rfl rfl rfl rfl rfl rfl rfl rfl ?_ | refine sy_stl 1 sz_30 rfl rfl rfl rfl rfl rfl rfl rfl ?_ | refine sy_stl 2 sz_30 rfl rfl rfl rfl rfl rfl rfl rfl ?_ | refine sy_stl 3 sz_30 rfl rfl rfl rfl rfl rfl rfl rfl ?_ | refine sy_stl 4 sz_30 rfl rfl rfl rfl rfl rfl rfl rfl ?_ | refine sy_stl 5 sz_30 rfl rfl rfl rfl rfl rfl rfl rfl ?_
 refine sy_nil rfl ?_
 refine ny_next ?_
 refine cy_seq ?_
 refine cy_seq ?_
 refine cy_region ?_
 refine sy_move rfl rfl rfl ?_
 refine sy_setF (d := 44) rfl rfl rfl ?_
 refine sy_nil rfl ?_
 refine ny_next ?_
 refine cy_condF rfl ?_
 refine cy_skip ?_
 refine ny_next ?_
 refine cy_seq ?_
 refine cy_region ?_
 refine sy_move rfl rfl rfl ?_
 refine sy_cat rfl rfl (by (try simp only [ByteArray.size_append]); (try simp only [bz, List.length_cons, List.length_nil]); omega) rfl rfl ?_
 refine sy_move rfl rfl rfl ?_
 refine sy_cat rfl rfl (by (try simp only [ByteArray.size_append]); (try simp only [bz, List.length_cons, List.length_nil]); omega) rfl rfl ?_
 refine sy_cat rfl rfl (by (try simp only [ByteArray.size_append]); (try simp only [bz, List.length_cons, List.length_nil]); omega) rfl rfl ?_
 refine sy_move rfl rfl rfl ?_
 refine sy_callx call_10 rfl (allL_c _ (se1C false (smL c0) (dgN c1)) (by simp only [ba_cat]; rfl) (((c2.toNat % 12 : Nat) : Int)) _ hh) rfl rfl (fun x52 h52 hx52 hle52 => ?_)
 obtain ⟨es52, A52, c52⟩ := x52
 obtain ⟨hT52, hr52, hc52, hz52, hg52⟩ := hx52
 simp only at hT52 hr52 hc52 hz52 hg52 ⊢
 replace hh := hh.le hle52
 have hs52 := (seal_read (lv := ((c2.toNat % 12 : Nat) : Int)) (v := false) (c := smL c0) (d := dgN c1) (smL_small c0) (dgN_lt c1)).1 ⟨rfl, h0⟩
 rw [hs52] at hT52 ⊢
 obtain ⟨p, rfl, hp⟩ := map_one hT52
 refine sy_move rfl rfl rfl ?_
 refine sy_extract rfl rfl rfl rfl ?_
 refine sy_extract rfl rfl rfl rfl ?_
 refine sy_extract rfl rfl rfl rfl ?_
 refine sy_assign rfl rfl rfl ?_
 refine sy_assign rfl rfl rfl ?_
 refine sy_assign rfl rfl rfl ?_
 refine sy_nil rfl ?_
 refine ny_next ?_
 refine cy_seq ?_
 refine cy_region ?_
 refine sy_move rfl rfl rfl ?_
 refine sy_cat rfl rfl (by (try simp only [ByteArray.size_append]); (try simp only [bz, List.length_cons, List.length_nil]); omega) rfl rfl ?_
 refine sy_cat rfl rfl (by (try simp only [ByteArray.size_append]); (try simp only [bz, List.length_cons, List.length_nil]); omega) rfl rfl ?_
 refine sy_move rfl rfl rfl ?_
 refine sy_cat rfl rfl (by (try simp only [ByteArray.size_append]); (try simp only [bz, List.length_cons, List.length_nil]); omega) rfl rfl ?_
 refine sy_cat rfl rfl (by (try simp only [ByteArray.size_append]); (try simp only [bz, List.length_cons, List.length_nil]); omega) rfl rfl ?_
 refine sy_move rfl rfl rfl ?_
 refine sy_callx call_10 rfl (allL_c _ (se2C false (smL c0) (dgN c1)) (by simp only [ba_cat]; rfl) (((c2.toNat % 12 : Nat) : Int)) _ hh) rfl rfl (fun x64 h64 hx64 hle64 => ?_)
 obtain ⟨es64, A64, c64⟩ := x64
 obtain ⟨hT64, hr64, hc64, hz64, hg64⟩ := hx64
 simp only at hT64 hr64 hc64 hz64 hg64 ⊢
 replace hh := hh.le hle64
 replace hr52 := hr52.le hle64
 replace hg52 := fun t h9 => (⟨⟨(hg52 t h9).1.1.le hle64, (hg52 t h9).1.2⟩, (hg52 t h9).2⟩ : (Lies h64 t ∧ Fits t) ∧ wtG t ≤ 294912)
 have hs64 := (seal_read2 (lv := ((c2.toNat % 12 : Nat) : Int)) (v := false) (c := smL c0) (d := dgN c1) (smL_small c0) (dgN_lt c1)).1 ⟨rfl, h0⟩
 rw [hs64] at hT64 ⊢
 obtain ⟨q, rfl, hq⟩ := map_one hT64
 refine sy_move rfl rfl rfl ?_
 refine sy_extract rfl rfl rfl rfl ?_
 refine sy_extract rfl rfl rfl rfl ?_
 refine sy_extract rfl rfl rfl rfl ?_
 refine sy_assign rfl rfl rfl ?_
 refine sy_assign rfl rfl rfl ?_
 refine sy_assign rfl rfl rfl ?_
 refine sy_nil rfl ?_
 refine ny_next ?_
 refine cy_seq ?_
 refine cy_seq ?_
 refine cy_region ?_
 refine sy_move rfl rfl rfl ?_
 refine sy_setF (d := 68) rfl rfl rfl ?_
 refine sy_move rfl rfl rfl ?_
 refine sy_move rfl rfl rfl ?_
 refine sy_rem8 (a := c1.toNat) (b := 10) rfl rfl (by decide) (by decide) (by have := c1.toNat_lt; omega) rfl rfl ?_
 refine sy_convK (z := ((dgN c1 : Nat) : Int)) Tryd.underlying5 Tryd.underlying3 rfl (by have := dgN_lt c1; rw [IntWalk.i64_in _ ⟨by omega, by omega⟩]; rfl) rfl rfl ?_
 refine sy_move rfl rfl rfl ?_
 refine sy_cmp rfl rfl rfl rfl rfl ?_
 refine sy_setF (d := 74) rfl rfl (decide_eq_false (by first | (have h9 := h0; simp only [ge_iff_le]; omega) | (simp only [ge_iff_le]; exact Int.not_lt.1 (fun h8 => h0 ⟨rfl, h8⟩)))) ?_
 refine sy_pickF rfl rfl rfl rfl ?_
 refine sy_nil rfl ?_
 refine ny_next ?_
 refine cy_condF rfl ?_
 refine cy_skip ?_
 refine ny_next ?_
 refine cy_seq ?_
 refine cy_frz 0 rfl (by simp) (fun h12 hle12 hbx12 => ?_)
 have hrp := hr52.le hle12
 have hrq := hr64.le hle12
 have hgp : Lies h12 p ∧ Fits p := ⟨(hg52 p (by simp)).1.1.le hle12, (hg52 p (by simp)).1.2⟩
 have hgq : Lies h12 q ∧ Fits q := ⟨(hg64 q (by simp)).1.1.le hle12, (hg64 q (by simp)).1.2⟩
 replace hlf43 : Lies h12 (GT.mk 3 0 ⟨#[102]⟩ A43 c43 [(GT.mk 3 0 ⟨#[smL c0]⟩ none 0 [])]) ∧ Fits (GT.mk 3 0 ⟨#[102]⟩ A43 c43 [(GT.mk 3 0 ⟨#[smL c0]⟩ none 0 [])]) := ⟨((hlf43.1.le hle52).le hle64).le hle12, hlf43.2⟩
 have hpk : p.k = 4 := by rw [← GT.tm_k, hp]; rfl
 have hpn : p.n = ((dgN c1 : Nat) : Int) := by rw [← GT.tm_n, hp]; rfl
 obtain ⟨kd, hkd, hkt⟩ : ∃ kd, p.kids = [kd] ∧ kd.tm = fT false (smL c0) := map_one (by rw [← GT.tm_kids, hp]; rfl)
 have hmk : kd ∈ p.kids := by rw [hkd]; simp
 refine cy_regionQ mixed (by kernel_rfl) ?_
 refine sy_move rfl rfl rfl ?_
 refine sy_move rfl rfl rfl ?_
 refine sy_move rfl rfl rfl ?_
 refine sy_cmp rfl rfl rfl rfl rfl ?_
 refine sy_pickT rfl rfl rfl rfl ?_
 refine sy_move rfl rfl rfl ?_
 refine sy_setT (d := 90) rfl rfl (by first | rfl | (simp; done)) ?_
 refine sy_move rfl rfl rfl ?_
 refine sy_cmp rfl rfl rfl rfl rfl ?_
 refine sy_pickT rfl rfl rfl rfl ?_
 refine sy_move rfl rfl rfl ?_
 refine sy_setT (d := 94) rfl rfl (by first | rfl | (simp; done)) ?_
 refine sy_move rfl rfl rfl ?_
 refine sy_len rfl (len_slice Tryd.underlying23 _ _ _) rfl rfl ?_
 refine sy_cmp rfl rfl rfl rfl rfl ?_
 refine sy_pickT rfl rfl rfl rfl ?_
 refine sy_move rfl rfl rfl ?_
 refine sy_setT (d := 99) rfl rfl (by first | rfl | (simp; done)) ?_
 refine sy_move rfl rfl rfl ?_
 refine sy_len rfl (len_slice Tryd.underlying23 _ _ _) rfl rfl ?_
 refine sy_cmp rfl rfl rfl rfl rfl ?_
 refine sy_pickT rfl rfl rfl rfl ?_
 refine sy_move rfl rfl rfl ?_
 refine sy_setT (d := 104) rfl rfl (by first | rfl | (simp; done)) ?_
 refine sy_move rfl rfl rfl ?_
 refine sy_idxR (i := 0) (fc := GT.cells) (es := [p]) els_23 rfl rfl hrp rfl (by simp) rfl rfl (fun e106 b106 o106 he106 hA106 hc106 => ?_)
 obtain rfl : p = e106 := Option.some.inj he106
 refine sy_ldah (vs := GT.cells p) agg_30 rfl rfl hc106 rfl rfl ?_
 refine sy_move rfl rfl rfl ?_
 refine sy_idxR (i := 0) (fc := GT.cells) (es := [q]) els_23 rfl rfl hrq rfl (by simp) rfl rfl (fun e109 b109 o109 he109 hA109 hc109 => ?_)
 obtain rfl : q = e109 := Option.some.inj he109
 refine sy_ldah (vs := GT.cells q) agg_30 rfl rfl hc109 rfl rfl ?_
 refine sy_call rfl call_17 rfl (same_c p q _ hgp.1 hgp.2 hgq.1 hgq.2) rfl rfl ?_
 rw [same_refl (a := p.tm) (b := q.tm) (by rw [hp, hq])]
 refine sy_setT (d := 111) rfl rfl rfl ?_
 refine sy_pickT rfl rfl rfl rfl ?_
 refine sy_move rfl rfl rfl ?_
 refine sy_move rfl rfl rfl ?_
 refine sy_idxR (i := 0) (fc := GT.cells) (es := [p]) els_23 rfl rfl hrp rfl (by simp) rfl rfl (fun e115 b115 o115 he115 hA115 hc115 => ?_)
 obtain rfl : p = e115 := Option.some.inj he115
 refine sy_field fld_30_0 rfl rfl rfl ?_
 refine sy_ldh one_3 rfl (hc115 0 _ rfl) rfl rfl ?_
 refine sy_cmp rfl rfl rfl rfl rfl ?_
 refine sy_setT (d := 118) rfl rfl (by rw [hpk]; rfl) ?_
 refine sy_pickT rfl rfl rfl rfl ?_
 refine sy_move rfl rfl rfl ?_
 refine sy_move rfl rfl rfl ?_
 refine sy_idxR (i := 0) (fc := GT.cells) (es := [p]) els_23 rfl rfl hrp rfl (by simp) rfl rfl (fun e122 b122 o122 he122 hA122 hc122 => ?_)
 obtain rfl : p = e122 := Option.some.inj he122
 refine sy_field fld_30_1 rfl rfl rfl ?_
 refine sy_ldh one_2 rfl (hc122 1 _ rfl) rfl rfl ?_
 refine sy_move rfl rfl rfl ?_
 refine sy_rem8 (a := c1.toNat) (b := 10) rfl rfl (by decide) (by decide) (by have := c1.toNat_lt; omega) rfl rfl ?_
 refine sy_convK (z := ((dgN c1 : Nat) : Int)) Tryd.underlying5 Tryd.underlying2 rfl (by have := dgN_lt c1; rw [IntWalk.i64_in _ ⟨by omega, by omega⟩]; rfl) rfl rfl ?_
 refine sy_cmp rfl rfl rfl rfl rfl ?_
 refine sy_setT (d := 128) rfl rfl (by rw [hpn]; simp) ?_
 refine sy_pickT rfl rfl rfl rfl ?_
 refine sy_move rfl rfl rfl ?_
 refine sy_move rfl rfl rfl ?_
 refine sy_idxR (i := 0) (fc := GT.cells) (es := [p]) els_23 rfl rfl hrp rfl (by simp) rfl rfl (fun e132 b132 o132 he132 hA132 hc132 => ?_)
 obtain rfl : p = e132 := Option.some.inj he132
 refine sy_field fld_30_3 rfl rfl rfl ?_
 refine sy_ldh one_23 rfl (hc132 3 _ rfl) rfl rfl ?_
 refine sy_idxR (i := 0) (fc := GT.cells) (es := p.kids) els_23 rfl rfl (lies_rows hgp.1) rfl (by rw [hkd]; simp) rfl rfl (fun e135 b135 o135 he135 hA135 hc135 => ?_)
 obtain rfl : kd = e135 := Option.some.inj (by rw [hkd] at he135; exact he135)
 refine sy_ldah (vs := GT.cells kd) agg_30 rfl rfl hc135 rfl rfl ?_
 refine sy_ldah (vs := GT.cells (GT.mk 3 0 ⟨#[102]⟩ A43 c43 [(GT.mk 3 0 ⟨#[smL c0]⟩ none 0 [])])) agg_30 rfl rfl (Hp.blk hbx12) rfl rfl ?_
 refine sy_call rfl call_17 rfl (same_c kd (GT.mk 3 0 ⟨#[102]⟩ A43 c43 [(GT.mk 3 0 ⟨#[smL c0]⟩ none 0 [])]) _ (lies_kid hgp.1 hmk) (fits_kid hgp.2 hmk) hlf43.1 hlf43.2) rfl rfl ?_
 rw [same_refl (a := kd.tm) (b := (GT.mk 3 0 ⟨#[102]⟩ A43 c43 [(GT.mk 3 0 ⟨#[smL c0]⟩ none 0 [])]).tm) (by rw [hkt]; simp only [GT.tm_mk, List.map_cons, List.map_nil]; rfl)]
 refine sy_setT (d := 138) rfl rfl rfl ?_
 refine sy_pickT rfl rfl rfl rfl ?_
 refine sy_assign rfl rfl rfl ?_
 refine sy_nil rfl ?_
 refine ny_next ?_
 refine cy_ret ?_
 refine ny_finR (res1 rfl rfl) (fun w hs2 => ⟨rfl, hs2.frm⟩)
theorem seals07_c (c0 c1 c2 : UInt8) (b : Bool) (h : Hp) (hh : Hdl h) : C0 Tryd.prog 8 [.int .u8 (c0.toNat : Int), .int .u8 (c1.toNat : Int), .int .u8 (c2.toNat : Int), .bool b] h (.bool true) := by
 cases b with
 | true => exact sealsT_c c0 c1 c2 h hh (fun h9 => by cases h9.1)
 | false =>
  by_cases h0 : ((dgN c1 : Nat) : Int) < ((c2.toNat % 12 : Nat) : Int)
  · exact sealsG_c c0 c1 c2 h hh h0
  · exact sealsB_c c0 c1 c2 h hh (fun h9 => h0 h9.2)
end Go.Proofs.YtanhhihechakhaaDoor

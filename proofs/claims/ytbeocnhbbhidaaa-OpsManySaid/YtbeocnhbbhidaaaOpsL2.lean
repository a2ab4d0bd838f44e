/- The laws OpsAll and OpsMany: each returns true, and turns nothing. Conditions: none. Printed by a program of this session. -/
import Derived.Test.YtbeocnhbbhidaaaOpsL
import Derived.Test.YtbeocnhbbhidaaaFactsM
set_option linter.unusedVariables false
set_option linter.unusedSimpArgs false
namespace Go.Proofs.Ytbeocnhbbhidaaa
open Go.RowKit Go.Proofs.Ytbeocnhbbhidaaa.E Go.Proofs.Ytbeocnhbbhidaaa.OpsP
theorem u8_121 (t : UInt8) : ((t.toNat : Int) == 121) = (t == 121) := by
  rw [Bool.eq_iff_iff, beq_iff_eq, beq_iff_eq]
  constructor
  · intro h
    exact UInt8.toNat_inj.1 (by have : t.toNat = 121 := by omega
                                exact this)
  · rintro rfl
    rfl
theorem names_at {h : Hp} {g t i : Nat} {p : Int} {ty nm : List UInt8} (hg : h g = some (.cells (allNames.map fun n => Value.string ⟨n.toArray⟩).toArray t (0, 0))) (ho : opsL[i]? = some (p, ty, nm)) : h.cell ⟨g, 0 + (i : Int).toNat * 1, none⟩ = some (.string ⟨nm.toArray⟩) := by
  have h1 : allNames[i]? = some nm := by simp [allNames, ho]
  simp [Hp.cell, hg, h1]
theorem len_ne {i k : Nat} {nm nm' ty ty' : List UInt8} (hap : ¬ i = k → ¬ (nm = nm' ∧ ty.length = ty'.length)) (h1 : ((i : Int) != (k : Int)) = true) (h2 : ((⟨nm.toArray⟩ : ByteArray).data.toList == (⟨nm'.toArray⟩ : ByteArray).data.toList) = true) :
    (((⟨ty.toArray⟩ : ByteArray).size : Int) == ((⟨ty'.toArray⟩ : ByteArray).size : Int)) = false := by
  have h3 : ¬ i = k := by
    rintro rfl
    simp at h1
  have h4 : nm = nm' := by simpa using h2
  have h5 : ¬ ty.length = ty'.length := fun h => hap h3 ⟨h4, h⟩
  rw [beq_eq_false_iff_ne]
  simp only [ByteArray.size, List.size_toArray, ne_eq]
  omega
section
variable {p : Int} {ty nm L : List UInt8}
theorem len3_t (h : (((⟨ty.toArray⟩ : ByteArray).size : Int) == 3) = true) : ((fun o : OpT => o.2.1.length == 3) (p, ty, nm)) = true := by
  simp [ByteArray.size] at h ⊢
  omega
theorem len3_f (h : (((⟨ty.toArray⟩ : ByteArray).size : Int) == 3) = false) : ¬ ((fun o : OpT => o.2.1.length == 3) (p, ty, nm)) = true := by
  simp [ByteArray.size] at h ⊢
  omega
theorem len3_m (h : (((⟨ty.toArray⟩ : ByteArray).size : Int) == 3) = false) : ((fun o : OpT => !(o.2.1.length == 3)) (p, ty, nm)) = true := by
  simp [ByteArray.size] at h ⊢
  omega
theorem len3_n (h : (((⟨ty.toArray⟩ : ByteArray).size : Int) == 3) = true) : ¬ ((fun o : OpT => !(o.2.1.length == 3)) (p, ty, nm)) = true := by
  simp [ByteArray.size] at h ⊢
  omega
theorem hit_t {k : Int} (h1 : ((⟨nm.toArray⟩ : ByteArray).data.toList == L) = true) (h2 : (((⟨ty.toArray⟩ : ByteArray).size : Int) == k) = true) : hit L k (p, ty, nm) = true := by
  simp [ByteArray.size] at h1 h2
  simp [hit, h1, h2]
theorem hit_f1 {k : Int} (h1 : ((⟨nm.toArray⟩ : ByteArray).data.toList == L) = false) : ¬ hit L k (p, ty, nm) = true := by
  simp at h1
  simp [hit, h1]
theorem hit_f2 {k : Int} (h2 : (((⟨ty.toArray⟩ : ByteArray).size : Int) == k) = false) : ¬ hit L k (p, ty, nm) = true := by
  simp [ByteArray.size] at h2
  simp [hit, h2]
theorem many3 (ht : told (p, ty, nm) = true) (h : (((⟨ty.toArray⟩ : ByteArray).size : Int) == 3) = true) (h2 : (!(refInfix nm).2.2.2) = true) : False := by
  have hl : ty.length = 3 := by
    simp [ByteArray.size] at h
    omega
  unfold told at ht
  simp only [hl, if_true, Bool.and_eq_true] at ht
  have := ht.1.1.1.1.1.1.1.1.1
  simp [this] at h2
theorem many2 (ht : told (p, ty, nm) = true) (h : (((⟨ty.toArray⟩ : ByteArray).size : Int) == 3) = false) (h2 : (!(refPrefix nm).2.2) = true) : False := by
  have hl : ¬ ty.length = 3 := by
    simp [ByteArray.size] at h
    omega
  unfold told at ht
  simp only [hl, if_false, Bool.and_eq_true] at ht
  have := ht.1.1.1.1.2
  simp [this] at h2
end
set_option maxRecDepth 100000 in
theorem opsAll_3 (c0 c1 : UInt8) (h : Hp) (i k : Nat) (hi : i = c0.toNat % 26) (hk : k = c1.toNat % 26) (p p' : Int) (t0 t1 t2 : UInt8) (nm ty' nm' : List UInt8) (ho : opsL[i]? = some (p, ([t0, t1, t2] : List UInt8), nm)) (ho' : opsL[k]? = some (p', ty', nm')) (hp1 : 1 ≤ p) (hp2 : p ≤ 1200) (hc0 : c0.toNat < 256) (hc1 : c1.toNat < 256) (hap : ¬ i = k → ¬ (nm = nm' ∧ ([t0, t1, t2] : List UInt8).length = ty'.length)) (a b : Int) (hX : refInfix nm = (a, p, b, true)) (h1 : ((a == p) == ((t0.toNat : Int) == 121)) = true) (h2 : ((b == p) == ((t2.toNat : Int) == 121)) = true) (h3 : a ≥ p - 1) (h4 : b ≥ p - 1) : C0 Try.prog 4 [.int .u8 (c0.toNat : Int), .int .u8 (c1.toNat : Int)] h (.bool true) := by
  refine enter0 Try.func4 rfl rfl rfl (fun w => ?_)
  refine cy_seq ?_
  refine cy_region ?_
  refine sy_assign rfl rfl rfl ?_
  refine sy_nil rfl ?_
  refine ny_next ?_
  refine cy_seq ?_
  refine cy_region ?_
  refine sy_call rfl call_16 rfl (shown_c _) rfl rfl ?_
  refine sy_assign rfl rfl rfl ?_
  refine sy_nil rfl ?_
  refine ny_next ?_
  refine cy_seq ?_
  refine cy_region ?_
  refine sy_callx call_21 rfl (all_c _) rfl rfl (fun x9 h2 hx hle9 => ?_)
  obtain ⟨g, c⟩ := x9
  refine sy_assign rfl rfl rfl ?_
  refine sy_nil rfl ?_
  refine ny_next ?_
  refine cy_seq ?_
  refine cy_region ?_
  refine sy_callx call_22 rfl (names_c _) rfl rfl (fun gn h3 hgn hle3 => ?_)
  have hx3 := fun j u hj => hle3.cell (hx j u hj)
  refine sy_assign rfl rfl rfl ?_
  refine sy_nil rfl ?_
  refine ny_next ?_
  refine cy_seq ?_
  refine cy_seq ?_
  refine cy_region ?_
  refine sy_move rfl rfl rfl ?_
  refine sy_len rfl (len_slice Try.underlying28 _ _ _) rfl rfl ?_
  refine sy_move rfl rfl rfl ?_
  refine sy_len rfl (len_slice Try.underlying30 _ _ _) rfl rfl ?_
  refine sy_cmp rfl rfl rfl rfl rfl ?_
  refine sy_nil rfl ?_
  refine ny_next ?_
  refine cy_cond rfl (fun hc24 => ?_) (fun hc24 => ?_)
  · cases hc24
  · refine cy_skip ?_
    refine ny_next ?_
    refine cy_seq ?_
    refine cy_region ?_
    refine sy_move rfl rfl rfl ?_
    refine sy_move rfl rfl rfl ?_
    refine sy_convi Try.underlying5 Try.underlying3 rfl (by omega) (by omega) rfl rfl ?_
    refine sy_move rfl rfl rfl ?_
    refine sy_len rfl (len_slice Try.underlying28 _ _ _) rfl rfl ?_
    refine sy_rem (z := ((i : Nat) : Int)) rfl rfl (by omega) (by decide) (by decide) (by omega) rfl rfl ?_
    refine sy_idxS (ik := .i64) (i := (i : Int)) els_28 rfl rfl (by omega) (by omega) rfl rfl ?_
    refine sy_ldah (vs := [.int .i64 p, .string ⟨([t0, t1, t2] : List UInt8).toArray⟩, .string ⟨nm.toArray⟩]) agg_33 rfl rfl (fun j u hj => by have := hx3 _ u (cellsOf_get ho hj); simpa using this) rfl rfl ?_
    refine sy_alloc zer_33 rfl rfl (fun b8 hb8 hM8 => ?_) (by simp)
    first | refine sy_stl 0 sz_33 rfl rfl rfl rfl rfl rfl rfl rfl ?_ | refine sy_stl 1 sz_33 rfl rfl rfl rfl rfl rfl rfl rfl ?_ | refine sy_stl 2 sz_33 rfl rfl rfl rfl rfl rfl rfl rfl ?_
    refine sy_nil rfl ?_
    refine ny_next ?_
    refine cy_seq ?_
    refine cy_region ?_
    refine sy_move rfl rfl rfl ?_
    refine sy_move rfl rfl rfl ?_
    refine sy_convi Try.underlying5 Try.underlying3 rfl (by omega) (by omega) rfl rfl ?_
    refine sy_move rfl rfl rfl ?_
    refine sy_len rfl (len_slice Try.underlying28 _ _ _) rfl rfl ?_
    refine sy_rem (z := ((k : Nat) : Int)) rfl rfl (by omega) (by decide) (by decide) (by omega) rfl rfl ?_
    refine sy_idxS (ik := .i64) (i := (k : Int)) els_28 rfl rfl (by omega) (by omega) rfl rfl ?_
    refine sy_ldah (vs := [.int .i64 p', .string ⟨ty'.toArray⟩, .string ⟨nm'.toArray⟩]) agg_33 rfl rfl (fun j u hj => by have := hx3 _ u (cellsOf_get ho' hj); simpa using this) rfl rfl ?_
    refine sy_alloc zer_33 rfl rfl (fun b9 hb9 hM9 => ?_) (by simp)
    first | refine sy_stl 0 sz_33 rfl rfl rfl rfl rfl rfl rfl rfl ?_ | refine sy_stl 1 sz_33 rfl rfl rfl rfl rfl rfl rfl rfl ?_ | refine sy_stl 2 sz_33 rfl rfl rfl rfl rfl rfl rfl rfl ?_
    refine sy_nil rfl ?_
    refine ny_next ?_
    refine cy_seq ?_
    refine cy_seq ?_
    refine cy_regionQ mixed (by kernel_rfl) ?_
    refine sy_field fld_33_2 rfl rfl rfl ?_
    first | refine sy_ldr 0 one_9 rfl rfl rfl rfl rfl ?_ | refine sy_ldr 1 one_9 rfl rfl rfl rfl rfl ?_ | refine sy_ldr 2 one_9 rfl rfl rfl rfl rfl ?_
    refine sy_move rfl rfl rfl ?_
    refine sy_move rfl rfl rfl ?_
    refine sy_convi Try.underlying5 Try.underlying3 rfl (by omega) (by omega) rfl rfl ?_
    refine sy_move rfl rfl rfl ?_
    refine sy_len rfl (len_slice Try.underlying28 _ _ _) rfl rfl ?_
    refine sy_rem (z := ((i : Nat) : Int)) rfl rfl (by omega) (by decide) (by decide) (by omega) rfl rfl ?_
    refine sy_idxS (ik := .i64) (i := (i : Int)) els_30 rfl rfl (by omega) (by omega) rfl rfl ?_
    refine sy_ldh one_9 rfl (names_at hgn ho) rfl rfl ?_
    refine sy_nes rfl rfl rfl rfl ?_
    refine sy_setF (d := 51) rfl rfl (by simp) ?_
    refine sy_move rfl rfl rfl ?_
    refine sy_field fld_33_0 rfl rfl rfl ?_
    first | refine sy_ldr 0 one_3 rfl rfl rfl rfl rfl ?_ | refine sy_ldr 1 one_3 rfl rfl rfl rfl rfl ?_ | refine sy_ldr 2 one_3 rfl rfl rfl rfl rfl ?_
    refine sy_cmp rfl rfl rfl rfl rfl ?_
    refine sy_setF (d := 55) rfl rfl (by first | rfl | decide | assumption | (simp only [beq_iff_eq, beq_eq_false_iff_ne, bne_iff_ne, bne_eq_false_iff_eq, decide_eq_true_eq, decide_eq_false_iff_not, ne_eq, Bool.not_eq_true, Bool.not_eq_false] at * <;> omega)) ?_
    refine sy_pickF rfl rfl rfl rfl ?_
    refine sy_move rfl rfl rfl ?_
    refine sy_field fld_33_0 rfl rfl rfl ?_
    first | refine sy_ldr 0 one_3 rfl rfl rfl rfl rfl ?_ | refine sy_ldr 1 one_3 rfl rfl rfl rfl rfl ?_ | refine sy_ldr 2 one_3 rfl rfl rfl rfl rfl ?_
    refine sy_cmp rfl rfl rfl rfl rfl ?_
    refine sy_setF (d := 60) rfl rfl (by first | rfl | decide | assumption | (simp only [beq_iff_eq, beq_eq_false_iff_ne, bne_iff_ne, bne_eq_false_iff_eq, decide_eq_true_eq, decide_eq_false_iff_not, ne_eq, Bool.not_eq_true, Bool.not_eq_false] at * <;> omega)) ?_
    refine sy_pickF rfl rfl rfl rfl ?_
    refine sy_move rfl rfl rfl ?_
    refine sy_move rfl rfl rfl ?_
    refine sy_convi Try.underlying5 Try.underlying3 rfl (by omega) (by omega) rfl rfl ?_
    refine sy_move rfl rfl rfl ?_
    refine sy_len rfl (len_slice Try.underlying28 _ _ _) rfl rfl ?_
    refine sy_rem (z := ((i : Nat) : Int)) rfl rfl (by omega) (by decide) (by decide) (by omega) rfl rfl ?_
    refine sy_move rfl rfl rfl ?_
    refine sy_convi Try.underlying5 Try.underlying3 rfl (by omega) (by omega) rfl rfl ?_
    refine sy_move rfl rfl rfl ?_
    refine sy_len rfl (len_slice Try.underlying28 _ _ _) rfl rfl ?_
    refine sy_rem (z := ((k : Nat) : Int)) rfl rfl (by omega) (by decide) (by decide) (by omega) rfl rfl ?_
    refine sy_cmp rfl rfl rfl rfl rfl ?_
    refine sy_move rfl rfl rfl ?_
    refine sy_cond (d := 74) _ rfl rfl (fun hg74 => ?_) (fun hg74 => ?_)
    · refine sy_field fld_33_2 rfl rfl rfl ?_
      first | refine sy_ldr 0 one_9 rfl rfl rfl rfl rfl ?_ | refine sy_ldr 1 one_9 rfl rfl rfl rfl rfl ?_ | refine sy_ldr 2 one_9 rfl rfl rfl rfl rfl ?_
      refine sy_field fld_33_2 rfl rfl rfl ?_
      first | refine sy_ldr 0 one_9 rfl rfl rfl rfl rfl ?_ | refine sy_ldr 1 one_9 rfl rfl rfl rfl rfl ?_ | refine sy_ldr 2 one_9 rfl rfl rfl rfl rfl ?_
      refine sy_eqs rfl rfl rfl rfl ?_
      refine sy_pickT rfl rfl rfl rfl ?_
      refine sy_move rfl rfl rfl ?_
      refine sy_cond (d := 81) _ rfl rfl (fun hg81 => ?_) (fun hg81 => ?_)
      · refine sy_field fld_33_1 rfl rfl rfl ?_
        first | refine sy_ldr 0 one_9 rfl rfl rfl rfl rfl ?_ | refine sy_ldr 1 one_9 rfl rfl rfl rfl rfl ?_ | refine sy_ldr 2 one_9 rfl rfl rfl rfl rfl ?_
        refine sy_len rfl (len_string Try.underlying9 _) rfl rfl ?_
        refine sy_field fld_33_1 rfl rfl rfl ?_
        first | refine sy_ldr 0 one_9 rfl rfl rfl rfl rfl ?_ | refine sy_ldr 1 one_9 rfl rfl rfl rfl rfl ?_ | refine sy_ldr 2 one_9 rfl rfl rfl rfl rfl ?_
        refine sy_len rfl (len_string Try.underlying9 _) rfl rfl ?_
        refine sy_cmp rfl rfl rfl rfl rfl ?_
        refine sy_setF (d := 88) rfl rfl (len_ne hap hg74 hg81) ?_
        refine sy_pickT rfl rfl rfl rfl ?_
        refine sy_pickF rfl rfl rfl rfl ?_
        refine sy_nil rfl ?_
        refine ny_next ?_
        refine cy_condF rfl ?_
        refine cy_skip ?_
        refine ny_next ?_
        refine cy_seq ?_
        refine cy_region ?_
        refine sy_field fld_33_2 rfl rfl rfl ?_
        first | refine sy_ldr 0 one_9 rfl rfl rfl rfl rfl ?_ | refine sy_ldr 1 one_9 rfl rfl rfl rfl rfl ?_ | refine sy_ldr 2 one_9 rfl rfl rfl rfl rfl ?_
        refine sy_call rfl call_17 rfl (infix_v hX) rfl rfl ?_
        refine sy_move rfl rfl rfl ?_
        refine sy_extract rfl rfl rfl rfl ?_
        refine sy_extract rfl rfl rfl rfl ?_
        refine sy_extract rfl rfl rfl rfl ?_
        refine sy_extract rfl rfl rfl rfl ?_
        refine sy_setT (d := 98) rfl rfl rfl ?_
        refine sy_assign rfl rfl rfl ?_
        refine sy_assign rfl rfl rfl ?_
        refine sy_assign rfl rfl rfl ?_
        refine sy_assign rfl rfl rfl ?_
        refine sy_nil rfl ?_
        refine ny_next ?_
        refine cy_seq ?_
        refine cy_region ?_
        refine sy_field fld_33_2 rfl rfl rfl ?_
        first | refine sy_ldr 0 one_9 rfl rfl rfl rfl rfl ?_ | refine sy_ldr 1 one_9 rfl rfl rfl rfl rfl ?_ | refine sy_ldr 2 one_9 rfl rfl rfl rfl rfl ?_
        refine sy_call rfl call_19 rfl (prefix_c _ _) rfl rfl ?_
        refine sy_move rfl rfl rfl ?_
        refine sy_extract rfl rfl rfl rfl ?_
        refine sy_extract rfl rfl rfl rfl ?_
        refine sy_extract rfl rfl rfl rfl ?_
        refine sy_assign rfl rfl rfl ?_
        refine sy_assign rfl rfl rfl ?_
        refine sy_assign rfl rfl rfl ?_
        refine sy_nil rfl ?_
        refine ny_next ?_
        refine cy_seq ?_
        refine cy_seq ?_
        refine cy_region ?_
        refine sy_field fld_33_1 rfl rfl rfl ?_
        first | refine sy_ldr 0 one_9 rfl rfl rfl rfl rfl ?_ | refine sy_ldr 1 one_9 rfl rfl rfl rfl rfl ?_ | refine sy_ldr 2 one_9 rfl rfl rfl rfl rfl ?_
        refine sy_len rfl (len_string Try.underlying9 _) rfl rfl ?_
        refine sy_cmp rfl rfl rfl rfl rfl ?_
        refine sy_nil rfl ?_
        refine ny_next ?_
        refine cy_cond rfl (fun hc109 => ?_) (fun hc109 => ?_)
        · refine cy_seq ?_
          refine cy_region ?_
          refine sy_move rfl rfl rfl ?_
          refine sy_move rfl rfl rfl ?_
          refine sy_setT (d := 111) rfl rfl (by first | rfl | decide | assumption | (simp only [beq_iff_eq, beq_eq_false_iff_ne, bne_iff_ne, bne_eq_false_iff_eq, decide_eq_true_eq, decide_eq_false_iff_not, ne_eq, Bool.not_eq_true, Bool.not_eq_false] at * <;> omega)) ?_
          refine sy_move rfl rfl rfl ?_
          refine sy_pickT rfl rfl rfl rfl ?_
          refine sy_move rfl rfl rfl ?_
          refine sy_setT (d := 114) rfl rfl (by first | rfl | decide | assumption | (simp only [beq_iff_eq, beq_eq_false_iff_ne, bne_iff_ne, bne_eq_false_iff_eq, decide_eq_true_eq, decide_eq_false_iff_not, ne_eq, Bool.not_eq_true, Bool.not_eq_false] at * <;> omega)) ?_
          refine sy_move rfl rfl rfl ?_
          refine sy_field fld_33_0 rfl rfl rfl ?_
          first | refine sy_ldr 0 one_3 rfl rfl rfl rfl rfl ?_ | refine sy_ldr 1 one_3 rfl rfl rfl rfl rfl ?_ | refine sy_ldr 2 one_3 rfl rfl rfl rfl rfl ?_
          refine sy_cmp rfl rfl rfl rfl rfl ?_
          refine sy_pickT rfl rfl rfl rfl ?_
          refine sy_move rfl rfl rfl ?_
          refine sy_setT (d := 120) rfl rfl (by first | rfl | decide | assumption | (simp only [beq_iff_eq, beq_eq_false_iff_ne, bne_iff_ne, bne_eq_false_iff_eq, decide_eq_true_eq, decide_eq_false_iff_not, ne_eq, Bool.not_eq_true, Bool.not_eq_false] at * <;> omega)) ?_
          refine sy_move rfl rfl rfl ?_
          refine sy_move rfl rfl rfl ?_
          refine sy_cmp rfl rfl rfl rfl rfl ?_
          refine sy_field fld_33_1 rfl rfl rfl ?_
          first | refine sy_ldr 0 one_9 rfl rfl rfl rfl rfl ?_ | refine sy_ldr 1 one_9 rfl rfl rfl rfl rfl ?_ | refine sy_ldr 2 one_9 rfl rfl rfl rfl rfl ?_
          refine sy_idxs Try.underlying9 rfl rfl (by decide) rfl rfl rfl ?_
          refine sy_cmp rfl rfl rfl rfl rfl ?_
          refine sy_eqb (by kernel_rfl) rfl rfl rfl rfl ?_
          refine sy_pickT rfl rfl rfl rfl ?_
          refine sy_move rfl rfl rfl ?_
          refine sy_setT (d := 130) rfl rfl (by first | rfl | decide | assumption | (simp only [beq_iff_eq, beq_eq_false_iff_ne, bne_iff_ne, bne_eq_false_iff_eq, decide_eq_true_eq, decide_eq_false_iff_not, ne_eq, Bool.not_eq_true, Bool.not_eq_false] at * <;> omega)) ?_
          refine sy_move rfl rfl rfl ?_
          refine sy_move rfl rfl rfl ?_
          refine sy_cmp rfl rfl rfl rfl rfl ?_
          refine sy_field fld_33_1 rfl rfl rfl ?_
          first | refine sy_ldr 0 one_9 rfl rfl rfl rfl rfl ?_ | refine sy_ldr 1 one_9 rfl rfl rfl rfl rfl ?_ | refine sy_ldr 2 one_9 rfl rfl rfl rfl rfl ?_
          refine sy_idxs Try.underlying9 rfl rfl (by decide) rfl rfl rfl ?_
          refine sy_cmp rfl rfl rfl rfl rfl ?_
          refine sy_eqb (by kernel_rfl) rfl rfl rfl rfl ?_
          refine sy_pickT rfl rfl rfl rfl ?_
          refine sy_move rfl rfl rfl ?_
          refine sy_setT (d := 140) rfl rfl (by first | rfl | decide | assumption | (simp only [beq_iff_eq, beq_eq_false_iff_ne, bne_iff_ne, bne_eq_false_iff_eq, decide_eq_true_eq, decide_eq_false_iff_not, ne_eq, Bool.not_eq_true, Bool.not_eq_false] at * <;> omega)) ?_
          refine sy_move rfl rfl rfl ?_
          refine sy_move rfl rfl rfl ?_
          refine sy_subi rfl rfl rfl (by omega) (by omega) rfl rfl ?_
          refine sy_cmp rfl rfl rfl rfl rfl ?_
          refine sy_pickT rfl rfl rfl rfl ?_
          refine sy_move rfl rfl rfl ?_
          refine sy_setT (d := 146) rfl rfl (by first | rfl | decide | assumption | (simp only [beq_iff_eq, beq_eq_false_iff_ne, bne_iff_ne, bne_eq_false_iff_eq, decide_eq_true_eq, decide_eq_false_iff_not, ne_eq, Bool.not_eq_true, Bool.not_eq_false] at * <;> omega)) ?_
          refine sy_move rfl rfl rfl ?_
          refine sy_move rfl rfl rfl ?_
          refine sy_subi rfl rfl rfl (by omega) (by omega) rfl rfl ?_
          refine sy_cmp rfl rfl rfl rfl rfl ?_
          refine sy_pickT rfl rfl rfl rfl ?_
          refine sy_assign rfl rfl rfl ?_
          refine sy_nil rfl ?_
          refine ny_next ?_
          refine cy_ret ?_
          refine ny_thenR ?_
          exact ny_finR (res1 rfl rfl) (fun w hs => ⟨ret_true (by first | rfl | decide | assumption | (simp only [beq_iff_eq, beq_eq_false_iff_ne, bne_iff_ne, bne_eq_false_iff_eq, decide_eq_true_eq, decide_eq_false_iff_not, ne_eq, Bool.not_eq_true, Bool.not_eq_false] at * <;> omega)), hs.frm⟩)
        · simp [ByteArray.size] at hc109
      · refine sy_skip rfl rfl rfl ?_
        refine sy_skip rfl rfl rfl ?_
        refine sy_skip rfl rfl rfl ?_
        refine sy_skip rfl rfl rfl ?_
        refine sy_skip rfl rfl rfl ?_
        refine sy_skip rfl rfl rfl ?_
        refine sy_skip rfl rfl rfl ?_
        refine sy_pickF rfl rfl rfl rfl ?_
        refine sy_pickF rfl rfl rfl rfl ?_
        refine sy_nil rfl ?_
        refine ny_next ?_
        refine cy_condF rfl ?_
        refine cy_skip ?_
        refine ny_next ?_
        refine cy_seq ?_
        refine cy_region ?_
        refine sy_field fld_33_2 rfl rfl rfl ?_
        first | refine sy_ldr 0 one_9 rfl rfl rfl rfl rfl ?_ | refine sy_ldr 1 one_9 rfl rfl rfl rfl rfl ?_ | refine sy_ldr 2 one_9 rfl rfl rfl rfl rfl ?_
        refine sy_call rfl call_17 rfl (infix_v hX) rfl rfl ?_
        refine sy_move rfl rfl rfl ?_
        refine sy_extract rfl rfl rfl rfl ?_
        refine sy_extract rfl rfl rfl rfl ?_
        refine sy_extract rfl rfl rfl rfl ?_
        refine sy_extract rfl rfl rfl rfl ?_
        refine sy_setT (d := 98) rfl rfl rfl ?_
        refine sy_assign rfl rfl rfl ?_
        refine sy_assign rfl rfl rfl ?_
        refine sy_assign rfl rfl rfl ?_
        refine sy_assign rfl rfl rfl ?_
        refine sy_nil rfl ?_
        refine ny_next ?_
        refine cy_seq ?_
        refine cy_region ?_
        refine sy_field fld_33_2 rfl rfl rfl ?_
        first | refine sy_ldr 0 one_9 rfl rfl rfl rfl rfl ?_ | refine sy_ldr 1 one_9 rfl rfl rfl rfl rfl ?_ | refine sy_ldr 2 one_9 rfl rfl rfl rfl rfl ?_
        refine sy_call rfl call_19 rfl (prefix_c _ _) rfl rfl ?_
        refine sy_move rfl rfl rfl ?_
        refine sy_extract rfl rfl rfl rfl ?_
        refine sy_extract rfl rfl rfl rfl ?_
        refine sy_extract rfl rfl rfl rfl ?_
        refine sy_assign rfl rfl rfl ?_
        refine sy_assign rfl rfl rfl ?_
        refine sy_assign rfl rfl rfl ?_
        refine sy_nil rfl ?_
        refine ny_next ?_
        refine cy_seq ?_
        refine cy_seq ?_
        refine cy_region ?_
        refine sy_field fld_33_1 rfl rfl rfl ?_
        first | refine sy_ldr 0 one_9 rfl rfl rfl rfl rfl ?_ | refine sy_ldr 1 one_9 rfl rfl rfl rfl rfl ?_ | refine sy_ldr 2 one_9 rfl rfl rfl rfl rfl ?_
        refine sy_len rfl (len_string Try.underlying9 _) rfl rfl ?_
        refine sy_cmp rfl rfl rfl rfl rfl ?_
        refine sy_nil rfl ?_
        refine ny_next ?_
        refine cy_cond rfl (fun hc109 => ?_) (fun hc109 => ?_)
        · refine cy_seq ?_
          refine cy_region ?_
          refine sy_move rfl rfl rfl ?_
          refine sy_move rfl rfl rfl ?_
          refine sy_setT (d := 111) rfl rfl (by first | rfl | decide | assumption | (simp only [beq_iff_eq, beq_eq_false_iff_ne, bne_iff_ne, bne_eq_false_iff_eq, decide_eq_true_eq, decide_eq_false_iff_not, ne_eq, Bool.not_eq_true, Bool.not_eq_false] at * <;> omega)) ?_
          refine sy_move rfl rfl rfl ?_
          refine sy_pickT rfl rfl rfl rfl ?_
          refine sy_move rfl rfl rfl ?_
          refine sy_setT (d := 114) rfl rfl (by first | rfl | decide | assumption | (simp only [beq_iff_eq, beq_eq_false_iff_ne, bne_iff_ne, bne_eq_false_iff_eq, decide_eq_true_eq, decide_eq_false_iff_not, ne_eq, Bool.not_eq_true, Bool.not_eq_false] at * <;> omega)) ?_
          refine sy_move rfl rfl rfl ?_
          refine sy_field fld_33_0 rfl rfl rfl ?_
          first | refine sy_ldr 0 one_3 rfl rfl rfl rfl rfl ?_ | refine sy_ldr 1 one_3 rfl rfl rfl rfl rfl ?_ | refine sy_ldr 2 one_3 rfl rfl rfl rfl rfl ?_
          refine sy_cmp rfl rfl rfl rfl rfl ?_
          refine sy_pickT rfl rfl rfl rfl ?_
          refine sy_move rfl rfl rfl ?_
          refine sy_setT (d := 120) rfl rfl (by first | rfl | decide | assumption | (simp only [beq_iff_eq, beq_eq_false_iff_ne, bne_iff_ne, bne_eq_false_iff_eq, decide_eq_true_eq, decide_eq_false_iff_not, ne_eq, Bool.not_eq_true, Bool.not_eq_false] at * <;> omega)) ?_
          refine sy_move rfl rfl rfl ?_
          refine sy_move rfl rfl rfl ?_
          refine sy_cmp rfl rfl rfl rfl rfl ?_
          refine sy_field fld_33_1 rfl rfl rfl ?_
          first | refine sy_ldr 0 one_9 rfl rfl rfl rfl rfl ?_ | refine sy_ldr 1 one_9 rfl rfl rfl rfl rfl ?_ | refine sy_ldr 2 one_9 rfl rfl rfl rfl rfl ?_
          refine sy_idxs Try.underlying9 rfl rfl (by decide) rfl rfl rfl ?_
          refine sy_cmp rfl rfl rfl rfl rfl ?_
          refine sy_eqb (by kernel_rfl) rfl rfl rfl rfl ?_
          refine sy_pickT rfl rfl rfl rfl ?_
          refine sy_move rfl rfl rfl ?_
          refine sy_setT (d := 130) rfl rfl (by first | rfl | decide | assumption | (simp only [beq_iff_eq, beq_eq_false_iff_ne, bne_iff_ne, bne_eq_false_iff_eq, decide_eq_true_eq, decide_eq_false_iff_not, ne_eq, Bool.not_eq_true, Bool.not_eq_false] at * <;> omega)) ?_
          refine sy_move rfl rfl rfl ?_
          refine sy_move rfl rfl rfl ?_
          refine sy_cmp rfl rfl rfl rfl rfl ?_
          refine sy_field fld_33_1 rfl rfl rfl ?_
          first | refine sy_ldr 0 one_9 rfl rfl rfl rfl rfl ?_ | refine sy_ldr 1 one_9 rfl rfl rfl rfl rfl ?_ | refine sy_ldr 2 one_9 rfl rfl rfl rfl rfl ?_
          refine sy_idxs Try.underlying9 rfl rfl (by decide) rfl rfl rfl ?_
          refine sy_cmp rfl rfl rfl rfl rfl ?_
          refine sy_eqb (by kernel_rfl) rfl rfl rfl rfl ?_
          refine sy_pickT rfl rfl rfl rfl ?_
          refine sy_move rfl rfl rfl ?_
          refine sy_setT (d := 140) rfl rfl (by first | rfl | decide | assumption | (simp only [beq_iff_eq, beq_eq_false_iff_ne, bne_iff_ne, bne_eq_false_iff_eq, decide_eq_true_eq, decide_eq_false_iff_not, ne_eq, Bool.not_eq_true, Bool.not_eq_false] at * <;> omega)) ?_
          refine sy_move rfl rfl rfl ?_
          refine sy_move rfl rfl rfl ?_
          refine sy_subi rfl rfl rfl (by omega) (by omega) rfl rfl ?_
          refine sy_cmp rfl rfl rfl rfl rfl ?_
          refine sy_pickT rfl rfl rfl rfl ?_
          refine sy_move rfl rfl rfl ?_
          refine sy_setT (d := 146) rfl rfl (by first | rfl | decide | assumption | (simp only [beq_iff_eq, beq_eq_false_iff_ne, bne_iff_ne, bne_eq_false_iff_eq, decide_eq_true_eq, decide_eq_false_iff_not, ne_eq, Bool.not_eq_true, Bool.not_eq_false] at * <;> omega)) ?_
          refine sy_move rfl rfl rfl ?_
          refine sy_move rfl rfl rfl ?_
          refine sy_subi rfl rfl rfl (by omega) (by omega) rfl rfl ?_
          refine sy_cmp rfl rfl rfl rfl rfl ?_
          refine sy_pickT rfl rfl rfl rfl ?_
          refine sy_assign rfl rfl rfl ?_
          refine sy_nil rfl ?_
          refine ny_next ?_
          refine cy_ret ?_
          refine ny_thenR ?_
          exact ny_finR (res1 rfl rfl) (fun w hs => ⟨ret_true (by first | rfl | decide | assumption | (simp only [beq_iff_eq, beq_eq_false_iff_ne, bne_iff_ne, bne_eq_false_iff_eq, decide_eq_true_eq, decide_eq_false_iff_not, ne_eq, Bool.not_eq_true, Bool.not_eq_false] at * <;> omega)), hs.frm⟩)
        · simp [ByteArray.size] at hc109
    · refine sy_skip rfl rfl rfl ?_
      refine sy_skip rfl rfl rfl ?_
      refine sy_skip rfl rfl rfl ?_
      refine sy_skip rfl rfl rfl ?_
      refine sy_skip rfl rfl rfl ?_
      refine sy_pickF rfl rfl rfl rfl ?_
      refine sy_move rfl rfl rfl ?_
      refine sy_skip rfl rfl rfl ?_
      refine sy_skip rfl rfl rfl ?_
      refine sy_skip rfl rfl rfl ?_
      refine sy_skip rfl rfl rfl ?_
      refine sy_skip rfl rfl rfl ?_
      refine sy_skip rfl rfl rfl ?_
      refine sy_skip rfl rfl rfl ?_
      refine sy_pickF rfl rfl rfl rfl ?_
      refine sy_pickF rfl rfl rfl rfl ?_
      refine sy_nil rfl ?_
      refine ny_next ?_
      refine cy_condF rfl ?_
      refine cy_skip ?_
      refine ny_next ?_
      refine cy_seq ?_
      refine cy_region ?_
      refine sy_field fld_33_2 rfl rfl rfl ?_
      first | refine sy_ldr 0 one_9 rfl rfl rfl rfl rfl ?_ | refine sy_ldr 1 one_9 rfl rfl rfl rfl rfl ?_ | refine sy_ldr 2 one_9 rfl rfl rfl rfl rfl ?_
      refine sy_call rfl call_17 rfl (infix_v hX) rfl rfl ?_
      refine sy_move rfl rfl rfl ?_
      refine sy_extract rfl rfl rfl rfl ?_
      refine sy_extract rfl rfl rfl rfl ?_
      refine sy_extract rfl rfl rfl rfl ?_
      refine sy_extract rfl rfl rfl rfl ?_
      refine sy_setT (d := 98) rfl rfl rfl ?_
      refine sy_assign rfl rfl rfl ?_
      refine sy_assign rfl rfl rfl ?_
      refine sy_assign rfl rfl rfl ?_
      refine sy_assign rfl rfl rfl ?_
      refine sy_nil rfl ?_
      refine ny_next ?_
      refine cy_seq ?_
      refine cy_region ?_
      refine sy_field fld_33_2 rfl rfl rfl ?_
      first | refine sy_ldr 0 one_9 rfl rfl rfl rfl rfl ?_ | refine sy_ldr 1 one_9 rfl rfl rfl rfl rfl ?_ | refine sy_ldr 2 one_9 rfl rfl rfl rfl rfl ?_
      refine sy_call rfl call_19 rfl (prefix_c _ _) rfl rfl ?_
      refine sy_move rfl rfl rfl ?_
      refine sy_extract rfl rfl rfl rfl ?_
      refine sy_extract rfl rfl rfl rfl ?_
      refine sy_extract rfl rfl rfl rfl ?_
      refine sy_assign rfl rfl rfl ?_
      refine sy_assign rfl rfl rfl ?_
      refine sy_assign rfl rfl rfl ?_
      refine sy_nil rfl ?_
      refine ny_next ?_
      refine cy_seq ?_
      refine cy_seq ?_
      refine cy_region ?_
      refine sy_field fld_33_1 rfl rfl rfl ?_
      first | refine sy_ldr 0 one_9 rfl rfl rfl rfl rfl ?_ | refine sy_ldr 1 one_9 rfl rfl rfl rfl rfl ?_ | refine sy_ldr 2 one_9 rfl rfl rfl rfl rfl ?_
      refine sy_len rfl (len_string Try.underlying9 _) rfl rfl ?_
      refine sy_cmp rfl rfl rfl rfl rfl ?_
      refine sy_nil rfl ?_
      refine ny_next ?_
      refine cy_cond rfl (fun hc109 => ?_) (fun hc109 => ?_)
      · refine cy_seq ?_
        refine cy_region ?_
        refine sy_move rfl rfl rfl ?_
        refine sy_move rfl rfl rfl ?_
        refine sy_setT (d := 111) rfl rfl (by first | rfl | decide | assumption | (simp only [beq_iff_eq, beq_eq_false_iff_ne, bne_iff_ne, bne_eq_false_iff_eq, decide_eq_true_eq, decide_eq_false_iff_not, ne_eq, Bool.not_eq_true, Bool.not_eq_false] at * <;> omega)) ?_
        refine sy_move rfl rfl rfl ?_
        refine sy_pickT rfl rfl rfl rfl ?_
        refine sy_move rfl rfl rfl ?_
        refine sy_setT (d := 114) rfl rfl (by first | rfl | decide | assumption | (simp only [beq_iff_eq, beq_eq_false_iff_ne, bne_iff_ne, bne_eq_false_iff_eq, decide_eq_true_eq, decide_eq_false_iff_not, ne_eq, Bool.not_eq_true, Bool.not_eq_false] at * <;> omega)) ?_
        refine sy_move rfl rfl rfl ?_
        refine sy_field fld_33_0 rfl rfl rfl ?_
        first | refine sy_ldr 0 one_3 rfl rfl rfl rfl rfl ?_ | refine sy_ldr 1 one_3 rfl rfl rfl rfl rfl ?_ | refine sy_ldr 2 one_3 rfl rfl rfl rfl rfl ?_
        refine sy_cmp rfl rfl rfl rfl rfl ?_
        refine sy_pickT rfl rfl rfl rfl ?_
        refine sy_move rfl rfl rfl ?_
        refine sy_setT (d := 120) rfl rfl (by first | rfl | decide | assumption | (simp only [beq_iff_eq, beq_eq_false_iff_ne, bne_iff_ne, bne_eq_false_iff_eq, decide_eq_true_eq, decide_eq_false_iff_not, ne_eq, Bool.not_eq_true, Bool.not_eq_false] at * <;> omega)) ?_
        refine sy_move rfl rfl rfl ?_
        refine sy_move rfl rfl rfl ?_
        refine sy_cmp rfl rfl rfl rfl rfl ?_
        refine sy_field fld_33_1 rfl rfl rfl ?_
        first | refine sy_ldr 0 one_9 rfl rfl rfl rfl rfl ?_ | refine sy_ldr 1 one_9 rfl rfl rfl rfl rfl ?_ | refine sy_ldr 2 one_9 rfl rfl rfl rfl rfl ?_
        refine sy_idxs Try.underlying9 rfl rfl (by decide) rfl rfl rfl ?_
        refine sy_cmp rfl rfl rfl rfl rfl ?_
        refine sy_eqb (by kernel_rfl) rfl rfl rfl rfl ?_
        refine sy_pickT rfl rfl rfl rfl ?_
        refine sy_move rfl rfl rfl ?_
        refine sy_setT (d := 130) rfl rfl (by first | rfl | decide | assumption | (simp only [beq_iff_eq, beq_eq_false_iff_ne, bne_iff_ne, bne_eq_false_iff_eq, decide_eq_true_eq, decide_eq_false_iff_not, ne_eq, Bool.not_eq_true, Bool.not_eq_false] at * <;> omega)) ?_
        refine sy_move rfl rfl rfl ?_
        refine sy_move rfl rfl rfl ?_
        refine sy_cmp rfl rfl rfl rfl rfl ?_
        refine sy_field fld_33_1 rfl rfl rfl ?_
        first | refine sy_ldr 0 one_9 rfl rfl rfl rfl rfl ?_ | refine sy_ldr 1 one_9 rfl rfl rfl rfl rfl ?_ | refine sy_ldr 2 one_9 rfl rfl rfl rfl rfl ?_
        refine sy_idxs Try.underlying9 rfl rfl (by decide) rfl rfl rfl ?_
        refine sy_cmp rfl rfl rfl rfl rfl ?_
        refine sy_eqb (by kernel_rfl) rfl rfl rfl rfl ?_
        refine sy_pickT rfl rfl rfl rfl ?_
        refine sy_move rfl rfl rfl ?_
        refine sy_setT (d := 140) rfl rfl (by first | rfl | decide | assumption | (simp only [beq_iff_eq, beq_eq_false_iff_ne, bne_iff_ne, bne_eq_false_iff_eq, decide_eq_true_eq, decide_eq_false_iff_not, ne_eq, Bool.not_eq_true, Bool.not_eq_false] at * <;> omega)) ?_
        refine sy_move rfl rfl rfl ?_
        refine sy_move rfl rfl rfl ?_
        refine sy_subi rfl rfl rfl (by omega) (by omega) rfl rfl ?_
        refine sy_cmp rfl rfl rfl rfl rfl ?_
        refine sy_pickT rfl rfl rfl rfl ?_
        refine sy_move rfl rfl rfl ?_
        refine sy_setT (d := 146) rfl rfl (by first | rfl | decide | assumption | (simp only [beq_iff_eq, beq_eq_false_iff_ne, bne_iff_ne, bne_eq_false_iff_eq, decide_eq_true_eq, decide_eq_false_iff_not, ne_eq, Bool.not_eq_true, Bool.not_eq_false] at * <;> omega)) ?_
        refine sy_move rfl rfl rfl ?_
        refine sy_move rfl rfl rfl ?_
        refine sy_subi rfl rfl rfl (by omega) (by omega) rfl rfl ?_
        refine sy_cmp rfl rfl rfl rfl rfl ?_
        refine sy_pickT rfl rfl rfl rfl ?_
        refine sy_assign rfl rfl rfl ?_
        refine sy_nil rfl ?_
        refine ny_next ?_
        refine cy_ret ?_
        refine ny_thenR ?_
        exact ny_finR (res1 rfl rfl) (fun w hs => ⟨ret_true (by first | rfl | decide | assumption | (simp only [beq_iff_eq, beq_eq_false_iff_ne, bne_iff_ne, bne_eq_false_iff_eq, decide_eq_true_eq, decide_eq_false_iff_not, ne_eq, Bool.not_eq_true, Bool.not_eq_false] at * <;> omega)), hs.frm⟩)
      · simp [ByteArray.size] at hc109
set_option maxRecDepth 100000 in
theorem opsAll_2 (c0 c1 : UInt8) (h : Hp) (i k : Nat) (hi : i = c0.toNat % 26) (hk : k = c1.toNat % 26) (p p' : Int) (t0 t1 : UInt8) (nm ty' nm' : List UInt8) (ho : opsL[i]? = some (p, ([t0, t1] : List UInt8), nm)) (ho' : opsL[k]? = some (p', ty', nm')) (hp1 : 1 ≤ p) (hp2 : p ≤ 1200) (hc0 : c0.toNat < 256) (hc1 : c1.toNat < 256) (hap : ¬ i = k → ¬ (nm = nm' ∧ ([t0, t1] : List UInt8).length = ty'.length)) (e : Int) (hX : refPrefix nm = (p, e, true)) (h1 : ((e == p) == ([t0, t1] == ([102, 121] : List UInt8))) = true) (h3 : e ≥ p - 1) : C0 Try.prog 4 [.int .u8 (c0.toNat : Int), .int .u8 (c1.toNat : Int)] h (.bool true) := by
  refine enter0 Try.func4 rfl rfl rfl (fun w => ?_)
  refine cy_seq ?_
  refine cy_region ?_
  refine sy_assign rfl rfl rfl ?_
  refine sy_nil rfl ?_
  refine ny_next ?_
  refine cy_seq ?_
  refine cy_region ?_
  refine sy_call rfl call_16 rfl (shown_c _) rfl rfl ?_
  refine sy_assign rfl rfl rfl ?_
  refine sy_nil rfl ?_
  refine ny_next ?_
  refine cy_seq ?_
  refine cy_region ?_
  refine sy_callx call_21 rfl (all_c _) rfl rfl (fun x9 h2 hx hle9 => ?_)
  obtain ⟨g, c⟩ := x9
  refine sy_assign rfl rfl rfl ?_
  refine sy_nil rfl ?_
  refine ny_next ?_
  refine cy_seq ?_
  refine cy_region ?_
  refine sy_callx call_22 rfl (names_c _) rfl rfl (fun gn h3 hgn hle3 => ?_)
  have hx3 := fun j u hj => hle3.cell (hx j u hj)
  refine sy_assign rfl rfl rfl ?_
  refine sy_nil rfl ?_
  refine ny_next ?_
  refine cy_seq ?_
  refine cy_seq ?_
  refine cy_region ?_
  refine sy_move rfl rfl rfl ?_
  refine sy_len rfl (len_slice Try.underlying28 _ _ _) rfl rfl ?_
  refine sy_move rfl rfl rfl ?_
  refine sy_len rfl (len_slice Try.underlying30 _ _ _) rfl rfl ?_
  refine sy_cmp rfl rfl rfl rfl rfl ?_
  refine sy_nil rfl ?_
  refine ny_next ?_
  refine cy_cond rfl (fun hc24 => ?_) (fun hc24 => ?_)
  · cases hc24
  · refine cy_skip ?_
    refine ny_next ?_
    refine cy_seq ?_
    refine cy_region ?_
    refine sy_move rfl rfl rfl ?_
    refine sy_move rfl rfl rfl ?_
    refine sy_convi Try.underlying5 Try.underlying3 rfl (by omega) (by omega) rfl rfl ?_
    refine sy_move rfl rfl rfl ?_
    refine sy_len rfl (len_slice Try.underlying28 _ _ _) rfl rfl ?_
    refine sy_rem (z := ((i : Nat) : Int)) rfl rfl (by omega) (by decide) (by decide) (by omega) rfl rfl ?_
    refine sy_idxS (ik := .i64) (i := (i : Int)) els_28 rfl rfl (by omega) (by omega) rfl rfl ?_
    refine sy_ldah (vs := [.int .i64 p, .string ⟨([t0, t1] : List UInt8).toArray⟩, .string ⟨nm.toArray⟩]) agg_33 rfl rfl (fun j u hj => by have := hx3 _ u (cellsOf_get ho hj); simpa using this) rfl rfl ?_
    refine sy_alloc zer_33 rfl rfl (fun b8 hb8 hM8 => ?_) (by simp)
    first | refine sy_stl 0 sz_33 rfl rfl rfl rfl rfl rfl rfl rfl ?_ | refine sy_stl 1 sz_33 rfl rfl rfl rfl rfl rfl rfl rfl ?_ | refine sy_stl 2 sz_33 rfl rfl rfl rfl rfl rfl rfl rfl ?_
    refine sy_nil rfl ?_
    refine ny_next ?_
    refine cy_seq ?_
    refine cy_region ?_
    refine sy_move rfl rfl rfl ?_
    refine sy_move rfl rfl rfl ?_
    refine sy_convi Try.underlying5 Try.underlying3 rfl (by omega) (by omega) rfl rfl ?_
    refine sy_move rfl rfl rfl ?_
    refine sy_len rfl (len_slice Try.underlying28 _ _ _) rfl rfl ?_
    refine sy_rem (z := ((k : Nat) : Int)) rfl rfl (by omega) (by decide) (by decide) (by omega) rfl rfl ?_
    refine sy_idxS (ik := .i64) (i := (k : Int)) els_28 rfl rfl (by omega) (by omega) rfl rfl ?_
    refine sy_ldah (vs := [.int .i64 p', .string ⟨ty'.toArray⟩, .string ⟨nm'.toArray⟩]) agg_33 rfl rfl (fun j u hj => by have := hx3 _ u (cellsOf_get ho' hj); simpa using this) rfl rfl ?_
    refine sy_alloc zer_33 rfl rfl (fun b9 hb9 hM9 => ?_) (by simp)
    first | refine sy_stl 0 sz_33 rfl rfl rfl rfl rfl rfl rfl rfl ?_ | refine sy_stl 1 sz_33 rfl rfl rfl rfl rfl rfl rfl rfl ?_ | refine sy_stl 2 sz_33 rfl rfl rfl rfl rfl rfl rfl rfl ?_
    refine sy_nil rfl ?_
    refine ny_next ?_
    refine cy_seq ?_
    refine cy_seq ?_
    refine cy_regionQ mixed (by kernel_rfl) ?_
    refine sy_field fld_33_2 rfl rfl rfl ?_
    first | refine sy_ldr 0 one_9 rfl rfl rfl rfl rfl ?_ | refine sy_ldr 1 one_9 rfl rfl rfl rfl rfl ?_ | refine sy_ldr 2 one_9 rfl rfl rfl rfl rfl ?_
    refine sy_move rfl rfl rfl ?_
    refine sy_move rfl rfl rfl ?_
    refine sy_convi Try.underlying5 Try.underlying3 rfl (by omega) (by omega) rfl rfl ?_
    refine sy_move rfl rfl rfl ?_
    refine sy_len rfl (len_slice Try.underlying28 _ _ _) rfl rfl ?_
    refine sy_rem (z := ((i : Nat) : Int)) rfl rfl (by omega) (by decide) (by decide) (by omega) rfl rfl ?_
    refine sy_idxS (ik := .i64) (i := (i : Int)) els_30 rfl rfl (by omega) (by omega) rfl rfl ?_
    refine sy_ldh one_9 rfl (names_at hgn ho) rfl rfl ?_
    refine sy_nes rfl rfl rfl rfl ?_
    refine sy_setF (d := 51) rfl rfl (by simp) ?_
    refine sy_move rfl rfl rfl ?_
    refine sy_field fld_33_0 rfl rfl rfl ?_
    first | refine sy_ldr 0 one_3 rfl rfl rfl rfl rfl ?_ | refine sy_ldr 1 one_3 rfl rfl rfl rfl rfl ?_ | refine sy_ldr 2 one_3 rfl rfl rfl rfl rfl ?_
    refine sy_cmp rfl rfl rfl rfl rfl ?_
    refine sy_setF (d := 55) rfl rfl (by first | rfl | decide | assumption | (simp only [beq_iff_eq, beq_eq_false_iff_ne, bne_iff_ne, bne_eq_false_iff_eq, decide_eq_true_eq, decide_eq_false_iff_not, ne_eq, Bool.not_eq_true, Bool.not_eq_false] at * <;> omega)) ?_
    refine sy_pickF rfl rfl rfl rfl ?_
    refine sy_move rfl rfl rfl ?_
    refine sy_field fld_33_0 rfl rfl rfl ?_
    first | refine sy_ldr 0 one_3 rfl rfl rfl rfl rfl ?_ | refine sy_ldr 1 one_3 rfl rfl rfl rfl rfl ?_ | refine sy_ldr 2 one_3 rfl rfl rfl rfl rfl ?_
    refine sy_cmp rfl rfl rfl rfl rfl ?_
    refine sy_setF (d := 60) rfl rfl (by first | rfl | decide | assumption | (simp only [beq_iff_eq, beq_eq_false_iff_ne, bne_iff_ne, bne_eq_false_iff_eq, decide_eq_true_eq, decide_eq_false_iff_not, ne_eq, Bool.not_eq_true, Bool.not_eq_false] at * <;> omega)) ?_
    refine sy_pickF rfl rfl rfl rfl ?_
    refine sy_move rfl rfl rfl ?_
    refine sy_move rfl rfl rfl ?_
    refine sy_convi Try.underlying5 Try.underlying3 rfl (by omega) (by omega) rfl rfl ?_
    refine sy_move rfl rfl rfl ?_
    refine sy_len rfl (len_slice Try.underlying28 _ _ _) rfl rfl ?_
    refine sy_rem (z := ((i : Nat) : Int)) rfl rfl (by omega) (by decide) (by decide) (by omega) rfl rfl ?_
    refine sy_move rfl rfl rfl ?_
    refine sy_convi Try.underlying5 Try.underlying3 rfl (by omega) (by omega) rfl rfl ?_
    refine sy_move rfl rfl rfl ?_
    refine sy_len rfl (len_slice Try.underlying28 _ _ _) rfl rfl ?_
    refine sy_rem (z := ((k : Nat) : Int)) rfl rfl (by omega) (by decide) (by decide) (by omega) rfl rfl ?_
    refine sy_cmp rfl rfl rfl rfl rfl ?_
    refine sy_move rfl rfl rfl ?_
    refine sy_cond (d := 74) _ rfl rfl (fun hg74 => ?_) (fun hg74 => ?_)
    · refine sy_field fld_33_2 rfl rfl rfl ?_
      first | refine sy_ldr 0 one_9 rfl rfl rfl rfl rfl ?_ | refine sy_ldr 1 one_9 rfl rfl rfl rfl rfl ?_ | refine sy_ldr 2 one_9 rfl rfl rfl rfl rfl ?_
      refine sy_field fld_33_2 rfl rfl rfl ?_
      first | refine sy_ldr 0 one_9 rfl rfl rfl rfl rfl ?_ | refine sy_ldr 1 one_9 rfl rfl rfl rfl rfl ?_ | refine sy_ldr 2 one_9 rfl rfl rfl rfl rfl ?_
      refine sy_eqs rfl rfl rfl rfl ?_
      refine sy_pickT rfl rfl rfl rfl ?_
      refine sy_move rfl rfl rfl ?_
      refine sy_cond (d := 81) _ rfl rfl (fun hg81 => ?_) (fun hg81 => ?_)
      · refine sy_field fld_33_1 rfl rfl rfl ?_
        first | refine sy_ldr 0 one_9 rfl rfl rfl rfl rfl ?_ | refine sy_ldr 1 one_9 rfl rfl rfl rfl rfl ?_ | refine sy_ldr 2 one_9 rfl rfl rfl rfl rfl ?_
        refine sy_len rfl (len_string Try.underlying9 _) rfl rfl ?_
        refine sy_field fld_33_1 rfl rfl rfl ?_
        first | refine sy_ldr 0 one_9 rfl rfl rfl rfl rfl ?_ | refine sy_ldr 1 one_9 rfl rfl rfl rfl rfl ?_ | refine sy_ldr 2 one_9 rfl rfl rfl rfl rfl ?_
        refine sy_len rfl (len_string Try.underlying9 _) rfl rfl ?_
        refine sy_cmp rfl rfl rfl rfl rfl ?_
        refine sy_setF (d := 88) rfl rfl (len_ne hap hg74 hg81) ?_
        refine sy_pickT rfl rfl rfl rfl ?_
        refine sy_pickF rfl rfl rfl rfl ?_
        refine sy_nil rfl ?_
        refine ny_next ?_
        refine cy_condF rfl ?_
        refine cy_skip ?_
        refine ny_next ?_
        refine cy_seq ?_
        refine cy_region ?_
        refine sy_field fld_33_2 rfl rfl rfl ?_
        first | refine sy_ldr 0 one_9 rfl rfl rfl rfl rfl ?_ | refine sy_ldr 1 one_9 rfl rfl rfl rfl rfl ?_ | refine sy_ldr 2 one_9 rfl rfl rfl rfl rfl ?_
        refine sy_call rfl call_17 rfl (infix_c _ _) rfl rfl ?_
        refine sy_move rfl rfl rfl ?_
        refine sy_extract rfl rfl rfl rfl ?_
        refine sy_extract rfl rfl rfl rfl ?_
        refine sy_extract rfl rfl rfl rfl ?_
        refine sy_extract rfl rfl rfl rfl ?_
        refine sy_assign rfl rfl rfl ?_
        refine sy_assign rfl rfl rfl ?_
        refine sy_assign rfl rfl rfl ?_
        refine sy_assign rfl rfl rfl ?_
        refine sy_nil rfl ?_
        refine ny_next ?_
        refine cy_seq ?_
        refine cy_region ?_
        refine sy_field fld_33_2 rfl rfl rfl ?_
        first | refine sy_ldr 0 one_9 rfl rfl rfl rfl rfl ?_ | refine sy_ldr 1 one_9 rfl rfl rfl rfl rfl ?_ | refine sy_ldr 2 one_9 rfl rfl rfl rfl rfl ?_
        refine sy_call rfl call_19 rfl (prefix_v hX) rfl rfl ?_
        refine sy_move rfl rfl rfl ?_
        refine sy_extract rfl rfl rfl rfl ?_
        refine sy_extract rfl rfl rfl rfl ?_
        refine sy_extract rfl rfl rfl rfl ?_
        refine sy_setT (d := 105) rfl rfl rfl ?_
        refine sy_assign rfl rfl rfl ?_
        refine sy_assign rfl rfl rfl ?_
        refine sy_assign rfl rfl rfl ?_
        refine sy_nil rfl ?_
        refine ny_next ?_
        refine cy_seq ?_
        refine cy_seq ?_
        refine cy_region ?_
        refine sy_field fld_33_1 rfl rfl rfl ?_
        first | refine sy_ldr 0 one_9 rfl rfl rfl rfl rfl ?_ | refine sy_ldr 1 one_9 rfl rfl rfl rfl rfl ?_ | refine sy_ldr 2 one_9 rfl rfl rfl rfl rfl ?_
        refine sy_len rfl (len_string Try.underlying9 _) rfl rfl ?_
        refine sy_cmp rfl rfl rfl rfl rfl ?_
        refine sy_nil rfl ?_
        refine ny_next ?_
        refine cy_cond rfl (fun hc109 => ?_) (fun hc109 => ?_)
        · simp [ByteArray.size] at hc109
        · refine cy_skip ?_
          refine ny_next ?_
          refine cy_seq ?_
          refine cy_region ?_
          refine sy_move rfl rfl rfl ?_
          refine sy_move rfl rfl rfl ?_
          refine sy_setT (d := 153) rfl rfl (by first | rfl | decide | assumption | (simp only [beq_iff_eq, beq_eq_false_iff_ne, bne_iff_ne, bne_eq_false_iff_eq, decide_eq_true_eq, decide_eq_false_iff_not, ne_eq, Bool.not_eq_true, Bool.not_eq_false] at * <;> omega)) ?_
          refine sy_move rfl rfl rfl ?_
          refine sy_pickT rfl rfl rfl rfl ?_
          refine sy_move rfl rfl rfl ?_
          refine sy_setT (d := 156) rfl rfl (by first | rfl | decide | assumption | (simp only [beq_iff_eq, beq_eq_false_iff_ne, bne_iff_ne, bne_eq_false_iff_eq, decide_eq_true_eq, decide_eq_false_iff_not, ne_eq, Bool.not_eq_true, Bool.not_eq_false] at * <;> omega)) ?_
          refine sy_move rfl rfl rfl ?_
          refine sy_field fld_33_0 rfl rfl rfl ?_
          first | refine sy_ldr 0 one_3 rfl rfl rfl rfl rfl ?_ | refine sy_ldr 1 one_3 rfl rfl rfl rfl rfl ?_ | refine sy_ldr 2 one_3 rfl rfl rfl rfl rfl ?_
          refine sy_cmp rfl rfl rfl rfl rfl ?_
          refine sy_pickT rfl rfl rfl rfl ?_
          refine sy_move rfl rfl rfl ?_
          refine sy_setT (d := 162) rfl rfl (by first | rfl | decide | assumption | (simp only [beq_iff_eq, beq_eq_false_iff_ne, bne_iff_ne, bne_eq_false_iff_eq, decide_eq_true_eq, decide_eq_false_iff_not, ne_eq, Bool.not_eq_true, Bool.not_eq_false] at * <;> omega)) ?_
          refine sy_move rfl rfl rfl ?_
          refine sy_move rfl rfl rfl ?_
          refine sy_cmp rfl rfl rfl rfl rfl ?_
          refine sy_field fld_33_1 rfl rfl rfl ?_
          first | refine sy_ldr 0 one_9 rfl rfl rfl rfl rfl ?_ | refine sy_ldr 1 one_9 rfl rfl rfl rfl rfl ?_ | refine sy_ldr 2 one_9 rfl rfl rfl rfl rfl ?_
          refine sy_eqs rfl rfl rfl rfl ?_
          refine sy_eqb (by kernel_rfl) rfl rfl rfl rfl ?_
          refine sy_pickT rfl rfl rfl rfl ?_
          refine sy_move rfl rfl rfl ?_
          refine sy_setT (d := 171) rfl rfl (by first | rfl | decide | assumption | (simp only [beq_iff_eq, beq_eq_false_iff_ne, bne_iff_ne, bne_eq_false_iff_eq, decide_eq_true_eq, decide_eq_false_iff_not, ne_eq, Bool.not_eq_true, Bool.not_eq_false] at * <;> omega)) ?_
          refine sy_move rfl rfl rfl ?_
          refine sy_move rfl rfl rfl ?_
          refine sy_subi rfl rfl rfl (by omega) (by omega) rfl rfl ?_
          refine sy_cmp rfl rfl rfl rfl rfl ?_
          refine sy_pickT rfl rfl rfl rfl ?_
          refine sy_assign rfl rfl rfl ?_
          refine sy_nil rfl ?_
          refine ny_next ?_
          refine cy_ret ?_
          exact ny_finR (res1 rfl rfl) (fun w hs => ⟨ret_true (by first | rfl | decide | assumption | (simp only [beq_iff_eq, beq_eq_false_iff_ne, bne_iff_ne, bne_eq_false_iff_eq, decide_eq_true_eq, decide_eq_false_iff_not, ne_eq, Bool.not_eq_true, Bool.not_eq_false] at * <;> omega)), hs.frm⟩)
      · refine sy_skip rfl rfl rfl ?_
        refine sy_skip rfl rfl rfl ?_
        refine sy_skip rfl rfl rfl ?_
        refine sy_skip rfl rfl rfl ?_
        refine sy_skip rfl rfl rfl ?_
        refine sy_skip rfl rfl rfl ?_
        refine sy_skip rfl rfl rfl ?_
        refine sy_pickF rfl rfl rfl rfl ?_
        refine sy_pickF rfl rfl rfl rfl ?_
        refine sy_nil rfl ?_
        refine ny_next ?_
        refine cy_condF rfl ?_
        refine cy_skip ?_
        refine ny_next ?_
        refine cy_seq ?_
        refine cy_region ?_
        refine sy_field fld_33_2 rfl rfl rfl ?_
        first | refine sy_ldr 0 one_9 rfl rfl rfl rfl rfl ?_ | refine sy_ldr 1 one_9 rfl rfl rfl rfl rfl ?_ | refine sy_ldr 2 one_9 rfl rfl rfl rfl rfl ?_
        refine sy_call rfl call_17 rfl (infix_c _ _) rfl rfl ?_
        refine sy_move rfl rfl rfl ?_
        refine sy_extract rfl rfl rfl rfl ?_
        refine sy_extract rfl rfl rfl rfl ?_
        refine sy_extract rfl rfl rfl rfl ?_
        refine sy_extract rfl rfl rfl rfl ?_
        refine sy_assign rfl rfl rfl ?_
        refine sy_assign rfl rfl rfl ?_
        refine sy_assign rfl rfl rfl ?_
        refine sy_assign rfl rfl rfl ?_
        refine sy_nil rfl ?_
        refine ny_next ?_
        refine cy_seq ?_
        refine cy_region ?_
        refine sy_field fld_33_2 rfl rfl rfl ?_
        first | refine sy_ldr 0 one_9 rfl rfl rfl rfl rfl ?_ | refine sy_ldr 1 one_9 rfl rfl rfl rfl rfl ?_ | refine sy_ldr 2 one_9 rfl rfl rfl rfl rfl ?_
        refine sy_call rfl call_19 rfl (prefix_v hX) rfl rfl ?_
        refine sy_move rfl rfl rfl ?_
        refine sy_extract rfl rfl rfl rfl ?_
        refine sy_extract rfl rfl rfl rfl ?_
        refine sy_extract rfl rfl rfl rfl ?_
        refine sy_setT (d := 105) rfl rfl rfl ?_
        refine sy_assign rfl rfl rfl ?_
        refine sy_assign rfl rfl rfl ?_
        refine sy_assign rfl rfl rfl ?_
        refine sy_nil rfl ?_
        refine ny_next ?_
        refine cy_seq ?_
        refine cy_seq ?_
        refine cy_region ?_
        refine sy_field fld_33_1 rfl rfl rfl ?_
        first | refine sy_ldr 0 one_9 rfl rfl rfl rfl rfl ?_ | refine sy_ldr 1 one_9 rfl rfl rfl rfl rfl ?_ | refine sy_ldr 2 one_9 rfl rfl rfl rfl rfl ?_
        refine sy_len rfl (len_string Try.underlying9 _) rfl rfl ?_
        refine sy_cmp rfl rfl rfl rfl rfl ?_
        refine sy_nil rfl ?_
        refine ny_next ?_
        refine cy_cond rfl (fun hc109 => ?_) (fun hc109 => ?_)
        · simp [ByteArray.size] at hc109
        · refine cy_skip ?_
          refine ny_next ?_
          refine cy_seq ?_
          refine cy_region ?_
          refine sy_move rfl rfl rfl ?_
          refine sy_move rfl rfl rfl ?_
          refine sy_setT (d := 153) rfl rfl (by first | rfl | decide | assumption | (simp only [beq_iff_eq, beq_eq_false_iff_ne, bne_iff_ne, bne_eq_false_iff_eq, decide_eq_true_eq, decide_eq_false_iff_not, ne_eq, Bool.not_eq_true, Bool.not_eq_false] at * <;> omega)) ?_
          refine sy_move rfl rfl rfl ?_
          refine sy_pickT rfl rfl rfl rfl ?_
          refine sy_move rfl rfl rfl ?_
          refine sy_setT (d := 156) rfl rfl (by first | rfl | decide | assumption | (simp only [beq_iff_eq, beq_eq_false_iff_ne, bne_iff_ne, bne_eq_false_iff_eq, decide_eq_true_eq, decide_eq_false_iff_not, ne_eq, Bool.not_eq_true, Bool.not_eq_false] at * <;> omega)) ?_
          refine sy_move rfl rfl rfl ?_
          refine sy_field fld_33_0 rfl rfl rfl ?_
          first | refine sy_ldr 0 one_3 rfl rfl rfl rfl rfl ?_ | refine sy_ldr 1 one_3 rfl rfl rfl rfl rfl ?_ | refine sy_ldr 2 one_3 rfl rfl rfl rfl rfl ?_
          refine sy_cmp rfl rfl rfl rfl rfl ?_
          refine sy_pickT rfl rfl rfl rfl ?_
          refine sy_move rfl rfl rfl ?_
          refine sy_setT (d := 162) rfl rfl (by first | rfl | decide | assumption | (simp only [beq_iff_eq, beq_eq_false_iff_ne, bne_iff_ne, bne_eq_false_iff_eq, decide_eq_true_eq, decide_eq_false_iff_not, ne_eq, Bool.not_eq_true, Bool.not_eq_false] at * <;> omega)) ?_
          refine sy_move rfl rfl rfl ?_
          refine sy_move rfl rfl rfl ?_
          refine sy_cmp rfl rfl rfl rfl rfl ?_
          refine sy_field fld_33_1 rfl rfl rfl ?_
          first | refine sy_ldr 0 one_9 rfl rfl rfl rfl rfl ?_ | refine sy_ldr 1 one_9 rfl rfl rfl rfl rfl ?_ | refine sy_ldr 2 one_9 rfl rfl rfl rfl rfl ?_
          refine sy_eqs rfl rfl rfl rfl ?_
          refine sy_eqb (by kernel_rfl) rfl rfl rfl rfl ?_
          refine sy_pickT rfl rfl rfl rfl ?_
          refine sy_move rfl rfl rfl ?_
          refine sy_setT (d := 171) rfl rfl (by first | rfl | decide | assumption | (simp only [beq_iff_eq, beq_eq_false_iff_ne, bne_iff_ne, bne_eq_false_iff_eq, decide_eq_true_eq, decide_eq_false_iff_not, ne_eq, Bool.not_eq_true, Bool.not_eq_false] at * <;> omega)) ?_
          refine sy_move rfl rfl rfl ?_
          refine sy_move rfl rfl rfl ?_
          refine sy_subi rfl rfl rfl (by omega) (by omega) rfl rfl ?_
          refine sy_cmp rfl rfl rfl rfl rfl ?_
          refine sy_pickT rfl rfl rfl rfl ?_
          refine sy_assign rfl rfl rfl ?_
          refine sy_nil rfl ?_
          refine ny_next ?_
          refine cy_ret ?_
          exact ny_finR (res1 rfl rfl) (fun w hs => ⟨ret_true (by first | rfl | decide | assumption | (simp only [beq_iff_eq, beq_eq_false_iff_ne, bne_iff_ne, bne_eq_false_iff_eq, decide_eq_true_eq, decide_eq_false_iff_not, ne_eq, Bool.not_eq_true, Bool.not_eq_false] at * <;> omega)), hs.frm⟩)
    · refine sy_skip rfl rfl rfl ?_
      refine sy_skip rfl rfl rfl ?_
      refine sy_skip rfl rfl rfl ?_
      refine sy_skip rfl rfl rfl ?_
      refine sy_skip rfl rfl rfl ?_
      refine sy_pickF rfl rfl rfl rfl ?_
      refine sy_move rfl rfl rfl ?_
      refine sy_skip rfl rfl rfl ?_
      refine sy_skip rfl rfl rfl ?_
      refine sy_skip rfl rfl rfl ?_
      refine sy_skip rfl rfl rfl ?_
      refine sy_skip rfl rfl rfl ?_
      refine sy_skip rfl rfl rfl ?_
      refine sy_skip rfl rfl rfl ?_
      refine sy_pickF rfl rfl rfl rfl ?_
      refine sy_pickF rfl rfl rfl rfl ?_
      refine sy_nil rfl ?_
      refine ny_next ?_
      refine cy_condF rfl ?_
      refine cy_skip ?_
      refine ny_next ?_
      refine cy_seq ?_
      refine cy_region ?_
      refine sy_field fld_33_2 rfl rfl rfl ?_
      first | refine sy_ldr 0 one_9 rfl rfl rfl rfl rfl ?_ | refine sy_ldr 1 one_9 rfl rfl rfl rfl rfl ?_ | refine sy_ldr 2 one_9 rfl rfl rfl rfl rfl ?_
      refine sy_call rfl call_17 rfl (infix_c _ _) rfl rfl ?_
      refine sy_move rfl rfl rfl ?_
      refine sy_extract rfl rfl rfl rfl ?_
      refine sy_extract rfl rfl rfl rfl ?_
      refine sy_extract rfl rfl rfl rfl ?_
      refine sy_extract rfl rfl rfl rfl ?_
      refine sy_assign rfl rfl rfl ?_
      refine sy_assign rfl rfl rfl ?_
      refine sy_assign rfl rfl rfl ?_
      refine sy_assign rfl rfl rfl ?_
      refine sy_nil rfl ?_
      refine ny_next ?_
      refine cy_seq ?_
      refine cy_region ?_
      refine sy_field fld_33_2 rfl rfl rfl ?_
      first | refine sy_ldr 0 one_9 rfl rfl rfl rfl rfl ?_ | refine sy_ldr 1 one_9 rfl rfl rfl rfl rfl ?_ | refine sy_ldr 2 one_9 rfl rfl rfl rfl rfl ?_
      refine sy_call rfl call_19 rfl (prefix_v hX) rfl rfl ?_
      refine sy_move rfl rfl rfl ?_
      refine sy_extract rfl rfl rfl rfl ?_
      refine sy_extract rfl rfl rfl rfl ?_
      refine sy_extract rfl rfl rfl rfl ?_
      refine sy_setT (d := 105) rfl rfl rfl ?_
      refine sy_assign rfl rfl rfl ?_
      refine sy_assign rfl rfl rfl ?_
      refine sy_assign rfl rfl rfl ?_
      refine sy_nil rfl ?_
      refine ny_next ?_
      refine cy_seq ?_
      refine cy_seq ?_
      refine cy_region ?_
      refine sy_field fld_33_1 rfl rfl rfl ?_
      first | refine sy_ldr 0 one_9 rfl rfl rfl rfl rfl ?_ | refine sy_ldr 1 one_9 rfl rfl rfl rfl rfl ?_ | refine sy_ldr 2 one_9 rfl rfl rfl rfl rfl ?_
      refine sy_len rfl (len_string Try.underlying9 _) rfl rfl ?_
      refine sy_cmp rfl rfl rfl rfl rfl ?_
      refine sy_nil rfl ?_
      refine ny_next ?_
      refine cy_cond rfl (fun hc109 => ?_) (fun hc109 => ?_)
      · simp [ByteArray.size] at hc109
      · refine cy_skip ?_
        refine ny_next ?_
        refine cy_seq ?_
        refine cy_region ?_
        refine sy_move rfl rfl rfl ?_
        refine sy_move rfl rfl rfl ?_
        refine sy_setT (d := 153) rfl rfl (by first | rfl | decide | assumption | (simp only [beq_iff_eq, beq_eq_false_iff_ne, bne_iff_ne, bne_eq_false_iff_eq, decide_eq_true_eq, decide_eq_false_iff_not, ne_eq, Bool.not_eq_true, Bool.not_eq_false] at * <;> omega)) ?_
        refine sy_move rfl rfl rfl ?_
        refine sy_pickT rfl rfl rfl rfl ?_
        refine sy_move rfl rfl rfl ?_
        refine sy_setT (d := 156) rfl rfl (by first | rfl | decide | assumption | (simp only [beq_iff_eq, beq_eq_false_iff_ne, bne_iff_ne, bne_eq_false_iff_eq, decide_eq_true_eq, decide_eq_false_iff_not, ne_eq, Bool.not_eq_true, Bool.not_eq_false] at * <;> omega)) ?_
        refine sy_move rfl rfl rfl ?_
        refine sy_field fld_33_0 rfl rfl rfl ?_
        first | refine sy_ldr 0 one_3 rfl rfl rfl rfl rfl ?_ | refine sy_ldr 1 one_3 rfl rfl rfl rfl rfl ?_ | refine sy_ldr 2 one_3 rfl rfl rfl rfl rfl ?_
        refine sy_cmp rfl rfl rfl rfl rfl ?_
        refine sy_pickT rfl rfl rfl rfl ?_
        refine sy_move rfl rfl rfl ?_
        refine sy_setT (d := 162) rfl rfl (by first | rfl | decide | assumption | (simp only [beq_iff_eq, beq_eq_false_iff_ne, bne_iff_ne, bne_eq_false_iff_eq, decide_eq_true_eq, decide_eq_false_iff_not, ne_eq, Bool.not_eq_true, Bool.not_eq_false] at * <;> omega)) ?_
        refine sy_move rfl rfl rfl ?_
        refine sy_move rfl rfl rfl ?_
        refine sy_cmp rfl rfl rfl rfl rfl ?_
        refine sy_field fld_33_1 rfl rfl rfl ?_
        first | refine sy_ldr 0 one_9 rfl rfl rfl rfl rfl ?_ | refine sy_ldr 1 one_9 rfl rfl rfl rfl rfl ?_ | refine sy_ldr 2 one_9 rfl rfl rfl rfl rfl ?_
        refine sy_eqs rfl rfl rfl rfl ?_
        refine sy_eqb (by kernel_rfl) rfl rfl rfl rfl ?_
        refine sy_pickT rfl rfl rfl rfl ?_
        refine sy_move rfl rfl rfl ?_
        refine sy_setT (d := 171) rfl rfl (by first | rfl | decide | assumption | (simp only [beq_iff_eq, beq_eq_false_iff_ne, bne_iff_ne, bne_eq_false_iff_eq, decide_eq_true_eq, decide_eq_false_iff_not, ne_eq, Bool.not_eq_true, Bool.not_eq_false] at * <;> omega)) ?_
        refine sy_move rfl rfl rfl ?_
        refine sy_move rfl rfl rfl ?_
        refine sy_subi rfl rfl rfl (by omega) (by omega) rfl rfl ?_
        refine sy_cmp rfl rfl rfl rfl rfl ?_
        refine sy_pickT rfl rfl rfl rfl ?_
        refine sy_assign rfl rfl rfl ?_
        refine sy_nil rfl ?_
        refine ny_next ?_
        refine cy_ret ?_
        exact ny_finR (res1 rfl rfl) (fun w hs => ⟨ret_true (by first | rfl | decide | assumption | (simp only [beq_iff_eq, beq_eq_false_iff_ne, bne_iff_ne, bne_eq_false_iff_eq, decide_eq_true_eq, decide_eq_false_iff_not, ne_eq, Bool.not_eq_true, Bool.not_eq_false] at * <;> omega)), hs.frm⟩)
theorem opsAll_c (c0 c1 : UInt8) (h : Hp) : C0 Try.prog 4 [.int .u8 (c0.toNat : Int), .int .u8 (c1.toNat : Int)] h (.bool true) := by
  have hc0 := c0.toNat_lt
  have hc1 := c1.toNat_lt
  obtain ⟨i, hi⟩ : ∃ i, i = c0.toNat % 26 := ⟨_, rfl⟩
  obtain ⟨k, hk⟩ : ∃ k, k = c1.toNat % 26 := ⟨_, rfl⟩
  obtain ⟨⟨p, ty, nm⟩, ho⟩ : ∃ o, opsL[i]? = some o := ⟨_, List.getElem?_eq_getElem (by rw [opsL_len]; omega)⟩
  obtain ⟨⟨p', ty', nm'⟩, ho'⟩ : ∃ o, opsL[k]? = some o := ⟨_, List.getElem?_eq_getElem (by rw [opsL_len]; omega)⟩
  have hap : ¬ i = k → ¬ (nm = nm' ∧ ty.length = ty'.length) := fun hne => apart_all i (by omega) k (by omega) hne _ _ ho ho'
  have hm := List.mem_of_getElem? ho
  have hpri := pri_all _ hm
  have htold := told_all _ hm
  unfold told at htold
  rcases len_all _ hm with hl | hl
  · simp only [hl, if_true, Bool.and_eq_true, beq_iff_eq, decide_eq_true_eq] at htold
    obtain ⟨⟨⟨⟨⟨⟨⟨⟨⟨h1, h2⟩, h3⟩, h4⟩, h5⟩, h6⟩, h7⟩, h8⟩, h9⟩, h10⟩ := htold
    match ty, hl with
    | [t0, t1, t2], _ => exact opsAll_3 c0 c1 h i k hi hk p p' t0 t1 t2 nm ty' nm' ho ho' hpri.1 hpri.2 hc0 hc1 hap _ _ (by rw [← h1, ← h2]) (by rw [u8_121, beq_iff_eq]; exact h3) (by rw [u8_121, beq_iff_eq]; exact h4) h5 h6
  · simp only [hl, if_neg (show ¬ (2 = 3) by decide), Bool.and_eq_true, beq_iff_eq, decide_eq_true_eq] at htold
    obtain ⟨⟨⟨⟨⟨h0, h1⟩, h2⟩, h3⟩, h4⟩, h5⟩ := htold
    match ty, hl with
    | [t0, t1], _ => exact opsAll_2 c0 c1 h i k hi hk p p' t0 t1 nm ty' nm' ho ho' hpri.1 hpri.2 hc0 hc1 hap _ (by rw [← h1, ← h2]) (by rw [beq_iff_eq]; exact h3) h4
set_option maxRecDepth 100000 in
theorem opsMany_c (s : ByteArray) (h : Hp) : C0 Try.prog 7 [.string s] h (.bool true) := by
  refine enter0 Try.func7 rfl rfl rfl (fun w => ?_)
  refine cy_seq ?_
  refine cy_region ?_
  refine sy_assign rfl rfl rfl ?_
  refine sy_nil rfl ?_
  refine ny_next ?_
  refine cy_seq ?_
  refine cy_region ?_
  refine sy_call rfl call_16 rfl (shown_c _) rfl rfl ?_
  refine sy_assign rfl rfl rfl ?_
  refine sy_setT (d := 3) rfl rfl rfl ?_
  refine sy_nil rfl ?_
  refine ny_next ?_
  refine cy_seq ?_
  refine cy_region ?_
  refine sy_callx call_21 rfl (all_c _) rfl rfl (fun x9 h2 hx hle9 => ?_)
  obtain ⟨g, c⟩ := x9
  refine sy_assign rfl rfl rfl ?_
  refine sy_nil rfl ?_
  refine ny_next ?_
  refine cy_seq ?_
  refine cy_region ?_
  refine sy_assign rfl rfl rfl ?_
  refine sy_nil rfl ?_
  refine ny_next ?_
  refine cy_seq ?_
  refine cy_region ?_
  refine sy_assign rfl rfl rfl ?_
  refine sy_nil rfl ?_
  refine ny_next ?_
  refine cy_seq ?_
  refine cy_region ?_
  refine sy_assign rfl rfl rfl ?_
  refine sy_nil rfl ?_
  refine ny_next ?_
  refine cy_seq ?_
  refine cy_region ?_
  refine sy_assign rfl rfl rfl ?_
  refine sy_nil rfl ?_
  refine ny_next ?_
  refine cy_seq ?_
  refine cy_seq ?_
  refine cy_region ?_
  refine sy_assign rfl rfl rfl ?_
  refine sy_nil rfl ?_
  refine ny_next ?_
  refine cy_block ?_
  refine cy_loop (ι := Nat) (fun i => i ≤ 26) (fun i => 26 - i) (fun i => [(0, .string s), (3, .bool true), (4, .slice (some ⟨g, 0, none⟩) 26 c), (5, .int .i64 (cnt (fun o => o.2.1.length == 3) (opsL.take i))), (6, .int .i64 (cnt (fun o => !(o.2.1.length == 3)) (opsL.take i))), (7, .int .i64 (cnt (hit s.data.toList 3) (opsL.take i))), (8, .int .i64 (cnt (hit s.data.toList 2) (opsL.take i))), (9, .int .i64 (i : Int))]) (fun _ => h2) (fun _ => []) 0 [] (Nat.zero_le _) ⟨rfl, rfl, rfl, rfl, rfl, rfl, rfl, rfl, trivial⟩ rfl rfl ?_
  intro i hi
  refine cy_seq ?_
  refine cy_seq ?_
  refine cy_region ?_
  refine sy_move rfl rfl rfl ?_
  refine sy_move rfl rfl rfl ?_
  refine sy_len rfl (len_slice Try.underlying28 _ _ _) rfl rfl ?_
  refine sy_cmp rfl rfl rfl rfl rfl ?_
  refine sy_nil rfl ?_
  refine ny_next ?_
  refine cy_cond rfl (fun hc29 => ?_) (fun hc29 => ?_)
  · have hlt : i < 26 := by have := of_decide_eq_true hc29; omega
    obtain ⟨⟨p, ty, nm⟩, ho⟩ : ∃ o, opsL[i]? = some o := ⟨_, List.getElem?_eq_getElem (by rw [opsL_len]; exact hlt)⟩
    have htold := told_all _ (List.mem_of_getElem? ho)
    refine cy_skip ?_
    refine ny_next ?_
    refine cy_seq ?_
    refine cy_block ?_
    refine cy_seq ?_
    refine cy_region ?_
    refine sy_move rfl rfl rfl ?_
    refine sy_move rfl rfl rfl ?_
    refine sy_idxS (ik := .i64) (i := (i : Int)) els_28 rfl rfl (by omega) (by omega) rfl rfl ?_
    refine sy_field fld_33_2 rfl rfl rfl ?_
    refine sy_ldh one_9 rfl (by have := hx _ _ (cellsOf_get ho (j := 2) rfl); simpa using this) rfl rfl ?_
    refine sy_call rfl call_17 rfl (infix_c _ _) rfl rfl ?_
    refine sy_move rfl rfl rfl ?_
    refine sy_extract rfl rfl rfl rfl ?_
    refine sy_extract rfl rfl rfl rfl ?_
    refine sy_extract rfl rfl rfl rfl ?_
    refine sy_extract rfl rfl rfl rfl ?_
    refine sy_assign rfl rfl rfl ?_
    refine sy_assign rfl rfl rfl ?_
    refine sy_assign rfl rfl rfl ?_
    refine sy_assign rfl rfl rfl ?_
    refine sy_nil rfl ?_
    refine ny_next ?_
    refine cy_seq ?_
    refine cy_region ?_
    refine sy_move rfl rfl rfl ?_
    refine sy_move rfl rfl rfl ?_
    refine sy_idxS (ik := .i64) (i := (i : Int)) els_28 rfl rfl (by omega) (by omega) rfl rfl ?_
    refine sy_field fld_33_2 rfl rfl rfl ?_
    refine sy_ldh one_9 rfl (by have := hx _ _ (cellsOf_get ho (j := 2) rfl); simpa using this) rfl rfl ?_
    refine sy_call rfl call_19 rfl (prefix_c _ _) rfl rfl ?_
    refine sy_move rfl rfl rfl ?_
    refine sy_extract rfl rfl rfl rfl ?_
    refine sy_extract rfl rfl rfl rfl ?_
    refine sy_extract rfl rfl rfl rfl ?_
    refine sy_assign rfl rfl rfl ?_
    refine sy_assign rfl rfl rfl ?_
    refine sy_assign rfl rfl rfl ?_
    refine sy_nil rfl ?_
    refine ny_next ?_
    refine cy_seq ?_
    refine cy_seq ?_
    refine cy_region ?_
    refine sy_move rfl rfl rfl ?_
    refine sy_move rfl rfl rfl ?_
    refine sy_idxS (ik := .i64) (i := (i : Int)) els_28 rfl rfl (by omega) (by omega) rfl rfl ?_
    refine sy_field fld_33_1 rfl rfl rfl ?_
    refine sy_ldh one_9 rfl (by have := hx _ _ (cellsOf_get ho (j := 1) rfl); simpa using this) rfl rfl ?_
    refine sy_len rfl (len_string Try.underlying9 _) rfl rfl ?_
    refine sy_cmp rfl rfl rfl rfl rfl ?_
    refine sy_nil rfl ?_
    refine ny_next ?_
    refine cy_cond rfl (fun hc59 => ?_) (fun hc59 => ?_)
    · have e6 : cnt (fun o => !(o.2.1.length == 3)) (opsL.take i) = cnt (fun o => !(o.2.1.length == 3)) (opsL.take (i + 1)) := by rw [cnt_succ ho, if_neg (len3_n hc59)] <;> omega
      rw [e6]
      refine cy_seq ?_
      refine cy_region ?_
      refine sy_move rfl rfl rfl ?_
      refine sy_addi (z := cnt (fun o => o.2.1.length == 3) (opsL.take (i + 1))) rfl rfl (by rw [cnt_succ ho, if_pos (len3_t hc59)]) (by have := cnt_le (fun o => o.2.1.length == 3) (i + 1); omega) (by have := cnt_le (fun o => o.2.1.length == 3) (i + 1); omega) rfl rfl ?_
      refine sy_assign rfl rfl rfl ?_
      refine sy_nil rfl ?_
      refine ny_next ?_
      refine cy_seq ?_
      refine cy_region ?_
      refine sy_move rfl rfl rfl ?_
      refine sy_not rfl rfl rfl ?_
      refine sy_nil rfl ?_
      refine ny_next ?_
      refine cy_cond rfl (fun hc63 => ?_) (fun hc63 => ?_)
      · exact (many3 htold hc59 hc63).elim
      · refine cy_skip ?_
        refine ny_next ?_
        refine cy_seq ?_
        refine cy_seq ?_
        refine cy_region ?_
        refine sy_move rfl rfl rfl ?_
        refine sy_move rfl rfl rfl ?_
        refine sy_idxS (ik := .i64) (i := (i : Int)) els_28 rfl rfl (by omega) (by omega) rfl rfl ?_
        refine sy_field fld_33_2 rfl rfl rfl ?_
        refine sy_ldh one_9 rfl (by have := hx _ _ (cellsOf_get ho (j := 2) rfl); simpa using this) rfl rfl ?_
        refine sy_move rfl rfl rfl ?_
        refine sy_eqs rfl rfl rfl rfl ?_
        refine sy_move rfl rfl rfl ?_
        refine sy_cond (d := 75) _ rfl rfl (fun hg75 => ?_) (fun hg75 => ?_)
        · refine sy_move rfl rfl rfl ?_
          refine sy_move rfl rfl rfl ?_
          refine sy_idxS (ik := .i64) (i := (i : Int)) els_28 rfl rfl (by omega) (by omega) rfl rfl ?_
          refine sy_field fld_33_1 rfl rfl rfl ?_
          refine sy_ldh one_9 rfl (by have := hx _ _ (cellsOf_get ho (j := 1) rfl); simpa using this) rfl rfl ?_
          refine sy_len rfl (len_string Try.underlying9 _) rfl rfl ?_
          refine sy_cmp rfl rfl rfl rfl rfl ?_
          refine sy_pickT rfl rfl rfl rfl ?_
          refine sy_nil rfl ?_
          refine ny_next ?_
          refine cy_cond rfl (fun hc83 => ?_) (fun hc83 => ?_)
          · refine cy_region ?_
            refine sy_move rfl rfl rfl ?_
            refine sy_addi (z := cnt (hit s.data.toList 3) (opsL.take (i + 1))) rfl rfl (by rw [cnt_succ ho, if_pos (hit_t (k := 3) hg75 hc83)]) (by have := cnt_le (hit s.data.toList 3) (i + 1); omega) (by have := cnt_le (hit s.data.toList 3) (i + 1); omega) rfl rfl ?_
            refine sy_assign rfl rfl rfl ?_
            refine sy_nil rfl ?_
            refine ny_next ?_
            refine cy_seq ?_
            refine cy_region ?_
            refine sy_move rfl rfl rfl ?_
            refine sy_move rfl rfl rfl ?_
            refine sy_idxS (ik := .i64) (i := (i : Int)) els_28 rfl rfl (by omega) (by omega) rfl rfl ?_
            refine sy_field fld_33_2 rfl rfl rfl ?_
            refine sy_ldh one_9 rfl (by have := hx _ _ (cellsOf_get ho (j := 2) rfl); simpa using this) rfl rfl ?_
            refine sy_move rfl rfl rfl ?_
            refine sy_eqs rfl rfl rfl rfl ?_
            refine sy_move rfl rfl rfl ?_
            refine sy_cond (d := 93) _ rfl rfl (fun hg93 => ?_) (fun hg93 => ?_)
            · refine sy_move rfl rfl rfl ?_
              refine sy_move rfl rfl rfl ?_
              refine sy_idxS (ik := .i64) (i := (i : Int)) els_28 rfl rfl (by omega) (by omega) rfl rfl ?_
              refine sy_field fld_33_1 rfl rfl rfl ?_
              refine sy_ldh one_9 rfl (by have := hx _ _ (cellsOf_get ho (j := 1) rfl); simpa using this) rfl rfl ?_
              refine sy_len rfl (len_string Try.underlying9 _) rfl rfl ?_
              refine sy_cmp rfl rfl rfl rfl rfl ?_
              refine sy_pickT rfl rfl rfl rfl ?_
              refine sy_nil rfl ?_
              refine ny_next ?_
              refine cy_cond rfl (fun hc101 => ?_) (fun hc101 => ?_)
              · refine cy_region ?_
                refine sy_move rfl rfl rfl ?_
                refine sy_addi (z := cnt (hit s.data.toList 2) (opsL.take (i + 1))) rfl rfl (by rw [cnt_succ ho, if_pos (hit_t (k := 2) hg93 hc101)]) (by have := cnt_le (hit s.data.toList 2) (i + 1); omega) (by have := cnt_le (hit s.data.toList 2) (i + 1); omega) rfl rfl ?_
                refine sy_assign rfl rfl rfl ?_
                refine sy_nil rfl ?_
                refine ny_blockN ?_
                refine ny_next ?_
                refine cy_region ?_
                refine sy_move rfl rfl rfl ?_
                refine sy_addi (z := ((i + 1 : Nat) : Int)) rfl rfl (by omega) (by omega) (by omega) rfl rfl ?_
                refine sy_assign rfl rfl rfl ?_
                refine sy_nil rfl ?_
                exact ny_round (i + 1) [] (show i + 1 ≤ 26 by omega) (show 26 - (i + 1) < 26 - i by omega) ⟨rfl, rfl, rfl, rfl, rfl, rfl, rfl, rfl, trivial⟩ rfl rfl
              · have e8 : cnt (hit s.data.toList 2) (opsL.take i) = cnt (hit s.data.toList 2) (opsL.take (i + 1)) := by rw [cnt_succ ho, if_neg (hit_f2 (k := 2) hc101)] <;> omega
                rw [e8]
                refine cy_skip ?_
                refine ny_blockN ?_
                refine ny_next ?_
                refine cy_region ?_
                refine sy_move rfl rfl rfl ?_
                refine sy_addi (z := ((i + 1 : Nat) : Int)) rfl rfl (by omega) (by omega) (by omega) rfl rfl ?_
                refine sy_assign rfl rfl rfl ?_
                refine sy_nil rfl ?_
                exact ny_round (i + 1) [] (show i + 1 ≤ 26 by omega) (show 26 - (i + 1) < 26 - i by omega) ⟨rfl, rfl, rfl, rfl, rfl, rfl, rfl, rfl, trivial⟩ rfl rfl
            · refine sy_skip rfl rfl rfl ?_
              refine sy_skip rfl rfl rfl ?_
              refine sy_skip rfl rfl rfl ?_
              refine sy_skip rfl rfl rfl ?_
              refine sy_skip rfl rfl rfl ?_
              refine sy_skip rfl rfl rfl ?_
              refine sy_skip rfl rfl rfl ?_
              refine sy_pickF rfl rfl rfl rfl ?_
              refine sy_nil rfl ?_
              refine ny_next ?_
              refine cy_condF rfl ?_
              have e8 : cnt (hit s.data.toList 2) (opsL.take i) = cnt (hit s.data.toList 2) (opsL.take (i + 1)) := by rw [cnt_succ ho, if_neg (hit_f1 hg93)] <;> omega
              rw [e8]
              refine cy_skip ?_
              refine ny_blockN ?_
              refine ny_next ?_
              refine cy_region ?_
              refine sy_move rfl rfl rfl ?_
              refine sy_addi (z := ((i + 1 : Nat) : Int)) rfl rfl (by omega) (by omega) (by omega) rfl rfl ?_
              refine sy_assign rfl rfl rfl ?_
              refine sy_nil rfl ?_
              exact ny_round (i + 1) [] (show i + 1 ≤ 26 by omega) (show 26 - (i + 1) < 26 - i by omega) ⟨rfl, rfl, rfl, rfl, rfl, rfl, rfl, rfl, trivial⟩ rfl rfl
          · have e7 : cnt (hit s.data.toList 3) (opsL.take i) = cnt (hit s.data.toList 3) (opsL.take (i + 1)) := by rw [cnt_succ ho, if_neg (hit_f2 (k := 3) hc83)] <;> omega
            rw [e7]
            refine cy_skip ?_
            refine ny_next ?_
            refine cy_seq ?_
            refine cy_region ?_
            refine sy_move rfl rfl rfl ?_
            refine sy_move rfl rfl rfl ?_
            refine sy_idxS (ik := .i64) (i := (i : Int)) els_28 rfl rfl (by omega) (by omega) rfl rfl ?_
            refine sy_field fld_33_2 rfl rfl rfl ?_
            refine sy_ldh one_9 rfl (by have := hx _ _ (cellsOf_get ho (j := 2) rfl); simpa using this) rfl rfl ?_
            refine sy_move rfl rfl rfl ?_
            refine sy_eqs rfl rfl rfl rfl ?_
            refine sy_move rfl rfl rfl ?_
            refine sy_cond (d := 93) _ rfl rfl (fun hg93 => ?_) (fun hg93 => ?_)
            · refine sy_move rfl rfl rfl ?_
              refine sy_move rfl rfl rfl ?_
              refine sy_idxS (ik := .i64) (i := (i : Int)) els_28 rfl rfl (by omega) (by omega) rfl rfl ?_
              refine sy_field fld_33_1 rfl rfl rfl ?_
              refine sy_ldh one_9 rfl (by have := hx _ _ (cellsOf_get ho (j := 1) rfl); simpa using this) rfl rfl ?_
              refine sy_len rfl (len_string Try.underlying9 _) rfl rfl ?_
              refine sy_cmp rfl rfl rfl rfl rfl ?_
              refine sy_pickT rfl rfl rfl rfl ?_
              refine sy_nil rfl ?_
              refine ny_next ?_
              refine cy_cond rfl (fun hc101 => ?_) (fun hc101 => ?_)
              · refine cy_region ?_
                refine sy_move rfl rfl rfl ?_
                refine sy_addi (z := cnt (hit s.data.toList 2) (opsL.take (i + 1))) rfl rfl (by rw [cnt_succ ho, if_pos (hit_t (k := 2) hg93 hc101)]) (by have := cnt_le (hit s.data.toList 2) (i + 1); omega) (by have := cnt_le (hit s.data.toList 2) (i + 1); omega) rfl rfl ?_
                refine sy_assign rfl rfl rfl ?_
                refine sy_nil rfl ?_
                refine ny_blockN ?_
                refine ny_next ?_
                refine cy_region ?_
                refine sy_move rfl rfl rfl ?_
                refine sy_addi (z := ((i + 1 : Nat) : Int)) rfl rfl (by omega) (by omega) (by omega) rfl rfl ?_
                refine sy_assign rfl rfl rfl ?_
                refine sy_nil rfl ?_
                exact ny_round (i + 1) [] (show i + 1 ≤ 26 by omega) (show 26 - (i + 1) < 26 - i by omega) ⟨rfl, rfl, rfl, rfl, rfl, rfl, rfl, rfl, trivial⟩ rfl rfl
              · have e8 : cnt (hit s.data.toList 2) (opsL.take i) = cnt (hit s.data.toList 2) (opsL.take (i + 1)) := by rw [cnt_succ ho, if_neg (hit_f2 (k := 2) hc101)] <;> omega
                rw [e8]
                refine cy_skip ?_
                refine ny_blockN ?_
                refine ny_next ?_
                refine cy_region ?_
                refine sy_move rfl rfl rfl ?_
                refine sy_addi (z := ((i + 1 : Nat) : Int)) rfl rfl (by omega) (by omega) (by omega) rfl rfl ?_
                refine sy_assign rfl rfl rfl ?_
                refine sy_nil rfl ?_
                exact ny_round (i + 1) [] (show i + 1 ≤ 26 by omega) (show 26 - (i + 1) < 26 - i by omega) ⟨rfl, rfl, rfl, rfl, rfl, rfl, rfl, rfl, trivial⟩ rfl rfl
            · refine sy_skip rfl rfl rfl ?_
              refine sy_skip rfl rfl rfl ?_
              refine sy_skip rfl rfl rfl ?_
              refine sy_skip rfl rfl rfl ?_
              refine sy_skip rfl rfl rfl ?_
              refine sy_skip rfl rfl rfl ?_
              refine sy_skip rfl rfl rfl ?_
              refine sy_pickF rfl rfl rfl rfl ?_
              refine sy_nil rfl ?_
              refine ny_next ?_
              refine cy_condF rfl ?_
              have e8 : cnt (hit s.data.toList 2) (opsL.take i) = cnt (hit s.data.toList 2) (opsL.take (i + 1)) := by rw [cnt_succ ho, if_neg (hit_f1 hg93)] <;> omega
              rw [e8]
              refine cy_skip ?_
              refine ny_blockN ?_
              refine ny_next ?_
              refine cy_region ?_
              refine sy_move rfl rfl rfl ?_
              refine sy_addi (z := ((i + 1 : Nat) : Int)) rfl rfl (by omega) (by omega) (by omega) rfl rfl ?_
              refine sy_assign rfl rfl rfl ?_
              refine sy_nil rfl ?_
              exact ny_round (i + 1) [] (show i + 1 ≤ 26 by omega) (show 26 - (i + 1) < 26 - i by omega) ⟨rfl, rfl, rfl, rfl, rfl, rfl, rfl, rfl, trivial⟩ rfl rfl
        · refine sy_skip rfl rfl rfl ?_
          refine sy_skip rfl rfl rfl ?_
          refine sy_skip rfl rfl rfl ?_
          refine sy_skip rfl rfl rfl ?_
          refine sy_skip rfl rfl rfl ?_
          refine sy_skip rfl rfl rfl ?_
          refine sy_skip rfl rfl rfl ?_
          refine sy_pickF rfl rfl rfl rfl ?_
          refine sy_nil rfl ?_
          refine ny_next ?_
          refine cy_condF rfl ?_
          have e7 : cnt (hit s.data.toList 3) (opsL.take i) = cnt (hit s.data.toList 3) (opsL.take (i + 1)) := by rw [cnt_succ ho, if_neg (hit_f1 hg75)] <;> omega
          rw [e7]
          refine cy_skip ?_
          refine ny_next ?_
          refine cy_seq ?_
          refine cy_region ?_
          refine sy_move rfl rfl rfl ?_
          refine sy_move rfl rfl rfl ?_
          refine sy_idxS (ik := .i64) (i := (i : Int)) els_28 rfl rfl (by omega) (by omega) rfl rfl ?_
          refine sy_field fld_33_2 rfl rfl rfl ?_
          refine sy_ldh one_9 rfl (by have := hx _ _ (cellsOf_get ho (j := 2) rfl); simpa using this) rfl rfl ?_
          refine sy_move rfl rfl rfl ?_
          refine sy_eqs rfl rfl rfl rfl ?_
          refine sy_move rfl rfl rfl ?_
          refine sy_cond (d := 93) _ rfl rfl (fun hg93 => ?_) (fun hg93 => ?_)
          · refine sy_move rfl rfl rfl ?_
            refine sy_move rfl rfl rfl ?_
            refine sy_idxS (ik := .i64) (i := (i : Int)) els_28 rfl rfl (by omega) (by omega) rfl rfl ?_
            refine sy_field fld_33_1 rfl rfl rfl ?_
            refine sy_ldh one_9 rfl (by have := hx _ _ (cellsOf_get ho (j := 1) rfl); simpa using this) rfl rfl ?_
            refine sy_len rfl (len_string Try.underlying9 _) rfl rfl ?_
            refine sy_cmp rfl rfl rfl rfl rfl ?_
            refine sy_pickT rfl rfl rfl rfl ?_
            refine sy_nil rfl ?_
            refine ny_next ?_
            refine cy_cond rfl (fun hc101 => ?_) (fun hc101 => ?_)
            · refine cy_region ?_
              refine sy_move rfl rfl rfl ?_
              refine sy_addi (z := cnt (hit s.data.toList 2) (opsL.take (i + 1))) rfl rfl (by rw [cnt_succ ho, if_pos (hit_t (k := 2) hg93 hc101)]) (by have := cnt_le (hit s.data.toList 2) (i + 1); omega) (by have := cnt_le (hit s.data.toList 2) (i + 1); omega) rfl rfl ?_
              refine sy_assign rfl rfl rfl ?_
              refine sy_nil rfl ?_
              refine ny_blockN ?_
              refine ny_next ?_
              refine cy_region ?_
              refine sy_move rfl rfl rfl ?_
              refine sy_addi (z := ((i + 1 : Nat) : Int)) rfl rfl (by omega) (by omega) (by omega) rfl rfl ?_
              refine sy_assign rfl rfl rfl ?_
              refine sy_nil rfl ?_
              exact ny_round (i + 1) [] (show i + 1 ≤ 26 by omega) (show 26 - (i + 1) < 26 - i by omega) ⟨rfl, rfl, rfl, rfl, rfl, rfl, rfl, rfl, trivial⟩ rfl rfl
            · have e8 : cnt (hit s.data.toList 2) (opsL.take i) = cnt (hit s.data.toList 2) (opsL.take (i + 1)) := by rw [cnt_succ ho, if_neg (hit_f2 (k := 2) hc101)] <;> omega
              rw [e8]
              refine cy_skip ?_
              refine ny_blockN ?_
              refine ny_next ?_
              refine cy_region ?_
              refine sy_move rfl rfl rfl ?_
              refine sy_addi (z := ((i + 1 : Nat) : Int)) rfl rfl (by omega) (by omega) (by omega) rfl rfl ?_
              refine sy_assign rfl rfl rfl ?_
              refine sy_nil rfl ?_
              exact ny_round (i + 1) [] (show i + 1 ≤ 26 by omega) (show 26 - (i + 1) < 26 - i by omega) ⟨rfl, rfl, rfl, rfl, rfl, rfl, rfl, rfl, trivial⟩ rfl rfl
          · refine sy_skip rfl rfl rfl ?_
            refine sy_skip rfl rfl rfl ?_
            refine sy_skip rfl rfl rfl ?_
            refine sy_skip rfl rfl rfl ?_
            refine sy_skip rfl rfl rfl ?_
            refine sy_skip rfl rfl rfl ?_
            refine sy_skip rfl rfl rfl ?_
            refine sy_pickF rfl rfl rfl rfl ?_
            refine sy_nil rfl ?_
            refine ny_next ?_
            refine cy_condF rfl ?_
            have e8 : cnt (hit s.data.toList 2) (opsL.take i) = cnt (hit s.data.toList 2) (opsL.take (i + 1)) := by rw [cnt_succ ho, if_neg (hit_f1 hg93)] <;> omega
            rw [e8]
            refine cy_skip ?_
            refine ny_blockN ?_
            refine ny_next ?_
            refine cy_region ?_
            refine sy_move rfl rfl rfl ?_
            refine sy_addi (z := ((i + 1 : Nat) : Int)) rfl rfl (by omega) (by omega) (by omega) rfl rfl ?_
            refine sy_assign rfl rfl rfl ?_
            refine sy_nil rfl ?_
            exact ny_round (i + 1) [] (show i + 1 ≤ 26 by omega) (show 26 - (i + 1) < 26 - i by omega) ⟨rfl, rfl, rfl, rfl, rfl, rfl, rfl, rfl, trivial⟩ rfl rfl
    · have e5 : cnt (fun o => o.2.1.length == 3) (opsL.take i) = cnt (fun o => o.2.1.length == 3) (opsL.take (i + 1)) := by rw [cnt_succ ho, if_neg (len3_f hc59)] <;> omega
      rw [e5]
      refine cy_seq ?_
      refine cy_region ?_
      refine sy_move rfl rfl rfl ?_
      refine sy_addi (z := cnt (fun o => !(o.2.1.length == 3)) (opsL.take (i + 1))) rfl rfl (by rw [cnt_succ ho, if_pos (len3_m hc59)]) (by have := cnt_le (fun o => !(o.2.1.length == 3)) (i + 1); omega) (by have := cnt_le (fun o => !(o.2.1.length == 3)) (i + 1); omega) rfl rfl ?_
      refine sy_assign rfl rfl rfl ?_
      refine sy_nil rfl ?_
      refine ny_next ?_
      refine cy_seq ?_
      refine cy_region ?_
      refine sy_move rfl rfl rfl ?_
      refine sy_not rfl rfl rfl ?_
      refine sy_nil rfl ?_
      refine ny_next ?_
      refine cy_cond rfl (fun hc67 => ?_) (fun hc67 => ?_)
      · exact (many2 htold hc59 hc67).elim
      · refine cy_skip ?_
        refine ny_next ?_
        refine cy_seq ?_
        refine cy_seq ?_
        refine cy_region ?_
        refine sy_move rfl rfl rfl ?_
        refine sy_move rfl rfl rfl ?_
        refine sy_idxS (ik := .i64) (i := (i : Int)) els_28 rfl rfl (by omega) (by omega) rfl rfl ?_
        refine sy_field fld_33_2 rfl rfl rfl ?_
        refine sy_ldh one_9 rfl (by have := hx _ _ (cellsOf_get ho (j := 2) rfl); simpa using this) rfl rfl ?_
        refine sy_move rfl rfl rfl ?_
        refine sy_eqs rfl rfl rfl rfl ?_
        refine sy_move rfl rfl rfl ?_
        refine sy_cond (d := 75) _ rfl rfl (fun hg75 => ?_) (fun hg75 => ?_)
        · refine sy_move rfl rfl rfl ?_
          refine sy_move rfl rfl rfl ?_
          refine sy_idxS (ik := .i64) (i := (i : Int)) els_28 rfl rfl (by omega) (by omega) rfl rfl ?_
          refine sy_field fld_33_1 rfl rfl rfl ?_
          refine sy_ldh one_9 rfl (by have := hx _ _ (cellsOf_get ho (j := 1) rfl); simpa using this) rfl rfl ?_
          refine sy_len rfl (len_string Try.underlying9 _) rfl rfl ?_
          refine sy_cmp rfl rfl rfl rfl rfl ?_
          refine sy_pickT rfl rfl rfl rfl ?_
          refine sy_nil rfl ?_
          refine ny_next ?_
          refine cy_cond rfl (fun hc83 => ?_) (fun hc83 => ?_)
          · refine cy_region ?_
            refine sy_move rfl rfl rfl ?_
            refine sy_addi (z := cnt (hit s.data.toList 3) (opsL.take (i + 1))) rfl rfl (by rw [cnt_succ ho, if_pos (hit_t (k := 3) hg75 hc83)]) (by have := cnt_le (hit s.data.toList 3) (i + 1); omega) (by have := cnt_le (hit s.data.toList 3) (i + 1); omega) rfl rfl ?_
            refine sy_assign rfl rfl rfl ?_
            refine sy_nil rfl ?_
            refine ny_next ?_
            refine cy_seq ?_
            refine cy_region ?_
            refine sy_move rfl rfl rfl ?_
            refine sy_move rfl rfl rfl ?_
            refine sy_idxS (ik := .i64) (i := (i : Int)) els_28 rfl rfl (by omega) (by omega) rfl rfl ?_
            refine sy_field fld_33_2 rfl rfl rfl ?_
            refine sy_ldh one_9 rfl (by have := hx _ _ (cellsOf_get ho (j := 2) rfl); simpa using this) rfl rfl ?_
            refine sy_move rfl rfl rfl ?_
            refine sy_eqs rfl rfl rfl rfl ?_
            refine sy_move rfl rfl rfl ?_
            refine sy_cond (d := 93) _ rfl rfl (fun hg93 => ?_) (fun hg93 => ?_)
            · refine sy_move rfl rfl rfl ?_
              refine sy_move rfl rfl rfl ?_
              refine sy_idxS (ik := .i64) (i := (i : Int)) els_28 rfl rfl (by omega) (by omega) rfl rfl ?_
              refine sy_field fld_33_1 rfl rfl rfl ?_
              refine sy_ldh one_9 rfl (by have := hx _ _ (cellsOf_get ho (j := 1) rfl); simpa using this) rfl rfl ?_
              refine sy_len rfl (len_string Try.underlying9 _) rfl rfl ?_
              refine sy_cmp rfl rfl rfl rfl rfl ?_
              refine sy_pickT rfl rfl rfl rfl ?_
              refine sy_nil rfl ?_
              refine ny_next ?_
              refine cy_cond rfl (fun hc101 => ?_) (fun hc101 => ?_)
              · refine cy_region ?_
                refine sy_move rfl rfl rfl ?_
                refine sy_addi (z := cnt (hit s.data.toList 2) (opsL.take (i + 1))) rfl rfl (by rw [cnt_succ ho, if_pos (hit_t (k := 2) hg93 hc101)]) (by have := cnt_le (hit s.data.toList 2) (i + 1); omega) (by have := cnt_le (hit s.data.toList 2) (i + 1); omega) rfl rfl ?_
                refine sy_assign rfl rfl rfl ?_
                refine sy_nil rfl ?_
                refine ny_blockN ?_
                refine ny_next ?_
                refine cy_region ?_
                refine sy_move rfl rfl rfl ?_
                refine sy_addi (z := ((i + 1 : Nat) : Int)) rfl rfl (by omega) (by omega) (by omega) rfl rfl ?_
                refine sy_assign rfl rfl rfl ?_
                refine sy_nil rfl ?_
                exact ny_round (i + 1) [] (show i + 1 ≤ 26 by omega) (show 26 - (i + 1) < 26 - i by omega) ⟨rfl, rfl, rfl, rfl, rfl, rfl, rfl, rfl, trivial⟩ rfl rfl
              · have e8 : cnt (hit s.data.toList 2) (opsL.take i) = cnt (hit s.data.toList 2) (opsL.take (i + 1)) := by rw [cnt_succ ho, if_neg (hit_f2 (k := 2) hc101)] <;> omega
                rw [e8]
                refine cy_skip ?_
                refine ny_blockN ?_
                refine ny_next ?_
                refine cy_region ?_
                refine sy_move rfl rfl rfl ?_
                refine sy_addi (z := ((i + 1 : Nat) : Int)) rfl rfl (by omega) (by omega) (by omega) rfl rfl ?_
                refine sy_assign rfl rfl rfl ?_
                refine sy_nil rfl ?_
                exact ny_round (i + 1) [] (show i + 1 ≤ 26 by omega) (show 26 - (i + 1) < 26 - i by omega) ⟨rfl, rfl, rfl, rfl, rfl, rfl, rfl, rfl, trivial⟩ rfl rfl
            · refine sy_skip rfl rfl rfl ?_
              refine sy_skip rfl rfl rfl ?_
              refine sy_skip rfl rfl rfl ?_
              refine sy_skip rfl rfl rfl ?_
              refine sy_skip rfl rfl rfl ?_
              refine sy_skip rfl rfl rfl ?_
              refine sy_skip rfl rfl rfl ?_
              refine sy_pickF rfl rfl rfl rfl ?_
              refine sy_nil rfl ?_
              refine ny_next ?_
              refine cy_condF rfl ?_
              have e8 : cnt (hit s.data.toList 2) (opsL.take i) = cnt (hit s.data.toList 2) (opsL.take (i + 1)) := by rw [cnt_succ ho, if_neg (hit_f1 hg93)] <;> omega
              rw [e8]
              refine cy_skip ?_
              refine ny_blockN ?_
              refine ny_next ?_
              refine cy_region ?_
              refine sy_move rfl rfl rfl ?_
              refine sy_addi (z := ((i + 1 : Nat) : Int)) rfl rfl (by omega) (by omega) (by omega) rfl rfl ?_
              refine sy_assign rfl rfl rfl ?_
              refine sy_nil rfl ?_
              exact ny_round (i + 1) [] (show i + 1 ≤ 26 by omega) (show 26 - (i + 1) < 26 - i by omega) ⟨rfl, rfl, rfl, rfl, rfl, rfl, rfl, rfl, trivial⟩ rfl rfl
          · have e7 : cnt (hit s.data.toList 3) (opsL.take i) = cnt (hit s.data.toList 3) (opsL.take (i + 1)) := by rw [cnt_succ ho, if_neg (hit_f2 (k := 3) hc83)] <;> omega
            rw [e7]
            refine cy_skip ?_
            refine ny_next ?_
            refine cy_seq ?_
            refine cy_region ?_
            refine sy_move rfl rfl rfl ?_
            refine sy_move rfl rfl rfl ?_
            refine sy_idxS (ik := .i64) (i := (i : Int)) els_28 rfl rfl (by omega) (by omega) rfl rfl ?_
            refine sy_field fld_33_2 rfl rfl rfl ?_
            refine sy_ldh one_9 rfl (by have := hx _ _ (cellsOf_get ho (j := 2) rfl); simpa using this) rfl rfl ?_
            refine sy_move rfl rfl rfl ?_
            refine sy_eqs rfl rfl rfl rfl ?_
            refine sy_move rfl rfl rfl ?_
            refine sy_cond (d := 93) _ rfl rfl (fun hg93 => ?_) (fun hg93 => ?_)
            · refine sy_move rfl rfl rfl ?_
              refine sy_move rfl rfl rfl ?_
              refine sy_idxS (ik := .i64) (i := (i : Int)) els_28 rfl rfl (by omega) (by omega) rfl rfl ?_
              refine sy_field fld_33_1 rfl rfl rfl ?_
              refine sy_ldh one_9 rfl (by have := hx _ _ (cellsOf_get ho (j := 1) rfl); simpa using this) rfl rfl ?_
              refine sy_len rfl (len_string Try.underlying9 _) rfl rfl ?_
              refine sy_cmp rfl rfl rfl rfl rfl ?_
              refine sy_pickT rfl rfl rfl rfl ?_
              refine sy_nil rfl ?_
              refine ny_next ?_
              refine cy_cond rfl (fun hc101 => ?_) (fun hc101 => ?_)
              · refine cy_region ?_
                refine sy_move rfl rfl rfl ?_
                refine sy_addi (z := cnt (hit s.data.toList 2) (opsL.take (i + 1))) rfl rfl (by rw [cnt_succ ho, if_pos (hit_t (k := 2) hg93 hc101)]) (by have := cnt_le (hit s.data.toList 2) (i + 1); omega) (by have := cnt_le (hit s.data.toList 2) (i + 1); omega) rfl rfl ?_
                refine sy_assign rfl rfl rfl ?_
                refine sy_nil rfl ?_
                refine ny_blockN ?_
                refine ny_next ?_
                refine cy_region ?_
                refine sy_move rfl rfl rfl ?_
                refine sy_addi (z := ((i + 1 : Nat) : Int)) rfl rfl (by omega) (by omega) (by omega) rfl rfl ?_
                refine sy_assign rfl rfl rfl ?_
                refine sy_nil rfl ?_
                exact ny_round (i + 1) [] (show i + 1 ≤ 26 by omega) (show 26 - (i + 1) < 26 - i by omega) ⟨rfl, rfl, rfl, rfl, rfl, rfl, rfl, rfl, trivial⟩ rfl rfl
              · have e8 : cnt (hit s.data.toList 2) (opsL.take i) = cnt (hit s.data.toList 2) (opsL.take (i + 1)) := by rw [cnt_succ ho, if_neg (hit_f2 (k := 2) hc101)] <;> omega
                rw [e8]
                refine cy_skip ?_
                refine ny_blockN ?_
                refine ny_next ?_
                refine cy_region ?_
                refine sy_move rfl rfl rfl ?_
                refine sy_addi (z := ((i + 1 : Nat) : Int)) rfl rfl (by omega) (by omega) (by omega) rfl rfl ?_
                refine sy_assign rfl rfl rfl ?_
                refine sy_nil rfl ?_
                exact ny_round (i + 1) [] (show i + 1 ≤ 26 by omega) (show 26 - (i + 1) < 26 - i by omega) ⟨rfl, rfl, rfl, rfl, rfl, rfl, rfl, rfl, trivial⟩ rfl rfl
            · refine sy_skip rfl rfl rfl ?_
              refine sy_skip rfl rfl rfl ?_
              refine sy_skip rfl rfl rfl ?_
              refine sy_skip rfl rfl rfl ?_
              refine sy_skip rfl rfl rfl ?_
              refine sy_skip rfl rfl rfl ?_
              refine sy_skip rfl rfl rfl ?_
              refine sy_pickF rfl rfl rfl rfl ?_
              refine sy_nil rfl ?_
              refine ny_next ?_
              refine cy_condF rfl ?_
              have e8 : cnt (hit s.data.toList 2) (opsL.take i) = cnt (hit s.data.toList 2) (opsL.take (i + 1)) := by rw [cnt_succ ho, if_neg (hit_f1 hg93)] <;> omega
              rw [e8]
              refine cy_skip ?_
              refine ny_blockN ?_
              refine ny_next ?_
              refine cy_region ?_
              refine sy_move rfl rfl rfl ?_
              refine sy_addi (z := ((i + 1 : Nat) : Int)) rfl rfl (by omega) (by omega) (by omega) rfl rfl ?_
              refine sy_assign rfl rfl rfl ?_
              refine sy_nil rfl ?_
              exact ny_round (i + 1) [] (show i + 1 ≤ 26 by omega) (show 26 - (i + 1) < 26 - i by omega) ⟨rfl, rfl, rfl, rfl, rfl, rfl, rfl, rfl, trivial⟩ rfl rfl
        · refine sy_skip rfl rfl rfl ?_
          refine sy_skip rfl rfl rfl ?_
          refine sy_skip rfl rfl rfl ?_
          refine sy_skip rfl rfl rfl ?_
          refine sy_skip rfl rfl rfl ?_
          refine sy_skip rfl rfl rfl ?_
          refine sy_skip rfl rfl rfl ?_
          refine sy_pickF rfl rfl rfl rfl ?_
          refine sy_nil rfl ?_
          refine ny_next ?_
          refine cy_condF rfl ?_
          have e7 : cnt (hit s.data.toList 3) (opsL.take i) = cnt (hit s.data.toList 3) (opsL.take (i + 1)) := by rw [cnt_succ ho, if_neg (hit_f1 hg75)] <;> omega
          rw [e7]
          refine cy_skip ?_
          refine ny_next ?_
          refine cy_seq ?_
          refine cy_region ?_
          refine sy_move rfl rfl rfl ?_
          refine sy_move rfl rfl rfl ?_
          refine sy_idxS (ik := .i64) (i := (i : Int)) els_28 rfl rfl (by omega) (by omega) rfl rfl ?_
          refine sy_field fld_33_2 rfl rfl rfl ?_
          refine sy_ldh one_9 rfl (by have := hx _ _ (cellsOf_get ho (j := 2) rfl); simpa using this) rfl rfl ?_
          refine sy_move rfl rfl rfl ?_
          refine sy_eqs rfl rfl rfl rfl ?_
          refine sy_move rfl rfl rfl ?_
          refine sy_cond (d := 93) _ rfl rfl (fun hg93 => ?_) (fun hg93 => ?_)
          · refine sy_move rfl rfl rfl ?_
            refine sy_move rfl rfl rfl ?_
            refine sy_idxS (ik := .i64) (i := (i : Int)) els_28 rfl rfl (by omega) (by omega) rfl rfl ?_
            refine sy_field fld_33_1 rfl rfl rfl ?_
            refine sy_ldh one_9 rfl (by have := hx _ _ (cellsOf_get ho (j := 1) rfl); simpa using this) rfl rfl ?_
            refine sy_len rfl (len_string Try.underlying9 _) rfl rfl ?_
            refine sy_cmp rfl rfl rfl rfl rfl ?_
            refine sy_pickT rfl rfl rfl rfl ?_
            refine sy_nil rfl ?_
            refine ny_next ?_
            refine cy_cond rfl (fun hc101 => ?_) (fun hc101 => ?_)
            · refine cy_region ?_
              refine sy_move rfl rfl rfl ?_
              refine sy_addi (z := cnt (hit s.data.toList 2) (opsL.take (i + 1))) rfl rfl (by rw [cnt_succ ho, if_pos (hit_t (k := 2) hg93 hc101)]) (by have := cnt_le (hit s.data.toList 2) (i + 1); omega) (by have := cnt_le (hit s.data.toList 2) (i + 1); omega) rfl rfl ?_
              refine sy_assign rfl rfl rfl ?_
              refine sy_nil rfl ?_
              refine ny_blockN ?_
              refine ny_next ?_
              refine cy_region ?_
              refine sy_move rfl rfl rfl ?_
              refine sy_addi (z := ((i + 1 : Nat) : Int)) rfl rfl (by omega) (by omega) (by omega) rfl rfl ?_
              refine sy_assign rfl rfl rfl ?_
              refine sy_nil rfl ?_
              exact ny_round (i + 1) [] (show i + 1 ≤ 26 by omega) (show 26 - (i + 1) < 26 - i by omega) ⟨rfl, rfl, rfl, rfl, rfl, rfl, rfl, rfl, trivial⟩ rfl rfl
            · have e8 : cnt (hit s.data.toList 2) (opsL.take i) = cnt (hit s.data.toList 2) (opsL.take (i + 1)) := by rw [cnt_succ ho, if_neg (hit_f2 (k := 2) hc101)] <;> omega
              rw [e8]
              refine cy_skip ?_
              refine ny_blockN ?_
              refine ny_next ?_
              refine cy_region ?_
              refine sy_move rfl rfl rfl ?_
              refine sy_addi (z := ((i + 1 : Nat) : Int)) rfl rfl (by omega) (by omega) (by omega) rfl rfl ?_
              refine sy_assign rfl rfl rfl ?_
              refine sy_nil rfl ?_
              exact ny_round (i + 1) [] (show i + 1 ≤ 26 by omega) (show 26 - (i + 1) < 26 - i by omega) ⟨rfl, rfl, rfl, rfl, rfl, rfl, rfl, rfl, trivial⟩ rfl rfl
          · refine sy_skip rfl rfl rfl ?_
            refine sy_skip rfl rfl rfl ?_
            refine sy_skip rfl rfl rfl ?_
            refine sy_skip rfl rfl rfl ?_
            refine sy_skip rfl rfl rfl ?_
            refine sy_skip rfl rfl rfl ?_
            refine sy_skip rfl rfl rfl ?_
            refine sy_pickF rfl rfl rfl rfl ?_
            refine sy_nil rfl ?_
            refine ny_next ?_
            refine cy_condF rfl ?_
            have e8 : cnt (hit s.data.toList 2) (opsL.take i) = cnt (hit s.data.toList 2) (opsL.take (i + 1)) := by rw [cnt_succ ho, if_neg (hit_f1 hg93)] <;> omega
            rw [e8]
            refine cy_skip ?_
            refine ny_blockN ?_
            refine ny_next ?_
            refine cy_region ?_
            refine sy_move rfl rfl rfl ?_
            refine sy_addi (z := ((i + 1 : Nat) : Int)) rfl rfl (by omega) (by omega) (by omega) rfl rfl ?_
            refine sy_assign rfl rfl rfl ?_
            refine sy_nil rfl ?_
            exact ny_round (i + 1) [] (show i + 1 ≤ 26 by omega) (show 26 - (i + 1) < 26 - i by omega) ⟨rfl, rfl, rfl, rfl, rfl, rfl, rfl, rfl, trivial⟩ rfl rfl
  · obtain rfl : i = 26 := by have := of_decide_eq_false hc29; omega
    rw [show opsL.take 26 = opsL from rfl]
    obtain ⟨q1, q2, q3, q4⟩ := own_eq s.data.toList
    refine cy_exit ?_
    refine ny_thenE ?_
    refine ny_thenE ?_
    refine ny_blockX ?_
    refine ny_next ?_
    refine cy_seq ?_
    refine cy_region ?_
    refine sy_move rfl rfl rfl ?_
    refine sy_call rfl call_17 rfl (infix_c _ _) rfl rfl ?_
    refine sy_move rfl rfl rfl ?_
    refine sy_extract rfl rfl rfl rfl ?_
    refine sy_extract rfl rfl rfl rfl ?_
    refine sy_extract rfl rfl rfl rfl ?_
    refine sy_extract rfl rfl rfl rfl ?_
    refine sy_assign rfl rfl rfl ?_
    refine sy_assign rfl rfl rfl ?_
    refine sy_assign rfl rfl rfl ?_
    refine sy_assign rfl rfl rfl ?_
    refine sy_nil rfl ?_
    refine ny_next ?_
    refine cy_seq ?_
    refine cy_region ?_
    refine sy_move rfl rfl rfl ?_
    refine sy_call rfl call_19 rfl (prefix_c _ _) rfl rfl ?_
    refine sy_move rfl rfl rfl ?_
    refine sy_extract rfl rfl rfl rfl ?_
    refine sy_extract rfl rfl rfl rfl ?_
    refine sy_extract rfl rfl rfl rfl ?_
    refine sy_assign rfl rfl rfl ?_
    refine sy_assign rfl rfl rfl ?_
    refine sy_assign rfl rfl rfl ?_
    refine sy_nil rfl ?_
    refine ny_next ?_
    refine cy_seq ?_
    refine cy_region ?_
    refine sy_move rfl rfl rfl ?_
    refine sy_move rfl rfl rfl ?_
    refine sy_setT (d := 118) rfl rfl rfl ?_
    refine sy_move rfl rfl rfl ?_
    refine sy_move rfl rfl rfl ?_
    refine sy_addi (z := 26) rfl rfl cnt_all (by decide) (by decide) rfl rfl ?_
    refine sy_move rfl rfl rfl ?_
    refine sy_len rfl (len_slice Try.underlying28 _ _ _) rfl rfl ?_
    refine sy_cmp rfl rfl rfl rfl rfl ?_
    refine sy_pickT rfl rfl rfl rfl ?_
    refine sy_move rfl rfl rfl ?_
    refine sy_setT (d := 126) rfl rfl rfl ?_
    refine sy_move rfl rfl rfl ?_
    refine sy_move rfl rfl rfl ?_
    refine sy_cmp rfl rfl rfl rfl rfl ?_
    refine sy_eqb (by kernel_rfl) rfl rfl rfl rfl ?_
    refine sy_pickT rfl rfl rfl rfl ?_
    refine sy_move rfl rfl rfl ?_
    refine sy_setT (d := 132) rfl rfl (by rw [q1]; simp) ?_
    refine sy_move rfl rfl rfl ?_
    refine sy_move rfl rfl rfl ?_
    refine sy_cmp rfl rfl rfl rfl rfl ?_
    refine sy_eqb (by kernel_rfl) rfl rfl rfl rfl ?_
    refine sy_pickT rfl rfl rfl rfl ?_
    refine sy_move rfl rfl rfl ?_
    refine sy_setT (d := 138) rfl rfl (by rw [q2]; simp) ?_
    refine sy_move rfl rfl rfl ?_
    refine sy_cmp rfl rfl rfl rfl rfl ?_
    refine sy_pickT rfl rfl rfl rfl ?_
    refine sy_move rfl rfl rfl ?_
    refine sy_setT (d := 142) rfl rfl (decide_eq_true q3) ?_
    refine sy_move rfl rfl rfl ?_
    refine sy_cmp rfl rfl rfl rfl rfl ?_
    refine sy_pickT rfl rfl rfl rfl ?_
    refine sy_assign rfl rfl rfl ?_
    refine sy_nil rfl ?_
    refine ny_next ?_
    refine cy_ret ?_
    exact ny_finR (res1 rfl rfl) (fun w hs => ⟨ret_true (decide_eq_true q4), hs.frm⟩)
end Go.Proofs.Ytbeocnhbbhidaaa

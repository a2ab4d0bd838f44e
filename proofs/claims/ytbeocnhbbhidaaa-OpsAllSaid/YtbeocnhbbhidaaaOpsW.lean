/- The operators' functions, each by its contract. Conditions: none beyond those of each theorem. Printed by a program of this session. -/
import Derived.Test.YtbeocnhbbhidaaaFacts
import Derived.Test.YtbeocnhbbhidaaaOpsPure
set_option linter.unusedVariables false
set_option linter.unusedSimpArgs false
namespace Go.Proofs.Ytbeocnhbbhidaaa
open Go.RowKit Go.Proofs.Ytbeocnhbbhidaaa.E Go.Proofs.Ytbeocnhbbhidaaa.OpsP
theorem bes_yes {p : Int} {c : UInt8} (h : ((c.toNat : Int) == 121) = true) : Value.int .i64 p = .int .i64 (bes p c) := by
  have h1 : c.toNat = 121 := by have := eq_of_beq h; omega
  have h2 : c = 121 := UInt8.toNat_inj.1 h1
  simp [bes, h2]
theorem bes_no {p : Int} {c : UInt8} (h : ((c.toNat : Int) == 121) = false) : Value.int .i64 (p - 1) = .int .i64 (bes p c) := by
  have h2 : ¬ c = 121 := by rintro rfl; simp at h
  simp [bes, h2]
theorem in_snoc {xs : List (List UInt8)} {ys : List ByteArray} {s : ByteArray} {i : Nat} {y : ByteArray} (hxs : xs = ys.map (·.data.toList)) (h : (xs.take i).any (· == s.data.toList) = false) (hy : ys[i]? = some y) (hc : (y.data.toList == s.data.toList) = false) :
    (xs.take (i + 1)).any (· == s.data.toList) = false := by
  have h1 : xs[i]? = some y.data.toList := by rw [hxs]; simp [hy]
  rw [List.take_add_one, h1, List.any_append, h]
  simpa using hc
theorem in_found {xs : List (List UInt8)} {ys : List ByteArray} {s : ByteArray} {i : Nat} {y : ByteArray} (hxs : xs = ys.map (·.data.toList)) (hy : ys[i]? = some y) (hc : (y.data.toList == s.data.toList) = true) :
    Ending.returned (.bool true) = .returned (.bool (xs.any (· == s.data.toList))) := by
  have h1 : xs[i]? = some y.data.toList := by rw [hxs]; simp [hy]
  have h2 : xs.any (· == s.data.toList) = true := List.any_eq_true.2 ⟨_, List.mem_of_getElem? h1, hc⟩
  rw [h2]
theorem in_none {xs : List (List UInt8)} {ys : List ByteArray} {s : ByteArray} {i l : Nat} (hxs : xs = ys.map (·.data.toList)) (hl : ys.length = l) (h : (xs.take i).any (· == s.data.toList) = false) (hi : i ≤ l) (hc : decide ((i : Int) < (l : Int)) = false) :
    Ending.returned (.bool false) = .returned (.bool (xs.any (· == s.data.toList))) := by
  have h1 : i = l := by simp at hc; omega
  have h2 : xs.take i = xs := List.take_of_length_le (by rw [hxs]; simp; omega)
  rw [h2] at h
  rw [h]
def cellsOf (l : List OpT) : List Value := l.flatMap fun o => [.int .i64 o.1, .string ⟨o.2.1.toArray⟩, .string ⟨o.2.2.toArray⟩]
theorem cellsOf_append (a b : List OpT) : cellsOf (a ++ b) = cellsOf a ++ cellsOf b := by simp [cellsOf]
def pre (i : Nat) : List OpT := (rowsL.take i).flatMap fun r => r.2.2.map fun n => (r.1, r.2.1, n)
theorem pre_succ {i : Nat} {p : Int} {ty : List UInt8} {nms : List (List UInt8)} (h : rowsL[i]? = some (p, ty, nms)) : pre (i + 1) = pre i ++ (nms.take nms.length).map fun n => (p, ty, n) := by
  unfold pre
  rw [List.take_add_one, h]
  simp
theorem row_snoc {i j : Nat} {p : Int} {ty nm : List UInt8} {nms : List (List UInt8)} {v : Value} {e : Nat} (h : nms[j]? = some nm) :
    Res.row v e 3 (pre i ++ (nms.take (j + 1)).map fun n => (p, ty, n)).length (cellsOf (pre i ++ (nms.take (j + 1)).map fun n => (p, ty, n))) = Res.row v e 3 ((pre i ++ (nms.take j).map fun n => (p, ty, n)).length + 1) (cellsOf (pre i ++ (nms.take j).map fun n => (p, ty, n)) ++ [.int .i64 p, .string ⟨ty.toArray⟩, .string ⟨nm.toArray⟩]) := by
  rw [List.take_add_one, h]
  simp [cellsOf, List.flatMap_append, Nat.add_assoc]
theorem names_cell {h : Hp} {g j t : Nat} {nms : List (List UInt8)} {nm : List UInt8} (hg : h g = some (.cells (nms.map fun n => Value.string ⟨n.toArray⟩).toArray t (0, 0))) (hn : nms[j]? = some nm) : h.cell ⟨g, 0 + (j : Int).toNat * 1, none⟩ = some (.string ⟨nm.toArray⟩) := by
  simp [Hp.cell, hg, hn]
theorem fld_cell {h : Hp} {g off t : Nat} {cs : List Value} {v : Value} (hg : h g = some (.cells cs.toArray t (0, 0))) (hc : cs[off]? = some v) : h.cell ⟨g, off, none⟩ = some v := by
  simp [Hp.cell, hg, hc]
theorem nms12 {i : Nat} {p : Int} {ty : List UInt8} {nms : List (List UInt8)} (h : rowsL[i]? = some (p, ty, nms)) : nms.length ≤ 12 := by
  have : ∀ r ∈ rowsL, r.2.2.length ≤ 12 := by decide
  exact this _ (List.mem_of_getElem? h)
theorem room3 {i j : Nat} {p : Int} {ty : List UInt8} {nms : List (List UInt8)} (h : rowsL[i]? = some (p, ty, nms)) (hj : j < nms.length) : ((pre i ++ (nms.take j).map fun n => (p, ty, n)).length + 1) * 40 ≤ 140737488355328 := by
  have h1 : nms.length ≤ 12 := by
    have : ∀ r ∈ rowsL, r.2.2.length ≤ 12 := by decide
    exact this _ (List.mem_of_getElem? h)
  have h2 : (pre i).length ≤ 26 := by
    have h4 : i ≤ 12 := by have := (List.getElem?_eq_some_iff.1 h).1; have h5 : rowsL.length = 12 := rfl; omega
    have : ∀ i, i ≤ 12 → (pre i).length ≤ 26 := by decide
    exact this i h4
  have h3 : ((nms.take j).map fun n => (p, ty, n)).length ≤ 12 := by simp; omega
  simp only [List.length_append]
  omega
theorem cellsOf_get {l : List OpT} {i : Nat} {p : Int} {ty nm : List UInt8} (ho : l[i]? = some (p, ty, nm)) {j : Nat} {u : Value} (hj : ([.int .i64 p, .string ⟨ty.toArray⟩, .string ⟨nm.toArray⟩] : List Value)[j]? = some u) : (cellsOf l)[i * 3 + j]? = some u := by
  induction l generalizing i with
  | nil => simp at ho
  | cons x l ih =>
    cases i with
    | zero =>
      simp only [List.getElem?_cons_zero, Option.some.injEq] at ho
      subst ho
      have hlt : j < 3 := (List.getElem?_eq_some_iff.1 hj).1
      simp only [cellsOf, List.flatMap_cons, Nat.zero_mul, Nat.zero_add]
      rw [List.getElem?_append_left (by simpa using hlt)]
      exact hj
    | succ i =>
      have := ih (by simpa using ho)
      simp only [cellsOf, List.flatMap_cons]
      rw [List.getElem?_append_right (by simp; omega)]
      simpa [cellsOf, show (i + 1) * 3 + j - 3 = i * 3 + j by omega] using this
def retF : Option OpT → Value
  | some (p, ty, nm) => .tuple #[.agg #[.int .i64 p, .string ⟨ty.toArray⟩, .string ⟨nm.toArray⟩], .bool true]
  | none => .tuple #[.agg #[.int .i64 0, .string ⟨#[]⟩, .string ⟨#[]⟩], .bool false]
def tup4 (x : Int × Int × Int × Bool) : Value := .tuple #[.int .i64 x.1, .int .i64 x.2.1, .int .i64 x.2.2.1, .bool x.2.2.2]
def tup3 (x : Int × Int × Bool) : Value := .tuple #[.int .i64 x.1, .int .i64 x.2.1, .bool x.2.2]
theorem opsL_len : opsL.length = 26 := by decide
theorem ret4 {a b c : Int} {d : Bool} {x : Int × Int × Int × Bool} (h : (a, b, c, d) = x) : Ending.returned (.tuple #[.int .i64 a, .int .i64 b, .int .i64 c, .bool d]) = .returned (tup4 x) := by subst h; rfl
theorem ret3 {a b : Int} {d : Bool} {x : Int × Int × Bool} (h : (a, b, d) = x) : Ending.returned (.tuple #[.int .i64 a, .int .i64 b, .bool d]) = .returned (tup3 x) := by subst h; rfl
theorem opsL_facts : ∀ o ∈ opsL, 0 < o.1 ∧ o.1 ≤ 2000 := by decide
theorem findL_facts {L : List UInt8} {k : Nat} {p : Int} {ty nm : List UInt8} (h : findL L k = some (p, ty, nm)) : 0 ≤ p ∧ p ≤ 2000 ∧ ty.length = k := by
  have h1 := opsL_facts _ (List.mem_of_find?_eq_some h)
  have h2 := List.find?_some h
  simp only [hit, Bool.and_eq_true, beq_iff_eq] at h2
  exact ⟨by have := h1.1; simp only at this; omega, h1.2, by have := h2.2; omega⟩
section
variable {L : List UInt8} {k : Int} {i : Nat} {p : Int} {ty nm : List UInt8}
theorem take_snoc_false (hpre : ∀ o ∈ opsL.take i, hit L k o = false) (ho : opsL[i]? = some (p, ty, nm)) (h1 : hit L k (p, ty, nm) = false) : ∀ o ∈ opsL.take (i + 1), hit L k o = false := by
  intro o hm
  rw [List.take_add_one, ho] at hm
  rcases List.mem_append.1 hm with hm | hm
  · exact hpre o hm
  · have : o = (p, ty, nm) := by simpa using hm
    rw [this]
    exact h1
theorem find_no1 (hpre : ∀ o ∈ opsL.take i, hit L k o = false) (ho : opsL[i]? = some (p, ty, nm)) (hg : (!((⟨nm.toArray⟩ : ByteArray).data.toList == L)) = true) : ∀ o ∈ opsL.take (i + 1), hit L k o = false :=
  take_snoc_false hpre ho (by simp at hg; simp [hit, hg])
theorem find_no2 (hpre : ∀ o ∈ opsL.take i, hit L k o = false) (ho : opsL[i]? = some (p, ty, nm)) (hc : (((⟨ty.toArray⟩ : ByteArray).size : Int) != k) = true) : ∀ o ∈ opsL.take (i + 1), hit L k o = false :=
  take_snoc_false hpre ho (by
    have h1 : ¬ (ty.length : Int) = k := by simpa [ByteArray.size] using hc
    simp [hit, h1])
theorem find_yes (hpre : ∀ o ∈ opsL.take i, hit L k o = false) (ho : opsL[i]? = some (p, ty, nm)) (hg : (!((⟨nm.toArray⟩ : ByteArray).data.toList == L)) = false) (hc : (((⟨ty.toArray⟩ : ByteArray).size : Int) != k) = false) :
    Ending.returned (.tuple #[.agg [.int .i64 p, .string ⟨ty.toArray⟩, .string ⟨nm.toArray⟩].toArray, .bool (decide (p > 0))]) = .returned (retF (findL L k)) := by
  have h1 : hit L k (p, ty, nm) = true := by
    have h2 : nm = L := by simpa using hg
    have h3 : (ty.length : Int) = k := by simpa [ByteArray.size] using hc
    simp [hit, h2, h3]
  have h4 : findL L k = some (p, ty, nm) := by
    unfold findL
    rw [List.find?_eq_some_iff_getElem]
    obtain ⟨hlt, he⟩ := List.getElem?_eq_some_iff.1 ho
    refine ⟨h1, i, hlt, he, fun j hj => ?_⟩
    have := hpre opsL[j] (List.mem_take_iff_getElem.2 ⟨j, by omega, rfl⟩)
    simp [this]
  have h5 := (opsL_facts _ (List.mem_of_getElem? ho)).1
  simp only at h5
  rw [h4]
  simp [retF, h5]
theorem find_miss (hpre : ∀ o ∈ opsL.take i, hit L k o = false) (hi : i ≤ 26) (hc : decide ((i : Int) < 26) = false) : Ending.returned (.tuple #[.agg [.int .i64 0, .string ⟨#[]⟩, .string ⟨#[]⟩].toArray, .bool (decide ((0 : Int) > 0))]) = .returned (retF (findL L k)) := by
  have h1 : i = 26 := by have := of_decide_eq_false hc; omega
  subst h1
  have h4 : findL L k = none := by
    unfold findL
    rw [List.find?_eq_none]
    intro o ho
    have := hpre o (by rwa [List.take_of_length_le (by decide)])
    simp [this]
  rw [h4]
  rfl
end
theorem in_mem {h : Hp} {b t : Nat} (hb : h b = some (.cells (refNames.map fun n => Value.string ⟨n.toArray⟩).toArray t (0, 0))) :
    ∀ j y, (refNames.map fun n => (⟨n.toArray⟩ : ByteArray))[j]? = some y → ∃ b' off, (some ⟨b, 0, none⟩ : Option Addr) = some ⟨b', off, none⟩ ∧ h.cell ⟨b', off + j * 1, none⟩ = some (.string y) := fun j y hy => by
  refine ⟨b, 0, rfl, ?_⟩
  simp only [List.getElem?_map, Option.map_eq_some_iff] at hy
  obtain ⟨n, hn, rfl⟩ := hy
  simp [Hp.cell, hb, hn]
set_option maxRecDepth 100000 in
theorem beside_c (p : Int) (ty nm : ByteArray) (c : UInt8) (h : Hp) (h1 : 0 ≤ p) (h2 : p ≤ 2000) : C0 Try.prog 39 [.agg #[.int .i64 p, .string ty, .string nm], .int .u8 (c.toNat : Int)] h (.int .i64 (bes p c)) := by
  refine enter0 Try.func39 rfl rfl rfl (fun w => ?_)
  refine cy_seq ?_
  refine cy_region ?_
  refine sy_box rfl rfl rfl rfl (fun b2 hb2 hM2 => ?_) (by simp)
  refine sy_assign rfl rfl rfl ?_
  refine sy_nil rfl ?_
  refine ny_next ?_
  refine cy_seq ?_
  refine cy_seq ?_
  refine cy_region ?_
  refine sy_move rfl rfl rfl ?_
  refine sy_cmp rfl rfl rfl rfl rfl ?_
  refine sy_nil rfl ?_
  refine ny_next ?_
  refine cy_cond rfl (fun hc6 => ?_) (fun hc6 => ?_)
  · refine cy_seq ?_
    refine cy_region ?_
    refine sy_field fld_33_0 rfl rfl rfl ?_
    first | refine sy_ldr 0 one_3 rfl rfl rfl rfl rfl ?_ | refine sy_ldr 1 one_3 rfl rfl rfl rfl rfl ?_ | refine sy_ldr 2 one_3 rfl rfl rfl rfl rfl ?_
    refine sy_assign rfl rfl rfl ?_
    refine sy_nil rfl ?_
    refine ny_next ?_
    refine cy_ret ?_
    refine ny_thenR ?_
    refine ny_finR (res1 rfl rfl) (fun w hs => ⟨?_, hs.frm⟩)
    first | rw [bes_yes hc6] | rw [bes_no hc6]
  · refine cy_skip ?_
    refine ny_next ?_
    refine cy_seq ?_
    refine cy_region ?_
    refine sy_field fld_33_0 rfl rfl rfl ?_
    first | refine sy_ldr 0 one_3 rfl rfl rfl rfl rfl ?_ | refine sy_ldr 1 one_3 rfl rfl rfl rfl rfl ?_ | refine sy_ldr 2 one_3 rfl rfl rfl rfl rfl ?_
    refine sy_subi rfl rfl rfl (by omega) (by omega) rfl rfl ?_
    refine sy_assign rfl rfl rfl ?_
    refine sy_nil rfl ?_
    refine ny_next ?_
    refine cy_ret ?_
    refine ny_finR (res1 rfl rfl) (fun w hs => ⟨?_, hs.frm⟩)
    first | rw [bes_yes hc6] | rw [bes_no hc6]
set_option maxRecDepth 100000 in
theorem in_c (s : ByteArray) (A : Option Addr) (l c : Nat) (xs : List (List UInt8)) (ys : List ByteArray) (h : Hp) (hxs : xs = ys.map (·.data.toList)) (hl : ys.length = l) (hm : l ≤ 9223372036854775807) (hr : ∀ j y, ys[j]? = some y → ∃ b off, A = some ⟨b, off, none⟩ ∧ h.cell ⟨b, off + j * 1, none⟩ = some (.string y)) : C0 Try.prog 40 [.string s, .slice A l c] h (.bool (xs.any (· == s.data.toList))) := by
  refine enter0 Try.func40 rfl rfl rfl (fun w => ?_)
  refine cy_seq ?_
  refine cy_region ?_
  refine sy_assign rfl rfl rfl ?_
  refine sy_nil rfl ?_
  refine ny_next ?_
  refine cy_seq ?_
  refine cy_seq ?_
  refine cy_region ?_
  refine sy_assign rfl rfl rfl ?_
  refine sy_nil rfl ?_
  refine ny_next ?_
  refine cy_block ?_
  refine cy_loop (ι := Nat) (fun i => i ≤ l ∧ (xs.take i).any (· == s.data.toList) = false) (fun i => l - i) (fun i => [(0, .string s), (1, .slice A l c), (5, .int .i64 (i : Int))]) (fun _ => h) (fun _ => []) 0 [] ⟨Nat.zero_le _, by simp⟩ ⟨rfl, rfl, rfl, trivial⟩ rfl rfl ?_
  intro i hi
  refine cy_seq ?_
  refine cy_seq ?_
  refine cy_region ?_
  refine sy_move rfl rfl rfl ?_
  refine sy_move rfl rfl rfl ?_
  refine sy_len rfl (len_slice Try.underlying30 _ _ _) rfl rfl ?_
  refine sy_cmp rfl rfl rfl rfl rfl ?_
  refine sy_nil rfl ?_
  refine ny_next ?_
  refine cy_cond rfl (fun hc9 => ?_) (fun hc9 => ?_)
  · refine cy_skip ?_
    refine ny_next ?_
    refine cy_seq ?_
    refine cy_block ?_
    refine cy_seq ?_
    refine cy_region ?_
    refine sy_move rfl rfl rfl ?_
    refine sy_move rfl rfl rfl ?_
    have hlt : i < l := by simpa using hc9
    obtain ⟨y, hy⟩ : ∃ y, ys[i]? = some y := ⟨_, List.getElem?_eq_getElem (by omega)⟩
    obtain ⟨b, off, rfl, hcell⟩ := hr i y hy
    refine sy_idxS (ik := .i64) (i := (i : Int)) els_30 rfl rfl (by omega) (by omega) rfl rfl ?_
    refine sy_ldh one_9 rfl hcell rfl rfl ?_
    refine sy_move rfl rfl rfl ?_
    refine sy_eqs rfl rfl rfl rfl ?_
    refine sy_nil rfl ?_
    refine ny_next ?_
    refine cy_cond rfl (fun hc17 => ?_) (fun hc17 => ?_)
    · refine cy_seq ?_
      refine cy_region ?_
      refine sy_assign rfl rfl rfl ?_
      refine sy_nil rfl ?_
      refine ny_next ?_
      refine cy_ret ?_
      refine ny_blockR ?_
      refine ny_thenR ?_
      refine ny_thenR ?_
      refine ny_blockR ?_
      refine ny_thenR ?_
      refine ny_finR (res1 rfl rfl) (fun w hs => ⟨?_, hs.frm⟩)
      rw [in_found hxs hy hc17]
    · refine cy_skip ?_
      refine ny_blockN ?_
      refine ny_next ?_
      refine cy_region ?_
      refine sy_move rfl rfl rfl ?_
      refine sy_addi (z := ((i + 1 : Nat) : Int)) rfl rfl (by omega) (by omega) (by have : i < l := by simpa using hc9
                                                                                    omega) rfl rfl ?_
      refine sy_assign rfl rfl rfl ?_
      refine sy_nil rfl ?_
      refine ny_round (i + 1) [] ?_ ?_ ⟨rfl, rfl, rfl, trivial⟩ rfl rfl
      · have hlt : i < l := by simpa using hc9
        refine ⟨hlt, ?_⟩
        exact in_snoc hxs hi.2 hy hc17
      · have hlt : i < l := by simpa using hc9
        show l - (i + 1) < l - i
        omega
  · refine cy_exit ?_
    refine ny_thenE ?_
    refine ny_thenE ?_
    refine ny_blockX ?_
    refine ny_next ?_
    refine cy_seq ?_
    refine cy_region ?_
    refine sy_assign rfl rfl rfl ?_
    refine sy_nil rfl ?_
    refine ny_next ?_
    refine cy_ret ?_
    refine ny_finR (res1 rfl rfl) (fun w hs => ⟨?_, hs.frm⟩)
    rw [in_none hxs hl hi.2 hi.1 hc9]
set_option maxRecDepth 100000 in
theorem all_c (h : Hp) : CX Try.prog 21 [] h (fun x : Nat × Nat => .slice (some ⟨x.1, 0, none⟩) 26 x.2) (fun x h' => ∀ j u, (cellsOf opsL)[j]? = some u → h'.cell ⟨x.1, j, none⟩ = some u) := by
  refine enterX Try.func21 rfl rfl rfl (fun w => ?_)
  refine cy_seq ?_
  refine cy_region ?_
  refine sy_assign rfl rfl rfl ?_
  refine sy_nil rfl ?_
  refine ny_next ?_
  refine cy_seq ?_
  refine cy_region ?_
  refine sy_buildSlice rfl (fun w => bsl_30_1_0 w) rfl rfl (fun b7 hb7 hM7 => ?_) (by simp)
  refine sy_build rfl (fun w => bld_62_0x1x2 w) rfl rfl ?_
  refine sy_buildSlice rfl (fun w => bsl_30_1_0 w) rfl rfl (fun b9 hb9 hM9 => ?_) (by simp)
  refine sy_build rfl (fun w => bld_62_0x1x2 w) rfl rfl ?_
  refine sy_buildSlice rfl (fun w => bsl_30_1_0 w) rfl rfl (fun b11 hb11 hM11 => ?_) (by simp)
  refine sy_build rfl (fun w => bld_62_0x1x2 w) rfl rfl ?_
  refine sy_buildSlice rfl (fun w => bsl_30_1_0 w) rfl rfl (fun b13 hb13 hM13 => ?_) (by simp)
  refine sy_build rfl (fun w => bld_62_0x1x2 w) rfl rfl ?_
  refine sy_buildSlice rfl (fun w => bsl_30_1_0 w) rfl rfl (fun b15 hb15 hM15 => ?_) (by simp)
  refine sy_build rfl (fun w => bld_62_0x1x2 w) rfl rfl ?_
  refine sy_buildSlice rfl (fun w => bsl_30_1_0 w) rfl rfl (fun b17 hb17 hM17 => ?_) (by simp)
  refine sy_build rfl (fun w => bld_62_0x1x2 w) rfl rfl ?_
  refine sy_buildSlice rfl (fun w => bsl_30_1_0 w) rfl rfl (fun b19 hb19 hM19 => ?_) (by simp)
  refine sy_build rfl (fun w => bld_62_0x1x2 w) rfl rfl ?_
  refine sy_buildSlice rfl (fun w => bsl_30_12_0x1x2x3x4x5x6x7x8x9x10x11 w) rfl rfl (fun b21 hb21 hM21 => ?_) (by simp)
  refine sy_build rfl (fun w => bld_62_0x1x2 w) rfl rfl ?_
  refine sy_buildSlice rfl (fun w => bsl_30_2_0x1 w) rfl rfl (fun b23 hb23 hM23 => ?_) (by simp)
  refine sy_build rfl (fun w => bld_62_0x1x2 w) rfl rfl ?_
  refine sy_buildSlice rfl (fun w => bsl_30_3_0x1x2 w) rfl rfl (fun b25 hb25 hM25 => ?_) (by simp)
  refine sy_build rfl (fun w => bld_62_0x1x2 w) rfl rfl ?_
  refine sy_buildSlice rfl (fun w => bsl_30_1_0 w) rfl rfl (fun b27 hb27 hM27 => ?_) (by simp)
  refine sy_build rfl (fun w => bld_62_0x1x2 w) rfl rfl ?_
  refine sy_buildSlice rfl (fun w => bsl_30_1_0 w) rfl rfl (fun b29 hb29 hM29 => ?_) (by simp)
  refine sy_build rfl (fun w => bld_62_0x1x2 w) rfl rfl ?_
  refine sy_build rfl (fun w => bld_63_0x1x2x3x4x5x6x7x8x9x10x11 w) rfl rfl ?_
  refine sy_alloc zer_63 rfl rfl (fun b1 hb1 hM1 => ?_) (by simp)
  first | refine sy_stl 0 sz_63 rfl rfl rfl rfl rfl rfl rfl rfl ?_ | refine sy_stl 1 sz_63 rfl rfl rfl rfl rfl rfl rfl rfl ?_ | refine sy_stl 2 sz_63 rfl rfl rfl rfl rfl rfl rfl rfl ?_ | refine sy_stl 3 sz_63 rfl rfl rfl rfl rfl rfl rfl rfl ?_
  refine sy_nil rfl ?_
  refine ny_next ?_
  refine cy_seq ?_
  refine cy_frzAll (fun h' hle hF => ?_)
  have hidx : ∀ i : Nat, i < 12 → ∃ (p : Int) (ty : List UInt8) (g : Nat) (nms : List (List UInt8)), rowsL[i]? = some (p, ty, nms) ∧
      sliceO ((i : Int).toNat * 3) 3 [.int .i64 1200, .string { data := #[120, 102, 120] }, .slice (some ⟨b7, 0, none⟩) 1 1, .int .i64 1200, .string { data := #[102, 120] }, .slice (some ⟨b9, 0, none⟩) 1 1, .int .i64 1150, .string { data := #[120, 102, 120] }, .slice (some ⟨b11, 0, none⟩) 1 1, .int .i64 1100, .string { data := #[120, 102, 121] }, .slice (some ⟨b13, 0, none⟩) 1 1, .int .i64 1050, .string { data := #[120, 102, 121] }, .slice (some ⟨b15, 0, none⟩) 1 1, .int .i64 1000, .string { data := #[120, 102, 121] }, .slice (some ⟨b17, 0, none⟩) 1 1, .int .i64 900, .string { data := #[102, 121] }, .slice (some ⟨b19, 0, none⟩) 1 1, .int .i64 700, .string { data := #[120, 102, 120] }, .slice (some ⟨b21, 0, none⟩) 12 12, .int .i64 500, .string { data := #[121, 102, 120] }, .slice (some ⟨b23, 0, none⟩) 2 2, .int .i64 400, .string { data := #[121, 102, 120] }, .slice (some ⟨b25, 0, none⟩) 3 3, .int .i64 200, .string { data := #[102, 121] }, .slice (some ⟨b27, 0, none⟩) 1 1, .int .i64 190, .string { data := #[120, 102, 120] }, .slice (some ⟨b29, 0, none⟩) 1 1] = some [.int .i64 p, .string ⟨ty.toArray⟩, .slice (some ⟨g, 0, none⟩) nms.length nms.length] ∧ h' g = some (.cells (nms.map fun n => Value.string ⟨n.toArray⟩).toArray 9 (0, 0)) := fun i hi =>
    match i, hi with
    | 0, _ => ⟨_, _, _, _, rfl, rfl, hF _ _ (by repeat (first | exact .head _ | apply List.Mem.tail))⟩
    | 1, _ => ⟨_, _, _, _, rfl, rfl, hF _ _ (by repeat (first | exact .head _ | apply List.Mem.tail))⟩
    | 2, _ => ⟨_, _, _, _, rfl, rfl, hF _ _ (by repeat (first | exact .head _ | apply List.Mem.tail))⟩
    | 3, _ => ⟨_, _, _, _, rfl, rfl, hF _ _ (by repeat (first | exact .head _ | apply List.Mem.tail))⟩
    | 4, _ => ⟨_, _, _, _, rfl, rfl, hF _ _ (by repeat (first | exact .head _ | apply List.Mem.tail))⟩
    | 5, _ => ⟨_, _, _, _, rfl, rfl, hF _ _ (by repeat (first | exact .head _ | apply List.Mem.tail))⟩
    | 6, _ => ⟨_, _, _, _, rfl, rfl, hF _ _ (by repeat (first | exact .head _ | apply List.Mem.tail))⟩
    | 7, _ => ⟨_, _, _, _, rfl, rfl, hF _ _ (by repeat (first | exact .head _ | apply List.Mem.tail))⟩
    | 8, _ => ⟨_, _, _, _, rfl, rfl, hF _ _ (by repeat (first | exact .head _ | apply List.Mem.tail))⟩
    | 9, _ => ⟨_, _, _, _, rfl, rfl, hF _ _ (by repeat (first | exact .head _ | apply List.Mem.tail))⟩
    | 10, _ => ⟨_, _, _, _, rfl, rfl, hF _ _ (by repeat (first | exact .head _ | apply List.Mem.tail))⟩
    | 11, _ => ⟨_, _, _, _, rfl, rfl, hF _ _ (by repeat (first | exact .head _ | apply List.Mem.tail))⟩
    | i + 12, h => absurd h (by omega)
  have h31 : h' b1 = some (.cells [.int .i64 1200, .string { data := #[120, 102, 120] }, .slice (some ⟨b7, 0, none⟩) 1 1, .int .i64 1200, .string { data := #[102, 120] }, .slice (some ⟨b9, 0, none⟩) 1 1, .int .i64 1150, .string { data := #[120, 102, 120] }, .slice (some ⟨b11, 0, none⟩) 1 1, .int .i64 1100, .string { data := #[120, 102, 121] }, .slice (some ⟨b13, 0, none⟩) 1 1, .int .i64 1050, .string { data := #[120, 102, 121] }, .slice (some ⟨b15, 0, none⟩) 1 1, .int .i64 1000, .string { data := #[120, 102, 121] }, .slice (some ⟨b17, 0, none⟩) 1 1, .int .i64 900, .string { data := #[102, 121] }, .slice (some ⟨b19, 0, none⟩) 1 1, .int .i64 700, .string { data := #[120, 102, 120] }, .slice (some ⟨b21, 0, none⟩) 12 12, .int .i64 500, .string { data := #[121, 102, 120] }, .slice (some ⟨b23, 0, none⟩) 2 2, .int .i64 400, .string { data := #[121, 102, 120] }, .slice (some ⟨b25, 0, none⟩) 3 3, .int .i64 200, .string { data := #[102, 121] }, .slice (some ⟨b27, 0, none⟩) 1 1, .int .i64 190, .string { data := #[120, 102, 120] }, .slice (some ⟨b29, 0, none⟩) 1 1].toArray 63 (0, 0)) := hF _ _ (.head _)
  clear hF
  refine cy_region ?_
  refine sy_assign rfl rfl rfl ?_
  refine sy_nil rfl ?_
  refine ny_next ?_
  refine cy_seq ?_
  refine cy_seq ?_
  refine cy_region ?_
  refine sy_ldah agg_63 (vs := [.int .i64 1200, .string { data := #[120, 102, 120] }, .slice (some ⟨b7, 0, none⟩) 1 1, .int .i64 1200, .string { data := #[102, 120] }, .slice (some ⟨b9, 0, none⟩) 1 1, .int .i64 1150, .string { data := #[120, 102, 120] }, .slice (some ⟨b11, 0, none⟩) 1 1, .int .i64 1100, .string { data := #[120, 102, 121] }, .slice (some ⟨b13, 0, none⟩) 1 1, .int .i64 1050, .string { data := #[120, 102, 121] }, .slice (some ⟨b15, 0, none⟩) 1 1, .int .i64 1000, .string { data := #[120, 102, 121] }, .slice (some ⟨b17, 0, none⟩) 1 1, .int .i64 900, .string { data := #[102, 121] }, .slice (some ⟨b19, 0, none⟩) 1 1, .int .i64 700, .string { data := #[120, 102, 120] }, .slice (some ⟨b21, 0, none⟩) 12 12, .int .i64 500, .string { data := #[121, 102, 120] }, .slice (some ⟨b23, 0, none⟩) 2 2, .int .i64 400, .string { data := #[121, 102, 120] }, .slice (some ⟨b25, 0, none⟩) 3 3, .int .i64 200, .string { data := #[102, 121] }, .slice (some ⟨b27, 0, none⟩) 1 1, .int .i64 190, .string { data := #[120, 102, 120] }, .slice (some ⟨b29, 0, none⟩) 1 1]) rfl rfl (fun j u hj => by simp only [Nat.zero_add, Hp.cell, h31]; simpa using hj) rfl rfl ?_
  refine sy_move rfl rfl rfl ?_
  refine sy_nil rfl ?_
  refine ny_next ?_
  refine cy_block ?_
  refine cy_weak (f' := [(2, .slice none 0 0), (32, .agg [.int .i64 1200, .string { data := #[120, 102, 120] }, .slice (some ⟨b7, 0, none⟩) 1 1, .int .i64 1200, .string { data := #[102, 120] }, .slice (some ⟨b9, 0, none⟩) 1 1, .int .i64 1150, .string { data := #[120, 102, 120] }, .slice (some ⟨b11, 0, none⟩) 1 1, .int .i64 1100, .string { data := #[120, 102, 121] }, .slice (some ⟨b13, 0, none⟩) 1 1, .int .i64 1050, .string { data := #[120, 102, 121] }, .slice (some ⟨b15, 0, none⟩) 1 1, .int .i64 1000, .string { data := #[120, 102, 121] }, .slice (some ⟨b17, 0, none⟩) 1 1, .int .i64 900, .string { data := #[102, 121] }, .slice (some ⟨b19, 0, none⟩) 1 1, .int .i64 700, .string { data := #[120, 102, 120] }, .slice (some ⟨b21, 0, none⟩) 12 12, .int .i64 500, .string { data := #[121, 102, 120] }, .slice (some ⟨b23, 0, none⟩) 2 2, .int .i64 400, .string { data := #[121, 102, 120] }, .slice (some ⟨b25, 0, none⟩) 3 3, .int .i64 200, .string { data := #[102, 121] }, .slice (some ⟨b27, 0, none⟩) 1 1, .int .i64 190, .string { data := #[120, 102, 120] }, .slice (some ⟨b29, 0, none⟩) 1 1].toArray), (33, .int .i64 0)]) ⟨rfl, rfl, rfl, trivial⟩ ?_
  refine cy_nilRow 33 3 ?_
  clear h31
  generalize ([.int .i64 1200, .string { data := #[120, 102, 120] }, .slice (some ⟨b7, 0, none⟩) 1 1, .int .i64 1200, .string { data := #[102, 120] }, .slice (some ⟨b9, 0, none⟩) 1 1, .int .i64 1150, .string { data := #[120, 102, 120] }, .slice (some ⟨b11, 0, none⟩) 1 1, .int .i64 1100, .string { data := #[120, 102, 121] }, .slice (some ⟨b13, 0, none⟩) 1 1, .int .i64 1050, .string { data := #[120, 102, 121] }, .slice (some ⟨b15, 0, none⟩) 1 1, .int .i64 1000, .string { data := #[120, 102, 121] }, .slice (some ⟨b17, 0, none⟩) 1 1, .int .i64 900, .string { data := #[102, 121] }, .slice (some ⟨b19, 0, none⟩) 1 1, .int .i64 700, .string { data := #[120, 102, 120] }, .slice (some ⟨b21, 0, none⟩) 12 12, .int .i64 500, .string { data := #[121, 102, 120] }, .slice (some ⟨b23, 0, none⟩) 2 2, .int .i64 400, .string { data := #[121, 102, 120] }, .slice (some ⟨b25, 0, none⟩) 3 3, .int .i64 200, .string { data := #[102, 121] }, .slice (some ⟨b27, 0, none⟩) 1 1, .int .i64 190, .string { data := #[120, 102, 120] }, .slice (some ⟨b29, 0, none⟩) 1 1] : List Value) = CS at hidx ⊢
  refine cy_loop (ι := Nat × Value) (fun x => x.1 ≤ 12) (fun x => 12 - x.1) (fun x => [(2, x.2), (32, .agg CS.toArray), (33, .int .i64 (x.1 : Int))]) (fun _ => h') (fun x => [.row x.2 33 3 (pre x.1).length (cellsOf (pre x.1))]) (0, .slice none 0 0) [0] (Nat.zero_le _) ⟨rfl, rfl, rfl, trivial⟩ rfl rfl ?_
  rintro ⟨i, v⟩ hi
  simp only at hi ⊢
  refine cy_seq ?_
  refine cy_region ?_
  refine sy_cmp rfl rfl rfl rfl rfl ?_
  refine sy_nil rfl ?_
  refine ny_next ?_
  refine cy_seq ?_
  refine cy_cond rfl (fun hc34 => ?_) (fun hc34 => ?_)
  · have hlt : i < 12 := by have := of_decide_eq_true hc34; omega
    obtain ⟨p, ty, g, nms, hrow, hix, hg⟩ := hidx i hlt
    refine cy_skip ?_
    refine ny_next ?_
    refine cy_seq ?_
    refine cy_block ?_
    refine cy_seq ?_
    refine cy_region ?_
    refine sy_idxarr (ik := .i64) (i := (i : Int)) arra_63 rfl rfl (by omega) (by omega) hix rfl rfl ?_
    refine sy_alloc zer_62 rfl rfl (fun b4 hb4 hM4 => ?_) (by simp)
    first | refine sy_stl 0 sz_62 rfl rfl rfl rfl rfl rfl rfl rfl ?_ | refine sy_stl 1 sz_62 rfl rfl rfl rfl rfl rfl rfl rfl ?_ | refine sy_stl 2 sz_62 rfl rfl rfl rfl rfl rfl rfl rfl ?_ | refine sy_stl 3 sz_62 rfl rfl rfl rfl rfl rfl rfl rfl ?_
    refine sy_nil rfl ?_
    refine ny_next ?_
    refine cy_seq ?_
    refine cy_region ?_
    refine sy_field fld_62_2 rfl rfl rfl ?_
    first | refine sy_ldr 0 one_30 rfl rfl rfl rfl rfl ?_ | refine sy_ldr 1 one_30 rfl rfl rfl rfl rfl ?_ | refine sy_ldr 2 one_30 rfl rfl rfl rfl rfl ?_ | refine sy_ldr 3 one_30 rfl rfl rfl rfl rfl ?_
    refine sy_len rfl (len_slice Try.underlying30 _ _ _) rfl rfl ?_
    refine sy_move rfl rfl rfl ?_
    refine sy_nil rfl ?_
    refine ny_next ?_
    refine cy_block ?_
    refine cy_loop (ι := Nat × Value) (fun x => x.1 ≤ nms.length) (fun x => nms.length - x.1) (fun x => [(2, x.2), (4, .pointer (some ⟨b4, 0, none⟩)), (32, .agg CS.toArray), (33, .int .i64 (i : Int)), (37, .slice (some ⟨g, 0, none⟩) nms.length nms.length), (38, .int .i64 (nms.length : Int)), (39, .int .i64 (x.1 : Int))]) (fun _ => h')
      (fun x => [.blk b4 (.cells [.int .i64 p, .string ⟨ty.toArray⟩, .slice (some ⟨g, 0, none⟩) nms.length nms.length].toArray 62 (0, 0)), .row x.2 33 3 (pre i ++ (nms.take x.1).map fun n => (p, ty, n)).length (cellsOf (pre i ++ (nms.take x.1).map fun n => (p, ty, n)))]) (0, v) [0, 0] (Nat.zero_le _) ⟨rfl, rfl, rfl, rfl, rfl, rfl, rfl, trivial⟩ rfl (by simp [selR, pickR]) ?_
    rintro ⟨j, v'⟩ hj
    simp only at hj ⊢
    refine cy_seq ?_
    refine cy_region ?_
    refine sy_cmp rfl rfl rfl rfl rfl ?_
    refine sy_nil rfl ?_
    refine ny_next ?_
    refine cy_seq ?_
    refine cy_cond rfl (fun hc40 => ?_) (fun hc40 => ?_)
    · have hjl : j < nms.length := by simpa using hc40
      obtain ⟨nm, hnm⟩ : ∃ nm, nms[j]? = some nm := ⟨_, List.getElem?_eq_getElem hjl⟩
      refine cy_skip ?_
      refine ny_next ?_
      refine cy_seq ?_
      refine cy_block ?_
      refine cy_seq ?_
      refine cy_region ?_
      refine sy_idxS (ik := .i64) (i := (j : Int)) els_30 rfl rfl (by omega) (by omega) rfl rfl ?_
      refine sy_ldh one_9 rfl (names_cell hg hnm) rfl rfl ?_
      refine sy_assign rfl rfl rfl ?_
      refine sy_nil rfl ?_
      refine ny_next ?_
      refine cy_region ?_
      refine sy_move rfl rfl rfl ?_
      refine sy_field fld_62_0 rfl rfl rfl ?_
      first | refine sy_ldr 0 one_3 rfl rfl rfl rfl rfl ?_ | refine sy_ldr 1 one_3 rfl rfl rfl rfl rfl ?_ | refine sy_ldr 2 one_3 rfl rfl rfl rfl rfl ?_ | refine sy_ldr 3 one_3 rfl rfl rfl rfl rfl ?_
      refine sy_field fld_62_1 rfl rfl rfl ?_
      first | refine sy_ldr 0 one_9 rfl rfl rfl rfl rfl ?_ | refine sy_ldr 1 one_9 rfl rfl rfl rfl rfl ?_ | refine sy_ldr 2 one_9 rfl rfl rfl rfl rfl ?_ | refine sy_ldr 3 one_9 rfl rfl rfl rfl rfl ?_
      refine sy_move rfl rfl rfl ?_
      refine sy_build rfl (fun w => bld_33_0x1x2 w) rfl rfl ?_
      refine sy_buildSlice rfl (fun w => bsl_28_1_0 w) rfl rfl (fun b50 hb50 hM50 => ?_) (by simp)
      refine sy_append 2 0 row_28 (by decide) rfl rfl rfl rfl rfl rfl (room3 hrow hjl) (by have := room3 hrow hjl; simp only [maxLen]; omega) rfl rfl (fun v51 => ?_)
      refine sy_assign rfl rfl rfl ?_
      refine sy_nil rfl ?_
      refine ny_blockN ?_
      refine ny_next ?_
      refine cy_region ?_
      refine sy_addi (z := ((j + 1 : Nat) : Int)) rfl rfl (by omega) (by omega) (by have := nms12 hrow; omega) rfl rfl ?_
      refine sy_move rfl rfl rfl ?_
      refine sy_nil rfl ?_
      refine ny_round (j + 1, v51) [2, 0] ?_ ?_ ⟨rfl, rfl, rfl, rfl, rfl, rfl, rfl, trivial⟩ rfl ?_
      · exact hjl
      · show nms.length - (j + 1) < nms.length - j
        omega
      · show _ = some [_, Res.row v51 _ _ _ _]
        rw [row_snoc hnm]
        rfl
    · have hje : j = nms.length := by simp at hc40; omega
      subst hje
      refine cy_exit ?_
      refine ny_thenE ?_
      refine ny_thenE ?_
      refine ny_blockX ?_
      refine ny_blockN ?_
      refine ny_next ?_
      refine cy_region ?_
      refine sy_addi (z := ((i + 1 : Nat) : Int)) rfl rfl (by omega) (by omega) (by omega) rfl rfl ?_
      refine sy_move rfl rfl rfl ?_
      refine sy_nil rfl ?_
      refine ny_round (i + 1, v') [1] ?_ ?_ ⟨rfl, rfl, rfl, trivial⟩ rfl ?_
      · show i + 1 ≤ 12
        omega
      · show 12 - (i + 1) < 12 - i
        omega
      · rw [pre_succ hrow]
        rfl
  · refine cy_exit ?_
    refine ny_thenE ?_
    refine ny_thenE ?_
    refine ny_blockX ?_
    refine ny_next ?_
    refine cy_seq ?_
    refine cy_region ?_
    refine sy_move rfl rfl rfl ?_
    refine sy_assign rfl rfl rfl ?_
    refine sy_nil rfl ?_
    refine ny_next ?_
    refine cy_ret ?_
    have hie : i = 12 := by have := of_decide_eq_false hc34; omega
    subst hie
    refine ny_finR (res1 rfl rfl) (fun w hs => ?_)
    obtain ⟨A, c, h3, rfl, hc1, hc2, hlen, hle3, hcell, hpos, hs'⟩ := frzRow 0 rfl (by simp) hs
    obtain ⟨g, rfl⟩ := hpos (by decide)
    exact ⟨(g, c), h3, rfl, fun j u hj => by obtain ⟨g', he, hc'⟩ := hcell j u hj; injection he with he; injection he with he; subst he; exact hc', hs'.toGrow⟩
set_option maxRecDepth 100000 in
theorem find_c (s : ByteArray) (k : Int) (h : Hp) : C0 Try.prog 38 [.string s, .int .i64 k] h (retF (findL s.data.toList k)) := by
  refine enter0 Try.func38 rfl rfl rfl (fun w => ?_)
  refine cy_seq ?_
  refine cy_region ?_
  refine sy_alloc zer_33 rfl rfl (fun b4 hb4 hM4 => ?_) (by simp)
  refine sy_assign rfl rfl rfl ?_
  refine sy_nil rfl ?_
  refine ny_next ?_
  refine cy_scope ?_
  refine cy_seq ?_
  refine cy_region ?_
  refine sy_alloc zer_33 rfl rfl (fun b6 hb6 hM6 => ?_) (by simp)
  refine sy_nil rfl ?_
  refine ny_next ?_
  refine cy_seq ?_
  refine cy_label ?_
  refine ny_next ?_
  refine cy_seq ?_
  refine cy_seq ?_
  refine cy_region ?_
  refine sy_callx call_21 rfl (all_c _) rfl rfl (fun x9 h2 hx9 hle9 => ?_)
  obtain ⟨g, c⟩ := x9
  refine sy_len rfl (len_slice Try.underlying28 _ _ _) rfl rfl ?_
  refine sy_move rfl rfl rfl ?_
  refine sy_nil rfl ?_
  refine ny_next ?_
  refine cy_block ?_
  refine cy_loop (ι := Nat) (fun i => i ≤ 26 ∧ ∀ o ∈ opsL.take i, hit s.data.toList k o = false) (fun i => 26 - i) (fun i => [(0, .string s), (1, .int .i64 k), (4, .pointer (some ⟨b4, 0, none⟩)), (5, .bool false), (6, .pointer (some ⟨b6, 0, none⟩)), (9, .slice (some ⟨g, 0, none⟩) 26 c), (10, .int .i64 26), (11, .int .i64 (i : Int))]) (fun _ => h2)
    (fun _ => [.blk b6 (.cells [.int .i64 0, .string ⟨#[]⟩, .string ⟨#[]⟩].toArray 33 (0, 0)), .blk b4 (.cells [.int .i64 0, .string ⟨#[]⟩, .string ⟨#[]⟩].toArray 33 (0, 0))]) 0 [0, 0] ⟨Nat.zero_le _, fun _ ho => (List.not_mem_nil ho).elim⟩ ⟨rfl, rfl, rfl, rfl, rfl, rfl, rfl, rfl, trivial⟩ rfl rfl ?_
  rintro i ⟨hi, hpre⟩
  refine cy_seq ?_
  refine cy_region ?_
  refine sy_cmp rfl rfl rfl rfl rfl ?_
  refine sy_nil rfl ?_
  refine ny_next ?_
  refine cy_seq ?_
  refine cy_cond rfl (fun hc12 => ?_) (fun hc12 => ?_)
  · have hlt : i < 26 := by have := of_decide_eq_true hc12; omega
    obtain ⟨⟨p, ty, nm⟩, ho⟩ : ∃ o, opsL[i]? = some o := ⟨_, List.getElem?_eq_getElem (by rw [opsL_len]; exact hlt)⟩
    refine cy_skip ?_
    refine ny_next ?_
    refine cy_seq ?_
    refine cy_block ?_
    refine cy_seq ?_
    refine cy_region ?_
    refine sy_idxS (ik := .i64) (i := (i : Int)) els_28 rfl rfl (by omega) (by omega) rfl rfl ?_
    refine sy_ldah (vs := [.int .i64 p, .string ⟨ty.toArray⟩, .string ⟨nm.toArray⟩]) agg_33 rfl rfl (fun j u hj => by have := hx9 _ u (cellsOf_get ho hj); simpa using this) rfl rfl ?_
    refine sy_alloc zer_33 rfl rfl (fun b8 hb8 hM8 => ?_) (by simp)
    first | refine sy_stl 0 sz_33 rfl rfl rfl rfl rfl rfl rfl rfl ?_ | refine sy_stl 1 sz_33 rfl rfl rfl rfl rfl rfl rfl rfl ?_ | refine sy_stl 2 sz_33 rfl rfl rfl rfl rfl rfl rfl rfl ?_
    refine sy_nil rfl ?_
    refine ny_next ?_
    refine cy_block ?_
    refine cy_seq ?_
    refine cy_region ?_
    refine sy_field fld_33_2 rfl rfl rfl ?_
    first | refine sy_ldr 0 one_9 rfl rfl rfl rfl rfl ?_ | refine sy_ldr 1 one_9 rfl rfl rfl rfl rfl ?_ | refine sy_ldr 2 one_9 rfl rfl rfl rfl rfl ?_
    refine sy_move rfl rfl rfl ?_
    refine sy_nes rfl rfl rfl rfl ?_
    refine sy_move rfl rfl rfl ?_
    refine sy_cond (d := 21) _ rfl rfl (fun hg21 => ?_) (fun hg21 => ?_)
    · refine sy_skip rfl rfl rfl ?_
      refine sy_skip rfl rfl rfl ?_
      refine sy_skip rfl rfl rfl ?_
      refine sy_skip rfl rfl rfl ?_
      refine sy_skip rfl rfl rfl ?_
      refine sy_pickT rfl rfl rfl rfl ?_
      refine sy_assign rfl rfl rfl ?_
      refine sy_nil rfl ?_
      refine ny_next ?_
      refine cy_condT rfl ?_
      refine cy_exit ?_
      refine ny_blockY rfl ?_
      refine ny_blockX ?_
      refine ny_next ?_
      refine cy_region ?_
      refine sy_addi (z := ((i + 1 : Nat) : Int)) rfl rfl (by omega) (by omega) (by omega) rfl rfl ?_
      refine sy_move rfl rfl rfl ?_
      refine sy_nil rfl ?_
      refine ny_round (i + 1) [1, 1] ⟨by omega, ?_⟩ (show 26 - (i + 1) < 26 - i by omega) ⟨rfl, rfl, rfl, rfl, rfl, rfl, rfl, rfl, trivial⟩ rfl rfl
      first | exact find_no1 hpre ho hg21 | exact find_no2 hpre ho hc16
    · refine sy_field fld_33_1 rfl rfl rfl ?_
      first | refine sy_ldr 0 one_9 rfl rfl rfl rfl rfl ?_ | refine sy_ldr 1 one_9 rfl rfl rfl rfl rfl ?_ | refine sy_ldr 2 one_9 rfl rfl rfl rfl rfl ?_
      refine sy_len rfl (len_string Try.underlying9 _) rfl rfl ?_
      refine sy_move rfl rfl rfl ?_
      refine sy_cmp rfl rfl rfl rfl rfl ?_
      refine sy_pickF rfl rfl rfl rfl ?_
      refine sy_assign rfl rfl rfl ?_
      refine sy_nil rfl ?_
      refine ny_next ?_
      refine cy_cond rfl (fun hc16 => ?_) (fun hc16 => ?_)
      · refine cy_exit ?_
        refine ny_blockY rfl ?_
        refine ny_blockX ?_
        refine ny_next ?_
        refine cy_region ?_
        refine sy_addi (z := ((i + 1 : Nat) : Int)) rfl rfl (by omega) (by omega) (by omega) rfl rfl ?_
        refine sy_move rfl rfl rfl ?_
        refine sy_nil rfl ?_
        refine ny_round (i + 1) [1, 1] ⟨by omega, ?_⟩ (show 26 - (i + 1) < 26 - i by omega) ⟨rfl, rfl, rfl, rfl, rfl, rfl, rfl, rfl, trivial⟩ rfl rfl
        first | exact find_no1 hpre ho hg21 | exact find_no2 hpre ho hc16
      · refine cy_seq ?_
        refine cy_region ?_
        first | refine sy_ldar 0 agg_33 rfl rfl rfl rfl rfl ?_ | refine sy_ldar 1 agg_33 rfl rfl rfl rfl rfl ?_ | refine sy_ldar 2 agg_33 rfl rfl rfl rfl rfl ?_
        first | refine sy_stl 0 sz_33 rfl rfl rfl rfl rfl rfl rfl rfl ?_ | refine sy_stl 1 sz_33 rfl rfl rfl rfl rfl rfl rfl rfl ?_ | refine sy_stl 2 sz_33 rfl rfl rfl rfl rfl rfl rfl rfl ?_
        refine sy_nil rfl ?_
        refine ny_next ?_
        refine cy_exit ?_
        refine ny_blockY rfl ?_
        refine ny_blockY rfl ?_
        refine ny_thenE ?_
        refine ny_thenE ?_
        refine ny_blockX ?_
        refine ny_next ?_
        refine cy_seq ?_
        first | refine cy_frz 0 rfl (by simp) (fun h3 hle3 hb6 => ?_) | skip
        refine cy_regionH mixed (by kernel_rfl) ?_
        refine sy_ldah (vs := [.int .i64 _, .string _, .string _]) agg_33 rfl rfl (fun j u hj => by simp only [Hp.cell, hb6, Nat.zero_add]; simpa using hj) rfl rfl ?_
        refine sy_field fld_33_0 rfl rfl rfl ?_
        refine sy_ldh one_3 rfl (fld_cell hb6 rfl) rfl rfl ?_
        refine sy_cmp rfl rfl rfl rfl rfl ?_
        first | refine sy_stlH 0 (by kernel_rfl) sz_33 rfl rfl rfl rfl rfl rfl rfl rfl ?_ | refine sy_stlH 1 (by kernel_rfl) sz_33 rfl rfl rfl rfl rfl rfl rfl rfl ?_ | refine sy_stlH 2 (by kernel_rfl) sz_33 rfl rfl rfl rfl rfl rfl rfl rfl ?_
        refine sy_assign rfl rfl rfl ?_
        refine sy_nilH ?_
        refine ny_next ?_
        refine cy_ret ?_
        refine ny_scopeR ?_
        refine ny_finR (resc1 0 rfl agg_33 rfl rfl rfl rfl) (fun w hs => ⟨?_, hs.frm⟩)
        first | exact find_yes hpre ho hg21 hc16 | exact find_miss hpre hi hc12
  · refine cy_exit ?_
    refine ny_thenE ?_
    refine ny_thenE ?_
    refine ny_blockX ?_
    refine ny_next ?_
    refine cy_seq ?_
    first | refine cy_frz 0 rfl (by simp) (fun h3 hle3 hb6 => ?_) | skip
    refine cy_regionH mixed (by kernel_rfl) ?_
    refine sy_ldah (vs := [.int .i64 _, .string _, .string _]) agg_33 rfl rfl (fun j u hj => by simp only [Hp.cell, hb6, Nat.zero_add]; simpa using hj) rfl rfl ?_
    refine sy_field fld_33_0 rfl rfl rfl ?_
    refine sy_ldh one_3 rfl (fld_cell hb6 rfl) rfl rfl ?_
    refine sy_cmp rfl rfl rfl rfl rfl ?_
    first | refine sy_stlH 0 (by kernel_rfl) sz_33 rfl rfl rfl rfl rfl rfl rfl rfl ?_ | refine sy_stlH 1 (by kernel_rfl) sz_33 rfl rfl rfl rfl rfl rfl rfl rfl ?_ | refine sy_stlH 2 (by kernel_rfl) sz_33 rfl rfl rfl rfl rfl rfl rfl rfl ?_
    refine sy_assign rfl rfl rfl ?_
    refine sy_nilH ?_
    refine ny_next ?_
    refine cy_ret ?_
    refine ny_scopeR ?_
    refine ny_finR (resc1 0 rfl agg_33 rfl rfl rfl rfl) (fun w hs => ⟨?_, hs.frm⟩)
    first | exact find_yes hpre ho hg21 hc16 | exact find_miss hpre hi hc12
theorem find_n {s : ByteArray} {k : Int} {h : Hp} (hf : findL s.data.toList k = none) : C0 Try.prog 38 [.string s, .int .i64 k] h (.tuple #[.agg #[.int .i64 0, .string ⟨#[]⟩, .string ⟨#[]⟩], .bool false]) := by
  have := find_c s k h
  rw [hf] at this
  exact this
theorem find_s {s : ByteArray} {k : Int} {h : Hp} {p : Int} {ty nm : List UInt8} (hf : findL s.data.toList k = some (p, ty, nm)) : C0 Try.prog 38 [.string s, .int .i64 k] h (.tuple #[.agg #[.int .i64 p, .string ⟨ty.toArray⟩, .string ⟨nm.toArray⟩], .bool true]) := by
  have := find_c s k h
  rw [hf] at this
  exact this
set_option maxRecDepth 100000 in
theorem infix_n (s : ByteArray) (h : Hp) (hf : findL s.data.toList 3 = none) : C0 Try.prog 17 [.string s] h (tup4 (0, 0, 0, false)) := by
  refine enter0 Try.func17 rfl rfl rfl (fun w => ?_)
  refine cy_seq ?_
  refine cy_region ?_
  refine sy_assign rfl rfl rfl ?_
  refine sy_assign rfl rfl rfl ?_
  refine sy_assign rfl rfl rfl ?_
  refine sy_assign rfl rfl rfl ?_
  refine sy_nil rfl ?_
  refine ny_next ?_
  refine cy_seq ?_
  refine cy_region ?_
  refine sy_move rfl rfl rfl ?_
  refine sy_call rfl call_38 rfl (find_n hf) rfl rfl ?_
  refine sy_move rfl rfl rfl ?_
  refine sy_extract rfl rfl rfl rfl ?_
  refine sy_extract rfl rfl rfl rfl ?_
  refine sy_alloc zer_33 rfl rfl (fun b6 hb6 hM6 => ?_) (by simp)
  first | refine sy_stl 0 sz_33 rfl rfl rfl rfl rfl rfl rfl rfl ?_ | refine sy_stl 1 sz_33 rfl rfl rfl rfl rfl rfl rfl rfl ?_
  refine sy_assign rfl rfl rfl ?_
  refine sy_nil rfl ?_
  refine ny_next ?_
  refine cy_seq ?_
  refine cy_seq ?_
  refine cy_region ?_
  refine sy_move rfl rfl rfl ?_
  refine sy_not rfl rfl rfl ?_
  refine sy_nil rfl ?_
  refine ny_next ?_
  refine cy_cond rfl (fun hc14 => ?_) (fun hc14 => ?_)
  · refine cy_seq ?_
    refine cy_region ?_
    refine sy_assign rfl rfl rfl ?_
    refine sy_assign rfl rfl rfl ?_
    refine sy_assign rfl rfl rfl ?_
    refine sy_assign rfl rfl rfl ?_
    refine sy_nil rfl ?_
    refine ny_next ?_
    refine cy_ret ?_
    refine ny_thenR ?_
    exact ny_finR (res4 rfl rfl rfl rfl rfl) (fun w hs => ⟨rfl, hs.frm⟩)
  · cases hc14
set_option maxRecDepth 100000 in
theorem infix_s (s : ByteArray) (h : Hp) (p : Int) (c0 c1 c2 : UInt8) (nm : List UInt8) (hf : findL s.data.toList 3 = some (p, [c0, c1, c2], nm)) (h1 : 0 ≤ p) (h2 : p ≤ 2000) : C0 Try.prog 17 [.string s] h (tup4 (bes p c0, p, bes p c2, true)) := by
  refine enter0 Try.func17 rfl rfl rfl (fun w => ?_)
  refine cy_seq ?_
  refine cy_region ?_
  refine sy_assign rfl rfl rfl ?_
  refine sy_assign rfl rfl rfl ?_
  refine sy_assign rfl rfl rfl ?_
  refine sy_assign rfl rfl rfl ?_
  refine sy_nil rfl ?_
  refine ny_next ?_
  refine cy_seq ?_
  refine cy_region ?_
  refine sy_move rfl rfl rfl ?_
  refine sy_call rfl call_38 rfl (find_s hf) rfl rfl ?_
  refine sy_move rfl rfl rfl ?_
  refine sy_extract rfl rfl rfl rfl ?_
  refine sy_extract rfl rfl rfl rfl ?_
  refine sy_alloc zer_33 rfl rfl (fun b6 hb6 hM6 => ?_) (by simp)
  first | refine sy_stl 0 sz_33 rfl rfl rfl rfl rfl rfl rfl rfl ?_ | refine sy_stl 1 sz_33 rfl rfl rfl rfl rfl rfl rfl rfl ?_
  refine sy_assign rfl rfl rfl ?_
  refine sy_nil rfl ?_
  refine ny_next ?_
  refine cy_seq ?_
  refine cy_seq ?_
  refine cy_region ?_
  refine sy_move rfl rfl rfl ?_
  refine sy_not rfl rfl rfl ?_
  refine sy_nil rfl ?_
  refine ny_next ?_
  refine cy_cond rfl (fun hc14 => ?_) (fun hc14 => ?_)
  · cases hc14
  · refine cy_skip ?_
    refine ny_next ?_
    refine cy_seq ?_
    refine cy_regionQ mixed (by kernel_rfl) ?_
    first | refine sy_ldar 0 agg_33 rfl rfl rfl rfl rfl ?_ | refine sy_ldar 1 agg_33 rfl rfl rfl rfl rfl ?_
    refine sy_field fld_33_1 rfl rfl rfl ?_
    first | refine sy_ldr 0 one_9 rfl rfl rfl rfl rfl ?_ | refine sy_ldr 1 one_9 rfl rfl rfl rfl rfl ?_
    refine sy_idxs Try.underlying9 rfl rfl (by decide) rfl rfl rfl ?_
    refine sy_call rfl call_39 rfl (beside_c _ _ _ _ _ h1 h2) rfl rfl ?_
    refine sy_field fld_33_0 rfl rfl rfl ?_
    first | refine sy_ldr 0 one_3 rfl rfl rfl rfl rfl ?_ | refine sy_ldr 1 one_3 rfl rfl rfl rfl rfl ?_
    first | refine sy_ldar 0 agg_33 rfl rfl rfl rfl rfl ?_ | refine sy_ldar 1 agg_33 rfl rfl rfl rfl rfl ?_
    refine sy_field fld_33_1 rfl rfl rfl ?_
    first | refine sy_ldr 0 one_9 rfl rfl rfl rfl rfl ?_ | refine sy_ldr 1 one_9 rfl rfl rfl rfl rfl ?_
    refine sy_idxs Try.underlying9 rfl rfl (by decide) rfl rfl rfl ?_
    refine sy_call rfl call_39 rfl (beside_c _ _ _ _ _ h1 h2) rfl rfl ?_
    refine sy_assign rfl rfl rfl ?_
    refine sy_assign rfl rfl rfl ?_
    refine sy_assign rfl rfl rfl ?_
    refine sy_assign rfl rfl rfl ?_
    refine sy_nil rfl ?_
    refine ny_next ?_
    refine cy_ret ?_
    exact ny_finR (res4 rfl rfl rfl rfl rfl) (fun w hs => ⟨rfl, hs.frm⟩)
set_option maxRecDepth 100000 in
theorem prefix_n (s : ByteArray) (h : Hp) (hf : findL s.data.toList 2 = none) : C0 Try.prog 19 [.string s] h (tup3 (0, 0, false)) := by
  refine enter0 Try.func19 rfl rfl rfl (fun w => ?_)
  refine cy_seq ?_
  refine cy_region ?_
  refine sy_assign rfl rfl rfl ?_
  refine sy_assign rfl rfl rfl ?_
  refine sy_assign rfl rfl rfl ?_
  refine sy_nil rfl ?_
  refine ny_next ?_
  refine cy_seq ?_
  refine cy_region ?_
  refine sy_move rfl rfl rfl ?_
  refine sy_call rfl call_38 rfl (find_n hf) rfl rfl ?_
  refine sy_move rfl rfl rfl ?_
  refine sy_extract rfl rfl rfl rfl ?_
  refine sy_extract rfl rfl rfl rfl ?_
  refine sy_alloc zer_33 rfl rfl (fun b5 hb5 hM5 => ?_) (by simp)
  first | refine sy_stl 0 sz_33 rfl rfl rfl rfl rfl rfl rfl rfl ?_ | refine sy_stl 1 sz_33 rfl rfl rfl rfl rfl rfl rfl rfl ?_
  refine sy_assign rfl rfl rfl ?_
  refine sy_nil rfl ?_
  refine ny_next ?_
  refine cy_seq ?_
  refine cy_seq ?_
  refine cy_region ?_
  refine sy_move rfl rfl rfl ?_
  refine sy_not rfl rfl rfl ?_
  refine sy_nil rfl ?_
  refine ny_next ?_
  refine cy_cond rfl (fun hc13 => ?_) (fun hc13 => ?_)
  · refine cy_seq ?_
    refine cy_region ?_
    refine sy_assign rfl rfl rfl ?_
    refine sy_assign rfl rfl rfl ?_
    refine sy_assign rfl rfl rfl ?_
    refine sy_nil rfl ?_
    refine ny_next ?_
    refine cy_ret ?_
    refine ny_thenR ?_
    exact ny_finR (res3 rfl rfl rfl rfl) (fun w hs => ⟨rfl, hs.frm⟩)
  · cases hc13
set_option maxRecDepth 100000 in
theorem prefix_s (s : ByteArray) (h : Hp) (p : Int) (c0 c1 : UInt8) (nm : List UInt8) (hf : findL s.data.toList 2 = some (p, [c0, c1], nm)) (h1 : 0 ≤ p) (h2 : p ≤ 2000) : C0 Try.prog 19 [.string s] h (tup3 (p, bes p c1, true)) := by
  refine enter0 Try.func19 rfl rfl rfl (fun w => ?_)
  refine cy_seq ?_
  refine cy_region ?_
  refine sy_assign rfl rfl rfl ?_
  refine sy_assign rfl rfl rfl ?_
  refine sy_assign rfl rfl rfl ?_
  refine sy_nil rfl ?_
  refine ny_next ?_
  refine cy_seq ?_
  refine cy_region ?_
  refine sy_move rfl rfl rfl ?_
  refine sy_call rfl call_38 rfl (find_s hf) rfl rfl ?_
  refine sy_move rfl rfl rfl ?_
  refine sy_extract rfl rfl rfl rfl ?_
  refine sy_extract rfl rfl rfl rfl ?_
  refine sy_alloc zer_33 rfl rfl (fun b5 hb5 hM5 => ?_) (by simp)
  first | refine sy_stl 0 sz_33 rfl rfl rfl rfl rfl rfl rfl rfl ?_ | refine sy_stl 1 sz_33 rfl rfl rfl rfl rfl rfl rfl rfl ?_
  refine sy_assign rfl rfl rfl ?_
  refine sy_nil rfl ?_
  refine ny_next ?_
  refine cy_seq ?_
  refine cy_seq ?_
  refine cy_region ?_
  refine sy_move rfl rfl rfl ?_
  refine sy_not rfl rfl rfl ?_
  refine sy_nil rfl ?_
  refine ny_next ?_
  refine cy_cond rfl (fun hc13 => ?_) (fun hc13 => ?_)
  · cases hc13
  · refine cy_skip ?_
    refine ny_next ?_
    refine cy_seq ?_
    refine cy_regionQ mixed (by kernel_rfl) ?_
    refine sy_field fld_33_0 rfl rfl rfl ?_
    first | refine sy_ldr 0 one_3 rfl rfl rfl rfl rfl ?_ | refine sy_ldr 1 one_3 rfl rfl rfl rfl rfl ?_
    first | refine sy_ldar 0 agg_33 rfl rfl rfl rfl rfl ?_ | refine sy_ldar 1 agg_33 rfl rfl rfl rfl rfl ?_
    refine sy_field fld_33_1 rfl rfl rfl ?_
    first | refine sy_ldr 0 one_9 rfl rfl rfl rfl rfl ?_ | refine sy_ldr 1 one_9 rfl rfl rfl rfl rfl ?_
    refine sy_idxs Try.underlying9 rfl rfl (by decide) rfl rfl rfl ?_
    refine sy_call rfl call_39 rfl (beside_c _ _ _ _ _ h1 h2) rfl rfl ?_
    refine sy_assign rfl rfl rfl ?_
    refine sy_assign rfl rfl rfl ?_
    refine sy_assign rfl rfl rfl ?_
    refine sy_nil rfl ?_
    refine ny_next ?_
    refine cy_ret ?_
    exact ny_finR (res3 rfl rfl rfl rfl) (fun w hs => ⟨rfl, hs.frm⟩)
theorem infix_c (s : ByteArray) (h : Hp) : C0 Try.prog 17 [.string s] h (tup4 (refInfix s.data.toList)) := by
  rw [← infix_eq]
  unfold infixL
  cases hf : findL s.data.toList 3 with
  | none => exact infix_n s h hf
  | some o =>
    obtain ⟨p, ty, nm⟩ := o
    obtain ⟨h1, h2, h3⟩ := findL_facts hf
    match ty, h3 with
    | [c0, c1, c2], _ => exact infix_s s h p c0 c1 c2 nm hf h1 h2
theorem prefix_c (s : ByteArray) (h : Hp) : C0 Try.prog 19 [.string s] h (tup3 (refPrefix s.data.toList)) := by
  rw [← prefix_eq]
  unfold prefixL
  cases hf : findL s.data.toList 2 with
  | none => exact prefix_n s h hf
  | some o =>
    obtain ⟨p, ty, nm⟩ := o
    obtain ⟨h1, h2, h3⟩ := findL_facts hf
    match ty, h3 with
    | [c0, c1], _ => exact prefix_s s h p c0 c1 nm hf h1 h2
set_option maxRecDepth 100000 in
theorem refInfix_c (s : ByteArray) (h : Hp) : C0 Try.prog 18 [.string s] h (tup4 (refInfix s.data.toList)) := by
  refine enter0 Try.func18 rfl rfl rfl (fun w => ?_)
  refine cy_seq ?_
  refine cy_region ?_
  refine sy_assign rfl rfl rfl ?_
  refine sy_assign rfl rfl rfl ?_
  refine sy_assign rfl rfl rfl ?_
  refine sy_assign rfl rfl rfl ?_
  refine sy_nil rfl ?_
  refine ny_next ?_
  refine cy_seq ?_
  refine cy_block ?_
  refine cy_seq ?_
  refine cy_region ?_
  refine sy_move rfl rfl rfl ?_
  refine sy_eqs rfl rfl rfl rfl ?_
  refine sy_assign rfl rfl rfl ?_
  refine sy_nil rfl ?_
  refine ny_next ?_
  refine cy_cond rfl (fun hc6 => ?_) (fun hc6 => ?_)
  · refine cy_seq ?_
    refine cy_region ?_
    refine sy_assign rfl rfl rfl ?_
    refine sy_assign rfl rfl rfl ?_
    refine sy_assign rfl rfl rfl ?_
    refine sy_assign rfl rfl rfl ?_
    refine sy_nil rfl ?_
    refine ny_next ?_
    refine cy_ret ?_
    refine ny_blockR ?_
    refine ny_thenR ?_
    refine ny_finR (res4 rfl rfl rfl rfl rfl) (fun w hs => ⟨ret4 ?_, hs.frm⟩)
    simp only [refInfix, *, if_true, if_false, Bool.or_false, Bool.false_or, Bool.true_or, Bool.false_eq_true]
  · refine cy_seq ?_
    refine cy_region ?_
    refine sy_move rfl rfl rfl ?_
    refine sy_eqs rfl rfl rfl rfl ?_
    refine sy_assign rfl rfl rfl ?_
    refine sy_nil rfl ?_
    refine ny_next ?_
    refine cy_cond rfl (fun hc9 => ?_) (fun hc9 => ?_)
    · refine cy_seq ?_
      refine cy_region ?_
      refine sy_assign rfl rfl rfl ?_
      refine sy_assign rfl rfl rfl ?_
      refine sy_assign rfl rfl rfl ?_
      refine sy_assign rfl rfl rfl ?_
      refine sy_nil rfl ?_
      refine ny_next ?_
      refine cy_ret ?_
      refine ny_blockR ?_
      refine ny_thenR ?_
      refine ny_finR (res4 rfl rfl rfl rfl rfl) (fun w hs => ⟨ret4 ?_, hs.frm⟩)
      simp only [refInfix, *, if_true, if_false, Bool.or_false, Bool.false_or, Bool.true_or, Bool.false_eq_true]
    · refine cy_seq ?_
      refine cy_region ?_
      refine sy_move rfl rfl rfl ?_
      refine sy_eqs rfl rfl rfl rfl ?_
      refine sy_assign rfl rfl rfl ?_
      refine sy_nil rfl ?_
      refine ny_next ?_
      refine cy_cond rfl (fun hc12 => ?_) (fun hc12 => ?_)
      · refine cy_seq ?_
        refine cy_region ?_
        refine sy_assign rfl rfl rfl ?_
        refine sy_assign rfl rfl rfl ?_
        refine sy_assign rfl rfl rfl ?_
        refine sy_assign rfl rfl rfl ?_
        refine sy_nil rfl ?_
        refine ny_next ?_
        refine cy_ret ?_
        refine ny_blockR ?_
        refine ny_thenR ?_
        refine ny_finR (res4 rfl rfl rfl rfl rfl) (fun w hs => ⟨ret4 ?_, hs.frm⟩)
        simp only [refInfix, *, if_true, if_false, Bool.or_false, Bool.false_or, Bool.true_or, Bool.false_eq_true]
      · refine cy_seq ?_
        refine cy_region ?_
        refine sy_move rfl rfl rfl ?_
        refine sy_eqs rfl rfl rfl rfl ?_
        refine sy_assign rfl rfl rfl ?_
        refine sy_nil rfl ?_
        refine ny_next ?_
        refine cy_cond rfl (fun hc15 => ?_) (fun hc15 => ?_)
        · refine cy_seq ?_
          refine cy_region ?_
          refine sy_assign rfl rfl rfl ?_
          refine sy_assign rfl rfl rfl ?_
          refine sy_assign rfl rfl rfl ?_
          refine sy_assign rfl rfl rfl ?_
          refine sy_nil rfl ?_
          refine ny_next ?_
          refine cy_ret ?_
          refine ny_blockR ?_
          refine ny_thenR ?_
          refine ny_finR (res4 rfl rfl rfl rfl rfl) (fun w hs => ⟨ret4 ?_, hs.frm⟩)
          simp only [refInfix, *, if_true, if_false, Bool.or_false, Bool.false_or, Bool.true_or, Bool.false_eq_true]
        · refine cy_seq ?_
          refine cy_region ?_
          refine sy_move rfl rfl rfl ?_
          refine sy_eqs rfl rfl rfl rfl ?_
          refine sy_assign rfl rfl rfl ?_
          refine sy_nil rfl ?_
          refine ny_next ?_
          refine cy_cond rfl (fun hc18 => ?_) (fun hc18 => ?_)
          · refine cy_seq ?_
            refine cy_region ?_
            refine sy_assign rfl rfl rfl ?_
            refine sy_assign rfl rfl rfl ?_
            refine sy_assign rfl rfl rfl ?_
            refine sy_assign rfl rfl rfl ?_
            refine sy_nil rfl ?_
            refine ny_next ?_
            refine cy_ret ?_
            refine ny_blockR ?_
            refine ny_thenR ?_
            refine ny_finR (res4 rfl rfl rfl rfl rfl) (fun w hs => ⟨ret4 ?_, hs.frm⟩)
            simp only [refInfix, *, if_true, if_false, Bool.or_false, Bool.false_or, Bool.true_or, Bool.false_eq_true]
          · refine cy_seq ?_
            refine cy_region ?_
            refine sy_move rfl rfl rfl ?_
            refine sy_buildSlice rfl (fun w => bsl_30_12_0x1x2x3x4x5x6x7x8x9x10x11 w) rfl rfl (fun b23 hb23 hM23 => ?_) (by simp)
            refine sy_frz 0 rfl (by simp) (fun h2 hle2 hb23 => ?_)
            refine sy_call rfl call_40 rfl (in_c _ _ _ _ refNames (refNames.map fun n => ⟨n.toArray⟩) _ (by simp [refNames]) rfl (by decide) (in_mem hb23)) rfl rfl ?_
            refine sy_assign rfl rfl rfl ?_
            refine sy_nil rfl ?_
            refine ny_next ?_
            refine cy_cond rfl (fun hc21 => ?_) (fun hc21 => ?_)
            · refine cy_seq ?_
              refine cy_region ?_
              refine sy_assign rfl rfl rfl ?_
              refine sy_assign rfl rfl rfl ?_
              refine sy_assign rfl rfl rfl ?_
              refine sy_assign rfl rfl rfl ?_
              refine sy_nil rfl ?_
              refine ny_next ?_
              refine cy_ret ?_
              refine ny_blockR ?_
              refine ny_thenR ?_
              refine ny_finR (res4 rfl rfl rfl rfl rfl) (fun w hs => ⟨ret4 ?_, hs.frm⟩)
              simp only [refInfix, *, if_true, if_false, Bool.or_false, Bool.false_or, Bool.true_or, Bool.false_eq_true]
            · refine cy_seq ?_
              refine cy_region ?_
              refine sy_move rfl rfl rfl ?_
              refine sy_eqs rfl rfl rfl rfl ?_
              refine sy_move rfl rfl rfl ?_
              refine sy_cond (d := 28) _ rfl rfl (fun hg28 => ?_) (fun hg28 => ?_)
              · refine sy_skip rfl rfl rfl ?_
                refine sy_skip rfl rfl rfl ?_
                refine sy_pickT rfl rfl rfl rfl ?_
                refine sy_assign rfl rfl rfl ?_
                refine sy_nil rfl ?_
                refine ny_next ?_
                refine cy_condT rfl ?_
                refine cy_seq ?_
                refine cy_region ?_
                refine sy_assign rfl rfl rfl ?_
                refine sy_assign rfl rfl rfl ?_
                refine sy_assign rfl rfl rfl ?_
                refine sy_assign rfl rfl rfl ?_
                refine sy_nil rfl ?_
                refine ny_next ?_
                refine cy_ret ?_
                refine ny_blockR ?_
                refine ny_thenR ?_
                refine ny_finR (res4 rfl rfl rfl rfl rfl) (fun w hs => ⟨ret4 ?_, hs.frm⟩)
                simp only [refInfix, *, if_true, if_false, Bool.or_false, Bool.false_or, Bool.true_or, Bool.false_eq_true]
              · refine sy_move rfl rfl rfl ?_
                refine sy_eqs rfl rfl rfl rfl ?_
                refine sy_pickF rfl rfl rfl rfl ?_
                refine sy_assign rfl rfl rfl ?_
                refine sy_nil rfl ?_
                refine ny_next ?_
                refine cy_cond rfl (fun hc25 => ?_) (fun hc25 => ?_)
                · refine cy_seq ?_
                  refine cy_region ?_
                  refine sy_assign rfl rfl rfl ?_
                  refine sy_assign rfl rfl rfl ?_
                  refine sy_assign rfl rfl rfl ?_
                  refine sy_assign rfl rfl rfl ?_
                  refine sy_nil rfl ?_
                  refine ny_next ?_
                  refine cy_ret ?_
                  refine ny_blockR ?_
                  refine ny_thenR ?_
                  refine ny_finR (res4 rfl rfl rfl rfl rfl) (fun w hs => ⟨ret4 ?_, hs.frm⟩)
                  simp only [refInfix, *, if_true, if_false, Bool.or_false, Bool.false_or, Bool.true_or, Bool.false_eq_true]
                · refine cy_seq ?_
                  refine cy_region ?_
                  refine sy_move rfl rfl rfl ?_
                  refine sy_eqs rfl rfl rfl rfl ?_
                  refine sy_move rfl rfl rfl ?_
                  refine sy_cond (d := 35) _ rfl rfl (fun hg35 => ?_) (fun hg35 => ?_)
                  · refine sy_skip rfl rfl rfl ?_
                    refine sy_skip rfl rfl rfl ?_
                    refine sy_pickT rfl rfl rfl rfl ?_
                    refine sy_move rfl rfl rfl ?_
                    refine sy_skip rfl rfl rfl ?_
                    refine sy_skip rfl rfl rfl ?_
                    refine sy_pickT rfl rfl rfl rfl ?_
                    refine sy_assign rfl rfl rfl ?_
                    refine sy_nil rfl ?_
                    refine ny_next ?_
                    refine cy_condT rfl ?_
                    refine cy_seq ?_
                    refine cy_region ?_
                    refine sy_assign rfl rfl rfl ?_
                    refine sy_assign rfl rfl rfl ?_
                    refine sy_assign rfl rfl rfl ?_
                    refine sy_assign rfl rfl rfl ?_
                    refine sy_nil rfl ?_
                    refine ny_next ?_
                    refine cy_ret ?_
                    refine ny_blockR ?_
                    refine ny_thenR ?_
                    refine ny_finR (res4 rfl rfl rfl rfl rfl) (fun w hs => ⟨ret4 ?_, hs.frm⟩)
                    simp only [refInfix, *, if_true, if_false, Bool.or_false, Bool.false_or, Bool.true_or, Bool.false_eq_true]
                  · refine sy_move rfl rfl rfl ?_
                    refine sy_eqs rfl rfl rfl rfl ?_
                    refine sy_pickF rfl rfl rfl rfl ?_
                    refine sy_move rfl rfl rfl ?_
                    refine sy_cond (d := 39) _ rfl rfl (fun hg39 => ?_) (fun hg39 => ?_)
                    · refine sy_skip rfl rfl rfl ?_
                      refine sy_skip rfl rfl rfl ?_
                      refine sy_pickT rfl rfl rfl rfl ?_
                      refine sy_assign rfl rfl rfl ?_
                      refine sy_nil rfl ?_
                      refine ny_next ?_
                      refine cy_condT rfl ?_
                      refine cy_seq ?_
                      refine cy_region ?_
                      refine sy_assign rfl rfl rfl ?_
                      refine sy_assign rfl rfl rfl ?_
                      refine sy_assign rfl rfl rfl ?_
                      refine sy_assign rfl rfl rfl ?_
                      refine sy_nil rfl ?_
                      refine ny_next ?_
                      refine cy_ret ?_
                      refine ny_blockR ?_
                      refine ny_thenR ?_
                      refine ny_finR (res4 rfl rfl rfl rfl rfl) (fun w hs => ⟨ret4 ?_, hs.frm⟩)
                      simp only [refInfix, *, if_true, if_false, Bool.or_false, Bool.false_or, Bool.true_or, Bool.false_eq_true]
                    · refine sy_move rfl rfl rfl ?_
                      refine sy_eqs rfl rfl rfl rfl ?_
                      refine sy_pickF rfl rfl rfl rfl ?_
                      refine sy_assign rfl rfl rfl ?_
                      refine sy_nil rfl ?_
                      refine ny_next ?_
                      refine cy_cond rfl (fun hc32 => ?_) (fun hc32 => ?_)
                      · refine cy_seq ?_
                        refine cy_region ?_
                        refine sy_assign rfl rfl rfl ?_
                        refine sy_assign rfl rfl rfl ?_
                        refine sy_assign rfl rfl rfl ?_
                        refine sy_assign rfl rfl rfl ?_
                        refine sy_nil rfl ?_
                        refine ny_next ?_
                        refine cy_ret ?_
                        refine ny_blockR ?_
                        refine ny_thenR ?_
                        refine ny_finR (res4 rfl rfl rfl rfl rfl) (fun w hs => ⟨ret4 ?_, hs.frm⟩)
                        simp only [refInfix, *, if_true, if_false, Bool.or_false, Bool.false_or, Bool.true_or, Bool.false_eq_true]
                      · refine cy_seq ?_
                        refine cy_region ?_
                        refine sy_move rfl rfl rfl ?_
                        refine sy_eqs rfl rfl rfl rfl ?_
                        refine sy_assign rfl rfl rfl ?_
                        refine sy_nil rfl ?_
                        refine ny_next ?_
                        refine cy_cond rfl (fun hc43 => ?_) (fun hc43 => ?_)
                        · refine cy_seq ?_
                          refine cy_region ?_
                          refine sy_assign rfl rfl rfl ?_
                          refine sy_assign rfl rfl rfl ?_
                          refine sy_assign rfl rfl rfl ?_
                          refine sy_assign rfl rfl rfl ?_
                          refine sy_nil rfl ?_
                          refine ny_next ?_
                          refine cy_ret ?_
                          refine ny_blockR ?_
                          refine ny_thenR ?_
                          refine ny_finR (res4 rfl rfl rfl rfl rfl) (fun w hs => ⟨ret4 ?_, hs.frm⟩)
                          simp only [refInfix, *, if_true, if_false, Bool.or_false, Bool.false_or, Bool.true_or, Bool.false_eq_true]
                        · refine cy_skip ?_
                          refine ny_blockN ?_
                          refine ny_next ?_
                          refine cy_seq ?_
                          refine cy_region ?_
                          refine sy_assign rfl rfl rfl ?_
                          refine sy_assign rfl rfl rfl ?_
                          refine sy_assign rfl rfl rfl ?_
                          refine sy_assign rfl rfl rfl ?_
                          refine sy_nil rfl ?_
                          refine ny_next ?_
                          refine cy_ret ?_
                          refine ny_finR (res4 rfl rfl rfl rfl rfl) (fun w hs => ⟨ret4 ?_, hs.frm⟩)
                          simp only [refInfix, *, if_true, if_false, Bool.or_false, Bool.false_or, Bool.true_or, Bool.false_eq_true]
set_option maxRecDepth 100000 in
theorem refPrefix_c (s : ByteArray) (h : Hp) : C0 Try.prog 20 [.string s] h (tup3 (refPrefix s.data.toList)) := by
  refine enter0 Try.func20 rfl rfl rfl (fun w => ?_)
  refine cy_seq ?_
  refine cy_region ?_
  refine sy_assign rfl rfl rfl ?_
  refine sy_assign rfl rfl rfl ?_
  refine sy_assign rfl rfl rfl ?_
  refine sy_nil rfl ?_
  refine ny_next ?_
  refine cy_seq ?_
  refine cy_seq ?_
  refine cy_region ?_
  refine sy_move rfl rfl rfl ?_
  refine sy_nil rfl ?_
  refine ny_next ?_
  refine cy_block ?_
  refine cy_seq ?_
  refine cy_region ?_
  refine sy_eqs rfl rfl rfl rfl ?_
  refine sy_assign rfl rfl rfl ?_
  refine sy_nil rfl ?_
  refine ny_next ?_
  refine cy_cond rfl (fun hc6 => ?_) (fun hc6 => ?_)
  · refine cy_seq ?_
    refine cy_region ?_
    refine sy_assign rfl rfl rfl ?_
    refine sy_assign rfl rfl rfl ?_
    refine sy_assign rfl rfl rfl ?_
    refine sy_nil rfl ?_
    refine ny_next ?_
    refine cy_ret ?_
    refine ny_blockR ?_
    refine ny_thenR ?_
    refine ny_finR (res3 rfl rfl rfl rfl) (fun w hs => ⟨ret3 ?_, hs.frm⟩)
    simp only [refPrefix, *, if_true, if_false, Bool.false_eq_true]
  · refine cy_seq ?_
    refine cy_region ?_
    refine sy_eqs rfl rfl rfl rfl ?_
    refine sy_assign rfl rfl rfl ?_
    refine sy_nil rfl ?_
    refine ny_next ?_
    refine cy_cond rfl (fun hc8 => ?_) (fun hc8 => ?_)
    · refine cy_seq ?_
      refine cy_region ?_
      refine sy_assign rfl rfl rfl ?_
      refine sy_assign rfl rfl rfl ?_
      refine sy_assign rfl rfl rfl ?_
      refine sy_nil rfl ?_
      refine ny_next ?_
      refine cy_ret ?_
      refine ny_blockR ?_
      refine ny_thenR ?_
      refine ny_finR (res3 rfl rfl rfl rfl) (fun w hs => ⟨ret3 ?_, hs.frm⟩)
      simp only [refPrefix, *, if_true, if_false, Bool.false_eq_true]
    · refine cy_seq ?_
      refine cy_region ?_
      refine sy_eqs rfl rfl rfl rfl ?_
      refine sy_assign rfl rfl rfl ?_
      refine sy_nil rfl ?_
      refine ny_next ?_
      refine cy_cond rfl (fun hc10 => ?_) (fun hc10 => ?_)
      · refine cy_seq ?_
        refine cy_region ?_
        refine sy_assign rfl rfl rfl ?_
        refine sy_assign rfl rfl rfl ?_
        refine sy_assign rfl rfl rfl ?_
        refine sy_nil rfl ?_
        refine ny_next ?_
        refine cy_ret ?_
        refine ny_blockR ?_
        refine ny_thenR ?_
        refine ny_finR (res3 rfl rfl rfl rfl) (fun w hs => ⟨ret3 ?_, hs.frm⟩)
        simp only [refPrefix, *, if_true, if_false, Bool.false_eq_true]
      · refine cy_skip ?_
        refine ny_blockN ?_
        refine ny_next ?_
        refine cy_seq ?_
        refine cy_region ?_
        refine sy_assign rfl rfl rfl ?_
        refine sy_assign rfl rfl rfl ?_
        refine sy_assign rfl rfl rfl ?_
        refine sy_nil rfl ?_
        refine ny_next ?_
        refine cy_ret ?_
        refine ny_finR (res3 rfl rfl rfl rfl) (fun w hs => ⟨ret3 ?_, hs.frm⟩)
        simp only [refPrefix, *, if_true, if_false, Bool.false_eq_true]
set_option maxRecDepth 100000 in
theorem names_c (h : Hp) : CX Try.prog 22 [] h (fun g : Nat => .slice (some ⟨g, 0, none⟩) 26 26) (fun g h' => h' g = some (.cells (allNames.map fun n => Value.string ⟨n.toArray⟩).toArray 9 (0, 0))) := by
  refine enterX Try.func22 rfl rfl rfl (fun w => ?_)
  refine cy_seq ?_
  refine cy_region ?_
  refine sy_assign rfl rfl rfl ?_
  refine sy_nil rfl ?_
  refine ny_next ?_
  refine cy_seq ?_
  refine cy_region ?_
  refine sy_buildSlice rfl (fun w => bsl_30_26_0x1x2x3x4x5x6x7x8x9x10x11x12x13x14x15x16x17x18x19x20x21x22x23x24x25 w) rfl rfl (fun b1 hb1 hM1 => ?_) (by simp)
  refine sy_assign rfl rfl rfl ?_
  refine sy_nil rfl ?_
  refine ny_next ?_
  refine cy_ret ?_
  refine ny_frz 0 rfl (by simp) (fun h2 hle2 hb1 => ?_)
  exact ny_finR (res1 rfl rfl) (fun w hs => ⟨b1, h2, rfl, by rw [names_eq]; exact hb1, hs.toGrow⟩)
end Go.Proofs.Ytbeocnhbbhidaaa

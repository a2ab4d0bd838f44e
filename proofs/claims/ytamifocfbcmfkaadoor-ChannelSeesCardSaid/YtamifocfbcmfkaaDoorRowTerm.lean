/- Terms handed in, as they lie in memory. Conditions: none; plain lemmas. -/
import Derived.Test.YtamifocfbcmfkaaDoorTermPure
import Derived.Test.YtamifocfbcmfkaaDoorRowMore
set_option linter.unusedVariables false
set_option linter.unusedSimpArgs false
namespace Go.Proofs.YtamifocfbcmfkaaDoor
open Go.ChangeShapes Go.WideShapes Go.ChangeAt Go.RowKit Go.Proofs.YtamifocfbcmfkaaDoor.E Go.Proofs.YtamifocfbcmfkaaDoor.TermP
section
variable {H : Type} {enc : TypeId × Value → H} {P : Program} {W : World} {e i i2 s sl : TypeId} {f0 f1 f2 f3 : Field}
theorem tm_cells (hs : P.underlying e = some (.struct #[f0, f1, f2, f3])) (hc : P.cellsOf e = 4) (h0 : f0.type = i ∧ f0.offset = 0) (h1 : f1.type = i2 ∧ f1.offset = 1) (h2 : f2.type = s ∧ f2.offset = 2) (h3 : f3.type = sl ∧ f3.offset = 3)
    (hi : P.underlying i = some (.int .i64)) (hci : P.cellsOf i = 1) (hi2 : P.underlying i2 = some (.int .i64)) (hci2 : P.cellsOf i2 = 1) (hstr : P.underlying s = some .string) (hcs : P.cellsOf s = 1) (hsl : P.underlying sl = some (.slice e)) (hcl : P.cellsOf sl = 1) (hbe : P.bytesOf e = 56) :
    ∀ (fuel : Nat) (cs : List Value) (x : DataW H × List MemPlace), DataW.trod enc P W 0 (fun _ => true) true fuel e cs = some x → Wt P e x.1 → ∃ a : GT, cs = a.cells ∧ (Lies (hpOf W) a ∧ Fits a) := by
  intro fuel
  induction fuel using Nat.strongRecOn
  rename_i fuel ih
  intro cs x hf hw
  obtain ⟨xs, mm, hmm, hx, hl, hxl, hel⟩ := DataW.trod_struct hs hf
  rw [hc] at hl
  match cs, hl with
  | [c0, c1, c2, c3], _ =>
    have q0 := hel 0 f0 rfl
    have q1 := hel 1 f1 rfl
    have q2 := hel 2 f2 rfl
    have q3 := hel 3 f3 rfl
    simp only [h0.1, h0.2, h1.1, h1.2, h2.1, h2.2, h3.1, h3.2, hci, hci2, hcs, hcl, List.drop_zero, List.take_succ_cons, List.take_zero, List.drop_succ_cons] at q0 q1 q2 q3
    have hxl' : xs.length = 4 := hxl
    have r0 : xs[0]? = some (xs[0]'(by omega)) := List.getElem?_eq_getElem _
    have r1 : xs[1]? = some (xs[1]'(by omega)) := List.getElem?_eq_getElem _
    have r2 : xs[2]? = some (xs[2]'(by omega)) := List.getElem?_eq_getElem _
    have r3 : xs[3]? = some (xs[3]'(by omega)) := List.getElem?_eq_getElem _
    rw [r0] at q0
    rw [r1] at q1
    rw [r2] at q2
    rw [r3] at q3
    obtain ⟨k, e0, _, w0⟩ := DataW.trod_int hi q0
    obtain ⟨l, e1, _, w1⟩ := DataW.trod_int hi2 q1
    obtain ⟨t, e2, g2, _⟩ := DataW.trod_string hstr q2
    simp only [List.cons.injEq, and_true] at e0 e1 e2
    subst e0 e1 e2
    have hwp : Wt P e (.agg (xs.map (·.1))) := by rw [hx] at hw; exact hw
    have hw2 := wt_struct hs hwp 2 f2 (.lit (.string t.data.toList)) rfl (by rw [List.getElem?_map, r2, g2]; rfl)
    have h9 := wt_string hw2
    have h9' : t.size ≤ reachBytes := by simpa using h9
    have hw3 := wt_struct hs hwp 3 f3 (xs[3]'(by omega)).1 rfl (by rw [List.getElem?_map, r3]; rfl)
    rw [h3.1] at hw3
    obtain ⟨A, l3, c3', es, e3, hlc, _, hl3, hr, hg, hby⟩ := open_rows (fc := GT.cells) (good := fun a => Lies (hpOf W) a ∧ Fits a) hsl hc (by decide) q3 hw3 fun n cs x hn h5 h6 => ih n (by omega) cs x h5 h6
    simp only [List.cons.injEq, and_true] at e3
    subst e3 hl3
    simp only [reachBytes] at h9' hby
    rw [hbe] at hby
    have b0 := bounds_i64 w0
    have b1 := bounds_i64 w1
    exact ⟨.mk k l t A c3' es, rfl, .intro _ _ _ _ _ _ hlc hr (fun a ha => (hg a ha).1), .intro _ _ _ _ _ _ b0.1 b0.2 b1.1 b1.2 (by omega) (by omega) (fun a ha => (hg a ha).2)⟩
theorem open_tm {b0 : Nat} {r : Go.Reach} {v : Value} {d : DataW H} {ps : List MemPlace} (hs : P.underlying e = some (.struct #[f0, f1, f2, f3])) (hc : P.cellsOf e = 4) (h0 : f0.type = i ∧ f0.offset = 0) (h1 : f1.type = i2 ∧ f1.offset = 1) (h2 : f2.type = s ∧ f2.offset = 2) (h3 : f3.type = sl ∧ f3.offset = 3)
    (hi : P.underlying i = some (.int .i64)) (hci : P.cellsOf i = 1) (hi2 : P.underlying i2 = some (.int .i64)) (hci2 : P.cellsOf i2 = 1) (hstr : P.underlying s = some .string) (hcs : P.cellsOf s = 1) (hsl : P.underlying sl = some (.slice e)) (hcl : P.cellsOf sl = 1) (hbe : P.bytesOf e = 56)
    (hval : Value.okWide P W r b0 e v) (h : DataW.Trod enc P W 0 (fun _ => true) true e v d ps) (hw : Wt P e d) : ∃ a : GT, v = .agg a.cells.toArray ∧ Lies (hpOf W) a ∧ Fits a := by
  obtain ⟨cs, rfl, hsz⟩ := okWide_struct hs hval
  obtain ⟨fuel, hf⟩ := h
  obtain ⟨a, e1, hg⟩ := tm_cells hs hc h0 h1 h2 h3 hi hci hi2 hci2 hstr hcs hsl hcl hbe fuel _ _ hf hw
  refine ⟨a, ?_, hg⟩
  obtain ⟨csl⟩ := cs
  have e2 : csl = GT.cells a := e1
  rw [e2]
end
end Go.Proofs.YtamifocfbcmfkaaDoor

/- Events and a single event handed in, as they lie in memory. Conditions: none; plain lemmas. -/
import Derived.Test.YtamifocfbcmfkaaDoorChanA
import Derived.Test.YtamifocfbcmfkaaDoorRowMore
set_option linter.unusedVariables false
set_option linter.unusedSimpArgs false
namespace Go.Proofs.YtamifocfbcmfkaaDoor
open Go.ChangeShapes Go.WideShapes Go.ChangeAt Go.RowKit Go.Proofs.YtamifocfbcmfkaaDoor.E Go.Proofs.YtamifocfbcmfkaaDoor.ChanP
section
variable {H : Type} {enc : TypeId × Value → H} {P : Program} {W : World} {e i s : TypeId} {f0 f1 f2 : Field}
theorem ev_cells {fuel : Nat} {cs : List Value} {x : DataW H × List MemPlace} (hs : P.underlying e = some (.struct #[f0, f1, f2])) (hc : P.cellsOf e = 3) (h0 : f0.type = i ∧ f0.offset = 0) (h1 : f1.type = i ∧ f1.offset = 1) (h2 : f2.type = s ∧ f2.offset = 2)
    (hi : P.underlying i = some (.int .i64)) (hci : P.cellsOf i = 1) (hstr : P.underlying s = some .string) (hcs : P.cellsOf s = 1) (hf : DataW.trod enc P W 0 (fun _ => true) true fuel e cs = some x) (hw : Wt P e x.1) : ∃ a : Ev, cs = evC a ∧ okE a := by
  obtain ⟨xs, mm, _, hx, hl, hxl, hel⟩ := DataW.trod_struct hs hf
  rw [hc] at hl
  match cs, hl with
  | [c0, c1, c2], _ =>
    have q0 := hel 0 f0 rfl
    have q1 := hel 1 f1 rfl
    have q2 := hel 2 f2 rfl
    simp only [h0.1, h0.2, h1.1, h1.2, h2.1, h2.2, hci, hcs, List.drop_zero, List.take_succ_cons, List.take_zero, List.drop_succ_cons] at q0 q1 q2
    have hxl' : xs.length = 3 := hxl
    have r0 : xs[0]? = some (xs[0]'(by omega)) := List.getElem?_eq_getElem _
    have r1 : xs[1]? = some (xs[1]'(by omega)) := List.getElem?_eq_getElem _
    have r2 : xs[2]? = some (xs[2]'(by omega)) := List.getElem?_eq_getElem _
    rw [r0] at q0
    rw [r1] at q1
    rw [r2] at q2
    obtain ⟨k, e0, _, w0⟩ := DataW.trod_int hi q0
    obtain ⟨l, e1, _, w1⟩ := DataW.trod_int hi q1
    obtain ⟨t, e2, g2, _⟩ := DataW.trod_string hstr q2
    simp only [List.cons.injEq, and_true] at e0 e1 e2
    subst e0 e1 e2
    have hwp : Wt P e (.agg (xs.map (·.1))) := by rw [hx] at hw; exact hw
    have hw2 := wt_struct hs hwp 2 f2 (.lit (.string t.data.toList)) rfl (by rw [List.getElem?_map, r2, g2]; rfl)
    have := wt_string hw2
    refine ⟨⟨k, l, t⟩, rfl, (bounds_i64 w0).1, (bounds_i64 w0).2, (bounds_i64 w1).1, (bounds_i64 w1).2, ?_⟩
    have h9 : t.size ≤ reachBytes := by simpa using this
    simp only [reachBytes] at h9
    show t.size ≤ _
    omega
theorem open_evs {t : TypeId} {b0 : Nat} {r : Go.Reach} {v : Value} {d : DataW H} {ps : List MemPlace} (ht : P.underlying t = some (.slice e)) (hs : P.underlying e = some (.struct #[f0, f1, f2])) (hc : P.cellsOf e = 3) (h0 : f0.type = i ∧ f0.offset = 0) (h1 : f1.type = i ∧ f1.offset = 1) (h2 : f2.type = s ∧ f2.offset = 2)
    (hi : P.underlying i = some (.int .i64)) (hci : P.cellsOf i = 1) (hstr : P.underlying s = some .string) (hcs : P.cellsOf s = 1) (hb : P.bytesOf e = 32) (hval : Value.okWide P W r b0 t v) (h : DataW.Trod enc P W 0 (fun _ => true) true t v d ps) (hw : Wt P t d) :
    ∃ (A : Option Addr) (l c : Nat) (es : List Ev), v = .slice A l c ∧ l ≤ c ∧ es.length = l ∧ RowsAt (hpOf W) A 3 (es.map evC) ∧ (∀ e, e ∈ es → okE e) ∧ l * 32 ≤ reachBytes := by
  obtain ⟨a, m, c, rfl⟩ := okWide_slice ht hval
  obtain ⟨fuel, hf⟩ := h
  obtain ⟨A, l, c', es, e1, hlc, _, hl, hr, hg, hby⟩ := open_rows (fc := evC) (good := okE) ht hc (by decide) hf hw fun n cs x _ h5 h6 => ev_cells hs hc h0 h1 h2 hi hci hstr hcs h5 h6
  have e2 : [Value.slice a m c] = [Value.slice A l c'] := e1
  simp only [List.cons.injEq, and_true] at e2
  exact ⟨A, l, c', es, e2, hlc, hl, hr, hg, by rw [← hb]; exact hby⟩
theorem open_ev {b0 : Nat} {r : Go.Reach} {v : Value} {d : DataW H} {ps : List MemPlace} (hs : P.underlying e = some (.struct #[f0, f1, f2])) (hc : P.cellsOf e = 3) (h0 : f0.type = i ∧ f0.offset = 0) (h1 : f1.type = i ∧ f1.offset = 1) (h2 : f2.type = s ∧ f2.offset = 2)
    (hi : P.underlying i = some (.int .i64)) (hci : P.cellsOf i = 1) (hstr : P.underlying s = some .string) (hcs : P.cellsOf s = 1) (hval : Value.okWide P W r b0 e v) (h : DataW.Trod enc P W 0 (fun _ => true) true e v d ps) (hw : Wt P e d) :
    ∃ a : Ev, v = .agg (evC a).toArray ∧ okE a := by
  obtain ⟨cs, rfl, hsz⟩ := okWide_struct hs hval
  obtain ⟨fuel, hf⟩ := h
  obtain ⟨a, e1, hg⟩ := ev_cells hs hc h0 h1 h2 hi hci hstr hcs hf hw
  refine ⟨a, ?_, hg⟩
  obtain ⟨csl⟩ := cs
  have e2 : csl = evC a := e1
  rw [e2]
end
end Go.Proofs.YtamifocfbcmfkaaDoor

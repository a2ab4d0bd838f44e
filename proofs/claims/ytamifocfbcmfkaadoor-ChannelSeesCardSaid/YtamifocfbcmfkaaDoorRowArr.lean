/- Three numbers handed in. Conditions: none; plain lemmas. -/
import Derived.Test.YtamifocfbcmfkaaDoorRowMore
import Derived.Laws.IdiomArrays
set_option linter.unusedVariables false
set_option linter.unusedSimpArgs false
namespace Go.Proofs.YtamifocfbcmfkaaDoor
open Go.ChangeShapes Go.WideShapes Go.ChangeAt Go.RowKit Go.Proofs.YtamifocfbcmfkaaDoor.E
theorem open_a3 {H : Type} {enc : TypeId × Value → H} {P : Program} {W : World} {t e : TypeId} {b0 : Nat} {r : Go.Reach} {v : Value} {d : DataW H} {ps : List MemPlace} (ht : P.underlying t = some (.array 3 e)) (hc : P.cellsOf t = 3) (he : P.underlying e = some (.int .i64)) (hce : P.cellsOf e = 1)
    (hval : Value.okWide P W r b0 t v) (h : DataW.Trod enc P W 0 (fun _ => true) true t v d ps) : ∃ x y z : Int, v = .agg #[.int .i64 x, .int .i64 y, .int .i64 z] := by
  simp only [Value.okWide, ht] at hval
  obtain ⟨cs, rfl, hsz, _⟩ := hval
  obtain ⟨fuel, hf⟩ := h
  obtain ⟨xs, mm, _, _, h8, h9, h10⟩ := DataW.trod_array ht hf
  obtain ⟨csl⟩ := cs
  rw [hc] at hsz
  have h3 : csl.length = 3 := hsz
  match csl, h3 with
  | [c0, c1, c2], _ =>
    have q0 := h10 0 (by omega)
    have q1 := h10 1 (by omega)
    have q2 := h10 2 (by omega)
    simp only [hce, Value.cells, Nat.zero_mul, Nat.one_mul, Nat.mul_one, List.drop_zero, List.take_succ_cons, List.take_zero, List.drop_succ_cons] at q0 q1 q2
    have r0 : xs[0]? = some (xs[0]'(by omega)) := List.getElem?_eq_getElem _
    have r1 : xs[1]? = some (xs[1]'(by omega)) := List.getElem?_eq_getElem _
    have r2 : xs[2]? = some (xs[2]'(by omega)) := List.getElem?_eq_getElem _
    rw [r0] at q0
    rw [r1] at q1
    rw [r2] at q2
    obtain ⟨x, e0, _, _⟩ := DataW.trod_int he q0
    obtain ⟨y, e1, _, _⟩ := DataW.trod_int he q1
    obtain ⟨z, e2, _, _⟩ := DataW.trod_int he q2
    simp only [List.cons.injEq, and_true] at e0 e1 e2
    subst e0 e1 e2
    exact ⟨x, y, z, rfl⟩
end Go.Proofs.YtamifocfbcmfkaaDoor

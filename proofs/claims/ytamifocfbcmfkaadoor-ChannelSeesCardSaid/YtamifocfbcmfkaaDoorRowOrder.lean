/- Orders handed in, as they lie in memory. Conditions: none; plain lemmas. -/
import Derived.Test.YtamifocfbcmfkaaDoorLattMem
import Derived.Test.YtamifocfbcmfkaaDoorRow
import Derived.Deep.Slices
set_option linter.unusedVariables false
set_option linter.unusedSimpArgs false
namespace Go.Proofs.YtamifocfbcmfkaaDoor.LattP
open Go.ChangeShapes Go.WideShapes Go.ChangeAt Go.RowKit Go.Proofs.YtamifocfbcmfkaaDoor.E
theorem pairs_cells {H : Type} {enc : TypeId × Value → H} {P : Program} {W : World} {t e i : TypeId} {fuel : Nat} {cs : List Value} {x : DataW H × List MemPlace} (ht : P.underlying t = some (.slice e)) (he : P.underlying e = some (.array 2 i)) (hi : P.underlying i = some (.int .i64)) (hce : P.cellsOf e = 2) (hci : P.cellsOf i = 1)
    (hf : DataW.trod enc P W 0 (fun _ => true) true fuel t cs = some x) : ∃ A l c q, cs = [.slice A l c] ∧ l ≤ c ∧ c ≤ maxLen ∧ q.length = l ∧ PairsAt (hpOf W) A q := by
  rcases Go.Deep.open_slice ht hf with ⟨h0, _⟩ | ⟨a, l, c, m, n, D, Pl, h0, _, hl, hm, hmm, _, hx⟩
  · subst h0
    exact ⟨none, 0, 0, [], rfl, Nat.le_refl _, by simp [maxLen], rfl, fun j x hj => by simp at hj⟩
  · subst h0
    simp only [if_true] at hmm
    subst hmm
    have key : ∀ k, k < l → ∃ x : Int × Int, W.cell? (a.add (k * 2)) = some (.int .i64 x.1) ∧ W.cell? ((a.add (k * 2)).add 1) = some (.int .i64 x.2) := fun k hk => by
      obtain ⟨cs', h4, h5⟩ := hx k (by omega)
      rw [hce] at h4
      obtain ⟨_, h6, h7⟩ := World.cells?_some h4
      obtain ⟨xs, mm, _, _, h8, h9, h10⟩ := DataW.trod_array he h5
      rw [hce] at h8
      match cs', h8 with
      | [c0, c1], _ =>
        have q0 := h10 0 (by omega)
        have q1 := h10 1 (by omega)
        simp only [hci, Nat.zero_mul, Nat.one_mul, List.drop_zero, List.take_succ_cons, List.take_zero, List.drop_succ_cons] at q0 q1
        have r0 : xs[0]? = some (xs[0]'(by omega)) := List.getElem?_eq_getElem _
        have r1 : xs[1]? = some (xs[1]'(by omega)) := List.getElem?_eq_getElem _
        rw [r0] at q0
        rw [r1] at q1
        obtain ⟨m0, e0, _, _⟩ := DataW.trod_int hi q0
        obtain ⟨m1, e1, _, _⟩ := DataW.trod_int hi q1
        have g0 := h7 0 (by omega)
        have g1 := h7 1 (by omega)
        simp only [List.cons.injEq, and_true] at e0 e1
        refine ⟨(m0, m1), ?_, ?_⟩
        · have : (a.add (k * 2)).add 0 = a.add (k * 2) := by simp [Addr.add]
          rw [this] at g0
          rw [g0, e0]
          rfl
        · rw [g1, e1]
          rfl
    obtain ⟨f, hf2⟩ := Go.Deep.choose_lt (α := Int × Int) key
    refine ⟨some a, l, m, (List.range l).map f, rfl, hl, hm, by simp, fun j x hj => ?_⟩
    have hjl : j < l := by
      have := (List.getElem?_eq_some_iff.1 hj).1
      simpa using this
    have hxe : x = f j := by
      simp [hjl] at hj
      exact hj.symm
    subst hxe
    obtain ⟨g0, g1⟩ := hf2 j hjl
    have hsp : a.spot = none := by
      obtain ⟨z0, _⟩ := hf2 0 (by omega)
      have : a.add (0 * 2) = a := by simp [Addr.add]
      rw [this] at z0
      unfold World.cell? at z0
      split at z0
      · split at z0
        · cases z0
        · rename_i h11
          simpa using h11
      · cases z0
    obtain ⟨b, off, sp⟩ := a
    simp only at hsp
    subst hsp
    rw [Addr.add_at] at g0 g1
    rw [Addr.add_at] at g1
    exact ⟨b, off, rfl, g0, g1⟩
theorem open_order {H : Type} {enc : TypeId × Value → H} {P : Program} {W : World} {t tp e i : TypeId} {f0 f1 : Field} {b0 : Nat} {r : Go.Reach} {v : Value} {d : DataW H} {ps : List MemPlace} (hs : P.underlying t = some (.struct #[f0, f1])) (hc : P.cellsOf t = 2) (h0 : f0.type = i ∧ f0.offset = 0) (h1 : f1.type = tp ∧ f1.offset = 1) (hctp : P.cellsOf tp = 1)
    (ht : P.underlying tp = some (.slice e)) (he : P.underlying e = some (.array 2 i)) (hi : P.underlying i = some (.int .i64)) (hce : P.cellsOf e = 2) (hci : P.cellsOf i = 1)
    (hval : Value.okWide P W r b0 t v) (h : DataW.Trod enc P W 0 (fun _ => true) true t v d ps) : ∃ n A l c q, v = .agg #[.int .i64 n, .slice A l c] ∧ l ≤ c ∧ c ≤ maxLen ∧ q.length = l ∧ PairsAt (hpOf W) A q := by
  obtain ⟨cs, rfl, hsz⟩ := okWide_struct hs hval
  obtain ⟨fuel, hf⟩ := h
  obtain ⟨xs, mm, _, _, hl, hx, hel⟩ := DataW.trod_struct hs hf
  rw [hc] at hl
  obtain ⟨csl⟩ := cs
  simp only [Value.cells] at hl hel
  match csl, hl with
  | [c0, c1], _ =>
    have q0 := hel 0 f0 rfl
    have q1 := hel 1 f1 rfl
    simp only [h0.1, h0.2, h1.1, h1.2, hci, hctp, List.drop_zero, List.take_succ_cons, List.take_zero, List.drop_succ_cons] at q0 q1
    have r0 : xs[0]? = some (xs[0]'(by simp at hx; omega)) := List.getElem?_eq_getElem _
    have r1 : xs[1]? = some (xs[1]'(by simp at hx; omega)) := List.getElem?_eq_getElem _
    rw [r0] at q0
    rw [r1] at q1
    obtain ⟨n, e0, _, _⟩ := DataW.trod_int hi q0
    obtain ⟨A, l, c, q, e1, k1, k2, k3, k4⟩ := pairs_cells ht he hi hce hci q1
    simp only [List.cons.injEq, and_true] at e0 e1
    exact ⟨n, A, l, c, q, by rw [e0, e1], k1, k2, k3, k4⟩
end Go.Proofs.YtamifocfbcmfkaaDoor.LattP

/- Loops that keep a part of the table; elements of slices of records. Conditions: none; plain lemmas. -/
import Derived.Test.YtdbeiaohibgmeaaEngRows
set_option linter.unusedVariables false
set_option linter.unusedSimpArgs false
namespace Go.Proofs.Ytdbeiaohibgmeaa.E
open Go.RowKit
/-- the slots that are kept -/
def keepO : List Nat → Tab → Option Tab
  | [], _ => some []
  | k :: ks, f => match f.get k with
    | some v => (match keepO ks f with | some t => some ((k, v) :: t) | none => none)
    | none => none
theorem keepO_get : ∀ {ks : List Nat} {f t : Tab}, keepO ks f = some t → ∀ i v, t.get i = some v → f.get i = some v
  | [], f, t, h, i, v, hi => by
    simp only [keepO, Option.some.injEq] at h
    subst h
    simp [Tab.get] at hi
  | k :: ks, f, t, h, i, v, hi => by
    unfold keepO at h
    split at h
    · rename_i u hu
      split at h
      · rename_i t' ht
        simp only [Option.some.injEq] at h
        subst h
        unfold Tab.get at hi
        cases hb : Nat.beq i k with
        | true =>
          rw [hb] at hi
          simp only [cond_true, Option.some.injEq] at hi
          have := Nat.eq_of_beq_eq_true hb
          subst this
          subst hi
          exact hu
        | false =>
          rw [hb] at hi
          exact keepO_get ht i v hi
      · cases h
    · cases h
theorem appTab_get : ∀ {a b f : Tab}, (∀ i v, a.get i = some v → f.get i = some v) → (∀ i v, b.get i = some v → f.get i = some v) → ∀ i v, Tab.get (a ++ b) i = some v → f.get i = some v
  | [], b, f, _, hb, i, v, hi => hb i v hi
  | (k, u) :: a, b, f, ha, hb, i, v, hi => by
    rw [List.cons_append] at hi
    unfold Tab.get at hi
    cases hq : Nat.beq i k with
    | true =>
      rw [hq] at hi
      refine ha i v ?_
      unfold Tab.get
      rw [hq]
      exact hi
    | false =>
      rw [hq] at hi
      by_cases hx : ∃ x, Tab.get ((k, u) :: a) i = some x
      · obtain ⟨x, hx⟩ := hx
        have hx2 : Tab.get a i = some x := by
          unfold Tab.get at hx
          rw [hq] at hx
          exact hx
        have h1 := ha i x hx
        have h2 : ∀ (a : Tab), Tab.get a i = some x → Tab.get (a ++ b) i = some x := fun a => by
          induction a with
          | nil => intro h; simp [Tab.get] at h
          | cons y t ih =>
            obtain ⟨k', u'⟩ := y
            intro h
            rw [List.cons_append]
            unfold Tab.get at h ⊢
            cases hq' : Nat.beq i k' with
            | true => rw [hq'] at h; exact h
            | false => rw [hq'] at h; exact ih h
        have h3 := h2 a hx2
        have h4 : Tab.get (a ++ b) i = some v := hi
        rw [h3] at h4
        rw [← h4]
        exact h1
      · have h2 : ∀ (a : Tab), Tab.get a i = none → Tab.get (a ++ b) i = Tab.get b i := fun a => by
          induction a with
          | nil => intro _; rfl
          | cons y t ih =>
            obtain ⟨k', u'⟩ := y
            intro h
            rw [List.cons_append]
            unfold Tab.get at h
            conv => lhs; unfold Tab.get
            cases hq' : Nat.beq i k' with
            | true => rw [hq'] at h; cases h
            | false => rw [hq'] at h; exact ih h
        have hn : Tab.get a i = none := by
          cases hy : Tab.get a i with
          | none => rfl
          | some y =>
            refine absurd ⟨y, ?_⟩ hx
            unfold Tab.get
            rw [hq]
            exact hy
        have h4 : Tab.get (a ++ b) i = some v := hi
        rw [h2 a hn] at h4
        exact hb i v h4
theorem Holds.weakG {n : Nat} {D : List Deferred} {f f' : Tab} {a : Act} (h : Holds n D f a) (hl : ∀ i v, f'.get i = some v → f.get i = some v) : Holds n D f' a := ⟨h.size, h.defers, fun i v hi => h.get i v (hl i v hi)⟩
section
variable {m : Md} {P : Program} {ops : Array Oper} {Q : Exit → Act → World → Prop} {n : Nat} {D : List Deferred} {w0 : World} {M : List Nat} {h0 : Hp}
variable {f : Tab} {h : Hp} {H : List Res} {rest : List Oper} {o : Oper}
theorem cy_loopK {ι : Type} {c : Code} {base : Tab} (ks : List Nat) (hk : keepO ks f = some base) (J : ι → Prop) (μ : ι → Nat) (F : ι → Tab) (G : ι → Hp) (R : ι → List Res) (i0 : ι) (is : List Nat) (hJ : J i0) (hF : Tab.Le (F i0) f) (hG : G i0 = h) (hR : selR is H = some (R i0))
    (round : ∀ i, J i → Cy P c (Exit.then (Round J μ (fun i => F i ++ base) G R n D w0 M h0 i) Q) n D w0 M h0 (F i ++ base) (G i) (R i)) : Cy P (.loop c) Q n D w0 M h0 f h H := by
  intro a w ha hs
  refine wp_loop_ghost (fun k a w => ∃ i, J i ∧ μ i = k ∧ Holds n D (F i ++ base) a ∧ St w0 M h0 (G i) (R i) w) (μ i0) ⟨i0, hJ, rfl, ha.weakG (appTab_get hF.get (keepO_get hk)), by rw [hG]; exact hs.sel hR⟩ ?_
  rintro k a w ⟨i, hi, rfl, ha, hs⟩
  refine wp_mono (round i hi a w ha hs) ?_
  intro e a' w' hq
  cases e with
  | normal =>
    obtain ⟨i', h1, h2, h3, h4⟩ := hq
    exact ⟨μ i', h2, i', h1, rfl, h3, h4⟩
  | exit id => exact hq
  | goto l => exact hq
  | ret => exact hq
  | panic ch => exact hq
  | outgrown => exact hq
theorem ny_roundK {ι : Type} {J : ι → Prop} {μ : ι → Nat} {F : ι → Tab} {base : Tab} {G : ι → Hp} {R : ι → List Res} {i : ι} (ks : List Nat) (i' : ι) (is : List Nat) (hJ : J i') (hμ : μ i' < μ i) (hk : keepO ks f = some base) (hF : Tab.Le (F i') f) (hG : G i' = h) (hR : selR is H = some (R i')) :
    Ny (Exit.then (Round J μ (fun i => F i ++ base) G R n D w0 M h0 i) Q) .normal n D w0 M h0 f h H := fun a w ha hs => ⟨i', hJ, hμ, ha.weakG (appTab_get hF.get (keepO_get hk)), by rw [hG]; exact hs.sel hR⟩
theorem cy_keep {c : Code} {f' : Tab} (ks : List Nat) (hk : keepO ks f = some f') (k : Cy P c Q n D w0 M h0 f' h H) : Cy P c Q n D w0 M h0 f h H := fun a w ha hs => k a w (ha.weakG (keepO_get hk)) hs
theorem cy_jumpsK {ι : Type} {rest' : Code} {base : Tab} {l : Nat} (ks : List Nat) (hk : keepO ks f = some base) (J : ι → Prop) (μ : ι → Nat) (F : ι → Tab) (G : ι → Hp) (R : ι → List Res) (i0 : ι) (is : List Nat) (hf : findLabel (.seq (.label l) rest') l = some (.seq .skip rest')) (hJ : J i0) (hF : Tab.Le (F i0) f) (hG : G i0 = h) (hR : selR is H = some (R i0))
    (pass : ∀ i, J i → Cy P rest' (Exit.jump l (Round J μ (fun i => F i ++ base) G R n D w0 M h0 i) Q) n D w0 M h0 (F i ++ base) (G i) (R i)) : Cy P (.scope (.seq (.label l) rest')) Q n D w0 M h0 f h H := by
  classical
  intro a w ha hs
  let Z : Act → World → Nat → Prop := fun a w k => ∃ i, J i ∧ μ i = k ∧ Holds n D (F i ++ base) a ∧ St w0 M h0 (G i) (R i) w
  let mu : Act → World → Nat := fun a w => if hx : ∃ k, Z a w k then Classical.choose (leastNat hx) else 0
  have mule : ∀ a w k, Z a w k → mu a w ≤ k := fun a w k hk => by
    have hx : ∃ k, Z a w k := ⟨k, hk⟩
    simp only [mu, dif_pos hx]
    exact (Classical.choose_spec (leastNat hx)).2 k hk
  have muat : ∀ a w, (∃ k, Z a w k) → Z a w (mu a w) := fun a w hx => by
    simp only [mu, dif_pos hx]
    exact (Classical.choose_spec (leastNat hx)).1
  refine wp_scope_jumps l (fun a w => ∃ k, Z a w k) mu hf ?_ ?_
  · refine wp_seq (wp_label ?_)
    refine wp_mono (pass i0 hJ a w (ha.weakG (appTab_get hF.get (keepO_get hk))) (by rw [hG]; exact hs.sel hR)) ?_
    intro e a' w' hq
    cases e with
    | goto l' =>
      obtain ⟨hl, i', h1, h2, h3, h4⟩ := hq
      exact ⟨hl, μ i', i', h1, rfl, h3, h4⟩
    | normal => exact hq
    | exit id => exact hq
    | ret => exact hq
    | panic ch => exact hq
    | outgrown => exact hq
  · intro a w hx
    obtain ⟨i, h1, h2, h3, h4⟩ := muat a w hx
    refine wp_seq (wp_skip ?_)
    refine wp_mono (pass i h1 a w h3 h4) ?_
    intro e a' w' hq
    cases e with
    | goto l' =>
      obtain ⟨hl, i', k1, k2, k3, k4⟩ := hq
      have k5 : Z a' w' (μ i') := ⟨i', k1, rfl, k3, k4⟩
      exact ⟨hl, ⟨_, k5⟩, Nat.lt_of_le_of_lt (mule a' w' _ k5) (by rw [← h2]; exact k2)⟩
    | normal => exact hq
    | exit id => exact hq
    | ret => exact hq
    | panic ch => exact hq
    | outgrown => exact hq
theorem ny_jumpK {ι : Type} {l : Nat} {J : ι → Prop} {μ : ι → Nat} {F : ι → Tab} {base : Tab} {G : ι → Hp} {R : ι → List Res} {i : ι} (ks : List Nat) (i' : ι) (is : List Nat) (hJ : J i') (hμ : μ i' < μ i) (hk : keepO ks f = some base) (hF : Tab.Le (F i') f) (hG : G i' = h) (hR : selR is H = some (R i')) :
    Ny (Exit.jump l (Round J μ (fun i => F i ++ base) G R n D w0 M h0 i) Q) (.goto l) n D w0 M h0 f h H := fun a w ha hs => ⟨rfl, i', hJ, hμ, ha.weakG (appTab_get hF.get (keepO_get hk)), by rw [hG]; exact hs.sel hR⟩
end
section
variable {m : Md} {P : Program} {ops : Array Oper} {Q : Exit → Act → World → Prop} {n : Nat} {D : List Deferred} {w0 : World} {M : List Nat} {h0 : Hp}
variable {f : Tab} {h : Hp} {H : List Res} {rest : List Oper} {o : Oper} {d t s : Nat} {p : String} {af : Array Edge} {g : Option (Nat × Bool)}
/-- the address of an element of a slice of records -/
theorem sy_idxR {α : Type} {fc : α → List Value} {es : List α} {x y : Operand} {A : Option Addr} {len cap e sz i : Nat} {ik : IntKind} (hs : elsB P s e sz = true) (hx : f.ev x = some (.slice A len cap)) (hy : f.ev y = some (.int ik (i : Int))) (hp : RowsAt h A sz (es.map fc)) (hlen : es.length = len) (hi : i < len)
    (hw : gok ops f g = some true) (hn : Nat.blt d n = true)
    (k : ∀ e b off, es[i]? = some e → A = some ⟨b, off, none⟩ → (∀ jj v, (fc e)[jj]? = some v → h.cell ⟨b, off + i * sz + jj, none⟩ = some v) → Sy m P ops Q n D w0 M h0 rest ((d, .pointer (some ⟨b, off + i * sz, none⟩)) :: f) h H) :
    Sy m P ops Q n D w0 M h0 (⟨some d, .indexAddr s x y, t, p, af, g⟩ :: rest) f h H := by
  have he : es[i]? = some (es[i]'(by omega)) := List.getElem?_eq_getElem (by omega)
  have hc : (es.map fc)[i]? = some (fc (es[i]'(by omega))) := by rw [List.getElem?_map, he]; rfl
  obtain ⟨b, off, rfl, h2⟩ := hp i _ hc
  have := k _ b off he rfl h2
  exact sy_idxS (i := (i : Int)) hs hx hy (by omega) (by omega) hw hn this
end
end Go.Proofs.Ytdbeiaohibgmeaa.E

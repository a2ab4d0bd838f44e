/- Slices of records, texts, events and grants handed in, as they lie in memory, and that they fit. Conditions: none; plain lemmas. -/
import Derived.Test.YtamifocfbcmfkaaDoorEngRows
import Derived.Test.YtamifocfbcmfkaaDoorRow
import Derived.Deep.Slices
set_option linter.unusedVariables false
set_option linter.unusedSimpArgs false
namespace Go.Proofs.YtamifocfbcmfkaaDoor.E
open Go.ChangeShapes Go.WideShapes Go.ChangeAt Go.RowKit
/-- Each part of a datum fits in memory. -/
def Wt {H : Type} (P : Program) (t : TypeId) (d : DataW H) : Prop := ∀ x ∈ d.weights P t, x ≤ reachBytes
theorem wt_all {H : Type} {P : Program} {e : TypeId} : ∀ {ds : List (DataW H)}, (∀ x ∈ DataW.weightsAll P e ds, x ≤ reachBytes) → ∀ d ∈ ds, Wt P e d
  | [], _, d, hd => (List.not_mem_nil hd).elim
  | y :: ds, h, d, hd => by
    unfold DataW.weightsAll at h
    rcases List.mem_cons.1 hd with rfl | hd
    · exact fun x hx => h x (List.mem_append_left _ hx)
    · exact wt_all (fun x hx => h x (List.mem_append_right _ hx)) d hd
theorem wt_each {H : Type} {P : Program} : ∀ {ts : List TypeId} {ds : List (DataW H)}, (∀ x ∈ DataW.weightsEach P ts ds, x ≤ reachBytes) → ∀ (j : Nat) (t : TypeId) (d : DataW H), ts[j]? = some t → ds[j]? = some d → Wt P t d
  | [], _, _, j, t, d, ht, _ => by simp at ht
  | _ :: _, [], _, j, t, d, _, hd => by simp at hd
  | t0 :: ts, d0 :: ds, h, j, t, d, ht, hd => by
    unfold DataW.weightsEach at h
    cases j with
    | zero =>
      simp only [List.getElem?_cons_zero, Option.some.injEq] at ht hd
      subst ht hd
      exact fun x hx => h x (List.mem_append_left _ hx)
    | succ j => exact wt_each (fun x hx => h x (List.mem_append_right _ hx)) j t d (by simpa using ht) (by simpa using hd)
theorem wt_struct {H : Type} {P : Program} {t : TypeId} {fs : Array Field} {parts : List (DataW H)} (hs : P.underlying t = some (.struct fs)) (h : Wt P t (.agg parts))   : ∀ (j : Nat) (f : Field) (d : DataW H), fs[j]? = some f → parts[j]? = some d → Wt P f.type d := fun j f d hf hd => by
  unfold Wt at h
  unfold DataW.weights at h
  rw [hs] at h
  exact wt_each h j f.type d (by simp [hf]) hd
theorem wt_slice {H : Type} {P : Program} {t e : TypeId} {elems spare : List (DataW H)} (hs : P.underlying t = some (.slice e)) (h : Wt P t (.slice elems spare)) : elems.length * P.bytesOf e ≤ reachBytes ∧ ∀ d ∈ elems, Wt P e d := by
  unfold Wt at h
  unfold DataW.weights at h
  rw [hs] at h
  simp only at h
  refine ⟨Nat.le_trans (Nat.mul_le_mul_right _ (Nat.le_add_right _ _)) (h _ (List.mem_cons_self)), wt_all fun x hx => h x (List.mem_cons_of_mem _ (List.mem_append_left _ hx))⟩
theorem wt_string {H : Type} {P : Program} {t : TypeId} {bs : List UInt8} (h : Wt (H := H) P t (.lit (.string bs))) : bs.length ≤ reachBytes := h _ (by simp [DataW.weights])
theorem wt_of {H : Type} {P : Program} {ts : List TypeId} {ds : List (DataW H)} (h : (DataW.weightsEach P ts ds).all (· ≤ reachBytes) = true) : ∀ x ∈ DataW.weightsEach P ts ds, x ≤ reachBytes := fun x hx => by
  have := List.all_eq_true.1 h x hx
  simpa using this
theorem open_rows {H : Type} {enc : TypeId × Value → H} {P : Program} {W : World} {t e : TypeId} {sz fuel : Nat} {cs : List Value} {x : DataW H × List MemPlace} {α : Type} {fc : α → List Value} {good : α → Prop} (ht : P.underlying t = some (.slice e)) (hce : P.cellsOf e = sz) (hsz : 0 < sz)
    (hf : DataW.trod enc P W 0 (fun _ => true) true fuel t cs = some x) (hw : Wt P t x.1)
    (key : ∀ (n : Nat) (cs : List Value) (x : DataW H × List MemPlace), n < fuel → DataW.trod enc P W 0 (fun _ => true) true n e cs = some x → Wt P e x.1 → ∃ a, cs = fc a ∧ good a) :
    ∃ (A : Option Addr) (l c : Nat) (es : List α), cs = [.slice A l c] ∧ l ≤ c ∧ c ≤ maxLen ∧ es.length = l ∧ RowsAt (hpOf W) A sz (es.map fc) ∧ (∀ a ∈ es, good a) ∧ l * P.bytesOf e ≤ reachBytes := by
  classical
  rcases DataW.trod_slice ht hf with ⟨h0, h1⟩ | ⟨a, l, c, elems, rest, n, hn, h0, hx, _, hlc, hcm, hlen, hel, _, _⟩
  · subst h0
    exact ⟨none, 0, 0, [], rfl, Nat.le_refl _, by simp [maxLen], rfl, fun j x hj => by simp at hj, fun _ h => (List.not_mem_nil h).elim, by simp⟩
  · subst h0 hx
    obtain ⟨hw1, hw2⟩ := wt_slice ht hw
    have hk : ∀ i, i < l → ∃ y : α, good y ∧ (fc y).length = sz ∧ ∀ j u, (fc y)[j]? = some u → W.cell? ((a.add (i * sz)).add j) = some u := fun i hi => by
      have h2 := hel i hi
      have h3 : elems[i]? = some (elems[i]'(by omega)) := List.getElem?_eq_getElem _
      rw [h3, hce] at h2
      obtain ⟨cs', h4, h5⟩ := Option.bind_eq_some_iff.1 h2
      obtain ⟨_, h6, h7⟩ := World.cells?_some h4
      obtain ⟨y, rfl, hg⟩ := key n cs' _ (by omega) h5 (hw2 _ (List.mem_map.2 ⟨_, List.mem_of_getElem? h3, rfl⟩))
      exact ⟨y, hg, h6, fun j u hj => (h7 j (by have := (List.getElem?_eq_some_iff.1 hj).1; omega)).trans hj⟩
    refine ⟨some a, l, c, List.ofFn fun i : Fin l => Classical.choose (hk i.1 i.2), rfl, hlc, hcm, by simp, ?_, ?_, by simpa [hlen] using hw1⟩
    · intro j cs hj
      rw [List.getElem?_map, Option.map_eq_some_iff] at hj
      obtain ⟨y, hy, rfl⟩ := hj
      have hjl : j < l := by
        have := (List.getElem?_eq_some_iff.1 hy).1
        simpa using this
      have hye : y = Classical.choose (hk j hjl) := by
        have h8 := (List.getElem?_eq_some_iff.1 hy).2
        rw [List.getElem_ofFn] at h8
        exact h8.symm
      obtain ⟨_, g2, g3⟩ := Classical.choose_spec (hk j hjl)
      rw [← hye] at g2 g3
      have hsp : a.spot = none := by
        obtain ⟨y0, _, q2, q3⟩ := hk 0 (by omega)
        have h0 : (fc y0)[0]? = some ((fc y0)[0]'(by omega)) := List.getElem?_eq_getElem _
        have z0 := q3 0 _ h0
        have e0 : (a.add (0 * sz)).add 0 = a := by simp [Addr.add]
        rw [e0] at z0
        unfold World.cell? at z0
        split at z0
        · split at z0
          · cases z0
          · rename_i h11
            simpa using h11
        · cases z0
      obtain ⟨b, off, sp⟩ := a
      simp only at hsp
      subst hsp
      refine ⟨b, off, rfl, fun jj u hu => ?_⟩
      have := g3 jj u hu
      rw [Addr.add_at, Addr.add_at] at this
      exact this
    · intro y hy
      obtain ⟨i, rfl⟩ := List.mem_ofFn.1 hy
      exact (Classical.choose_spec (hk i.1 i.2)).1
theorem u16_of_wf {a : Int} (h : (Lit.int .u16 a).wf = true) : ∃ c : Nat, a = (c : Int) ∧ c < 65536 := by
  have hx : 0 ≤ a ∧ a ≤ 65535 := by simpa [Lit.wf, IntKind.min, IntKind.max, IntKind.signed, IntKind.bits] using h
  exact ⟨a.toNat, by omega, by omega⟩
/-- texts -/
theorem open_strs {H : Type} {enc : TypeId × Value → H} {P : Program} {W : World} {t e : TypeId} {fuel : Nat} {cs : List Value} {x : DataW H × List MemPlace} (ht : P.underlying t = some (.slice e)) (hce : P.cellsOf e = 1) (he : P.underlying e = some .string)
    (hf : DataW.trod enc P W 0 (fun _ => true) true fuel t cs = some x) (hw : Wt P t x.1) :
    ∃ (A : Option Addr) (l c : Nat) (ss : List ByteArray), cs = [.slice A l c] ∧ l ≤ c ∧ c ≤ maxLen ∧ ss.length = l ∧ RowsAt (hpOf W) A 1 (ss.map fun s => [Value.string s]) ∧ (∀ s ∈ ss, s.size ≤ reachBytes) ∧ l * P.bytesOf e ≤ reachBytes :=
  open_rows ht hce (by decide) hf hw fun n cs x _ h5 h6 => by
    obtain ⟨s, rfl, h7, _⟩ := DataW.trod_string he h5
    rw [h7] at h6
    have := wt_string h6
    exact ⟨s, rfl, by simpa using this⟩
end Go.Proofs.YtamifocfbcmfkaaDoor.E

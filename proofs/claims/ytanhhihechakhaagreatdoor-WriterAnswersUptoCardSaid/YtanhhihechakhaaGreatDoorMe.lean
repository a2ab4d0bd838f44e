/- The engine, the plain laws and the walks of this seat, part 5: what the functions answer. Conditions: as each says; printed by programs of this session. -/
import Derived.WideShapes
import Derived.Test.YtanhhihechakhaaGreatDoorMd
set_option linter.unusedVariables false
set_option linter.unusedSimpArgs false
namespace Go.Proofs.YtanhhihechakhaaGreatDoor
open Go.ChangeShapes Go.WideShapes Go.ChangeAt Go.RowKit Go.Proofs.YtanhhihechakhaaGreatDoor.E Go.Proofs.YtanhhihechakhaaGreatDoor.TermP Go.Proofs.YtanhhihechakhaaGreatDoor.WrP
theorem sum_bulk {H : Type} {α : Type} {fw : α → Nat} : ∀ {l : List α} {m : List (DataW H)}, l.length = m.length → (∀ (i : Nat) (y : α) (d : DataW H), l[i]? = some y → m[i]? = some d → fw y ≤ Rows.uptoBulk d) → (l.map fw).sum ≤ Rows.uptoBulkAll m
  | [], [], _, _ => Nat.zero_le _
  | x :: l, d :: m, h, hk => by
    have h1 := hk 0 x d rfl rfl
    have h2 := sum_bulk (fw := fw) (l := l) (m := m) (by simpa using h) (fun i y d hy hd => hk (i + 1) y d (by simpa using hy) (by simpa using hd))
    rw [List.map_cons, List.sum_cons]
    simp only [Rows.uptoBulkAll]
    omega
theorem bulk_agg {H : Type} {l : List (DataW H)} {j : Nat} {d : DataW H} (h : l[j]? = some d) : Rows.uptoBulk d ≤ Rows.uptoBulkAll l := bulk_mem (List.mem_of_getElem? h)
theorem wtGs_map : ∀ l : List GT, (l.map wtG).sum = wtGs l
  | [] => by rw [wtGs_nil]; rfl
  | t :: l => by rw [List.map_cons, List.sum_cons, wtGs_cons, wtGs_map l]
theorem bulk_two {H : Type} : ∀ {l : List (DataW H)} {i j : Nat} {d e : DataW H}, i < j → l[i]? = some d → l[j]? = some e → Rows.uptoBulk d + Rows.uptoBulk e ≤ Rows.uptoBulkAll l
  | [], i, j, d, e, _, hd, _ => by simp at hd
  | x :: l, 0, j + 1, d, e, _, hd, he => by
    simp only [List.getElem?_cons_zero, Option.some.injEq] at hd
    subst hd
    have := bulk_agg (l := l) (j := j) (by simpa using he)
    simp only [Rows.uptoBulkAll]
    omega
  | x :: l, i + 1, j + 1, d, e, h, hd, he => by
    have := bulk_two (l := l) (i := i) (j := j) (by omega) (by simpa using hd) (by simpa using he)
    simp only [Rows.uptoBulkAll]
    omega
theorem open_rowsW {H : Type} {enc : TypeId × Value → H} {P : Program} {W : World} {t e : TypeId} {sz fuel : Nat} {cs : List Value} {x : DataW H × List MemPlace} {α : Type} {fc : α → List Value} {good : α → Prop} {fw : α → Nat} (ht : P.underlying t = some (.slice e)) (hce : P.cellsOf e = sz) (hsz : 0 < sz)
    (hf : DataW.trod enc P W 0 (fun _ => true) true fuel t cs = some x) (hw : Wt P t x.1)
    (key : ∀ (n : Nat) (cs : List Value) (x : DataW H × List MemPlace), n < fuel → DataW.trod enc P W 0 (fun _ => true) true n e cs = some x → Wt P e x.1 → ∃ a, cs = fc a ∧ good a ∧ fw a ≤ Rows.uptoBulk x.1) :
    ∃ (A : Option Addr) (l c : Nat) (es : List α), cs = [.slice A l c] ∧ l ≤ c ∧ c ≤ maxLen ∧ es.length = l ∧ RowsAt (hpOf W) A sz (es.map fc) ∧ (∀ a ∈ es, good a) ∧ l * P.bytesOf e ≤ reachBytes ∧ (es.map fw).sum + 1 ≤ Rows.uptoBulk x.1 := by
  classical
  rcases DataW.trod_slice ht hf with ⟨h0, h1⟩ | ⟨a, l, c, elems, rest, n, hn, h0, hx, _, hlc, hcm, hlen, hel, _, _⟩
  · subst h0
    exact ⟨none, 0, 0, [], rfl, Nat.le_refl _, by simp [maxLen], rfl, fun j x hj => by simp at hj, fun _ h => (List.not_mem_nil h).elim, by simp, by rw [h1]; simp [Rows.uptoBulk]⟩
  · subst h0 hx
    obtain ⟨hw1, hw2⟩ := wt_slice ht hw
    have hk : ∀ i, i < l → ∃ y : α, good y ∧ (fc y).length = sz ∧ (∀ j u, (fc y)[j]? = some u → W.cell? ((a.add (i * sz)).add j) = some u) ∧ ∀ d, (elems.map (·.1))[i]? = some d → fw y ≤ Rows.uptoBulk d := fun i hi => by
      have h2 := hel i hi
      have h3 : elems[i]? = some (elems[i]'(by omega)) := List.getElem?_eq_getElem _
      rw [h3, hce] at h2
      obtain ⟨cs', h4, h5⟩ := Option.bind_eq_some_iff.1 h2
      obtain ⟨_, h6, h7⟩ := World.cells?_some h4
      obtain ⟨y, rfl, hg, hfw⟩ := key n cs' _ (by omega) h5 (hw2 _ (List.mem_map.2 ⟨_, List.mem_of_getElem? h3, rfl⟩))
      exact ⟨y, hg, h6, fun j u hj => (h7 j (by have := (List.getElem?_eq_some_iff.1 hj).1; omega)).trans hj, fun d hd => by
        rw [List.getElem?_map, h3] at hd
        rw [← Option.some.inj hd]
        exact hfw⟩
    refine ⟨some a, l, c, List.ofFn fun i : Fin l => Classical.choose (hk i.1 i.2), rfl, hlc, hcm, by simp, ?_, ?_, by simpa [hlen] using hw1, ?_⟩
    · intro j cs hj
      rw [List.getElem?_map, Option.map_eq_some_iff] at hj
      obtain ⟨y, hy, rfl⟩ := hj
      have hjl : j < l := by
        have := (List.getElem?_eq_some_iff.1 hy).1
        simpa using this
      have hye : y = Classical.choose (hk j hjl) := by
        have h8 := (List.getElem?_eq_some_iff.1 hy).2
        rw [List.getElem_ofFn] at h8
        exact h8.symm
      obtain ⟨_, g2, g3, _⟩ := Classical.choose_spec (hk j hjl)
      rw [← hye] at g2 g3
      have hsp : a.spot = none := by
        obtain ⟨y0, _, q2, q3, _⟩ := hk 0 (by omega)
        have h0 : (fc y0)[0]? = some ((fc y0)[0]'(by omega)) := List.getElem?_eq_getElem _
        have z0 := q3 0 _ h0
        have e0 : (a.add (0 * sz)).add 0 = a := by simp [Addr.add]
        rw [e0] at z0
        unfold World.cell? at z0
        split at z0
        · split at z0
          · cases z0
          · rename_i h11
            simpa using h11
        · cases z0
      obtain ⟨b, off, sp⟩ := a
      simp only at hsp
      subst hsp
      refine ⟨b, off, rfl, fun jj u hu => ?_⟩
      have := g3 jj u hu
      rw [Addr.add_at, Addr.add_at] at this
      exact this
    · intro y hy
      obtain ⟨i, rfl⟩ := List.mem_ofFn.1 hy
      exact (Classical.choose_spec (hk i.1 i.2)).1
    · have hs : ((List.ofFn fun i : Fin l => Classical.choose (hk i.1 i.2)).map fw).sum ≤ Rows.uptoBulkAll (elems.map (·.1)) := sum_bulk (by simp [hlen]) fun i y d hy hd => by
        have hil : i < l := by
          have := (List.getElem?_eq_some_iff.1 hy).1
          simpa using this
        have hye : y = Classical.choose (hk i hil) := by
          have h8 := (List.getElem?_eq_some_iff.1 hy).2
          rw [List.getElem_ofFn] at h8
          exact h8.symm
        rw [hye]
        exact (Classical.choose_spec (hk i hil)).2.2.2 d hd
      simp only [Rows.uptoBulk]
      omega
section
variable {H : Type} {enc : TypeId × Value → H} {P : Program} {W : World} {e i i2 s sl : TypeId} {f0 f1 f2 f3 : Field}
theorem tm_cellsW (hs : P.underlying e = some (.struct #[f0, f1, f2, f3])) (hc : P.cellsOf e = 4) (h0 : f0.type = i ∧ f0.offset = 0) (h1 : f1.type = i2 ∧ f1.offset = 1) (h2 : f2.type = s ∧ f2.offset = 2) (h3 : f3.type = sl ∧ f3.offset = 3)
    (hi : P.underlying i = some (.int .i64)) (hci : P.cellsOf i = 1) (hi2 : P.underlying i2 = some (.int .i64)) (hci2 : P.cellsOf i2 = 1) (hstr : P.underlying s = some .string) (hcs : P.cellsOf s = 1) (hsl : P.underlying sl = some (.slice e)) (hcl : P.cellsOf sl = 1) (hbe : P.bytesOf e = 56) :
    ∀ (fuel : Nat) (cs : List Value) (x : DataW H × List MemPlace), DataW.trod enc P W 0 (fun _ => true) true fuel e cs = some x → Wt P e x.1 → ∃ a : GT, cs = a.cells ∧ (Lies (hpOf W) a ∧ Fits a) ∧ wtG a ≤ Rows.uptoBulk x.1 := by
  intro fuel
  induction fuel using Nat.strongRecOn
  rename_i fuel ih
  intro cs x hf hw
  obtain ⟨xs, mm, hmm, hx, hl, hxl, hel⟩ := DataW.trod_struct hs hf
  rw [hc] at hl
  match cs, hl with
  | [c0, c1, c2, c3], _ =>
    have q0 := hel 0 f0 rfl
    have q1 := hel 1 f1 rfl
    have q2 := hel 2 f2 rfl
    have q3 := hel 3 f3 rfl
    simp only [h0.1, h0.2, h1.1, h1.2, h2.1, h2.2, h3.1, h3.2, hci, hci2, hcs, hcl, List.drop_zero, List.take_succ_cons, List.take_zero, List.drop_succ_cons] at q0 q1 q2 q3
    have hxl' : xs.length = 4 := hxl
    have r0 : xs[0]? = some (xs[0]'(by omega)) := List.getElem?_eq_getElem _
    have r1 : xs[1]? = some (xs[1]'(by omega)) := List.getElem?_eq_getElem _
    have r2 : xs[2]? = some (xs[2]'(by omega)) := List.getElem?_eq_getElem _
    have r3 : xs[3]? = some (xs[3]'(by omega)) := List.getElem?_eq_getElem _
    rw [r0] at q0
    rw [r1] at q1
    rw [r2] at q2
    rw [r3] at q3
    obtain ⟨k, e0, _, w0⟩ := DataW.trod_int hi q0
    obtain ⟨l, e1, _, w1⟩ := DataW.trod_int hi2 q1
    obtain ⟨t, e2, g2, _⟩ := DataW.trod_string hstr q2
    simp only [List.cons.injEq, and_true] at e0 e1 e2
    subst e0 e1 e2
    have hwp : Wt P e (.agg (xs.map (·.1))) := by rw [hx] at hw; exact hw
    have hw2 := wt_struct hs hwp 2 f2 (.lit (.string t.data.toList)) rfl (by rw [List.getElem?_map, r2, g2]; rfl)
    have h9 := wt_string hw2
    have h9' : t.size ≤ reachBytes := by simpa using h9
    have hw3 := wt_struct hs hwp 3 f3 (xs[3]'(by omega)).1 rfl (by rw [List.getElem?_map, r3]; rfl)
    rw [h3.1] at hw3
    obtain ⟨A, l3, c3', es, e3, hlc, _, hl3, hr, hg, hby, hwt⟩ := open_rowsW (fw := wtG) (fc := GT.cells) (good := fun a => Lies (hpOf W) a ∧ Fits a) hsl hc (by decide) q3 hw3 fun n cs x hn h5 h6 => ih n (by omega) cs x h5 h6
    simp only [List.cons.injEq, and_true] at e3
    subst e3 hl3
    simp only [reachBytes] at h9' hby
    rw [hbe] at hby
    have b0 := bounds_i64 w0
    have b1 := bounds_i64 w1
    have hb2 := bulk_two (l := xs.map (·.1)) (i := 2) (j := 3) (by decide) (by rw [List.getElem?_map, r2]; rfl) (by rw [List.getElem?_map, r3]; rfl)
    rw [g2] at hb2
    simp only [Rows.uptoBulk] at hb2
    have hts : t.data.toList.length = t.size := rfl
    exact ⟨.mk k l t A c3' es, rfl, ⟨.intro _ _ _ _ _ _ hlc hr (fun a ha => (hg a ha).1), .intro _ _ _ _ _ _ b0.1 b0.2 b1.1 b1.2 (by omega) (by omega) (fun a ha => (hg a ha).2)⟩, by
      rw [wtG_mk, ← wtGs_map, hx]
      simp only [Rows.uptoBulk]
      omega⟩
theorem open_tmW {b0 : Nat} {r : Go.Reach} {v : Value} {d : DataW H} {ps : List MemPlace} (hs : P.underlying e = some (.struct #[f0, f1, f2, f3])) (hc : P.cellsOf e = 4) (h0 : f0.type = i ∧ f0.offset = 0) (h1 : f1.type = i2 ∧ f1.offset = 1) (h2 : f2.type = s ∧ f2.offset = 2) (h3 : f3.type = sl ∧ f3.offset = 3)
    (hi : P.underlying i = some (.int .i64)) (hci : P.cellsOf i = 1) (hi2 : P.underlying i2 = some (.int .i64)) (hci2 : P.cellsOf i2 = 1) (hstr : P.underlying s = some .string) (hcs : P.cellsOf s = 1) (hsl : P.underlying sl = some (.slice e)) (hcl : P.cellsOf sl = 1) (hbe : P.bytesOf e = 56)
    (hval : Value.okWide P W r b0 e v) (h : DataW.Trod enc P W 0 (fun _ => true) true e v d ps) (hw : Wt P e d) : ∃ a : GT, v = .agg a.cells.toArray ∧ (Lies (hpOf W) a ∧ Fits a) ∧ wtG a ≤ Rows.uptoBulk d := by
  obtain ⟨cs, rfl, hsz⟩ := okWide_struct hs hval
  obtain ⟨fuel, hf⟩ := h
  obtain ⟨a, e1, hg⟩ := tm_cellsW hs hc h0 h1 h2 h3 hi hci hi2 hci2 hstr hcs hsl hcl hbe fuel _ _ hf hw
  refine ⟨a, ?_, hg⟩
  obtain ⟨csl⟩ := cs
  have e2 : csl = GT.cells a := e1
  rw [e2]
theorem open_tmsW {t : TypeId} {b0 : Nat} {r : Go.Reach} {v : Value} {d : DataW H} {ps : List MemPlace} (ht : P.underlying t = some (.slice e)) (hs : P.underlying e = some (.struct #[f0, f1, f2, f3])) (hc : P.cellsOf e = 4) (h0 : f0.type = i ∧ f0.offset = 0) (h1 : f1.type = i2 ∧ f1.offset = 1) (h2 : f2.type = s ∧ f2.offset = 2) (h3 : f3.type = sl ∧ f3.offset = 3)
    (hi : P.underlying i = some (.int .i64)) (hci : P.cellsOf i = 1) (hi2 : P.underlying i2 = some (.int .i64)) (hci2 : P.cellsOf i2 = 1) (hstr : P.underlying s = some .string) (hcs : P.cellsOf s = 1) (hsl : P.underlying sl = some (.slice e)) (hcl : P.cellsOf sl = 1) (hbe : P.bytesOf e = 56)
    (hval : Value.okWide P W r b0 t v) (h : DataW.Trod enc P W 0 (fun _ => true) true t v d ps) (hw : Wt P t d) : ∃ (A : Option Addr) (l c : Nat) (es : List GT), v = .slice A l c ∧ l ≤ c ∧ es.length = l ∧ RowsAt (hpOf W) A 4 (es.map GT.cells) ∧ (∀ a ∈ es, Lies (hpOf W) a ∧ Fits a) ∧ (es.map wtG).sum + 1 ≤ Rows.uptoBulk d := by
  obtain ⟨A, l, c, rfl⟩ := okWide_slice ht hval
  obtain ⟨fuel, hf⟩ := h
  obtain ⟨A', l', c', es, e1, hlc, _, hl, hr, hg, _, hwt⟩ := open_rowsW (fw := wtG) (fc := GT.cells) (good := fun a => Lies (hpOf W) a ∧ Fits a) ht hc (by decide) hf hw fun n cs x hn h5 h6 => tm_cellsW hs hc h0 h1 h2 h3 hi hci hi2 hci2 hstr hcs hsl hcl hbe n cs x h5 h6
  have e1 : [Value.slice A l c] = [.slice A' l' c'] := e1
  simp only [List.cons.injEq, Value.slice.injEq, and_true] at e1
  obtain ⟨rfl, rfl, rfl⟩ := e1
  exact ⟨A, l, c, es, rfl, hlc, hl, hr, hg, hwt⟩
theorem open_nmsW {t : TypeId} {b0 : Nat} {r : Go.Reach} {v : Value} {d : DataW H} {ps : List MemPlace} (ht : P.underlying t = some (.slice s)) (hstr : P.underlying s = some .string) (hcs : P.cellsOf s = 1)
    (hval : Value.okWide P W r b0 t v) (h : DataW.Trod enc P W 0 (fun _ => true) true t v d ps) (hw : Wt P t d) : ∃ (A : Option Addr) (l c : Nat) (es : List ByteArray), v = .slice A l c ∧ l ≤ c ∧ es.length = l ∧ RowsAt (hpOf W) A 1 (es.map strC) ∧ (es.map fun s => s.size + 1).sum + 1 ≤ Rows.uptoBulk d := by
  obtain ⟨A, l, c, rfl⟩ := okWide_slice ht hval
  obtain ⟨fuel, hf⟩ := h
  obtain ⟨A', l', c', es, e1, hlc, _, hl, hr, hg, _, hwt⟩ := open_rowsW (fw := fun s : ByteArray => s.size + 1) (fc := strC) (good := fun _ => True) ht hcs (by decide) hf hw fun n cs x _ h5 h6 => by
    obtain ⟨s, rfl, h7, _⟩ := DataW.trod_string hstr h5
    rw [h7]
    exact ⟨s, rfl, trivial, Nat.le_refl _⟩
  have e1 : [Value.slice A l c] = [.slice A' l' c'] := e1
  simp only [List.cons.injEq, Value.slice.injEq, and_true] at e1
  obtain ⟨rfl, rfl, rfl⟩ := e1
  exact ⟨A, l, c, es, rfl, hlc, hl, hr, hwt⟩
theorem len_sum {α : Type} {f : α → Nat} : ∀ (l : List α), (∀ a, 1 ≤ f a) → l.length ≤ (l.map f).sum
  | [], _ => Nat.zero_le _
  | x :: l, h => by
    have h1 := len_sum l h
    have h2 := h x
    rw [List.length_cons, List.map_cons, List.sum_cons]
    omega
theorem lenA_le : ∀ (l : List ByteArray), lenA l ≤ 5 * (l.map fun s => s.size + 1).sum
  | [] => Nat.zero_le _
  | x :: l => by
    have h1 := lenA_le l
    unfold lenA at h1 ⊢
    rw [List.map_cons, List.sum_cons, List.map_cons, List.sum_cons]
    omega
theorem lenV_le : ∀ (l : List GT), (∀ t ∈ l, Fits t) → lenV l ≤ 28 * (l.map wtG).sum
  | [], _ => Nat.zero_le _
  | x :: l, h => by
    have h1 := lenV_le l (fun t ht => h t (List.mem_cons_of_mem _ ht))
    have h2 := txt_len x (h x List.mem_cons_self)
    unfold lenV at h1 ⊢
    rw [List.map_cons, List.sum_cons, List.map_cons, List.sum_cons]
    omega
end
end Go.Proofs.YtanhhihechakhaaGreatDoor

/- The engine's rules where the owned blocks are a family: loads, stores, loops by permutation; slices made. Conditions: none; plain lemmas. -/
import Derived.Test.YtdbeiaohibgmeaaEngMore
set_option linter.unusedVariables false
set_option linter.unusedSimpArgs false
namespace Go.Proofs.Ytdbeiaohibgmeaa.E
open Go.RowKit
/-- L is H in another order, or less. -/
def SubP (L H : List Res) : Prop := ∃ H', H.Perm H' ∧ L.Sublist H'
theorem SubP.rfl' {H : List Res} : SubP H H := ⟨H, List.Perm.refl _, List.Sublist.refl _⟩
theorem SubP.perm {L H : List Res} (h : H.Perm L) : SubP L H := ⟨L, h, List.Sublist.refl _⟩
theorem St.subP {w0 : World} {M : List Nat} {h0 h : Hp} {H L : List Res} {w : World} (s : St w0 M h0 h H w) (hp : SubP L H) : St w0 M h0 h L w := by
  obtain ⟨H', h1, h2⟩ := hp
  exact (s.swap h1).perm h2
theorem range_perm {n a : Nat} (ha : a < n) (f f' : Nat → Res) (hne : ∀ k, k ≠ a → f' k = f k) : ∃ H1, ((List.range n).map f).Perm (f a :: H1) ∧ (f' a :: H1).Perm ((List.range n).map f') := by
  have h1 : (List.range n).Perm (a :: (List.range n).erase a) := List.perm_cons_erase (List.mem_range.2 ha)
  refine ⟨((List.range n).erase a).map f, by simpa using h1.map f, ?_⟩
  have h2 : ((List.range n).erase a).map f = ((List.range n).erase a).map f' := by
    apply List.map_congr_left
    intro k hk
    have : k ≠ a := by
      rintro rfl
      exact (List.Nodup.not_mem_erase (List.nodup_range)) hk
    exact (hne k this).symm
  rw [h2]
  simpa using (h1.map f').symm
section
variable {m : Md} {P : Program} {ops : Array Oper} {Q : Exit → Act → World → Prop} {n : Nat} {D : List Deferred} {w0 : World} {M : List Nat} {h0 : Hp}
variable {f : Tab} {h : Hp} {H : List Res} {rest : List Oper} {o : Oper}
section ops
variable {d t s : Nat} {p : String} {af : Array Edge} {g : Option (Nat × Bool)}
theorem sy_ldm {x : Operand} {b off e : Nat} {cs : List Value} {fr : Nat × Nat} {v : Value} (ht : oneB P t = true) (hx : f.ev x = some (.pointer (some ⟨b, off, none⟩))) (hm : Res.blk b (.cells cs.toArray e fr) ∈ H) (hc : cs[off]? = some v)
    (hw : gok ops f g = some true) (hn : Nat.blt d n = true) (k : Sy m P ops Q n D w0 M h0 rest ((d, v) :: f) h H) : Sy m P ops Q n D w0 M h0 (⟨some d, .load t x, s, p, af, g⟩ :: rest) f h H :=
  sy_ldv ht hx (fun w hs => by
    have h1 : w.heap[b]? = some (.cells cs.toArray e fr) := hs.ok _ hm
    simp [World.cell?, h1, hc]) hw hn k
theorem sy_stp {x y : Operand} {b off e : Nat} {v : Value} {vs cs cs' : List Value} {H1 H2 : List Res} (hx : f.ev x = some (.pointer (some ⟨b, off, none⟩))) (hy : f.ev y = some v) (hv : cellsO v = some vs) (h1 : ones vs = true)
    (hz : ∀ w, (sizeOf t).run P w = .ok vs.length w) (hp : H.Perm (.blk b (.cells cs.toArray e (0, 0)) :: H1)) (hc : off + vs.length ≤ cs.length) (hc' : cs.take off ++ vs ++ cs.drop (off + vs.length) = cs')
    (hp' : (Res.blk b (.cells cs'.toArray e (0, 0)) :: H1).Perm H2)
    (hw : gok ops f g = some true) (k : Sy .txt P ops Q n D w0 M h0 rest f h H2) : Sy .txt P ops Q n D w0 M h0 (⟨none, .store t x y, s, p, af, g⟩ :: rest) f h H :=
  sy_perm hp (sy_st 0 hx hy hv h1 hz rfl hc hc' hw (sy_perm hp' k))
def makeOk (P : Program) (s e bytes : Nat) (z0 : Value) : Prop := P.underlying s = some (.slice e) ∧ ∃ inf z, P.info? e = some inf ∧ inf.zero = some z ∧ inf.size = 1 ∧ inf.bytes = bytes ∧ z.cells = #[z0]
theorem sy_make {x y : Operand} {c e bytes : Nat} {z0 : Value} (hs : makeOk P s e bytes z0) (hx : f.ev x = some (.int .i64 (c : Int))) (hy : f.ev y = some (.int .i64 (c : Int))) (hby : bytes * c ≤ 281474976710656) (hcm : c ≤ maxLen) (hw : gok ops f g = some true) (hn : Nat.blt d n = true)
    (k : ∀ b, w0.heap.size ≤ b → b ∉ M → Sy .txt P ops Q n D w0 M h0 rest ((d, .slice (some ⟨b, 0, none⟩) c c) :: f) h (.blk b (.cells (List.replicate c z0).toArray e (0, 0)) :: H)) (hM : ∀ x ∈ M, x < w0.heap.size) :
    Sy .txt P ops Q n D w0 M h0 (⟨some d, .makeSlice s x y, t, p, af, g⟩ :: rest) f h H :=
  sy_op hw fun a w ha hst => by
    obtain ⟨h1, inf, z, h2, h3, h4, h5, h6⟩ := hs
    have h63' : (c : Int) ≤ 9223372036854775807 := by
      have h := hcm
      simp [maxLen] at h
      omega
    have hb' : (inf.bytes : Int) * (c : Int) ≤ 281474976710656 := by
      have h : ((inf.bytes * c : Nat) : Int) ≤ 281474976710656 := by rw [h5]; omega
      rwa [Int.natCast_mul] at h
    have hr := run_make (P := P) w s e inf z h1 h2 h3 .i64 .i64 c c (by omega) (Int.le_refl _) hb' h63'
    simp only [Int.toNat_natCast] at hr
    have hcells : madeCells z.cells (c * inf.size) = (List.replicate c z0).toArray := by
      apply Array.ext'
      rw [h6, h4, Nat.mul_one, toList_madeCells_one]
    rw [hcells] at hr
    have hrun : (execOp a.eval ⟨some d, .makeSlice s x y, t, p, af, g⟩).run P w = .ok (.value (.slice (some ⟨w.heap.size, 0, none⟩) c c)) (w.alloc (.cells (List.replicate c z0).toArray e)) := by
      simp [execOp, ha.ev hx, ha.ev hy, hr]
    unfold Oper.wp
    rw [hrun]
    exact k w.heap.size hst.frm.size (fun hx => by have := hM _ hx; have := hst.frm.size; omega) _ _ (ha.put d _ hn) (hst.alloc _)
end ops
theorem cy_subP {c : Code} {L : List Res} (hp : SubP L H) (k : Cy P c Q n D w0 M h0 f h L) : Cy P c Q n D w0 M h0 f h H := fun a w ha hs => k a w ha (hs.subP hp)
theorem cy_loopP {ι : Type} {c : Code} (J : ι → Prop) (μ : ι → Nat) (F : ι → Tab) (G : ι → Hp) (R : ι → List Res) (i0 : ι) (hJ : J i0) (hF : Tab.Le (F i0) f) (hG : G i0 = h) (hR : SubP (R i0) H)
    (round : ∀ i, J i → Cy P c (Exit.then (Round J μ F G R n D w0 M h0 i) Q) n D w0 M h0 (F i) (G i) (R i)) : Cy P (.loop c) Q n D w0 M h0 f h H := by
  refine cy_subP hR ?_
  have hsel : ∀ L : List Res, selR (List.replicate L.length 0) L = some L := fun L => by
    induction L with
    | nil => rfl
    | cons r t ih =>
      show selR (0 :: List.replicate t.length 0) (r :: t) = _
      unfold selR
      simp [pickR, ih]
  exact cy_loop J μ F G R i0 _ hJ hF hG (hsel _) round
theorem ny_roundP {ι : Type} {J : ι → Prop} {μ : ι → Nat} {F : ι → Tab} {G : ι → Hp} {R : ι → List Res} {i : ι} (i' : ι) (hJ : J i') (hμ : μ i' < μ i) (hF : Tab.Le (F i') f) (hG : G i' = h) (hR : SubP (R i') H) :
    Ny (Exit.then (Round J μ F G R n D w0 M h0 i) Q) .normal n D w0 M h0 f h H := fun a w ha hs => ⟨i', hJ, hμ, ha.weak hF, by rw [hG]; exact hs.subP hR⟩
end
end Go.Proofs.Ytdbeiaohibgmeaa.E

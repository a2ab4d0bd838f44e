/- The engine's rules for memory, calls and code. Conditions: none; plain lemmas. -/
import Derived.Test.YtdbeiaohibgmeaaEngOps
import Derived.Maps.AppendAt
set_option linter.unusedVariables false
set_option linter.unusedSimpArgs false
namespace Go.Proofs.Ytdbeiaohibgmeaa.E
open Go.RowKit

def pickR : Nat → List Res → Option (Res × List Res)
  | _, [] => none
  | 0, r :: t => some (r, t)
  | i + 1, r :: t => match pickR i t with
    | some (x, t') => some (x, r :: t')
    | none => none
theorem pickR_perm : ∀ {i : Nat} {H : List Res} {r : Res} {H1 : List Res}, pickR i H = some (r, H1) → H.Perm (r :: H1)
  | _, [], _, _, h => by simp [pickR] at h
  | 0, r :: t, _, _, h => by
    simp only [pickR, Option.some.injEq, Prod.mk.injEq] at h
    obtain ⟨rfl, rfl⟩ := h
    exact List.Perm.refl _
  | i + 1, r :: t, x, H1, h => by
    unfold pickR at h
    split at h
    · rename_i y t' hy
      simp only [Option.some.injEq, Prod.mk.injEq] at h
      obtain ⟨rfl, rfl⟩ := h
      exact ((pickR_perm hy).cons r).trans (List.Perm.swap _ _ _)
    · cases h
/-- resources picked out, one after the other -/
def selR : List Nat → List Res → Option (List Res)
  | [], _ => some []
  | i :: is, H => match pickR i H with
    | some (r, t) => (match selR is t with | some l => some (r :: l) | none => none)
    | none => none
theorem selR_spec : ∀ {is : List Nat} {H L : List Res}, selR is H = some L → ∃ H', H.Perm H' ∧ L.Sublist H'
  | [], H, L, h => by
    simp only [selR, Option.some.injEq] at h
    subst h
    exact ⟨H, List.Perm.refl _, List.nil_sublist _⟩
  | i :: is, H, L, h => by
    unfold selR at h
    split at h
    · rename_i r t hp
      split at h
      · rename_i l hl
        simp only [Option.some.injEq] at h
        subst h
        obtain ⟨H', h1, h2⟩ := selR_spec hl
        exact ⟨r :: H', (pickR_perm hp).trans (h1.cons r), h2.cons_cons r⟩
      · cases h
    · cases h
theorem St.sel {w0 : World} {M : List Nat} {h0 h : Hp} {H L : List Res} {w : World} {is : List Nat} (s : St w0 M h0 h H w) (hs : selR is H = some L) : St w0 M h0 h L w := by
  obtain ⟨H', h1, h2⟩ := selR_spec hs
  exact (s.swap h1).perm h2
def takeO : Nat → List Value → Option (List Value)
  | 0, _ => some []
  | _ + 1, [] => none
  | n + 1, v :: t => match takeO n t with
    | some t' => some (v :: t')
    | none => none
def dropO : Nat → List Value → Option (List Value)
  | 0, l => some l
  | _ + 1, [] => none
  | n + 1, _ :: t => dropO n t
def sliceO (off n : Nat) (l : List Value) : Option (List Value) := match dropO off l with
  | some t => takeO n t
  | none => none
theorem takeO_spec : ∀ {n : Nat} {l t : List Value}, takeO n l = some t → t.length = n ∧ ∀ (j : Nat) (u : Value), t[j]? = some u → l[j]? = some u
  | 0, _, _, h => by
    simp only [takeO, Option.some.injEq] at h
    subst h
    simp
  | n + 1, [], _, h => by simp [takeO] at h
  | n + 1, v :: l, t, h => by
    unfold takeO at h
    split at h
    · rename_i t' ht
      simp only [Option.some.injEq] at h
      subst h
      obtain ⟨h1, h2⟩ := takeO_spec ht
      refine ⟨by simp [h1], fun j u hj => ?_⟩
      cases j with
      | zero => simpa using hj
      | succ j => exact h2 j u (by simpa using hj)
    · cases h
theorem dropO_spec : ∀ {n : Nat} {l t : List Value}, dropO n l = some t → ∀ j : Nat, t[j]? = l[n + j]?
  | 0, _, _, h, j => by
    simp only [dropO, Option.some.injEq] at h
    subst h
    simp
  | n + 1, [], _, h, _ => by simp [dropO] at h
  | n + 1, v :: l, t, h, j => by
    rw [dropO_spec (n := n) (l := l) h j, show n + 1 + j = (n + j) + 1 by omega, List.getElem?_cons_succ]
theorem sliceO_spec {off n : Nat} {l t : List Value} (h : sliceO off n l = some t) : t.length = n ∧ ∀ (j : Nat) (u : Value), t[j]? = some u → l[off + j]? = some u := by
  unfold sliceO at h
  split at h
  · rename_i t' ht
    obtain ⟨h1, h2⟩ := takeO_spec h
    exact ⟨h1, fun j u hj => by rw [← dropO_spec ht j]; exact h2 j u hj⟩
  · cases h
/-- cells laid over others from a place on -/
def putO : Nat → List Value → List Value → Option (List Value)
  | 0, [], l => some l
  | 0, v :: vs, _ :: l => (match putO 0 vs l with | some r => some (v :: r) | none => none)
  | 0, _ :: _, [] => none
  | _ + 1, _, [] => none
  | n + 1, vs, x :: l => (match putO n vs l with | some r => some (x :: r) | none => none)
theorem putO_spec : ∀ {n : Nat} {vs l r : List Value}, putO n vs l = some r → n + vs.length ≤ l.length ∧ l.take n ++ vs ++ l.drop (n + vs.length) = r
  | 0, [], l, r, h => by
    simp only [putO, Option.some.injEq] at h
    subst h
    simp
  | 0, v :: vs, [], r, h => by simp [putO] at h
  | 0, v :: vs, x :: l, r, h => by
    unfold putO at h
    split at h
    · rename_i r' hr
      simp only [Option.some.injEq] at h
      subst h
      obtain ⟨h1, h2⟩ := putO_spec hr
      refine ⟨by simp at h1 ⊢; omega, ?_⟩
      rw [← h2]
      simp
    · cases h
  | n + 1, vs, [], r, h => by simp [putO] at h
  | n + 1, vs, x :: l, r, h => by
    unfold putO at h
    split at h
    · rename_i r' hr
      simp only [Option.some.injEq] at h
      subst h
      obtain ⟨h1, h2⟩ := putO_spec hr
      refine ⟨by simp; omega, ?_⟩
      rw [← h2]
      simp [Nat.add_right_comm]
    · cases h
def cellsO : Value → Option (List Value)
  | .agg ⟨l⟩ => some l
  | .tuple _ => none
  | v => some [v]
theorem cellsO_spec {v : Value} {cs : List Value} (h : cellsO v = some cs) : v.cells = cs.toArray := by
  cases v <;> simp [cellsO] at h <;> first | (subst h; rfl)
def ones : List Value → Bool
  | [] => true
  | v :: t => v.oneCell' && ones t
theorem ones_spec : ∀ {l : List Value}, ones l = true → ∀ v ∈ l, v.oneCell' = true
  | [], _, _, h => by cases h
  | x :: t, h, v, hv => by
    simp only [ones, Bool.and_eq_true] at h
    rcases List.mem_cons.1 hv with rfl | hv
    · exact h.1
    · exact ones_spec h.2 v hv
/-- the cells of a type's zero value, as a Bool for the kernel -/
def zerL (P : Program) (t : Nat) : Option (List Value) := match P.info? t with
  | some i => (match i.zero with | some z => cellsO z | none => none)
  | none => none

section
variable {m : Md} {P : Program} {ops : Array Oper} {Q : Exit → Act → World → Prop} {n : Nat} {D : List Deferred} {w0 : World} {M : List Nat} {h0 : Hp}
variable {f : Tab} {h : Hp} {H : List Res} {rest : List Oper} {o : Oper}

theorem sy_perm {H' : List Res} (hp : H.Perm H') (k : Sy .txt P ops Q n D w0 M h0 rest f h H') : Sy .txt P ops Q n D w0 M h0 rest f h H := fun a w ha hs => k a w ha (hs.swap hp)
theorem cy_perm {c : Code} {H' : List Res} (hp : H.Perm H') (k : Cy P c Q n D w0 M h0 f h H') : Cy P c Q n D w0 M h0 f h H := fun a w ha hs => k a w ha (hs.swap hp)
theorem sy_drop {H' : List Res} (hp : H'.Sublist H) (k : Sy .txt P ops Q n D w0 M h0 rest f h H') : Sy .txt P ops Q n D w0 M h0 rest f h H := fun a w ha hs => k a w ha (hs.perm hp)
theorem cy_drop {c : Code} {H' : List Res} (hp : H'.Sublist H) (k : Cy P c Q n D w0 M h0 f h H') : Cy P c Q n D w0 M h0 f h H := fun a w ha hs => k a w ha (hs.perm hp)
theorem sy_sel {L : List Res} (is : List Nat) (hp : selR is H = some L) (k : Sy .txt P ops Q n D w0 M h0 rest f h L) : Sy .txt P ops Q n D w0 M h0 rest f h H := fun a w ha hs => k a w ha (hs.sel hp)
theorem cy_sel {c : Code} {L : List Res} (is : List Nat) (hp : selR is H = some L) (k : Cy P c Q n D w0 M h0 f h L) : Cy P c Q n D w0 M h0 f h H := fun a w ha hs => k a w ha (hs.sel hp)
theorem cy_nilRow {c : Code} (e size : Nat) (k : Cy P c Q n D w0 M h0 f h (.row (.slice none 0 0) e size 0 [] :: H)) : Cy P c Q n D w0 M h0 f h H := fun a w ha hs => k a w ha (hs.nilRow e size)
/-- Block i is given over to the ghost. -/
theorem frz {g : Nat} {o' : Obj} {H1 : List Res} {w : World} (i : Nat) (hp : pickR i H = some (.blk g o', H1)) (hM : g ∉ M) (hs : St w0 M h0 h H w) : ∃ h', h.Le h' ∧ h' g = some o' ∧ St w0 M h0 h' H1 w := by
  obtain ⟨h1, h2⟩ := (hs.swap (pickR_perm hp)).freeze hM
  exact ⟨_, h2, by simp, h1⟩
theorem sy_frz {g : Nat} {o' : Obj} {H1 : List Res} (i : Nat) (hp : pickR i H = some (.blk g o', H1)) (hM : g ∉ M) (k : ∀ h', h.Le h' → h' g = some o' → Sy .txt P ops Q n D w0 M h0 rest f h' H1) : Sy .txt P ops Q n D w0 M h0 rest f h H := fun a w ha hs => by
  obtain ⟨h', h1, h2, h3⟩ := frz i hp hM hs
  exact k h' h1 h2 a w ha h3
theorem cy_frz {c : Code} {g : Nat} {o' : Obj} {H1 : List Res} (i : Nat) (hp : pickR i H = some (.blk g o', H1)) (hM : g ∉ M) (k : ∀ h', h.Le h' → h' g = some o' → Cy P c Q n D w0 M h0 f h' H1) : Cy P c Q n D w0 M h0 f h H := fun a w ha hs => by
  obtain ⟨h', h1, h2, h3⟩ := frz i hp hM hs
  exact k h' h1 h2 a w ha h3
/-- Row i is given over to the ghost. -/
theorem frzRow {v : Value} {e size l : Nat} {xs : List Value} {H1 : List Res} {w : World} (i : Nat) (hp : pickR i H = some (.row v e size l xs, H1)) (hM : ∀ g, v.ownBlock = some g → g ∉ M) (hs : St w0 M h0 h H w) :
    ∃ A c h', v = .slice A l c ∧ l ≤ c ∧ c ≤ maxLen ∧ xs.length = l * size ∧ h.Le h' ∧ (∀ j u, xs[j]? = some u → ∃ g, A = some ⟨g, 0, none⟩ ∧ h'.cell ⟨g, j, none⟩ = some u) ∧ (0 < l → ∃ g, A = some ⟨g, 0, none⟩) ∧ St w0 M h0 h' H1 w := by
  have hs' := hs.swap (pickR_perm hp)
  have hr : w.ownsRow 0 e size v l xs := hs'.ok _ (List.mem_cons_self)
  obtain ⟨hlen, hr'⟩ := hr
  rcases hr' with ⟨rfl, rfl⟩ | ⟨g, cap, cur, rfl, _, hg, hnc, hcm, hcs, htk⟩
  · refine ⟨none, 0, h, rfl, Nat.le_refl _, by simp [maxLen], hlen, Hp.Le.refl h, fun j u hj => ?_, fun h => absurd h (by omega), hs'.perm (List.sublist_cons_self _ _)⟩
    have : xs = [] := List.eq_nil_of_length_eq_zero (by simpa using hlen)
    subst this
    simp at hj
  · have hst : St w0 M h0 h (.blk g (.cells cur e (0, 0)) :: H1) w :=
      { hs' with
        ok := fun r hr => by
          rcases List.mem_cons.1 hr with rfl | hr
          · exact hg
          · exact hs'.ok r (List.mem_cons_of_mem _ hr)
        own := fun r hr k hk => by
          rcases List.mem_cons.1 hr with rfl | hr
          · exact hs'.own _ (List.mem_cons_self) k hk
          · exact hs'.own r (List.mem_cons_of_mem _ hr) k hk
        dis := List.Pairwise.cons (fun r hr k hk => (List.pairwise_cons.1 hs'.dis).1 r hr k hk) (List.pairwise_cons.1 hs'.dis).2 }
    obtain ⟨h1, h2⟩ := hst.freeze (hM g rfl)
    refine ⟨_, cap, _, rfl, hnc, hcm, hlen, h2, fun j u hj => ⟨g, rfl, ?_⟩, fun _ => ⟨g, rfl⟩, h1⟩
    have : cur[j]? = some u := by
      rw [← htk, List.getElem?_take] at hj
      split at hj
      · simpa using hj
      · cases hj
    simp [Hp.cell, this]

section ops
variable {d t s : Nat} {p : String} {af : Array Edge} {g : Option (Nat × Bool)}

/-! loads -/
theorem sy_ldv {x : Operand} {b off : Nat} {v : Value} (ht : oneB P t = true) (hx : f.ev x = some (.pointer (some ⟨b, off, none⟩))) (hc : ∀ w, St w0 M h0 h H w → w.cell? ⟨b, off, none⟩ = some v)
    (hw : gok ops f g = some true) (hn : Nat.blt d n = true) (k : Sy m P ops Q n D w0 M h0 rest ((d, v) :: f) h H) : Sy m P ops Q n D w0 M h0 (⟨some d, .load t x, s, p, af, g⟩ :: rest) f h H :=
  sy_val hw rfl hn (fun a w ha hs => by simp [execOp, ha.ev hx, Instr.loadAt, Instr.sureAddr, loadVar, one_spec ht, hc w hs]) k
/-- .. from the ghost -/
theorem sy_ldh {x : Operand} {b off : Nat} {v : Value} (ht : oneB P t = true) (hx : f.ev x = some (.pointer (some ⟨b, off, none⟩))) (hc : h.cell ⟨b, off, none⟩ = some v)
    (hw : gok ops f g = some true) (hn : Nat.blt d n = true) (k : Sy m P ops Q n D w0 M h0 rest ((d, v) :: f) h H) : Sy m P ops Q n D w0 M h0 (⟨some d, .load t x, s, p, af, g⟩ :: rest) f h H :=
  sy_ldv ht hx (fun w hs => hs.sub.cell hc) hw hn k
/-- .. from an owned block -/
theorem sy_ldr {x : Operand} {b off e : Nat} {cs : List Value} {H1 : List Res} {fr : Nat × Nat} {v : Value} (i : Nat) (ht : oneB P t = true) (hx : f.ev x = some (.pointer (some ⟨b, off, none⟩))) (hp : pickR i H = some (.blk b (.cells cs.toArray e fr), H1)) (hc : cs[off]? = some v)
    (hw : gok ops f g = some true) (hn : Nat.blt d n = true) (k : Sy m P ops Q n D w0 M h0 rest ((d, v) :: f) h H) : Sy m P ops Q n D w0 M h0 (⟨some d, .load t x, s, p, af, g⟩ :: rest) f h H :=
  sy_ldv ht hx (fun w hs => by
    have h1 : w.heap[b]? = some (.cells cs.toArray e fr) := (hs.swap (pickR_perm hp)).ok _ (List.mem_cons_self)
    simp [World.cell?, h1, hc]) hw hn k
theorem sy_ldav {x : Operand} {b off l : Nat} {vs : List Value} (ht : aggB P t l = true) (hl : vs.length = l) (hx : f.ev x = some (.pointer (some ⟨b, off, none⟩))) (hc : ∀ w, St w0 M h0 h H w → ∀ j u, vs[j]? = some u → w.cell? ⟨b, off + j, none⟩ = some u)
    (hw : gok ops f g = some true) (hn : Nat.blt d n = true) (k : Sy m P ops Q n D w0 M h0 rest ((d, .agg vs.toArray) :: f) h H) : Sy m P ops Q n D w0 M h0 (⟨some d, .load t x, s, p, af, g⟩ :: rest) f h H :=
  sy_val hw rfl hn (fun a w ha hs => by
    obtain ⟨h1, h2⟩ := agg_spec ht w
    subst hl
    have h3 := run_loadCells_list (P := P) w ⟨b, off, none⟩ vs (fun j u hj => by rw [Addr.add_at]; exact hc w hs j u hj)
    simp [execOp, ha.ev hx, Instr.loadAt, Instr.sureAddr, loadVar, h1, h2, h3]) k
theorem sy_ldah {x : Operand} {b off l : Nat} {vs : List Value} (ht : aggB P t l = true) (hl : vs.length = l) (hx : f.ev x = some (.pointer (some ⟨b, off, none⟩))) (hc : ∀ j u, vs[j]? = some u → h.cell ⟨b, off + j, none⟩ = some u)
    (hw : gok ops f g = some true) (hn : Nat.blt d n = true) (k : Sy m P ops Q n D w0 M h0 rest ((d, .agg vs.toArray) :: f) h H) : Sy m P ops Q n D w0 M h0 (⟨some d, .load t x, s, p, af, g⟩ :: rest) f h H :=
  sy_ldav ht hl hx (fun w hs j u hj => hs.sub.cell (hc j u hj)) hw hn k
theorem sy_ldar {x : Operand} {b off l e : Nat} {cs vs : List Value} {H1 : List Res} {fr : Nat × Nat} (i : Nat) (ht : aggB P t l = true) (hx : f.ev x = some (.pointer (some ⟨b, off, none⟩))) (hp : pickR i H = some (.blk b (.cells cs.toArray e fr), H1)) (hc : sliceO off l cs = some vs)
    (hw : gok ops f g = some true) (hn : Nat.blt d n = true) (k : Sy m P ops Q n D w0 M h0 rest ((d, .agg vs.toArray) :: f) h H) : Sy m P ops Q n D w0 M h0 (⟨some d, .load t x, s, p, af, g⟩ :: rest) f h H :=
  sy_ldav ht (sliceO_spec hc).1 hx (fun w hs j u hj => by
    have h1 : w.heap[b]? = some (.cells cs.toArray e fr) := (hs.swap (pickR_perm hp)).ok _ (List.mem_cons_self)
    simp [World.cell?, h1, (sliceO_spec hc).2 j u hj]) hw hn k

/-! stores into an owned block -/
theorem sy_st {x y : Operand} {b off e : Nat} {v : Value} {vs cs cs' : List Value} {H1 : List Res} (i : Nat) (hx : f.ev x = some (.pointer (some ⟨b, off, none⟩))) (hy : f.ev y = some v) (hv : cellsO v = some vs) (h1 : ones vs = true)
    (hz : ∀ w, (sizeOf t).run P w = .ok vs.length w) (hp : pickR i H = some (.blk b (.cells cs.toArray e (0, 0)), H1)) (hc : off + vs.length ≤ cs.length) (hc' : cs.take off ++ vs ++ cs.drop (off + vs.length) = cs')
    (hw : gok ops f g = some true) (k : Sy .txt P ops Q n D w0 M h0 rest f h (.blk b (.cells cs'.toArray e (0, 0)) :: H1)) : Sy .txt P ops Q n D w0 M h0 (⟨none, .store t x y, s, p, af, g⟩ :: rest) f h H :=
  sy_op hw fun a w ha hs => by
    have hs' := hs.swap (pickR_perm hp)
    have hb : w.heap[b]? = some (.cells cs.toArray e (0, 0)) := hs'.ok _ (List.mem_cons_self)
    have hst := run_storeCells_at P b off e vs 0 cs.toArray w hb (by simpa using hc) (ones_spec h1)
    simp only [Nat.add_zero] at hst
    have hcells := cellsO_spec hv
    have hrun : (execOp a.eval ⟨none, .store t x y, s, p, af, g⟩).run P w = .ok .skip (w.setRow b cs'.toArray) := by
      have h2 : v.cells.size = vs.length := by rw [hcells]; simp
      have h3 : v.cells.toList = vs := by rw [hcells]
      simp [execOp, ha.ev hx, ha.ev hy, Instr.storeAt, Instr.sureAddr, storeVar, hz, h2, h3, hst, hc']
    unfold Oper.wp
    rw [hrun]
    refine k a _ ha (hs'.write (o' := .cells cs'.toArray e (0, 0)) ⟨rfl, rfl, rfl, by simp [World.setRow], fun j hj hm => setRow_other w b j _ (by simpa using hm)⟩ (setRow_heap w b cs.toArray _ e _ hb))
def szB (P : Program) (t sz : Nat) : Bool := match P.info? t with | some inf => inf.size == sz | none => false
theorem sz_spec {P : Program} {t sz : Nat} (h : szB P t sz = true) (w : World) : (sizeOf t).run P w = .ok sz w := by
  unfold szB at h
  split at h
  · rename_i inf hi
    have : inf.size = sz := by simpa using h
    simp [sizeOf, typeInfo, hi, this]
  · cases h
/-- .. whose cells are written out -/
theorem sy_stl {x y : Operand} {b off e sz : Nat} {v : Value} {vs cs cs' : List Value} {H1 : List Res} (i : Nat) (hz : szB P t sz = true) (hx : f.ev x = some (.pointer (some ⟨b, off, none⟩))) (hy : f.ev y = some v) (hv : cellsO v = some vs) (hvl : vs.length = sz) (h1 : ones vs = true)
    (hp : pickR i H = some (.blk b (.cells cs.toArray e (0, 0)), H1)) (hc : putO off vs cs = some cs')
    (hw : gok ops f g = some true) (k : Sy .txt P ops Q n D w0 M h0 rest f h (.blk b (.cells cs'.toArray e (0, 0)) :: H1)) : Sy .txt P ops Q n D w0 M h0 (⟨none, .store t x y, s, p, af, g⟩ :: rest) f h H :=
  sy_st i hx hy hv h1 (by rw [hvl]; exact sz_spec hz) hp (putO_spec hc).1 (putO_spec hc).2 hw k
/-- .. in a region that draws -/
theorem sy_stlH {E E1 : List Res} {x y : Operand} {b off e sz : Nat} {v : Value} {vs cs cs' : List Value} (i : Nat) (hl : loneB ops (ops.size - (rest.length + 1)) = true) (hz : szB P t sz = true) (hx : f.ev x = some (.pointer (some ⟨b, off, none⟩))) (hy : f.ev y = some v) (hv : cellsO v = some vs) (hvl : vs.length = sz) (h1 : ones vs = true)
    (hp : pickR i E = some (.blk b (.cells cs.toArray e (0, 0)), E1)) (hc : putO off vs cs = some cs')
    (hw : gok ops f g = some true) (k : Sy (.held (.blk b (.cells cs'.toArray e (0, 0)) :: E1)) P ops Q n D w0 M h0 rest f h H) : Sy (.held E) P ops Q n D w0 M h0 (⟨none, .store t x y, s, p, af, g⟩ :: rest) f h H :=
  sy_eff hl hw fun a w ha hs => by
    subst hvl
    have hs' : St w0 M h0 h (.blk b (.cells cs.toArray e (0, 0)) :: (E1 ++ H)) w := hs.swap ((pickR_perm hp).append_right H)
    have hb : w.heap[b]? = some (.cells cs.toArray e (0, 0)) := hs'.ok _ (List.mem_cons_self)
    have hc1 := (putO_spec hc).1
    have hst := run_storeCells_at P b off e vs 0 cs.toArray w hb (by simpa using hc1) (ones_spec h1)
    simp only [Nat.add_zero] at hst
    have hcells := cellsO_spec hv
    have hrun : (execOp a.eval ⟨none, .store t x y, s, p, af, g⟩).run P w = .ok .skip (w.setRow b cs'.toArray) := by
      have h2 : v.cells.size = vs.length := by rw [hcells]; simp
      have h3 : v.cells.toList = vs := by rw [hcells]
      simp [execOp, ha.ev hx, ha.ev hy, Instr.storeAt, Instr.sureAddr, storeVar, sz_spec hz, h2, h3, hst, (putO_spec hc).2]
    exact ⟨.skip, w.setRow b cs'.toArray, undef, .blk b (.cells cs'.toArray e (0, 0)) :: E1, f, hrun, .inr ⟨rfl, rfl⟩, ha, hs'.write (o' := .cells cs'.toArray e (0, 0)) ⟨rfl, rfl, rfl, by simp [World.setRow], fun j hj hm => setRow_other w b j _ (by simpa using hm)⟩ (setRow_heap w b cs.toArray _ e _ hb), k⟩

/-! new blocks -/
theorem zerL_spec {P : Program} {t : Nat} {zs : List Value} (h : zerL P t = some zs) (w : World) : ∃ z, (zeroValue t).run P w = .ok z w ∧ z.cells = zs.toArray := by
  unfold zerL at h
  split at h
  · rename_i i hi
    split at h
    · rename_i z hz
      exact ⟨z, by simp [zeroValue, typeInfo, hi, hz], cellsO_spec h⟩
    · cases h
  · cases h
theorem sy_alloc {zs : List Value} (hz : zerL P t = some zs) (hw : gok ops f g = some true) (hn : Nat.blt d n = true)
    (k : ∀ b, w0.heap.size ≤ b → b ∉ M → Sy .txt P ops Q n D w0 M h0 rest ((d, .pointer (some ⟨b, 0, none⟩)) :: f) h (.blk b (.cells zs.toArray t (0, 0)) :: H)) (hM : ∀ x ∈ M, x < w0.heap.size) :
    Sy .txt P ops Q n D w0 M h0 (⟨some d, .alloc t, s, p, af, g⟩ :: rest) f h H :=
  sy_op hw fun a w ha hs => by
    obtain ⟨z, h1, h2⟩ := zerL_spec hz w
    have hrun : (execOp a.eval ⟨some d, .alloc t, s, p, af, g⟩).run P w = .ok (.value (.pointer (some ⟨w.heap.size, 0, none⟩))) (w.alloc (.cells zs.toArray t)) := by
      simp [execOp, Instr.alloc, h1, newVar, newRow, h2]
    unfold Oper.wp
    rw [hrun]
    exact k w.heap.size hs.frm.size (fun hx => by have := hM _ hx; have := hs.frm.size; omega) _ _ (ha.put d _ hn) (hs.alloc _)
theorem sy_box {x : Operand} {v : Value} {cs : List Value} (hx : f.ev x = some v) (hv : cellsO v = some cs) (hw : gok ops f g = some true) (hn : Nat.blt d n = true)
    (k : ∀ b, w0.heap.size ≤ b → b ∉ M → Sy .txt P ops Q n D w0 M h0 rest ((d, .pointer (some ⟨b, 0, none⟩)) :: f) h (.blk b (.cells cs.toArray t (0, 0)) :: H)) (hM : ∀ x ∈ M, x < w0.heap.size) :
    Sy .txt P ops Q n D w0 M h0 (⟨some d, .box t x, s, p, af, g⟩ :: rest) f h H :=
  sy_op hw fun a w ha hs => by
    have h2 := cellsO_spec hv
    have hrun : (execOp a.eval ⟨some d, .box t x, s, p, af, g⟩).run P w = .ok (.value (.pointer (some ⟨w.heap.size, 0, none⟩))) (w.alloc (.cells cs.toArray t)) := by
      simp [execOp, Instr.box, ha.ev hx, newVar, newRow, h2]
    unfold Oper.wp
    rw [hrun]
    exact k w.heap.size hs.frm.size (fun hx => by have := hM _ hx; have := hs.frm.size; omega) _ _ (ha.put d _ hn) (hs.alloc _)

/-! structs, arrays and slices built -/
def partsO (f : Tab) : List (Nat × Operand) → Option (List (Nat × Value))
  | [] => some []
  | (i, x) :: r => match f.ev x with
    | some v => (match partsO f r with | some vs => some ((i, v) :: vs) | none => none)
    | none => none
theorem partsO_spec {D : List Deferred} {f : Tab} {a : Act} (ha : Holds n D f a) : ∀ {ps : List (Nat × Operand)} {vs : List (Nat × Value)}, partsO f ps = some vs → ps.map (fun q => (q.1, a.eval q.2)) = vs
  | [], vs, hx => by simpa [partsO] using hx
  | (i, x) :: r, vs, hx => by
    unfold partsO at hx
    split at hx
    · rename_i v hv
      split at hx
      · rename_i ws hws
        simp only [Option.some.injEq] at hx
        subst hx
        simp [ha.ev hv, partsO_spec ha hws]
      · cases hx
    · cases hx
theorem sy_build {ps : Array (Nat × Operand)} {vs : List (Nat × Value)} {v : Value} (hx : partsO f ps.toList = some vs) (hr : ∀ w, (Instr.build t vs.toArray).run P w = .ok v w) (hw : gok ops f g = some true) (hn : Nat.blt d n = true)
    (k : Sy m P ops Q n D w0 M h0 rest ((d, v) :: f) h H) : Sy m P ops Q n D w0 M h0 (⟨some d, .build t ps, s, p, af, g⟩ :: rest) f h H :=
  sy_val hw rfl hn (fun a w ha _ => by
    have h1 : (ps.map fun q => (q.1, a.eval q.2)) = vs.toArray := by
      rw [← partsO_spec ha hx]
      apply Array.ext'
      simp
    have h2 : (ps.map fun x => match x with | (i, x) => (i, a.eval x)) = vs.toArray := h1
    simp only [execOp, h2, Sem.run_bind, hr, Result.andThen_ok, Sem.run_pure]) k
theorem sy_buildSlice {ps : Array (Nat × Operand)} {vs : List (Nat × Value)} {cs : List Value} {e l : Nat} (hx : partsO f ps.toList = some vs)
    (hr : ∀ w, (Instr.buildSlice t l vs.toArray).run P w = .ok (.slice (some ⟨w.heap.size, 0, none⟩) l l) (w.alloc (.cells cs.toArray e))) (hw : gok ops f g = some true) (hn : Nat.blt d n = true)
    (k : ∀ b, w0.heap.size ≤ b → b ∉ M → Sy .txt P ops Q n D w0 M h0 rest ((d, .slice (some ⟨b, 0, none⟩) l l) :: f) h (.blk b (.cells cs.toArray e (0, 0)) :: H)) (hM : ∀ x ∈ M, x < w0.heap.size) :
    Sy .txt P ops Q n D w0 M h0 (⟨some d, .buildSlice t l ps, s, p, af, g⟩ :: rest) f h H :=
  sy_op hw fun a w ha hs => by
    have h1 : (ps.map fun q => (q.1, a.eval q.2)) = vs.toArray := by
      rw [← partsO_spec ha hx]
      apply Array.ext'
      simp
    have h2 : (ps.map fun x => match x with | (i, x) => (i, a.eval x)) = vs.toArray := h1
    have hrun : (execOp a.eval ⟨some d, .buildSlice t l ps, s, p, af, g⟩).run P w = .ok (.value (.slice (some ⟨w.heap.size, 0, none⟩) l l)) (w.alloc (.cells cs.toArray e)) := by
      simp only [execOp, h2, Sem.run_bind, hr, Result.andThen_ok, Sem.run_pure]
    unfold Oper.wp
    rw [hrun]
    exact k w.heap.size hs.frm.size (fun hx => by have := hM _ hx; have := hs.frm.size; omega) _ _ (ha.put d _ hn) (hs.alloc _)

/-! append of what lies in a block of one's own -/
def rowB (P : Program) (t e size bytes : Nat) : Bool :=
  (match P.underlying t with
  | some (.slice e') => e' == e
  | _ => false) && (match P.info? e with
  | some inf => inf.size == size && inf.bytes == bytes && (match inf.zero with | some z => z.cells.size == size | none => false)
  | none => false)
theorem row_spec {P : Program} {t e size bytes : Nat} (h : rowB P t e size bytes = true) : P.underlying t = some (.slice e) ∧ ∃ inf z, P.info? e = some inf ∧ inf.zero = some z ∧ inf.size = size ∧ inf.bytes = bytes ∧ z.cells.size = size := by
  unfold rowB at h
  rw [Bool.and_eq_true] at h
  obtain ⟨h1, h2⟩ := h
  constructor
  · split at h1
    · rename_i e' he
      have : e' = e := by simpa using h1
      rw [he, this]
    · cases h1
  · split at h2
    · rename_i inf hi
      rw [Bool.and_eq_true, Bool.and_eq_true] at h2
      obtain ⟨⟨h3, h4⟩, h5⟩ := h2
      split at h5
      · rename_i z hz
        exact ⟨inf, z, hi, hz, by simpa using h3, by simpa using h4, by simpa using h5⟩
      · cases h5
    · cases h2
theorem sy_append {x y : Operand} {v : Value} {e size bytes l mm c b : Nat} {xs cs news : List Value} {H1 : List Res} {e2 : Nat} {fr : Nat × Nat} {H2 : List Res} (i j : Nat) (hr : rowB P s e size bytes = true) (h0' : 0 < size)
    (hx : f.ev x = some v) (hp : pickR i H = some (.row v e size l xs, H1)) (hy : f.ev y = some (.slice (some ⟨b, 0, none⟩) mm c)) (hq : pickR j H = some (.blk b (.cells cs.toArray e2 fr), H2))
    (hnews : sliceO 0 (mm * size) cs = some news) (h1 : ones news = true) (hb : (l + mm) * bytes ≤ 140737488355328) (hlen : l + mm ≤ maxLen) (hw : gok ops f g = some true) (hn : Nat.blt d n = true)
    (k : ∀ v', Sy .txt P ops Q n D w0 M h0 rest ((d, v') :: f) h (.row v' e size (l + mm) (xs ++ news) :: H1)) :
    Sy .txt P ops Q n D w0 M h0 (⟨some d, .call ⟨.builtin .append, #[x, y], #[s, s]⟩, t, p, af, g⟩ :: rest) f h H :=
  sy_op hw fun a w ha hs => by
    obtain ⟨h2, inf, z, h3, h4, h5, h6, h7⟩ := row_spec hr
    have hs' := hs.swap (pickR_perm hp)
    have ho : w.ownsRow 0 e size v l xs := hs'.ok _ (List.mem_cons_self)
    have hbk : w.heap[b]? = some (.cells cs.toArray e2 fr) := (hs.swap (pickR_perm hq)).ok _ (List.mem_cons_self)
    obtain ⟨hl1, hl2⟩ := sliceO_spec hnews
    have hcell : ∀ jj u, news[jj]? = some u → w.cell? ((⟨b, 0, none⟩ : Addr).add jj) = some u := fun jj u hj => by
      rw [Addr.add_at]
      have := hl2 jj u hj
      simp only [Nat.zero_add] at this ⊢
      simp [World.cell?, hbk, this]
    obtain ⟨v', w', hrun, ho', hg, _, hat⟩ := run_append_own_at (P := P) w 0 s t e inf z size bytes h2 h3 h4 h5 h6 h7 h0' v l xs ho ⟨b, 0, none⟩ mm c news hl1 hcell (ones_spec h1) hlen hb (Nat.zero_le _)
    have hrun' : (execOp a.eval ⟨some d, .call ⟨.builtin .append, #[x, y], #[s, s]⟩, t, p, af, g⟩).run P w = .ok (.value v') w' := by
      simp only [execOp, resolve, invoke, builtin, Sem.run_bind, Sem.run_pure, Result.andThen_ok, List.map_toArray, List.map_cons, List.map_nil, ha.ev hx, ha.ev hy, hrun]
    unfold Oper.wp
    rw [hrun']
    refine k v' _ w' (ha.put d _ hn) (hs'.rowed hg ho' ?_)
    rcases hat with hat | hat
    · exact .inl hat
    · exact .inr (.inl ⟨_, hat, Nat.le_refl _⟩)
/-- an element of an array that is a value -/
def arraB (P : Program) (s len e sz : Nat) : Bool :=
  (match P.underlying s with
  | some (.array l e') => l == len && e' == e
  | _ => false) && aggB P e sz
theorem arra_spec {P : Program} {s len e sz : Nat} (h : arraB P s len e sz = true) : P.underlying s = some (.array len e) ∧ aggB P e sz = true := by
  unfold arraB at h
  rw [Bool.and_eq_true] at h
  obtain ⟨h1, h2⟩ := h
  refine ⟨?_, h2⟩
  split at h1
  · rename_i l e' he
    rw [Bool.and_eq_true] at h1
    rw [he, eq_of_beq h1.1, eq_of_beq h1.2]
  · cases h1
theorem part_agg {P : Program} {e sz off : Nat} {cs vs : List Value} (h : aggB P e sz = true) (hc : sliceO off sz cs = some vs) (w : World) : (part e cs.toArray off).run P w = .ok (.agg vs.toArray) w := by
  obtain ⟨h1, h2⟩ := agg_spec h w
  obtain ⟨h6, h7⟩ := sliceO_spec hc
  have h8 : cs.toArray.extract off (off + sz) = vs.toArray := by
    apply Array.ext'
    simp only [Array.toList_extract, List.extract_eq_take_drop]
    apply List.ext_getElem?
    intro j
    rw [show off + sz - off = sz by omega, List.getElem?_take]
    by_cases hj : j < sz
    · rw [if_pos hj]
      have h9 : vs[j]? = some (vs[j]'(by omega)) := List.getElem?_eq_getElem (by omega)
      rw [h9]
      simpa using h7 j _ h9
    · rw [if_neg hj]
      simp
      omega
  unfold part
  simp only [Sem.run_bind, h1, h2, Result.andThen_ok, if_true, Sem.run_pure, h8]
theorem sy_idxarr {x y : Operand} {cs vs : List Value} {len e sz : Nat} {ik : IntKind} {i : Int} (hs : arraB P s len e sz = true) (hx : f.ev x = some (.agg cs.toArray)) (hy : f.ev y = some (.int ik i)) (h0' : 0 ≤ i) (h1 : i < len)
    (hc : sliceO (i.toNat * sz) sz cs = some vs) (hw : gok ops f g = some true) (hn : Nat.blt d n = true)
    (k : Sy m P ops Q n D w0 M h0 rest ((d, .agg vs.toArray) :: f) h H) : Sy m P ops Q n D w0 M h0 (⟨some d, .index s x y, t, p, af, g⟩ :: rest) f h H := by
  obtain ⟨h2, h3⟩ := arra_spec hs
  refine sy_val hw rfl hn (fun a w ha _ => ?_) k
  simp [execOp, ha.ev hx, ha.ev hy, Instr.index, asIntOf, run_underlying h2, h0', h1, (agg_spec h3 w).2, part_agg h3 hc]
end ops
end
end Go.Proofs.Ytdbeiaohibgmeaa.E

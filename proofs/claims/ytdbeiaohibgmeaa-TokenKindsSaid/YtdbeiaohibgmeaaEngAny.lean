/- Regions that draw their order, whatever is in them: what only reads is taken first, of the rest each order is walked. Cuts. Conditions: none; plain lemmas. -/
import Derived.Test.YtdbeiaohibgmeaaEngLoop
set_option linter.unusedVariables false
set_option linter.unusedSimpArgs false
namespace Go.Proofs.Ytdbeiaohibgmeaa.E
open Go.RowKit
/-- those in 'done' have come up -/
def lsA (n : Nat) : List Nat → Array Bool
  | [] => Array.replicate n false
  | i :: done => (lsA n done).setIfInBounds i true
def freeB (ops : Array Oper) (done : List Nat) (i : Nat) : Bool := Region.noSelect ops && (Region.free .any ops (lsA ops.size done) i && (Region.ready .any ops (lsA ops.size done)).contains i)
def readyB (ops : Array Oper) (done rs : List Nat) : Bool := decide (Region.ready .any ops (lsA ops.size done) = rs)
structure Base (w0 : World) (h0 hC h : Hp) : Prop where
  l0 : h0.Le hC
  old : ∀ k, k < w0.heap.size → hC k = h0 k
  le : hC.Le h
section
variable {m : Md} {P : Program} {ops : Array Oper} {Q : Exit → Act → World → Prop} {n : Nat} {D : List Deferred} {w0 : World} {M : List Nat} {h0 hC : Hp}
variable {f : Tab} {h : Hp} {H : List Res} {rest : List Oper} {o : Oper} {cnt : Nat} {done : List Nat}
theorem St.class {w : World} (hs : St w0 M h0 h H w) (hB : Base w0 h0 hC h) : St w0 M h0 hC [] w :=
  { frm := hs.frm, sub := fun k o hk => hs.sub k o (hB.le k o hk), le := hB.l0, old := hB.old, ok := fun _ hr => (List.not_mem_nil hr).elim, own := fun _ hr => (List.not_mem_nil hr).elim, dis := List.Pairwise.nil }
def Zy (P : Program) (ops : Array Oper) (Q : Exit → Act → World → Prop) (n : Nat) (D : List Deferred) (w0 : World) (M : List Nat) (h0 hC : Hp) (cnt : Nat) (done : List Nat) (f : Tab) (h : Hp) (H : List Res) : Prop :=
  Base w0 h0 hC h → ∀ a w, Holds n D f a → St w0 M h0 h H w → wpAnyH P .any ops (NoPanic Q) (St w0 M h0 hC []) cnt (lsA ops.size done) a w
def QO (P : Program) (ops : Array Oper) (Q : Exit → Act → World → Prop) (w0 : World) (M : List Nat) (h0 hC : Hp) (cnt : Nat) (done : List Nat) (h : Hp) (H : List Res) : Exit → Act → World → Prop :=
  fun _ a _ => ∀ w, St w0 M h0 h H w → wpAnyH P .any ops (NoPanic Q) (St w0 M h0 hC []) cnt (lsA ops.size done) a w
def QZ (P : Program) (ops : Array Oper) (Q : Exit → Act → World → Prop) (w0 : World) (M : List Nat) (h0 hC : Hp) (cnt : Nat) (done : List Nat) : Exit → Act → World → Prop
  | .normal, a, w => St w0 M h0 hC [] w ∧ wpAnyH P .any ops (NoPanic Q) (St w0 M h0 hC []) cnt (lsA ops.size done) a w
  | e, a, w => NoPanic Q e a w
theorem cy_regionA {i : Nat} {l : List Oper} (hm : P.follows .mixedOrders = true) (k : Zy P l.toArray Q n D w0 M h0 h l.toArray.size [] f h H) : Cy P (.region i l.toArray true) Q n D w0 M h0 f h H :=
  fun a w ha hs => wp_region_noPanic (wp_region_held (S := St w0 M h0 h []) hm (k ⟨hs.le, hs.old, Hp.Le.refl _⟩ a _ ha hs.drawn))
theorem zy_done (hr : readyB ops done [] = true) (k : Ny Q .normal n D w0 M h0 f h H) : Zy P ops Q n D w0 M h0 hC cnt done f h H := fun hB a w ha hs =>
  wpAnyH_done (of_decide_eq_true hr) (NoPanic.normal (k a w ha hs)) _
/-- one that only reads what the ghost tells, or nothing -/
theorem zy_q (i : Nat) (ho : ops[i]? = some o) (hf : freeB ops done i = true) (k : Base w0 h0 hC h → Sy .one P ops (QO P ops Q w0 M h0 hC cnt (i :: done) h H) n D w0 M h0 [o] f hC []) : Zy P ops Q n D w0 M h0 hC (cnt + 1) done f h H := fun hB a w ha hs => by
  unfold freeB at hf
  rw [Bool.and_eq_true, Bool.and_eq_true] at hf
  obtain ⟨v, hy, h1⟩ := k hB a w ha (hs.class hB)
  exact wpAnyH_take ho hf.1 hf.2.1 hf.2.2 (fun c a w hq => hq.elim) hy (hs.class hB) (h1 w (hs.class hB) w hs)
theorem ny_zq (hB : Base w0 h0 hC h) (k : Zy P ops Q n D w0 M h0 hC cnt done f h H) : Ny (QO P ops Q w0 M h0 hC cnt done h H) .normal n D w0 M h0 f hC [] := fun a w ha hs w' hs' => k hB a w' ha hs'
/-- what comes up is carried out -/
def Zop (P : Program) (ops : Array Oper) (Q : Exit → Act → World → Prop) (n : Nat) (D : List Deferred) (w0 : World) (M : List Nat) (h0 hC : Hp) (cnt : Nat) (done : List Nat) (f : Tab) (h : Hp) (H : List Res) (i : Nat) : Prop :=
  Base w0 h0 hC h → ∀ a w, Holds n D f a → St w0 M h0 h H w → wpOp P ops (NoPanic Q) i (fun a' w' => St w0 M h0 hC [] w' ∧ wpAnyH P .any ops (NoPanic Q) (St w0 M h0 hC []) cnt (lsA ops.size (i :: done)) a' w') a w
theorem zy_1 (i : Nat) (hr : readyB ops done [i] = true) (k : Zop P ops Q n D w0 M h0 hC cnt done f h H i) : Zy P ops Q n D w0 M h0 hC (cnt + 1) done f h H := fun hB a w ha hs =>
  wpAnyH_all (of_decide_eq_true hr) (by simp) (fun j hj => by
    simp only [List.mem_singleton] at hj
    subst hj
    exact k hB a w ha hs)
theorem zy_2 (i j : Nat) (hr : readyB ops done [i, j] = true) (k : Zop P ops Q n D w0 M h0 hC cnt done f h H i) (k2 : Zop P ops Q n D w0 M h0 hC cnt done f h H j) : Zy P ops Q n D w0 M h0 hC (cnt + 1) done f h H := fun hB a w ha hs =>
  wpAnyH_all (of_decide_eq_true hr) (by simp) (fun x hx => by
    simp only [List.mem_cons, List.not_mem_nil, or_false] at hx
    rcases hx with rfl | rfl
    · exact k hB a w ha hs
    · exact k2 hB a w ha hs)
theorem zy_3 (i j l : Nat) (hr : readyB ops done [i, j, l] = true) (k : Zop P ops Q n D w0 M h0 hC cnt done f h H i) (k2 : Zop P ops Q n D w0 M h0 hC cnt done f h H j) (k3 : Zop P ops Q n D w0 M h0 hC cnt done f h H l) : Zy P ops Q n D w0 M h0 hC (cnt + 1) done f h H := fun hB a w ha hs =>
  wpAnyH_all (of_decide_eq_true hr) (by simp) (fun x hx => by
    simp only [List.mem_cons, List.not_mem_nil, or_false] at hx
    rcases hx with rfl | rfl | rfl
    · exact k hB a w ha hs
    · exact k2 hB a w ha hs
    · exact k3 hB a w ha hs)
theorem zop_run {i : Nat} (ho : ops[i]? = some o) (hw : gok ops f o.guard = some true) (k : Base w0 h0 hC h → Sy .txt P ops (QZ P ops Q w0 M h0 hC cnt (i :: done)) n D w0 M h0 [o] f h H) : Zop P ops Q n D w0 M h0 hC cnt done f h H i := fun hB a w ha hs => by
  have h1 := k hB a w ha hs
  unfold Wk wpList at h1
  rw [if_pos (gok_wanted ha hw)] at h1
  unfold wpOp
  simp only [ho]
  rw [if_pos (gok_wanted ha hw)]
  have hex : ∀ e a w, e ≠ .normal → QZ P ops Q w0 M h0 hC cnt (i :: done) e a w → NoPanic Q e a w := fun e a w he hq => by
    cases e with
    | normal => exact absurd rfl he
    | exit id => exact hq
    | goto l => exact hq
    | ret => exact hq
    | panic ch => exact hq
    | outgrown => exact hq
  have hlet : LetsOut (QZ P ops Q w0 M h0 hC cnt (i :: done)) → LetsOut (NoPanic Q) := fun ⟨a, w, hq⟩ => ⟨a, w, hq⟩
  rcases h1 with h1 | h1
  · refine .inl ?_
    unfold Oper.wp at h1 ⊢
    generalize (execOp a.eval o).run P w = r at h1 ⊢
    cases r with
    | ok n w' =>
      cases n <;> simp only [Oper.upon] at h1 ⊢ <;>
        first
          | exact h1
          | exact Calls.mono h1 (fun e w'' he => by cases e <;> first | exact hlet he | exact he)
          | exact Rows.mono h1 (fun _ _ he => he)
    | halt x w' => cases x <;> simp only [Oper.upon] at h1 ⊢ <;> exact h1
  · exact .inr ⟨h1.1, hlet h1.2⟩
theorem zop_skip {i d : Nat} (ho : ops[i]? = some o) (hw : gok ops f o.guard = some false) (hd : o.dst = some d) (hn : Nat.blt d n = true) (k : Zy P ops Q n D w0 M h0 hC cnt (i :: done) ((d, undef) :: f) h H) : Zop P ops Q n D w0 M h0 hC cnt done f h H i := fun hB a w ha hs => by
  unfold wpOp
  simp only [ho]
  rw [if_neg (by rw [gok_wanted ha hw]; simp), hd]
  exact ⟨hs.class hB, k hB _ w (ha.put d undef hn) hs⟩
theorem zop_skip0 {i : Nat} (ho : ops[i]? = some o) (hw : gok ops f o.guard = some false) (hd : o.dst = none) (k : Zy P ops Q n D w0 M h0 hC cnt (i :: done) f h H) : Zop P ops Q n D w0 M h0 hC cnt done f h H i := fun hB a w ha hs => by
  unfold wpOp
  simp only [ho]
  rw [if_neg (by rw [gok_wanted ha hw]; simp), hd]
  exact ⟨hs.class hB, k hB _ w ha hs⟩
theorem ny_zy {h' : Hp} {f' : Tab} {H' : List Res} (hB : Base w0 h0 hC h) (hle : h.Le h') (k : Zy P ops Q n D w0 M h0 hC cnt done f' h' H') : Ny (QZ P ops Q w0 M h0 hC cnt done) .normal n D w0 M h0 f' h' H' := fun a w ha hs => by
  have hB' : Base w0 h0 hC h' := ⟨hB.l0, hB.old, hB.le.trans hle⟩
  exact ⟨hs.class hB', k hB' a w ha hs⟩
theorem zy_cond {d : Nat} (e : Bool) (hd : f.get d = some (.bool e)) (hn : Nat.blt d n = true) (kt : e = true → Zy P ops Q n D w0 M h0 hC cnt done ((d, .bool true) :: f) h H) (kf : e = false → Zy P ops Q n D w0 M h0 hC cnt done ((d, .bool false) :: f) h H) :
    Zy P ops Q n D w0 M h0 hC cnt done f h H := fun hB a w ha hs => by
  have key : ∀ b : Bool, e = b → Holds n D ((d, .bool b) :: f) a := fun b hb => by
    subst hb
    refine ⟨ha.size, ha.defers, fun i v hi => ?_⟩
    unfold Tab.get at hi
    cases hbq : Nat.beq i d with
    | true =>
      rw [hbq] at hi
      simp only [cond_true, Option.some.injEq] at hi
      subst hi
      have := Nat.eq_of_beq_eq_true hbq
      subst this
      exact ha.get _ _ hd
    | false =>
      rw [hbq] at hi
      exact ha.get i v hi
  cases he : e with
  | true => exact kt he hB a w (key _ he) hs
  | false => exact kf he hB a w (key _ he) hs
theorem Hp.blk {b e : Nat} {fr : Nat × Nat} {cs : List Value} (hb : h b = some (.cells cs.toArray e fr)) : ∀ (j : Nat) (u : Value), cs[j]? = some u → h.cell ⟨b, 0 + j, none⟩ = some u := fun j u hj => by
  simp [Hp.cell, hb, hj]
/-! a cut: what lies behind is shown once -/
def Cut {ι : Type} (J : ι → Prop) (F : ι → Tab) (G : ι → Hp) (R : ι → List Res) (n : Nat) (D : List Deferred) (w0 : World) (M : List Nat) (h0 : Hp) : Act → World → Prop :=
  fun a w => ∃ i, J i ∧ Holds n D (F i) a ∧ St w0 M h0 (G i) (R i) w
theorem cy_cut {ι : Type} {x y : Code} {base : Tab} (ks : List Nat) (hk : keepO ks f = some base) (J : ι → Prop) (F : ι → Tab) (G : ι → Hp) (R : ι → List Res)
    (k1 : Cy P x (Exit.then (Cut J (fun i => F i ++ base) G R n D w0 M h0) Q) n D w0 M h0 f h H) (k2 : ∀ i, J i → Cy P y Q n D w0 M h0 (F i ++ base) (G i) (R i)) : Cy P (.seq x y) Q n D w0 M h0 f h H := fun a w ha hs =>
  wp_seq (wp_mono (k1 a w ha hs) fun e a' w' hq => by
    cases e with
    | normal =>
      obtain ⟨i, h1, h2, h3⟩ := hq
      exact k2 i h1 a' w' h2 h3
    | exit id => exact hq
    | goto l => exact hq
    | ret => exact hq
    | panic ch => exact hq
    | outgrown => exact hq)
theorem ny_cut {ι : Type} {J : ι → Prop} {F : ι → Tab} {base : Tab} {G : ι → Hp} {R : ι → List Res} (ks : List Nat) (i : ι) (is : List Nat) (hJ : J i) (hk : keepO ks f = some base) (hF : Tab.Le (F i) f) (hG : G i = h) (hR : selR is H = some (R i)) :
    Ny (Exit.then (Cut J (fun i => F i ++ base) G R n D w0 M h0) Q) .normal n D w0 M h0 f h H := fun a w ha hs => ⟨i, hJ, ha.weakG (appTab_get hF.get (keepO_get hk)), by rw [hG]; exact hs.sel hR⟩
end
end Go.Proofs.Ytdbeiaohibgmeaa.E

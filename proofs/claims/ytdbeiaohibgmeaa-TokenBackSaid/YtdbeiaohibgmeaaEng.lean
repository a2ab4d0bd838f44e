/- The engine: a symbolic state (a table of slots, a ghost heap, owned blocks and rows) and one rule for each operation. Conditions: none; plain lemmas. -/
import Derived.Below
import Derived.Deep.Quiet
import Derived.Deep.LoopGhost
import Derived.Laws.AppendOwn
import Derived.Laws.OwnMore
import Derived.Laws.MakeOwn
import Derived.Tactics2
import Derived.WalkKit
import Derived.KernelRfl
set_option linter.unusedVariables false
set_option linter.unusedSimpArgs false
namespace Go.Proofs.Ytdbeiaohibgmeaa.E
open Go.RowKit

/-! ### the table of slots -/
abbrev Tab := List (Nat × Value)
def Tab.get : Tab → Nat → Option Value
  | [], _ => none
  | (k, v) :: t, i => cond (Nat.beq i k) (some v) (Tab.get t i)
def Tab.ev (f : Tab) : Operand → Option Value
  | .tmp t => f.get t
  | .const v => some v
  | .global g => some (.pointer (some ⟨g, 0, none⟩))
  | .func n => some (.func (.func n) #[] #[])
def Tab.evs (f : Tab) : List Operand → Option (List Value)
  | [] => some []
  | x :: xs => match f.ev x with
    | some v => (match Tab.evs f xs with | some vs => some (v :: vs) | none => none)
    | none => none

structure Holds (n : Nat) (D : List Deferred) (f : Tab) (a : Act) : Prop where
  size : a.tmps.size = n
  defers : a.defers = D
  get : ∀ i v, f.get i = some v → a.tmps[i]? = some v

theorem Holds.ev {n : Nat} {D : List Deferred} {f : Tab} {a : Act} (h : Holds n D f a) {x : Operand} {v : Value} (hx : f.ev x = some v) : a.eval x = v := by
  cases x with
  | tmp t =>
    have := h.get t v hx
    simp [Act.eval, this]
  | const u => simpa [Tab.ev, Act.eval] using hx
  | global g => simpa [Tab.ev, Act.eval] using hx
  | func g => simpa [Tab.ev, Act.eval] using hx
theorem Holds.evs {n : Nat} {D : List Deferred} {f : Tab} {a : Act} (h : Holds n D f a) : ∀ {xs : List Operand} {vs : List Value}, f.evs xs = some vs → xs.map a.eval = vs
  | [], vs, hx => by simpa [Tab.evs] using hx
  | x :: xs, vs, hx => by
    unfold Tab.evs at hx
    split at hx
    · rename_i v hv
      split at hx
      · rename_i ws hws
        simp only [Option.some.injEq] at hx
        subst hx
        simp [h.ev hv, h.evs hws]
      · cases hx
    · cases hx

theorem Holds.put {n : Nat} {D : List Deferred} {f : Tab} {a : Act} (h : Holds n D f a) (d : Nat) (v : Value) (hd : Nat.blt d n = true) : Holds n D ((d, v) :: f) (a.put (some d) v) := by
  have hd' : d < a.tmps.size := by rw [h.size]; exact Nat.le_of_ble_eq_true hd
  refine ⟨by simp [Act.put, h.size], by simp [Act.put, h.defers], fun i u hi => ?_⟩
  simp only [Act.put, Array.getElem?_setIfInBounds]
  unfold Tab.get at hi
  by_cases e : i = d
  · subst e
    have : Nat.beq i i = true := Nat.beq_refl i
    rw [this] at hi
    simp only [cond_true, Option.some.injEq] at hi
    subst hi
    simp [hd']
  · have : Nat.beq i d = false := by
      cases hb : Nat.beq i d with
      | true => exact absurd (Nat.eq_of_beq_eq_true hb) e
      | false => rfl
    rw [this] at hi
    simp only [cond_false] at hi
    rw [if_neg (fun x => e x.symm)]
    exact h.get i u hi

/-- f' says no more than f. -/
def Tab.Le : Tab → Tab → Prop
  | [], _ => True
  | (k, v) :: t, f => f.get k = some v ∧ Tab.Le t f
theorem Tab.Le.get : ∀ {f' f : Tab}, Tab.Le f' f → ∀ i v, f'.get i = some v → f.get i = some v
  | [], _, _, _, _, hi => by simp [Tab.get] at hi
  | (k, u) :: t, f, h, i, v, hi => by
    unfold Tab.get at hi
    cases hb : Nat.beq i k with
    | true =>
      rw [hb] at hi
      simp only [cond_true, Option.some.injEq] at hi
      subst hi
      have := Nat.eq_of_beq_eq_true hb
      subst this
      exact h.1
    | false =>
      rw [hb] at hi
      exact h.2.get i v hi
theorem Holds.weak {n : Nat} {D : List Deferred} {f f' : Tab} {a : Act} (h : Holds n D f a) (hl : Tab.Le f' f) : Holds n D f' a :=
  ⟨h.size, h.defers, fun i v hi => h.get i v (hl.get i v hi)⟩

/-! ### the memory -/
abbrev Hp := Nat → Option Obj
def Hp.cell (h : Hp) (a : Addr) : Option Value :=
  match h a.block with
  | some (.cells c _ _) => if a.spot.isSome then none else c[a.off]?
  | _ => none
def Hp.Sub (h : Hp) (w : World) : Prop := ∀ k o, h k = some o → w.heap[k]? = some o
theorem Hp.Sub.cell {h : Hp} {w : World} (hs : h.Sub w) {a : Addr} {v : Value} (hc : h.cell a = some v) : w.cell? a = some v := by
  unfold Hp.cell at hc
  unfold World.cell?
  split at hc
  · rename_i c e fr hh
    rw [hs _ _ hh]
    exact hc
  · cases hc
/-- All of a world, as a ghost. -/
def hpOf (w : World) : Hp := fun k => w.heap[k]?
theorem hpOf_sub (w : World) : (hpOf w).Sub w := fun _ _ h => h
theorem hpOf_cell (w : World) (a : Addr) : (hpOf w).cell a = w.cell? a := rfl
def Hp.Le (h h' : Hp) : Prop := ∀ k o, h k = some o → h' k = some o
theorem Hp.Le.refl (h : Hp) : h.Le h := fun _ _ x => x
theorem Hp.Le.trans {a b c : Hp} (h : a.Le b) (k : b.Le c) : a.Le c := fun i o x => k i o (h i o x)
theorem Hp.Le.cell {h h' : Hp} (hl : h.Le h') {a : Addr} {v : Value} (hc : h.cell a = some v) : h'.cell a = some v := by
  unfold Hp.cell at hc ⊢
  split at hc
  · rename_i c e fr hh
    rw [hl _ _ hh]
    exact hc
  · cases hc

inductive Res where
  | blk (g : Nat) (o : Obj)
  | row (v : Value) (e : TypeId) (size n : Nat) (xs : List Value)
def Res.key : Res → Option Nat
  | .blk g _ => some g
  | .row v _ _ _ _ => v.ownBlock
def Res.Ok (w : World) : Res → Prop
  | .blk g o => w.heap[g]? = some o
  | .row v e size n xs => w.ownsRow 0 e size v n xs

structure Frm (w0 : World) (M : List Nat) (w : World) : Prop where
  os : w.os = w0.os
  tape : w.tape = w0.tape
  output : w.output = w0.output
  size : w0.heap.size ≤ w.heap.size
  block : ∀ k, k < w0.heap.size → k ∉ M → w.heap[k]? = w0.heap[k]?
theorem Frm.refl (w : World) (M : List Nat) : Frm w M w := ⟨rfl, rfl, rfl, Nat.le_refl _, fun _ _ _ => rfl⟩
theorem Frm.below {w w' : World} (h : Frm w [] w') : Below w.heap.size w w' := ⟨h.os, h.tape, h.output, h.size, fun k hk => h.block k hk (by simp)⟩
theorem Frm.of_below {w w' : World} (h : Below w.heap.size w w') : Frm w [] w' := ⟨h.os, h.tape, h.output, h.size, fun k hk _ => h.block k hk⟩
theorem Frm.trans {a b c : World} {M : List Nat} (h : Frm a M b) (k : Frm b [] c) : Frm a M c :=
  ⟨k.os.trans h.os, k.tape.trans h.tape, k.output.trans h.output, Nat.le_trans h.size k.size,
   fun i hi hm => (k.block i (Nat.lt_of_lt_of_le hi h.size) (by simp)).trans (h.block i hi hm)⟩
theorem Frm.transM {a b c : World} {M M' : List Nat} (h : Frm a M b) (k : Frm b M' c) (hM : ∀ x, x ∈ M' → a.heap.size ≤ x ∨ x ∈ M) : Frm a M c :=
  ⟨k.os.trans h.os, k.tape.trans h.tape, k.output.trans h.output, Nat.le_trans h.size k.size,
   fun i hi hm => (k.block i (Nat.lt_of_lt_of_le hi h.size) (fun hx => by rcases hM i hx with h1 | h1 <;> first | omega | exact hm h1)).trans (h.block i hi hm)⟩

structure St (w0 : World) (M : List Nat) (h0 h : Hp) (H : List Res) (w : World) : Prop where
  frm : Frm w0 M w
  sub : h.Sub w
  le : h0.Le h
  old : ∀ k, k < w0.heap.size → h k = h0 k
  ok : ∀ r ∈ H, r.Ok w
  own : ∀ r ∈ H, ∀ k, r.key = some k → h k = none ∧ (w0.heap.size ≤ k ∨ k ∈ M)
  dis : H.Pairwise (fun r s => ∀ k, r.key = some k → s.key ≠ some k)

theorem St.start {w : World} {h : Hp} (hs : h.Sub w) (M : List Nat) : St w M h h [] w :=
  ⟨Frm.refl w M, hs, Hp.Le.refl h, fun _ _ => rfl, fun _ hr => (List.not_mem_nil hr).elim, fun _ hr => (List.not_mem_nil hr).elim, List.Pairwise.nil⟩
theorem St.start1 {w : World} {h : Hp} (hs : h.Sub w) {g : Nat} {o : Obj} (hg : w.heap[g]? = some o) (hn : h g = none) : St w [g] h h [.blk g o] w :=
  ⟨Frm.refl w _, hs, Hp.Le.refl h, fun _ _ => rfl,
   fun r hr => by simp only [List.mem_singleton] at hr; subst hr; exact hg,
   fun r hr k hk => by
     simp only [List.mem_singleton] at hr
     subst hr
     simp only [Res.key, Option.some.injEq] at hk
     subst hk
     exact ⟨hn, .inr (by simp)⟩,
   by simp⟩

theorem Res.Ok.lt {w : World} {r : Res} (h : r.Ok w) {k : Nat} (hk : r.key = some k) : k < w.heap.size := by
  cases r with
  | blk g o =>
    simp only [Res.key, Option.some.injEq] at hk
    subst hk
    exact (Array.getElem?_eq_some_iff.1 h).1
  | row v e size n xs => exact (World.ownsRow.lt h k hk).2

theorem Res.Ok.keep {w w' : World} {r : Res} (h : r.Ok w) (hb : ∀ k, r.key = some k → w'.heap[k]? = w.heap[k]?) : r.Ok w' := by
  cases r with
  | blk g o => exact (hb g rfl).trans h
  | row v e size n xs =>
    refine ⟨h.1, ?_⟩
    rcases h.2 with h1 | ⟨g, cap, cur, rfl, h2, h3, h4⟩
    · exact .inl h1
    · refine .inr ⟨g, cap, cur, rfl, h2, (hb g rfl).trans h3, h4⟩

/-- Only new blocks, and draws: all stays. -/
theorem St.grow {w0 : World} {M : List Nat} {h0 h : Hp} {H : List Res} {w w' : World} (s : St w0 M h0 h H w) (hf : Frm w [] w') : St w0 M h0 h H w' where
  frm := s.frm.trans hf
  sub := fun k o hk => (hf.block k (Array.getElem?_eq_some_iff.1 (s.sub k o hk)).1 (by simp)).trans (s.sub k o hk)
  le := s.le
  old := s.old
  ok := fun r hr => Res.Ok.keep (s.ok r hr) fun k hk => hf.block k (Res.Ok.lt (s.ok r hr) hk) (by simp)
  own := s.own
  dis := s.dis

/-- What a call of a function that makes data leaves: the ghost has grown by new blocks. -/
structure Grow (h : Hp) (w : World) (h' : Hp) (w' : World) : Prop where
  frm : Frm w [] w'
  sub : h'.Sub w'
  le : h.Le h'
  old : ∀ k, k < w.heap.size → h' k = h k
theorem St.grow' {w0 : World} {M : List Nat} {h0 h h' : Hp} {H : List Res} {w w' : World} (s : St w0 M h0 h H w) (g : Grow h w h' w') : St w0 M h0 h' H w' where
  frm := s.frm.trans g.frm
  sub := g.sub
  le := s.le.trans g.le
  old := fun k hk => (g.old k (Nat.lt_of_lt_of_le hk s.frm.size)).trans (s.old k hk)
  ok := fun r hr => Res.Ok.keep (s.ok r hr) fun k hk => g.frm.block k (Res.Ok.lt (s.ok r hr) hk) (by simp)
  own := fun r hr k hk => ⟨(g.old k (Res.Ok.lt (s.ok r hr) hk)).trans (s.own r hr k hk).1, (s.own r hr k hk).2⟩
  dis := s.dis
theorem St.toGrow {w0 : World} {h0 h : Hp} {H : List Res} {w : World} (s : St w0 [] h0 h H w) : Grow h0 w0 h w := ⟨s.frm, s.sub, s.le, s.old⟩

/-- A new block that is owned. -/
theorem St.alloc {w0 : World} {M : List Nat} {h0 h : Hp} {H : List Res} {w : World} (s : St w0 M h0 h H w) (o : Obj) : St w0 M h0 h (.blk w.heap.size o :: H) (w.alloc o) := by
  have hf : Frm w [] (w.alloc o) := ⟨rfl, rfl, rfl, by simp, fun k hk _ => Below.heap_alloc w o k hk⟩
  have s' := s.grow hf
  refine { frm := s'.frm, sub := s'.sub, le := s'.le, old := s'.old, ok := ?_, own := ?_, dis := ?_ }
  · intro r hr
    rcases List.mem_cons.1 hr with rfl | hr
    · exact heap_alloc_new w o
    · exact s'.ok r hr
  · intro r hr k hk
    rcases List.mem_cons.1 hr with rfl | hr
    · simp only [Res.key, Option.some.injEq] at hk
      subst hk
      refine ⟨?_, .inl s.frm.size⟩
      cases hh : h w.heap.size with
      | none => rfl
      | some o' =>
        have := (Array.getElem?_eq_some_iff.1 (s.sub _ _ hh)).1
        omega
    · exact s'.own r hr k hk
  · refine List.Pairwise.cons (fun r hr k hk hk' => ?_) s'.dis
    simp only [Res.key, Option.some.injEq] at hk
    subst hk
    have := Res.Ok.lt (s.ok r hr) hk'
    omega

/-- An owned block is given over to the ghost. -/
theorem St.freeze {w0 : World} {M : List Nat} {h0 h : Hp} {g : Nat} {o : Obj} {H : List Res} {w : World} (s : St w0 M h0 h (.blk g o :: H) w) (hM : g ∉ M) :
    St w0 M h0 (fun k => if k = g then some o else h k) H w ∧ h.Le (fun k => if k = g then some o else h k) := by
  have hg := s.own _ (List.mem_cons_self) g rfl
  have hle : h.Le (fun k => if k = g then some o else h k) := fun k o' hk => by
    by_cases e : k = g
    · subst e; rw [hg.1] at hk; cases hk
    · simpa [e] using hk
  refine ⟨{ frm := s.frm, sub := ?_, le := s.le.trans hle, old := ?_, ok := fun r hr => s.ok r (List.mem_cons_of_mem _ hr), own := ?_, dis := (List.pairwise_cons.1 s.dis).2 }, hle⟩
  · intro k o' hk
    by_cases e : k = g
    · subst e
      simp only [if_true, Option.some.injEq] at hk
      subst hk
      exact s.ok _ (List.mem_cons_self)
    · exact s.sub k o' (by simpa [e] using hk)
  · intro k hk
    have : k ≠ g := by
      rintro rfl
      rcases hg.2 with h1 | h1
      · omega
      · exact hM h1
    simpa [this] using s.old k hk
  · intro r hr k hk
    have h1 := s.own r (List.mem_cons_of_mem _ hr) k hk
    have h2 := (List.pairwise_cons.1 s.dis).1 r hr g rfl
    have : k ≠ g := by rintro rfl; exact h2 hk
    exact ⟨by simpa [this] using h1.1, h1.2⟩

/-- The owned resources in another order, or fewer. -/
theorem St.perm {w0 : World} {M : List Nat} {h0 h : Hp} {H H' : List Res} {w : World} (s : St w0 M h0 h H w) (hp : H'.Sublist H) : St w0 M h0 h H' w :=
  { s with ok := fun r hr => s.ok r (hp.subset hr), own := fun r hr => s.own r (hp.subset hr), dis := s.dis.sublist hp }
theorem St.swap {w0 : World} {M : List Nat} {h0 h : Hp} {H H' : List Res} {w : World} (s : St w0 M h0 h H w) (hp : H.Perm H') : St w0 M h0 h H' w :=
  { s with ok := fun r hr => s.ok r (hp.mem_iff.2 hr), own := fun r hr => s.own r (hp.mem_iff.2 hr), dis := hp.pairwise s.dis (fun hxy k hk hk' => hxy k hk' hk) }

/-- The first owned block is written; nothing else. -/
theorem St.write {w0 : World} {M : List Nat} {h0 h : Hp} {g : Nat} {o o' : Obj} {H : List Res} {w w' : World} (s : St w0 M h0 h (.blk g o :: H) w) (hf : Frm w [g] w') (hg : w'.heap[g]? = some o') :
    St w0 M h0 h (.blk g o' :: H) w' := by
  have hown := s.own _ (List.mem_cons_self) g rfl
  have hlt := (Array.getElem?_eq_some_iff.1 (show w.heap[g]? = some o from s.ok _ (List.mem_cons_self))).1
  refine { frm := s.frm.transM hf (fun x hx => by simp only [List.mem_singleton] at hx; subst hx; exact hown.2), sub := ?_, le := s.le, old := s.old, ok := ?_, own := ?_, dis := ?_ }
  · intro k o1 hk
    have : k ≠ g := by rintro rfl; rw [hown.1] at hk; cases hk
    exact (hf.block k (Array.getElem?_eq_some_iff.1 (s.sub k o1 hk)).1 (by simpa using this)).trans (s.sub k o1 hk)
  · intro r hr
    rcases List.mem_cons.1 hr with rfl | hr
    · exact hg
    · have h1 := s.ok r (List.mem_cons_of_mem _ hr)
      refine Res.Ok.keep h1 fun k hk => hf.block k (Res.Ok.lt h1 hk) ?_
      have h2 := (List.pairwise_cons.1 s.dis).1 r hr g rfl
      simp only [List.mem_singleton]
      rintro rfl
      exact h2 hk
  · intro r hr k hk
    rcases List.mem_cons.1 hr with rfl | hr
    · exact s.own (.blk g o) (List.mem_cons_self) k hk
    · exact s.own r (List.mem_cons_of_mem _ hr) k hk
  · refine List.Pairwise.cons (fun r hr k hk => ?_) (List.pairwise_cons.1 s.dis).2
    exact (List.pairwise_cons.1 s.dis).1 r hr k hk

/-- The first owned row is appended to (or replaced by one in new memory). -/
theorem St.rowed {w0 : World} {M : List Nat} {h0 h : Hp} {v v' : Value} {e size n n' : Nat} {xs xs' : List Value} {H : List Res} {w w' : World} (s : St w0 M h0 h (.row v e size n xs :: H) w)
    (hg : w.grownBy w' v.ownBlock) (ho : w'.ownsRow 0 e size v' n' xs') (hat : v'.ownBlock = v.ownBlock ∨ (∃ b, v'.ownBlock = some b ∧ w.heap.size ≤ b) ∨ v'.ownBlock = none) :
    St w0 M h0 h (.row v' e size n' xs' :: H) w' := by
  have hown := s.own _ (List.mem_cons_self)
  have hok : w.ownsRow 0 e size v n xs := s.ok _ (List.mem_cons_self)
  have hfr : Frm w (v.ownBlock.toList) w' := ⟨hg.os, hg.tape, hg.output, hg.size, fun k hk hm => hg.block k hk (by rintro he; rw [← he] at hm; simp at hm)⟩
  refine { frm := s.frm.transM hfr (fun x hx => ?_), sub := ?_, le := s.le, old := s.old, ok := ?_, own := ?_, dis := ?_ }
  · have : v.ownBlock = some x := by simpa using hx
    exact (hown x this).2
  · intro k o1 hk
    refine (hfr.block k (Array.getElem?_eq_some_iff.1 (s.sub k o1 hk)).1 ?_).trans (s.sub k o1 hk)
    intro hm
    have : v.ownBlock = some k := by simpa using hm
    rw [(hown k this).1] at hk
    cases hk
  · intro r hr
    rcases List.mem_cons.1 hr with rfl | hr
    · exact ho
    · have h1 := s.ok r (List.mem_cons_of_mem _ hr)
      refine Res.Ok.keep h1 fun k hk => hfr.block k (Res.Ok.lt h1 hk) ?_
      intro hm
      have h2 : v.ownBlock = some k := by simpa using hm
      exact (List.pairwise_cons.1 s.dis).1 r hr k h2 hk
  · intro r hr k hk
    rcases List.mem_cons.1 hr with rfl | hr
    · have hk1 : v'.ownBlock = some k := hk
      rcases hat with h1 | ⟨b, hb, hle⟩ | h1
      · exact hown k (show v.ownBlock = some k from h1 ▸ hk1)
      · have hk' : v'.ownBlock = some k := hk
        rw [hb] at hk'
        injection hk' with hk'
        subst hk'
        refine ⟨?_, .inl (Nat.le_trans s.frm.size hle)⟩
        cases hh : h b with
        | none => rfl
        | some o' =>
          have := (Array.getElem?_eq_some_iff.1 (s.sub _ _ hh)).1
          omega
      · have hk' : v'.ownBlock = some k := hk
        rw [h1] at hk'
        cases hk'
    · exact s.own r (List.mem_cons_of_mem _ hr) k hk
  · refine List.Pairwise.cons (fun r hr k hk hk' => ?_) (List.pairwise_cons.1 s.dis).2
    have hk1 : v'.ownBlock = some k := hk
    rcases hat with h1 | ⟨b, hb, hle⟩ | h1
    · exact (List.pairwise_cons.1 s.dis).1 r hr k (show v.ownBlock = some k from h1 ▸ hk1) hk'
    · rw [hb] at hk1
      injection hk1 with hk1
      subst hk1
      have := Res.Ok.lt (s.ok r (List.mem_cons_of_mem _ hr)) hk'
      omega
    · rw [h1] at hk1
      cases hk1

/-- A row with nothing in it is owned for nothing. -/
theorem St.nilRow {w0 : World} {M : List Nat} {h0 h : Hp} {H : List Res} {w : World} (s : St w0 M h0 h H w) (e size : Nat) : St w0 M h0 h (.row (.slice none 0 0) e size 0 [] :: H) w :=
  { s with
    ok := fun r hr => by
      rcases List.mem_cons.1 hr with rfl | hr
      · exact World.ownsRow_nil w 0 e size
      · exact s.ok r hr
    own := fun r hr k hk => by
      rcases List.mem_cons.1 hr with rfl | hr
      · simp [Res.key, Value.ownBlock] at hk
      · exact s.own r hr k hk
    dis := List.Pairwise.cons (fun r hr k hk => by simp [Res.key, Value.ownBlock] at hk) s.dis }
end Go.Proofs.Ytdbeiaohibgmeaa.E

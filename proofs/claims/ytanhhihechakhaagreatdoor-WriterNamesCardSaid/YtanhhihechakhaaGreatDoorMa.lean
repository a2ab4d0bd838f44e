/- The engine, the plain laws and the walks of this seat, part 1: what the functions answer. Conditions: as each says; printed by programs of this session. -/
import Derived.Below
import Derived.Deep.Quiet
import Derived.Deep.LoopGhost
import Derived.Laws.AppendOwn
import Derived.Laws.OwnMore
import Derived.Laws.MakeOwn
import Derived.Tactics2
import Derived.WalkKit
import Derived.KernelRfl
import Derived.OrdersHeld
import Derived.Deep.RegionHeld3
import Derived.StillTail
import Derived.Laws.Strings
import Derived.ScopeJumps
import Derived.Maps.AppendAt
import Derived.ProofKit
import Derived.OpenShut
import Derived.ShutString
import Derived.Carry
import Derived.Laws.Bits64b
import Derived.Laws.Small
import Derived.Laws.IdiomStrings
import Derived.Laws.BytesString
import Derived.Defers
import Derived.Laws.LoneSync
import Derived.LoopN
import Derived.Lib.SliceRun
import Derived.Test.YtanhhihechakhaaGreatDoorProg
import Derived.Laws.Externs
import Derived.Lib.Bytealg
set_option linter.unusedVariables false
set_option linter.unusedSimpArgs false
namespace Go.Proofs.YtanhhihechakhaaGreatDoor.E
open Go.RowKit
/-! ### the table of slots -/
abbrev Tab := List (Nat × Value)
def Tab.get : Tab → Nat → Option Value
 | [], _ => none
 | (k, v) :: t, i => cond (Nat.beq i k) (some v) (Tab.get t i)
def Tab.ev (f : Tab) : Operand → Option Value
 | .tmp t => f.get t
 | .const v => some v
 | .global g => some (.pointer (some ⟨g, 0, none⟩))
 | .func n => some (.func (.func n) #[] #[])
def Tab.evs (f : Tab) : List Operand → Option (List Value)
 | [] => some []
 | x :: xs => match f.ev x with
  | some v => (match Tab.evs f xs with | some vs => some (v :: vs) | none => none)
  | none => none
structure Holds (n : Nat) (D : List Deferred) (f : Tab) (a : Act) : Prop where
 size : a.tmps.size = n
 defers : a.defers = D
 get : ∀ i v, f.get i = some v → a.tmps[i]? = some v
theorem Holds.ev {n : Nat} {D : List Deferred} {f : Tab} {a : Act} (h : Holds n D f a) {x : Operand} {v : Value} (hx : f.ev x = some v) : a.eval x = v := by
 cases x with
 | tmp t =>
  have := h.get t v hx
  simp [Act.eval, this]
 | const u => simpa [Tab.ev, Act.eval] using hx
 | global g => simpa [Tab.ev, Act.eval] using hx
 | func g => simpa [Tab.ev, Act.eval] using hx
theorem Holds.evs {n : Nat} {D : List Deferred} {f : Tab} {a : Act} (h : Holds n D f a) : ∀ {xs : List Operand} {vs : List Value}, f.evs xs = some vs → xs.map a.eval = vs
 | [], vs, hx => by simpa [Tab.evs] using hx
 | x :: xs, vs, hx => by
  unfold Tab.evs at hx
  split at hx
  · rename_i v hv
    split at hx
    · rename_i ws hws
      simp only [Option.some.injEq] at hx
      subst hx
      simp [h.ev hv, h.evs hws]
    · cases hx
  · cases hx
theorem Holds.put {n : Nat} {D : List Deferred} {f : Tab} {a : Act} (h : Holds n D f a) (d : Nat) (v : Value) (hd : Nat.blt d n = true) : Holds n D ((d, v) :: f) (a.put (some d) v) := by
 have hd' : d < a.tmps.size := by rw [h.size]; exact Nat.le_of_ble_eq_true hd
 refine ⟨by simp [Act.put, h.size], by simp [Act.put, h.defers], fun i u hi => ?_⟩
 simp only [Act.put, Array.getElem?_setIfInBounds]
 unfold Tab.get at hi
 by_cases e : i = d
 · subst e
   have : Nat.beq i i = true := Nat.beq_refl i
   rw [this] at hi
   simp only [cond_true, Option.some.injEq] at hi
   subst hi
   simp [hd']
 · have : Nat.beq i d = false := by
    cases hb : Nat.beq i d with
    | true => exact absurd (Nat.eq_of_beq_eq_true hb) e
    | false => rfl
   rw [this] at hi
   simp only [cond_false] at hi
   rw [if_neg (fun x => e x.symm)]
   exact h.get i u hi
def Tab.Le : Tab → Tab → Prop
 | [], _ => True
 | (k, v) :: t, f => f.get k = some v ∧ Tab.Le t f
theorem Tab.Le.get : ∀ {f' f : Tab}, Tab.Le f' f → ∀ i v, f'.get i = some v → f.get i = some v
 | [], _, _, _, _, hi => by simp [Tab.get] at hi
 | (k, u) :: t, f, h, i, v, hi => by
  unfold Tab.get at hi
  cases hb : Nat.beq i k with
  | true =>
   rw [hb] at hi
   simp only [cond_true, Option.some.injEq] at hi
   subst hi
   have := Nat.eq_of_beq_eq_true hb
   subst this
   exact h.1
  | false =>
   rw [hb] at hi
   exact h.2.get i v hi
/-! ### the memory -/
abbrev Hp := Nat → Option Obj
def Hp.cell (h : Hp) (a : Addr) : Option Value :=
 match h a.block with
 | some (.cells c _ _) => if a.spot.isSome then none else c[a.off]?
 | _ => none
def Hp.Sub (h : Hp) (w : World) : Prop := ∀ k o, h k = some o → w.heap[k]? = some o
theorem Hp.Sub.cell {h : Hp} {w : World} (hs : h.Sub w) {a : Addr} {v : Value} (hc : h.cell a = some v) : w.cell? a = some v := by
 unfold Hp.cell at hc
 unfold World.cell?
 split at hc
 · rename_i c e fr hh
   rw [hs _ _ hh]
   exact hc
 · cases hc
def hpOf (w : World) : Hp := fun k => w.heap[k]?
theorem hpOf_sub (w : World) : (hpOf w).Sub w := fun _ _ h => h
def Hp.Le (h h' : Hp) : Prop := ∀ k o, h k = some o → h' k = some o
theorem Hp.Le.refl (h : Hp) : h.Le h := fun _ _ x => x
theorem Hp.Le.trans {a b c : Hp} (h : a.Le b) (k : b.Le c) : a.Le c := fun i o x => k i o (h i o x)
theorem Hp.Le.cell {h h' : Hp} (hl : h.Le h') {a : Addr} {v : Value} (hc : h.cell a = some v) : h'.cell a = some v := by
 unfold Hp.cell at hc ⊢
 split at hc
 · rename_i c e fr hh
   rw [hl _ _ hh]
   exact hc
 · cases hc
inductive Res where
 | blk (g : Nat) (o : Obj)
 | row (v : Value) (e : TypeId) (size n : Nat) (xs : List Value)
def Res.key : Res → Option Nat
 | .blk g _ => some g
 | .row v _ _ _ _ => v.ownBlock
def Res.Ok (w : World) : Res → Prop
 | .blk g o => w.heap[g]? = some o
 | .row v e size n xs => w.ownsRow 0 e size v n xs
structure Frm (w0 : World) (M : List Nat) (w : World) : Prop where
 os : w.os = w0.os
 tape : w.tape = w0.tape
 output : w.output = w0.output
 size : w0.heap.size ≤ w.heap.size
 block : ∀ k, k < w0.heap.size → k ∉ M → w.heap[k]? = w0.heap[k]?
theorem Frm.refl (w : World) (M : List Nat) : Frm w M w := ⟨rfl, rfl, rfl, Nat.le_refl _, fun _ _ _ => rfl⟩
theorem Frm.below {w w' : World} (h : Frm w [] w') : Below w.heap.size w w' := ⟨h.os, h.tape, h.output, h.size, fun k hk => h.block k hk (by simp)⟩
theorem Frm.of_below {w w' : World} (h : Below w.heap.size w w') : Frm w [] w' := ⟨h.os, h.tape, h.output, h.size, fun k hk _ => h.block k hk⟩
theorem Frm.trans {a b c : World} {M : List Nat} (h : Frm a M b) (k : Frm b [] c) : Frm a M c :=
 ⟨k.os.trans h.os, k.tape.trans h.tape, k.output.trans h.output, Nat.le_trans h.size k.size,
  fun i hi hm => (k.block i (Nat.lt_of_lt_of_le hi h.size) (by simp)).trans (h.block i hi hm)⟩
theorem Frm.transM {a b c : World} {M M' : List Nat} (h : Frm a M b) (k : Frm b M' c) (hM : ∀ x, x ∈ M' → a.heap.size ≤ x ∨ x ∈ M) : Frm a M c :=
 ⟨k.os.trans h.os, k.tape.trans h.tape, k.output.trans h.output, Nat.le_trans h.size k.size,
  fun i hi hm => (k.block i (Nat.lt_of_lt_of_le hi h.size) (fun hx => by rcases hM i hx with h1 | h1 <;> first | omega | exact hm h1)).trans (h.block i hi hm)⟩
structure St (w0 : World) (M : List Nat) (h0 h : Hp) (H : List Res) (w : World) : Prop where
 frm : Frm w0 M w
 sub : h.Sub w
 le : h0.Le h
 old : ∀ k, k < w0.heap.size → h k = h0 k
 ok : ∀ r ∈ H, r.Ok w
 own : ∀ r ∈ H, ∀ k, r.key = some k → h k = none ∧ (w0.heap.size ≤ k ∨ k ∈ M)
 dis : H.Pairwise (fun r s => ∀ k, r.key = some k → s.key ≠ some k)
theorem St.start {w : World} {h : Hp} (hs : h.Sub w) (M : List Nat) : St w M h h [] w :=
 ⟨Frm.refl w M, hs, Hp.Le.refl h, fun _ _ => rfl, fun _ hr => (List.not_mem_nil hr).elim, fun _ hr => (List.not_mem_nil hr).elim, List.Pairwise.nil⟩
theorem St.start1 {w : World} {h : Hp} (hs : h.Sub w) {g : Nat} {o : Obj} (hg : w.heap[g]? = some o) (hn : h g = none) : St w [g] h h [.blk g o] w :=
 ⟨Frm.refl w _, hs, Hp.Le.refl h, fun _ _ => rfl,
  fun r hr => by simp only [List.mem_singleton] at hr; subst hr; exact hg,
  fun r hr k hk => by
   simp only [List.mem_singleton] at hr
   subst hr
   simp only [Res.key, Option.some.injEq] at hk
   subst hk
   exact ⟨hn, .inr (by simp)⟩,
  by simp⟩
theorem Res.Ok.lt {w : World} {r : Res} (h : r.Ok w) {k : Nat} (hk : r.key = some k) : k < w.heap.size := by
 cases r with
 | blk g o =>
  simp only [Res.key, Option.some.injEq] at hk
  subst hk
  exact (Array.getElem?_eq_some_iff.1 h).1
 | row v e size n xs => exact (World.ownsRow.lt h k hk).2
theorem Res.Ok.keep {w w' : World} {r : Res} (h : r.Ok w) (hb : ∀ k, r.key = some k → w'.heap[k]? = w.heap[k]?) : r.Ok w' := by
 cases r with
 | blk g o => exact (hb g rfl).trans h
 | row v e size n xs =>
  refine ⟨h.1, ?_⟩
  rcases h.2 with h1 | ⟨g, cap, cur, rfl, h2, h3, h4⟩
  · exact .inl h1
  · refine .inr ⟨g, cap, cur, rfl, h2, (hb g rfl).trans h3, h4⟩
theorem St.grow {w0 : World} {M : List Nat} {h0 h : Hp} {H : List Res} {w w' : World} (s : St w0 M h0 h H w) (hf : Frm w [] w') : St w0 M h0 h H w' where
 frm := s.frm.trans hf
 sub := fun k o hk => (hf.block k (Array.getElem?_eq_some_iff.1 (s.sub k o hk)).1 (by simp)).trans (s.sub k o hk)
 le := s.le
 old := s.old
 ok := fun r hr => Res.Ok.keep (s.ok r hr) fun k hk => hf.block k (Res.Ok.lt (s.ok r hr) hk) (by simp)
 own := s.own
 dis := s.dis
structure Grow (h : Hp) (w : World) (h' : Hp) (w' : World) : Prop where
 frm : Frm w [] w'
 sub : h'.Sub w'
 le : h.Le h'
 old : ∀ k, k < w.heap.size → h' k = h k
theorem St.grow' {w0 : World} {M : List Nat} {h0 h h' : Hp} {H : List Res} {w w' : World} (s : St w0 M h0 h H w) (g : Grow h w h' w') : St w0 M h0 h' H w' where
 frm := s.frm.trans g.frm
 sub := g.sub
 le := s.le.trans g.le
 old := fun k hk => (g.old k (Nat.lt_of_lt_of_le hk s.frm.size)).trans (s.old k hk)
 ok := fun r hr => Res.Ok.keep (s.ok r hr) fun k hk => g.frm.block k (Res.Ok.lt (s.ok r hr) hk) (by simp)
 own := fun r hr k hk => ⟨(g.old k (Res.Ok.lt (s.ok r hr) hk)).trans (s.own r hr k hk).1, (s.own r hr k hk).2⟩
 dis := s.dis
theorem St.toGrow {w0 : World} {h0 h : Hp} {H : List Res} {w : World} (s : St w0 [] h0 h H w) : Grow h0 w0 h w := ⟨s.frm, s.sub, s.le, s.old⟩
theorem St.alloc {w0 : World} {M : List Nat} {h0 h : Hp} {H : List Res} {w : World} (s : St w0 M h0 h H w) (o : Obj) : St w0 M h0 h (.blk w.heap.size o :: H) (w.alloc o) := by
 have hf : Frm w [] (w.alloc o) := ⟨rfl, rfl, rfl, by simp, fun k hk _ => Below.heap_alloc w o k hk⟩
 have s' := s.grow hf
 refine { frm := s'.frm, sub := s'.sub, le := s'.le, old := s'.old, ok := ?_, own := ?_, dis := ?_ }
 · intro r hr
   rcases List.mem_cons.1 hr with rfl | hr
   · exact heap_alloc_new w o
   · exact s'.ok r hr
 · intro r hr k hk
   rcases List.mem_cons.1 hr with rfl | hr
   · simp only [Res.key, Option.some.injEq] at hk
     subst hk
     refine ⟨?_, .inl s.frm.size⟩
     cases hh : h w.heap.size with
     | none => rfl
     | some o' =>
      have := (Array.getElem?_eq_some_iff.1 (s.sub _ _ hh)).1
      omega
   · exact s'.own r hr k hk
 · refine List.Pairwise.cons (fun r hr k hk hk' => ?_) s'.dis
   simp only [Res.key, Option.some.injEq] at hk
   subst hk
   have := Res.Ok.lt (s.ok r hr) hk'
   omega
theorem St.freeze {w0 : World} {M : List Nat} {h0 h : Hp} {g : Nat} {o : Obj} {H : List Res} {w : World} (s : St w0 M h0 h (.blk g o :: H) w) (hM : g ∉ M) :
    St w0 M h0 (fun k => if k = g then some o else h k) H w ∧ h.Le (fun k => if k = g then some o else h k) := by
 have hg := s.own _ (List.mem_cons_self) g rfl
 have hle : h.Le (fun k => if k = g then some o else h k) := fun k o' hk => by
  by_cases e : k = g
  · subst e; rw [hg.1] at hk; cases hk
  · simpa [e] using hk
 refine ⟨{ frm := s.frm, sub := ?_, le := s.le.trans hle, old := ?_, ok := fun r hr => s.ok r (List.mem_cons_of_mem _ hr), own := ?_, dis := (List.pairwise_cons.1 s.dis).2 }, hle⟩
 · intro k o' hk
   by_cases e : k = g
   · subst e
     simp only [if_true, Option.some.injEq] at hk
     subst hk
     exact s.ok _ (List.mem_cons_self)
   · exact s.sub k o' (by simpa [e] using hk)
 · intro k hk
   have : k ≠ g := by
    rintro rfl
    rcases hg.2 with h1 | h1
    · omega
    · exact hM h1
   simpa [this] using s.old k hk
 · intro r hr k hk
   have h1 := s.own r (List.mem_cons_of_mem _ hr) k hk
   have h2 := (List.pairwise_cons.1 s.dis).1 r hr g rfl
   have : k ≠ g := by rintro rfl; exact h2 hk
   exact ⟨by simpa [this] using h1.1, h1.2⟩
theorem St.perm {w0 : World} {M : List Nat} {h0 h : Hp} {H H' : List Res} {w : World} (s : St w0 M h0 h H w) (hp : H'.Sublist H) : St w0 M h0 h H' w :=
 { s with ok := fun r hr => s.ok r (hp.subset hr), own := fun r hr => s.own r (hp.subset hr), dis := s.dis.sublist hp }
theorem St.swap {w0 : World} {M : List Nat} {h0 h : Hp} {H H' : List Res} {w : World} (s : St w0 M h0 h H w) (hp : H.Perm H') : St w0 M h0 h H' w :=
 { s with ok := fun r hr => s.ok r (hp.mem_iff.2 hr), own := fun r hr => s.own r (hp.mem_iff.2 hr), dis := hp.pairwise s.dis (fun hxy k hk hk' => hxy k hk' hk) }
theorem St.write {w0 : World} {M : List Nat} {h0 h : Hp} {g : Nat} {o o' : Obj} {H : List Res} {w w' : World} (s : St w0 M h0 h (.blk g o :: H) w) (hf : Frm w [g] w') (hg : w'.heap[g]? = some o') :
    St w0 M h0 h (.blk g o' :: H) w' := by
 have hown := s.own _ (List.mem_cons_self) g rfl
 have hlt := (Array.getElem?_eq_some_iff.1 (show w.heap[g]? = some o from s.ok _ (List.mem_cons_self))).1
 refine { frm := s.frm.transM hf (fun x hx => by simp only [List.mem_singleton] at hx; subst hx; exact hown.2), sub := ?_, le := s.le, old := s.old, ok := ?_, own := ?_, dis := ?_ }
 · intro k o1 hk
   have : k ≠ g := by rintro rfl; rw [hown.1] at hk; cases hk
   exact (hf.block k (Array.getElem?_eq_some_iff.1 (s.sub k o1 hk)).1 (by simpa using this)).trans (s.sub k o1 hk)
 · intro r hr
   rcases List.mem_cons.1 hr with rfl | hr
   · exact hg
   · have h1 := s.ok r (List.mem_cons_of_mem _ hr)
     refine Res.Ok.keep h1 fun k hk => hf.block k (Res.Ok.lt h1 hk) ?_
     have h2 := (List.pairwise_cons.1 s.dis).1 r hr g rfl
     simp only [List.mem_singleton]
     rintro rfl
     exact h2 hk
 · intro r hr k hk
   rcases List.mem_cons.1 hr with rfl | hr
   · exact s.own (.blk g o) (List.mem_cons_self) k hk
   · exact s.own r (List.mem_cons_of_mem _ hr) k hk
 · refine List.Pairwise.cons (fun r hr k hk => ?_) (List.pairwise_cons.1 s.dis).2
   exact (List.pairwise_cons.1 s.dis).1 r hr k hk
theorem St.rowed {w0 : World} {M : List Nat} {h0 h : Hp} {v v' : Value} {e size n n' : Nat} {xs xs' : List Value} {H : List Res} {w w' : World} (s : St w0 M h0 h (.row v e size n xs :: H) w)
    (hg : w.grownBy w' v.ownBlock) (ho : w'.ownsRow 0 e size v' n' xs') (hat : v'.ownBlock = v.ownBlock ∨ (∃ b, v'.ownBlock = some b ∧ w.heap.size ≤ b) ∨ v'.ownBlock = none) :
    St w0 M h0 h (.row v' e size n' xs' :: H) w' := by
 have hown := s.own _ (List.mem_cons_self)
 have hok : w.ownsRow 0 e size v n xs := s.ok _ (List.mem_cons_self)
 have hfr : Frm w (v.ownBlock.toList) w' := ⟨hg.os, hg.tape, hg.output, hg.size, fun k hk hm => hg.block k hk (by rintro he; rw [← he] at hm; simp at hm)⟩
 refine { frm := s.frm.transM hfr (fun x hx => ?_), sub := ?_, le := s.le, old := s.old, ok := ?_, own := ?_, dis := ?_ }
 · have : v.ownBlock = some x := by simpa using hx
   exact (hown x this).2
 · intro k o1 hk
   refine (hfr.block k (Array.getElem?_eq_some_iff.1 (s.sub k o1 hk)).1 ?_).trans (s.sub k o1 hk)
   intro hm
   have : v.ownBlock = some k := by simpa using hm
   rw [(hown k this).1] at hk
   cases hk
 · intro r hr
   rcases List.mem_cons.1 hr with rfl | hr
   · exact ho
   · have h1 := s.ok r (List.mem_cons_of_mem _ hr)
     refine Res.Ok.keep h1 fun k hk => hfr.block k (Res.Ok.lt h1 hk) ?_
     intro hm
     have h2 : v.ownBlock = some k := by simpa using hm
     exact (List.pairwise_cons.1 s.dis).1 r hr k h2 hk
 · intro r hr k hk
   rcases List.mem_cons.1 hr with rfl | hr
   · have hk1 : v'.ownBlock = some k := hk
     rcases hat with h1 | ⟨b, hb, hle⟩ | h1
     · exact hown k (show v.ownBlock = some k from h1 ▸ hk1)
     · have hk' : v'.ownBlock = some k := hk
       rw [hb] at hk'
       injection hk' with hk'
       subst hk'
       refine ⟨?_, .inl (Nat.le_trans s.frm.size hle)⟩
       cases hh : h b with
       | none => rfl
       | some o' =>
        have := (Array.getElem?_eq_some_iff.1 (s.sub _ _ hh)).1
        omega
     · have hk' : v'.ownBlock = some k := hk
       rw [h1] at hk'
       cases hk'
   · exact s.own r (List.mem_cons_of_mem _ hr) k hk
 · refine List.Pairwise.cons (fun r hr k hk hk' => ?_) (List.pairwise_cons.1 s.dis).2
   have hk1 : v'.ownBlock = some k := hk
   rcases hat with h1 | ⟨b, hb, hle⟩ | h1
   · exact (List.pairwise_cons.1 s.dis).1 r hr k (show v.ownBlock = some k from h1 ▸ hk1) hk'
   · rw [hb] at hk1
     injection hk1 with hk1
     subst hk1
     have := Res.Ok.lt (s.ok r (List.mem_cons_of_mem _ hr)) hk'
     omega
   · rw [h1] at hk1
     cases hk1
theorem St.nilRow {w0 : World} {M : List Nat} {h0 h : Hp} {H : List Res} {w : World} (s : St w0 M h0 h H w) (e size : Nat) : St w0 M h0 h (.row (.slice none 0 0) e size 0 [] :: H) w :=
 { s with
  ok := fun r hr => by
   rcases List.mem_cons.1 hr with rfl | hr
   · exact World.ownsRow_nil w 0 e size
   · exact s.ok r hr
  own := fun r hr k hk => by
   rcases List.mem_cons.1 hr with rfl | hr
   · simp [Res.key, Value.ownBlock] at hk
   · exact s.own r hr k hk
  dis := List.Pairwise.cons (fun r hr k hk => by simp [Res.key, Value.ownBlock] at hk) s.dis }
end Go.Proofs.YtanhhihechakhaaGreatDoor.E
set_option linter.unusedVariables false
set_option linter.unusedSimpArgs false
namespace Go.Proofs.YtanhhihechakhaaGreatDoor.E
open Go.RowKit
def gok (ops : Array Oper) (f : Tab) : Option (Nat × Bool) → Option Bool
 | none => some true
 | some (j, want) =>
  match (ops[j]?).bind (·.dst) with
  | some d => (match f.get d with
   | some (.bool b) => some (b == want)
   | some (.tuple _) => some false
   | _ => none)
  | none => none
theorem gok_wanted {ops : Array Oper} {n : Nat} {D : List Deferred} {f : Tab} {a : Act} (ha : Holds n D f a) {o : Oper} {b : Bool} (h : gok ops f o.guard = some b) :
    Region.wanted o (yielded ops a.tmps) = b := by
 unfold Region.wanted
 unfold gok at h
 split at h
 · rename_i hg
   simp only [Option.some.injEq] at h
   rw [hg, ← h]
 · rename_i j want hg
   rw [hg]
   simp only []
   split at h
   · rename_i d hd
     split at h
     · rename_i b' hb
       simp only [Option.some.injEq] at h
       have h1 := ha.get d _ hb
       simp only [yielded, hd, Option.bind_some, h1]
       rw [← h]
       cases b' <;> cases want <;> rfl
     · rename_i vs hb
       simp only [Option.some.injEq] at h
       have h1 := ha.get d _ hb
       simp only [yielded, hd, Option.bind_some, h1]
       rw [← h]
       rfl
     · cases h
   · cases h
def lst (n : Nat) : Nat → Array Bool
 | 0 => Array.replicate n false
 | k + 1 => (lst n k).setIfInBounds k true
def okAt (ops : Array Oper) (k : Nat) : Bool :=
 (Region.free .any ops (lst ops.size k) k && (Region.ready .any ops (lst ops.size k)).contains k) || (Region.ready .any ops (lst ops.size k) == [k])
def heldB (ops : Array Oper) : Bool := Region.noSelect ops && (List.range ops.size).all (okAt ops)
structure HeldAt (ops : Array Oper) (rest : List Oper) : Prop where
 all : heldB ops = true
 len : rest.length ≤ ops.size
 suf : rest = ops.toList.drop (ops.size - rest.length)
inductive Md where
 | txt
 | qui
 | held (E : List Res)
 | still (tl : List Oper)
 | one
def Md.ext : Md → List Res → List Res
 | .held E, H => E ++ H
 | _, H => H
def Md.plain : Md → Bool
 | .txt => true
 | .qui => true
 | _ => false
section
variable {m : Md} {P : Program} {ops : Array Oper} {Q : Exit → Act → World → Prop} {n : Nat} {D : List Deferred} {w0 : World} {M : List Nat} {h0 : Hp}
def wpOne (P : Program) (ops : Array Oper) (C : World → Prop) (K : Act → Prop) : List Oper → Act → Prop
 | [], a => K a
 | o :: rest, a => ∃ v, YieldsIf P ops C o v a ∧ wpOne P ops C K rest (a.put o.dst v)
def Wk (m : Md) (P : Program) (ops : Array Oper) (Q : Exit → Act → World → Prop) (C : World → Prop) (rest : List Oper) (a : Act) (w : World) : Prop :=
 match m with
 | .txt => wpList P ops Q rest a w
 | .qui => wpQuiet P ops C (fun a' => ∀ w', C w' → Q .normal a' w') rest a
 | .still tl => wpStill P ops w (fun a' => wpList P ops Q tl a' w) rest a
 | .one => wpOne P ops C (fun a' => ∀ w', C w' → Q .normal a' w') rest a
 | .held _ => HeldAt ops rest → wpAnyH P .any ops (NoPanic Q) C rest.length (lst ops.size (ops.size - rest.length)) a w
def Sy (m : Md) (P : Program) (ops : Array Oper) (Q : Exit → Act → World → Prop) (n : Nat) (D : List Deferred) (w0 : World) (M : List Nat) (h0 : Hp) (rest : List Oper) (f : Tab) (h : Hp) (H : List Res) : Prop :=
 ∀ a w, Holds n D f a → St w0 M h0 h (m.ext H) w → Wk m P ops Q (St w0 M h0 h H) rest a w
def Cy (P : Program) (c : Code) (Q : Exit → Act → World → Prop) (n : Nat) (D : List Deferred) (w0 : World) (M : List Nat) (h0 : Hp) (f : Tab) (h : Hp) (H : List Res) : Prop :=
 ∀ a w, Holds n D f a → St w0 M h0 h H w → c.wp P Q a w
def Ny (Q : Exit → Act → World → Prop) (e : Exit) (n : Nat) (D : List Deferred) (w0 : World) (M : List Nat) (h0 : Hp) (f : Tab) (h : Hp) (H : List Res) : Prop :=
 ∀ a w, Holds n D f a → St w0 M h0 h H w → Q e a w
variable {f : Tab} {h : Hp} {H : List Res} {rest : List Oper} {o : Oper}
theorem sy_nil (hm : m.plain = true) (k : Ny Q .normal n D w0 M h0 f h H) : Sy m P ops Q n D w0 M h0 [] f h H := fun a w ha hs => by
 cases m with
 | txt => exact k a w ha hs
 | qui => exact fun w' hw' => k a w' ha hw'
 | held E => cases hm
 | still tl => cases hm
 | one => cases hm
theorem sy_nil1 (k : Ny Q .normal n D w0 M h0 f h H) : Sy .one P ops Q n D w0 M h0 [] f h H := fun a w ha hs w' hw' => k a w' ha hw'
theorem HeldAt.head {ops : Array Oper} {o : Oper} {rest : List Oper} (hh : HeldAt ops (o :: rest)) : ∃ k, k = ops.size - (rest.length + 1) ∧ ops.size - rest.length = k + 1 ∧ ops[k]? = some o ∧ okAt ops k = true ∧ Region.noSelect ops = true ∧ HeldAt ops rest := by
 have hl := hh.len
 simp only [List.length_cons] at hl
 have hsuf := hh.suf
 simp only [List.length_cons] at hsuf
 have hall := hh.all
 unfold heldB at hall
 rw [Bool.and_eq_true] at hall
 have hk : ops.size - rest.length = (ops.size - (rest.length + 1)) + 1 := by omega
 have ho : ops[ops.size - (rest.length + 1)]? = some o := by
  have := congrArg (fun l => l[0]?) hsuf
  simp only [List.getElem?_cons_zero, List.getElem?_drop, Nat.add_zero, Array.getElem?_toList] at this
  exact this.symm
 refine ⟨_, rfl, hk, ho, List.all_eq_true.1 hall.2 _ (List.mem_range.2 (by omega)), hall.1, hh.all, by omega, ?_⟩
 rw [hk]
 have := congrArg List.tail hsuf
 simpa using this
theorem held_val {C : World → Prop} {a : Act} {w : World} {v : Value} {E E' : List Res} (hh : HeldAt ops (o :: rest)) (hC : C w) (hy : YieldsIf P ops C o v a)
    (h1 : Wk (.held E) P ops Q C rest (a.put o.dst v) w) : wpAnyH P .any ops (NoPanic Q) C (o :: rest).length (lst ops.size (ops.size - (o :: rest).length)) a w := by
 obtain ⟨k, hk, hk1, ho, hok, hsel, hr⟩ := hh.head
 have h2 := h1 hr
 rw [hk1] at h2
 simp only [List.length_cons]
 rw [← hk]
 unfold okAt at hok
 rw [Bool.or_eq_true] at hok
 rcases hok with h3 | h3
 · rw [Bool.and_eq_true] at h3
   exact wpAnyH_take ho hsel h3.1 h3.2 (fun c a w hq => hq.elim) hy hC h2
 · refine wpAnyH_all (rs := [k]) (by simpa using h3) (by simp) (fun i hi => ?_)
   simp only [List.mem_singleton] at hi
   subst hi
   exact hy.wpOp ho hC ⟨hC, h2⟩
theorem St.tail {E H : List Res} {w : World} (hs : St w0 M h0 h (E ++ H) w) : St w0 M h0 h H w := hs.perm (List.sublist_append_right _ _)
theorem St.base {m : Md} {H : List Res} {w : World} (hs : St w0 M h0 h (m.ext H) w) : St w0 M h0 h H w := by
 cases m with
 | txt => exact hs
 | qui => exact hs
 | held E => exact hs.tail
 | still tl => exact hs
 | one => exact hs
theorem sy_op (hw : gok ops f o.guard = some true)
    (k : ∀ a w, Holds n D f a → St w0 M h0 h H w → o.wp P a w (wpList P ops Q rest) Q) : Sy .txt P ops Q n D w0 M h0 (o :: rest) f h H := by
 intro a w ha hs
 unfold Wk wpList
 rw [if_pos (gok_wanted ha hw)]
 exact .inl (k a w ha hs)
theorem sy_skip {d : Nat} (hw : gok ops f o.guard = some false) (hd : o.dst = some d) (hn : Nat.blt d n = true) (k : Sy m P ops Q n D w0 M h0 rest ((d, undef) :: f) h H) : Sy m P ops Q n D w0 M h0 (o :: rest) f h H := by
 intro a w ha hs
 have h1 := k _ w (ha.put d undef hn) hs
 cases m with
 | txt =>
  unfold Wk wpList
  rw [gok_wanted ha hw, hd]
  exact h1
 | qui =>
  unfold Wk wpQuiet
  rw [gok_wanted ha hw, hd]
  exact h1
 | held E => exact fun hh => held_val (E := E) (E' := E) hh hs.tail (.inr ⟨gok_wanted ha hw, rfl⟩) (by rw [hd]; exact h1)
 | still tl =>
  show wpStill P ops w _ (o :: rest) a
  unfold wpStill
  rw [gok_wanted ha hw, hd]
  exact h1
 | one =>
  refine ⟨undef, .inr ⟨gok_wanted ha hw, rfl⟩, ?_⟩
  rw [hd]
  exact h1
theorem sy_val {d : Nat} {v : Value} (hw : gok ops f o.guard = some true) (hd : o.dst = some d) (hn : Nat.blt d n = true)
    (hrun : ∀ a w, Holds n D f a → St w0 M h0 h H w → (execOp a.eval o).run P w = .ok (.value v) w) (k : Sy m P ops Q n D w0 M h0 rest ((d, v) :: f) h H) : Sy m P ops Q n D w0 M h0 (o :: rest) f h H := by
 intro a w ha hs
 have h1 := k _ w (ha.put d v hn) hs
 cases m with
 | txt =>
  unfold Wk wpList
  rw [if_pos (gok_wanted ha hw)]
  refine .inl ?_
  unfold Oper.wp
  rw [hrun a w ha hs]
  show wpList P ops Q rest (a.put o.dst v) w
  rw [hd]
  exact h1
 | qui =>
  unfold Wk wpQuiet
  rw [if_pos (gok_wanted ha hw)]
  refine ⟨v, fun w' hw' => ?_, ?_⟩
  · unfold Oper.quietAt
    rw [hrun a w' ha hw']
    exact ⟨rfl, rfl⟩
  · rw [hd]
    exact h1
 | held E => exact fun hh => held_val (E := E) (E' := E) hh hs.tail (.inl ⟨gok_wanted ha hw, fun w' hw' => hrun a w' ha hw'⟩) (by rw [hd]; exact h1)
 | still tl =>
  show wpStill P ops w _ (o :: rest) a
  unfold wpStill
  rw [if_pos (gok_wanted ha hw)]
  unfold Oper.still
  rw [hrun a w ha hs]
  refine ⟨rfl, ?_⟩
  rw [hd]
  exact h1
 | one =>
  refine ⟨v, .inl ⟨gok_wanted ha hw, fun w' hw' => hrun a w' ha hw'⟩, ?_⟩
  rw [hd]
  exact h1
theorem sy_enter {d : Nat} {v : Value} {F : Nat} {args : Array Value} (hm : m.plain = true) (hw : gok ops f o.guard = some true) (hd : o.dst = some d) (hn : Nat.blt d n = true)
    (hrun : ∀ a w, Holds n D f a → (execOp a.eval o).run P w = .ok (.enter F args) w) (hc : ∀ w, St w0 M h0 h H w → Calls P F args w fun e w' => e = .returned v ∧ Frm w [] w')
    (k : Sy m P ops Q n D w0 M h0 rest ((d, v) :: f) h H) : Sy m P ops Q n D w0 M h0 (o :: rest) f h H := by
 intro a w ha hs
 cases m with
 | txt =>
  unfold Wk wpList
  rw [if_pos (gok_wanted ha hw)]
  refine .inl ?_
  unfold Oper.wp
  rw [hrun a w ha]
  refine (hc w hs).mono fun e w' ⟨he, hf⟩ => ?_
  subst he
  show wpList P ops Q rest (a.put o.dst v) w'
  rw [hd]
  exact k _ w' (ha.put d v hn) (hs.grow hf)
 | qui =>
  unfold Wk wpQuiet
  rw [if_pos (gok_wanted ha hw)]
  refine ⟨v, fun w' hw' => ?_, ?_⟩
  · unfold Oper.quietAt
    rw [hrun a w' ha]
    exact ⟨rfl, (hc w' hw').mono fun e w'' ⟨he, hf⟩ => ⟨he, hw'.grow hf⟩⟩
  · rw [hd]
    exact k _ w (ha.put d v hn) hs
 | held E => cases hm
 | still tl => cases hm
 | one => cases hm
theorem sy_cond {d : Nat} (e : Bool) (hd : f.get d = some (.bool e)) (hn : Nat.blt d n = true) (kt : e = true → Sy m P ops Q n D w0 M h0 rest ((d, .bool true) :: f) h H) (kf : e = false → Sy m P ops Q n D w0 M h0 rest ((d, .bool false) :: f) h H) :
    Sy m P ops Q n D w0 M h0 rest f h H := fun a w ha hs => by
 have key : ∀ b : Bool, e = b → Holds n D ((d, .bool b) :: f) a := fun b hb => by
  subst hb
  refine ⟨ha.size, ha.defers, fun i v hi => ?_⟩
  unfold Tab.get at hi
  cases hbq : Nat.beq i d with
  | true =>
   rw [hbq] at hi
   simp only [cond_true, Option.some.injEq] at hi
   subst hi
   have := Nat.eq_of_beq_eq_true hbq
   subst this
   exact ha.get _ _ hd
  | false =>
   rw [hbq] at hi
   exact ha.get i v hi
 cases he : e with
 | true => exact kt he a w (key _ he) hs
 | false => exact kf he a w (key _ he) hs
/-! facts of the program's types, each a Bool for the kernel -/
def fldB (P : Program) (s i off : Nat) : Bool :=
 match P.underlying s with
 | some (.struct fs) => (match fs[i]? with
  | some fl => (match P.info? fl.type with
   | some inf => inf.size != 0 && fl.offset == off
   | none => false)
  | none => false)
 | _ => false
def elsB (P : Program) (s e sz : Nat) : Bool :=
 (match P.underlying s with
 | some (.slice e') => e' == e
 | _ => false) && (match P.info? e with | some inf => inf.size == sz | none => false)
def arrB (P : Program) (s len sz : Nat) : Bool :=
 match P.underlying s with
 | some (.array l e) => l == len && (match P.info? e with | some inf => inf.size == sz | none => false)
 | _ => false
def oneB (P : Program) (t : Nat) : Bool :=
 match P.underlying t with
 | some (.struct _) => false
 | some (.array _ _) => false
 | some _ => true
 | none => false
def aggB (P : Program) (t sz : Nat) : Bool :=
 (match P.underlying t with
 | some (.struct _) => true
 | some (.array _ _) => true
 | _ => false) && (match P.info? t with | some inf => inf.size == sz | none => false)
theorem fld_spec {P : Program} {s i off : Nat} (h : fldB P s i off = true) : ∃ fs fl inf, P.underlying s = some (.struct fs) ∧ fs[i]? = some fl ∧ P.info? fl.type = some inf ∧ inf.size ≠ 0 ∧ fl.offset = off := by
 unfold fldB at h
 split at h
 · rename_i fs hs
   split at h
   · rename_i fl hf
     split at h
     · rename_i inf hi
       simp only [Bool.and_eq_true, bne_iff_ne, beq_iff_eq] at h
       exact ⟨fs, fl, inf, hs, hf, hi, h.1, h.2⟩
     · cases h
   · cases h
 · cases h
theorem els_spec {P : Program} {s e sz : Nat} (h : elsB P s e sz = true) : P.underlying s = some (.slice e) ∧ ∃ inf, P.info? e = some inf ∧ inf.size = sz := by
 unfold elsB at h
 rw [Bool.and_eq_true] at h
 obtain ⟨h1, h2⟩ := h
 split at h1
 · rename_i e' he
   have : e' = e := by simpa using h1
   subst this
   refine ⟨he, ?_⟩
   split at h2
   · rename_i inf hi
     exact ⟨inf, hi, by simpa using h2⟩
   · cases h2
 · cases h1
theorem arr_spec {P : Program} {s len sz : Nat} (h : arrB P s len sz = true) : ∃ e inf, P.underlying s = some (.array len e) ∧ P.info? e = some inf ∧ inf.size = sz := by
 unfold arrB at h
 split at h
 · rename_i l e he
   rw [Bool.and_eq_true] at h
   obtain ⟨h1, h2⟩ := h
   have : l = len := by simpa using h1
   subst this
   split at h2
   · rename_i inf hi
     exact ⟨e, inf, he, hi, by simpa using h2⟩
   · cases h2
 · cases h
theorem one_spec {P : Program} {t : Nat} (h : oneB P t = true) (w : World) : (isAgg t).run P w = .ok false w := by
 unfold oneB at h
 cases hu : P.underlying t with
 | none => rw [hu] at h; cases h
 | some d =>
  rw [hu] at h
  cases d <;> first | (simp at h; done) | simp [isAgg, run_underlying hu]
theorem agg_spec {P : Program} {t sz : Nat} (h : aggB P t sz = true) (w : World) : (isAgg t).run P w = .ok true w ∧ (sizeOf t).run P w = .ok sz w := by
 unfold aggB at h
 rw [Bool.and_eq_true] at h
 obtain ⟨h1, h2⟩ := h
 constructor
 · cases hu : P.underlying t with
   | none => rw [hu] at h1; cases h1
   | some d =>
    rw [hu] at h1
    cases d <;> first | (simp at h1; done) | simp [isAgg, run_underlying hu]
 · split at h2
   · rename_i inf hi
     have : inf.size = sz := by simpa using h2
     simp [sizeOf, typeInfo, hi, this]
   · cases h2
theorem Addr.add_at (g off j : Nat) : (⟨g, off, none⟩ : Addr).add j = ⟨g, off + j, none⟩ := by unfold Addr.add; split <;> simp_all
theorem equal_bool {s : Nat} {P : Program} (hs : P.underlying s = some .bool) (b1 b2 : Bool) (w : World) : (Op.equal s (.bool b1) (.bool b2)).run P w = .ok (b1 == b2) w := by
 have h : ∀ d, (Op.equalIn (d + 1) s (.bool b1) (.bool b2)).run P w = .ok (b1 == b2) w := fun d => by simp [Op.equalIn, run_underlying hs]
 exact h 9999
theorem equal_ptr_nil {s e : Nat} {P : Program} (hs : P.underlying s = some (.pointer e)) (a1 : Option Addr) (w : World) : (Op.equal s (.pointer a1) (.pointer none)).run P w = .ok a1.isNone w := by
 have h : ∀ d, (Op.equalIn (d + 1) s (.pointer a1) (.pointer none)).run P w = .ok a1.isNone w := fun d => by cases a1 <;> simp [Op.equalIn, run_underlying hs]
 exact h 9999
theorem sy_setT {d : Nat} {e : Bool} (hd : f.get d = some (.bool e)) (hn : Nat.blt d n = true) (he : e = true) (k : Sy m P ops Q n D w0 M h0 rest ((d, .bool true) :: f) h H) : Sy m P ops Q n D w0 M h0 rest f h H :=
 sy_cond e hd hn (fun _ => k) (fun h1 => by rw [h1] at he; cases he)
theorem sy_setF {d : Nat} {e : Bool} (hd : f.get d = some (.bool e)) (hn : Nat.blt d n = true) (he : e = false) (k : Sy m P ops Q n D w0 M h0 rest ((d, .bool false) :: f) h H) : Sy m P ops Q n D w0 M h0 rest f h H :=
 sy_cond e hd hn (fun h1 => by rw [h1] at he; cases he) (fun _ => k)
section ops
variable {d t s : Nat} {p : String} {af : Array Edge} {g : Option (Nat × Bool)}
theorem sy_move {x : Operand} {v : Value} (hx : f.ev x = some v) (hw : gok ops f g = some true) (hn : Nat.blt d n = true) (k : Sy m P ops Q n D w0 M h0 rest ((d, v) :: f) h H) :
    Sy m P ops Q n D w0 M h0 (⟨some d, .move x, t, p, af, g⟩ :: rest) f h H := sy_val hw rfl hn (fun a w ha _ => by simp [execOp, ha.ev hx]) k
theorem sy_assign {x : Operand} {v : Value} (hx : f.ev x = some v) (hw : gok ops f g = some true) (hn : Nat.blt d n = true) (k : Sy m P ops Q n D w0 M h0 rest ((d, v) :: f) h H) :
    Sy m P ops Q n D w0 M h0 (⟨some d, .assign x, t, p, af, g⟩ :: rest) f h H := sy_val hw rfl hn (fun a w ha _ => by simp [execOp, ha.ev hx]) k
theorem sy_pickT {c x y : Operand} {v : Value} (hc : f.ev c = some (.bool true)) (hx : f.ev x = some v) (hw : gok ops f g = some true) (hn : Nat.blt d n = true) (k : Sy m P ops Q n D w0 M h0 rest ((d, v) :: f) h H) :
    Sy m P ops Q n D w0 M h0 (⟨some d, .pick c x y, t, p, af, g⟩ :: rest) f h H := sy_val hw rfl hn (fun a w ha _ => by simp [execOp, ha.ev hx, ha.ev hc, asBool]) k
theorem sy_pickF {c x y : Operand} {v : Value} (hc : f.ev c = some (.bool false)) (hy : f.ev y = some v) (hw : gok ops f g = some true) (hn : Nat.blt d n = true) (k : Sy m P ops Q n D w0 M h0 rest ((d, v) :: f) h H) :
    Sy m P ops Q n D w0 M h0 (⟨some d, .pick c x y, t, p, af, g⟩ :: rest) f h H := sy_val hw rfl hn (fun a w ha _ => by simp [execOp, ha.ev hy, ha.ev hc, asBool]) k
theorem sy_nilCheck {x : Operand} {ad : Addr} (hx : f.ev x = some (.pointer (some ad))) (hw : gok ops f g = some true) (hn : Nat.blt d n = true) (k : Sy m P ops Q n D w0 M h0 rest ((d, .pointer (some ad)) :: f) h H) :
    Sy m P ops Q n D w0 M h0 (⟨some d, .nilCheck x, t, p, af, g⟩ :: rest) f h H := sy_val hw rfl hn (fun a w ha _ => by simp [execOp, ha.ev hx]) k
theorem sy_not {x : Operand} {b : Bool} (hx : f.ev x = some (.bool b)) (hw : gok ops f g = some true) (hn : Nat.blt d n = true) (k : Sy m P ops Q n D w0 M h0 rest ((d, .bool (!b)) :: f) h H) :
    Sy m P ops Q n D w0 M h0 (⟨some d, .unOp .not s x, t, p, af, g⟩ :: rest) f h H := sy_val hw rfl hn (fun a w ha _ => by simp [execOp, ha.ev hx, Op.unary]) k
/-! whole numbers -/
theorem sy_cmp {op : BinOp} {x y : Operand} {ik : IntKind} {m1 m2 : Int} {b : Bool} {s2 : Nat} (hx : f.ev x = some (.int ik m1)) (hy : f.ev y = some (.int ik m2))
    (hb : match op with | .eql => b = (m1 == m2) | .neq => b = (m1 != m2) | .lss => b = decide (m1 < m2) | .leq => b = decide (m1 ≤ m2) | .gtr => b = decide (m1 > m2) | .geq => b = decide (m1 ≥ m2) | _ => False)
    (hw : gok ops f g = some true) (hn : Nat.blt d n = true) (k : Sy m P ops Q n D w0 M h0 rest ((d, .bool b) :: f) h H) :
    Sy m P ops Q n D w0 M h0 (⟨some d, .binOp op s x y s2, t, p, af, g⟩ :: rest) f h H := by
 refine sy_val hw rfl hn (fun a w ha _ => ?_) k
 cases op <;> simp only at hb <;> first | exact hb.elim | (subst hb; simp [execOp, ha.ev hx, ha.ev hy, eqGuard_at_int, binOp, Op.intCmp])
theorem sy_add {x y : Operand} {ik : IntKind} {m1 m2 : Int} {s2 : Nat} (hx : f.ev x = some (.int ik m1)) (hy : f.ev y = some (.int ik m2)) (hw : gok ops f g = some true) (hn : Nat.blt d n = true)
    (k : Sy m P ops Q n D w0 M h0 rest ((d, .int ik (ik.wrap (m1 + m2))) :: f) h H) : Sy m P ops Q n D w0 M h0 (⟨some d, .binOp .add s x y s2, t, p, af, g⟩ :: rest) f h H :=
 sy_val hw rfl hn (fun a w ha _ => by simp [execOp, ha.ev hx, ha.ev hy, binOp, Op.intArith, eqGuard_add]) k
theorem sy_sub {x y : Operand} {ik : IntKind} {m1 m2 : Int} {s2 : Nat} (hx : f.ev x = some (.int ik m1)) (hy : f.ev y = some (.int ik m2)) (hw : gok ops f g = some true) (hn : Nat.blt d n = true)
    (k : Sy m P ops Q n D w0 M h0 rest ((d, .int ik (ik.wrap (m1 - m2))) :: f) h H) : Sy m P ops Q n D w0 M h0 (⟨some d, .binOp .sub s x y s2, t, p, af, g⟩ :: rest) f h H :=
 sy_val hw rfl hn (fun a w ha _ => by simp [execOp, ha.ev hx, ha.ev hy, binOp, Op.intArith, eqGuard_sub]) k
theorem sy_mul {x y : Operand} {ik : IntKind} {m1 m2 : Int} {s2 : Nat} (hx : f.ev x = some (.int ik m1)) (hy : f.ev y = some (.int ik m2)) (hw : gok ops f g = some true) (hn : Nat.blt d n = true)
    (k : Sy m P ops Q n D w0 M h0 rest ((d, .int ik (ik.wrap (m1 * m2))) :: f) h H) : Sy m P ops Q n D w0 M h0 (⟨some d, .binOp .mul s x y s2, t, p, af, g⟩ :: rest) f h H :=
 sy_val hw rfl hn (fun a w ha _ => by simp [execOp, ha.ev hx, ha.ev hy, binOp, Op.intArith, eqGuard_mul]) k
theorem sy_addi {x y : Operand} {m1 m2 z : Int} {s2 : Nat} (hx : f.ev x = some (.int .i64 m1)) (hy : f.ev y = some (.int .i64 m2)) (hz : m1 + m2 = z) (hl : -9223372036854775808 ≤ z) (hu : z ≤ 9223372036854775807) (hw : gok ops f g = some true) (hn : Nat.blt d n = true)
    (k : Sy m P ops Q n D w0 M h0 rest ((d, .int .i64 z) :: f) h H) : Sy m P ops Q n D w0 M h0 (⟨some d, .binOp .add s x y s2, t, p, af, g⟩ :: rest) f h H :=
 sy_add hx hy hw hn (by rw [hz, IntWalk.i64_in z ⟨hl, hu⟩]; exact k)
theorem sy_subi {x y : Operand} {m1 m2 z : Int} {s2 : Nat} (hx : f.ev x = some (.int .i64 m1)) (hy : f.ev y = some (.int .i64 m2)) (hz : m1 - m2 = z) (hl : -9223372036854775808 ≤ z) (hu : z ≤ 9223372036854775807) (hw : gok ops f g = some true) (hn : Nat.blt d n = true)
    (k : Sy m P ops Q n D w0 M h0 rest ((d, .int .i64 z) :: f) h H) : Sy m P ops Q n D w0 M h0 (⟨some d, .binOp .sub s x y s2, t, p, af, g⟩ :: rest) f h H :=
 sy_sub hx hy hw hn (by rw [hz, IntWalk.i64_in z ⟨hl, hu⟩]; exact k)
theorem sy_muli {x y : Operand} {m1 m2 z : Int} {s2 : Nat} (hx : f.ev x = some (.int .i64 m1)) (hy : f.ev y = some (.int .i64 m2)) (hz : m1 * m2 = z) (hl : -9223372036854775808 ≤ z) (hu : z ≤ 9223372036854775807) (hw : gok ops f g = some true) (hn : Nat.blt d n = true)
    (k : Sy m P ops Q n D w0 M h0 rest ((d, .int .i64 z) :: f) h H) : Sy m P ops Q n D w0 M h0 (⟨some d, .binOp .mul s x y s2, t, p, af, g⟩ :: rest) f h H :=
 sy_mul hx hy hw hn (by rw [hz, IntWalk.i64_in z ⟨hl, hu⟩]; exact k)
theorem sy_bin {op : BinOp} {x y : Operand} {i1 i2 i3 : IntKind} {m1 m2 z : Int} {s2 : Nat} (hx : f.ev x = some (.int i1 m1)) (hy : f.ev y = some (.int i2 m2))
    (hop : op ≠ .eql ∧ op ≠ .neq) (hr : ∀ w, (binOp op s (.int i1 m1) (.int i2 m2)).run P w = .ok (.int i3 z) w) (hw : gok ops f g = some true) (hn : Nat.blt d n = true)
    (k : Sy m P ops Q n D w0 M h0 rest ((d, .int i3 z) :: f) h H) : Sy m P ops Q n D w0 M h0 (⟨some d, .binOp op s x y s2, t, p, af, g⟩ :: rest) f h H :=
 sy_val hw rfl hn (fun a w ha _ => by
  have he : eqGuard op s x y (.int i1 m1) (.int i2 m2) = pure () := by cases op <;> rfl
  simp [execOp, ha.ev hx, ha.ev hy, he, hr]) k
theorem run_rem {P : Program} {s : Nat} {a b z : Int} (h0 : 0 ≤ a) (h1 : 0 < b) (hb : b ≤ 9223372036854775807) (hz : a % b = z) (w : World) : (binOp .rem s (.int .i64 a) (.int .i64 b)).run P w = .ok (.int .i64 z) w := by
 have h2 : a.tmod b = a % b := Int.tmod_eq_emod_of_nonneg h0
 have h3 := Int.emod_nonneg a (show b ≠ 0 by omega)
 have h4 := Int.emod_lt_of_pos a h1
 have h5 : ¬ b = 0 := by omega
 have h6 : ¬ b = -1 := by omega
 subst hz
 simp [binOp, Op.intDiv, h5, h2, IntWalk.i64_in (a % b) ⟨by omega, by omega⟩]
theorem sy_rem {x y : Operand} {m1 m2 z : Int} {s2 : Nat} (hx : f.ev x = some (.int .i64 m1)) (hy : f.ev y = some (.int .i64 m2)) (h0' : 0 ≤ m1) (h1 : 0 < m2) (hb : m2 ≤ 9223372036854775807) (hz : m1 % m2 = z) (hw : gok ops f g = some true) (hn : Nat.blt d n = true)
    (k : Sy m P ops Q n D w0 M h0 rest ((d, .int .i64 z) :: f) h H) : Sy m P ops Q n D w0 M h0 (⟨some d, .binOp .rem s x y s2, t, p, af, g⟩ :: rest) f h H :=
 sy_bin hx hy ⟨by simp, by simp⟩ (fun w => run_rem h0' h1 hb hz w) hw hn k
/-! bools, strings, pointers -/
theorem sy_eqb {x y : Operand} {b1 b2 : Bool} {s2 : Nat} (hs : P.underlying s = some .bool) (hx : f.ev x = some (.bool b1)) (hy : f.ev y = some (.bool b2)) (hw : gok ops f g = some true) (hn : Nat.blt d n = true)
    (k : Sy m P ops Q n D w0 M h0 rest ((d, .bool (b1 == b2)) :: f) h H) : Sy m P ops Q n D w0 M h0 (⟨some d, .binOp .eql s x y s2, t, p, af, g⟩ :: rest) f h H :=
 sy_val hw rfl hn (fun a w ha _ => by simp [execOp, ha.ev hx, ha.ev hy, eqGuard_at_bool, binOp, equal_bool hs]) k
theorem sy_eqs {x y : Operand} {b1 b2 : ByteArray} {s2 : Nat} (hx : f.ev x = some (.string b1)) (hy : f.ev y = some (.string b2)) (hw : gok ops f g = some true) (hn : Nat.blt d n = true)
    (k : Sy m P ops Q n D w0 M h0 rest ((d, .bool (b1.data.toList == b2.data.toList)) :: f) h H) : Sy m P ops Q n D w0 M h0 (⟨some d, .binOp .eql s x y s2, t, p, af, g⟩ :: rest) f h H :=
 sy_val hw rfl hn (fun a w ha _ => by simp [execOp, ha.ev hx, ha.ev hy, eqGuard_at_string, binOp, Op.stringOp, ByteArray.toList_eq]) k
theorem sy_nes {x y : Operand} {b1 b2 : ByteArray} {s2 : Nat} (hx : f.ev x = some (.string b1)) (hy : f.ev y = some (.string b2)) (hw : gok ops f g = some true) (hn : Nat.blt d n = true)
    (k : Sy m P ops Q n D w0 M h0 rest ((d, .bool (!(b1.data.toList == b2.data.toList))) :: f) h H) : Sy m P ops Q n D w0 M h0 (⟨some d, .binOp .neq s x y s2, t, p, af, g⟩ :: rest) f h H :=
 sy_val hw rfl hn (fun a w ha _ => by simp [execOp, ha.ev hx, ha.ev hy, eqGuard_at_string, binOp, Op.stringOp, ByteArray.toList_eq]) k
theorem sy_cat {x y : Operand} {b1 b2 : ByteArray} {s2 : Nat} (hx : f.ev x = some (.string b1)) (hy : f.ev y = some (.string b2)) (hsz : b1.size + b2.size ≤ 9223372036854775807) (hw : gok ops f g = some true) (hn : Nat.blt d n = true)
    (k : Sy m P ops Q n D w0 M h0 rest ((d, .string (b1 ++ b2)) :: f) h H) : Sy m P ops Q n D w0 M h0 (⟨some d, .binOp .add s x y s2, t, p, af, g⟩ :: rest) f h H :=
 sy_val hw rfl hn (fun a w ha _ => by
  have h2 : ¬ (((b1.size + b2.size : Nat) : Int) > IntKind.i64.max) := by rw [IntKind.max_i64]; omega
  have h3 : ¬ ((9223372036854775807 : Int) < (b1.size : Int) + (b2.size : Int)) := by omega
  simp [execOp, ha.ev hx, ha.ev hy, eqGuard_add, binOp, Op.stringOp, h3]) k
theorem sy_eqp {op : BinOp} {x y : Operand} {e : Nat} {a1 : Option Addr} {b : Bool} {s2 : Nat} (hs : P.underlying s = some (.pointer e)) (hx : f.ev x = some (.pointer a1)) (hy : f.ev y = some (.pointer none))
    (hb : match op with | .eql => b = a1.isNone | .neq => b = !a1.isNone | _ => False) (hw : gok ops f g = some true) (hn : Nat.blt d n = true)
    (k : Sy m P ops Q n D w0 M h0 rest ((d, .bool b) :: f) h H) : Sy m P ops Q n D w0 M h0 (⟨some d, .binOp op s x y s2, t, p, af, g⟩ :: rest) f h H := by
 refine sy_val hw rfl hn (fun a w ha _ => ?_) k
 cases op <;> simp only at hb <;> first | exact hb.elim | (subst hb; simp [execOp, ha.ev hx, ha.ev hy, eqGuard_at_pointer, binOp, equal_ptr_nil hs])
theorem sy_len {x : Operand} {s1 : Nat} {z : Int} {v : Value} (hx : f.ev x = some v) (hz : ∀ w, (Builtin.len_ #[s1] t #[v]).run P w = .ok (.int .i64 z) w) (hw : gok ops f g = some true) (hn : Nat.blt d n = true)
    (k : Sy m P ops Q n D w0 M h0 rest ((d, .int .i64 z) :: f) h H) : Sy m P ops Q n D w0 M h0 (⟨some d, .call ⟨.builtin .len, #[x], #[s1]⟩, t, p, af, g⟩ :: rest) f h H :=
 sy_val hw rfl hn (fun a w ha _ => by simp [execOp, resolve, invoke, builtin, ha.ev hx, hz]) k
theorem len_slice {P : Program} {s1 e t : Nat} (hs : P.underlying s1 = some (.slice e)) (a : Option Addr) (m c : Nat) (w : World) : (Builtin.len_ #[s1] t #[.slice a m c]).run P w = .ok (.int .i64 (m : Int)) w := by
 simp [Builtin.len_, run_underlying hs, goInt]
theorem len_string {P : Program} {s1 t : Nat} (hs : P.underlying s1 = some .string) (s : ByteArray) (w : World) : (Builtin.len_ #[s1] t #[.string s]).run P w = .ok (.int .i64 (s.size : Int)) w := by
 simp [Builtin.len_, run_underlying hs, goInt]
theorem sy_idxs {x y : Operand} {bs : ByteArray} {ik : IntKind} {i : Int} {u : UInt8} (hs : P.underlying s = some .string) (hx : f.ev x = some (.string bs)) (hy : f.ev y = some (.int ik i)) (h0' : 0 ≤ i) (hu : bs[i.toNat]? = some u) (hw : gok ops f g = some true) (hn : Nat.blt d n = true)
    (k : Sy m P ops Q n D w0 M h0 rest ((d, .int .u8 (u.toNat : Int)) :: f) h H) : Sy m P ops Q n D w0 M h0 (⟨some d, .index s x y, t, p, af, g⟩ :: rest) f h H :=
 sy_val hw rfl hn (fun a w ha _ => by simp [execOp, ha.ev hx, ha.ev hy, Instr.index, asIntOf, run_underlying hs, h0', hu]) k
/-! places -/
theorem sy_field {x : Operand} {b off i o : Nat} (hs : fldB P s i o = true) (hx : f.ev x = some (.pointer (some ⟨b, off, none⟩))) (hw : gok ops f g = some true) (hn : Nat.blt d n = true)
    (k : Sy m P ops Q n D w0 M h0 rest ((d, .pointer (some ⟨b, off + o, none⟩)) :: f) h H) : Sy m P ops Q n D w0 M h0 (⟨some d, .fieldAddr s x i, t, p, af, g⟩ :: rest) f h H := by
 obtain ⟨fs, fl, inf, h1, h2, h3, h4, h5⟩ := fld_spec hs
 exact sy_val hw rfl hn (fun a w ha _ => by simp [execOp, ha.ev hx, Instr.fieldAt, run_underlying h1, h2, Instr.sureAddr, fieldPlace, sizeOf, typeInfo, h3, h4, h5, Addr.add_at]) k
theorem sy_idxA {x y : Operand} {b off len sz : Nat} {ik : IntKind} {i : Int} (hs : arrB P s len sz = true) (hx : f.ev x = some (.pointer (some ⟨b, off, none⟩))) (hy : f.ev y = some (.int ik i)) (h0' : 0 ≤ i) (h1 : i < len)
    (hw : gok ops f g = some true) (hn : Nat.blt d n = true)
    (k : Sy m P ops Q n D w0 M h0 rest ((d, .pointer (some ⟨b, off + i.toNat * sz, none⟩)) :: f) h H) : Sy m P ops Q n D w0 M h0 (⟨some d, .indexAddr s x y, t, p, af, g⟩ :: rest) f h H := by
 obtain ⟨e, inf, h2, h3, h4⟩ := arr_spec hs
 exact sy_val hw rfl hn (fun a w ha _ => by simp [execOp, ha.ev hx, ha.ev hy, Instr.indexAt, asIntOf, run_underlying h2, Instr.sureAddr, h0', h1, sizeOf, typeInfo, h3, h4, Addr.add_at]) k
theorem sy_idxS {x y : Operand} {b off len cap e sz : Nat} {ik : IntKind} {i : Int} (hs : elsB P s e sz = true) (hx : f.ev x = some (.slice (some ⟨b, off, none⟩) len cap)) (hy : f.ev y = some (.int ik i)) (h0' : 0 ≤ i) (h1 : i < len)
    (hw : gok ops f g = some true) (hn : Nat.blt d n = true)
    (k : Sy m P ops Q n D w0 M h0 rest ((d, .pointer (some ⟨b, off + i.toNat * sz, none⟩)) :: f) h H) : Sy m P ops Q n D w0 M h0 (⟨some d, .indexAddr s x y, t, p, af, g⟩ :: rest) f h H := by
 obtain ⟨h2, inf, h3, h4⟩ := els_spec hs
 exact sy_val hw rfl hn (fun a w ha _ => by simp [execOp, ha.ev hx, ha.ev hy, Instr.indexAt, asIntOf, run_underlying h2, h0', h1, sizeOf, typeInfo, h3, h4, Addr.add_at]) k
end ops
end
end Go.Proofs.YtanhhihechakhaaGreatDoor.E
set_option linter.unusedVariables false
set_option linter.unusedSimpArgs false
namespace Go.Proofs.YtanhhihechakhaaGreatDoor.E
open Go.RowKit
def pickR : Nat → List Res → Option (Res × List Res)
 | _, [] => none
 | 0, r :: t => some (r, t)
 | i + 1, r :: t => match pickR i t with
  | some (x, t') => some (x, r :: t')
  | none => none
theorem pickR_perm : ∀ {i : Nat} {H : List Res} {r : Res} {H1 : List Res}, pickR i H = some (r, H1) → H.Perm (r :: H1)
 | _, [], _, _, h => by simp [pickR] at h
 | 0, r :: t, _, _, h => by
  simp only [pickR, Option.some.injEq, Prod.mk.injEq] at h
  obtain ⟨rfl, rfl⟩ := h
  exact List.Perm.refl _
 | i + 1, r :: t, x, H1, h => by
  unfold pickR at h
  split at h
  · rename_i y t' hy
    simp only [Option.some.injEq, Prod.mk.injEq] at h
    obtain ⟨rfl, rfl⟩ := h
    exact ((pickR_perm hy).cons r).trans (List.Perm.swap _ _ _)
  · cases h
def selR : List Nat → List Res → Option (List Res)
 | [], _ => some []
 | i :: is, H => match pickR i H with
  | some (r, t) => (match selR is t with | some l => some (r :: l) | none => none)
  | none => none
theorem selR_spec : ∀ {is : List Nat} {H L : List Res}, selR is H = some L → ∃ H', H.Perm H' ∧ L.Sublist H'
 | [], H, L, h => by
  simp only [selR, Option.some.injEq] at h
  subst h
  exact ⟨H, List.Perm.refl _, List.nil_sublist _⟩
 | i :: is, H, L, h => by
  unfold selR at h
  split at h
  · rename_i r t hp
    split at h
    · rename_i l hl
      simp only [Option.some.injEq] at h
      subst h
      obtain ⟨H', h1, h2⟩ := selR_spec hl
      exact ⟨r :: H', (pickR_perm hp).trans (h1.cons r), h2.cons_cons r⟩
    · cases h
  · cases h
theorem St.sel {w0 : World} {M : List Nat} {h0 h : Hp} {H L : List Res} {w : World} {is : List Nat} (s : St w0 M h0 h H w) (hs : selR is H = some L) : St w0 M h0 h L w := by
 obtain ⟨H', h1, h2⟩ := selR_spec hs
 exact (s.swap h1).perm h2
def takeO : Nat → List Value → Option (List Value)
 | 0, _ => some []
 | _ + 1, [] => none
 | n + 1, v :: t => match takeO n t with
  | some t' => some (v :: t')
  | none => none
def dropO : Nat → List Value → Option (List Value)
 | 0, l => some l
 | _ + 1, [] => none
 | n + 1, _ :: t => dropO n t
def sliceO (off n : Nat) (l : List Value) : Option (List Value) := match dropO off l with
 | some t => takeO n t
 | none => none
theorem takeO_spec : ∀ {n : Nat} {l t : List Value}, takeO n l = some t → t.length = n ∧ ∀ (j : Nat) (u : Value), t[j]? = some u → l[j]? = some u
 | 0, _, _, h => by
  simp only [takeO, Option.some.injEq] at h
  subst h
  simp
 | n + 1, [], _, h => by simp [takeO] at h
 | n + 1, v :: l, t, h => by
  unfold takeO at h
  split at h
  · rename_i t' ht
    simp only [Option.some.injEq] at h
    subst h
    obtain ⟨h1, h2⟩ := takeO_spec ht
    refine ⟨by simp [h1], fun j u hj => ?_⟩
    cases j with
    | zero => simpa using hj
    | succ j => exact h2 j u (by simpa using hj)
  · cases h
theorem dropO_spec : ∀ {n : Nat} {l t : List Value}, dropO n l = some t → ∀ j : Nat, t[j]? = l[n + j]?
 | 0, _, _, h, j => by
  simp only [dropO, Option.some.injEq] at h
  subst h
  simp
 | n + 1, [], _, h, _ => by simp [dropO] at h
 | n + 1, v :: l, t, h, j => by
  rw [dropO_spec (n := n) (l := l) h j, show n + 1 + j = (n + j) + 1 by omega, List.getElem?_cons_succ]
theorem sliceO_spec {off n : Nat} {l t : List Value} (h : sliceO off n l = some t) : t.length = n ∧ ∀ (j : Nat) (u : Value), t[j]? = some u → l[off + j]? = some u := by
 unfold sliceO at h
 split at h
 · rename_i t' ht
   obtain ⟨h1, h2⟩ := takeO_spec h
   exact ⟨h1, fun j u hj => by rw [← dropO_spec ht j]; exact h2 j u hj⟩
 · cases h
def putO : Nat → List Value → List Value → Option (List Value)
 | 0, [], l => some l
 | 0, v :: vs, _ :: l => (match putO 0 vs l with | some r => some (v :: r) | none => none)
 | 0, _ :: _, [] => none
 | _ + 1, _, [] => none
 | n + 1, vs, x :: l => (match putO n vs l with | some r => some (x :: r) | none => none)
theorem putO_spec : ∀ {n : Nat} {vs l r : List Value}, putO n vs l = some r → n + vs.length ≤ l.length ∧ l.take n ++ vs ++ l.drop (n + vs.length) = r
 | 0, [], l, r, h => by
  simp only [putO, Option.some.injEq] at h
  subst h
  simp
 | 0, v :: vs, [], r, h => by simp [putO] at h
 | 0, v :: vs, x :: l, r, h => by
  unfold putO at h
  split at h
  · rename_i r' hr
    simp only [Option.some.injEq] at h
    subst h
    obtain ⟨h1, h2⟩ := putO_spec hr
    refine ⟨by simp at h1 ⊢; omega, ?_⟩
    rw [← h2]
    simp
  · cases h
 | n + 1, vs, [], r, h => by simp [putO] at h
 | n + 1, vs, x :: l, r, h => by
  unfold putO at h
  split at h
  · rename_i r' hr
    simp only [Option.some.injEq] at h
    subst h
    obtain ⟨h1, h2⟩ := putO_spec hr
    refine ⟨by simp; omega, ?_⟩
    rw [← h2]
    simp [Nat.add_right_comm]
  · cases h
def cellsO : Value → Option (List Value)
 | .agg ⟨l⟩ => some l
 | .tuple _ => none
 | v => some [v]
theorem cellsO_spec {v : Value} {cs : List Value} (h : cellsO v = some cs) : v.cells = cs.toArray := by
 cases v <;> simp [cellsO] at h <;> first | (subst h; rfl)
def ones : List Value → Bool
 | [] => true
 | v :: t => v.oneCell' && ones t
theorem ones_spec : ∀ {l : List Value}, ones l = true → ∀ v ∈ l, v.oneCell' = true
 | [], _, _, h => by cases h
 | x :: t, h, v, hv => by
  simp only [ones, Bool.and_eq_true] at h
  rcases List.mem_cons.1 hv with rfl | hv
  · exact h.1
  · exact ones_spec h.2 v hv
def zerL (P : Program) (t : Nat) : Option (List Value) := match P.info? t with
 | some i => (match i.zero with | some z => cellsO z | none => none)
 | none => none
section
variable {m : Md} {P : Program} {ops : Array Oper} {Q : Exit → Act → World → Prop} {n : Nat} {D : List Deferred} {w0 : World} {M : List Nat} {h0 : Hp}
variable {f : Tab} {h : Hp} {H : List Res} {rest : List Oper} {o : Oper}
theorem sy_sel {L : List Res} (is : List Nat) (hp : selR is H = some L) (k : Sy .txt P ops Q n D w0 M h0 rest f h L) : Sy .txt P ops Q n D w0 M h0 rest f h H := fun a w ha hs => k a w ha (hs.sel hp)
theorem cy_nilRow {c : Code} (e size : Nat) (k : Cy P c Q n D w0 M h0 f h (.row (.slice none 0 0) e size 0 [] :: H)) : Cy P c Q n D w0 M h0 f h H := fun a w ha hs => k a w ha (hs.nilRow e size)
theorem frz {g : Nat} {o' : Obj} {H1 : List Res} {w : World} (i : Nat) (hp : pickR i H = some (.blk g o', H1)) (hM : g ∉ M) (hs : St w0 M h0 h H w) : ∃ h', h.Le h' ∧ h' g = some o' ∧ St w0 M h0 h' H1 w := by
 obtain ⟨h1, h2⟩ := (hs.swap (pickR_perm hp)).freeze hM
 exact ⟨_, h2, by simp, h1⟩
theorem sy_frz {g : Nat} {o' : Obj} {H1 : List Res} (i : Nat) (hp : pickR i H = some (.blk g o', H1)) (hM : g ∉ M) (k : ∀ h', h.Le h' → h' g = some o' → Sy .txt P ops Q n D w0 M h0 rest f h' H1) : Sy .txt P ops Q n D w0 M h0 rest f h H := fun a w ha hs => by
 obtain ⟨h', h1, h2, h3⟩ := frz i hp hM hs
 exact k h' h1 h2 a w ha h3
theorem cy_frz {c : Code} {g : Nat} {o' : Obj} {H1 : List Res} (i : Nat) (hp : pickR i H = some (.blk g o', H1)) (hM : g ∉ M) (k : ∀ h', h.Le h' → h' g = some o' → Cy P c Q n D w0 M h0 f h' H1) : Cy P c Q n D w0 M h0 f h H := fun a w ha hs => by
 obtain ⟨h', h1, h2, h3⟩ := frz i hp hM hs
 exact k h' h1 h2 a w ha h3
theorem frzRow {v : Value} {e size l : Nat} {xs : List Value} {H1 : List Res} {w : World} (i : Nat) (hp : pickR i H = some (.row v e size l xs, H1)) (hM : ∀ g, v.ownBlock = some g → g ∉ M) (hs : St w0 M h0 h H w) :
    ∃ A c h', v = .slice A l c ∧ l ≤ c ∧ c ≤ maxLen ∧ xs.length = l * size ∧ h.Le h' ∧ (∀ j u, xs[j]? = some u → ∃ g, A = some ⟨g, 0, none⟩ ∧ h'.cell ⟨g, j, none⟩ = some u) ∧ (0 < l → ∃ g, A = some ⟨g, 0, none⟩) ∧ St w0 M h0 h' H1 w := by
 have hs' := hs.swap (pickR_perm hp)
 have hr : w.ownsRow 0 e size v l xs := hs'.ok _ (List.mem_cons_self)
 obtain ⟨hlen, hr'⟩ := hr
 rcases hr' with ⟨rfl, rfl⟩ | ⟨g, cap, cur, rfl, _, hg, hnc, hcm, hcs, htk⟩
 · refine ⟨none, 0, h, rfl, Nat.le_refl _, by simp [maxLen], hlen, Hp.Le.refl h, fun j u hj => ?_, fun h => absurd h (by omega), hs'.perm (List.sublist_cons_self _ _)⟩
   have : xs = [] := List.eq_nil_of_length_eq_zero (by simpa using hlen)
   subst this
   simp at hj
 · have hst : St w0 M h0 h (.blk g (.cells cur e (0, 0)) :: H1) w :=
    { hs' with
     ok := fun r hr => by
      rcases List.mem_cons.1 hr with rfl | hr
      · exact hg
      · exact hs'.ok r (List.mem_cons_of_mem _ hr)
     own := fun r hr k hk => by
      rcases List.mem_cons.1 hr with rfl | hr
      · exact hs'.own _ (List.mem_cons_self) k hk
      · exact hs'.own r (List.mem_cons_of_mem _ hr) k hk
     dis := List.Pairwise.cons (fun r hr k hk => (List.pairwise_cons.1 hs'.dis).1 r hr k hk) (List.pairwise_cons.1 hs'.dis).2 }
   obtain ⟨h1, h2⟩ := hst.freeze (hM g rfl)
   refine ⟨_, cap, _, rfl, hnc, hcm, hlen, h2, fun j u hj => ⟨g, rfl, ?_⟩, fun _ => ⟨g, rfl⟩, h1⟩
   have : cur[j]? = some u := by
    rw [← htk, List.getElem?_take] at hj
    split at hj
    · simpa using hj
    · cases hj
   simp [Hp.cell, this]
section ops
variable {d t s : Nat} {p : String} {af : Array Edge} {g : Option (Nat × Bool)}
/-! loads -/
theorem sy_ldv {x : Operand} {b off : Nat} {v : Value} (ht : oneB P t = true) (hx : f.ev x = some (.pointer (some ⟨b, off, none⟩))) (hc : ∀ w, St w0 M h0 h H w → w.cell? ⟨b, off, none⟩ = some v)
    (hw : gok ops f g = some true) (hn : Nat.blt d n = true) (k : Sy m P ops Q n D w0 M h0 rest ((d, v) :: f) h H) : Sy m P ops Q n D w0 M h0 (⟨some d, .load t x, s, p, af, g⟩ :: rest) f h H :=
 sy_val hw rfl hn (fun a w ha hs => by simp [execOp, ha.ev hx, Instr.loadAt, Instr.sureAddr, loadVar, one_spec ht, hc w hs]) k
theorem sy_ldh {x : Operand} {b off : Nat} {v : Value} (ht : oneB P t = true) (hx : f.ev x = some (.pointer (some ⟨b, off, none⟩))) (hc : h.cell ⟨b, off, none⟩ = some v)
    (hw : gok ops f g = some true) (hn : Nat.blt d n = true) (k : Sy m P ops Q n D w0 M h0 rest ((d, v) :: f) h H) : Sy m P ops Q n D w0 M h0 (⟨some d, .load t x, s, p, af, g⟩ :: rest) f h H :=
 sy_ldv ht hx (fun w hs => hs.sub.cell hc) hw hn k
theorem sy_ldr {x : Operand} {b off e : Nat} {cs : List Value} {H1 : List Res} {fr : Nat × Nat} {v : Value} (i : Nat) (ht : oneB P t = true) (hx : f.ev x = some (.pointer (some ⟨b, off, none⟩))) (hp : pickR i H = some (.blk b (.cells cs.toArray e fr), H1)) (hc : cs[off]? = some v)
    (hw : gok ops f g = some true) (hn : Nat.blt d n = true) (k : Sy m P ops Q n D w0 M h0 rest ((d, v) :: f) h H) : Sy m P ops Q n D w0 M h0 (⟨some d, .load t x, s, p, af, g⟩ :: rest) f h H :=
 sy_ldv ht hx (fun w hs => by
  have h1 : w.heap[b]? = some (.cells cs.toArray e fr) := (hs.swap (pickR_perm hp)).ok _ (List.mem_cons_self)
  simp [World.cell?, h1, hc]) hw hn k
theorem sy_ldav {x : Operand} {b off l : Nat} {vs : List Value} (ht : aggB P t l = true) (hl : vs.length = l) (hx : f.ev x = some (.pointer (some ⟨b, off, none⟩))) (hc : ∀ w, St w0 M h0 h H w → ∀ j u, vs[j]? = some u → w.cell? ⟨b, off + j, none⟩ = some u)
    (hw : gok ops f g = some true) (hn : Nat.blt d n = true) (k : Sy m P ops Q n D w0 M h0 rest ((d, .agg vs.toArray) :: f) h H) : Sy m P ops Q n D w0 M h0 (⟨some d, .load t x, s, p, af, g⟩ :: rest) f h H :=
 sy_val hw rfl hn (fun a w ha hs => by
  obtain ⟨h1, h2⟩ := agg_spec ht w
  subst hl
  have h3 := run_loadCells_list (P := P) w ⟨b, off, none⟩ vs (fun j u hj => by rw [Addr.add_at]; exact hc w hs j u hj)
  simp [execOp, ha.ev hx, Instr.loadAt, Instr.sureAddr, loadVar, h1, h2, h3]) k
theorem sy_ldah {x : Operand} {b off l : Nat} {vs : List Value} (ht : aggB P t l = true) (hl : vs.length = l) (hx : f.ev x = some (.pointer (some ⟨b, off, none⟩))) (hc : ∀ j u, vs[j]? = some u → h.cell ⟨b, off + j, none⟩ = some u)
    (hw : gok ops f g = some true) (hn : Nat.blt d n = true) (k : Sy m P ops Q n D w0 M h0 rest ((d, .agg vs.toArray) :: f) h H) : Sy m P ops Q n D w0 M h0 (⟨some d, .load t x, s, p, af, g⟩ :: rest) f h H :=
 sy_ldav ht hl hx (fun w hs j u hj => hs.sub.cell (hc j u hj)) hw hn k
theorem sy_ldar {x : Operand} {b off l e : Nat} {cs vs : List Value} {H1 : List Res} {fr : Nat × Nat} (i : Nat) (ht : aggB P t l = true) (hx : f.ev x = some (.pointer (some ⟨b, off, none⟩))) (hp : pickR i H = some (.blk b (.cells cs.toArray e fr), H1)) (hc : sliceO off l cs = some vs)
    (hw : gok ops f g = some true) (hn : Nat.blt d n = true) (k : Sy m P ops Q n D w0 M h0 rest ((d, .agg vs.toArray) :: f) h H) : Sy m P ops Q n D w0 M h0 (⟨some d, .load t x, s, p, af, g⟩ :: rest) f h H :=
 sy_ldav ht (sliceO_spec hc).1 hx (fun w hs j u hj => by
  have h1 : w.heap[b]? = some (.cells cs.toArray e fr) := (hs.swap (pickR_perm hp)).ok _ (List.mem_cons_self)
  simp [World.cell?, h1, (sliceO_spec hc).2 j u hj]) hw hn k
/-! stores into an owned block -/
theorem sy_st {x y : Operand} {b off e : Nat} {v : Value} {vs cs cs' : List Value} {H1 : List Res} (i : Nat) (hx : f.ev x = some (.pointer (some ⟨b, off, none⟩))) (hy : f.ev y = some v) (hv : cellsO v = some vs) (h1 : ones vs = true)
    (hz : ∀ w, (sizeOf t).run P w = .ok vs.length w) (hp : pickR i H = some (.blk b (.cells cs.toArray e (0, 0)), H1)) (hc : off + vs.length ≤ cs.length) (hc' : cs.take off ++ vs ++ cs.drop (off + vs.length) = cs')
    (hw : gok ops f g = some true) (k : Sy .txt P ops Q n D w0 M h0 rest f h (.blk b (.cells cs'.toArray e (0, 0)) :: H1)) : Sy .txt P ops Q n D w0 M h0 (⟨none, .store t x y, s, p, af, g⟩ :: rest) f h H :=
 sy_op hw fun a w ha hs => by
  have hs' := hs.swap (pickR_perm hp)
  have hb : w.heap[b]? = some (.cells cs.toArray e (0, 0)) := hs'.ok _ (List.mem_cons_self)
  have hst := run_storeCells_at P b off e vs 0 cs.toArray w hb (by simpa using hc) (ones_spec h1)
  simp only [Nat.add_zero] at hst
  have hcells := cellsO_spec hv
  have hrun : (execOp a.eval ⟨none, .store t x y, s, p, af, g⟩).run P w = .ok .skip (w.setRow b cs'.toArray) := by
   have h2 : v.cells.size = vs.length := by rw [hcells]; simp
   have h3 : v.cells.toList = vs := by rw [hcells]
   simp [execOp, ha.ev hx, ha.ev hy, Instr.storeAt, Instr.sureAddr, storeVar, hz, h2, h3, hst, hc']
  unfold Oper.wp
  rw [hrun]
  refine k a _ ha (hs'.write (o' := .cells cs'.toArray e (0, 0)) ⟨rfl, rfl, rfl, by simp [World.setRow], fun j hj hm => setRow_other w b j _ (by simpa using hm)⟩ (setRow_heap w b cs.toArray _ e _ hb))
def szB (P : Program) (t sz : Nat) : Bool := match P.info? t with | some inf => inf.size == sz | none => false
theorem sz_spec {P : Program} {t sz : Nat} (h : szB P t sz = true) (w : World) : (sizeOf t).run P w = .ok sz w := by
 unfold szB at h
 split at h
 · rename_i inf hi
   have : inf.size = sz := by simpa using h
   simp [sizeOf, typeInfo, hi, this]
 · cases h
theorem sy_stl {x y : Operand} {b off e sz : Nat} {v : Value} {vs cs cs' : List Value} {H1 : List Res} (i : Nat) (hz : szB P t sz = true) (hx : f.ev x = some (.pointer (some ⟨b, off, none⟩))) (hy : f.ev y = some v) (hv : cellsO v = some vs) (hvl : vs.length = sz) (h1 : ones vs = true)
    (hp : pickR i H = some (.blk b (.cells cs.toArray e (0, 0)), H1)) (hc : putO off vs cs = some cs')
    (hw : gok ops f g = some true) (k : Sy .txt P ops Q n D w0 M h0 rest f h (.blk b (.cells cs'.toArray e (0, 0)) :: H1)) : Sy .txt P ops Q n D w0 M h0 (⟨none, .store t x y, s, p, af, g⟩ :: rest) f h H :=
 sy_st i hx hy hv h1 (by rw [hvl]; exact sz_spec hz) hp (putO_spec hc).1 (putO_spec hc).2 hw k
/-! new blocks -/
theorem zerL_spec {P : Program} {t : Nat} {zs : List Value} (h : zerL P t = some zs) (w : World) : ∃ z, (zeroValue t).run P w = .ok z w ∧ z.cells = zs.toArray := by
 unfold zerL at h
 split at h
 · rename_i i hi
   split at h
   · rename_i z hz
     exact ⟨z, by simp [zeroValue, typeInfo, hi, hz], cellsO_spec h⟩
   · cases h
 · cases h
theorem sy_alloc {zs : List Value} (hz : zerL P t = some zs) (hw : gok ops f g = some true) (hn : Nat.blt d n = true)
    (k : ∀ b, w0.heap.size ≤ b → b ∉ M → Sy .txt P ops Q n D w0 M h0 rest ((d, .pointer (some ⟨b, 0, none⟩)) :: f) h (.blk b (.cells zs.toArray t (0, 0)) :: H)) (hM : ∀ x ∈ M, x < w0.heap.size) :
    Sy .txt P ops Q n D w0 M h0 (⟨some d, .alloc t, s, p, af, g⟩ :: rest) f h H :=
 sy_op hw fun a w ha hs => by
  obtain ⟨z, h1, h2⟩ := zerL_spec hz w
  have hrun : (execOp a.eval ⟨some d, .alloc t, s, p, af, g⟩).run P w = .ok (.value (.pointer (some ⟨w.heap.size, 0, none⟩))) (w.alloc (.cells zs.toArray t)) := by
   simp [execOp, Instr.alloc, h1, newVar, newRow, h2]
  unfold Oper.wp
  rw [hrun]
  exact k w.heap.size hs.frm.size (fun hx => by have := hM _ hx; have := hs.frm.size; omega) _ _ (ha.put d _ hn) (hs.alloc _)
theorem sy_box {x : Operand} {v : Value} {cs : List Value} (hx : f.ev x = some v) (hv : cellsO v = some cs) (hw : gok ops f g = some true) (hn : Nat.blt d n = true)
    (k : ∀ b, w0.heap.size ≤ b → b ∉ M → Sy .txt P ops Q n D w0 M h0 rest ((d, .pointer (some ⟨b, 0, none⟩)) :: f) h (.blk b (.cells cs.toArray t (0, 0)) :: H)) (hM : ∀ x ∈ M, x < w0.heap.size) :
    Sy .txt P ops Q n D w0 M h0 (⟨some d, .box t x, s, p, af, g⟩ :: rest) f h H :=
 sy_op hw fun a w ha hs => by
  have h2 := cellsO_spec hv
  have hrun : (execOp a.eval ⟨some d, .box t x, s, p, af, g⟩).run P w = .ok (.value (.pointer (some ⟨w.heap.size, 0, none⟩))) (w.alloc (.cells cs.toArray t)) := by
   simp [execOp, Instr.box, ha.ev hx, newVar, newRow, h2]
  unfold Oper.wp
  rw [hrun]
  exact k w.heap.size hs.frm.size (fun hx => by have := hM _ hx; have := hs.frm.size; omega) _ _ (ha.put d _ hn) (hs.alloc _)
/-! structs, arrays and slices built -/
def partsO (f : Tab) : List (Nat × Operand) → Option (List (Nat × Value))
 | [] => some []
 | (i, x) :: r => match f.ev x with
  | some v => (match partsO f r with | some vs => some ((i, v) :: vs) | none => none)
  | none => none
theorem partsO_spec {D : List Deferred} {f : Tab} {a : Act} (ha : Holds n D f a) : ∀ {ps : List (Nat × Operand)} {vs : List (Nat × Value)}, partsO f ps = some vs → ps.map (fun q => (q.1, a.eval q.2)) = vs
 | [], vs, hx => by simpa [partsO] using hx
 | (i, x) :: r, vs, hx => by
  unfold partsO at hx
  split at hx
  · rename_i v hv
    split at hx
    · rename_i ws hws
      simp only [Option.some.injEq] at hx
      subst hx
      simp [ha.ev hv, partsO_spec ha hws]
    · cases hx
  · cases hx
theorem sy_build {ps : Array (Nat × Operand)} {vs : List (Nat × Value)} {v : Value} (hx : partsO f ps.toList = some vs) (hr : ∀ w, (Instr.build t vs.toArray).run P w = .ok v w) (hw : gok ops f g = some true) (hn : Nat.blt d n = true)
    (k : Sy m P ops Q n D w0 M h0 rest ((d, v) :: f) h H) : Sy m P ops Q n D w0 M h0 (⟨some d, .build t ps, s, p, af, g⟩ :: rest) f h H :=
 sy_val hw rfl hn (fun a w ha _ => by
  have h1 : (ps.map fun q => (q.1, a.eval q.2)) = vs.toArray := by
   rw [← partsO_spec ha hx]
   apply Array.ext'
   simp
  have h2 : (ps.map fun x => match x with | (i, x) => (i, a.eval x)) = vs.toArray := h1
  simp only [execOp, h2, Sem.run_bind, hr, Result.andThen_ok, Sem.run_pure]) k
theorem sy_buildSlice {ps : Array (Nat × Operand)} {vs : List (Nat × Value)} {cs : List Value} {e l : Nat} (hx : partsO f ps.toList = some vs)
    (hr : ∀ w, (Instr.buildSlice t l vs.toArray).run P w = .ok (.slice (some ⟨w.heap.size, 0, none⟩) l l) (w.alloc (.cells cs.toArray e))) (hw : gok ops f g = some true) (hn : Nat.blt d n = true)
    (k : ∀ b, w0.heap.size ≤ b → b ∉ M → Sy .txt P ops Q n D w0 M h0 rest ((d, .slice (some ⟨b, 0, none⟩) l l) :: f) h (.blk b (.cells cs.toArray e (0, 0)) :: H)) (hM : ∀ x ∈ M, x < w0.heap.size) :
    Sy .txt P ops Q n D w0 M h0 (⟨some d, .buildSlice t l ps, s, p, af, g⟩ :: rest) f h H :=
 sy_op hw fun a w ha hs => by
  have h1 : (ps.map fun q => (q.1, a.eval q.2)) = vs.toArray := by
   rw [← partsO_spec ha hx]
   apply Array.ext'
   simp
  have h2 : (ps.map fun x => match x with | (i, x) => (i, a.eval x)) = vs.toArray := h1
  have hrun : (execOp a.eval ⟨some d, .buildSlice t l ps, s, p, af, g⟩).run P w = .ok (.value (.slice (some ⟨w.heap.size, 0, none⟩) l l)) (w.alloc (.cells cs.toArray e)) := by
   simp only [execOp, h2, Sem.run_bind, hr, Result.andThen_ok, Sem.run_pure]
  unfold Oper.wp
  rw [hrun]
  exact k w.heap.size hs.frm.size (fun hx => by have := hM _ hx; have := hs.frm.size; omega) _ _ (ha.put d _ hn) (hs.alloc _)
/-! append of what lies in a block of one's own -/
def rowB (P : Program) (t e size bytes : Nat) : Bool :=
 (match P.underlying t with
 | some (.slice e') => e' == e
 | _ => false) && (match P.info? e with
 | some inf => inf.size == size && inf.bytes == bytes && (match inf.zero with | some z => z.cells.size == size | none => false)
 | none => false)
theorem row_spec {P : Program} {t e size bytes : Nat} (h : rowB P t e size bytes = true) : P.underlying t = some (.slice e) ∧ ∃ inf z, P.info? e = some inf ∧ inf.zero = some z ∧ inf.size = size ∧ inf.bytes = bytes ∧ z.cells.size = size := by
 unfold rowB at h
 rw [Bool.and_eq_true] at h
 obtain ⟨h1, h2⟩ := h
 constructor
 · split at h1
   · rename_i e' he
     have : e' = e := by simpa using h1
     rw [he, this]
   · cases h1
 · split at h2
   · rename_i inf hi
     rw [Bool.and_eq_true, Bool.and_eq_true] at h2
     obtain ⟨⟨h3, h4⟩, h5⟩ := h2
     split at h5
     · rename_i z hz
       exact ⟨inf, z, hi, hz, by simpa using h3, by simpa using h4, by simpa using h5⟩
     · cases h5
   · cases h2
theorem sy_append {x y : Operand} {v : Value} {e size bytes l mm c b : Nat} {xs cs news : List Value} {H1 : List Res} {e2 : Nat} {fr : Nat × Nat} {H2 : List Res} (i j : Nat) (hr : rowB P s e size bytes = true) (h0' : 0 < size)
    (hx : f.ev x = some v) (hp : pickR i H = some (.row v e size l xs, H1)) (hy : f.ev y = some (.slice (some ⟨b, 0, none⟩) mm c)) (hq : pickR j H = some (.blk b (.cells cs.toArray e2 fr), H2))
    (hnews : sliceO 0 (mm * size) cs = some news) (h1 : ones news = true) (hb : (l + mm) * bytes ≤ 140737488355328) (hlen : l + mm ≤ maxLen) (hw : gok ops f g = some true) (hn : Nat.blt d n = true)
    (k : ∀ v', Sy .txt P ops Q n D w0 M h0 rest ((d, v') :: f) h (.row v' e size (l + mm) (xs ++ news) :: H1)) :
    Sy .txt P ops Q n D w0 M h0 (⟨some d, .call ⟨.builtin .append, #[x, y], #[s, s]⟩, t, p, af, g⟩ :: rest) f h H :=
 sy_op hw fun a w ha hs => by
  obtain ⟨h2, inf, z, h3, h4, h5, h6, h7⟩ := row_spec hr
  have hs' := hs.swap (pickR_perm hp)
  have ho : w.ownsRow 0 e size v l xs := hs'.ok _ (List.mem_cons_self)
  have hbk : w.heap[b]? = some (.cells cs.toArray e2 fr) := (hs.swap (pickR_perm hq)).ok _ (List.mem_cons_self)
  obtain ⟨hl1, hl2⟩ := sliceO_spec hnews
  have hcell : ∀ jj u, news[jj]? = some u → w.cell? ((⟨b, 0, none⟩ : Addr).add jj) = some u := fun jj u hj => by
   rw [Addr.add_at]
   have := hl2 jj u hj
   simp only [Nat.zero_add] at this ⊢
   simp [World.cell?, hbk, this]
  obtain ⟨v', w', hrun, ho', hg, _, hat⟩ := run_append_own_at (P := P) w 0 s t e inf z size bytes h2 h3 h4 h5 h6 h7 h0' v l xs ho ⟨b, 0, none⟩ mm c news hl1 hcell (ones_spec h1) hlen hb (Nat.zero_le _)
  have hrun' : (execOp a.eval ⟨some d, .call ⟨.builtin .append, #[x, y], #[s, s]⟩, t, p, af, g⟩).run P w = .ok (.value v') w' := by
   simp only [execOp, resolve, invoke, builtin, Sem.run_bind, Sem.run_pure, Result.andThen_ok, List.map_toArray, List.map_cons, List.map_nil, ha.ev hx, ha.ev hy, hrun]
  unfold Oper.wp
  rw [hrun']
  refine k v' _ w' (ha.put d _ hn) (hs'.rowed hg ho' ?_)
  rcases hat with hat | hat
  · exact .inl hat
  · exact .inr (.inl ⟨_, hat, Nat.le_refl _⟩)
end ops
end
end Go.Proofs.YtanhhihechakhaaGreatDoor.E
set_option linter.unusedVariables false
set_option linter.unusedSimpArgs false
namespace Go.Proofs.YtanhhihechakhaaGreatDoor.E
open Go.RowKit
/-! contracts -/
/-- it returns v, and leaves memory as it is but for what is new -/
def C0 (P : Program) (F : Nat) (vs : List Value) (h : Hp) (v : Value) : Prop := ∀ w, h.Sub w → Calls P F vs.toArray w fun e w' => e = .returned v ∧ Frm w [] w'
def CX {X : Type} (P : Program) (F : Nat) (vs : List Value) (h : Hp) (rv : X → Value) (Φ : X → Hp → Prop) : Prop :=
 ∀ w, h.Sub w → Calls P F vs.toArray w fun e w' => ∃ x h', e = .returned (rv x) ∧ Φ x h' ∧ Grow h w h' w'
def CM (P : Program) (F : Nat) (vs : List Value) (h : Hp) (g : Nat) (o : Obj) (v : Value) (o' : Obj) : Prop :=
 ∀ w, h.Sub w → h g = none → w.heap[g]? = some o → Calls P F vs.toArray w fun e w' => e = .returned v ∧ Frm w [g] w' ∧ w'.heap[g]? = some o'
def Hp.upd (h : Hp) (g : Nat) (o : Obj) : Hp := fun k => if k = g then some o else h k
theorem Hp.upd_sub {h : Hp} {g : Nat} {o : Obj} {w : World} (hs : h.Sub w) (hg : w.heap[g]? = some o) : (h.upd g o).Sub w := fun k o' hk => by
 by_cases e : k = g
 · subst e
   simp only [Hp.upd, if_true, Option.some.injEq] at hk
   subst hk
   exact hg
 · exact hs k o' (by simpa [Hp.upd, e] using hk)
def callB (P : Program) (F : Nat) : Bool := match P.funcs[F]? with
 | some fn => !(fn.name == "runtime.NumGoroutine") && fn.body.isSome
 | none => false
theorem call_spec {P : Program} {F : Nat} (h : callB P F = true) (args : Array Value) (w : World) : (callFunc F args).run P w = .ok (.enter F args) w := by
 unfold callB at h
 split at h
 · rename_i fn hf
   rw [Bool.and_eq_true] at h
   obtain ⟨h1, h2⟩ := h
   have h1' : ¬ fn.name = "runtime.NumGoroutine" := by simpa using h1
   have h2' : ¬ fn.body = none := by
    intro hb
    rw [hb] at h2
    cases h2
   simp [callFunc, hf, h1', h2']
 · cases h
section
variable {m : Md} {P : Program} {ops : Array Oper} {Q : Exit → Act → World → Prop} {n : Nat} {D : List Deferred} {w0 : World} {M : List Nat} {h0 : Hp}
variable {f : Tab} {h : Hp} {H : List Res} {rest : List Oper} {o : Oper}
section calls
variable {d t : Nat} {p : String} {af : Array Edge} {g : Option (Nat × Bool)} {F : Nat} {args : Array Operand} {tys : Array TypeId} {vs : List Value}
theorem run_callF {a : Act} {w : World} {dst : Option Nat} (hF : callB P F = true) (ha : Holds n D f a) (hx : f.evs args.toList = some vs) :
    (execOp a.eval ⟨dst, .call ⟨.value (.func F), args, tys⟩, t, p, af, g⟩).run P w = .ok (.enter F vs.toArray) w := by
 have h1 : args.map a.eval = vs.toArray := by
  rw [← ha.evs hx]
  apply Array.ext'
  simp
 simp only [execOp, resolve, h1, Act.eval, Deferred.ofValue, Sem.run_bind, Sem.run_pure, Result.andThen_ok, invoke, Array.empty_append, Array.append_empty, call_spec hF]
theorem sy_call {v : Value} (hm : m.plain = true) (hF : callB P F = true) (hx : f.evs args.toList = some vs) (hc : C0 P F vs h v) (hw : gok ops f g = some true) (hn : Nat.blt d n = true)
    (k : Sy m P ops Q n D w0 M h0 rest ((d, v) :: f) h H) : Sy m P ops Q n D w0 M h0 (⟨some d, .call ⟨.value (.func F), args, tys⟩, t, p, af, g⟩ :: rest) f h H :=
 sy_enter hm hw rfl hn (fun a w ha => run_callF hF ha hx) (fun w hs => hc w hs.sub) k
theorem sy_callr {v : Value} {b : Nat} {ob : Obj} {H1 : List Res} (i : Nat) (hm : m.plain = true) (hF : callB P F = true) (hx : f.evs args.toList = some vs) (hp : pickR i H = some (.blk b ob, H1)) (hc : C0 P F vs (h.upd b ob) v) (hw : gok ops f g = some true) (hn : Nat.blt d n = true)
    (k : Sy m P ops Q n D w0 M h0 rest ((d, v) :: f) h H) : Sy m P ops Q n D w0 M h0 (⟨some d, .call ⟨.value (.func F), args, tys⟩, t, p, af, g⟩ :: rest) f h H :=
 sy_enter hm hw rfl hn (fun a w ha => run_callF hF ha hx) (fun w hs => hc w (Hp.upd_sub hs.sub ((hs.swap (pickR_perm hp)).ok _ (List.mem_cons_self)))) k
theorem sy_callx {X : Type} {rv : X → Value} {Φ : X → Hp → Prop} (hF : callB P F = true) (hx : f.evs args.toList = some vs) (hc : CX P F vs h rv Φ) (hw : gok ops f g = some true) (hn : Nat.blt d n = true)
    (k : ∀ x h', Φ x h' → h.Le h' → Sy .txt P ops Q n D w0 M h0 rest ((d, rv x) :: f) h' H) : Sy .txt P ops Q n D w0 M h0 (⟨some d, .call ⟨.value (.func F), args, tys⟩, t, p, af, g⟩ :: rest) f h H :=
 sy_op hw fun a w ha hs => by
  unfold Oper.wp
  rw [run_callF hF ha hx]
  refine (hc w hs.sub).mono fun e w' ⟨x, h', he, hΦ, hg⟩ => ?_
  subst he
  exact k x h' hΦ hg.le _ w' (ha.put d _ hn) (hs.grow' hg)
theorem sy_callm {v : Value} {b : Nat} {ob ob' : Obj} {H1 : List Res} (i : Nat) (hF : callB P F = true) (hx : f.evs args.toList = some vs) (hp : pickR i H = some (.blk b ob, H1)) (hc : CM P F vs h b ob v ob') (hw : gok ops f g = some true) (hn : Nat.blt d n = true)
    (k : Sy .txt P ops Q n D w0 M h0 rest ((d, v) :: f) h (.blk b ob' :: H1)) : Sy .txt P ops Q n D w0 M h0 (⟨some d, .call ⟨.value (.func F), args, tys⟩, t, p, af, g⟩ :: rest) f h H :=
 sy_op hw fun a w ha hs => by
  have hs' := hs.swap (pickR_perm hp)
  unfold Oper.wp
  rw [run_callF hF ha hx]
  refine (hc w hs.sub (hs'.own _ (List.mem_cons_self) b rfl).1 (hs'.ok _ (List.mem_cons_self))).mono fun e w' ⟨he, hf, hg⟩ => ?_
  subst he
  exact k _ w' (ha.put d _ hn) (hs'.write hf hg)
end calls
/-! code -/
theorem cy_seq {x y : Code} (k : Cy P x (Exit.then (y.wp P Q) Q) n D w0 M h0 f h H) : Cy P (.seq x y) Q n D w0 M h0 f h H := fun a w ha hs => wp_seq (k a w ha hs)
theorem cy_skip (k : Ny Q .normal n D w0 M h0 f h H) : Cy P .skip Q n D w0 M h0 f h H := fun a w ha hs => wp_skip (k a w ha hs)
theorem cy_ret (k : Ny Q .ret n D w0 M h0 f h H) : Cy P .ret Q n D w0 M h0 f h H := fun a w ha hs => wp_ret (k a w ha hs)
theorem cy_exit {i : Nat} (k : Ny Q (.exit i) n D w0 M h0 f h H) : Cy P (.exit i) Q n D w0 M h0 f h H := fun a w ha hs => wp_exit (k a w ha hs)
theorem cy_block {i : Nat} {c : Code} (k : Cy P c (Exit.inBlock i Q) n D w0 M h0 f h H) : Cy P (.block i c) Q n D w0 M h0 f h H := fun a w ha hs => wp_block (k a w ha hs)
theorem cy_region {i : Nat} {l : List Oper} (k : Sy .txt P l.toArray Q n D w0 M h0 l f h H) : Cy P (.region i l.toArray false) Q n D w0 M h0 f h H := fun a w ha hs => wp_region_list (show wpList P l.toArray Q l.toArray.toList a w from k a w ha hs)
theorem St.drawn {w : World} (hs : St w0 M h0 h H w) : St w0 M h0 h H { w with drawn := w.drawn + 1 } := hs.grow ⟨rfl, rfl, rfl, Nat.le_refl _, fun _ _ _ => rfl⟩
theorem cy_regionQ {i : Nat} {l : List Oper} (hm : P.follows .mixedOrders = true) (hB : Region.lexB .any l.toArray = true) (k : Sy .qui P l.toArray Q n D w0 M h0 l f h H) : Cy P (.region i l.toArray true) Q n D w0 M h0 f h H :=
 fun a w ha hs => wp_region_quiet (C := St w0 M h0 h H) hm hB hs.drawn (show wpQuiet P l.toArray (St w0 M h0 h H) _ l.toArray.toList a from k a w ha hs)
theorem cy_condT {c : Operand} {x y : Code} (hc : f.ev c = some (.bool true)) (k : Cy P x Q n D w0 M h0 f h H) : Cy P (.cond c x y) Q n D w0 M h0 f h H := fun a w ha hs => wp_cond_true (ha.ev hc) (k a w ha hs)
theorem cy_condF {c : Operand} {x y : Code} (hc : f.ev c = some (.bool false)) (k : Cy P y Q n D w0 M h0 f h H) : Cy P (.cond c x y) Q n D w0 M h0 f h H := fun a w ha hs => wp_cond_false (ha.ev hc) (k a w ha hs)
theorem cy_cond {c : Operand} {x y : Code} {e : Bool} (hc : f.ev c = some (.bool e)) (kt : e = true → Cy P x Q n D w0 M h0 f h H) (kf : e = false → Cy P y Q n D w0 M h0 f h H) : Cy P (.cond c x y) Q n D w0 M h0 f h H := fun a w ha hs => by
 cases e with
 | true => exact wp_cond_true (ha.ev hc) (kt rfl a w ha hs)
 | false => exact wp_cond_false (ha.ev hc) (kf rfl a w ha hs)
theorem ny_next {y : Code} (k : Cy P y Q n D w0 M h0 f h H) : Ny (Exit.then (y.wp P Q) Q) .normal n D w0 M h0 f h H := k
theorem ny_thenE {K : Act → World → Prop} {i : Nat} (k : Ny Q (.exit i) n D w0 M h0 f h H) : Ny (Exit.then K Q) (.exit i) n D w0 M h0 f h H := k
theorem ny_thenR {K : Act → World → Prop} (k : Ny Q .ret n D w0 M h0 f h H) : Ny (Exit.then K Q) .ret n D w0 M h0 f h H := k
theorem ny_blockN {i : Nat} (k : Ny Q .normal n D w0 M h0 f h H) : Ny (Exit.inBlock i Q) .normal n D w0 M h0 f h H := k
theorem ny_blockR {i : Nat} (k : Ny Q .ret n D w0 M h0 f h H) : Ny (Exit.inBlock i Q) .ret n D w0 M h0 f h H := k
theorem ny_blockX {i : Nat} (k : Ny Q .normal n D w0 M h0 f h H) : Ny (Exit.inBlock i Q) (.exit i) n D w0 M h0 f h H := fun a w ha hs => by
 show (if i = i then Q .normal a w else Q (.exit i) a w)
 rw [if_pos rfl]
 exact k a w ha hs
/-! a loop -/
/-- what a round hands on -/
def Round {ι : Type} (J : ι → Prop) (μ : ι → Nat) (F : ι → Tab) (G : ι → Hp) (R : ι → List Res) (n : Nat) (D : List Deferred) (w0 : World) (M : List Nat) (h0 : Hp) (i : ι) : Act → World → Prop :=
 fun a w => ∃ i', J i' ∧ μ i' < μ i ∧ Holds n D (F i') a ∧ St w0 M h0 (G i') (R i') w
/-! entry and return -/
def initO : Nat → List Value → Option Tab
 | _, [] => some []
 | i, v :: t => match initO (i + 1) t with
  | some f => some ((i, v) :: f)
  | none => none
theorem initO_get : ∀ {i : Nat} {vs : List Value} {f : Tab}, initO i vs = some f → ∀ j v, f.get j = some v → i ≤ j ∧ vs[j - i]? = some v
 | _, [], f, h, j, v, hj => by
  simp only [initO, Option.some.injEq] at h
  subst h
  simp [Tab.get] at hj
 | i, x :: t, f, h, j, v, hj => by
  unfold initO at h
  split at h
  · rename_i f' hf
    simp only [Option.some.injEq] at h
    subst h
    unfold Tab.get at hj
    cases hb : Nat.beq j i with
    | true =>
     rw [hb] at hj
     simp only [cond_true, Option.some.injEq] at hj
     have := Nat.eq_of_beq_eq_true hb
     subst this
     subst hj
     simp
    | false =>
     rw [hb] at hj
     obtain ⟨h1, h2⟩ := initO_get hf j v hj
     refine ⟨by omega, ?_⟩
     rw [show j - i = (j - (i + 1)) + 1 by omega, List.getElem?_cons_succ]
     exact h2
  · cases h
theorem enterM {F : Nat} {fn : Func} {c : Code} {vs : List Value} {R : Ending → World → Prop} (hf : P.funcs[F]? = some fn) (hb : fn.body = some c) (hi : initO 0 vs = some f) (hn : Nat.ble vs.length fn.ntmps = true)
    {w : World} (hs : St w M h0 h H w) (k : Cy P c (bodyPost P fn R) fn.ntmps [] w M h0 f h H) : Calls P F vs.toArray w R := by
 refine calls_of_wp hf hb (k _ w ⟨?_, rfl, fun i v hiv => ?_⟩ hs)
 · have := Nat.le_of_ble_eq_true hn
   simp
   omega
 · obtain ⟨_, h1⟩ := initO_get hi i v hiv
   have hlt := (List.getElem?_eq_some_iff.1 h1).1
   simp only [Nat.sub_zero] at h1 hlt
   rw [Array.getElem?_append_left (by simpa using hlt)]
   simpa using h1
theorem enter0 {F : Nat} {fn : Func} {c : Code} {vs : List Value} {v : Value} (hf : P.funcs[F]? = some fn) (hb : fn.body = some c) (hi : initO 0 vs = some f) (hn : Nat.ble vs.length fn.ntmps = true)
    (k : ∀ w, Cy P c (bodyPost P fn fun e w' => e = .returned v ∧ Frm w [] w') fn.ntmps [] w [] h f h []) : C0 P F vs h v := fun w hs => enterM hf hb hi hn (St.start hs []) (k w)
theorem enterX {X : Type} {rv : X → Value} {Φ : X → Hp → Prop} {F : Nat} {fn : Func} {c : Code} {vs : List Value} (hf : P.funcs[F]? = some fn) (hb : fn.body = some c) (hi : initO 0 vs = some f) (hn : Nat.ble vs.length fn.ntmps = true)
    (k : ∀ w, Cy P c (bodyPost P fn fun e w' => ∃ x h', e = .returned (rv x) ∧ Φ x h' ∧ Grow h w h' w') fn.ntmps [] w [] h f h []) : CX P F vs h rv Φ := fun w hs => enterM hf hb hi hn (St.start hs []) (k w)
theorem enter1 {F : Nat} {fn : Func} {c : Code} {vs : List Value} {v : Value} {b : Nat} {ob ob' : Obj} (hf : P.funcs[F]? = some fn) (hb : fn.body = some c) (hi : initO 0 vs = some f) (hn : Nat.ble vs.length fn.ntmps = true)
    (k : ∀ w, b < w.heap.size → Cy P c (bodyPost P fn fun e w' => e = .returned v ∧ Frm w [b] w' ∧ w'.heap[b]? = some ob') fn.ntmps [] w [b] h f h [.blk b ob]) : CM P F vs h b ob v ob' :=
 fun w hs hg hw => enterM hf hb hi hn (St.start1 hs hw hg) (k w (Array.getElem?_eq_some_iff.1 hw).1)
theorem ny_fin {fn : Func} {R : Ending → World → Prop} {v : Value} (hres : ∀ a w, Holds n [] f a → St w0 M h0 h H w → (results fn a.tmps).run P w = .ok v w) (k : ∀ w, St w0 M h0 h H w → R (.returned v) w) : Ny (bodyPost P fn R) .normal n [] w0 M h0 f h H :=
 fun a w ha hs => ⟨ha.defers, v, hres a w ha hs, k w hs⟩
theorem ny_finR {fn : Func} {R : Ending → World → Prop} {v : Value} (hres : ∀ a w, Holds n [] f a → St w0 M h0 h H w → (results fn a.tmps).run P w = .ok v w) (k : ∀ w, St w0 M h0 h H w → R (.returned v) w) : Ny (bodyPost P fn R) .ret n [] w0 M h0 f h H :=
 fun a w ha hs => ⟨ha.defers, v, hres a w ha hs, k w hs⟩
theorem res1 {fn : Func} {t : Nat} {v : Value} (hr : fn.results = #[.tmp t]) (hv : f.get t = some v) : ∀ a w, Holds n [] f a → St w0 M h0 h H w → (results fn a.tmps).run P w = .ok v w := fun a w ha _ => by
 have := ha.get t v hv
 rw [results_tmp hr]
 simp [this]
theorem res0 {fn : Func} (hr : fn.results = #[]) : ∀ a w, Holds n [] f a → St w0 M h0 h H w → (results fn a.tmps).run P w = .ok (.tuple #[]) w := fun a w ha _ => results_none hr _ _ _
theorem res2 {fn : Func} {t u : Nat} {v v2 : Value} (hr : fn.results = #[.tmp t, .tmp u]) (hv : f.get t = some v) (hu : f.get u = some v2) : ∀ a w, Holds n [] f a → St w0 M h0 h H w → (results fn a.tmps).run P w = .ok (.tuple #[v, v2]) w := fun a w ha _ => by
 have h1 := ha.get t v hv
 have h2 := ha.get u v2 hu
 rw [results_tmp2 hr]
 simp [h1, h2]
end
end Go.Proofs.YtanhhihechakhaaGreatDoor.E
namespace Go.Proofs.YtanhhihechakhaaGreatDoor.E
open Go.ChangeShapes Go.WideShapes Go.ChangeAt Go.RowKit
section
variable {H : Type} {enc : TypeId × Value → H} {P : Program}
theorem trodAll_below (hl : laidOutB P = true) {W W' : World} (hb : Below W.heap.size W W') : ∀ {ts : List TypeId} {vs : List Value} {ds : List (DataW H)} {ps : List MemPlace},
    (∀ t ∈ ts, P.readableRec t = true ∧ t < P.types.size) → DataW.TrodAll enc P W 0 (fun _ => true) true ts vs ds ps → (∀ x ∈ ps, x.block < W.heap.size) → DataW.TrodAll enc P W' 0 (fun b => decide (b < W.heap.size)) true ts vs ds ps
 | [], [], [], _, _, h, _ => h
 | _ :: _, _ :: _, _ :: _, _, hT, ⟨p, q, h1, h2, e⟩, hs => ⟨p, q, Below.trod hl (hT _ (List.mem_cons_self)).1 (hT _ (List.mem_cons_self)).2 h1 hb (fun x hx => hs x (by rw [e]; exact List.mem_append_left _ hx)),
     trodAll_below hl hb (fun t ht => hT t (List.mem_cons_of_mem _ ht)) h2 (fun x hx => hs x (by rw [e]; exact List.mem_append_right _ hx)), e⟩
def paramsB (P : Program) (ts : List TypeId) : Bool := laidOutB P && ts.all fun t => P.readableRec t && decide (t < P.types.size)
theorem law_post {f : Func} {s : ChangeSpec} {W W' : World} {args : Array Value} {ds : List (DataW H)} {before : List MemPlace} {tb : TypeId}
    (hp : paramsB P f.params.toList = true) (hrt : f.resultTypes.toList = [tb]) (hbool : P.underlying tb = some .bool) (hvars : s.vars = []) (hres : (s.fn H ds).results = [.lit (.bool true)]) (hargs : (s.fn H ds).args = ds) (hv : (s.fn H ds).vars = [])
    (hW : DataW.Whole enc P f.params.toList s.vars false W args.toList ds [] before) (hb : Below W.heap.size W W') : s.post enc P f false true false false W args (.bool true) W' := by
 have hlt : ∀ p ∈ before, p.block < W.heap.size := fun p hp => hW.lt p hp
 have hW0 := hW
 obtain ⟨p, q, hA, hV, hpq, _, _⟩ := hW0
 rw [hvars] at hV
 obtain ⟨_, rfl⟩ := trodVars_none hV
 have hpq' : before = p := by simpa using hpq
 subst hpq'
 unfold paramsB at hp
 rw [Bool.and_eq_true] at hp
 have hA' := trodAll_below hp.1 hb (fun t ht => by simpa using List.all_eq_true.1 hp.2 t ht) hA hlt
 have hsz : f.resultTypes.size = 1 := by rw [← Array.length_toList, hrt]; rfl
 refine ⟨ds, [], before, [], before, [], hW, ?_, ?_, ?_, World.keptBut_mono (fun p hp => ⟨hp, ?_⟩) (hb.frame (· ∈ before)), fun h => by cases h⟩
 · rw [List.append_nil, hres, hrt, hsz]
   exact trodAll_cons_mk (shut_bool hbool _) trodAll_mk0
 · rw [List.append_nil, hargs]
   exact hA'
 · rw [List.append_nil, hv, hvars]
   rfl
 · exact Or.inr (by simpa using hp)
end
end Go.Proofs.YtanhhihechakhaaGreatDoor.E
set_option linter.unusedVariables false
set_option linter.unusedSimpArgs false
namespace Go.Proofs.YtanhhihechakhaaGreatDoor.E
open Go.RowKit
section
variable {m : Md} {P : Program} {ops : Array Oper} {Q : Exit → Act → World → Prop} {n : Nat} {D : List Deferred} {w0 : World} {M : List Nat} {h0 : Hp}
variable {f : Tab} {h : Hp} {H : List Res} {rest : List Oper} {o : Oper}
section ops
variable {d t s : Nat} {p : String} {af : Array Edge} {g : Option (Nat × Bool)}
/-! an owned block as a row -/
theorem St.asRow {b e l sz : Nat} {cs : List Value} {H1 : List Res} {w : World} (hs : St w0 M h0 h (.blk b (.cells cs.toArray e (0, 0)) :: H1) w) (hl : cs.length = l * sz) (hm : l ≤ maxLen) : St w0 M h0 h (.row (.slice (some ⟨b, 0, none⟩) l l) e sz l cs :: H1) w :=
 { hs with
  ok := fun r hr => by
   rcases List.mem_cons.1 hr with rfl | hr
   · exact ⟨hl, .inr ⟨b, l, cs.toArray, rfl, Nat.zero_le _, hs.ok _ (List.mem_cons_self), Nat.le_refl _, hm, by simpa using hl, by simp [← hl]⟩⟩
   · exact hs.ok r (List.mem_cons_of_mem _ hr)
  own := fun r hr k hk => by
   rcases List.mem_cons.1 hr with rfl | hr
   · exact hs.own (.blk b (.cells cs.toArray e (0, 0))) (List.mem_cons_self) k hk
   · exact hs.own r (List.mem_cons_of_mem _ hr) k hk
  dis := List.Pairwise.cons (fun r hr k hk => (List.pairwise_cons.1 hs.dis).1 r hr k hk) (List.pairwise_cons.1 hs.dis).2 }
theorem sy_asRow {b e l sz : Nat} {cs : List Value} {H1 : List Res} (i : Nat) (hp : pickR i H = some (.blk b (.cells cs.toArray e (0, 0)), H1)) (hl : cs.length = l * sz) (hm : l ≤ maxLen) (k : Sy .txt P ops Q n D w0 M h0 rest f h (.row (.slice (some ⟨b, 0, none⟩) l l) e sz l cs :: H1)) :
    Sy .txt P ops Q n D w0 M h0 rest f h H := fun a w ha hs => k a w ha ((hs.swap (pickR_perm hp)).asRow hl hm)
theorem sy_frzRow {v : Value} {e size l : Nat} {xs : List Value} {H1 : List Res} (i : Nat) (hp : pickR i H = some (.row v e size l xs, H1)) (hM : ∀ g, v.ownBlock = some g → g ∉ M)
    (k : ∀ A c h', v = .slice A l c → l ≤ c → c ≤ maxLen → xs.length = l * size → h.Le h' → (∀ j u, xs[j]? = some u → ∃ g, A = some ⟨g, 0, none⟩ ∧ h'.cell ⟨g, j, none⟩ = some u) → Sy .txt P ops Q n D w0 M h0 rest f h' H1) :
    Sy .txt P ops Q n D w0 M h0 rest f h H := fun a w ha hs => by
 obtain ⟨A, c, h', h1, h2, h3, h4, h5, h6, _, h7⟩ := frzRow i hp hM hs
 exact k A c h' h1 h2 h3 h4 h5 h6 a w ha h7
theorem cy_frzRow {cd : Code} {v : Value} {e size l : Nat} {xs : List Value} {H1 : List Res} (i : Nat) (hp : pickR i H = some (.row v e size l xs, H1)) (hM : ∀ g, v.ownBlock = some g → g ∉ M)
    (k : ∀ A c h', v = .slice A l c → l ≤ c → c ≤ maxLen → xs.length = l * size → h.Le h' → (∀ j u, xs[j]? = some u → ∃ g, A = some ⟨g, 0, none⟩ ∧ h'.cell ⟨g, j, none⟩ = some u) → Cy P cd Q n D w0 M h0 f h' H1) :
    Cy P cd Q n D w0 M h0 f h H := fun a w ha hs => by
 obtain ⟨A, c, h', h1, h2, h3, h4, h5, h6, _, h7⟩ := frzRow i hp hM hs
 exact k A c h' h1 h2 h3 h4 h5 h6 a w ha h7
theorem sy_appendh {x y : Operand} {v : Value} {e size bytes l mm c : Nat} {A : Option Addr} {xs news : List Value} {H1 : List Res} (i : Nat) (hr : rowB P s e size bytes = true) (h0' : 0 < size)
    (hx : f.ev x = some v) (hp : pickR i H = some (.row v e size l xs, H1)) (hy : f.ev y = some (.slice A mm c)) (hA : A = none → mm = 0)
    (hl : news.length = mm * size) (hnews : ∀ j u, news[j]? = some u → ∃ ad : Addr, A = some ad ∧ h.cell (ad.add j) = some u) (h1 : ∀ u ∈ news, u.oneCell' = true) (hb : (l + mm) * bytes ≤ 140737488355328) (hlen : l + mm ≤ maxLen) (hw : gok ops f g = some true) (hn : Nat.blt d n = true)
    (k : ∀ v', Sy .txt P ops Q n D w0 M h0 rest ((d, v') :: f) h (.row v' e size (l + mm) (xs ++ news) :: H1)) :
    Sy .txt P ops Q n D w0 M h0 (⟨some d, .call ⟨.builtin .append, #[x, y], #[s, s]⟩, t, p, af, g⟩ :: rest) f h H :=
 sy_op hw fun a w ha hs => by
  obtain ⟨h2, inf, z, h3, h4, h5, h6, h7⟩ := row_spec hr
  have hs' := hs.swap (pickR_perm hp)
  have ho : w.ownsRow 0 e size v l xs := hs'.ok _ (List.mem_cons_self)
  cases A with
  | none =>
   have hm0 := hA rfl
   subst hm0
   have hn0 : news = [] := List.eq_nil_of_length_eq_zero (by simpa using hl)
   subst hn0
   have hrun : (execOp a.eval ⟨some d, .call ⟨.builtin .append, #[x, y], #[s, s]⟩, t, p, af, g⟩).run P w = .ok (.value v) w := by
    simp only [execOp, resolve, invoke, builtin, Sem.run_bind, Sem.run_pure, Result.andThen_ok, List.map_toArray, List.map_cons, List.map_nil, ha.ev hx, ha.ev hy]
    rcases ho.2 with ⟨rfl, _⟩ | ⟨gg, cap, cur, rfl, _, _, hnc, _⟩
    · simp [Builtin.append_, run_underlying h2, h3, sizeOf, typeInfo, Builtin.firstCells, Builtin.lenOf]
    · simp [Builtin.append_, run_underlying h2, h3, sizeOf, typeInfo, Builtin.firstCells, Builtin.lenOf, hnc, storeCells]
   unfold Oper.wp
   rw [hrun]
   refine k v _ w (ha.put d _ hn) ?_
   rw [Nat.add_zero, List.append_nil]
   exact hs'
  | some ad =>
   have hcell : ∀ jj u, news[jj]? = some u → w.cell? (ad.add jj) = some u := fun jj u hj => by
    obtain ⟨ad', he, hc⟩ := hnews jj u hj
    injection he with he
    subst he
    exact hs.sub.cell hc
   obtain ⟨v', w', hrun, ho', hg, _, hat⟩ := run_append_own_at (P := P) w 0 s t e inf z size bytes h2 h3 h4 h5 h6 h7 h0' v l xs ho ad mm c news hl hcell h1 hlen hb (Nat.zero_le _)
   have hrun' : (execOp a.eval ⟨some d, .call ⟨.builtin .append, #[x, y], #[s, s]⟩, t, p, af, g⟩).run P w = .ok (.value v') w' := by
    simp only [execOp, resolve, invoke, builtin, Sem.run_bind, Sem.run_pure, Result.andThen_ok, List.map_toArray, List.map_cons, List.map_nil, ha.ev hx, ha.ev hy, hrun]
   unfold Oper.wp
   rw [hrun']
   refine k v' _ w' (ha.put d _ hn) (hs'.rowed hg ho' ?_)
   rcases hat with hat | hat
   · exact .inl hat
   · exact .inr (.inl ⟨_, hat, Nat.le_refl _⟩)
end ops
end
end Go.Proofs.YtanhhihechakhaaGreatDoor.E
set_option linter.unusedVariables false
set_option linter.unusedSimpArgs false
namespace Go.Proofs.YtanhhihechakhaaGreatDoor.E
open Go.RowKit
def SubP (L H : List Res) : Prop := ∃ H', H.Perm H' ∧ L.Sublist H'
theorem SubP.perm {L H : List Res} (h : H.Perm L) : SubP L H := ⟨L, h, List.Sublist.refl _⟩
end Go.Proofs.YtanhhihechakhaaGreatDoor.E
set_option linter.unusedVariables false
set_option linter.unusedSimpArgs false
namespace Go.Proofs.YtanhhihechakhaaGreatDoor.E
open Go.RowKit
def RowsAt (h : Hp) (A : Option Addr) (sz : Nat) (cs : List (List Value)) : Prop :=
 ∀ j c, cs[j]? = some c → ∃ g off, A = some ⟨g, off, none⟩ ∧ ∀ jj u, c[jj]? = some u → h.cell ⟨g, off + j * sz + jj, none⟩ = some u
theorem RowsAt.take {h : Hp} {A : Option Addr} {sz : Nat} {cs : List (List Value)} (hp : RowsAt h A sz cs) (k : Nat) : RowsAt h A sz (cs.take k) := fun j x hj => by
 rw [List.getElem?_take] at hj
 split at hj
 · exact hp j x hj
 · cases hj
theorem RowsAt.le {h h' : Hp} {A : Option Addr} {sz : Nat} {cs : List (List Value)} (hp : RowsAt h A sz cs) (hl : h.Le h') : RowsAt h' A sz cs := fun j x hj => by
 obtain ⟨g, off, h1, h2⟩ := hp j x hj
 exact ⟨g, off, h1, fun jj u hu => hl.cell (h2 jj u hu)⟩
theorem RowsAt.get {h : Hp} {g off sz : Nat} {cs : List (List Value)} (hp : RowsAt h (some ⟨g, off, none⟩) sz cs) {j : Nat} {c : List Value} (hj : cs[j]? = some c) :
    ∀ jj v, c[jj]? = some v → h.cell ⟨g, off + ((j : Int)).toNat * sz + jj, none⟩ = some v := fun jj v hv => by
 obtain ⟨g', off', h1, h2⟩ := hp j c hj
 injection h1 with h1
 injection h1 with h1 h1'
 subst h1 h1'
 rw [Int.toNat_natCast]
 exact h2 jj v hv
theorem RowsAt.none {h : Hp} {A : Option Addr} {sz : Nat} {cs : List (List Value)} (hp : RowsAt h A sz cs) (hA : A = none) : cs.length = 0 := by
 cases cs with
 | nil => rfl
 | cons x p =>
  obtain ⟨g, off, h1, _⟩ := hp 0 x rfl
  rw [hA] at h1
  cases h1
theorem flat_len {sz : Nat} : ∀ {cs : List (List Value)}, (∀ c ∈ cs, c.length = sz) → cs.flatten.length = cs.length * sz
 | [], _ => by simp
 | c :: cs, h => by
  rw [List.flatten_cons, List.length_append, h c (List.mem_cons_self), flat_len (fun c' hc' => h c' (List.mem_cons_of_mem _ hc')), List.length_cons, Nat.succ_mul]
  omega
theorem flat_get {sz : Nat} : ∀ {cs : List (List Value)}, (∀ c ∈ cs, c.length = sz) → ∀ {j : Nat} {c : List Value}, cs[j]? = some c → ∀ jj, jj < sz → cs.flatten[j * sz + jj]? = c[jj]?
 | [], _, j, c, h, _, _ => by simp at h
 | c0 :: cs, hs, 0, c, h, jj, hjj => by
  simp only [List.getElem?_cons_zero, Option.some.injEq] at h
  subst h
  rw [List.flatten_cons, Nat.zero_mul, Nat.zero_add, List.getElem?_append_left (by rw [hs _ (List.mem_cons_self)]; exact hjj)]
 | c0 :: cs, hs, j + 1, c, h, jj, hjj => by
  simp only [List.getElem?_cons_succ] at h
  have hl := hs c0 (List.mem_cons_self)
  rw [List.flatten_cons, List.getElem?_append_right (by rw [hl, Nat.succ_mul]; omega), hl, show (j + 1) * sz + jj - sz = j * sz + jj by rw [Nat.succ_mul]; omega]
  exact flat_get (fun c' hc' => hs c' (List.mem_cons_of_mem _ hc')) h jj hjj
theorem RowsAt.cells {h : Hp} {A : Option Addr} {sz : Nat} {cs : List (List Value)} (hsz : 0 < sz) (hs : ∀ c ∈ cs, c.length = sz) (hp : RowsAt h A sz cs) : ∀ j u, cs.flatten[j]? = some u → ∃ ad : Addr, A = some ad ∧ h.cell (ad.add j) = some u := fun j u hj => by
 have hlt : j < cs.length * sz := by
  have := (List.getElem?_eq_some_iff.1 hj).1
  rwa [flat_len hs] at this
 have hd : j / sz < cs.length := Nat.div_lt_of_lt_mul (by rw [Nat.mul_comm]; exact hlt)
 have hm : j % sz < sz := Nat.mod_lt _ hsz
 have e : j / sz * sz + j % sz = j := by rw [Nat.mul_comm]; exact Nat.div_add_mod j sz
 have hc : cs[j / sz]? = some (cs[j / sz]) := List.getElem?_eq_getElem hd
 have h1 := flat_get hs hc (j % sz) hm
 rw [e, hj] at h1
 obtain ⟨g, off, h3, h4⟩ := hp _ _ hc
 refine ⟨_, h3, ?_⟩
 rw [Addr.add_at]
 have := h4 (j % sz) u h1.symm
 rwa [Nat.add_assoc, e] at this
theorem rows_row {h : Hp} {A : Option Addr} {sz : Nat} {cs : List (List Value)} (hsz : 0 < sz) (hs : ∀ c ∈ cs, c.length = sz) (hc : ∀ j u, cs.flatten[j]? = some u → ∃ g, A = some ⟨g, 0, none⟩ ∧ h.cell ⟨g, j, none⟩ = some u) : RowsAt h A sz cs := fun j c hj => by
 have hl := hs c (List.mem_of_getElem? hj)
 have key : ∀ jj u, c[jj]? = some u → ∃ g, A = some ⟨g, 0, none⟩ ∧ h.cell ⟨g, j * sz + jj, none⟩ = some u := fun jj u hu => by
  have hjj : jj < sz := by have := (List.getElem?_eq_some_iff.1 hu).1; omega
  exact hc _ _ ((flat_get hs hj jj hjj).trans hu)
 have h0 : c[0]? = some (c[0]'(by omega)) := List.getElem?_eq_getElem _
 obtain ⟨g, h1, _⟩ := key 0 _ h0
 refine ⟨g, 0, h1, fun jj u hu => ?_⟩
 obtain ⟨g', h2, h3⟩ := key jj u hu
 rw [h1] at h2
 injection h2 with h2
 injection h2 with h2
 subst h2
 simpa using h3
theorem rows_blk {h : Hp} {g e sz : Nat} {fr : Nat × Nat} {cs : List (List Value)} (hsz : 0 < sz) (hs : ∀ c ∈ cs, c.length = sz) (hg : h g = some (.cells cs.flatten.toArray e fr)) : RowsAt h (some ⟨g, 0, none⟩) sz cs :=
 rows_row hsz hs fun j u hj => ⟨g, rfl, by simp [Hp.cell, hg, hj]⟩
section
variable {m : Md} {P : Program} {ops : Array Oper} {Q : Exit → Act → World → Prop} {n : Nat} {D : List Deferred} {w0 : World} {M : List Nat} {h0 : Hp}
variable {f : Tab} {h : Hp} {H : List Res} {rest : List Oper} {o : Oper}
section ops
variable {d t s : Nat} {p : String} {af : Array Edge} {g : Option (Nat × Bool)}
theorem map_evs {D : List Deferred} {f : Tab} {a : Act} (ha : Holds n D f a) {xs : Array Operand} {vs : List Value} (hx : f.evs xs.toList = some vs) : xs.map a.eval = vs.toArray := by
 rw [← ha.evs hx]
 apply Array.ext'
 simp
theorem run_callV {a : Act} {w : World} {dst : Option Nat} {fv : Operand} {F : Nat} {args : Array Operand} {tys : Array TypeId} {vs caps : List Value} (hF : callB P F = true) (ha : Holds n D f a) (hf : f.ev fv = some (.func (.func F) #[] caps.toArray)) (hx : f.evs args.toList = some vs) :
    (execOp a.eval ⟨dst, .call ⟨.value fv, args, tys⟩, t, p, af, g⟩).run P w = .ok (.enter F (vs ++ caps).toArray) w := by
 have h1 := map_evs ha hx
 have h2 : (vs ++ caps).toArray = vs.toArray ++ caps.toArray := by simp
 rw [h2]
 simp only [execOp, resolve, h1, ha.ev hf, Deferred.ofValue, Sem.run_bind, Sem.run_pure, Result.andThen_ok, invoke, Array.empty_append, call_spec hF]
theorem sy_callv {fv : Operand} {F : Nat} {args : Array Operand} {tys : Array TypeId} {vs caps : List Value} {v : Value} (hm : m.plain = true) (hF : callB P F = true) (hf : f.ev fv = some (.func (.func F) #[] caps.toArray)) (hx : f.evs args.toList = some vs) (hc : C0 P F (vs ++ caps) h v) (hw : gok ops f g = some true) (hn : Nat.blt d n = true)
    (k : Sy m P ops Q n D w0 M h0 rest ((d, v) :: f) h H) : Sy m P ops Q n D w0 M h0 (⟨some d, .call ⟨.value fv, args, tys⟩, t, p, af, g⟩ :: rest) f h H :=
 sy_enter hm hw rfl hn (fun a w ha => run_callV hF ha hf hx) (fun w hs => hc w hs.sub) k
theorem sy_iface {x : Operand} {v : Value} {d0 : TypeDesc} (hs : P.underlying s = some d0) (hni : (match d0 with | .interface _ => false | _ => true) = true) (hx : f.ev x = some v) (hw : gok ops f g = some true) (hn : Nat.blt d n = true)
    (k : Sy m P ops Q n D w0 M h0 rest ((d, .iface s v) :: f) h H) : Sy m P ops Q n D w0 M h0 (⟨some d, .makeInterface s x, t, p, af, g⟩ :: rest) f h H :=
 sy_val hw rfl hn (fun a w ha _ => by
  cases d0 <;> first | (simp at hni; done) | simp [execOp, Instr.makeInterface, run_underlying hs, ha.ev hx]) k
end ops
end
end Go.Proofs.YtanhhihechakhaaGreatDoor.E
set_option linter.unusedVariables false
set_option linter.unusedSimpArgs false
namespace Go.Proofs.YtanhhihechakhaaGreatDoor.E
open Go.RowKit
def keepO : List Nat → Tab → Option Tab
 | [], _ => some []
 | k :: ks, f => match f.get k with
  | some v => (match keepO ks f with | some t => some ((k, v) :: t) | none => none)
  | none => none
theorem keepO_get : ∀ {ks : List Nat} {f t : Tab}, keepO ks f = some t → ∀ i v, t.get i = some v → f.get i = some v
 | [], f, t, h, i, v, hi => by
  simp only [keepO, Option.some.injEq] at h
  subst h
  simp [Tab.get] at hi
 | k :: ks, f, t, h, i, v, hi => by
  unfold keepO at h
  split at h
  · rename_i u hu
    split at h
    · rename_i t' ht
      simp only [Option.some.injEq] at h
      subst h
      unfold Tab.get at hi
      cases hb : Nat.beq i k with
      | true =>
       rw [hb] at hi
       simp only [cond_true, Option.some.injEq] at hi
       have := Nat.eq_of_beq_eq_true hb
       subst this
       subst hi
       exact hu
      | false =>
       rw [hb] at hi
       exact keepO_get ht i v hi
    · cases h
  · cases h
theorem appTab_get : ∀ {a b f : Tab}, (∀ i v, a.get i = some v → f.get i = some v) → (∀ i v, b.get i = some v → f.get i = some v) → ∀ i v, Tab.get (a ++ b) i = some v → f.get i = some v
 | [], b, f, _, hb, i, v, hi => hb i v hi
 | (k, u) :: a, b, f, ha, hb, i, v, hi => by
  rw [List.cons_append] at hi
  unfold Tab.get at hi
  cases hq : Nat.beq i k with
  | true =>
   rw [hq] at hi
   refine ha i v ?_
   unfold Tab.get
   rw [hq]
   exact hi
  | false =>
   rw [hq] at hi
   by_cases hx : ∃ x, Tab.get ((k, u) :: a) i = some x
   · obtain ⟨x, hx⟩ := hx
     have hx2 : Tab.get a i = some x := by
      unfold Tab.get at hx
      rw [hq] at hx
      exact hx
     have h1 := ha i x hx
     have h2 : ∀ (a : Tab), Tab.get a i = some x → Tab.get (a ++ b) i = some x := fun a => by
      induction a with
      | nil => intro h; simp [Tab.get] at h
      | cons y t ih =>
       obtain ⟨k', u'⟩ := y
       intro h
       rw [List.cons_append]
       unfold Tab.get at h ⊢
       cases hq' : Nat.beq i k' with
       | true => rw [hq'] at h; exact h
       | false => rw [hq'] at h; exact ih h
     have h3 := h2 a hx2
     have h4 : Tab.get (a ++ b) i = some v := hi
     rw [h3] at h4
     rw [← h4]
     exact h1
   · have h2 : ∀ (a : Tab), Tab.get a i = none → Tab.get (a ++ b) i = Tab.get b i := fun a => by
      induction a with
      | nil => intro _; rfl
      | cons y t ih =>
       obtain ⟨k', u'⟩ := y
       intro h
       rw [List.cons_append]
       unfold Tab.get at h
       conv => lhs; unfold Tab.get
       cases hq' : Nat.beq i k' with
       | true => rw [hq'] at h; cases h
       | false => rw [hq'] at h; exact ih h
     have hn : Tab.get a i = none := by
      cases hy : Tab.get a i with
      | none => rfl
      | some y =>
       refine absurd ⟨y, ?_⟩ hx
       unfold Tab.get
       rw [hq]
       exact hy
     have h4 : Tab.get (a ++ b) i = some v := hi
     rw [h2 a hn] at h4
     exact hb i v h4
theorem Holds.weakG {n : Nat} {D : List Deferred} {f f' : Tab} {a : Act} (h : Holds n D f a) (hl : ∀ i v, f'.get i = some v → f.get i = some v) : Holds n D f' a := ⟨h.size, h.defers, fun i v hi => h.get i v (hl i v hi)⟩
section
variable {m : Md} {P : Program} {ops : Array Oper} {Q : Exit → Act → World → Prop} {n : Nat} {D : List Deferred} {w0 : World} {M : List Nat} {h0 : Hp}
variable {f : Tab} {h : Hp} {H : List Res} {rest : List Oper} {o : Oper}
theorem cy_loopK {ι : Type} {c : Code} {base : Tab} (ks : List Nat) (hk : keepO ks f = some base) (J : ι → Prop) (μ : ι → Nat) (F : ι → Tab) (G : ι → Hp) (R : ι → List Res) (i0 : ι) (is : List Nat) (hJ : J i0) (hF : Tab.Le (F i0) f) (hG : G i0 = h) (hR : selR is H = some (R i0))
    (round : ∀ i, J i → Cy P c (Exit.then (Round J μ (fun i => F i ++ base) G R n D w0 M h0 i) Q) n D w0 M h0 (F i ++ base) (G i) (R i)) : Cy P (.loop c) Q n D w0 M h0 f h H := by
 intro a w ha hs
 refine wp_loop_ghost (fun k a w => ∃ i, J i ∧ μ i = k ∧ Holds n D (F i ++ base) a ∧ St w0 M h0 (G i) (R i) w) (μ i0) ⟨i0, hJ, rfl, ha.weakG (appTab_get hF.get (keepO_get hk)), by rw [hG]; exact hs.sel hR⟩ ?_
 rintro k a w ⟨i, hi, rfl, ha, hs⟩
 refine wp_mono (round i hi a w ha hs) ?_
 intro e a' w' hq
 cases e with
 | normal =>
  obtain ⟨i', h1, h2, h3, h4⟩ := hq
  exact ⟨μ i', h2, i', h1, rfl, h3, h4⟩
 | exit id => exact hq
 | goto l => exact hq
 | ret => exact hq
 | panic ch => exact hq
 | outgrown => exact hq
theorem ny_roundK {ι : Type} {J : ι → Prop} {μ : ι → Nat} {F : ι → Tab} {base : Tab} {G : ι → Hp} {R : ι → List Res} {i : ι} (ks : List Nat) (i' : ι) (is : List Nat) (hJ : J i') (hμ : μ i' < μ i) (hk : keepO ks f = some base) (hF : Tab.Le (F i') f) (hG : G i' = h) (hR : selR is H = some (R i')) :
    Ny (Exit.then (Round J μ (fun i => F i ++ base) G R n D w0 M h0 i) Q) .normal n D w0 M h0 f h H := fun a w ha hs => ⟨i', hJ, hμ, ha.weakG (appTab_get hF.get (keepO_get hk)), by rw [hG]; exact hs.sel hR⟩
end
section
variable {m : Md} {P : Program} {ops : Array Oper} {Q : Exit → Act → World → Prop} {n : Nat} {D : List Deferred} {w0 : World} {M : List Nat} {h0 : Hp}
variable {f : Tab} {h : Hp} {H : List Res} {rest : List Oper} {o : Oper} {d t s : Nat} {p : String} {af : Array Edge} {g : Option (Nat × Bool)}
theorem sy_idxR {α : Type} {fc : α → List Value} {es : List α} {x y : Operand} {A : Option Addr} {len cap e sz i : Nat} {ik : IntKind} (hs : elsB P s e sz = true) (hx : f.ev x = some (.slice A len cap)) (hy : f.ev y = some (.int ik (i : Int))) (hp : RowsAt h A sz (es.map fc)) (hlen : es.length = len) (hi : i < len)
    (hw : gok ops f g = some true) (hn : Nat.blt d n = true)
    (k : ∀ e b off, es[i]? = some e → A = some ⟨b, off, none⟩ → (∀ jj v, (fc e)[jj]? = some v → h.cell ⟨b, off + i * sz + jj, none⟩ = some v) → Sy m P ops Q n D w0 M h0 rest ((d, .pointer (some ⟨b, off + i * sz, none⟩)) :: f) h H) :
    Sy m P ops Q n D w0 M h0 (⟨some d, .indexAddr s x y, t, p, af, g⟩ :: rest) f h H := by
 have he : es[i]? = some (es[i]'(by omega)) := List.getElem?_eq_getElem (by omega)
 have hc : (es.map fc)[i]? = some (fc (es[i]'(by omega))) := by rw [List.getElem?_map, he]; rfl
 obtain ⟨b, off, rfl, h2⟩ := hp i _ hc
 have := k _ b off he rfl h2
 exact sy_idxS (i := (i : Int)) hs hx hy (by omega) (by omega) hw hn this
end
end Go.Proofs.YtanhhihechakhaaGreatDoor.E
set_option linter.unusedVariables false
set_option linter.unusedSimpArgs false
namespace Go.Proofs.YtanhhihechakhaaGreatDoor.E
open Go.RowKit
def lsA (n : Nat) : List Nat → Array Bool
 | [] => Array.replicate n false
 | i :: done => (lsA n done).setIfInBounds i true
def freeB (ops : Array Oper) (done : List Nat) (i : Nat) : Bool := Region.noSelect ops && (Region.free .any ops (lsA ops.size done) i && (Region.ready .any ops (lsA ops.size done)).contains i)
def readyB (ops : Array Oper) (done rs : List Nat) : Bool := decide (Region.ready .any ops (lsA ops.size done) = rs)
structure Base (w0 : World) (h0 hC h : Hp) : Prop where
 l0 : h0.Le hC
 old : ∀ k, k < w0.heap.size → hC k = h0 k
 le : hC.Le h
section
variable {m : Md} {P : Program} {ops : Array Oper} {Q : Exit → Act → World → Prop} {n : Nat} {D : List Deferred} {w0 : World} {M : List Nat} {h0 hC : Hp}
variable {f : Tab} {h : Hp} {H : List Res} {rest : List Oper} {o : Oper} {cnt : Nat} {done : List Nat}
theorem St.class {w : World} (hs : St w0 M h0 h H w) (hB : Base w0 h0 hC h) : St w0 M h0 hC [] w :=
 { frm := hs.frm, sub := fun k o hk => hs.sub k o (hB.le k o hk), le := hB.l0, old := hB.old, ok := fun _ hr => (List.not_mem_nil hr).elim, own := fun _ hr => (List.not_mem_nil hr).elim, dis := List.Pairwise.nil }
def Zy (P : Program) (ops : Array Oper) (Q : Exit → Act → World → Prop) (n : Nat) (D : List Deferred) (w0 : World) (M : List Nat) (h0 hC : Hp) (cnt : Nat) (done : List Nat) (f : Tab) (h : Hp) (H : List Res) : Prop :=
 Base w0 h0 hC h → ∀ a w, Holds n D f a → St w0 M h0 h H w → wpAnyH P .any ops (NoPanic Q) (St w0 M h0 hC []) cnt (lsA ops.size done) a w
def QO (P : Program) (ops : Array Oper) (Q : Exit → Act → World → Prop) (w0 : World) (M : List Nat) (h0 hC : Hp) (cnt : Nat) (done : List Nat) (h : Hp) (H : List Res) : Exit → Act → World → Prop :=
 fun _ a _ => ∀ w, St w0 M h0 h H w → wpAnyH P .any ops (NoPanic Q) (St w0 M h0 hC []) cnt (lsA ops.size done) a w
def QZ (P : Program) (ops : Array Oper) (Q : Exit → Act → World → Prop) (w0 : World) (M : List Nat) (h0 hC : Hp) (cnt : Nat) (done : List Nat) : Exit → Act → World → Prop
 | .normal, a, w => St w0 M h0 hC [] w ∧ wpAnyH P .any ops (NoPanic Q) (St w0 M h0 hC []) cnt (lsA ops.size done) a w
 | e, a, w => NoPanic Q e a w
theorem cy_regionA {i : Nat} {l : List Oper} (hm : P.follows .mixedOrders = true) (k : Zy P l.toArray Q n D w0 M h0 h l.toArray.size [] f h H) : Cy P (.region i l.toArray true) Q n D w0 M h0 f h H :=
 fun a w ha hs => wp_region_noPanic (wp_region_held (S := St w0 M h0 h []) hm (k ⟨hs.le, hs.old, Hp.Le.refl _⟩ a _ ha hs.drawn))
theorem zy_done (hr : readyB ops done [] = true) (k : Ny Q .normal n D w0 M h0 f h H) : Zy P ops Q n D w0 M h0 hC cnt done f h H := fun hB a w ha hs =>
 wpAnyH_done (of_decide_eq_true hr) (NoPanic.normal (k a w ha hs)) _
theorem zy_q (i : Nat) (ho : ops[i]? = some o) (hf : freeB ops done i = true) (k : Base w0 h0 hC h → Sy .one P ops (QO P ops Q w0 M h0 hC cnt (i :: done) h H) n D w0 M h0 [o] f hC []) : Zy P ops Q n D w0 M h0 hC (cnt + 1) done f h H := fun hB a w ha hs => by
 unfold freeB at hf
 rw [Bool.and_eq_true, Bool.and_eq_true] at hf
 obtain ⟨v, hy, h1⟩ := k hB a w ha (hs.class hB)
 exact wpAnyH_take ho hf.1 hf.2.1 hf.2.2 (fun c a w hq => hq.elim) hy (hs.class hB) (h1 w (hs.class hB) w hs)
theorem ny_zq (hB : Base w0 h0 hC h) (k : Zy P ops Q n D w0 M h0 hC cnt done f h H) : Ny (QO P ops Q w0 M h0 hC cnt done h H) .normal n D w0 M h0 f hC [] := fun a w ha hs w' hs' => k hB a w' ha hs'
def Zop (P : Program) (ops : Array Oper) (Q : Exit → Act → World → Prop) (n : Nat) (D : List Deferred) (w0 : World) (M : List Nat) (h0 hC : Hp) (cnt : Nat) (done : List Nat) (f : Tab) (h : Hp) (H : List Res) (i : Nat) : Prop :=
 Base w0 h0 hC h → ∀ a w, Holds n D f a → St w0 M h0 h H w → wpOp P ops (NoPanic Q) i (fun a' w' => St w0 M h0 hC [] w' ∧ wpAnyH P .any ops (NoPanic Q) (St w0 M h0 hC []) cnt (lsA ops.size (i :: done)) a' w') a w
theorem zy_1 (i : Nat) (hr : readyB ops done [i] = true) (k : Zop P ops Q n D w0 M h0 hC cnt done f h H i) : Zy P ops Q n D w0 M h0 hC (cnt + 1) done f h H := fun hB a w ha hs =>
 wpAnyH_all (of_decide_eq_true hr) (by simp) (fun j hj => by
  simp only [List.mem_singleton] at hj
  subst hj
  exact k hB a w ha hs)
theorem zop_run {i : Nat} (ho : ops[i]? = some o) (hw : gok ops f o.guard = some true) (k : Base w0 h0 hC h → Sy .txt P ops (QZ P ops Q w0 M h0 hC cnt (i :: done)) n D w0 M h0 [o] f h H) : Zop P ops Q n D w0 M h0 hC cnt done f h H i := fun hB a w ha hs => by
 have h1 := k hB a w ha hs
 unfold Wk wpList at h1
 rw [if_pos (gok_wanted ha hw)] at h1
 unfold wpOp
 simp only [ho]
 rw [if_pos (gok_wanted ha hw)]
 have hex : ∀ e a w, e ≠ .normal → QZ P ops Q w0 M h0 hC cnt (i :: done) e a w → NoPanic Q e a w := fun e a w he hq => by
  cases e with
  | normal => exact absurd rfl he
  | exit id => exact hq
  | goto l => exact hq
  | ret => exact hq
  | panic ch => exact hq
  | outgrown => exact hq
 have hlet : LetsOut (QZ P ops Q w0 M h0 hC cnt (i :: done)) → LetsOut (NoPanic Q) := fun ⟨a, w, hq⟩ => ⟨a, w, hq⟩
 rcases h1 with h1 | h1
 · refine .inl ?_
   unfold Oper.wp at h1 ⊢
   generalize (execOp a.eval o).run P w = r at h1 ⊢
   cases r with
   | ok n w' =>
    cases n <;> simp only [Oper.upon] at h1 ⊢ <;>
     first
      | exact h1
      | exact Calls.mono h1 (fun e w'' he => by cases e <;> first | exact hlet he | exact he)
      | exact Rows.mono h1 (fun _ _ he => he)
   | halt x w' => cases x <;> simp only [Oper.upon] at h1 ⊢ <;> exact h1
 · exact .inr ⟨h1.1, hlet h1.2⟩
theorem ny_zy {h' : Hp} {f' : Tab} {H' : List Res} (hB : Base w0 h0 hC h) (hle : h.Le h') (k : Zy P ops Q n D w0 M h0 hC cnt done f' h' H') : Ny (QZ P ops Q w0 M h0 hC cnt done) .normal n D w0 M h0 f' h' H' := fun a w ha hs => by
 have hB' : Base w0 h0 hC h' := ⟨hB.l0, hB.old, hB.le.trans hle⟩
 exact ⟨hs.class hB', k hB' a w ha hs⟩
theorem Hp.blk {b e : Nat} {fr : Nat × Nat} {cs : List Value} (hb : h b = some (.cells cs.toArray e fr)) : ∀ (j : Nat) (u : Value), cs[j]? = some u → h.cell ⟨b, 0 + j, none⟩ = some u := fun j u hj => by
 simp [Hp.cell, hb, hj]
end
end Go.Proofs.YtanhhihechakhaaGreatDoor.E
set_option linter.unusedVariables false
set_option linter.unusedSimpArgs false
namespace Go.Proofs.YtanhhihechakhaaGreatDoor.E
open Go.RowKit
def byteC (u : UInt8) : List Value := [.int .u8 (u.toNat : Int)]
theorem byteC_len (l : List UInt8) : ∀ c ∈ l.map byteC, c.length = 1 := fun c hc => by
 obtain ⟨u, _, rfl⟩ := List.mem_map.1 hc
 rfl
theorem byteC_flat (l : List UInt8) : (l.map byteC).flatten = l.map fun u => Value.int .u8 (u.toNat : Int) := by
 induction l with
 | nil => rfl
 | cons u l ih => simp [byteC, ih]
section
variable {m : Md} {P : Program} {ops : Array Oper} {Q : Exit → Act → World → Prop} {n : Nat} {D : List Deferred} {w0 : World} {M : List Nat} {h0 : Hp}
variable {f : Tab} {h : Hp} {H : List Res} {rest : List Oper} {o : Oper}
section ops
variable {d t s : Nat} {p : String} {af : Array Edge} {g : Option (Nat × Bool)}
theorem sy_strbytes {x : Operand} {bs : ByteArray} {e s2 : Nat} (hs : P.underlying s = some .string) (ht : P.underlying s2 = some (.slice e)) (he : P.underlying e = some (.int .u8)) (hx : f.ev x = some (.string bs)) (hw : gok ops f g = some true) (hn : Nat.blt d n = true)
    (k : ∀ b c h', h.Le h' → RowsAt h' (some ⟨b, 0, none⟩) 1 (bs.data.toList.map byteC) → Sy .txt P ops Q n D w0 M h0 rest ((d, .slice (some ⟨b, 0, none⟩) bs.size c) :: f) h' H) (hM : ∀ x ∈ M, x < w0.heap.size) :
    Sy .txt P ops Q n D w0 M h0 (⟨some d, .convert s s2 x, t, p, af, g⟩ :: rest) f h H :=
 sy_op hw fun a w ha hs' => by
  have hrun := run_bytes_of_string w s s2 e bs hs ht he
  have hrun' : (execOp a.eval ⟨some d, .convert s s2 x, t, p, af, g⟩).run P w = .ok (.value (.slice (some ⟨w.heap.size, 0, none⟩) bs.size (grownCap w bs.size 0 e)))
      (w.drew.alloc (.cells (bytesRow bs (grownCap w bs.size 0 e)) e ((bytesRow bs (grownCap w bs.size 0 e)).size, (bytesRow bs (grownCap w bs.size 0 e)).size + 1))) := by
   simp only [execOp, ha.ev hx, Sem.run_bind, hrun, Result.andThen_ok, Sem.run_pure]
  unfold Oper.wp
  rw [hrun']
  have hd : St w0 M h0 h H w.drew := hs'.grow ⟨rfl, rfl, rfl, Nat.le_refl _, fun _ _ _ => rfl⟩
  have h1 := hd.alloc (.cells (bytesRow bs (grownCap w bs.size 0 e)) e ((bytesRow bs (grownCap w bs.size 0 e)).size, (bytesRow bs (grownCap w bs.size 0 e)).size + 1))
  have hsz : w.drew.heap.size = w.heap.size := rfl
  rw [hsz] at h1
  have hMb : w.heap.size ∉ M := fun hx => by have := hM _ hx; have := hs'.frm.size; omega
  obtain ⟨h2, h3⟩ := h1.freeze hMb
  refine k w.heap.size _ _ h3 ?_ _ _ (ha.put d _ hn) h2
  intro j c hj
  rw [List.getElem?_map, Option.map_eq_some_iff] at hj
  obtain ⟨u, hu, rfl⟩ := hj
  refine ⟨w.heap.size, 0, rfl, fun jj v hv => ?_⟩
  have hjj : jj = 0 := by
   have := (List.getElem?_eq_some_iff.1 hv).1
   simp only [byteC, List.length_cons, List.length_nil] at this
   omega
  subst hjj
  have hjl : j < bs.data.size := by
   have := (List.getElem?_eq_some_iff.1 hu).1
   simpa using this
  have hue : bs.data[j] = u := by
   have := (List.getElem?_eq_some_iff.1 hu).2
   simpa using this
  simp only [byteC, List.getElem?_cons_zero, Option.some.injEq] at hv
  subst hv
  have h4 := bytesRow_at bs (grownCap w bs.size 0 e) j hjl
  simp only [Hp.cell, if_true, Nat.zero_add, Nat.mul_one, Nat.add_zero, Option.isSome_none, Bool.false_eq_true, if_false, h4, hue]
theorem sy_byte1 {x : Operand} {b c e e2 s2 : Nat} {z : Int} {u : UInt8} {fr : Nat × Nat} {H1 : List Res} (i : Nat) (hs : P.underlying s = some (.slice e)) (he : P.underlying e = some (.int .u8)) (ht : P.underlying s2 = some .string) (hx : f.ev x = some (.slice (some ⟨b, 0, none⟩) 1 c)) (hp : pickR i H = some (.blk b (.cells [.int .u8 z].toArray e2 fr), H1)) (hz : z = (u.toNat : Int))
    (hw : gok ops f g = some true) (hn : Nat.blt d n = true) (k : Sy m P ops Q n D w0 M h0 rest ((d, .string ⟨#[u]⟩) :: f) h H) : Sy m P ops Q n D w0 M h0 (⟨some d, .convert s s2 x, t, p, af, g⟩ :: rest) f h H :=
 sy_val hw rfl hn (fun a w ha hs' => by
  have hb : w.heap[b]? = some (.cells [.int .u8 z].toArray e2 fr) := (hs'.swap (pickR_perm hp)).ok _ (List.mem_cons_self)
  have hrun : (convert s s2 (.slice (some ⟨b, 0, none⟩) 1 c)).run P w = .ok (.string ⟨#[u]⟩) w := by
   refine run_convert_bytes_back w s s2 e ⟨b, 0, none⟩ c [u] hs he ht fun j hj => ?_
   have hj0 : j = 0 := by simp at hj; omega
   subst hj0
   rw [Addr.add_at]
   simp [World.cell?, hb, hz]
  simp only [execOp, ha.ev hx, Sem.run_bind, hrun, Result.andThen_ok, Sem.run_pure]) k
end ops
end
end Go.Proofs.YtanhhihechakhaaGreatDoor.E
set_option linter.unusedVariables false
set_option linter.unusedSimpArgs false
namespace Go.Proofs.YtanhhihechakhaaGreatDoor.E
open Go.RowKit
def CXM {X : Type} (P : Program) (F : Nat) (vs : List Value) (h : Hp) (g : Nat) (o : Obj) (rv : X → Value) (Φ : X → Hp → Obj → Prop) : Prop :=
 ∀ w, h.Sub w → h g = none → w.heap[g]? = some o → Calls P F vs.toArray w fun e w' => ∃ x h' o', e = .returned (rv x) ∧ Φ x h' o' ∧ Frm w [g] w' ∧ h'.Sub w' ∧ h.Le h' ∧ (∀ k, k < w.heap.size → h' k = h k) ∧ w'.heap[g]? = some o'
def CMD (P : Program) (F : Nat) (vs : List Value) (h : Hp) (g : Nat) (o o' : Obj) : Prop :=
 ∀ u w, h.Sub w → h g = none → w.heap[g]? = some o → CallsD P F vs.toArray u w fun e u' w' => u' = u ∧ (∃ v, e = .returned v) ∧ Frm w [g] w' ∧ w'.heap[g]? = some o'
section
variable {m : Md} {P : Program} {ops : Array Oper} {Q : Exit → Act → World → Prop} {n : Nat} {D : List Deferred} {w0 : World} {M : List Nat} {h0 : Hp}
variable {f : Tab} {h : Hp} {H : List Res} {rest : List Oper} {o : Oper}
theorem St.turned {w w' : World} {g : Nat} {ob ob' : Obj} {H1 : List Res} {h' : Hp} (s : St w0 M h0 h (.blk g ob :: H1) w) (hf : Frm w [g] w') (hsub : h'.Sub w') (hle : h.Le h') (hold : ∀ k, k < w.heap.size → h' k = h k) (hg : w'.heap[g]? = some ob') : St w0 M h0 h' (.blk g ob' :: H1) w' := by
 have s' := s.write hf hg
 refine { frm := s'.frm, sub := hsub, le := s'.le.trans hle, old := fun k hk => (hold k (Nat.lt_of_lt_of_le hk s.frm.size)).trans (s.old k hk), ok := s'.ok, own := ?_, dis := s'.dis }
 intro r hr k hk
 have h1 := s'.own r hr k hk
 have hlt : k < w.heap.size := by
  rcases List.mem_cons.1 hr with rfl | hr'
  · simp only [Res.key, Option.some.injEq] at hk
    subst hk
    exact (Array.getElem?_eq_some_iff.1 (show w.heap[g]? = some ob from s.ok _ (List.mem_cons_self))).1
  · exact Res.Ok.lt (s.ok r (List.mem_cons_of_mem _ hr')) hk
 exact ⟨(hold k hlt).trans h1.1, h1.2⟩
section calls
variable {d t : Nat} {p : String} {af : Array Edge} {g : Option (Nat × Bool)} {F : Nat} {args : Array Operand} {tys : Array TypeId} {vs : List Value}
theorem sy_callxm {X : Type} {rv : X → Value} {b : Nat} {ob : Obj} {H1 : List Res} {Φ : X → Hp → Obj → Prop} (i : Nat) (hF : callB P F = true) (hx : f.evs args.toList = some vs) (hp : pickR i H = some (.blk b ob, H1)) (hc : CXM P F vs h b ob rv Φ) (hw : gok ops f g = some true) (hn : Nat.blt d n = true)
    (k : ∀ x h' o', Φ x h' o' → h.Le h' → Sy .txt P ops Q n D w0 M h0 rest ((d, rv x) :: f) h' (.blk b o' :: H1)) : Sy .txt P ops Q n D w0 M h0 (⟨some d, .call ⟨.value (.func F), args, tys⟩, t, p, af, g⟩ :: rest) f h H :=
 sy_op hw fun a w ha hs => by
  have hs' := hs.swap (pickR_perm hp)
  unfold Oper.wp
  rw [run_callF hF ha hx]
  refine (hc w hs.sub (hs'.own _ (List.mem_cons_self) b rfl).1 (hs'.ok _ (List.mem_cons_self))).mono fun e w' ⟨x, h', o', he, hΦ, hf, hsub, hle, hold, hg⟩ => ?_
  subst he
  exact k x h' o' hΦ hle _ w' (ha.put d _ hn) (hs'.turned hf hsub hle hold hg)
theorem run_callB {a : Act} {w : World} {dst : Option Nat} {fv : Operand} {fs caps : List Value} (hF : callB P F = true) (ha : Holds n D f a) (hf : f.ev fv = some (.func (.func F) fs.toArray caps.toArray)) (hx : f.evs args.toList = some vs) :
    (execOp a.eval ⟨dst, .call ⟨.value fv, args, tys⟩, t, p, af, g⟩).run P w = .ok (.enter F (fs ++ vs ++ caps).toArray) w := by
 have h1 := map_evs ha hx
 have h2 : (fs ++ vs ++ caps).toArray = fs.toArray ++ vs.toArray ++ caps.toArray := by simp
 rw [h2]
 simp only [execOp, resolve, h1, ha.ev hf, Deferred.ofValue, Sem.run_bind, Sem.run_pure, Result.andThen_ok, invoke, call_spec hF]
theorem sy_callbxm {X : Type} {rv : X → Value} {fv : Operand} {fs caps : List Value} {b : Nat} {ob : Obj} {H1 : List Res} {Φ : X → Hp → Obj → Prop} (i : Nat) (hF : callB P F = true) (hf : f.ev fv = some (.func (.func F) fs.toArray caps.toArray)) (hx : f.evs args.toList = some vs) (hp : pickR i H = some (.blk b ob, H1)) (hc : CXM P F (fs ++ vs ++ caps) h b ob rv Φ) (hw : gok ops f g = some true) (hn : Nat.blt d n = true)
    (k : ∀ x h' o', Φ x h' o' → h.Le h' → Sy .txt P ops Q n D w0 M h0 rest ((d, rv x) :: f) h' (.blk b o' :: H1)) : Sy .txt P ops Q n D w0 M h0 (⟨some d, .call ⟨.value fv, args, tys⟩, t, p, af, g⟩ :: rest) f h H :=
 sy_op hw fun a w ha hs => by
  have hs' := hs.swap (pickR_perm hp)
  unfold Oper.wp
  rw [run_callB hF ha hf hx]
  refine (hc w hs.sub (hs'.own _ (List.mem_cons_self) b rfl).1 (hs'.ok _ (List.mem_cons_self))).mono fun e w' ⟨x, h', o', he, hΦ, hf, hsub, hle, hold, hg⟩ => ?_
  subst he
  exact k x h' o' hΦ hle _ w' (ha.put d _ hn) (hs'.turned hf hsub hle hold hg)
theorem sy_bind {F1 : Nat} {xs ys : Array Operand} {us vs : List Value} {s : Nat} (hx : f.evs xs.toList = some us) (hy : f.evs ys.toList = some vs) (hw : gok ops f g = some true) (hn : Nat.blt d n = true)
    (k : Sy m P ops Q n D w0 M h0 rest ((d, .func (.func F1) us.toArray vs.toArray) :: f) h H) : Sy m P ops Q n D w0 M h0 (⟨some d, .makeFunc (.func F1) xs ys, t, p, af, g⟩ :: rest) f h H :=
 sy_val hw rfl hn (fun a w ha _ => by
  have h1 := map_evs ha hx
  have h2 := map_evs ha hy
  simp [execOp, Instr.makeFunc, h1, h2]) k
theorem sy_exq {v : Value} (hx : f.evs args.toList = some vs) (hr : ∀ w, St w0 M h0 h H w → (callFunc F vs.toArray).run P w = .ok (.value v) w) (hw : gok ops f g = some true) (hn : Nat.blt d n = true)
    (k : Sy m P ops Q n D w0 M h0 rest ((d, v) :: f) h H) : Sy m P ops Q n D w0 M h0 (⟨some d, .call ⟨.value (.func F), args, tys⟩, t, p, af, g⟩ :: rest) f h H :=
 sy_val hw rfl hn (fun a w ha hs => by
  have h1 := map_evs ha hx
  simp only [execOp, resolve, h1, Act.eval, Deferred.ofValue, Sem.run_bind, Sem.run_pure, Result.andThen_ok, invoke, Array.empty_append, Array.append_empty, hr w hs]) k
theorem sy_exw {v old new : Value} {b off e : Nat} {cs cs' : List Value} {H1 : List Res} (i : Nat) (hx : f.evs args.toList = some vs) (hp : pickR i H = some (.blk b (.cells cs.toArray e (0, 0)), H1)) (ho : cs[off]? = some old) (hc : cs.set off new = cs')
    (hr : ∀ w, w.cell? ⟨b, off, none⟩ = some old → w.frozen? ⟨b, off, none⟩ = false → (callFunc F vs.toArray).run P w = .ok (.value v) (w.setCell ⟨b, off, none⟩ new)) (hw : gok ops f g = some true) (hn : Nat.blt d n = true)
    (k : Sy .txt P ops Q n D w0 M h0 rest ((d, v) :: f) h (.blk b (.cells cs'.toArray e (0, 0)) :: H1)) : Sy .txt P ops Q n D w0 M h0 (⟨some d, .call ⟨.value (.func F), args, tys⟩, t, p, af, g⟩ :: rest) f h H :=
 sy_op hw fun a w ha hs => by
  have hs' := hs.swap (pickR_perm hp)
  have hb : w.heap[b]? = some (.cells cs.toArray e (0, 0)) := hs'.ok _ (List.mem_cons_self)
  have hcell : w.cell? ⟨b, off, none⟩ = some old := by simp [World.cell?, hb, ho]
  have hfz : w.frozen? ⟨b, off, none⟩ = false := by simp [World.frozen?, hb]
  have h1 := map_evs ha hx
  have hrun : (execOp a.eval ⟨some d, .call ⟨.value (.func F), args, tys⟩, t, p, af, g⟩).run P w = .ok (.value v) (w.setCell ⟨b, off, none⟩ new) := by
   simp only [execOp, resolve, h1, Act.eval, Deferred.ofValue, Sem.run_bind, Sem.run_pure, Result.andThen_ok, invoke, Array.empty_append, Array.append_empty, hr w hcell hfz]
  unfold Oper.wp
  rw [hrun]
  refine k _ _ (ha.put d _ hn) (hs'.write (o' := .cells cs'.toArray e (0, 0)) ⟨rfl, rfl, rfl, by simp [World.setCell], fun j hj hm => heap_setCell_other w ⟨b, off, none⟩ j new (by simpa using hm)⟩ ?_)
  rw [heap_setCell_same w b off cs.toArray e new hb, ← hc]
  simp
theorem sy_defer (hx : f.evs args.toList = some vs) (hw : gok ops f g = some true) (k : Sy .txt P ops Q n (⟨.fn (.func F) #[], vs.toArray⟩ :: D) w0 M h0 rest f h H) :
    Sy .txt P ops Q n D w0 M h0 (⟨none, .defer ⟨.value (.func F), args, tys⟩, t, p, af, g⟩ :: rest) f h H :=
 sy_op hw fun a w ha hs => by
  have h1 := map_evs ha hx
  have hrun : (execOp a.eval ⟨none, .defer ⟨.value (.func F), args, tys⟩, t, p, af, g⟩).run P w = .ok (.defer ⟨.fn (.func F) #[], vs.toArray⟩) w := by
   simp only [execOp, resolve, h1, Act.eval, Deferred.ofValue, Sem.run_bind, Sem.run_pure, Result.andThen_ok, Array.empty_append]
  unfold Oper.wp
  rw [hrun]
  exact k _ w ⟨ha.size, by simp [Act.put, ha.defers], ha.get⟩ hs
theorem sy_invoke {recv : Operand} {name : String} {vr v : Value} {vs2 : List Value} (hm : m.plain = true) (hr : f.ev recv = some vr) (hx : f.evs args.toList = some vs) (hmeth : ∀ w, (callMethod vr name vs.toArray).run P w = .ok (.enter F vs2.toArray) w) (hc : C0 P F vs2 h v) (hw : gok ops f g = some true) (hn : Nat.blt d n = true)
    (k : Sy m P ops Q n D w0 M h0 rest ((d, v) :: f) h H) : Sy m P ops Q n D w0 M h0 (⟨some d, .call ⟨.invoke recv name, args, tys⟩, t, p, af, g⟩ :: rest) f h H :=
 sy_enter hm hw rfl hn (fun a w ha => by
  have h1 := map_evs ha hx
  have h2 : (#[vr] ++ vs.toArray)[0]? = some vr := by simp
  have h3 : (#[vr] ++ vs.toArray).extract 1 (#[vr] ++ vs.toArray).size = vs.toArray := by
   apply Array.ext'
   simp
  simp only [execOp, resolve, h1, ha.ev hr, Sem.run_bind, Sem.run_pure, Result.andThen_ok, invoke, h2, h3, hmeth]) (fun w hs => hc w hs.sub) k
end calls
/-! the deferred calls, at the end -/
def Lv (P : Program) (fn : Func) (R : Ending → World → Prop) (n : Nat) (ds : List Deferred) (w0 : World) (M : List Nat) (h0 : Hp) (f : Tab) (h : Hp) (H : List Res) : Prop :=
 ∀ (a : Act) (w : World), a.tmps.size = n → (∀ (i : Nat) (v : Value), f.get i = some v → a.tmps[i]? = some v) → St w0 M h0 h H w → Leaves P fn a.tmps R ds .returning w
theorem ny_finD {fn : Func} {R : Ending → World → Prop} (k : Lv P fn R n D w0 M h0 f h H) : Ny (bodyPostD P fn R) .normal n D w0 M h0 f h H := fun a w ha hs => by
 show Leaves P fn a.tmps R a.defers .returning w
 rw [ha.defers]
 exact k a w ha.size ha.get hs
theorem lv_cons {fn : Func} {R : Ending → World → Prop} {F b : Nat} {vs : List Value} {ds : List Deferred} {ob ob' : Obj} {H1 : List Res} (i : Nat) (hF : callB P F = true) (hp : pickR i H = some (.blk b ob, H1)) (hc : CMD P F vs h b ob ob') (k : Lv P fn R n ds w0 M h0 f h (.blk b ob' :: H1)) :
    Lv P fn R n (⟨.fn (.func F) #[], vs.toArray⟩ :: ds) w0 M h0 f h H := fun a w hsz ha hs => by
 have hs' := hs.swap (pickR_perm hp)
 refine leaves_cons (f := F) (args := vs.toArray) (by simp) (by simp only [invoke, Array.append_empty, call_spec hF]) ?_
 refine (hc .returning w hs.sub (hs'.own _ (List.mem_cons_self) b rfl).1 (hs'.ok _ (List.mem_cons_self))).mono fun e u' w' ⟨hu, ⟨v, he⟩, hf, hg⟩ => ?_
 subst he hu
 exact k a w' hsz ha (hs'.write hf hg)
theorem lv_nil {fn : Func} {R : Ending → World → Prop} {v : Value} (hres : ∀ a w, Holds n [] f a → St w0 M h0 h H w → (results fn a.tmps).run P w = .ok v w) (k : ∀ w, St w0 M h0 h H w → R (.returned v) w) : Lv P fn R n [] w0 M h0 f h H := fun a w hsz ha hs =>
 ⟨v, hres ⟨a.tmps, []⟩ w ⟨hsz, rfl, ha⟩ hs, k w hs⟩
/-! entry -/
theorem enterXM {X : Type} {rv : X → Value} {Φ : X → Hp → Obj → Prop} {F : Nat} {fn : Func} {c : Code} {vs : List Value} {b : Nat} {ob : Obj} (hf : P.funcs[F]? = some fn) (hb : fn.body = some c) (hi : initO 0 vs = some f) (hn : Nat.ble vs.length fn.ntmps = true)
    (k : ∀ w, b < w.heap.size → Cy P c (bodyPost P fn fun e w' => ∃ x h' o', e = .returned (rv x) ∧ Φ x h' o' ∧ Frm w [b] w' ∧ h'.Sub w' ∧ h.Le h' ∧ (∀ k, k < w.heap.size → h' k = h k) ∧ w'.heap[b]? = some o') fn.ntmps [] w [b] h f h [.blk b ob]) : CXM P F vs h b ob rv Φ :=
 fun w hs hg hw => enterM hf hb hi hn (St.start1 hs hw hg) (k w (Array.getElem?_eq_some_iff.1 hw).1)
theorem enterMD' {F : Nat} {fn : Func} {c : Code} {vs : List Value} {R : Ending → World → Prop} (hf : P.funcs[F]? = some fn) (hb : fn.body = some c) (hi : initO 0 vs = some f) (hn : Nat.ble vs.length fn.ntmps = true)
    {w : World} (hs : St w M h0 h H w) (k : Cy P c (bodyPostD P fn R) fn.ntmps [] w M h0 f h H) : Calls P F vs.toArray w R := by
 refine calls_of_wp_defers hf hb (k _ w ⟨?_, rfl, fun i v hiv => ?_⟩ hs)
 · have := Nat.le_of_ble_eq_true hn
   simp
   omega
 · obtain ⟨_, h1⟩ := initO_get hi i v hiv
   have hlt := (List.getElem?_eq_some_iff.1 h1).1
   simp only [Nat.sub_zero] at h1 hlt
   rw [Array.getElem?_append_left (by simpa using hlt)]
   simpa using h1
theorem enterXMD {X : Type} {rv : X → Value} {Φ : X → Hp → Obj → Prop} {F : Nat} {fn : Func} {c : Code} {vs : List Value} {b : Nat} {ob : Obj} (hf : P.funcs[F]? = some fn) (hb : fn.body = some c) (hi : initO 0 vs = some f) (hn : Nat.ble vs.length fn.ntmps = true)
    (k : ∀ w, b < w.heap.size → Cy P c (bodyPostD P fn fun e w' => ∃ x h' o', e = .returned (rv x) ∧ Φ x h' o' ∧ Frm w [b] w' ∧ h'.Sub w' ∧ h.Le h' ∧ (∀ k, k < w.heap.size → h' k = h k) ∧ w'.heap[b]? = some o') fn.ntmps [] w [b] h f h [.blk b ob]) : CXM P F vs h b ob rv Φ :=
 fun w hs hg hw => enterMD' hf hb hi hn (St.start1 hs hw hg) (k w (Array.getElem?_eq_some_iff.1 hw).1)
theorem enter1D {F : Nat} {fn : Func} {c : Code} {vs : List Value} {b : Nat} {ob ob' : Obj} (hf : P.funcs[F]? = some fn) (hb : fn.body = some c) (hi : initO 0 vs = some f) (hn : Nat.ble vs.length fn.ntmps = true)
    (k : ∀ w, b < w.heap.size → Cy P c (bodyPost P fn fun e w' => (∃ v, e = .returned v) ∧ Frm w [b] w' ∧ w'.heap[b]? = some ob') fn.ntmps [] w [b] h f h [.blk b ob]) : CMD P F vs h b ob ob' :=
 fun u w hs hg hw => by
  refine callsD_of_wp hf hb (k w (Array.getElem?_eq_some_iff.1 hw).1 _ w ⟨?_, rfl, fun i v hiv => ?_⟩ (St.start1 hs hw hg))
  · have := Nat.le_of_ble_eq_true hn
    simp
    omega
  · obtain ⟨_, h1⟩ := initO_get hi i v hiv
    have hlt := (List.getElem?_eq_some_iff.1 h1).1
    simp only [Nat.sub_zero] at h1 hlt
    rw [Array.getElem?_append_left (by simpa using hlt)]
    simpa using h1
theorem St.toTurn {w : World} {w1 : World} {b : Nat} {ob : Obj} {H1 : List Res} (hs : St w [b] h0 h (.blk b ob :: H1) w1) : Frm w [b] w1 ∧ h.Sub w1 ∧ h0.Le h ∧ (∀ k, k < w.heap.size → h k = h0 k) ∧ w1.heap[b]? = some ob := ⟨hs.frm, hs.sub, hs.le, hs.old, hs.ok _ (List.mem_cons_self)⟩
end
end Go.Proofs.YtanhhihechakhaaGreatDoor.E
set_option linter.unusedVariables false
set_option linter.unusedSimpArgs false
namespace Go.Proofs.YtanhhihechakhaaGreatDoor.E
open Go.RowKit
def CXN {X : Type} (P : Program) (F : Nat) (vs : List Value) (h : Hp) (rv : X → Nat → Value) (Φ : X → Hp → Obj → Prop) : Prop :=
 ∀ w, h.Sub w → Calls P F vs.toArray w fun e w' => ∃ x b h' o', e = .returned (rv x b) ∧ Φ x h' o' ∧ Grow h w h' w' ∧ w.heap.size ≤ b ∧ w'.heap[b]? = some o' ∧ h' b = none
section
variable {m : Md} {P : Program} {ops : Array Oper} {Q : Exit → Act → World → Prop} {n : Nat} {D : List Deferred} {w0 : World} {M : List Nat} {h0 : Hp}
variable {f : Tab} {h : Hp} {H : List Res} {rest : List Oper} {o : Oper}
theorem St.addNew {w w' : World} {h' : Hp} {b : Nat} {o' : Obj} (s : St w0 M h0 h H w) (g : Grow h w h' w') (hb : w.heap.size ≤ b) (hob : w'.heap[b]? = some o') (hn : h' b = none) : St w0 M h0 h' (.blk b o' :: H) w' := by
 have s' := s.grow' g
 refine { s' with ok := ?_, own := ?_, dis := ?_ }
 · intro r hr
   rcases List.mem_cons.1 hr with rfl | hr
   · exact hob
   · exact s'.ok r hr
 · intro r hr k hk
   rcases List.mem_cons.1 hr with rfl | hr
   · simp only [Res.key, Option.some.injEq] at hk
     subst hk
     exact ⟨hn, .inl (Nat.le_trans s.frm.size hb)⟩
   · exact s'.own r hr k hk
 · refine List.Pairwise.cons (fun r hr k hk hk' => ?_) s'.dis
   simp only [Res.key, Option.some.injEq] at hk
   subst hk
   have := Res.Ok.lt (s.ok r hr) hk'
   omega
section ops
variable {d t s : Nat} {p : String} {af : Array Edge} {g : Option (Nat × Bool)}
theorem sy_callxn {X : Type} {F : Nat} {args : Array Operand} {tys : Array TypeId} {vs : List Value} {rv : X → Nat → Value} {Φ : X → Hp → Obj → Prop} (hF : callB P F = true) (hx : f.evs args.toList = some vs) (hc : CXN P F vs h rv Φ) (hw : gok ops f g = some true) (hn : Nat.blt d n = true)
    (k : ∀ x b h' o', Φ x h' o' → h.Le h' → w0.heap.size ≤ b → b ∉ M → Sy .txt P ops Q n D w0 M h0 rest ((d, rv x b) :: f) h' (.blk b o' :: H)) (hM : ∀ x ∈ M, x < w0.heap.size) : Sy .txt P ops Q n D w0 M h0 (⟨some d, .call ⟨.value (.func F), args, tys⟩, t, p, af, g⟩ :: rest) f h H :=
 sy_op hw fun a w ha hs => by
  unfold Oper.wp
  rw [run_callF hF ha hx]
  refine (hc w hs.sub).mono fun e w' ⟨x, b, h', o', he, hΦ, hg, hb, hob, hnb⟩ => ?_
  subst he
  have hle := hs.frm.size
  exact k x b h' o' hΦ hg.le (by omega) (fun hx => by have := hM _ hx; omega) _ w' (ha.put d _ hn) (hs.addNew hg hb hob hnb)
theorem sy_unsafe {x : Operand} {b off s2 tt : Nat} {v : Value} (hs : P.underlying s = some (.pointer tt)) (hd : P.underlying s2 = some .unsafePointer) (hsz : (P.info? tt).map (fun i => decide (i.size = 0)) = some false) (hx : f.ev x = some (.pointer (some ⟨b, off, none⟩))) (hc : ∀ w, St w0 M h0 h H w → w.cell? ⟨b, off, none⟩ = some v)
    (hw : gok ops f g = some true) (hn : Nat.blt d n = true) (k : Sy m P ops Q n D w0 M h0 rest ((d, .pointer (some ⟨b, off, none⟩)) :: f) h H) : Sy m P ops Q n D w0 M h0 (⟨some d, .convert s s2 x, t, p, af, g⟩ :: rest) f h H :=
 sy_val hw rfl hn (fun a w ha hs' => by
  have h1 := run_convert_to_unsafe hs hd hsz (hc w hs')
  simp only [execOp, ha.ev hx, Sem.run_bind, h1, Result.andThen_ok, Sem.run_pure]) k
/-! slices made -/
theorem sy_make0 {x y : Operand} {k1 k2 : IntKind} {e size bytes c : Nat} (hr : rowB P s e size bytes = true) (hx : f.ev x = some (.int k1 0)) (hy : f.ev y = some (.int k2 (c : Int))) (hby : bytes * c ≤ 281474976710656) (hm : c ≤ maxLen) (hw : gok ops f g = some true) (hn : Nat.blt d n = true)
    (k : ∀ b, w0.heap.size ≤ b → b ∉ M → Sy .txt P ops Q n D w0 M h0 rest ((d, .slice (some ⟨b, 0, none⟩) 0 c) :: f) h (.row (.slice (some ⟨b, 0, none⟩) 0 c) e size 0 [] :: H)) (hM : ∀ x ∈ M, x < w0.heap.size) :
    Sy .txt P ops Q n D w0 M h0 (⟨some d, .makeSlice s x y, t, p, af, g⟩ :: rest) f h H :=
 sy_op hw fun a w ha hs => by
  obtain ⟨h2, inf, z, h3, h4, h5, h6, h7⟩ := row_spec hr
  have hzc : z.cells.size = inf.size := by rw [h7, h5]
  have hle := hs.frm.size
  have hMb : w.heap.size ∉ M := fun hx => by have := hM _ hx; omega
  have h8 := run_make (P := P) w s e inf z h2 h3 h4 k1 k2 0 c (by omega) (by omega) (by
   have : ((inf.bytes * c : Nat) : Int) ≤ 281474976710656 := by rw [h6]; omega
   rwa [Int.natCast_mul] at this) (by simp only [maxLen] at hm; omega)
  simp only [Int.toNat_zero, Int.toNat_natCast] at h8
  have hrun : (execOp a.eval ⟨some d, .makeSlice s x y, t, p, af, g⟩).run P w = .ok (.value (.slice (some ⟨w.heap.size, 0, none⟩) 0 c)) (w.alloc (.cells (madeCells z.cells (c * inf.size)) e)) := by
   simp only [execOp, ha.ev hx, ha.ev hy, Sem.run_bind, h8, Result.andThen_ok, Sem.run_pure]
  unfold Oper.wp
  rw [hrun]
  have h9 := hs.alloc (.cells (madeCells z.cells (c * inf.size)) e)
  have hlen : (madeCells z.cells (c * inf.size)).size = c * size := by
   rw [size_madeCells, h5]
  refine k w.heap.size hle hMb _ _ (ha.put d _ hn) ?_
  exact { h9 with
   ok := fun r hr => by
    rcases List.mem_cons.1 hr with rfl | hr
    · exact ⟨by simp, .inr ⟨w.heap.size, c, madeCells z.cells (c * inf.size), rfl, Nat.zero_le _, h9.ok _ (List.mem_cons_self), Nat.zero_le _, hm, hlen, by simp⟩⟩
    · exact h9.ok r (List.mem_cons_of_mem _ hr)
   own := fun r hr k hk => by
    rcases List.mem_cons.1 hr with rfl | hr
    · exact h9.own (.blk w.heap.size (.cells (madeCells z.cells (c * inf.size)) e)) (List.mem_cons_self) k hk
    · exact h9.own r (List.mem_cons_of_mem _ hr) k hk
   dis := List.Pairwise.cons (fun r hr k hk => (List.pairwise_cons.1 h9.dis).1 r hr k hk) (List.pairwise_cons.1 h9.dis).2 }
theorem sy_makeB {x y : Operand} {k1 k2 : IntKind} {e c : Nat} (hr : rowB P s e 1 1 = true) (hz : zerL P e = some [.int .u8 0]) (hx : f.ev x = some (.int k1 (c : Int))) (hy : f.ev y = some (.int k2 (c : Int))) (hby : c ≤ 281474976710656) (hw : gok ops f g = some true) (hn : Nat.blt d n = true)
    (k : ∀ b, w0.heap.size ≤ b → b ∉ M → Sy .txt P ops Q n D w0 M h0 rest ((d, .slice (some ⟨b, 0, none⟩) c c) :: f) h (.blk b (.cells (List.replicate c (Value.int .u8 0)).toArray e (0, 0)) :: H)) (hM : ∀ x ∈ M, x < w0.heap.size) :
    Sy .txt P ops Q n D w0 M h0 (⟨some d, .makeSlice s x y, t, p, af, g⟩ :: rest) f h H :=
 sy_op hw fun a w ha hs => by
  obtain ⟨h2, inf, z, h3, h4, h5, h6, h7⟩ := row_spec hr
  have hle := hs.frm.size
  have hMb : w.heap.size ∉ M := fun hx => by have := hM _ hx; omega
  have hzc : z.cells = #[.int .u8 0] := by
   unfold zerL at hz
   rw [h3] at hz
   simp only [h4] at hz
   exact cellsO_spec hz
  have h8 := run_make (P := P) w s e inf z h2 h3 h4 k1 k2 c c (by omega) (by omega) (by rw [h6]; omega) (by omega)
  simp only [Int.toNat_natCast] at h8
  have hmc : madeCells z.cells (c * inf.size) = (List.replicate c (Value.int .u8 0)).toArray := by
   apply Array.ext'
   rw [hzc, h5, Nat.mul_one, toList_madeCells_one]
  rw [hmc] at h8
  have hrun : (execOp a.eval ⟨some d, .makeSlice s x y, t, p, af, g⟩).run P w = .ok (.value (.slice (some ⟨w.heap.size, 0, none⟩) c c)) (w.alloc (.cells (List.replicate c (Value.int .u8 0)).toArray e)) := by
   simp only [execOp, ha.ev hx, ha.ev hy, Sem.run_bind, h8, Result.andThen_ok, Sem.run_pure]
  unfold Oper.wp
  rw [hrun]
  exact k w.heap.size hle hMb _ _ (ha.put d _ hn) (hs.alloc _)
theorem sy_rowform {v : Value} {e sz l : Nat} {xs : List Value} {H1 : List Res} (i : Nat) (hp : pickR i H = some (.row v e sz l xs, H1)) (k : ∀ A c, v = .slice A l c → Sy .txt P ops Q n D w0 M h0 rest f h H) : Sy .txt P ops Q n D w0 M h0 rest f h H := fun a w ha hs => by
 have hr : w.ownsRow 0 e sz v l xs := (hs.swap (pickR_perm hp)).ok _ (List.mem_cons_self)
 rcases hr.2 with ⟨rfl, rfl⟩ | ⟨g, cap, cur, rfl, _⟩
 · exact k none 0 rfl a w ha hs
 · exact k _ cap rfl a w ha hs
theorem sy_cutFrom {x y : Operand} {b off l c e k0 sz : Nat} {ik : IntKind} (hs : elsB P s e sz = true) (hx : f.ev x = some (.slice (some ⟨b, off, none⟩) l c)) (hy : f.ev y = some (.int ik (k0 : Int))) (hk : k0 ≤ l) (hkc : k0 < c) (hw : gok ops f g = some true) (hn : Nat.blt d n = true)
    (k : Sy m P ops Q n D w0 M h0 rest ((d, .slice (some ⟨b, off + k0 * sz, none⟩) (l - k0) (c - k0)) :: f) h H) : Sy m P ops Q n D w0 M h0 (⟨some d, .slice s x (some y) none none, t, p, af, g⟩ :: rest) f h H := by
 obtain ⟨h2, inf, h3, h4⟩ := els_spec hs
 refine sy_val hw rfl hn (fun a w ha _ => ?_) k
 have hne : ¬ c = k0 := by omega
 simp [execOp, ha.ev hx, ha.ev hy, Instr.sliceAt, Instr.slice, Instr.sliceBounds, Instr.sliceBound, asIntOf, run_underlying h2, sizeOf, typeInfo, h3, h4, hk, hne, Addr.add_at]
theorem sy_copy {x y : Operand} {b off dl dc e sl sc tt : Nat} {A : Option Addr} {s1 s2 : Nat} {cs news cs' : List Value} {H1 : List Res} (i : Nat) (hr : rowB P s1 e 1 1 = true) (hx : f.ev x = some (.slice (some ⟨b, off, none⟩) dl dc)) (hy : f.ev y = some (.slice A sl sc)) (hp : pickR i H = some (.blk b (.cells cs.toArray tt (0, 0)), H1))
    (hsl : news.length = sl) (hpos : 0 < sl) (hd : sl ≤ dl) (hnews : ∀ j u, news[j]? = some u → ∃ ad : Addr, A = some ad ∧ h.cell (ad.add j) = some u) (h1 : ∀ u ∈ news, u.oneCell' = true) (hfit : off + sl ≤ cs.length) (hc : cs.take off ++ news ++ cs.drop (off + sl) = cs') (hw : gok ops f g = some true) (hn : Nat.blt d n = true)
    (k : Sy .txt P ops Q n D w0 M h0 rest ((d, .int .i64 (sl : Int)) :: f) h (.blk b (.cells cs'.toArray tt (0, 0)) :: H1)) : Sy .txt P ops Q n D w0 M h0 (⟨some d, .call ⟨.builtin .copy, #[x, y], #[s1, s2]⟩, t, p, af, g⟩ :: rest) f h H :=
 sy_op hw fun a w ha hs => by
  subst hsl
  obtain ⟨h2, inf, z, h3, h4, h5, h6, h7⟩ := row_spec hr
  have hs' := hs.swap (pickR_perm hp)
  have hb : w.heap[b]? = some (.cells cs.toArray tt (0, 0)) := hs'.ok _ (List.mem_cons_self)
  obtain ⟨ad, rfl, _⟩ := hnews 0 _ (List.getElem?_eq_getElem hpos)
  have hload := run_loadCells_list (P := P) w ad news (fun j u hj => by
   obtain ⟨ad', he, hcell⟩ := hnews j u hj
   injection he with he
   subst he
   exact hs.sub.cell hcell)
  have hst := run_storeCells_at P b off tt news 0 cs.toArray w hb (by simpa using hfit) h1
  simp only [Nat.add_zero] at hst
  have hmin : Nat.min news.length dl = news.length := Nat.min_eq_left hd
  have hrun : (execOp a.eval ⟨some d, .call ⟨.builtin .copy, #[x, y], #[s1, s2]⟩, t, p, af, g⟩).run P w = .ok (.value (.int .i64 (news.length : Int))) (w.setRow b cs'.toArray) := by
   simp [execOp, resolve, invoke, builtin, ha.ev hx, ha.ev hy, Builtin.copy_, run_underlying h2, Builtin.lenOf, Builtin.firstCells, sizeOf, typeInfo, h3, h5, hmin, hload, hst, hc, goInt]
  unfold Oper.wp
  rw [hrun]
  exact k _ _ (ha.put d _ hn) (hs'.write (o' := .cells cs'.toArray tt (0, 0)) ⟨rfl, rfl, rfl, by simp [World.setRow], fun j hj hm => setRow_other w b j _ (by simpa using hm)⟩ (setRow_heap w b cs.toArray _ tt _ hb))
theorem sy_bytesr {x : Operand} {b c e e2 s2 l : Nat} {bs : List UInt8} {cs : List Value} {fr : Nat × Nat} {H1 : List Res} (i : Nat) (hs : P.underlying s = some (.slice e)) (he : P.underlying e = some (.int .u8)) (ht : P.underlying s2 = some .string) (hx : f.ev x = some (.slice (some ⟨b, 0, none⟩) l c)) (hp : pickR i H = some (.blk b (.cells cs.toArray e2 fr), H1)) (hl : bs.length = l) (hcs : cs = bs.map fun u => Value.int .u8 (u.toNat : Int))
    (hw : gok ops f g = some true) (hn : Nat.blt d n = true) (k : Sy m P ops Q n D w0 M h0 rest ((d, .string ⟨bs.toArray⟩) :: f) h H) : Sy m P ops Q n D w0 M h0 (⟨some d, .convert s s2 x, t, p, af, g⟩ :: rest) f h H :=
 sy_val hw rfl hn (fun a w ha hs' => by
  subst hl hcs
  have hb : w.heap[b]? = some (.cells (bs.map fun u => Value.int .u8 (u.toNat : Int)).toArray e2 fr) := (hs'.swap (pickR_perm hp)).ok _ (List.mem_cons_self)
  have hrun : (convert s s2 (.slice (some ⟨b, 0, none⟩) bs.length c)).run P w = .ok (.string ⟨bs.toArray⟩) w := by
   refine run_convert_bytes_back w s s2 e ⟨b, 0, none⟩ c bs hs he ht fun j hj => ?_
   rw [Addr.add_at]
   simp [World.cell?, hb, hj]
  simp only [execOp, ha.ev hx, Sem.run_bind, hrun, Result.andThen_ok, Sem.run_pure]) k
theorem sy_eqsl {op : BinOp} {x : Operand} {A : Option Addr} {l c e l2 c2 : Nat} {b : Bool} {s2 : Nat} (hs : P.underlying s = some (.slice e)) (hx : f.ev x = some (.slice A l c)) (hb : match op with | .eql => b = A.isNone | .neq => b = !A.isNone | _ => False) (hw : gok ops f g = some true) (hn : Nat.blt d n = true)
    (k : Sy m P ops Q n D w0 M h0 rest ((d, .bool b) :: f) h H) : Sy m P ops Q n D w0 M h0 (⟨some d, .binOp op s x (.const (.slice none l2 c2)) s2, t, p, af, g⟩ :: rest) f h H := by
 refine sy_val hw rfl hn (fun a w ha _ => ?_) k
 have heq : ∀ dd, (Op.equalIn (dd + 1) s (.slice A l c) (.slice none l2 c2)).run P w = .ok A.isNone w := fun dd => by
  cases A <;> simp [Op.equalIn, run_underlying hs]
 have heq2 : (Op.equal s (.slice A l c) (.slice none l2 c2)).run P w = .ok A.isNone w := heq 9999
 have hc : a.eval (.const (.slice none l2 c2)) = .slice none l2 c2 := rfl
 cases op <;> simp only at hb <;> first | exact hb.elim | (subst hb; simp [execOp, ha.ev hx, hc, eqGuard_at_slice, binOp, heq2])
theorem run_quo {a b z : Int} (h1 : 0 < b) (hz : Int.tdiv a b = z) (hl : -9223372036854775808 ≤ z) (hu : z ≤ 9223372036854775807) (w : World) : (binOp .quo s (.int .i64 a) (.int .i64 b)).run P w = .ok (.int .i64 z) w := by
 have h5 : ¬ b = 0 := by omega
 have h6 : ¬ b = -1 := by omega
 subst hz
 simp [binOp, Op.intDiv, h5, IntWalk.i64_in (Int.tdiv a b) ⟨hl, hu⟩]
theorem sy_quo {x y : Operand} {m1 m2 z : Int} {s2 : Nat} (hx : f.ev x = some (.int .i64 m1)) (hy : f.ev y = some (.int .i64 m2)) (h1 : 0 < m2) (hz : Int.tdiv m1 m2 = z) (hl : -9223372036854775808 ≤ z) (hu : z ≤ 9223372036854775807) (hw : gok ops f g = some true) (hn : Nat.blt d n = true)
    (k : Sy m P ops Q n D w0 M h0 rest ((d, .int .i64 z) :: f) h H) : Sy m P ops Q n D w0 M h0 (⟨some d, .binOp .quo s x y s2, t, p, af, g⟩ :: rest) f h H :=
 sy_bin hx hy ⟨by simp, by simp⟩ (fun w => run_quo h1 hz hl hu w) hw hn k
theorem sy_strto {x z : Operand} {bs : ByteArray} {i2 : IntKind} {hi : Nat} (hs : P.underlying s = some .string) (hx : f.ev x = some (.string bs)) (hz : f.ev z = some (.int i2 (hi : Int))) (h2 : hi ≤ bs.size) (hw : gok ops f g = some true) (hn : Nat.blt d n = true)
    (k : Sy m P ops Q n D w0 M h0 rest ((d, .string (bs.extract 0 hi)) :: f) h H) : Sy m P ops Q n D w0 M h0 (⟨some d, .slice s x none (some z) none, t, p, af, g⟩ :: rest) f h H :=
 sy_val hw rfl hn (fun a w ha _ => by simp [execOp, ha.ev hx, ha.ev hz, Instr.sliceAt, Instr.slice, Instr.sliceBounds, Instr.sliceBound, asIntOf, run_underlying hs, h2]) k
end ops
theorem St.cellR {b off e : Nat} {cs : List Value} {fr : Nat × Nat} {v : Value} {H1 : List Res} {w : World} (i : Nat) (hp : pickR i H = some (.blk b (.cells cs.toArray e fr), H1)) (hc : cs[off]? = some v) (hs : St w0 M h0 h H w) : w.cell? ⟨b, off, none⟩ = some v := by
 have h1 : w.heap[b]? = some (.cells cs.toArray e fr) := (hs.swap (pickR_perm hp)).ok _ (List.mem_cons_self)
 simp [World.cell?, h1, hc]
/-! a loop, round by round -/
theorem cy_rounds {c : Code} (N : Nat) (k : Cy P c (Exit.then (Code.rounds P c Q N) Q) n D w0 M h0 f h H) : Cy P (.loop c) Q n D w0 M h0 f h H := fun a w ha hs => wp_loop_rounds (N + 1) (k a w ha hs)
theorem ny_again {c : Code} {N : Nat} (k : Cy P c (Exit.then (Code.rounds P c Q N) Q) n D w0 M h0 f h H) : Ny (Exit.then (Code.rounds P c Q (N + 1)) Q) .normal n D w0 M h0 f h H := fun a w ha hs => k a w ha hs
/-! entry -/
theorem enterXN {X : Type} {rv : X → Nat → Value} {Φ : X → Hp → Obj → Prop} {F : Nat} {fn : Func} {c : Code} {vs : List Value} (hf : P.funcs[F]? = some fn) (hb : fn.body = some c) (hi : initO 0 vs = some f) (hn : Nat.ble vs.length fn.ntmps = true)
    (k : ∀ w, Cy P c (bodyPost P fn fun e w' => ∃ x b h' o', e = .returned (rv x b) ∧ Φ x h' o' ∧ Grow h w h' w' ∧ w.heap.size ≤ b ∧ w'.heap[b]? = some o' ∧ h' b = none) fn.ntmps [] w [] h f h []) : CXN P F vs h rv Φ := fun w hs => enterM hf hb hi hn (St.start hs []) (k w)
theorem St.toNew {w w1 : World} {b : Nat} {ob : Obj} {H1 : List Res} (hs : St w [] h0 h (.blk b ob :: H1) w1) : Grow h0 w h w1 ∧ w.heap.size ≤ b ∧ w1.heap[b]? = some ob ∧ h b = none := by
 have h1 := hs.own _ (List.mem_cons_self) b rfl
 refine ⟨⟨hs.frm, hs.sub, hs.le, hs.old⟩, ?_, hs.ok _ (List.mem_cons_self), h1.1⟩
 rcases h1.2 with h2 | h2
 · exact h2
 · exact (List.not_mem_nil h2).elim
end
end Go.Proofs.YtanhhihechakhaaGreatDoor.E
set_option linter.unusedVariables false
namespace Go.Proofs.YtanhhihechakhaaGreatDoor
open Go.RowKit Go.Proofs.YtanhhihechakhaaGreatDoor.E
theorem bsl_22_2_0x1 {x1 : Int} {x2 : Int} {x3 : ByteArray} {x4 : Option Addr} {x5 : Nat} {x6 : Nat} {x7 : Int} {x8 : Int} {x9 : ByteArray} {x10 : Option Addr} {x11 : Nat} {x12 : Nat} (w : World) : (Instr.buildSlice 22 2 #[(0, .agg #[.int .i64 x1, .int .i64 x2, .string x3, .slice x4 x5 x6]), (1, .agg #[.int .i64 x7, .int .i64 x8, .string x9, .slice x10 x11 x12])]).run Tryz.prog w = .ok (.slice (some ⟨w.heap.size, 0, none⟩) 2 2) (w.alloc (.cells #[.int .i64 x1, .int .i64 x2, .string x3, .slice x4 x5 x6, .int .i64 x7, .int .i64 x8, .string x9, .slice x10 x11 x12] 24)) := by kernel_rfl
theorem bsl_37_2_0x1 {x1 : ByteArray} {x2 : ByteArray} (w : World) : (Instr.buildSlice 37 2 #[(0, .string x1), (1, .string x2)]).run Tryz.prog w = .ok (.slice (some ⟨w.heap.size, 0, none⟩) 2 2) (w.alloc (.cells #[.string x1, .string x2] 9)) := by kernel_rfl
theorem call_20 : callB Tryz.prog 20 = true := by kernel_rfl
theorem call_23 : callB Tryz.prog 23 = true := by kernel_rfl
theorem call_24 : callB Tryz.prog 24 = true := by kernel_rfl
theorem call_25 : callB Tryz.prog 25 = true := by kernel_rfl
theorem call_9 : callB Tryz.prog 9 = true := by kernel_rfl
end Go.Proofs.YtanhhihechakhaaGreatDoor
set_option linter.unusedVariables false
namespace Go.Proofs.YtanhhihechakhaaGreatDoor
open Go.RowKit Go.Proofs.YtanhhihechakhaaGreatDoor.E
theorem call_13 : callB Tryz.prog 13 = true := by kernel_rfl
theorem call_42 : callB Tryz.prog 42 = true := by kernel_rfl
end Go.Proofs.YtanhhihechakhaaGreatDoor
set_option linter.unusedVariables false
namespace Go.Proofs.YtanhhihechakhaaGreatDoor
open Go.RowKit Go.Proofs.YtanhhihechakhaaGreatDoor.E
theorem bld_24_0x1 {x1 : Int} {x2 : Int} (w : World) : (Instr.build 24 #[(0, .int .i64 x1), (1, .int .i64 x2)]).run Tryz.prog w = .ok (.agg #[.int .i64 x1, .int .i64 x2, .string ⟨#[]⟩, .slice none 0 0]) w := by kernel_rfl
theorem bld_24_0x2x3 {x1 : Int} {x2 : ByteArray} {x3 : Option Addr} {x4 : Nat} {x5 : Nat} (w : World) : (Instr.build 24 #[(0, .int .i64 x1), (2, .string x2), (3, .slice x3 x4 x5)]).run Tryz.prog w = .ok (.agg #[.int .i64 x1, .int .i64 0, .string x2, .slice x3 x4 x5]) w := by kernel_rfl
theorem bsl_22_0_  (w : World) : (Instr.buildSlice 22 0 #[]).run Tryz.prog w = .ok (.slice (some ⟨w.heap.size, 0, none⟩) 0 0) (w.alloc (.cells #[] 24)) := by kernel_rfl
theorem call_22 : callB Tryz.prog 22 = true := by kernel_rfl
theorem call_32 : callB Tryz.prog 32 = true := by kernel_rfl
theorem call_43 : callB Tryz.prog 43 = true := by kernel_rfl
theorem row_22 : rowB Tryz.prog 22 24 4 56 = true := by kernel_rfl
theorem zer_53 : zerL Tryz.prog 53 = some [.pointer none, .slice none 0 0] := by kernel_rfl
end Go.Proofs.YtanhhihechakhaaGreatDoor
set_option linter.unusedVariables false
namespace Go.Proofs.YtanhhihechakhaaGreatDoor
open Go.RowKit Go.Proofs.YtanhhihechakhaaGreatDoor.E
theorem agg_24 : aggB Tryz.prog 24 4 = true := by kernel_rfl
theorem call_30 : callB Tryz.prog 30 = true := by kernel_rfl
theorem call_31 : callB Tryz.prog 31 = true := by kernel_rfl
theorem call_46 : callB Tryz.prog 46 = true := by kernel_rfl
theorem call_47 : callB Tryz.prog 47 = true := by kernel_rfl
theorem call_62 : callB Tryz.prog 62 = true := by kernel_rfl
theorem call_63 : callB Tryz.prog 63 = true := by kernel_rfl
theorem els_22 : elsB Tryz.prog 22 24 4 = true := by kernel_rfl
theorem fld_24_0 : fldB Tryz.prog 24 0 0 = true := by kernel_rfl
theorem fld_24_1 : fldB Tryz.prog 24 1 1 = true := by kernel_rfl
theorem fld_24_2 : fldB Tryz.prog 24 2 2 = true := by kernel_rfl
theorem fld_24_3 : fldB Tryz.prog 24 3 3 = true := by kernel_rfl
theorem one_22 : oneB Tryz.prog 22 = true := by kernel_rfl
theorem one_2 : oneB Tryz.prog 2 = true := by kernel_rfl
theorem one_3 : oneB Tryz.prog 3 = true := by kernel_rfl
theorem sz_24 : szB Tryz.prog 24 4 = true := by kernel_rfl
theorem zer_24 : zerL Tryz.prog 24 = some [.int .i64 0, .int .i64 0, .string ⟨#[]⟩, .slice none 0 0] := by kernel_rfl
end Go.Proofs.YtanhhihechakhaaGreatDoor
set_option linter.unusedVariables false
namespace Go.Proofs.YtanhhihechakhaaGreatDoor
open Go.RowKit Go.Proofs.YtanhhihechakhaaGreatDoor.E
theorem call_48 : callB Tryz.prog 48 = true := by kernel_rfl
theorem fld_53_0 : fldB Tryz.prog 53 0 0 = true := by kernel_rfl
theorem fld_53_1 : fldB Tryz.prog 53 1 1 = true := by kernel_rfl
theorem one_51 : oneB Tryz.prog 51 = true := by kernel_rfl
theorem sz_51 : szB Tryz.prog 51 1 = true := by kernel_rfl
end Go.Proofs.YtanhhihechakhaaGreatDoor
set_option linter.unusedVariables false
namespace Go.Proofs.YtanhhihechakhaaGreatDoor
open Go.RowKit Go.Proofs.YtanhhihechakhaaGreatDoor.E
theorem call_41 : callB Tryz.prog 41 = true := by kernel_rfl
theorem call_60 : callB Tryz.prog 60 = true := by kernel_rfl
end Go.Proofs.YtanhhihechakhaaGreatDoor
set_option linter.unusedVariables false
namespace Go.Proofs.YtanhhihechakhaaGreatDoor
open Go.RowKit Go.Proofs.YtanhhihechakhaaGreatDoor.E
theorem call_65 : callB Tryz.prog 65 = true := by kernel_rfl
theorem call_68 : callB Tryz.prog 68 = true := by kernel_rfl
theorem call_69 : callB Tryz.prog 69 = true := by kernel_rfl
theorem call_70 : callB Tryz.prog 70 = true := by kernel_rfl
theorem call_71 : callB Tryz.prog 71 = true := by kernel_rfl
theorem call_74 : callB Tryz.prog 74 = true := by kernel_rfl
theorem call_76 : callB Tryz.prog 76 = true := by kernel_rfl
theorem call_93 : callB Tryz.prog 93 = true := by kernel_rfl
end Go.Proofs.YtanhhihechakhaaGreatDoor
set_option linter.unusedVariables false
namespace Go.Proofs.YtanhhihechakhaaGreatDoor
open Go.RowKit Go.Proofs.YtanhhihechakhaaGreatDoor.E
theorem bsl_37_6_0x1x2x3x4x5 {x1 : ByteArray} {x2 : ByteArray} {x3 : ByteArray} {x4 : ByteArray} {x5 : ByteArray} {x6 : ByteArray} (w : World) : (Instr.buildSlice 37 6 #[(0, .string x1), (1, .string x2), (2, .string x3), (3, .string x4), (4, .string x5), (5, .string x6)]).run Tryz.prog w = .ok (.slice (some ⟨w.heap.size, 0, none⟩) 6 6) (w.alloc (.cells #[.string x1, .string x2, .string x3, .string x4, .string x5, .string x6] 9)) := by kernel_rfl
theorem call_108 : callB Tryz.prog 108 = true := by kernel_rfl
theorem call_206 : callB Tryz.prog 206 = true := by kernel_rfl
theorem call_89 : callB Tryz.prog 89 = true := by kernel_rfl
theorem call_90 : callB Tryz.prog 90 = true := by kernel_rfl
theorem call_91 : callB Tryz.prog 91 = true := by kernel_rfl
theorem els_40 : elsB Tryz.prog 40 5 1 = true := by kernel_rfl
theorem fld_165_0 : fldB Tryz.prog 165 0 0 = true := by kernel_rfl
theorem one_163 : oneB Tryz.prog 163 = true := by kernel_rfl
theorem row_40 : rowB Tryz.prog 40 5 1 1 = true := by kernel_rfl
theorem sz_5 : szB Tryz.prog 5 1 = true := by kernel_rfl
theorem zer_5 : zerL Tryz.prog 5 = some [.int .u8 0] := by kernel_rfl
end Go.Proofs.YtanhhihechakhaaGreatDoor
set_option linter.unusedVariables false
namespace Go.Proofs.YtanhhihechakhaaGreatDoor
open Go.RowKit Go.Proofs.YtanhhihechakhaaGreatDoor.E
theorem bld_165_2 {x1 : Option Addr} {x2 : Nat} {x3 : Nat} (w : World) : (Instr.build 165 #[(2, .slice x1 x2 x3)]).run Tryz.prog w = .ok (.agg #[.int .u32 0, .int .i32 0, .int .u32 0, .nilIface, .slice x1 x2 x3]) w := by kernel_rfl
theorem call_109 : callB Tryz.prog 109 = true := by kernel_rfl
theorem call_123 : callB Tryz.prog 123 = true := by kernel_rfl
theorem call_124 : callB Tryz.prog 124 = true := by kernel_rfl
theorem call_125 : callB Tryz.prog 125 = true := by kernel_rfl
theorem call_133 : callB Tryz.prog 133 = true := by kernel_rfl
theorem call_134 : callB Tryz.prog 134 = true := by kernel_rfl
theorem call_135 : callB Tryz.prog 135 = true := by kernel_rfl
theorem fld_161_1 : fldB Tryz.prog 161 1 0 = true := by kernel_rfl
theorem fld_161_2 : fldB Tryz.prog 161 2 1 = true := by kernel_rfl
theorem fld_165_1 : fldB Tryz.prog 165 1 3 = true := by kernel_rfl
theorem sz_163 : szB Tryz.prog 163 1 = true := by kernel_rfl
end Go.Proofs.YtanhhihechakhaaGreatDoor
set_option linter.unusedVariables false
namespace Go.Proofs.YtanhhihechakhaaGreatDoor
open Go.RowKit Go.Proofs.YtanhhihechakhaaGreatDoor.E
theorem arr_203 : arrB Tryz.prog 203 256 1 = true := by kernel_rfl
theorem bsl_37_1_0 {x1 : ByteArray} (w : World) : (Instr.buildSlice 37 1 #[(0, .string x1)]).run Tryz.prog w = .ok (.slice (some ⟨w.heap.size, 0, none⟩) 1 1) (w.alloc (.cells #[.string x1] 9)) := by kernel_rfl
theorem bsl_40_1_0 {x1 : Int} (w : World) : (Instr.buildSlice 40 1 #[(0, .int .u8 x1)]).run Tryz.prog w = .ok (.slice (some ⟨w.heap.size, 0, none⟩) 1 1) (w.alloc (.cells #[.int .u8 x1] 5)) := by kernel_rfl
theorem els_37 : elsB Tryz.prog 37 9 1 = true := by kernel_rfl
theorem fld_165_2 : fldB Tryz.prog 165 2 4 = true := by kernel_rfl
theorem fld_205_0 : fldB Tryz.prog 205 0 0 = true := by kernel_rfl
theorem fld_205_1 : fldB Tryz.prog 205 1 256 = true := by kernel_rfl
theorem one_37 : oneB Tryz.prog 37 = true := by kernel_rfl
theorem one_40 : oneB Tryz.prog 40 = true := by kernel_rfl
theorem one_9 : oneB Tryz.prog 9 = true := by kernel_rfl
theorem row_37 : rowB Tryz.prog 37 9 1 16 = true := by kernel_rfl
theorem sz_205 : szB Tryz.prog 205 257 = true := by kernel_rfl
theorem sz_37 : szB Tryz.prog 37 1 = true := by kernel_rfl
theorem sz_40 : szB Tryz.prog 40 1 = true := by kernel_rfl
end Go.Proofs.YtanhhihechakhaaGreatDoor
set_option linter.unusedVariables false
namespace Go.Proofs.YtanhhihechakhaaGreatDoor
open Go.RowKit Go.Proofs.YtanhhihechakhaaGreatDoor.E
theorem mixed : Tryz.prog.follows .mixedOrders = true := by kernel_rfl
theorem call_138 : callB Tryz.prog 138 = true := by kernel_rfl
theorem call_139 : callB Tryz.prog 139 = true := by kernel_rfl
theorem call_141 : callB Tryz.prog 141 = true := by kernel_rfl
theorem fld_155_1 : fldB Tryz.prog 155 1 0 = true := by kernel_rfl
theorem fld_157_0 : fldB Tryz.prog 157 0 0 = true := by kernel_rfl
theorem fld_159_1 : fldB Tryz.prog 159 1 0 = true := by kernel_rfl
theorem one_21 : oneB Tryz.prog 21 = true := by kernel_rfl
end Go.Proofs.YtanhhihechakhaaGreatDoor
set_option linter.unusedVariables false
set_option linter.unusedSimpArgs false
namespace Go.Proofs.YtanhhihechakhaaGreatDoor.ReplP
open Go.RowKit Go.Proofs.YtanhhihechakhaaGreatDoor.E
def sps : List UInt8 := [10, 92, 39]
def isSp (c : UInt8) : Bool := c == 10 || c == 92 || c == 39
def rep (c : UInt8) : List UInt8 := if c = 10 then [92, 110] else if c = 92 then [92, 92] else if c = 39 then [39, 39] else []
def one (c : UInt8) : List UInt8 := if isSp c then rep c else [c]
def repl (l : List UInt8) : List UInt8 := l.flatMap one
theorem rep_len {c : UInt8} (h : isSp c = true) : (rep c).length = 2 := by
 unfold isSp at h
 simp only [Bool.or_eq_true, beq_iff_eq] at h
 rcases h with (rfl | rfl) | rfl <;> rfl
theorem one_sp {c : UInt8} (h : isSp c = true) : one c = rep c := if_pos h
theorem one_no {c : UInt8} (h : isSp c = false) : one c = [c] := if_neg (by rw [h]; decide)
theorem repl_snoc {l : List UInt8} {i : Nat} {c : UInt8} (h : l[i]? = some c) : repl (l.take (i + 1)) = repl (l.take i) ++ one c := by
 unfold repl
 rw [List.take_add_one, h, List.flatMap_append]
 simp
theorem any_snoc {l : List UInt8} {i : Nat} {c : UInt8} (h : l[i]? = some c) : (l.take (i + 1)).any isSp = ((l.take i).any isSp || isSp c) := by
 rw [List.take_add_one, h, List.any_append]
 simp
theorem repl_le : ∀ l : List UInt8, (repl l).length ≤ 2 * l.length
 | [] => by simp [repl]
 | c :: l => by
  have h1 := repl_le l
  have h2 : repl (c :: l) = one c ++ repl l := by simp [repl]
  rw [h2, List.length_append, List.length_cons]
  have h3 : (one c).length ≤ 2 := by
   cases h : isSp c with
   | true => rw [one_sp h, rep_len h]; exact Nat.le_refl _
   | false => rw [one_no h]; simp
  omega
theorem repl_no : ∀ {l : List UInt8}, l.any isSp = false → repl l = l
 | [], _ => rfl
 | c :: l, h => by
  rw [List.any_cons, Bool.or_eq_false_iff] at h
  have h2 : repl (c :: l) = one c ++ repl l := by simp [repl]
  rw [h2, one_no h.1, repl_no h.2]
  rfl
theorem repl_take_len (l : List UInt8) (i : Nat) : (repl (l.take i)).length + (repl (l.drop i)).length = (repl l).length := by
 rw [← List.length_append]
 unfold repl
 rw [← List.flatMap_append, List.take_append_drop]
theorem repl_count : ∀ l : List UInt8, (repl l).length = l.length + (l.count 10 + l.count 92 + l.count 39)
 | [] => rfl
 | c :: l => by
  have h1 := repl_count l
  have h2 : repl (c :: l) = one c ++ repl l := by simp [repl]
  rw [h2, List.length_append, h1, List.length_cons]
  simp only [List.count_cons]
  cases h : isSp c with
  | true =>
   rw [one_sp h, rep_len h]
   unfold isSp at h
   simp only [Bool.or_eq_true, beq_iff_eq] at h
   rcases h with (rfl | rfl) | rfl <;> simp <;> omega
  | false =>
   rw [one_no h]
   unfold isSp at h
   simp only [Bool.or_eq_false_iff] at h
   simp only [h.1.1, h.1.2, h.2]
   simp
   omega
theorem any_count : ∀ l : List UInt8, l.any isSp = (sps.any fun c => decide (l.count c ≠ 0))
 | [] => by simp [sps]
 | c :: l => by
  have h1 := any_count l
  rw [List.any_cons, h1]
  cases h : isSp c with
  | true =>
   unfold isSp at h
   simp only [Bool.or_eq_true, beq_iff_eq] at h
   rcases h with (rfl | rfl) | rfl <;> simp [sps]
  | false =>
   unfold isSp at h
   simp only [Bool.or_eq_false_iff] at h
   simp only [sps, List.any_cons, List.any_nil, List.count_cons, h.1.1, h.1.2, h.2]
   simp
/-! the table -/
def rT (f : UInt8 → Value) (v : Value) : List Value := ((List.range 256).map fun i => f (UInt8.ofNat i)) ++ [v]
theorem rT_len (f : UInt8 → Value) (v : Value) : (rT f v).length = 257 := by simp [rT]
theorem rT_get (f : UInt8 → Value) (v : Value) (c : UInt8) : (rT f v)[c.toNat]? = some (f c) := by
 have hc := c.toNat_lt
 unfold rT
 rw [List.getElem?_append_left (by simpa using hc), List.getElem?_map, List.getElem?_range (by simpa using hc)]
 simp
theorem rT_last (f : UInt8 → Value) (v : Value) : (rT f v)[256]? = some v := by
 unfold rT
 rw [List.getElem?_append_right (by simp)]
 simp
def updC (f : UInt8 → Value) (c : UInt8) (x : Value) : UInt8 → Value := fun k => if k = c then x else f k
theorem rT_set (f : UInt8 → Value) (v x : Value) (c : UInt8) : (rT f v).take c.toNat ++ [x] ++ (rT f v).drop (c.toNat + [x].length) = rT (updC f c x) v := by
 have hc := c.toNat_lt
 have hset : (rT f v).set c.toNat x = (rT f v).take c.toNat ++ [x] ++ (rT f v).drop (c.toNat + [x].length) := by
  rw [List.set_eq_take_append_cons_drop, if_pos (by rw [rT_len]; omega)]
  simp
 rw [← hset]
 apply List.ext_getElem?
 intro i
 rw [List.getElem?_set]
 by_cases h : c.toNat = i
 · rw [if_pos h, if_pos (by rw [rT_len]; omega), ← h, rT_get]
   simp [updC]
 · rw [if_neg h]
   unfold rT
   by_cases hi : i < 256
   · rw [List.getElem?_append_left (by simpa using hi), List.getElem?_append_left (by simpa using hi), List.getElem?_map, List.getElem?_map, List.getElem?_range hi]
     simp only [Option.map_some, updC]
     rw [if_neg]
     intro he
     apply h
     rw [← he]
     simp
     omega
   · rw [List.getElem?_append_right (by simp; omega), List.getElem?_append_right (by simp; omega)]
     simp
theorem rT_set2 (f : UInt8 → Value) (v x : Value) : (rT f v).take 256 ++ [x] ++ (rT f v).drop (256 + [x].length) = rT f x := by
 unfold rT
 rw [List.take_left' (by simp), List.drop_eq_nil_of_le (by simp)]
 simp
def ReplT (h : Hp) (T x : Nat) : Prop := ∃ (rA : UInt8 → Option Addr) (rk : UInt8 → Nat) (A3 : Option Addr) (k3 : Nat), h x = some (.cells (rT (fun c => .slice (rA c) (rep c).length (rk c)) (.slice A3 3 k3)).toArray T (0, 0)) ∧ (∀ c, (rA c).isNone = !isSp c) ∧
 (∀ c, isSp c = true → RowsAt h (rA c) 1 ((rep c).map byteC)) ∧ RowsAt h A3 1 (sps.map fun c => [Value.string ⟨#[c]⟩])
theorem ReplT.le {h h' : Hp} {T x : Nat} (ht : ReplT h T x) (hl : h.Le h') : ReplT h' T x := by
 obtain ⟨rA, rk, A3, k3, h1, h2, h3, h4⟩ := ht
 exact ⟨rA, rk, A3, k3, hl _ _ h1, h2, fun c hc => (h3 c hc).le hl, h4.le hl⟩
def olds : List ByteArray := [⟨#[39]⟩, ⟨#[39, 39]⟩, ⟨#[92]⟩, ⟨#[92, 92]⟩, ⟨#[10]⟩, ⟨#[92, 110]⟩]
theorem repl_form {b1 b2 b3 k1 k2 k3 : Nat} : updC (updC (updC (fun _ => Value.slice none 0 0) 10 (.slice (some ⟨b1, 0, none⟩) 2 k1)) 92 (.slice (some ⟨b2, 0, none⟩) 2 k2)) 39 (.slice (some ⟨b3, 0, none⟩) 2 k3) =
    fun c => Value.slice (if c = 39 then some ⟨b3, 0, none⟩ else if c = 92 then some ⟨b2, 0, none⟩ else if c = 10 then some ⟨b1, 0, none⟩ else none) (rep c).length (if c = 39 then k3 else if c = 92 then k2 else if c = 10 then k1 else 0) := by
 funext c
 unfold updC rep
 by_cases h1 : c = 39
 · subst h1; rfl
 · by_cases h2 : c = 92
   · subst h2; rfl
   · by_cases h3 : c = 10
     · subst h3; rfl
     · simp [h1, h2, h3]
def bv (u : UInt8) : Value := .int .u8 (u.toNat : Int)
theorem st_byte {out : List UInt8} {N : Nat} {c : UInt8} (h : out.length < N) : (out.map bv ++ List.replicate (N - out.length) (Value.int .u8 0)).take out.length ++ [bv c] ++ (out.map bv ++ List.replicate (N - out.length) (Value.int .u8 0)).drop (out.length + [bv c].length) =
    (out ++ [c]).map bv ++ List.replicate (N - (out ++ [c]).length) (Value.int .u8 0) := by
 rw [List.take_left' (by simp), List.drop_append]
 simp
 rw [List.drop_eq_nil_of_le (by simp)]
 simp
 omega
theorem st_bytes {out nw : List UInt8} {N : Nat} (h : out.length + nw.length ≤ N) : (out.map bv ++ List.replicate (N - out.length) (Value.int .u8 0)).take out.length ++ nw.map bv ++ (out.map bv ++ List.replicate (N - out.length) (Value.int .u8 0)).drop (out.length + nw.length) =
    (out ++ nw).map bv ++ List.replicate (N - (out ++ nw).length) (Value.int .u8 0) := by
 rw [List.take_left' (by simp), List.drop_append]
 simp
 rw [List.drop_eq_nil_of_le (by simp)]
 simp
 omega
end Go.Proofs.YtanhhihechakhaaGreatDoor.ReplP
set_option linter.unusedVariables false
set_option linter.unusedSimpArgs false
namespace Go.Proofs.YtanhhihechakhaaGreatDoor
open Go.RowKit Go.Proofs.YtanhhihechakhaaGreatDoor.E Go.Proofs.YtanhhihechakhaaGreatDoor.ReplP
set_option maxRecDepth 100000 in
theorem bload_c (b off : Nat) (x : Int) (h : Hp) (hc : h.cell ⟨b, off, none⟩ = some (.int .u32 x)) : C0 Tryz.prog 123 [.pointer (some ⟨b, off, none⟩)] h (.bool (x != 0)) := by
 refine enter0 Tryz.func123 rfl rfl rfl (fun w => ?_)
 refine cy_seq ?_
 refine cy_region ?_
 refine sy_assign rfl rfl rfl ?_
 refine sy_nil rfl ?_
 refine ny_next ?_
 refine cy_seq ?_
 refine cy_region ?_
 refine sy_move rfl rfl rfl ?_
 refine sy_nilCheck rfl rfl rfl ?_
 refine sy_field fld_155_1 rfl rfl rfl ?_
 refine sy_exq rfl (fun w hs => run_call_load Tryz.func132 (by kernel_rfl) (by kernel_rfl) (by kernel_rfl) .u32 (by kernel_rfl) (hs.sub.cell hc)) rfl rfl ?_
 refine sy_cmp rfl rfl rfl rfl rfl ?_
 refine sy_assign rfl rfl rfl ?_
 refine sy_nil rfl ?_
 refine ny_next ?_
 refine cy_ret ?_
 refine ny_finR (res1 rfl rfl) (fun w hs => ⟨?_, hs.frm⟩)
 rfl
set_option maxRecDepth 100000 in
theorem b32_c (h : Hp) : C0 Tryz.prog 141 [.bool true] h (.int .u32 1) := by
 refine enter0 Tryz.func141 rfl rfl rfl (fun w => ?_)
 refine cy_seq ?_
 refine cy_region ?_
 refine sy_assign rfl rfl rfl ?_
 refine sy_nil rfl ?_
 refine ny_next ?_
 refine cy_seq ?_
 refine cy_seq ?_
 refine cy_region ?_
 refine sy_move rfl rfl rfl ?_
 refine sy_setT (d := 3) rfl rfl rfl ?_
 refine sy_nil rfl ?_
 refine ny_next ?_
 refine cy_condT rfl ?_
 refine cy_seq ?_
 refine cy_region ?_
 refine sy_assign rfl rfl rfl ?_
 refine sy_nil rfl ?_
 refine ny_next ?_
 refine cy_ret ?_
 refine ny_thenR ?_
 refine ny_finR (res1 rfl rfl) (fun w hs => ⟨?_, hs.frm⟩)
 rfl
set_option maxRecDepth 100000 in
theorem lockI_c (b : Nat) (T : TypeId) (h : Hp) (x0 x1 x2 x3 x4 : Value)  : CM Tryz.prog 138 [.pointer (some ⟨b, 1, none⟩)] h b (.cells [x0, .int .i32 0, x2, x3, x4].toArray T (0, 0)) (.tuple #[]) (.cells [x0, .int .i32 1, x2, x3, x4].toArray T (0, 0)) := by
 refine enter1 Tryz.func138 rfl rfl rfl (fun w hb0 => ?_)
 refine cy_seq ?_
 refine cy_region ?_
 refine sy_exq rfl (fun w hs => run_call_mark0 Tryz.func144 (by kernel_rfl) (by kernel_rfl) (by kernel_rfl) .disable (by kernel_rfl) w) rfl rfl ?_
 refine sy_nil rfl ?_
 refine ny_next ?_
 refine cy_seq ?_
 refine cy_seq ?_
 refine cy_region ?_
 refine sy_move rfl rfl rfl ?_
 refine sy_nilCheck rfl rfl rfl ?_
 refine sy_field fld_157_0 rfl rfl rfl ?_
 refine sy_exw (off := 1) (old := .int .i32 0) (new := .int .i32 1) 0 rfl rfl rfl rfl (fun w hc hz => run_call_cas_hit Tryz.func145 (by kernel_rfl) (by kernel_rfl) (by kernel_rfl) .i32 (by kernel_rfl) hc hz) rfl rfl ?_
 refine sy_setT (d := 6) rfl rfl rfl ?_
 refine sy_nil rfl ?_
 refine ny_next ?_
 refine cy_condT rfl ?_
 refine cy_seq ?_
 refine cy_condT rfl ?_
 refine cy_seq ?_
 refine cy_region ?_
 refine sy_exq rfl (fun w hs => run_call_mark0 Tryz.func146 (by kernel_rfl) (by kernel_rfl) (by kernel_rfl) .enable (by kernel_rfl) w) rfl rfl ?_
 refine sy_nil rfl ?_
 refine ny_next ?_
 refine cy_region ?_
 refine sy_move rfl rfl rfl ?_
 refine sy_unsafe (v := .int .i32 1) Tryz.underlying225 Tryz.underlying97 (by kernel_rfl) rfl (fun w hs => St.cellR 0 rfl rfl hs) rfl rfl ?_
 refine sy_exq rfl (fun w hs => run_call_marked Tryz.func147 (by kernel_rfl) (by kernel_rfl) (by kernel_rfl) .acquire (by kernel_rfl) ⟨b, 1, none⟩ w) rfl rfl ?_
 refine sy_nil rfl ?_
 refine ny_next ?_
 refine cy_ret ?_
 refine ny_thenR ?_
 exact ny_finR (res0 rfl) (fun w hs => ⟨rfl, hs.frm, hs.ok _ (List.mem_cons_self)⟩)
set_option maxRecDepth 100000 in
theorem lock_c (b : Nat) (T : TypeId) (h : Hp) (x0 x1 x2 x3 x4 : Value)  : CM Tryz.prog 133 [.pointer (some ⟨b, 1, none⟩)] h b (.cells [x0, .int .i32 0, x2, x3, x4].toArray T (0, 0)) (.tuple #[]) (.cells [x0, .int .i32 1, x2, x3, x4].toArray T (0, 0)) := by
 refine enter1 Tryz.func133 rfl rfl rfl (fun w hb0 => ?_)
 refine cy_region ?_
 refine sy_move rfl rfl rfl ?_
 refine sy_nilCheck rfl rfl rfl ?_
 refine sy_field fld_159_1 rfl rfl rfl ?_
 refine sy_callm 0 call_138 rfl rfl (lockI_c b T h x0 x1 x2 x3 x4) rfl rfl ?_
 refine sy_nil rfl ?_
 exact ny_fin (res0 rfl) (fun w hs => ⟨rfl, hs.frm, hs.ok _ (List.mem_cons_self)⟩)
set_option maxRecDepth 100000 in
theorem unlockI_c (b : Nat) (T : TypeId) (h : Hp) (x0 x1 x2 x3 x4 : Value)  : CM Tryz.prog 139 [.pointer (some ⟨b, 1, none⟩)] h b (.cells [x0, .int .i32 1, x2, x3, x4].toArray T (0, 0)) (.tuple #[]) (.cells [x0, .int .i32 0, x2, x3, x4].toArray T (0, 0)) := by
 refine enter1 Tryz.func139 rfl rfl rfl (fun w hb0 => ?_)
 refine cy_seq ?_
 refine cy_condT rfl ?_
 refine cy_seq ?_
 refine cy_region ?_
 refine sy_move rfl rfl rfl ?_
 refine sy_nilCheck rfl rfl rfl ?_
 refine sy_field fld_157_0 rfl rfl rfl ?_
 first | refine sy_ldr 0 one_21 rfl rfl rfl rfl rfl ?_
 refine sy_nil rfl ?_
 refine ny_next ?_
 refine cy_seq ?_
 refine cy_region ?_
 refine sy_move rfl rfl rfl ?_
 refine sy_unsafe (v := .int .i32 1) Tryz.underlying225 Tryz.underlying97 (by kernel_rfl) rfl (fun w hs => St.cellR 0 rfl rfl hs) rfl rfl ?_
 refine sy_exq rfl (fun w hs => run_call_marked Tryz.func149 (by kernel_rfl) (by kernel_rfl) (by kernel_rfl) .releaseMerge (by kernel_rfl) ⟨b, 1, none⟩ w) rfl rfl ?_
 refine sy_nil rfl ?_
 refine ny_next ?_
 refine cy_region ?_
 refine sy_exq rfl (fun w hs => run_call_mark0 Tryz.func144 (by kernel_rfl) (by kernel_rfl) (by kernel_rfl) .disable (by kernel_rfl) w) rfl rfl ?_
 refine sy_nil rfl ?_
 refine ny_next ?_
 refine cy_seq ?_
 refine cy_region ?_
 refine sy_move rfl rfl rfl ?_
 refine sy_nilCheck rfl rfl rfl ?_
 refine sy_field fld_157_0 rfl rfl rfl ?_
 refine sy_exw (off := 1) (old := .int .i32 1) (new := .int .i32 0) 0 rfl rfl rfl rfl (fun w hc hz => run_call_add Tryz.func150 (by kernel_rfl) (by kernel_rfl) (by kernel_rfl) .i32 (by kernel_rfl) hc hz (by simp [go_sem]; rfl)) rfl rfl ?_
 refine sy_assign rfl rfl rfl ?_
 refine sy_nil rfl ?_
 refine ny_next ?_
 refine cy_seq ?_
 refine cy_seq ?_
 refine cy_region ?_
 refine sy_move rfl rfl rfl ?_
 refine sy_cmp rfl rfl rfl rfl rfl ?_
 refine sy_setF (d := 16) rfl rfl rfl ?_
 refine sy_nil rfl ?_
 refine ny_next ?_
 refine cy_condF rfl ?_
 refine cy_skip ?_
 refine ny_next ?_
 refine cy_region ?_
 refine sy_exq rfl (fun w hs => run_call_mark0 Tryz.func146 (by kernel_rfl) (by kernel_rfl) (by kernel_rfl) .enable (by kernel_rfl) w) rfl rfl ?_
 refine sy_nil rfl ?_
 exact ny_fin (res0 rfl) (fun w hs => ⟨rfl, hs.frm, hs.ok _ (List.mem_cons_self)⟩)
set_option maxRecDepth 100000 in
theorem unlock_d (b : Nat) (T : TypeId) (h : Hp) (x0 x1 x2 x3 x4 : Value)  : CMD Tryz.prog 134 [.pointer (some ⟨b, 1, none⟩)] h b (.cells [x0, .int .i32 1, x2, x3, x4].toArray T (0, 0)) (.cells [x0, .int .i32 0, x2, x3, x4].toArray T (0, 0)) := by
 refine enter1D Tryz.func134 rfl rfl rfl (fun w hb0 => ?_)
 refine cy_region ?_
 refine sy_move rfl rfl rfl ?_
 refine sy_nilCheck rfl rfl rfl ?_
 refine sy_field fld_159_1 rfl rfl rfl ?_
 refine sy_callm 0 call_139 rfl rfl (unlockI_c b T h x0 x1 x2 x3 x4) rfl rfl ?_
 refine sy_nil rfl ?_
 exact ny_fin (res0 rfl) (fun w hs => ⟨⟨_, rfl⟩, hs.frm, hs.ok _ (List.mem_cons_self)⟩)
set_option maxRecDepth 100000 in
theorem store_d (b : Nat) (T : TypeId) (h : Hp) (x0 x1 x2 x3 x4 : Value) (x : Int)  : CMD Tryz.prog 135 [.pointer (some ⟨b, 0, none⟩), .bool true] h b (.cells [.int .u32 x, x1, x2, x3, x4].toArray T (0, 0)) (.cells [.int .u32 1, x1, x2, x3, x4].toArray T (0, 0)) := by
 refine enter1D Tryz.func135 rfl rfl rfl (fun w hb0 => ?_)
 refine cy_regionA mixed ?_
 refine zy_q 0 rfl (by kernel_rfl) (fun hB0_0 => ?_)
 refine sy_move rfl rfl rfl ?_
 refine sy_nil1 (ny_zq hB0_0 ?_)
 refine zy_q 1 rfl (by kernel_rfl) (fun hB0_1 => ?_)
 refine sy_nilCheck rfl rfl rfl ?_
 refine sy_nil1 (ny_zq hB0_1 ?_)
 refine zy_q 2 rfl (by kernel_rfl) (fun hB0_2 => ?_)
 refine sy_field fld_155_1 rfl rfl rfl ?_
 refine sy_nil1 (ny_zq hB0_2 ?_)
 refine zy_q 3 rfl (by kernel_rfl) (fun hB0_3 => ?_)
 refine sy_move rfl rfl rfl ?_
 refine sy_nil1 (ny_zq hB0_3 ?_)
 refine zy_1 4 (by kernel_rfl) ?_
 refine zop_run rfl rfl (fun hB0_4 => ?_)
 refine sy_call rfl call_141 rfl (b32_c _) rfl rfl ?_
 refine sy_nil rfl (ny_zy hB0_4 (Hp.Le.refl _) ?_)
 refine zy_1 5 (by kernel_rfl) ?_
 refine zop_run rfl rfl (fun hB0_5 => ?_)
 refine sy_exw (off := 0) (old := .int .u32 x) (new := .int .u32 1) 0 rfl rfl rfl rfl (fun w hc hz => run_call_store Tryz.func140 (by kernel_rfl) (by kernel_rfl) (by kernel_rfl) (by kernel_rfl) hc hz) rfl rfl ?_
 refine sy_nil rfl (ny_zy hB0_5 (Hp.Le.refl _) ?_)
 refine zy_done (by kernel_rfl) ?_
 exact ny_fin (res0 rfl) (fun w hs => ⟨⟨_, rfl⟩, hs.frm, hs.ok _ (List.mem_cons_self)⟩)
end Go.Proofs.YtanhhihechakhaaGreatDoor
set_option linter.unusedVariables false
set_option linter.unusedSimpArgs false
namespace Go.Proofs.YtanhhihechakhaaGreatDoor
open Go.RowKit Go.Proofs.YtanhhihechakhaaGreatDoor.E Go.Proofs.YtanhhihechakhaaGreatDoor.ReplP
theorem bldR {x1 : Option Addr} {x2 x3 : Nat} (w : World) : (Instr.build 205 #[(1, .slice x1 x2 x3)]).run Tryz.prog w = .ok (.agg (rT (fun _ => .slice none 0 0) (.slice x1 x2 x3)).toArray) w := by kernel_rfl
theorem zerR : zerL Tryz.prog 205 = some (rT (fun _ => .slice none 0 0) (.slice none 0 0)) := by kernel_rfl
set_option maxRecDepth 100000 in
set_option maxHeartbeats 1000000 in
theorem build_c (b : Nat) (h : Hp) (x2 : Value) (A : Option Addr) (cO : Nat) (hO : RowsAt h A 1 (olds.map fun s => [Value.string s])) : CXM Tryz.prog 125 [.pointer (some ⟨b, 0, none⟩)] h b (.cells [.int .u32 0, .int .i32 1, x2, .nilIface, .slice A 6 cO].toArray 165 (0, 0)) (fun x : Nat => .iface 206 (.pointer (some ⟨x, 0, none⟩))) (fun x h' o' => o' = .cells [.int .u32 0, .int .i32 1, x2, .nilIface, .slice A 6 cO].toArray 165 (0, 0) ∧ ReplT h' 205 x) := by
 refine enterXM Tryz.func125 rfl rfl rfl (fun w hb0 => ?_)
 refine cy_seq ?_
 refine cy_region ?_
 refine sy_assign rfl rfl rfl ?_
 refine sy_nil rfl ?_
 refine ny_next ?_
 refine cy_seq ?_
 refine cy_region ?_
 refine sy_move rfl rfl rfl ?_
 refine sy_nilCheck rfl rfl rfl ?_
 refine sy_field fld_165_2 rfl rfl rfl ?_
 first | refine sy_ldr 0 one_37 rfl rfl rfl rfl rfl ?_ | refine sy_ldr 1 one_37 rfl rfl rfl rfl rfl ?_ | refine sy_ldr 2 one_37 rfl rfl rfl rfl rfl ?_ | refine sy_ldr 3 one_37 rfl rfl rfl rfl rfl ?_ | refine sy_ldr 4 one_37 rfl rfl rfl rfl rfl ?_ | refine sy_ldr 5 one_37 rfl rfl rfl rfl rfl ?_
 refine sy_assign rfl rfl rfl ?_
 refine sy_nil rfl ?_
 refine ny_next ?_
 refine cy_seq ?_
 refine cy_seq ?_
 refine cy_region ?_
 refine sy_move rfl rfl rfl ?_
 refine sy_len rfl (len_slice Tryz.underlying37 _ _ _) rfl rfl ?_
 refine sy_cmp rfl rfl rfl rfl rfl ?_
 refine sy_setF (d := 21) rfl rfl rfl ?_
 refine sy_move rfl rfl rfl ?_
 refine sy_skip rfl rfl rfl ?_
 refine sy_skip rfl rfl rfl ?_
 refine sy_skip rfl rfl rfl ?_
 refine sy_skip rfl rfl rfl ?_
 refine sy_skip rfl rfl rfl ?_
 refine sy_pickF rfl rfl rfl rfl ?_
 refine sy_setF (d := 28) rfl rfl rfl ?_
 refine sy_nil rfl ?_
 refine ny_next ?_
 refine cy_condF rfl ?_
 refine cy_skip ?_
 refine ny_next ?_
 refine cy_seq ?_
 refine cy_region ?_
 refine sy_assign rfl rfl rfl ?_
 refine sy_nil rfl ?_
 refine ny_next ?_
 refine cy_seq ?_
 refine cy_seq ?_
 refine cy_region ?_
 refine sy_assign rfl rfl rfl ?_
 refine sy_nil rfl ?_
 refine ny_next ?_
 refine cy_block ?_
 refine cy_rounds 3 ?_
 refine cy_seq ?_
 refine cy_seq ?_
 refine cy_region ?_
 refine sy_move rfl rfl rfl ?_
 refine sy_move rfl rfl rfl ?_
 refine sy_len rfl (len_slice Tryz.underlying37 _ _ _) rfl rfl ?_
 refine sy_cmp rfl rfl rfl rfl rfl ?_
 refine sy_setT (d := 40) rfl rfl rfl ?_
 refine sy_nil rfl ?_
 refine ny_next ?_
 refine cy_condT rfl ?_
 refine cy_skip ?_
 refine ny_next ?_
 refine cy_seq ?_
 refine cy_block ?_
 refine cy_seq ?_
 refine cy_seq ?_
 refine cy_region ?_
 refine sy_move rfl rfl rfl ?_
 refine sy_move rfl rfl rfl ?_
 refine sy_idxR (i := 0) (fc := fun s => [Value.string s]) (es := olds) els_37 rfl rfl hO rfl (by decide) rfl rfl (fun e45 b45 o45 he45 hA45 hc45 => ?_)
 obtain rfl := Option.some.inj (show some (olds[0]) = some e45 from he45)
 refine sy_ldh one_9 rfl (hc45 0 _ rfl) rfl rfl ?_
 refine sy_len rfl (len_string Tryz.underlying9 _) rfl rfl ?_
 refine sy_cmp rfl rfl rfl rfl rfl ?_
 refine sy_setF (d := 48) rfl rfl rfl ?_
 refine sy_nil rfl ?_
 refine ny_next ?_
 refine cy_condF rfl ?_
 refine cy_skip ?_
 refine ny_next ?_
 refine cy_seq ?_
 refine cy_region ?_
 refine sy_move rfl rfl rfl ?_
 refine sy_move rfl rfl rfl ?_
 refine sy_addi (z := 1) rfl rfl (by decide) (by decide) (by decide) rfl rfl ?_
 refine sy_idxR (i := 1) (fc := fun s => [Value.string s]) (es := olds) els_37 rfl rfl hO rfl (by decide) rfl rfl (fun e55 b55 o55 he55 hA55 hc55 => ?_)
 obtain rfl := Option.some.inj (show some (olds[1]) = some e55 from he55)
 refine sy_ldh one_9 rfl (hc55 0 _ rfl) rfl rfl ?_
 refine sy_len rfl (len_string Tryz.underlying9 _) rfl rfl ?_
 refine sy_cmp rfl rfl rfl rfl rfl ?_
 refine sy_setT (d := 58) rfl rfl rfl ?_
 refine sy_nil rfl ?_
 refine ny_next ?_
 refine cy_condT rfl ?_
 refine cy_region ?_
 refine sy_assign rfl rfl rfl ?_
 refine sy_nil rfl ?_
 refine ny_blockN ?_
 refine ny_next ?_
 refine cy_region ?_
 refine sy_move rfl rfl rfl ?_
 refine sy_addi (z := 2) rfl rfl (by decide) (by decide) (by decide) rfl rfl ?_
 refine sy_assign rfl rfl rfl ?_
 refine sy_nil rfl ?_
 refine ny_again ?_
 refine cy_seq ?_
 refine cy_seq ?_
 refine cy_region ?_
 refine sy_move rfl rfl rfl ?_
 refine sy_move rfl rfl rfl ?_
 refine sy_len rfl (len_slice Tryz.underlying37 _ _ _) rfl rfl ?_
 refine sy_cmp rfl rfl rfl rfl rfl ?_
 refine sy_setT (d := 40) rfl rfl rfl ?_
 refine sy_nil rfl ?_
 refine ny_next ?_
 refine cy_condT rfl ?_
 refine cy_skip ?_
 refine ny_next ?_
 refine cy_seq ?_
 refine cy_block ?_
 refine cy_seq ?_
 refine cy_seq ?_
 refine cy_region ?_
 refine sy_move rfl rfl rfl ?_
 refine sy_move rfl rfl rfl ?_
 refine sy_idxR (i := 2) (fc := fun s => [Value.string s]) (es := olds) els_37 rfl rfl hO rfl (by decide) rfl rfl (fun e45 b45 o45 he45 hA45 hc45 => ?_)
 obtain rfl := Option.some.inj (show some (olds[2]) = some e45 from he45)
 refine sy_ldh one_9 rfl (hc45 0 _ rfl) rfl rfl ?_
 refine sy_len rfl (len_string Tryz.underlying9 _) rfl rfl ?_
 refine sy_cmp rfl rfl rfl rfl rfl ?_
 refine sy_setF (d := 48) rfl rfl rfl ?_
 refine sy_nil rfl ?_
 refine ny_next ?_
 refine cy_condF rfl ?_
 refine cy_skip ?_
 refine ny_next ?_
 refine cy_seq ?_
 refine cy_region ?_
 refine sy_move rfl rfl rfl ?_
 refine sy_move rfl rfl rfl ?_
 refine sy_addi (z := 3) rfl rfl (by decide) (by decide) (by decide) rfl rfl ?_
 refine sy_idxR (i := 3) (fc := fun s => [Value.string s]) (es := olds) els_37 rfl rfl hO rfl (by decide) rfl rfl (fun e55 b55 o55 he55 hA55 hc55 => ?_)
 obtain rfl := Option.some.inj (show some (olds[3]) = some e55 from he55)
 refine sy_ldh one_9 rfl (hc55 0 _ rfl) rfl rfl ?_
 refine sy_len rfl (len_string Tryz.underlying9 _) rfl rfl ?_
 refine sy_cmp rfl rfl rfl rfl rfl ?_
 refine sy_setT (d := 58) rfl rfl rfl ?_
 refine sy_nil rfl ?_
 refine ny_next ?_
 refine cy_condT rfl ?_
 refine cy_region ?_
 refine sy_assign rfl rfl rfl ?_
 refine sy_nil rfl ?_
 refine ny_blockN ?_
 refine ny_next ?_
 refine cy_region ?_
 refine sy_move rfl rfl rfl ?_
 refine sy_addi (z := 4) rfl rfl (by decide) (by decide) (by decide) rfl rfl ?_
 refine sy_assign rfl rfl rfl ?_
 refine sy_nil rfl ?_
 refine ny_again ?_
 refine cy_seq ?_
 refine cy_seq ?_
 refine cy_region ?_
 refine sy_move rfl rfl rfl ?_
 refine sy_move rfl rfl rfl ?_
 refine sy_len rfl (len_slice Tryz.underlying37 _ _ _) rfl rfl ?_
 refine sy_cmp rfl rfl rfl rfl rfl ?_
 refine sy_setT (d := 40) rfl rfl rfl ?_
 refine sy_nil rfl ?_
 refine ny_next ?_
 refine cy_condT rfl ?_
 refine cy_skip ?_
 refine ny_next ?_
 refine cy_seq ?_
 refine cy_block ?_
 refine cy_seq ?_
 refine cy_seq ?_
 refine cy_region ?_
 refine sy_move rfl rfl rfl ?_
 refine sy_move rfl rfl rfl ?_
 refine sy_idxR (i := 4) (fc := fun s => [Value.string s]) (es := olds) els_37 rfl rfl hO rfl (by decide) rfl rfl (fun e45 b45 o45 he45 hA45 hc45 => ?_)
 obtain rfl := Option.some.inj (show some (olds[4]) = some e45 from he45)
 refine sy_ldh one_9 rfl (hc45 0 _ rfl) rfl rfl ?_
 refine sy_len rfl (len_string Tryz.underlying9 _) rfl rfl ?_
 refine sy_cmp rfl rfl rfl rfl rfl ?_
 refine sy_setF (d := 48) rfl rfl rfl ?_
 refine sy_nil rfl ?_
 refine ny_next ?_
 refine cy_condF rfl ?_
 refine cy_skip ?_
 refine ny_next ?_
 refine cy_seq ?_
 refine cy_region ?_
 refine sy_move rfl rfl rfl ?_
 refine sy_move rfl rfl rfl ?_
 refine sy_addi (z := 5) rfl rfl (by decide) (by decide) (by decide) rfl rfl ?_
 refine sy_idxR (i := 5) (fc := fun s => [Value.string s]) (es := olds) els_37 rfl rfl hO rfl (by decide) rfl rfl (fun e55 b55 o55 he55 hA55 hc55 => ?_)
 obtain rfl := Option.some.inj (show some (olds[5]) = some e55 from he55)
 refine sy_ldh one_9 rfl (hc55 0 _ rfl) rfl rfl ?_
 refine sy_len rfl (len_string Tryz.underlying9 _) rfl rfl ?_
 refine sy_cmp rfl rfl rfl rfl rfl ?_
 refine sy_setT (d := 58) rfl rfl rfl ?_
 refine sy_nil rfl ?_
 refine ny_next ?_
 refine cy_condT rfl ?_
 refine cy_region ?_
 refine sy_assign rfl rfl rfl ?_
 refine sy_nil rfl ?_
 refine ny_blockN ?_
 refine ny_next ?_
 refine cy_region ?_
 refine sy_move rfl rfl rfl ?_
 refine sy_addi (z := 6) rfl rfl (by decide) (by decide) (by decide) rfl rfl ?_
 refine sy_assign rfl rfl rfl ?_
 refine sy_nil rfl ?_
 refine ny_again ?_
 refine cy_seq ?_
 refine cy_seq ?_
 refine cy_region ?_
 refine sy_move rfl rfl rfl ?_
 refine sy_move rfl rfl rfl ?_
 refine sy_len rfl (len_slice Tryz.underlying37 _ _ _) rfl rfl ?_
 refine sy_cmp rfl rfl rfl rfl rfl ?_
 refine sy_setF (d := 40) rfl rfl rfl ?_
 refine sy_nil rfl ?_
 refine ny_next ?_
 refine cy_condF rfl ?_
 refine cy_exit ?_
 refine ny_thenE ?_
 refine ny_thenE ?_
 refine ny_blockX ?_
 refine ny_next ?_
 refine cy_seq ?_
 refine cy_seq ?_
 refine cy_region ?_
 refine sy_move rfl rfl rfl ?_
 refine sy_setF (d := 59) rfl rfl rfl ?_
 refine sy_nil rfl ?_
 refine ny_next ?_
 refine cy_condF rfl ?_
 refine cy_skip ?_
 refine ny_next ?_
 refine cy_seq ?_
 refine cy_region ?_
 refine sy_move rfl rfl rfl ?_
 refine sy_len rfl (len_slice Tryz.underlying37 _ _ _) rfl rfl ?_
 refine sy_quo (z := 3) rfl rfl (by decide) rfl (by decide) (by decide) rfl rfl ?_
 refine sy_make0 (k1 := .i64) (k2 := .i64) (c := 3) row_37 rfl rfl (by decide) (by decide) rfl rfl (fun b94 hb94 hM94 => ?_) (by simp only [List.mem_singleton]; rintro _ rfl; exact hb0)
 refine sy_build rfl (fun w => bldR w) rfl rfl ?_
 refine sy_alloc (zs := rT (fun _ => Value.slice none 0 0) (.slice none 0 0)) zerR rfl rfl (fun b11 hb11 hM11 => ?_) (by simp only [List.mem_singleton]; rintro _ rfl; exact hb0)
 first | refine sy_stl 0 sz_205 rfl rfl rfl rfl rfl rfl rfl rfl ?_ | refine sy_stl 1 sz_205 rfl rfl rfl rfl rfl rfl rfl rfl ?_ | refine sy_stl 2 sz_205 rfl rfl rfl rfl rfl rfl rfl rfl ?_ | refine sy_stl 3 sz_205 rfl rfl rfl rfl rfl rfl rfl rfl ?_ | refine sy_stl 4 sz_205 rfl rfl rfl rfl rfl rfl rfl rfl ?_ | refine sy_stl 5 sz_205 rfl rfl rfl rfl rfl rfl rfl rfl ?_
 refine sy_nil rfl ?_
 refine ny_next ?_
 refine cy_seq ?_
 refine cy_seq ?_
 refine cy_region ?_
 refine sy_move rfl rfl rfl ?_
 refine sy_len rfl (len_slice Tryz.underlying37 _ _ _) rfl rfl ?_
 refine sy_subi (z := 4) rfl rfl (by decide) (by decide) (by decide) rfl rfl ?_
 refine sy_assign rfl rfl rfl ?_
 refine sy_nil rfl ?_
 refine ny_next ?_
 refine cy_block ?_
 refine cy_rounds 3 ?_
 refine cy_seq ?_
 refine cy_seq ?_
 refine cy_region ?_
 refine sy_move rfl rfl rfl ?_
 refine sy_cmp rfl rfl rfl rfl rfl ?_
 refine sy_setT (d := 100) rfl rfl rfl ?_
 refine sy_nil rfl ?_
 refine ny_next ?_
 refine cy_condT rfl ?_
 refine cy_skip ?_
 refine ny_next ?_
 refine cy_seq ?_
 refine cy_block ?_
 refine cy_seq ?_
 refine cy_region ?_
 refine sy_move rfl rfl rfl ?_
 refine sy_move rfl rfl rfl ?_
 refine sy_idxR (i := 4) (fc := fun s => [Value.string s]) (es := olds) els_37 rfl rfl hO rfl (by decide) rfl rfl (fun e105 b105 o105 he105 hA105 hc105 => ?_)
 obtain rfl := Option.some.inj (show some (olds[4]) = some e105 from he105)
 refine sy_ldh one_9 rfl (hc105 0 _ rfl) rfl rfl ?_
 refine sy_idxs (u := 10) Tryz.underlying9 rfl rfl (by decide) rfl rfl rfl ?_
 refine sy_assign rfl rfl rfl ?_
 refine sy_nil rfl ?_
 refine ny_next ?_
 refine cy_seq ?_
 refine cy_region ?_
 refine sy_move rfl rfl rfl ?_
 refine sy_move rfl rfl rfl ?_
 refine sy_addi (z := 5) rfl rfl (by decide) (by decide) (by decide) rfl rfl ?_
 refine sy_idxR (i := 5) (fc := fun s => [Value.string s]) (es := olds) els_37 rfl rfl hO rfl (by decide) rfl rfl (fun e111 b111 o111 he111 hA111 hc111 => ?_)
 obtain rfl := Option.some.inj (show some (olds[5]) = some e111 from he111)
 refine sy_ldh one_9 rfl (hc111 0 _ rfl) rfl rfl ?_
 refine sy_assign rfl rfl rfl ?_
 refine sy_nil rfl ?_
 refine ny_next ?_
 refine cy_seq ?_
 refine cy_seq ?_
 refine cy_region ?_
 refine sy_move rfl rfl rfl ?_
 refine sy_field fld_205_0 rfl rfl rfl ?_
 refine sy_idxA (i := ((10 : UInt8).toNat : Int)) arr_203 rfl rfl (by decide) (by decide) rfl rfl ?_
 refine sy_ldr (cs := rT (fun _ => Value.slice none 0 0) (.slice (some ⟨b94, 0, none⟩) 0 3)) (v := .slice none 0 0) 0 one_40 rfl rfl (rT_get (fun _ => Value.slice none 0 0) _ 10) rfl rfl ?_
 refine sy_eqsl (b := true) Tryz.underlying40 rfl rfl rfl rfl ?_
 refine sy_setT (d := 117) rfl rfl rfl ?_
 refine sy_nil rfl ?_
 refine ny_next ?_
 refine cy_condT rfl ?_
 refine cy_region ?_
 refine sy_field fld_205_1 rfl rfl rfl ?_
 refine sy_ldr (cs := rT (fun _ => Value.slice none 0 0) (.slice (some ⟨b94, 0, none⟩) 0 3)) (v := (.slice (some ⟨b94, 0, none⟩) 0 3)) 0 one_37 rfl rfl (rT_last _ _) rfl rfl ?_
 refine sy_move rfl rfl rfl ?_
 refine sy_buildSlice rfl (fun w => bsl_40_1_0 w) rfl rfl (fun b121 hb121 hM121 => ?_) (by simp only [List.mem_singleton]; rintro _ rfl; exact hb0)
 refine sy_byte1 (u := 10) 0 Tryz.underlying40 Tryz.underlying5 Tryz.underlying9 rfl rfl rfl rfl rfl ?_
 refine sy_buildSlice rfl (fun w => bsl_37_1_0 w) rfl rfl (fun b123 hb123 hM123 => ?_) (by simp only [List.mem_singleton]; rintro _ rfl; exact hb0)
 refine sy_append 3 0 row_37 (by decide) rfl rfl rfl rfl rfl rfl (by decide) (by decide) rfl rfl (fun v124 => ?_)
 refine sy_rowform 0 rfl (fun A124_10 c124_10 hv124 => ?_)
 subst hv124
 refine sy_field fld_205_1 rfl rfl rfl ?_
 refine sy_st (vs := [(.slice A124_10 1 c124_10)]) (cs := rT (fun _ => Value.slice none 0 0) (.slice (some ⟨b94, 0, none⟩) 0 3)) (cs' := rT (fun _ => Value.slice none 0 0) (.slice A124_10 1 c124_10)) 3 rfl rfl rfl rfl (fun w => sz_spec sz_37 w) rfl (by rw [rT_len]; exact Nat.le_of_ble_eq_true rfl) (rT_set2 _ _ _) rfl ?_
 refine sy_sel [0, 0, 2] rfl ?_
 refine sy_nil rfl ?_
 refine ny_next ?_
 refine cy_region ?_
 refine sy_move rfl rfl rfl ?_
 refine sy_move rfl rfl rfl ?_
 refine sy_strbytes Tryz.underlying9 Tryz.underlying40 Tryz.underlying5 rfl rfl rfl (fun b128_10 c128_10 h128_10 hle128_10 hr128_10 => ?_) (by simp only [List.mem_singleton]; rintro _ rfl; exact hb0)
 replace hO := hO.le hle128_10
 refine sy_field fld_205_0 rfl rfl rfl ?_
 refine sy_idxA (i := ((10 : UInt8).toNat : Int)) arr_203 rfl rfl (by decide) (by decide) rfl rfl ?_
 refine sy_st (vs := [.slice (some ⟨b128_10, 0, none⟩) 2 c128_10]) (cs := rT (fun _ => Value.slice none 0 0) (.slice A124_10 1 c124_10)) (cs' := rT (updC (fun _ => Value.slice none 0 0) 10 (.slice (some ⟨b128_10, 0, none⟩) 2 c128_10)) (.slice A124_10 1 c124_10)) 0 rfl rfl rfl rfl (fun w => sz_spec sz_40 w) rfl (by rw [rT_len]; exact Nat.le_of_ble_eq_true rfl) (rT_set _ _ _ 10) rfl ?_
 refine sy_nil rfl ?_
 refine ny_blockN ?_
 refine ny_next ?_
 refine cy_region ?_
 refine sy_move rfl rfl rfl ?_
 refine sy_subi (z := 2) rfl rfl (by decide) (by decide) (by decide) rfl rfl ?_
 refine sy_assign rfl rfl rfl ?_
 refine sy_nil rfl ?_
 refine ny_again ?_
 refine cy_seq ?_
 refine cy_seq ?_
 refine cy_region ?_
 refine sy_move rfl rfl rfl ?_
 refine sy_cmp rfl rfl rfl rfl rfl ?_
 refine sy_setT (d := 100) rfl rfl rfl ?_
 refine sy_nil rfl ?_
 refine ny_next ?_
 refine cy_condT rfl ?_
 refine cy_skip ?_
 refine ny_next ?_
 refine cy_seq ?_
 refine cy_block ?_
 refine cy_seq ?_
 refine cy_region ?_
 refine sy_move rfl rfl rfl ?_
 refine sy_move rfl rfl rfl ?_
 refine sy_idxR (i := 2) (fc := fun s => [Value.string s]) (es := olds) els_37 rfl rfl hO rfl (by decide) rfl rfl (fun e105 b105 o105 he105 hA105 hc105 => ?_)
 obtain rfl := Option.some.inj (show some (olds[2]) = some e105 from he105)
 refine sy_ldh one_9 rfl (hc105 0 _ rfl) rfl rfl ?_
 refine sy_idxs (u := 92) Tryz.underlying9 rfl rfl (by decide) rfl rfl rfl ?_
 refine sy_assign rfl rfl rfl ?_
 refine sy_nil rfl ?_
 refine ny_next ?_
 refine cy_seq ?_
 refine cy_region ?_
 refine sy_move rfl rfl rfl ?_
 refine sy_move rfl rfl rfl ?_
 refine sy_addi (z := 3) rfl rfl (by decide) (by decide) (by decide) rfl rfl ?_
 refine sy_idxR (i := 3) (fc := fun s => [Value.string s]) (es := olds) els_37 rfl rfl hO rfl (by decide) rfl rfl (fun e111 b111 o111 he111 hA111 hc111 => ?_)
 obtain rfl := Option.some.inj (show some (olds[3]) = some e111 from he111)
 refine sy_ldh one_9 rfl (hc111 0 _ rfl) rfl rfl ?_
 refine sy_assign rfl rfl rfl ?_
 refine sy_nil rfl ?_
 refine ny_next ?_
 refine cy_seq ?_
 refine cy_seq ?_
 refine cy_region ?_
 refine sy_move rfl rfl rfl ?_
 refine sy_field fld_205_0 rfl rfl rfl ?_
 refine sy_idxA (i := ((92 : UInt8).toNat : Int)) arr_203 rfl rfl (by decide) (by decide) rfl rfl ?_
 refine sy_ldr (cs := rT (updC (fun _ => Value.slice none 0 0) 10 (.slice (some ⟨b128_10, 0, none⟩) 2 c128_10)) (.slice A124_10 1 c124_10)) (v := .slice none 0 0) 0 one_40 rfl rfl (rT_get (updC (fun _ => Value.slice none 0 0) 10 (.slice (some ⟨b128_10, 0, none⟩) 2 c128_10)) _ 92) rfl rfl ?_
 refine sy_eqsl (b := true) Tryz.underlying40 rfl rfl rfl rfl ?_
 refine sy_setT (d := 117) rfl rfl rfl ?_
 refine sy_nil rfl ?_
 refine ny_next ?_
 refine cy_condT rfl ?_
 refine cy_region ?_
 refine sy_field fld_205_1 rfl rfl rfl ?_
 refine sy_ldr (cs := rT (updC (fun _ => Value.slice none 0 0) 10 (.slice (some ⟨b128_10, 0, none⟩) 2 c128_10)) (.slice A124_10 1 c124_10)) (v := (.slice A124_10 1 c124_10)) 0 one_37 rfl rfl (rT_last _ _) rfl rfl ?_
 refine sy_move rfl rfl rfl ?_
 refine sy_buildSlice rfl (fun w => bsl_40_1_0 w) rfl rfl (fun b121 hb121 hM121 => ?_) (by simp only [List.mem_singleton]; rintro _ rfl; exact hb0)
 refine sy_byte1 (u := 92) 0 Tryz.underlying40 Tryz.underlying5 Tryz.underlying9 rfl rfl rfl rfl rfl ?_
 refine sy_buildSlice rfl (fun w => bsl_37_1_0 w) rfl rfl (fun b123 hb123 hM123 => ?_) (by simp only [List.mem_singleton]; rintro _ rfl; exact hb0)
 refine sy_append 3 0 row_37 (by decide) rfl rfl rfl rfl rfl rfl (by decide) (by decide) rfl rfl (fun v124 => ?_)
 refine sy_rowform 0 rfl (fun A124_92 c124_92 hv124 => ?_)
 subst hv124
 refine sy_field fld_205_1 rfl rfl rfl ?_
 refine sy_st (vs := [(.slice A124_92 2 c124_92)]) (cs := rT (updC (fun _ => Value.slice none 0 0) 10 (.slice (some ⟨b128_10, 0, none⟩) 2 c128_10)) (.slice A124_10 1 c124_10)) (cs' := rT (updC (fun _ => Value.slice none 0 0) 10 (.slice (some ⟨b128_10, 0, none⟩) 2 c128_10)) (.slice A124_92 2 c124_92)) 3 rfl rfl rfl rfl (fun w => sz_spec sz_37 w) rfl (by rw [rT_len]; exact Nat.le_of_ble_eq_true rfl) (rT_set2 _ _ _) rfl ?_
 refine sy_sel [0, 0, 2] rfl ?_
 refine sy_nil rfl ?_
 refine ny_next ?_
 refine cy_region ?_
 refine sy_move rfl rfl rfl ?_
 refine sy_move rfl rfl rfl ?_
 refine sy_strbytes Tryz.underlying9 Tryz.underlying40 Tryz.underlying5 rfl rfl rfl (fun b128_92 c128_92 h128_92 hle128_92 hr128_92 => ?_) (by simp only [List.mem_singleton]; rintro _ rfl; exact hb0)
 replace hO := hO.le hle128_92
 replace hr128_10 := hr128_10.le hle128_92
 refine sy_field fld_205_0 rfl rfl rfl ?_
 refine sy_idxA (i := ((92 : UInt8).toNat : Int)) arr_203 rfl rfl (by decide) (by decide) rfl rfl ?_
 refine sy_st (vs := [.slice (some ⟨b128_92, 0, none⟩) 2 c128_92]) (cs := rT (updC (fun _ => Value.slice none 0 0) 10 (.slice (some ⟨b128_10, 0, none⟩) 2 c128_10)) (.slice A124_92 2 c124_92)) (cs' := rT (updC (updC (fun _ => Value.slice none 0 0) 10 (.slice (some ⟨b128_10, 0, none⟩) 2 c128_10)) 92 (.slice (some ⟨b128_92, 0, none⟩) 2 c128_92)) (.slice A124_92 2 c124_92)) 0 rfl rfl rfl rfl (fun w => sz_spec sz_40 w) rfl (by rw [rT_len]; exact Nat.le_of_ble_eq_true rfl) (rT_set _ _ _ 92) rfl ?_
 refine sy_nil rfl ?_
 refine ny_blockN ?_
 refine ny_next ?_
 refine cy_region ?_
 refine sy_move rfl rfl rfl ?_
 refine sy_subi (z := 0) rfl rfl (by decide) (by decide) (by decide) rfl rfl ?_
 refine sy_assign rfl rfl rfl ?_
 refine sy_nil rfl ?_
 refine ny_again ?_
 refine cy_seq ?_
 refine cy_seq ?_
 refine cy_region ?_
 refine sy_move rfl rfl rfl ?_
 refine sy_cmp rfl rfl rfl rfl rfl ?_
 refine sy_setT (d := 100) rfl rfl rfl ?_
 refine sy_nil rfl ?_
 refine ny_next ?_
 refine cy_condT rfl ?_
 refine cy_skip ?_
 refine ny_next ?_
 refine cy_seq ?_
 refine cy_block ?_
 refine cy_seq ?_
 refine cy_region ?_
 refine sy_move rfl rfl rfl ?_
 refine sy_move rfl rfl rfl ?_
 refine sy_idxR (i := 0) (fc := fun s => [Value.string s]) (es := olds) els_37 rfl rfl hO rfl (by decide) rfl rfl (fun e105 b105 o105 he105 hA105 hc105 => ?_)
 obtain rfl := Option.some.inj (show some (olds[0]) = some e105 from he105)
 refine sy_ldh one_9 rfl (hc105 0 _ rfl) rfl rfl ?_
 refine sy_idxs (u := 39) Tryz.underlying9 rfl rfl (by decide) rfl rfl rfl ?_
 refine sy_assign rfl rfl rfl ?_
 refine sy_nil rfl ?_
 refine ny_next ?_
 refine cy_seq ?_
 refine cy_region ?_
 refine sy_move rfl rfl rfl ?_
 refine sy_move rfl rfl rfl ?_
 refine sy_addi (z := 1) rfl rfl (by decide) (by decide) (by decide) rfl rfl ?_
 refine sy_idxR (i := 1) (fc := fun s => [Value.string s]) (es := olds) els_37 rfl rfl hO rfl (by decide) rfl rfl (fun e111 b111 o111 he111 hA111 hc111 => ?_)
 obtain rfl := Option.some.inj (show some (olds[1]) = some e111 from he111)
 refine sy_ldh one_9 rfl (hc111 0 _ rfl) rfl rfl ?_
 refine sy_assign rfl rfl rfl ?_
 refine sy_nil rfl ?_
 refine ny_next ?_
 refine cy_seq ?_
 refine cy_seq ?_
 refine cy_region ?_
 refine sy_move rfl rfl rfl ?_
 refine sy_field fld_205_0 rfl rfl rfl ?_
 refine sy_idxA (i := ((39 : UInt8).toNat : Int)) arr_203 rfl rfl (by decide) (by decide) rfl rfl ?_
 refine sy_ldr (cs := rT (updC (updC (fun _ => Value.slice none 0 0) 10 (.slice (some ⟨b128_10, 0, none⟩) 2 c128_10)) 92 (.slice (some ⟨b128_92, 0, none⟩) 2 c128_92)) (.slice A124_92 2 c124_92)) (v := .slice none 0 0) 0 one_40 rfl rfl (rT_get (updC (updC (fun _ => Value.slice none 0 0) 10 (.slice (some ⟨b128_10, 0, none⟩) 2 c128_10)) 92 (.slice (some ⟨b128_92, 0, none⟩) 2 c128_92)) _ 39) rfl rfl ?_
 refine sy_eqsl (b := true) Tryz.underlying40 rfl rfl rfl rfl ?_
 refine sy_setT (d := 117) rfl rfl rfl ?_
 refine sy_nil rfl ?_
 refine ny_next ?_
 refine cy_condT rfl ?_
 refine cy_region ?_
 refine sy_field fld_205_1 rfl rfl rfl ?_
 refine sy_ldr (cs := rT (updC (updC (fun _ => Value.slice none 0 0) 10 (.slice (some ⟨b128_10, 0, none⟩) 2 c128_10)) 92 (.slice (some ⟨b128_92, 0, none⟩) 2 c128_92)) (.slice A124_92 2 c124_92)) (v := (.slice A124_92 2 c124_92)) 0 one_37 rfl rfl (rT_last _ _) rfl rfl ?_
 refine sy_move rfl rfl rfl ?_
 refine sy_buildSlice rfl (fun w => bsl_40_1_0 w) rfl rfl (fun b121 hb121 hM121 => ?_) (by simp only [List.mem_singleton]; rintro _ rfl; exact hb0)
 refine sy_byte1 (u := 39) 0 Tryz.underlying40 Tryz.underlying5 Tryz.underlying9 rfl rfl rfl rfl rfl ?_
 refine sy_buildSlice rfl (fun w => bsl_37_1_0 w) rfl rfl (fun b123 hb123 hM123 => ?_) (by simp only [List.mem_singleton]; rintro _ rfl; exact hb0)
 refine sy_append 3 0 row_37 (by decide) rfl rfl rfl rfl rfl rfl (by decide) (by decide) rfl rfl (fun v124 => ?_)
 refine sy_rowform 0 rfl (fun A124_39 c124_39 hv124 => ?_)
 subst hv124
 refine sy_field fld_205_1 rfl rfl rfl ?_
 refine sy_st (vs := [(.slice A124_39 3 c124_39)]) (cs := rT (updC (updC (fun _ => Value.slice none 0 0) 10 (.slice (some ⟨b128_10, 0, none⟩) 2 c128_10)) 92 (.slice (some ⟨b128_92, 0, none⟩) 2 c128_92)) (.slice A124_92 2 c124_92)) (cs' := rT (updC (updC (fun _ => Value.slice none 0 0) 10 (.slice (some ⟨b128_10, 0, none⟩) 2 c128_10)) 92 (.slice (some ⟨b128_92, 0, none⟩) 2 c128_92)) (.slice A124_39 3 c124_39)) 3 rfl rfl rfl rfl (fun w => sz_spec sz_37 w) rfl (by rw [rT_len]; exact Nat.le_of_ble_eq_true rfl) (rT_set2 _ _ _) rfl ?_
 refine sy_sel [0, 0, 2] rfl ?_
 refine sy_nil rfl ?_
 refine ny_next ?_
 refine cy_region ?_
 refine sy_move rfl rfl rfl ?_
 refine sy_move rfl rfl rfl ?_
 refine sy_strbytes Tryz.underlying9 Tryz.underlying40 Tryz.underlying5 rfl rfl rfl (fun b128_39 c128_39 h128_39 hle128_39 hr128_39 => ?_) (by simp only [List.mem_singleton]; rintro _ rfl; exact hb0)
 replace hO := hO.le hle128_39
 replace hr128_10 := hr128_10.le hle128_39
 replace hr128_92 := hr128_92.le hle128_39
 refine sy_field fld_205_0 rfl rfl rfl ?_
 refine sy_idxA (i := ((39 : UInt8).toNat : Int)) arr_203 rfl rfl (by decide) (by decide) rfl rfl ?_
 refine sy_st (vs := [.slice (some ⟨b128_39, 0, none⟩) 2 c128_39]) (cs := rT (updC (updC (fun _ => Value.slice none 0 0) 10 (.slice (some ⟨b128_10, 0, none⟩) 2 c128_10)) 92 (.slice (some ⟨b128_92, 0, none⟩) 2 c128_92)) (.slice A124_39 3 c124_39)) (cs' := rT (updC (updC (updC (fun _ => Value.slice none 0 0) 10 (.slice (some ⟨b128_10, 0, none⟩) 2 c128_10)) 92 (.slice (some ⟨b128_92, 0, none⟩) 2 c128_92)) 39 (.slice (some ⟨b128_39, 0, none⟩) 2 c128_39)) (.slice A124_39 3 c124_39)) 0 rfl rfl rfl rfl (fun w => sz_spec sz_40 w) rfl (by rw [rT_len]; exact Nat.le_of_ble_eq_true rfl) (rT_set _ _ _ 39) rfl ?_
 refine sy_nil rfl ?_
 refine ny_blockN ?_
 refine ny_next ?_
 refine cy_region ?_
 refine sy_move rfl rfl rfl ?_
 refine sy_subi (z := -2) rfl rfl (by decide) (by decide) (by decide) rfl rfl ?_
 refine sy_assign rfl rfl rfl ?_
 refine sy_nil rfl ?_
 refine ny_again ?_
 refine cy_seq ?_
 refine cy_seq ?_
 refine cy_region ?_
 refine sy_move rfl rfl rfl ?_
 refine sy_cmp rfl rfl rfl rfl rfl ?_
 refine sy_setF (d := 100) rfl rfl rfl ?_
 refine sy_nil rfl ?_
 refine ny_next ?_
 refine cy_condF rfl ?_
 refine cy_exit ?_
 refine ny_thenE ?_
 refine ny_thenE ?_
 refine ny_blockX ?_
 refine ny_next ?_
 refine cy_seq ?_
 refine cy_region ?_
 refine sy_iface Tryz.underlying206 rfl rfl rfl rfl ?_
 refine sy_assign rfl rfl rfl ?_
 refine sy_nil rfl ?_
 refine ny_next ?_
 refine cy_ret ?_
 refine ny_finR (res1 rfl rfl) (fun w hs => ?_)
 obtain ⟨A3, k3, h9, hv9, _, _, _, hle9, hcell9, _, hs9⟩ := frzRow 1 rfl (fun g hg hgm => by simp only [List.mem_singleton] at hgm; subst hgm; exact (List.pairwise_cons.1 (List.pairwise_cons.1 hs.dis).2).1 _ (List.mem_cons_self) _ hg rfl) hs
 injection hv9 with hv9a _ hv9b
 subst hv9a hv9b
 obtain ⟨h10, hle10, hb10, hs10⟩ := frz 0 rfl hM11 hs9
 refine ⟨b11, h10, _, rfl, ⟨rfl, _, _, _, _, (by rw [repl_form] at hb10; exact hb10), fun c => ?_, fun c hc => ?_, ?_⟩, hs10.toTurn⟩
 · unfold isSp
   by_cases h1 : c = 39
   · subst h1; rfl
   · by_cases h2 : c = 92
     · subst h2; rfl
     · by_cases h3 : c = 10
       · subst h3; rfl
       · simp [h1, h2, h3]
 · unfold isSp at hc
   simp only [Bool.or_eq_true, beq_iff_eq] at hc
   rcases hc with (rfl | rfl) | rfl
   · exact (hr128_10.le hle9).le hle10
   · exact (hr128_92.le hle9).le hle10
   · exact (hr128_39.le hle9).le hle10
 · exact (rows_row (cs := sps.map fun c => [Value.string ⟨#[c]⟩]) (by decide) (fun c hc => by obtain ⟨x, _, rfl⟩ := List.mem_map.1 hc; rfl) hcell9).le hle10
end Go.Proofs.YtanhhihechakhaaGreatDoor
set_option linter.unusedVariables false
set_option linter.unusedSimpArgs false
namespace Go.Proofs.YtanhhihechakhaaGreatDoor
open Go.RowKit Go.Proofs.YtanhhihechakhaaGreatDoor.E Go.Proofs.YtanhhihechakhaaGreatDoor.ReplP
set_option maxRecDepth 100000 in
theorem buildOnce_c (b : Nat) (h : Hp) (x2 : Value) (A : Option Addr) (cO : Nat) (hO : RowsAt h A 1 (olds.map fun s => [Value.string s])) : CXM Tryz.prog 109 [.pointer (some ⟨b, 0, none⟩)] h b (.cells [.int .u32 0, .int .i32 1, x2, .nilIface, .slice A 6 cO].toArray 165 (0, 0)) (fun _ : Nat => .tuple #[]) (fun x h' o' => o' = .cells [.int .u32 0, .int .i32 1, x2, .iface 206 (.pointer (some ⟨x, 0, none⟩)), .slice none 0 0].toArray 165 (0, 0) ∧ ReplT h' 205 x) := by
 refine enterXM Tryz.func109 rfl rfl rfl (fun w hb0 => ?_)
 refine cy_seq ?_
 refine cy_region ?_
 refine sy_move rfl rfl rfl ?_
 refine sy_move rfl rfl rfl ?_
 refine sy_callxm 0 call_125 rfl rfl (build_c b h x2 A cO hO) rfl rfl (fun x4 h4 o4 hx4 hle4 => ?_)
 obtain ⟨rfl, hR4⟩ := hx4
 refine sy_nilCheck rfl rfl rfl ?_
 refine sy_field fld_165_1 rfl rfl rfl ?_
 first | refine sy_stl 0 sz_163 rfl rfl rfl rfl rfl rfl rfl rfl ?_ | refine sy_stl 1 sz_163 rfl rfl rfl rfl rfl rfl rfl rfl ?_
 refine sy_nil rfl ?_
 refine ny_next ?_
 refine cy_region ?_
 refine sy_move rfl rfl rfl ?_
 refine sy_nilCheck rfl rfl rfl ?_
 refine sy_field fld_165_2 rfl rfl rfl ?_
 first | refine sy_stl 0 sz_37 rfl rfl rfl rfl rfl rfl rfl rfl ?_ | refine sy_stl 1 sz_37 rfl rfl rfl rfl rfl rfl rfl rfl ?_
 refine sy_nil rfl ?_
 exact ny_fin (res0 rfl) (fun w hs => ⟨x4, h4, _, rfl, ⟨rfl, hR4⟩, hs.toTurn⟩)
set_option maxRecDepth 100000 in
theorem doSlow_c (b : Nat) (h : Hp) (x2 : Value) (A : Option Addr) (cO : Nat) (hO : RowsAt h A 1 (olds.map fun s => [Value.string s])) : CXM Tryz.prog 124 [.pointer (some ⟨b, 0, none⟩), .func (.func 109) #[.pointer (some ⟨b, 0, none⟩)] #[]] h b (.cells [.int .u32 0, .int .i32 0, x2, .nilIface, .slice A 6 cO].toArray 165 (0, 0)) (fun _ : Nat => .tuple #[]) (fun x h' o' => o' = .cells [.int .u32 1, .int .i32 0, x2, .iface 206 (.pointer (some ⟨x, 0, none⟩)), .slice none 0 0].toArray 165 (0, 0) ∧ ReplT h' 205 x) := by
 refine enterXMD Tryz.func124 rfl rfl rfl (fun w hb0 => ?_)
 refine cy_seq ?_
 refine cy_region ?_
 refine sy_move rfl rfl rfl ?_
 refine sy_nilCheck rfl rfl rfl ?_
 refine sy_field fld_161_2 rfl rfl rfl ?_
 refine sy_callm 0 call_133 rfl rfl (lock_c b 165 h _ (.int .i32 0) x2 _ _) rfl rfl ?_
 refine sy_nil rfl ?_
 refine ny_next ?_
 refine cy_seq ?_
 refine cy_region ?_
 refine sy_move rfl rfl rfl ?_
 refine sy_nilCheck rfl rfl rfl ?_
 refine sy_field fld_161_2 rfl rfl rfl ?_
 refine sy_defer rfl rfl ?_
 refine sy_nil rfl ?_
 refine ny_next ?_
 refine cy_seq ?_
 refine cy_region ?_
 refine sy_move rfl rfl rfl ?_
 refine sy_nilCheck rfl rfl rfl ?_
 refine sy_field fld_161_1 rfl rfl rfl ?_
 refine sy_callr 0 rfl call_123 rfl rfl (bload_c b 0 0 _ (by simp [Hp.cell, Hp.upd])) rfl rfl ?_
 refine sy_not rfl rfl rfl ?_
 refine sy_setT (d := 15) rfl rfl rfl ?_
 refine sy_nil rfl ?_
 refine ny_next ?_
 refine cy_condT rfl ?_
 refine cy_seq ?_
 refine cy_region ?_
 refine sy_move rfl rfl rfl ?_
 refine sy_nilCheck rfl rfl rfl ?_
 refine sy_field fld_161_1 rfl rfl rfl ?_
 refine sy_defer rfl rfl ?_
 refine sy_nil rfl ?_
 refine ny_next ?_
 refine cy_region ?_
 refine sy_move rfl rfl rfl ?_
 refine sy_callbxm 0 call_109 rfl rfl rfl (buildOnce_c b h x2 A cO hO) rfl rfl (fun x20 h20 o20 hx20 hle20 => ?_)
 obtain ⟨rfl, hR20⟩ := hx20
 refine sy_nil rfl ?_
 refine ny_finD (lv_cons 0 call_135 rfl (store_d b 165 h20 (.int .u32 0) _ _ _ _ 0) (lv_cons 0 call_134 rfl (unlock_d b 165 h20 _ (.int .i32 0) _ _ _) (lv_nil (res0 rfl) (fun w hs => ⟨x20, h20, _, rfl, ⟨rfl, hR20⟩, hs.toTurn⟩))))
set_option maxRecDepth 100000 in
theorem do_c (b : Nat) (h : Hp) (x2 : Value) (A : Option Addr) (cO : Nat) (hO : RowsAt h A 1 (olds.map fun s => [Value.string s])) : CXM Tryz.prog 108 [.pointer (some ⟨b, 0, none⟩), .func (.func 109) #[.pointer (some ⟨b, 0, none⟩)] #[]] h b (.cells [.int .u32 0, .int .i32 0, x2, .nilIface, .slice A 6 cO].toArray 165 (0, 0)) (fun _ : Nat => .tuple #[]) (fun x h' o' => o' = .cells [.int .u32 1, .int .i32 0, x2, .iface 206 (.pointer (some ⟨x, 0, none⟩)), .slice none 0 0].toArray 165 (0, 0) ∧ ReplT h' 205 x) := by
 refine enterXM Tryz.func108 rfl rfl rfl (fun w hb0 => ?_)
 refine cy_seq ?_
 refine cy_region ?_
 refine sy_move rfl rfl rfl ?_
 refine sy_nilCheck rfl rfl rfl ?_
 refine sy_field fld_161_1 rfl rfl rfl ?_
 refine sy_callr 0 rfl call_123 rfl rfl (bload_c b 0 0 _ (by simp [Hp.cell, Hp.upd])) rfl rfl ?_
 refine sy_not rfl rfl rfl ?_
 refine sy_setT (d := 8) rfl rfl rfl ?_
 refine sy_nil rfl ?_
 refine ny_next ?_
 refine cy_condT rfl ?_
 refine cy_region ?_
 refine sy_move rfl rfl rfl ?_
 refine sy_move rfl rfl rfl ?_
 refine sy_callxm 0 call_124 rfl rfl (doSlow_c b h x2 A cO hO) rfl rfl (fun x11 h11 o11 hx11 hle11 => ?_)
 obtain ⟨rfl, hR11⟩ := hx11
 refine sy_nil rfl ?_
 exact ny_fin (res0 rfl) (fun w hs => ⟨x11, h11, _, rfl, ⟨rfl, hR11⟩, hs.toTurn⟩)
set_option maxRecDepth 100000 in
theorem newRepl_c (h : Hp) (A : Option Addr) (cO : Nat) (hO : RowsAt h A 1 (olds.map fun s => [Value.string s])) : CXN Tryz.prog 90 [.slice A 6 cO] h (fun (_ : Option Addr × Nat) b => .pointer (some ⟨b, 0, none⟩)) (fun x h' o' => o' = .cells [.int .u32 0, .int .i32 0, .int .u32 0, .nilIface, .slice x.1 6 x.2].toArray 165 (0, 0) ∧ RowsAt h' x.1 1 (olds.map fun s => [Value.string s])) := by
 refine enterXN Tryz.func90 rfl rfl rfl (fun w => ?_)
 refine cy_seq ?_
 refine cy_region ?_
 refine sy_assign rfl rfl rfl ?_
 refine sy_nil rfl ?_
 refine ny_next ?_
 refine cy_seq ?_
 refine cy_seq ?_
 refine cy_region ?_
 refine sy_move rfl rfl rfl ?_
 refine sy_len rfl (len_slice Tryz.underlying37 _ _ _) rfl rfl ?_
 refine sy_rem (z := 0) rfl rfl (by decide) (by decide) (by decide) (by decide) rfl rfl ?_
 refine sy_cmp rfl rfl rfl rfl rfl ?_
 refine sy_setF (d := 6) rfl rfl rfl ?_
 refine sy_nil rfl ?_
 refine ny_next ?_
 refine cy_condF rfl ?_
 refine cy_skip ?_
 refine ny_next ?_
 refine cy_seq ?_
 refine cy_nilRow 9 1 ?_
 refine cy_region ?_
 refine sy_move rfl rfl rfl ?_
 refine sy_appendh (news := (olds.map fun s => [Value.string s]).flatten) 0 row_37 (by decide) rfl rfl rfl (fun hA => by have := hO.none hA; simp [olds] at this) rfl (hO.cells (by decide) (fun c hc => by obtain ⟨x, _, rfl⟩ := List.mem_map.1 hc; rfl)) (fun u hu => by simp only [olds, List.map_cons, List.map_nil, List.flatten_cons, List.flatten_nil, List.append_nil, List.cons_append, List.nil_append, List.mem_cons, List.not_mem_nil, or_false] at hu; rcases hu with rfl | rfl | rfl | rfl | rfl | rfl <;> rfl) (by decide) (by decide) rfl rfl (fun v9 => ?_)
 refine sy_frzRow 0 rfl (fun _ _ => by simp) (fun A9 c9 h9 hv9 hlc9 hcm9 _ hle9 hcell9 => ?_)
 subst hv9
 have hr9 : RowsAt h9 A9 1 (olds.map fun s => [Value.string s]) := rows_row (by decide) (fun c hc => by obtain ⟨x, _, rfl⟩ := List.mem_map.1 hc; rfl) hcell9
 refine sy_build rfl (fun w => bld_165_2 w) rfl rfl ?_
 refine sy_box rfl rfl rfl rfl (fun b11 hb11 hM11 => ?_) (by simp)
 refine sy_assign rfl rfl rfl ?_
 refine sy_nil rfl ?_
 refine ny_next ?_
 refine cy_ret ?_
 exact ny_finR (res1 rfl rfl) (fun w hs => ⟨(A9, c9), b11, h9, _, rfl, ⟨rfl, hr9⟩, hs.toNew⟩)
end Go.Proofs.YtanhhihechakhaaGreatDoor
set_option linter.unusedVariables false
set_option linter.unusedSimpArgs false
namespace Go.Proofs.YtanhhihechakhaaGreatDoor.E
open Go.RowKit
theorem ext_run {P : Program} {F : Nat} {fn : Func} {e : Array Value → Sem Value} {vs : Array Value} {v : Value} {w w' : World} (hf : P.funcs[F]? = some fn) (hname : (fn.name == "runtime.NumGoroutine") = false) (hb : fn.body.isNone = true) (hn : Extern.findNext fn = none) (he : Extern.find fn = some e)
    (hr : (e vs).run P w = .ok v w') : (callFunc F vs).run P w = .ok (.value v) w' := by rw [run_callFunc_extern hf hname hb hn he, hr]; rfl
section
variable {m : Md} {P : Program} {ops : Array Oper} {Q : Exit → Act → World → Prop} {n : Nat} {D : List Deferred} {w0 : World} {M : List Nat} {h0 : Hp}
variable {f : Tab} {h : Hp} {H : List Res} {rest : List Oper} {o : Oper}
variable {d t s : Nat} {p : String} {af : Array Edge} {g : Option (Nat × Bool)}
theorem sy_idxU {x y : Operand} {b len : Nat} {u : UInt8} (hs : arrB P s len 1 = true) (hx : f.ev x = some (.pointer (some ⟨b, 0, none⟩))) (hy : f.ev y = some (.int .u8 (u.toNat : Int))) (h1 : u.toNat < len) (hw : gok ops f g = some true) (hn : Nat.blt d n = true)
    (k : Sy m P ops Q n D w0 M h0 rest ((d, .pointer (some ⟨b, u.toNat, none⟩)) :: f) h H) : Sy m P ops Q n D w0 M h0 (⟨some d, .indexAddr s x y, t, p, af, g⟩ :: rest) f h H :=
 sy_idxA hs hx hy (by omega) (by omega) hw hn (by
  have e : 0 + ((u.toNat : Nat) : Int).toNat * 1 = u.toNat := by rw [Int.toNat_natCast]; omega
  rw [e]
  exact k)
theorem sy_idxB {x y : Operand} {b len cap e k0 : Nat} {ik : IntKind} (hs : elsB P s e 1 = true) (hx : f.ev x = some (.slice (some ⟨b, 0, none⟩) len cap)) (hy : f.ev y = some (.int ik (k0 : Int))) (h1 : k0 < len) (hw : gok ops f g = some true) (hn : Nat.blt d n = true)
    (k : Sy m P ops Q n D w0 M h0 rest ((d, .pointer (some ⟨b, k0, none⟩)) :: f) h H) : Sy m P ops Q n D w0 M h0 (⟨some d, .indexAddr s x y, t, p, af, g⟩ :: rest) f h H :=
 sy_idxS hs hx hy (by omega) (by omega) hw hn (by
  have e : 0 + ((k0 : Nat) : Int).toNat * 1 = k0 := by rw [Int.toNat_natCast]; omega
  rw [e]
  exact k)
theorem sy_cutB {x y : Operand} {b l c e k0 : Nat} {ik : IntKind} (hs : elsB P s e 1 = true) (hx : f.ev x = some (.slice (some ⟨b, 0, none⟩) l c)) (hy : f.ev y = some (.int ik (k0 : Int))) (hk : k0 ≤ l) (hkc : k0 < c) (hw : gok ops f g = some true) (hn : Nat.blt d n = true)
    (k : Sy m P ops Q n D w0 M h0 rest ((d, .slice (some ⟨b, k0, none⟩) (l - k0) (c - k0)) :: f) h H) : Sy m P ops Q n D w0 M h0 (⟨some d, .slice s x (some y) none none, t, p, af, g⟩ :: rest) f h H :=
 sy_cutFrom hs hx hy hk hkc hw hn (by
  have e : 0 + k0 * 1 = k0 := by omega
  rw [e]
  exact k)
end
theorem Hp.blk0 {h : Hp} {g e : Nat} {fr : Nat × Nat} {cs : List Value} (hg : h g = some (.cells cs.toArray e fr)) (i : Nat) {v : Value} (hv : cs[i]? = some v) : h.cell ⟨g, i, none⟩ = some v := by simp [Hp.cell, hg, hv]
theorem ba_at {s : ByteArray} {i : Nat} {u : UInt8} (h : s.data.toList[i]? = some u) : s[((i : Nat) : Int).toNat]? = some u := by
 have hl := (List.getElem?_eq_some_iff.1 h).1
 have hi : i < s.size := by simpa using hl
 have e : ((i : Nat) : Int).toNat = i := Int.toNat_natCast i
 rw [e, getElem?_pos s i hi]
 have h2 := (List.getElem?_eq_some_iff.1 h).2
 rw [← h2]
 rfl
theorem ba_eta (s : ByteArray) : (⟨s.data.toList.toArray⟩ : ByteArray) = s := by
 obtain ⟨⟨l⟩⟩ := s
 rfl
end Go.Proofs.YtanhhihechakhaaGreatDoor.E
namespace Go.Proofs.YtanhhihechakhaaGreatDoor.ReplP
open Go.RowKit Go.Proofs.YtanhhihechakhaaGreatDoor.E
theorem sps_sp {i : Nat} {c : UInt8} (h : sps[i]? = some c) : isSp c = true := by
 have hm := List.mem_of_getElem? h
 simp only [sps, List.mem_cons, List.not_mem_nil, or_false] at hm
 rcases hm with rfl | rfl | rfl <;> rfl
def cntS (l : List UInt8) (i : Nat) : Nat := ((sps.take i).map fun c => l.count c).sum
theorem cntS_succ {l : List UInt8} {i : Nat} {c : UInt8} (h : sps[i]? = some c) : cntS l (i + 1) = cntS l i + l.count c := by
 unfold cntS
 rw [List.take_add_one, h, List.map_append, List.sum_append]
 simp
def anyS (l : List UInt8) (i : Nat) : Bool := (sps.take i).any fun c => decide (l.count c ≠ 0)
theorem anyS_succ {l : List UInt8} {i : Nat} {c : UInt8} (h : sps[i]? = some c) : anyS l (i + 1) = (anyS l i || decide (l.count c ≠ 0)) := by
 unfold anyS
 rw [List.take_add_one, h, List.any_append]
 simp
theorem count_len (l : List UInt8) (c : UInt8) : l.count c ≤ l.length := List.count_le_length
theorem cntS_le (l : List UInt8) (i : Nat) : cntS l i ≤ 3 * l.length := by
 have h1 := count_len l 10
 have h2 := count_len l 92
 have h3 := count_len l 39
 unfold cntS sps
 match i with
 | 0 => simp
 | 1 => simp; omega
 | 2 => simp; omega
 | k + 3 => simp; omega
theorem cntS_all (l : List UInt8) : l.length + cntS l 3 = (repl l).length := by
 rw [repl_count]
 simp [cntS, sps]
 omega
theorem anyS_all (l : List UInt8) : anyS l 3 = l.any isSp := by rw [any_count]; rfl
theorem repl_take_le (l : List UInt8) (i : Nat) : (repl (l.take i)).length ≤ 2 * l.length := by
 have h1 := repl_le (l.take i)
 have h2 : (l.take i).length ≤ l.length := by rw [List.length_take]; omega
 omega
theorem repl_room {l : List UInt8} {i : Nat} {c : UInt8} (h : l[i]? = some c) : (repl (l.take i)).length + (one c).length ≤ (repl l).length := by
 have h1 := repl_take_len l (i + 1)
 rw [repl_snoc h, List.length_append] at h1
 omega
end Go.Proofs.YtanhhihechakhaaGreatDoor.ReplP
